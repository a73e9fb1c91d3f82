/- sync.Once in one goroutine: the lock, its letting go, the word 'done'. (After the kit's worked proof of a Once.) -/
import Derived.Test.YtlfoiemjjalnlaaGl8
import Derived.Test.YtlfoiemjjalnlaaTys
import Derived.Tactics
import Derived.Tactics2
import Derived.Defers
import Derived.Laws.Pointers
import Derived.Laws.LoneSync
import Derived.Laws.NewBlocks
import Derived.RegionTactic
import Derived.RegionCalls
import Derived.ChangeAlike
namespace Go.Proofs.Ytlfoiemjjalnlaa
open Go Go.RowKit
theorem disable (w : World) : (callFunc 59 #[]).run Try.prog w = .ok (.value (.tuple #[])) w := run_call_mark0 Try.func59 (by kernel_rfl) (by kernel_rfl) (by kernel_rfl) .disable (by kernel_rfl) w
theorem enable (w : World) : (callFunc 61 #[]).run Try.prog w = .ok (.value (.tuple #[])) w := run_call_mark0 Try.func61 (by kernel_rfl) (by kernel_rfl) (by kernel_rfl) .enable (by kernel_rfl) w
theorem acquire (a : Addr) (w : World) : (callFunc 62 #[.pointer (some a)]).run Try.prog w = .ok (.value (.tuple #[])) w := run_call_marked Try.func62 (by kernel_rfl) (by kernel_rfl) (by kernel_rfl) .acquire (by kernel_rfl) a w
theorem releaseMerge (a : Addr) (w : World) : (callFunc 64 #[.pointer (some a)]).run Try.prog w = .ok (.value (.tuple #[])) w := run_call_marked Try.func64 (by kernel_rfl) (by kernel_rfl) (by kernel_rfl) .releaseMerge (by kernel_rfl) a w
set_option maxRecDepth 100000 in
theorem store_deferred (a : Addr) (x : Value) (u : FrameMode) (w : World) (hc : w.cell? a = some x) (hz : w.frozen? a = false) :
    CallsD Try.prog 48 #[.pointer (some a), .bool true] u w fun e u' w' => u' = u ∧ (e = .returned (.tuple #[]) ∧ w' = w.drew.setCell a (.int .u32 1)) := by
  have hc' : w.drew.cell? a = some x := by go_simp
  have hz' : w.drew.frozen? a = false := by go_simp
  have hst := run_call_store (P := Try.prog) Try.func56 (by kernel_rfl) (by kernel_rfl) (by kernel_rfl) (by kernel_rfl) (k := .u32) (y := 1) hc' hz'
  go_enter_d Try.func48, Try.ntmps48
  go_wp2
  go_region_calls
  all_goals (go_end0; exact ⟨rfl, rfl⟩)
set_option maxRecDepth 100000 in
theorem unlock_deferred (a : Addr) (u : FrameMode) (w : World) (hc : w.cell? a = some (.int .i32 1)) (hz : w.frozen? a = false) :
    CallsD Try.prog 47 #[.pointer (some a)] u w fun e u' w' => u' = u ∧ (e = .returned (.tuple #[]) ∧ w' = w.setCell a (.int .i32 0)) := by
  have hd := disable
  have he := enable
  have hr := releaseMerge
  have hadd := run_call_add (P := Try.prog) Try.func65 (by kernel_rfl) (by kernel_rfl) (by kernel_rfl) .i32 (by kernel_rfl) (y := -1) (s := 0) hc hz (by simp [go_sem]; rfl)
  have hcv := run_convert_to_unsafe (P := Try.prog) (src := 127) (dst := 131) Try.underlying127 Try.underlying131 (by kernel_rfl) hc
  go_enter_d Try.func47, Try.ntmps47
  go_wp2
  go_end0
  go_wp2
  go_end0
  exact ⟨rfl, rfl⟩
set_option maxRecDepth 100000 in
theorem lock_free (a : Addr) (w : World) (hc : w.cell? a = some (.int .i32 0)) (hz : w.frozen? a = false) :
    Calls Try.prog 46 #[.pointer (some a)] w fun e w' => e = .returned (.tuple #[]) ∧ w' = w.setCell a (.int .i32 1) := by
  have hd := disable
  have he := enable
  have ha := acquire
  have hcas := run_call_cas_hit (P := Try.prog) Try.func60 (by kernel_rfl) (by kernel_rfl) (by kernel_rfl) .i32 (by kernel_rfl) (y := 1) hc hz
  have hc' : (w.setCell a (.int .i32 1)).cell? a = some (.int .i32 1) := World.cell?_setCell_same w a _ hc
  have hcv := run_convert_to_unsafe (P := Try.prog) (src := 127) (dst := 131) Try.underlying127 Try.underlying131 (by kernel_rfl) hc'
  go_enter Try.func46, Try.ntmps46
  go_wp2
  first | go_end0 | (simp only [Exit.inBlock, Exit.then]; refine bodyPost_ret (results_none rfl _ _ _) rfl ?_) | refine bodyPost_ret (results_none rfl _ _ _) rfl ?_
  go_wp2
  go_end0
  exact ⟨rfl, rfl⟩
theorem HP.setc {S : List Nat} {w0 w : World} {L : List Blk} {b off : Nat} {cs : List Value} {T : TypeId} (H : HP S w0 w (⟨true, b, .cells cs.toArray T (0, 0)⟩ :: L)) (v : Value) : HP S w0 (w.setCell ⟨b, off, none⟩ v) (⟨true, b, .cells (cs.set off v).toArray T (0, 0)⟩ :: L) := by
  have := H.turn 0 rfl (w.setCell ⟨b, off, none⟩ v) (.cells (cs.toArray.setIfInBounds off v) T (0, 0)) rfl rfl rfl (by simp)
    (by rw [heap_setCell_same w b off _ T _ (H.at_ 0 rfl)]) (fun q hq => heap_setCell_other w _ q _ hq)
  simpa using this
theorem HP.cellc {S : List Nat} {w0 w : World} {L : List Blk} {b off : Nat} {cs : List Value} {T : TypeId} {v : Value} (H : HP S w0 w (⟨true, b, .cells cs.toArray T (0, 0)⟩ :: L)) (hv : cs[off]? = some v) : w.cell? ⟨b, off, none⟩ = some v := by
  rw [cell_at H 0 rfl]; simpa using hv
theorem HP.frz {S : List Nat} {w0 w : World} {L : List Blk} {b off : Nat} {cs : List Value} {T : TypeId} (H : HP S w0 w (⟨true, b, .cells cs.toArray T (0, 0)⟩ :: L)) : w.frozen? ⟨b, off, none⟩ = false := by
  simp [frozen_at H 0 rfl]
end Go.Proofs.Ytlfoiemjjalnlaa
