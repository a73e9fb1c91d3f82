/- sync.Once's Do, in one goroutine: the first time it calls its function, whose contract is given; later not. -/
import Derived.Test.YtlfoiemjjalnlaaOnce1
namespace Go.Proofs.Ytlfoiemjjalnlaa
open Go Go.RowKit
/-- what the function that is called once leaves of the block that holds the Once: its word and its lock as they were -/
def OnceR (T : TypeId) (b off : Nat) (Q : List Value → List Blk → Prop) (v : Value) (L' : List Blk) : Prop :=
  v = .tuple #[] ∧ ∃ cs L2, Q cs L2 ∧ cs[off]? = some (.int .u32 0) ∧ cs[off + 1]? = some (.int .i32 1) ∧ ⟨true, b, .cells cs.toArray T (0, 0)⟩ :: L2 = L'
def OnceD (T : TypeId) (b off : Nat) (Q : List Value → List Blk → Prop) (v : Value) (L' : List Blk) : Prop :=
  v = .tuple #[] ∧ ∃ cs L2, Q cs L2 ∧ ⟨true, b, .cells ((cs.set off (.int .u32 1)).set (off + 1) (.int .i32 0)).toArray T (0, 0)⟩ :: L2 = L'
set_option maxRecDepth 100000 in
set_option maxHeartbeats 1600000 in
theorem slow_c {S w0 L} {T : TypeId} {b off : Nat} {cs : List Value} {Q : List Value → List Blk → Prop} {fv : Value} (h0 : cs[off]? = some (.int .u32 0)) (h1 : cs[off + 1]? = some (.int .i32 0))
    (hf : Fn Try.prog 27 #[fv] S w0 (⟨true, b, .cells (cs.set (off + 1) (.int .i32 1)).toArray T (0, 0)⟩ :: L) (OnceR T b off Q)) :
    Fn Try.prog 32 #[.pointer (some ⟨b, off, none⟩), .func (.func 27) #[fv] #[]] S w0 (⟨true, b, .cells cs.toArray T (0, 0)⟩ :: L) (OnceD T b off Q) := .mk fun w H => by
  have a0 := H.cellc h0
  have a1 := H.cellc h1
  have f0 : w.frozen? ⟨b, off, none⟩ = false := H.frz
  have f1 : w.frozen? ⟨b, off + 1, none⟩ = false := H.frz
  have hl := run_call_load (P := Try.prog) Try.func45 (by kernel_rfl) (by kernel_rfl) (by kernel_rfl) .u32 (by kernel_rfl) (w := w.setCell ⟨b, off + 1, none⟩ (.int .i32 1)) (a := ⟨b, off, none⟩) (x := 0) ((World.cell?_setCell_other _ ⟨b, off + 1, none⟩ ⟨b, off, none⟩ _ (by simp)).trans a0)
  have hnot : ∀ (x : Bool) (w : World), (Op.unary .not (.bool x)).run Try.prog w = .ok (.bool (!x)) w := fun _ _ => rfl
  have H1 := H.setc (off := off + 1) (.int .i32 1)
  have hcall := hf.out _ H1
  go_enter_defers Try.func32, Try.ntmps32
  have H2c : ∀ (e : Ending) (w' : World), (∃ v L', e = .returned v ∧ OnceR T b off Q v L' ∧ HP S w0 w' L') → ∃ cs' L2, e = .returned (.tuple #[]) ∧ Q cs' L2 ∧ cs'[off]? = some (.int .u32 0) ∧ cs'[off + 1]? = some (.int .i32 1) ∧ HP S w0 w' (⟨true, b, .cells cs'.toArray T (0, 0)⟩ :: L2) := by
    rintro e w' ⟨_, _, rfl, ⟨rfl, cs', L2, hQ, hc0, hc1, rfl⟩, H2⟩
    exact ⟨cs', L2, rfl, hQ, hc0, hc1, H2⟩
  have hcall2 := hcall.mono H2c
  clear hcall H2c hf H1
  go_wp2_with (first | (go_at_call 46; refine (lock_free ⟨b, off + 1, none⟩ _ (by go_simp) (by go_simp)).mono ?_; rintro e w' ⟨rfl, rfl⟩) | (go_at_call 27; refine hcall2.mono ?_; rintro e w' ⟨cs', L2, rfl, hQ, hc0, hc1, H2⟩) | (go_at_call 31; go_in))
  refine leaves_cons (f := 48) (args := #[.pointer (some ⟨b, off, none⟩), .bool true]) (by simp) (by simp [go_sem]) ?_
  refine (store_deferred ⟨b, off, none⟩ (.int .u32 0) .returning _ (H2.cellc hc0) H2.frz).mono ?_
  rintro e u' w'' ⟨rfl, rfl, rfl⟩
  have H3 := (H2.drew).setc (off := off) (.int .u32 1)
  have hc1' : (cs'.set off (.int .u32 1))[off + 1]? = some (.int .i32 1) := by rw [List.getElem?_set_ne (by omega)]; exact hc1
  refine leaves_cons (f := 47) (args := #[.pointer (some ⟨b, off + 1, none⟩)]) (by simp [settle]) (by simp [go_sem]) ?_
  refine (unlock_deferred ⟨b, off + 1, none⟩ _ _ (H3.cellc hc1') H3.frz).mono ?_
  rintro e u' w'' ⟨rfl, rfl, rfl⟩
  have H4 := H3.setc (off := off + 1) (.int .i32 0)
  show Leaves _ _ _ _ [] .returning _
  exact ⟨.tuple #[], results_none rfl _ _ _, _, _, rfl, ⟨rfl, cs', L2, hQ, rfl⟩, H4⟩
set_option maxRecDepth 100000 in
theorem do_first {S w0 L} {T : TypeId} {b off : Nat} {cs : List Value} {Q : List Value → List Blk → Prop} {fv : Value} (h0 : cs[off]? = some (.int .u32 0)) (h1 : cs[off + 1]? = some (.int .i32 0))
    (hf : Fn Try.prog 27 #[fv] S w0 (⟨true, b, .cells (cs.set (off + 1) (.int .i32 1)).toArray T (0, 0)⟩ :: L) (OnceR T b off Q)) :
    Fn Try.prog 26 #[.pointer (some ⟨b, off, none⟩), .func (.func 27) #[fv] #[]] S w0 (⟨true, b, .cells cs.toArray T (0, 0)⟩ :: L) (OnceD T b off Q) := .mk fun w H => by
  have hl := run_call_load (P := Try.prog) Try.func45 (by kernel_rfl) (by kernel_rfl) (by kernel_rfl) .u32 (by kernel_rfl) (H.cellc h0)
  have hnot : ∀ (x : Bool) (w : World), (Op.unary .not (.bool x)).run Try.prog w = .ok (.bool (!x)) w := fun _ _ => rfl
  have hs := (slow_c h0 h1 hf).out w H
  clear hf
  go_enter Try.func26, Try.ntmps26
  go_wp2_with (first | (go_at_call 32; refine hs.mono ?_; rintro e w' ⟨v, L', rfl, hD, H2⟩) | (go_at_call 31; go_in))
  go_end0
  obtain ⟨rfl, hD⟩ := hD
  exact ⟨_, _, rfl, ⟨rfl, hD⟩, H2⟩
set_option maxRecDepth 100000 in
theorem do_done {S w0 L} {T : TypeId} {b off : Nat} {cs : List Value} {fv : Value} (h0 : cs[off]? = some (.int .u32 1)) :
    Fn Try.prog 26 #[.pointer (some ⟨b, off, none⟩), fv] S w0 (⟨true, b, .cells cs.toArray T (0, 0)⟩ :: L) fun v L' => v = .tuple #[] ∧ ⟨true, b, .cells cs.toArray T (0, 0)⟩ :: L = L' := .mk fun w H => by
  have hl := run_call_load (P := Try.prog) Try.func45 (by kernel_rfl) (by kernel_rfl) (by kernel_rfl) .u32 (by kernel_rfl) (H.cellc h0)
  have hnot : ∀ (x : Bool) (w : World), (Op.unary .not (.bool x)).run Try.prog w = .ok (.bool (!x)) w := fun _ _ => rfl
  go_enter Try.func26, Try.ntmps26
  go_wp2
  go_end0
  exact ⟨_, _, rfl, ⟨rfl, rfl⟩, H⟩
end Go.Proofs.Ytlfoiemjjalnlaa
