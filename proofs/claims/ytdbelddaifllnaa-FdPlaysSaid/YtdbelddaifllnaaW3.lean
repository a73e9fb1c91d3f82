import Derived.Test.YtdbelddaifllnaaW2
namespace Go.Proofs.Ytdbelddaifllnaa
open Go Go.RowKit

/-- a table's slots with what is open there: the block, its cells -/
abbrev Tbl := List (Option (Nat × Array Value))
def Tbl.ps (t : Tbl) : List (Option Nat) := t.map fun s => s.map (·.1)
def Tbl.ents (t : Tbl) : List Blk := t.filterMap fun s => s.map fun p => ⟨true, p.1, .cells p.2 35 (0, 0)⟩
def Tbl.vals (t : Tbl) : List (Option (Array Value)) := t.map fun s => s.map (·.2)
def WfOpen (cs : Array Value) : Prop := cs.size = 7 ∧ cs.toList.all (·.oneCell') = true

def CopyPost (S : List Nat) (w0 : World) (L : List Blk) (t : Tbl) (e : Ending) (w' : World) : Prop :=
  ∃ (nb : Nat) (t' : Tbl), e = .returned (.pointer (some ⟨nb, 0, none⟩)) ∧ w0.heap.size ≤ nb ∧ t'.vals = t.vals ∧
    HP S w0 w' (⟨true, nb, .cells (ptrs t'.ps) 27 (0, 0)⟩ :: (t'.ents ++ L))
def CopyRel (S : List Nat) (w0 : World) (L : List Blk) (nb : Nat) (t : Tbl) (c : Value) (w : World) : Prop :=
  ∃ (k : Nat) (t' : Tbl), k ≤ 16 ∧ c = .int .i64 (k : Nat) ∧ t'.vals = t.vals.take k ∧
    HP S w0 w (⟨true, nb, .cells (ptrs (t'.ps ++ List.replicate (16 - k) none)) 27 (0, 0)⟩ :: (t'.ents ++ L))

theorem HP.to_front {S : List Nat} {w0 w : World} {x y : Blk} {E L : List Blk} (H : HP S w0 w (x :: y :: (E ++ L))) : HP S w0 w (y :: (E ++ [x] ++ L)) := by
  refine H.perm (.trans (.swap y x _) (.cons y ?_))
  have := (List.perm_middle (l₁ := E) (l₂ := L) (a := x)).symm
  simpa using this

set_option maxRecDepth 100000 in
theorem copy_nil {S : List Nat} {w0 w : World} {L : List Blk} (H : HP S w0 w L) : Calls Try.prog 9 #[.pointer none] w fun e w' => ∃ nb, e = .returned (.pointer (some ⟨nb, 0, none⟩)) ∧ HP S w0 w' (⟨true, nb, .cells (ptrs (List.replicate 16 none)) 27 (0, 0)⟩ :: L) := by
  go_enter Try.func9, Try.ntmps9
  go_wp2_with (first
    | (refine hp_box_agg H rfl rfl rfl ?_; intro nb w hnb H)
    | (refine stop_box rfl rfl ?_) | (refine stop_load rfl rfl ?_))
  go_ret
  exact ⟨nb, rfl, H⟩

theorem Tbl.len_vals {t t' : Tbl} {k : Nat} (h : t'.vals = t.vals.take k) (hl : t.length = 16) (hk : k ≤ 16) : t'.length = k := by
  have := congrArg List.length h
  simp only [Tbl.vals, List.length_map, List.length_take, hl] at this
  omega
theorem CopyRel.step0 {S : List Nat} {w0 w : World} {L : List Blk} {nb k : Nat} {t t' : Tbl} (hk : k < 16) (hl : t.length = 16) (hx : t[k]? = some none) (hv : t'.vals = t.vals.take k)
    (H : HP S w0 w (⟨true, nb, .cells (ptrs (t'.ps ++ List.replicate (16 - k) none)) 27 (0, 0)⟩ :: (t'.ents ++ L))) : CopyRel S w0 L nb t (.int .i64 ((k : Int) + 1)) w := by
  refine ⟨k + 1, t' ++ [none], by omega, by go_num, ?_, ?_⟩
  · have h1 : t.vals[k]? = some none := by simp [Tbl.vals, hx]
    rw [List.take_add_one, h1, ← hv]; simp [Tbl.vals]
  · have e1 : Tbl.ps (t' ++ [none]) ++ List.replicate (16 - (k + 1)) none = t'.ps ++ List.replicate (16 - k) none := by
      have : 16 - k = (16 - (k + 1)) + 1 := by omega
      rw [this, List.replicate_succ]; simp [Tbl.ps]
    have e2 : Tbl.ents (t' ++ [none]) = t'.ents := by simp [Tbl.ents]
    rw [e1, e2]; exact H
theorem CopyRel.step1 {S : List Nat} {w0 w : World} {L : List Blk} {nb k x nx : Nat} {cs : Array Value} {t t' : Tbl} (hk : k < 16) (hl : t.length = 16) (hx : t[k]? = some (some (x, cs))) (hv : t'.vals = t.vals.take k)
    (H : HP S w0 w (⟨true, nx, .cells cs 35 (0, 0)⟩ :: ⟨true, nb, .cells ((ptrs (t'.ps ++ List.replicate (16 - k) none)).setIfInBounds k (pv (some nx))) 27 (0, 0)⟩ :: (t'.ents ++ L))) : CopyRel S w0 L nb t (.int .i64 ((k : Int) + 1)) w := by
  have hlen := Tbl.len_vals hv hl (by omega)
  refine ⟨k + 1, t' ++ [Option.some (nx, cs)], by omega, by go_num, ?_, ?_⟩
  · have h1 : t.vals[k]? = Option.some (Option.some cs) := by simp [Tbl.vals, hx]
    rw [List.take_add_one, h1, ← hv]; simp [Tbl.vals]
  · have e1 : Tbl.ps (t' ++ [Option.some (nx, cs)]) ++ List.replicate (16 - (k + 1)) none = (t'.ps ++ List.replicate (16 - k) none).set k (Option.some nx) := by
      have h2 : 16 - k = (16 - (k + 1)) + 1 := by omega
      have h3 : t'.ps.length = k := by simp [Tbl.ps, hlen]
      rw [h2, List.replicate_succ, List.set_append, if_neg (by omega), h3, Nat.sub_self, List.set_cons_zero]; simp [Tbl.ps]
    have e2 : Tbl.ents (t' ++ [Option.some (nx, cs)]) = t'.ents ++ [⟨true, nx, .cells cs 35 (0, 0)⟩] := by simp [Tbl.ents]
    rw [ptrs_set] at H
    rw [e1, e2]; exact H.to_front

set_option maxRecDepth 100000 in
set_option maxHeartbeats 1000000 in
theorem copy_some {S : List Nat} {w0 w : World} {L : List Blk} (H : HP S w0 w L) {i0 b T : Nat} {q : Bool} {fr : Nat × Nat} {t : Tbl} (hlen : t.length = 16)
    (ht : L[i0]? = some ⟨q, b, .cells (ptrs t.ps) T fr⟩) (hent : ∀ (k x : Nat) (cs : Array Value), t[k]? = some (some (x, cs)) → WfOpen cs ∧ ∃ (i : Nat) (q : Bool) (T : Nat) (fr : Nat × Nat), L[i]? = some ⟨q, x, .cells cs T fr⟩) :
    Calls Try.prog 9 #[.pointer (some ⟨b, 0, none⟩)] w (CopyPost S w0 L t) := by
  have hsz' : Hid ((ptrs t.ps).size = 16) := by rw [ptrs_size, Tbl.ps, List.length_map]; exact hlen
  have H0 := H
  go_enter Try.func9, Try.ntmps9
  go_wp2_with (first
    | (refine hp_box_agg H rfl rfl rfl ?_; intro nb w hnb H)
    | (refine hp_load_all H (i0 + 1) rfl rfl rfl ht (by kernel_rfl) (by kernel_rfl) hsz'.out (by kernel_rfl) ?_)
    | (refine stop_box rfl rfl ?_) | (refine stop_load rfl rfl ?_))
  go_loopw [15] (fun c w => CopyRel S w0 L nb t c w) (fun c _ => 16 - (intOf c).toNat)
  case atStart => exact ⟨0, [], by omega, rfl, rfl, H⟩
  case round =>
    obtain ⟨k, t', hk, rfl, hv, H⟩ := hrel
    by_cases hlt : k < 16
    · have hix := fun w => run_index_ptr16 w (ptrs t.ps) k hlt hsz'.out
      obtain ⟨x, hx⟩ : ∃ x, t[k]? = some x := ⟨_, List.getElem?_eq_getElem (by omega)⟩
      have hxp : t.ps[k]? = some (x.map (·.1)) := by simp [Tbl.ps, hx]
      rw [ptrs_get hxp] at hix
      cases x with
      | none =>
        simp only [pv, Option.map_none] at hix
        go_wp2
        go_roundw
        case rel => exact CopyRel.step0 hlt hlen hx hv H
        case measure => simp [intOf]; omega
      | some x =>
        obtain ⟨x, cs⟩ := x
        obtain ⟨hwf, j, q', T', fr', hj⟩ := hent k x cs hx
        have hwf' := hide hwf
        have hsz2 := hide (ptrs_size (t'.ps ++ List.replicate (16 - k) none))
        have hsz3 : Hid ((t'.ps ++ List.replicate (16 - k) none).length = 16) := by
          have := Tbl.len_vals hv hlen (by omega)
          show _ = _
          simp [Tbl.ps, this]; omega
        have hj' : ∀ y : Blk, (y :: (t'.ents ++ L))[1 + t'.ents.length + j]? = some ⟨q', x, .cells cs T' fr'⟩ := by
          intro y
          have : 1 + t'.ents.length + j = (t'.ents.length + j) + 1 := by omega
          rw [this, List.getElem?_cons_succ, List.getElem?_append_right (by omega)]
          simpa using hj
        clear hwf
        simp only [pv, Option.map_some] at hix
        go_wp2_with (first
          | (refine hp_load_all H (1 + t'.ents.length + j) rfl rfl rfl (hj' _) (by kernel_rfl) (by kernel_rfl) hwf'.out.1 (by kernel_rfl) ?_)
          | (refine hp_alloc_agg _ _ H rfl rfl Try.zeroValue35 ?_; intro nx w hnx H)
          | (refine hp_store_all H 0 rfl rfl rfl rfl rfl (by kernel_rfl) rfl hwf'.out.1 hwf'.out.2 ?_; intro w H)
          | (refine hp_store_one H 1 rfl rfl rfl rfl rfl rfl rfl (by kernel_rfl) (by rw [hsz2.out, hsz3.out]; exact hlt) ?_; intro w H)
          | (refine stop_box rfl rfl ?_) | (refine stop_load rfl rfl ?_) | (refine stop_store rfl rfl ?_))
        go_roundw
        case rel => exact CopyRel.step1 hlt hlen hx hv H
        case measure => simp [intOf]; omega
    · obtain rfl : k = 16 := by omega
      go_wp2
      go_ret
      refine ⟨nb, t', rfl, hnb, ?_, ?_⟩
      · rw [hv, List.take_of_length_le (by simp [Tbl.vals, hlen])]
      · simpa using H
end Go.Proofs.Ytdbelddaifllnaa
