/- No run takes more steps than Longest tells. Plain laws. -/
import Derived.Test.YtcimcihhpkedfaaMSim
import Derived.Test.YtcimcihhpkedfaaLong1
namespace Go.Proofs.Ytcimcihhpkedfaa
open Go Go.RowKit
theorem updL_cons (w : Nat) (ws : List Nat) (k : Nat) (st : List Int) : updL (w :: ws) k st = updL ws k (st.set k (max (st.getD k 0) (st.getD w 0))) := rfl
theorem getD_set_ne (st : List Int) {k x : Nat} (v : Int) (h : x ≠ k) : (st.set k v).getD x 0 = st.getD x 0 := by
  simp only [List.getD_eq_getElem?_getD, List.getElem?_set, if_neg (Ne.symm h)]
theorem getD_set_eq (st : List Int) {k : Nat} (v : Int) (h : k < st.length) : (st.set k v).getD k 0 = v := by
  simp [List.getD_eq_getElem?_getD, List.getElem?_set, h]
theorem updL_ne (ws : List Nat) (k : Nat) {x : Nat} (h : x ≠ k) (st : List Int) : (updL ws k st).getD x 0 = st.getD x 0 := by
  induction ws generalizing st with
  | nil => rfl
  | cons w ws ih => rw [updL_cons, ih, getD_set_ne _ _ h]
theorem updL_ge (ws : List Nat) (k : Nat) (hw : ∀ x ∈ ws, x ≠ k) (st : List Int) (hk : k < st.length) :
    st.getD k 0 ≤ (updL ws k st).getD k 0 ∧ ∀ x ∈ ws, st.getD x 0 ≤ (updL ws k st).getD k 0 := by
  induction ws generalizing st with
  | nil => exact ⟨Int.le_refl _, fun x h => by simp at h⟩
  | cons w ws ih =>
    have h1 := ih (fun x hx => hw x (List.mem_cons_of_mem _ hx)) (st.set k (max (st.getD k 0) (st.getD w 0))) (by simpa using hk)
    rw [← updL_cons, getD_set_eq _ _ hk] at h1
    refine ⟨by omega, ?_⟩
    intro x hx
    rcases List.mem_cons.1 hx with rfl | hx
    · omega
    · have h2 := h1.2 x hx
      rw [getD_set_ne _ _ (hw x (List.mem_cons_of_mem _ hx))] at h2
      exact h2
structure LgT (l : List Ins) (j : Nat) (st : List Int) : Prop where
  len : st.length = l.length
  nn : ∀ x, 0 ≤ st.getD x 0
  ge : ∀ (k : Nat) (h : k < l.length), j ≤ k → 1 ≤ st.getD k 0 ∧ ∀ x ∈ ways l[k] k, st.getD x 0 + 1 ≤ st.getD k 0
theorem lgt_step {l : List Ins} (hw : ∀ (k : Nat) (h : k < l.length), ∀ x ∈ ways l[k] k, k < x ∧ x < l.length) {j : Nat} {st : List Int} (hj : j < l.length) (h : LgT l (j + 1) st) : LgT l j (stepL (l.getD j ⟨0, 0, 0, 0⟩) j st) := by
  have hd : l.getD j ⟨0, 0, 0, 0⟩ = l[j] := getD_lt hj
  rw [hd]
  have hne : ∀ x ∈ ways l[j] j, x ≠ j := fun x hx => by have := hw j hj x hx; omega
  have hst := h.len
  have hul := updL_len (ways l[j] j) j st
  have hge := updL_ge (ways l[j] j) j hne st (by omega)
  have hn := h.nn j
  have hself : (stepL l[j] j st).getD j 0 = (updL (ways l[j] j) j st).getD j 0 + 1 := getD_set_eq _ _ (by omega)
  have hoth : ∀ x, x ≠ j → (stepL l[j] j st).getD x 0 = st.getD x 0 := fun x hx => by
    show ((updL (ways l[j] j) j st).set j _).getD x 0 = _
    rw [getD_set_ne _ _ hx, updL_ne _ _ hx]
  constructor
  · show ((updL (ways l[j] j) j st).set j _).length = _
    rw [List.length_set, hul, hst]
  · intro x
    by_cases hx : x = j
    · subst hx; rw [hself]; omega
    · rw [hoth x hx]; exact h.nn x
  · intro k hk hjk
    by_cases hkj : k = j
    · subst hkj
      rw [hself]
      refine ⟨by omega, ?_⟩
      intro x hx
      have h1 := hge.2 x hx
      rw [hoth x (hne x hx)]
      omega
    · have h2 := h.ge k hk (by omega)
      rw [hoth k hkj]
      refine ⟨h2.1, ?_⟩
      intro x hx
      have h3 := hw k hk x hx
      rw [hoth x (by omega)]
      exact h2.2 x hx
theorem lgt_go {l : List Ins} (hw : ∀ (k : Nat) (h : k < l.length), ∀ x ∈ ways l[k] k, k < x ∧ x < l.length) (j : Nat) (st : List Int) (hj : j ≤ l.length) (h : LgT l j st) : LgT l 0 (longGo l j st) := by
  induction j generalizing st with
  | zero => exact h
  | succ j ih => rw [longGo]; exact ih _ (by omega) (lgt_step hw (by omega) h)
theorem lgt_all {l : List Ins} (hw : ∀ (k : Nat) (h : k < l.length), ∀ x ∈ ways l[k] k, k < x ∧ x < l.length) : LgT l 0 (longGo l l.length (List.replicate l.length 0)) := by
  refine lgt_go hw _ _ (Nat.le_refl _) ⟨by simp, ?_, fun k h1 h2 => by omega⟩
  intro x
  rw [List.getD_eq_getElem?_getD, List.getElem?_replicate]
  split <;> simp
theorem Chn.le {l : List Ins} {r : Rec} {st : List Int} (h : LgT l 0 st) : ∀ (xs : List (Nat × Mch)) (k : Nat), Chn l r k xs → ((xs.length : Nat) : Int) ≤ st.getD k 0 := by
  intro xs
  induction xs with
  | nil => intro k c; exact absurd c id
  | cons q t ih =>
    rintro k ⟨h1, h2, h3, h4⟩
    have hg := h.ge k h2 (Nat.zero_le _)
    rcases h4 with ⟨rfl, _, _⟩ | ⟨k2, h5, h6⟩
    · simp only [List.length_cons, List.length_nil]; omega
    · rw [getD_lt h2] at h5
      have h7 := hg.2 k2 h5
      have h8 := ih k2 h6
      rw [List.length_cons]
      omega
theorem run_longest {l : List Ins} (fl : Flt l) (r : Rec) : (((runF l r).2 : Nat) : Int) ≤ longest l := by
  rw [trF_len]
  exact Chn.le (lgt_all fl.wd) _ 0 (trF_ok fl r)
end Go.Proofs.Ytcimcihhpkedfaa
