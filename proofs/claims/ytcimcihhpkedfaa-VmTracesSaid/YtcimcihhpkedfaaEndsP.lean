/- CheckEnds, the plain law: a Ret more behind, or a pair ahead; a cut. -/
import Derived.Test.YtcimcihhpkedfaaLong1
namespace Go.Proofs.Ytcimcihhpkedfaa
open Go Go.RowKit
theorem one_more {i : Ins} {a m m' : Int} (h : one i a m = 0) (hm : m ≤ m') : one i a m' = 0 := by
  unfold one at h ⊢
  dsimp only at h ⊢
  split at h
  · omega
  rename_i k1
  split at h
  · omega
  rename_i k2
  split at h
  · omega
  rename_i k3
  rw [if_neg k1, if_neg (fun ⟨e, f⟩ => k2 ⟨e, by omega⟩), if_neg (fun ⟨e, f, g⟩ => k3 ⟨e, f, by omega⟩)]
  exact h
theorem one_shift (i : Ins) (a m : Int) : one i (a + 2) (m + 2) = one i a m := by
  unfold one
  have : m + 2 - (a + 2) - 1 = m - a - 1 := by omega
  dsimp only
  rw [this]
theorem firstBad_app {n : Nat} {l r : List Ins} {at_ : Nat} (h : firstBad n l at_ = none) : firstBad n (l ++ r) at_ = firstBad n r (at_ + l.length) := by
  induction l generalizing at_ with
  | nil => rfl
  | cons i l ih =>
    rw [firstBad_cons] at h
    split at h
    · cases h
    · rename_i h1
      rw [List.cons_append, firstBad_cons, if_neg h1, ih h, List.length_cons]
      congr 1; omega
theorem firstBad_more {n n' : Nat} {l : List Ins} {at_ : Nat} (h : firstBad n l at_ = none) (hn : n ≤ n') : firstBad n' l at_ = none := by
  induction l generalizing at_ with
  | nil => rfl
  | cons i l ih =>
    rw [firstBad_cons] at h ⊢
    split at h
    · cases h
    · rename_i h1
      rw [if_neg, ih h]
      rw [ne_eq, Decidable.not_not] at h1 ⊢
      exact one_more h1 (by omega)
theorem firstBad_shift {n : Nat} {l : List Ins} {at_ : Nat} (h : firstBad n l at_ = none) : firstBad (n + 2) l (at_ + 2) = none := by
  induction l generalizing at_ with
  | nil => rfl
  | cons i l ih =>
    rw [firstBad_cons] at h ⊢
    split at h
    · cases h
    · rename_i h1
      have h2 := ih h
      rw [if_neg]
      · rw [show at_ + 2 + 1 = at_ + 1 + 2 by omega]; exact h2
      · rw [ne_eq, Decidable.not_not] at h1 ⊢
        have := one_shift i at_ n
        rw [← h1, ← this]; congr 1
theorem getD_app {st t : List Int} {k : Nat} (h : k < st.length) : (st ++ t).getD k 0 = st.getD k 0 := by
  rw [List.getD_eq_getElem?_getD, List.getD_eq_getElem?_getD, List.getElem?_append_left h]
theorem meetAll_app {ws : List Nat} {nw : Int} {st t : List Int} (h : ∀ x ∈ ws, x < st.length) : meetAll ws nw (st ++ t) = meetAll ws nw st ++ t := by
  unfold meetAll
  induction ws generalizing st with
  | nil => rfl
  | cons w ws ih =>
    have hw := h w (by simp)
    rw [List.foldl_cons, List.foldl_cons, getD_app hw, List.set_append_left _ _ hw]
    exact ih (fun x hx => by rw [List.length_set]; exact h x (by simp [hx]))
theorem loadsGo_app {l : List Ins} {r : Ins} {at_ : Nat} {st : List Int} {x : Int} (hr : isLd r = false) (hlen : at_ + l.length ≤ st.length) (hw : ∀ (k : Nat) (h : k < l.length), ∀ y ∈ ways l[k] (at_ + k), y < st.length) (h : loadsGo l at_ st = (0, 0)) :
    loadsGo (l ++ [r]) at_ (st ++ [x]) = (0, 0) := by
  induction l generalizing at_ st with
  | nil => simp [loadsGo, hr]
  | cons i l ih =>
    simp only [List.length_cons] at hlen
    rw [loadsGo] at h
    split at h
    · exact absurd (congrArg Prod.snd h) (by simp)
    · rename_i h1
      have hw0 := hw 0 (by simp)
      simp only [List.getElem_cons_zero, Nat.add_zero] at hw0
      rw [List.cons_append, loadsGo, getD_app (by omega), if_neg h1, meetAll_app hw0]
      refine ih (by rw [meetAll_len]; omega) ?_ h
      intro k hk y hy
      rw [meetAll_len]
      refine hw (k + 1) (by simp; omega) y ?_
      simpa [Nat.add_assoc, Nat.add_comm 1 k] using hy
theorem updL_app {ws : List Nat} {k : Nat} {st t : List Int} (hk : k < st.length) (h : ∀ x ∈ ws, x < st.length) : updL ws k (st ++ t) = updL ws k st ++ t := by
  unfold updL
  induction ws generalizing st with
  | nil => rfl
  | cons w ws ih =>
    have hw := h w (by simp)
    rw [List.foldl_cons, List.foldl_cons, getD_app hw, getD_app hk, List.set_append_left _ _ hk]
    exact ih (by rw [List.length_set]; exact hk) (fun x hx => by rw [List.length_set]; exact h x (by simp [hx]))
theorem stepL_app {i : Ins} {k : Nat} {st t : List Int} (hk : k < st.length) (h : ∀ x ∈ ways i k, x < st.length) : stepL i k (st ++ t) = stepL i k st ++ t := by
  unfold stepL
  rw [updL_app hk h, getD_app (by rw [updL_len]; exact hk), List.set_append_left _ _ (by rw [updL_len]; exact hk)]
theorem stepL_len (i : Ins) (k : Nat) (st : List Int) : (stepL i k st).length = st.length := by unfold stepL; rw [List.length_set, updL_len]
theorem longGo_len (l : List Ins) (k : Nat) (st : List Int) : (longGo l k st).length = st.length := by
  induction k generalizing st with
  | zero => rfl
  | succ k ih => rw [longGo, ih, stepL_len]
theorem longGo_app {l r : List Ins} {k : Nat} {st t : List Int} (hk : k ≤ l.length) (hst : st.length = l.length) (hw : ∀ (k : Nat) (h : k < l.length), ∀ y ∈ ways l[k] k, y < l.length) :
    longGo (l ++ r) k (st ++ t) = longGo l k st ++ t := by
  induction k generalizing st with
  | zero => rfl
  | succ k ih =>
    have hd : (l ++ r).getD k ⟨0, 0, 0, 0⟩ = l[k] := by rw [List.getD_eq_getElem?_getD, List.getElem?_append_left (by omega), List.getElem?_eq_getElem (by omega)]; rfl
    have hd2 : l.getD k ⟨0, 0, 0, 0⟩ = l[k] := by rw [List.getD_eq_getElem?_getD, List.getElem?_eq_getElem (by omega)]; rfl
    rw [longGo, longGo, hd, hd2, stepL_app (by omega) (fun x hx => by rw [hst]; exact hw k (by omega) x hx)]
    exact ih (by omega) (by rw [stepL_len]; exact hst)
end Go.Proofs.Ytcimcihhpkedfaa
