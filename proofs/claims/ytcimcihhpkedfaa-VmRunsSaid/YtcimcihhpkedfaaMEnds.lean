/- CheckEnds, the plain law: a Ret more behind, or a pair ahead; a cut. CheckEnds, the plain law, second half. -/
import Derived.Test.YtcimcihhpkedfaaLong1
namespace Go.Proofs.Ytcimcihhpkedfaa
open Go Go.RowKit
theorem one_more {i : Ins} {a m m' : Int} (h : one i a m = 0) (hm : m ≤ m') : one i a m' = 0 := by
  unfold one at h ⊢
  dsimp only at h ⊢
  split at h
  · omega
  rename_i k1
  split at h
  · omega
  rename_i k2
  split at h
  · omega
  rename_i k3
  rw [if_neg k1, if_neg (fun ⟨e, f⟩ => k2 ⟨e, by omega⟩), if_neg (fun ⟨e, f, g⟩ => k3 ⟨e, f, by omega⟩)]
  exact h
theorem one_shift (i : Ins) (a m : Int) : one i (a + 2) (m + 2) = one i a m := by
  unfold one
  have : m + 2 - (a + 2) - 1 = m - a - 1 := by omega
  dsimp only
  rw [this]
theorem firstBad_app {n : Nat} {l r : List Ins} {at_ : Nat} (h : firstBad n l at_ = none) : firstBad n (l ++ r) at_ = firstBad n r (at_ + l.length) := by
  induction l generalizing at_ with
  | nil => rfl
  | cons i l ih =>
    rw [firstBad_cons] at h
    split at h
    · cases h
    · rename_i h1
      rw [List.cons_append, firstBad_cons, if_neg h1, ih h, List.length_cons]
      congr 1; omega
theorem firstBad_more {n n' : Nat} {l : List Ins} {at_ : Nat} (h : firstBad n l at_ = none) (hn : n ≤ n') : firstBad n' l at_ = none := by
  induction l generalizing at_ with
  | nil => rfl
  | cons i l ih =>
    rw [firstBad_cons] at h ⊢
    split at h
    · cases h
    · rename_i h1
      rw [if_neg, ih h]
      rw [ne_eq, Decidable.not_not] at h1 ⊢
      exact one_more h1 (by omega)
theorem firstBad_shift {n : Nat} {l : List Ins} {at_ : Nat} (h : firstBad n l at_ = none) : firstBad (n + 2) l (at_ + 2) = none := by
  induction l generalizing at_ with
  | nil => rfl
  | cons i l ih =>
    rw [firstBad_cons] at h ⊢
    split at h
    · cases h
    · rename_i h1
      have h2 := ih h
      rw [if_neg]
      · rw [show at_ + 2 + 1 = at_ + 1 + 2 by omega]; exact h2
      · rw [ne_eq, Decidable.not_not] at h1 ⊢
        have := one_shift i at_ n
        rw [← h1, ← this]; congr 1
theorem getD_app {st t : List Int} {k : Nat} (h : k < st.length) : (st ++ t).getD k 0 = st.getD k 0 := by
  rw [List.getD_eq_getElem?_getD, List.getD_eq_getElem?_getD, List.getElem?_append_left h]
theorem meetAll_app {ws : List Nat} {nw : Int} {st t : List Int} (h : ∀ x ∈ ws, x < st.length) : meetAll ws nw (st ++ t) = meetAll ws nw st ++ t := by
  unfold meetAll
  induction ws generalizing st with
  | nil => rfl
  | cons w ws ih =>
    have hw := h w (by simp)
    rw [List.foldl_cons, List.foldl_cons, getD_app hw, List.set_append_left _ _ hw]
    exact ih (fun x hx => by rw [List.length_set]; exact h x (by simp [hx]))
theorem loadsGo_app {l : List Ins} {r : Ins} {at_ : Nat} {st : List Int} {x : Int} (hr : isLd r = false) (hlen : at_ + l.length ≤ st.length) (hw : ∀ (k : Nat) (h : k < l.length), ∀ y ∈ ways l[k] (at_ + k), y < st.length) (h : loadsGo l at_ st = (0, 0)) :
    loadsGo (l ++ [r]) at_ (st ++ [x]) = (0, 0) := by
  induction l generalizing at_ st with
  | nil => simp [loadsGo, hr]
  | cons i l ih =>
    simp only [List.length_cons] at hlen
    rw [loadsGo] at h
    split at h
    · exact absurd (congrArg Prod.snd h) (by simp)
    · rename_i h1
      have hw0 := hw 0 (by simp)
      simp only [List.getElem_cons_zero, Nat.add_zero] at hw0
      rw [List.cons_append, loadsGo, getD_app (by omega), if_neg h1, meetAll_app hw0]
      refine ih (by rw [meetAll_len]; omega) ?_ h
      intro k hk y hy
      rw [meetAll_len]
      refine hw (k + 1) (by simp; omega) y ?_
      simpa [Nat.add_assoc, Nat.add_comm 1 k] using hy
theorem updL_app {ws : List Nat} {k : Nat} {st t : List Int} (hk : k < st.length) (h : ∀ x ∈ ws, x < st.length) : updL ws k (st ++ t) = updL ws k st ++ t := by
  unfold updL
  induction ws generalizing st with
  | nil => rfl
  | cons w ws ih =>
    have hw := h w (by simp)
    rw [List.foldl_cons, List.foldl_cons, getD_app hw, getD_app hk, List.set_append_left _ _ hk]
    exact ih (by rw [List.length_set]; exact hk) (fun x hx => by rw [List.length_set]; exact h x (by simp [hx]))
theorem stepL_app {i : Ins} {k : Nat} {st t : List Int} (hk : k < st.length) (h : ∀ x ∈ ways i k, x < st.length) : stepL i k (st ++ t) = stepL i k st ++ t := by
  unfold stepL
  rw [updL_app hk h, getD_app (by rw [updL_len]; exact hk), List.set_append_left _ _ (by rw [updL_len]; exact hk)]
theorem stepL_len (i : Ins) (k : Nat) (st : List Int) : (stepL i k st).length = st.length := by unfold stepL; rw [List.length_set, updL_len]
theorem longGo_len (l : List Ins) (k : Nat) (st : List Int) : (longGo l k st).length = st.length := by
  induction k generalizing st with
  | zero => rfl
  | succ k ih => rw [longGo, ih, stepL_len]
theorem longGo_app {l r : List Ins} {k : Nat} {st t : List Int} (hk : k ≤ l.length) (hst : st.length = l.length) (hw : ∀ (k : Nat) (h : k < l.length), ∀ y ∈ ways l[k] k, y < l.length) :
    longGo (l ++ r) k (st ++ t) = longGo l k st ++ t := by
  induction k generalizing st with
  | zero => rfl
  | succ k ih =>
    have hd : (l ++ r).getD k ⟨0, 0, 0, 0⟩ = l[k] := by rw [List.getD_eq_getElem?_getD, List.getElem?_append_left (by omega), List.getElem?_eq_getElem (by omega)]; rfl
    have hd2 : l.getD k ⟨0, 0, 0, 0⟩ = l[k] := by rw [List.getD_eq_getElem?_getD, List.getElem?_eq_getElem (by omega)]; rfl
    rw [longGo, longGo, hd, hd2, stepL_app (by omega) (fun x hx => by rw [hst]; exact hw k (by omega) x hx)]
    exact ih (by omega) (by rw [stepL_len]; exact hst)
end Go.Proofs.Ytcimcihhpkedfaa
namespace Go.Proofs.Ytcimcihhpkedfaa
open Go Go.RowKit
theorem firstBad_err {n : Nat} {l : List Ins} {at_ : Nat} {r : Int × Int} (h : firstBad n l at_ = some r) : r.2 ≠ 0 := by
  induction l generalizing at_ with
  | nil => cases h
  | cons i l ih =>
    rw [firstBad_cons] at h
    split at h
    · rename_i h1
      cases h
      exact h1
    · exact ih h
theorem check_parts {l : List Ins} (h : check l = (0, 0)) : 0 < l.length ∧ l.length ≤ 4096 ∧ firstBad l.length l 0 = none ∧ isRet (l.getD (l.length - 1) ⟨0, 0, 0, 0⟩) = true ∧ loads l = (0, 0) := by
  unfold check at h
  split at h
  · exact absurd (congrArg Prod.snd h) (by simp)
  rename_i h1
  split at h
  · exact absurd (congrArg Prod.snd h) (by simp)
  rename_i h2
  split at h
  · rename_i r hr
    exact absurd (congrArg Prod.snd h) (firstBad_err hr)
  rename_i h3
  split at h
  · rename_i h4
    exact ⟨by omega, by omega, h3, h4, h⟩
  · exact absurd (congrArg Prod.snd h) (by simp)
theorem check_of {l : List Ins} (h1 : 0 < l.length) (h2 : l.length ≤ 4096) (h3 : firstBad l.length l 0 = none) (h4 : isRet (l.getD (l.length - 1) ⟨0, 0, 0, 0⟩) = true) (h5 : loads l = (0, 0)) : check l = (0, 0) := by
  unfold check
  rw [if_neg (by omega), if_neg (by omega), h3]
  simp only [h4, if_true]
  exact h5
theorem ret_one (k a m : Int) : one ⟨6, 0, 0, k⟩ a m = 0 := by simp [one, known]
theorem ret_ways (k : Int) (a : Nat) : ways ⟨6, 0, 0, k⟩ a = [] := by simp [ways]
theorem ret_step (k : Int) (a : Nat) (st : List Int) : stepL ⟨6, 0, 0, k⟩ a st = st.set a (st.getD a 0 + 1) := by simp [stepL, ret_ways, updL]
theorem more_ok {l : List Ins} (hl : ∀ i ∈ l, i.ok) (hck : check l = (0, 0)) (hm : l.length ≤ 4000) (k : Int) :
    check (l ++ [⟨6, 0, 0, k⟩]) = (0, 0) ∧ longest (l ++ [⟨6, 0, 0, k⟩]) = longest l := by
  obtain ⟨h1, h2, h3, h4, h5⟩ := check_parts hck
  have hw := ways_lt hl h3 h4
  obtain ⟨n, hn⟩ : ∃ n, l.length = n + 1 := ⟨l.length - 1, by omega⟩
  constructor
  · refine check_of (by simp) (by simp; omega) ?_ ?_ ?_
    · rw [List.length_append, List.length_singleton, firstBad_app (firstBad_more h3 (by omega)), firstBad_cons, if_neg (by rw [ret_one]; simp)]
      rfl
    · simp [List.getD_eq_getElem?_getD, isRet]
    · unfold loads at h5 ⊢
      have e : (List.replicate (l ++ [(⟨6, 0, 0, k⟩ : Ins)]).length (65535 : Int)).set 0 0 = (List.replicate l.length 65535).set 0 0 ++ [65535] := by
        rw [List.length_append, List.length_singleton, List.replicate_succ', List.set_append_left _ _ (by simp; omega)]
      rw [e]
      refine loadsGo_app (by simp [isLd]) (by simp) ?_ h5
      intro j hj y hy
      rw [Nat.zero_add] at hy
      simpa using (hw j hj y hy).2
  · unfold longest
    rw [List.length_append, List.length_singleton, longGo]
    have hd : (l ++ [(⟨6, 0, 0, k⟩ : Ins)]).getD l.length ⟨0, 0, 0, 0⟩ = ⟨6, 0, 0, k⟩ := by simp [List.getD_eq_getElem?_getD]
    have e : stepL ⟨6, 0, 0, k⟩ l.length (List.replicate (l.length + 1) 0) = List.replicate l.length 0 ++ [1] := by
      rw [ret_step, List.replicate_succ', List.set_append_right _ _ (by simp)]
      simp [List.getD_eq_getElem?_getD]
    rw [hd, e, longGo_app (Nat.le_refl _) (by simp) (fun j hj y hy => (hw j hj y hy).2), getD_app (by rw [longGo_len]; simp; omega)]
theorem ways_shift (i : Ins) (k : Nat) : ways i (k + 2) = (ways i k).map (· + 2) := by
  unfold ways
  split
  · rfl
  split
  · simp; omega
  split
  · simp; omega
  · rfl
theorem meetAll_shift (ws : List Nat) (nw a b : Int) (st : List Int) : meetAll (ws.map (· + 2)) nw (a :: b :: st) = a :: b :: meetAll ws nw st := by
  unfold meetAll
  induction ws generalizing st with
  | nil => rfl
  | cons w ws ih =>
    rw [List.map_cons, List.foldl_cons, List.foldl_cons]
    exact ih _
theorem loadsGo_shift {l : List Ins} {k : Nat} {st : List Int} {a b : Int} (h : loadsGo l k st = (0, 0)) : loadsGo l (k + 2) (a :: b :: st) = (0, 0) := by
  induction l generalizing k st with
  | nil => rfl
  | cons i l ih =>
    rw [loadsGo] at h ⊢
    split at h
    · exact absurd (congrArg Prod.snd h) (by simp)
    · rename_i h1
      have e : (a :: b :: st).getD (k + 2) 0 = st.getD k 0 := rfl
      rw [e, if_neg h1, ways_shift, meetAll_shift]
      exact ih h
theorem updL_shift (ws : List Nat) (k : Nat) (a b : Int) (st : List Int) : updL (ws.map (· + 2)) (k + 2) (a :: b :: st) = a :: b :: updL ws k st := by
  unfold updL
  induction ws generalizing st with
  | nil => rfl
  | cons w ws ih =>
    rw [List.map_cons, List.foldl_cons, List.foldl_cons]
    exact ih _
theorem stepL_shift (i : Ins) (k : Nat) (a b : Int) (st : List Int) : stepL i (k + 2) (a :: b :: st) = a :: b :: stepL i k st := by
  unfold stepL
  rw [ways_shift, updL_shift]
  rfl
theorem longGo_shift (p q : Ins) (l : List Ins) (k : Nat) (a b : Int) (st : List Int) : longGo (p :: q :: l) (k + 2) (a :: b :: st) = longGo (p :: q :: l) 2 (a :: b :: longGo l k st) := by
  induction k generalizing st with
  | zero => rfl
  | succ k ih =>
    have e : (p :: q :: l).getD (k + 2) ⟨0, 0, 0, 0⟩ = l.getD k ⟨0, 0, 0, 0⟩ := rfl
    rw [show k + 1 + 2 = (k + 2) + 1 by omega, longGo, e, stepL_shift, ih]
    rfl
theorem ahead_ok {l : List Ins} (hck : check l = (0, 0)) (hm : l.length ≤ 4000) (k : Int) :
    check (⟨21, 0, 1, k⟩ :: ⟨6, 0, 0, k⟩ :: l) = (0, 0) ∧ longest (⟨21, 0, 1, k⟩ :: ⟨6, 0, 0, k⟩ :: l) = 1 + max 1 (longest l) := by
  obtain ⟨h1, h2, h3, h4, h5⟩ := check_parts hck
  obtain ⟨n, hn⟩ : ∃ n, l.length = n + 1 := ⟨l.length - 1, by omega⟩
  constructor
  · refine check_of (by simp) (by simp; omega) ?_ ?_ ?_
    · have ho : one ⟨21, 0, 1, k⟩ ((0 : Nat) : Int) ((l.length + 2 : Nat) : Int) = 0 := by
        have hk : known 21 = true := by decide
        simp [one, hk]
        omega
      rw [List.length_cons, List.length_cons, firstBad_cons, if_neg (by rw [show l.length + 1 + 1 = l.length + 2 by omega, ho]; simp), firstBad_cons, if_neg (by rw [ret_one]; simp)]
      exact firstBad_shift (at_ := 0) h3
    · rw [List.length_cons, List.length_cons]
      rw [hn] at h4 ⊢
      exact h4
    · unfold loads at h5 ⊢
      rw [List.length_cons, List.length_cons, hn]
      rw [hn] at h5
      have := loadsGo_shift (a := 0) (b := 0) h5
      have hz : iand 65535 0 = 0 := by decide
      simpa [hz, loadsGo, isLd, ways, meetAll, nowOf, isSt, List.replicate_succ] using this
  · unfold longest
    rw [List.length_cons, List.length_cons, List.replicate_succ, List.replicate_succ, longGo_shift]
    have hl := longGo_len l l.length (List.replicate l.length 0)
    rw [List.length_replicate, hn] at hl
    rw [hn]
    generalize longGo l (n + 1) (List.replicate (n + 1) 0) = M at *
    cases M with
    | nil => simp at hl
    | cons m M =>
      simp [longGo, stepL, ways, updL]
      omega
theorem cut_bad {l : List Ins} (h : check l = (0, 0)) : isRet (l.getD (l.length - 1) ⟨0, 0, 0, 0⟩) = true := (check_parts h).2.2.2.1
end Go.Proofs.Ytcimcihhpkedfaa
