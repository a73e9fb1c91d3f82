/- CheckEnds, the plain law, second half. -/
import Derived.Test.YtcimcihhpkedfaaEndsP
namespace Go.Proofs.Ytcimcihhpkedfaa
open Go Go.RowKit
theorem firstBad_err {n : Nat} {l : List Ins} {at_ : Nat} {r : Int × Int} (h : firstBad n l at_ = some r) : r.2 ≠ 0 := by
  induction l generalizing at_ with
  | nil => cases h
  | cons i l ih =>
    rw [firstBad_cons] at h
    split at h
    · rename_i h1
      cases h
      exact h1
    · exact ih h
theorem check_parts {l : List Ins} (h : check l = (0, 0)) : 0 < l.length ∧ l.length ≤ 4096 ∧ firstBad l.length l 0 = none ∧ isRet (l.getD (l.length - 1) ⟨0, 0, 0, 0⟩) = true ∧ loads l = (0, 0) := by
  unfold check at h
  split at h
  · exact absurd (congrArg Prod.snd h) (by simp)
  rename_i h1
  split at h
  · exact absurd (congrArg Prod.snd h) (by simp)
  rename_i h2
  split at h
  · rename_i r hr
    exact absurd (congrArg Prod.snd h) (firstBad_err hr)
  rename_i h3
  split at h
  · rename_i h4
    exact ⟨by omega, by omega, h3, h4, h⟩
  · exact absurd (congrArg Prod.snd h) (by simp)
theorem check_of {l : List Ins} (h1 : 0 < l.length) (h2 : l.length ≤ 4096) (h3 : firstBad l.length l 0 = none) (h4 : isRet (l.getD (l.length - 1) ⟨0, 0, 0, 0⟩) = true) (h5 : loads l = (0, 0)) : check l = (0, 0) := by
  unfold check
  rw [if_neg (by omega), if_neg (by omega), h3]
  simp only [h4, if_true]
  exact h5
theorem ret_one (k a m : Int) : one ⟨6, 0, 0, k⟩ a m = 0 := by simp [one, known]
theorem ret_ways (k : Int) (a : Nat) : ways ⟨6, 0, 0, k⟩ a = [] := by simp [ways]
theorem ret_step (k : Int) (a : Nat) (st : List Int) : stepL ⟨6, 0, 0, k⟩ a st = st.set a (st.getD a 0 + 1) := by simp [stepL, ret_ways, updL]
theorem more_ok {l : List Ins} (hl : ∀ i ∈ l, i.ok) (hck : check l = (0, 0)) (hm : l.length ≤ 4000) (k : Int) :
    check (l ++ [⟨6, 0, 0, k⟩]) = (0, 0) ∧ longest (l ++ [⟨6, 0, 0, k⟩]) = longest l := by
  obtain ⟨h1, h2, h3, h4, h5⟩ := check_parts hck
  have hw := ways_lt hl h3 h4
  obtain ⟨n, hn⟩ : ∃ n, l.length = n + 1 := ⟨l.length - 1, by omega⟩
  constructor
  · refine check_of (by simp) (by simp; omega) ?_ ?_ ?_
    · rw [List.length_append, List.length_singleton, firstBad_app (firstBad_more h3 (by omega)), firstBad_cons, if_neg (by rw [ret_one]; simp)]
      rfl
    · simp [List.getD_eq_getElem?_getD, isRet]
    · unfold loads at h5 ⊢
      have e : (List.replicate (l ++ [(⟨6, 0, 0, k⟩ : Ins)]).length (65535 : Int)).set 0 0 = (List.replicate l.length 65535).set 0 0 ++ [65535] := by
        rw [List.length_append, List.length_singleton, List.replicate_succ', List.set_append_left _ _ (by simp; omega)]
      rw [e]
      refine loadsGo_app (by simp [isLd]) (by simp) ?_ h5
      intro j hj y hy
      rw [Nat.zero_add] at hy
      simpa using (hw j hj y hy).2
  · unfold longest
    rw [List.length_append, List.length_singleton, longGo]
    have hd : (l ++ [(⟨6, 0, 0, k⟩ : Ins)]).getD l.length ⟨0, 0, 0, 0⟩ = ⟨6, 0, 0, k⟩ := by simp [List.getD_eq_getElem?_getD]
    have e : stepL ⟨6, 0, 0, k⟩ l.length (List.replicate (l.length + 1) 0) = List.replicate l.length 0 ++ [1] := by
      rw [ret_step, List.replicate_succ', List.set_append_right _ _ (by simp)]
      simp [List.getD_eq_getElem?_getD]
    rw [hd, e, longGo_app (Nat.le_refl _) (by simp) (fun j hj y hy => (hw j hj y hy).2), getD_app (by rw [longGo_len]; simp; omega)]
theorem ways_shift (i : Ins) (k : Nat) : ways i (k + 2) = (ways i k).map (· + 2) := by
  unfold ways
  split
  · rfl
  split
  · simp; omega
  split
  · simp; omega
  · rfl
theorem meetAll_shift (ws : List Nat) (nw a b : Int) (st : List Int) : meetAll (ws.map (· + 2)) nw (a :: b :: st) = a :: b :: meetAll ws nw st := by
  unfold meetAll
  induction ws generalizing st with
  | nil => rfl
  | cons w ws ih =>
    rw [List.map_cons, List.foldl_cons, List.foldl_cons]
    exact ih _
theorem loadsGo_shift {l : List Ins} {k : Nat} {st : List Int} {a b : Int} (h : loadsGo l k st = (0, 0)) : loadsGo l (k + 2) (a :: b :: st) = (0, 0) := by
  induction l generalizing k st with
  | nil => rfl
  | cons i l ih =>
    rw [loadsGo] at h ⊢
    split at h
    · exact absurd (congrArg Prod.snd h) (by simp)
    · rename_i h1
      have e : (a :: b :: st).getD (k + 2) 0 = st.getD k 0 := rfl
      rw [e, if_neg h1, ways_shift, meetAll_shift]
      exact ih h
theorem updL_shift (ws : List Nat) (k : Nat) (a b : Int) (st : List Int) : updL (ws.map (· + 2)) (k + 2) (a :: b :: st) = a :: b :: updL ws k st := by
  unfold updL
  induction ws generalizing st with
  | nil => rfl
  | cons w ws ih =>
    rw [List.map_cons, List.foldl_cons, List.foldl_cons]
    exact ih _
theorem stepL_shift (i : Ins) (k : Nat) (a b : Int) (st : List Int) : stepL i (k + 2) (a :: b :: st) = a :: b :: stepL i k st := by
  unfold stepL
  rw [ways_shift, updL_shift]
  rfl
theorem longGo_shift (p q : Ins) (l : List Ins) (k : Nat) (a b : Int) (st : List Int) : longGo (p :: q :: l) (k + 2) (a :: b :: st) = longGo (p :: q :: l) 2 (a :: b :: longGo l k st) := by
  induction k generalizing st with
  | zero => rfl
  | succ k ih =>
    have e : (p :: q :: l).getD (k + 2) ⟨0, 0, 0, 0⟩ = l.getD k ⟨0, 0, 0, 0⟩ := rfl
    rw [show k + 1 + 2 = (k + 2) + 1 by omega, longGo, e, stepL_shift, ih]
    rfl
theorem ahead_ok {l : List Ins} (hck : check l = (0, 0)) (hm : l.length ≤ 4000) (k : Int) :
    check (⟨21, 0, 1, k⟩ :: ⟨6, 0, 0, k⟩ :: l) = (0, 0) ∧ longest (⟨21, 0, 1, k⟩ :: ⟨6, 0, 0, k⟩ :: l) = 1 + max 1 (longest l) := by
  obtain ⟨h1, h2, h3, h4, h5⟩ := check_parts hck
  obtain ⟨n, hn⟩ : ∃ n, l.length = n + 1 := ⟨l.length - 1, by omega⟩
  constructor
  · refine check_of (by simp) (by simp; omega) ?_ ?_ ?_
    · have ho : one ⟨21, 0, 1, k⟩ ((0 : Nat) : Int) ((l.length + 2 : Nat) : Int) = 0 := by
        have hk : known 21 = true := by decide
        simp [one, hk]
        omega
      rw [List.length_cons, List.length_cons, firstBad_cons, if_neg (by rw [show l.length + 1 + 1 = l.length + 2 by omega, ho]; simp), firstBad_cons, if_neg (by rw [ret_one]; simp)]
      exact firstBad_shift (at_ := 0) h3
    · rw [List.length_cons, List.length_cons]
      rw [hn] at h4 ⊢
      exact h4
    · unfold loads at h5 ⊢
      rw [List.length_cons, List.length_cons, hn]
      rw [hn] at h5
      have := loadsGo_shift (a := 0) (b := 0) h5
      have hz : iand 65535 0 = 0 := by decide
      simpa [hz, loadsGo, isLd, ways, meetAll, nowOf, isSt, List.replicate_succ] using this
  · unfold longest
    rw [List.length_cons, List.length_cons, List.replicate_succ, List.replicate_succ, longGo_shift]
    have hl := longGo_len l l.length (List.replicate l.length 0)
    rw [List.length_replicate, hn] at hl
    rw [hn]
    generalize longGo l (n + 1) (List.replicate (n + 1) 0) = M at *
    cases M with
    | nil => simp at hl
    | cons m M =>
      simp [longGo, stepL, ways, updL]
      omega
theorem cut_bad {l : List Ins} (h : check l = (0, 0)) : isRet (l.getD (l.length - 1) ⟨0, 0, 0, 0⟩) = true := (check_parts h).2.2.2.1
end Go.Proofs.Ytcimcihhpkedfaa
