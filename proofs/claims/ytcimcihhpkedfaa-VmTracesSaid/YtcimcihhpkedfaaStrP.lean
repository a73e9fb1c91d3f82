/- CheckStrips, the plain law: what is reached, what is stripped, certificates of check's parts. -/
import Derived.Test.YtcimcihhpkedfaaEndsQ
namespace Go.Proofs.Ytcimcihhpkedfaa
open Go Go.RowKit
def I0 : Ins := ⟨0, 0, 0, 0⟩
/-- ways go on, and stay within -/
def Wd (l : List Ins) : Prop := ∀ (k : Nat) (h : k < l.length), ∀ x ∈ ways l[k] k, k < x ∧ x < l.length
def setAll (ws : List Nat) (st : List Bool) : List Bool := ws.foldl (fun st x => st.set x true) st
def stepR (i : Ins) (k : Nat) (st : List Bool) : List Bool := if st.getD k false then setAll (ways i k) st else st
def reachGo : List Ins → Nat → List Bool → List Bool
  | [], _, st => st
  | i :: r, k, st => reachGo r (k + 1) (stepR i k st)
def reached (l : List Ins) : List Bool := reachGo l 0 ((List.replicate l.length false).set 0 true)
def cnt (r : List Bool) (k : Nat) : Nat := (r.take k).countP id
def near (r : List Bool) (i : Ins) (k : Nat) : Ins :=
  if i.code = 5 then { i with k := IntKind.u32.wrap ((cnt r (k + 1 + i.k.toNat) : Int) - ((cnt r k : Int) + 1)) }
  else if i.code % 8 = 5 then { i with jt := IntKind.u8.wrap ((cnt r (k + 1 + i.jt.toNat) : Int) - ((cnt r k : Int) + 1)), jf := IntKind.u8.wrap ((cnt r (k + 1 + i.jf.toNat) : Int) - ((cnt r k : Int) + 1)) }
  else i
def stripGo (r : List Bool) : List Ins → Nat → List Ins
  | [], _ => []
  | i :: t, k => if r.getD k false then near r i k :: stripGo r t (k + 1) else stripGo r t (k + 1)
def strip (l : List Ins) : List Ins := if check l = (0, 0) then stripGo (reached l) l 0 else l

theorem setAll_len (ws : List Nat) (st : List Bool) : (setAll ws st).length = st.length := by
  unfold setAll
  induction ws generalizing st with
  | nil => rfl
  | cons w ws ih => rw [List.foldl_cons, ih, List.length_set]
theorem stepR_len (i : Ins) (k : Nat) (st : List Bool) : (stepR i k st).length = st.length := by
  unfold stepR
  split
  · exact setAll_len _ _
  · rfl
theorem getD_set {α} (st : List α) (x y : Nat) (v d : α) : (st.set x v).getD y d = if x = y ∧ x < st.length then v else st.getD y d := by
  rw [List.getD_eq_getElem?_getD, List.getElem?_set, List.getD_eq_getElem?_getD]
  split
  · rename_i h
    subst h
    split
    · simp [*]
    · rename_i h2
      rw [if_neg (by omega), List.getElem?_eq_none (by omega)]
  · rename_i h
    rw [if_neg (by omega)]
theorem setAll_get (ws : List Nat) (st : List Bool) (x : Nat) (hws : ∀ w ∈ ws, w < st.length) : (setAll ws st).getD x false = (st.getD x false || decide (x ∈ ws)) := by
  unfold setAll
  induction ws generalizing st with
  | nil => simp
  | cons w ws ih =>
    rw [List.foldl_cons, ih _ (fun y hy => by rw [List.length_set]; exact hws y (by simp [hy])), getD_set]
    have hw := hws w (by simp)
    by_cases h : w = x
    · subst h; simp [hw]
    · have h' : ¬ x = w := fun e => h e.symm
      simp [h, h']
theorem stepR_get {i : Ins} {k : Nat} {st : List Bool} (hws : ∀ w ∈ ways i k, w < st.length) (x : Nat) : (stepR i k st).getD x false = (st.getD x false || (st.getD k false && decide (x ∈ ways i k))) := by
  unfold stepR
  split
  · rename_i h; rw [setAll_get _ _ _ hws, h]; simp
  · rename_i h; rw [Bool.not_eq_true] at h; rw [h]; simp
theorem reachGo_inv (l : List Ins) (Inv : Nat → List Bool → Prop) (hs : ∀ (k : Nat) (h : k < l.length) st, Inv k st → Inv (k + 1) (stepR l[k] k st)) (k : Nat) (hk : k ≤ l.length) (st : List Bool) (h : Inv k st) :
    Inv l.length (reachGo (l.drop k) k st) := by
  obtain ⟨m, hm⟩ : ∃ m, m = l.length - k := ⟨_, rfl⟩
  induction m generalizing k st with
  | zero =>
    obtain rfl : k = l.length := by omega
    rw [List.drop_length]; exact h
  | succ m ih =>
    have hlt : k < l.length := by omega
    rw [List.drop_eq_getElem_cons hlt, reachGo]
    exact ih (k + 1) (by omega) _ (hs k hlt _ h) (by omega)
/-- what is reached: the first; where ways go from what is reached; nothing else -/
structure Rch (l : List Ins) (r : List Bool) : Prop where
  len : r.length = l.length
  zero : 0 < l.length → r.getD 0 false = true
  next : ∀ (k : Nat) (h : k < l.length), r.getD k false = true → ∀ x ∈ ways l[k] k, r.getD x false = true
  prev : ∀ x, x ≠ 0 → r.getD x false = true → ∃ k, ∃ h : k < l.length, r.getD k false = true ∧ x ∈ ways l[k] k
structure RchI (l : List Ins) (j : Nat) (r : List Bool) : Prop where
  len : r.length = l.length
  zero : 0 < l.length → r.getD 0 false = true
  next : ∀ (k : Nat) (h : k < l.length), k < j → r.getD k false = true → ∀ x ∈ ways l[k] k, r.getD x false = true
  prev : ∀ x, x ≠ 0 → r.getD x false = true → ∃ k, ∃ h : k < l.length, r.getD k false = true ∧ x ∈ ways l[k] k
theorem reached_rch {l : List Ins} (hw : Wd l) : Rch l (reached l) := by
  have h := reachGo_inv l (RchI l) ?_ 0 (Nat.zero_le _) ((List.replicate l.length false).set 0 true) ?_
  · rw [List.drop_zero] at h
    exact ⟨h.len, h.zero, fun k hk => h.next k hk hk, h.prev⟩
  · intro k hk st ⟨h1, h2, h3, h4⟩
    have hws : ∀ w ∈ ways l[k] k, w < st.length := fun w h => by rw [h1]; exact (hw k hk w h).2
    refine ⟨by rw [stepR_len, h1], fun h0 => by rw [stepR_get hws, h2 h0]; rfl, ?_, ?_⟩
    · intro j hj hjk hr x hx
      rw [stepR_get hws] at hr ⊢
      by_cases e : j = k
      · subst e
        have : st.getD j false = true := by
          by_cases q : st.getD j false = true
          · exact q
          · simp at q; simp [q] at hr
        rw [this]; simp [hx]
      · have hj2 : j < k := by omega
        have : st.getD j false = true := by
          rcases Bool.or_eq_true_iff.1 hr with q | q
          · exact q
          · have := (Bool.and_eq_true_iff.1 q).2
            have := (hw k hk j (of_decide_eq_true this)).1
            omega
        rw [h3 j hj hj2 this x hx]; rfl
    · intro x hx hr
      rw [stepR_get hws] at hr
      rcases Bool.or_eq_true_iff.1 hr with q | q
      · obtain ⟨j, hj, hr2, hm⟩ := h4 x hx q
        exact ⟨j, hj, by rw [stepR_get hws, hr2]; rfl, hm⟩
      · have q2 := Bool.and_eq_true_iff.1 q
        exact ⟨k, hk, by rw [stepR_get hws, q2.1]; rfl, of_decide_eq_true q2.2⟩
  · refine ⟨by simp, fun h0 => ?_, fun k _ h => by omega, ?_⟩
    · rw [getD_set]; simp [h0]
    · intro x hx hr
      rw [getD_set] at hr
      rw [if_neg (by omega)] at hr
      simp only [List.getD_eq_getElem?_getD, List.getElem?_replicate] at hr
      split at hr <;> simp at hr
theorem cnt_succ (r : List Bool) (k : Nat) : cnt r (k + 1) = cnt r k + (if r.getD k false then 1 else 0) := by
  unfold cnt
  by_cases h : k < r.length
  · rw [List.take_succ_eq_append_getElem h, List.countP_append, List.getD_eq_getElem?_getD, List.getElem?_eq_getElem h]
    cases hb : r[k] <;> simp
  · rw [List.take_of_length_le (by omega), List.take_of_length_le (by omega), List.getD_eq_getElem?_getD, List.getElem?_eq_none (by omega)]
    simp
theorem cnt_mono (r : List Bool) {a b : Nat} (h : a ≤ b) : cnt r a ≤ cnt r b := by
  induction b with
  | zero => obtain rfl : a = 0 := by omega
            exact Nat.le_refl _
  | succ b ih =>
    by_cases e : a = b + 1
    · subst e; exact Nat.le_refl _
    · have := ih (by omega)
      rw [cnt_succ]; omega
theorem cnt_le (r : List Bool) (k : Nat) : cnt r k ≤ k := by
  induction k with
  | zero => simp [cnt]
  | succ k ih => rw [cnt_succ]; split <;> omega
theorem cnt_zero (r : List Bool) : cnt r 0 = 0 := by simp [cnt]
theorem cnt_yes {r : List Bool} {k : Nat} (h : r.getD k false = true) : cnt r (k + 1) = cnt r k + 1 := by rw [cnt_succ, h]; rfl
theorem cnt_inj {r : List Bool} {a b : Nat} (ha : r.getD a false = true) (hb : r.getD b false = true) (h : cnt r a = cnt r b) : a = b := by
  rcases Nat.lt_trichotomy a b with q | q | q
  · have h1 := cnt_mono r (show a + 1 ≤ b from q); rw [cnt_yes ha] at h1; omega
  · exact q
  · have h1 := cnt_mono r (show b + 1 ≤ a from q); rw [cnt_yes hb] at h1; omega
theorem cnt_lt {r : List Bool} {a b : Nat} (ha : r.getD a false = true) (h : a < b) : cnt r a < cnt r b := by
  have h1 := cnt_mono r (show a + 1 ≤ b from h); rw [cnt_yes ha] at h1; omega
theorem cnt_surj (r : List Bool) {m n : Nat} (h : m < cnt r n) : ∃ k, k < n ∧ r.getD k false = true ∧ cnt r k = m := by
  induction n with
  | zero => simp [cnt] at h
  | succ n ih =>
    rw [cnt_succ] at h
    by_cases q : m < cnt r n
    · obtain ⟨k, h1, h2, h3⟩ := ih q
      exact ⟨k, by omega, h2, h3⟩
    · by_cases hb : r.getD n false = true
      · rw [hb] at h
        simp only [if_true] at h
        exact ⟨n, by omega, hb, by omega⟩
      · simp only [Bool.not_eq_true] at hb
        rw [hb] at h
        simp at h
        omega
theorem stripGo_len (r : List Bool) (l : List Ins) (k : Nat) : (stripGo r l k).length + cnt r k = cnt r (k + l.length) := by
  induction l generalizing k with
  | nil => simp [stripGo]
  | cons i t ih =>
    have := ih (k + 1)
    rw [cnt_succ] at this
    unfold stripGo
    rw [List.length_cons, show k + (t.length + 1) = k + 1 + t.length by omega]
    split
    · rename_i h
      rw [h] at this
      simp only [if_true] at this
      rw [List.length_cons]; omega
    · rename_i h
      simp only [Bool.not_eq_true] at h
      rw [h] at this
      simp only [Bool.false_eq_true, if_false] at this
      omega
theorem stripGo_get (r : List Bool) (l : List Ins) (k j : Nat) (hj : j < l.length) (hr : r.getD (k + j) false = true) : (stripGo r l k)[cnt r (k + j) - cnt r k]? = some (near r l[j] (k + j)) := by
  induction l generalizing k j with
  | nil => simp at hj
  | cons i t ih =>
    unfold stripGo
    cases j with
    | zero =>
      rw [Nat.add_zero] at hr
      rw [if_pos hr]
      simp
    | succ j =>
      have h1 := ih (k + 1) j (by simpa using hj) (by rw [show k + 1 + j = k + (j + 1) by omega]; exact hr)
      rw [show k + 1 + j = k + (j + 1) by omega] at h1
      have hm := cnt_mono r (show k + 1 ≤ k + (j + 1) by omega)
      rw [cnt_succ] at h1 hm
      split
      · rename_i hb
        rw [hb] at h1 hm
        simp only [if_true] at h1 hm
        rw [show cnt r (k + (j + 1)) - cnt r k = (cnt r (k + (j + 1)) - (cnt r k + 1)) + 1 by omega, List.getElem?_cons_succ, h1]
        rfl
      · rename_i hb
        simp only [Bool.not_eq_true] at hb
        rw [hb] at h1
        simpa using h1
end Go.Proofs.Ytcimcihhpkedfaa
