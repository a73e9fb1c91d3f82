/- CheckStrips, the plain law: what is reached, what is stripped, certificates of check's parts. CheckStrips, the plain law: a stripped filter may be loaded, takes as many steps, is reached whole. CheckStrips, the plain law, its end. -/
import Derived.Test.YtcimcihhpkedfaaMEnds
namespace Go.Proofs.Ytcimcihhpkedfaa
open Go Go.RowKit
def I0 : Ins := ⟨0, 0, 0, 0⟩
/-- ways go on, and stay within -/
def Wd (l : List Ins) : Prop := ∀ (k : Nat) (h : k < l.length), ∀ x ∈ ways l[k] k, k < x ∧ x < l.length
def setAll (ws : List Nat) (st : List Bool) : List Bool := ws.foldl (fun st x => st.set x true) st
def stepR (i : Ins) (k : Nat) (st : List Bool) : List Bool := if st.getD k false then setAll (ways i k) st else st
def reachGo : List Ins → Nat → List Bool → List Bool
  | [], _, st => st
  | i :: r, k, st => reachGo r (k + 1) (stepR i k st)
def reached (l : List Ins) : List Bool := reachGo l 0 ((List.replicate l.length false).set 0 true)
def cnt (r : List Bool) (k : Nat) : Nat := (r.take k).countP id
def near (r : List Bool) (i : Ins) (k : Nat) : Ins :=
  if i.code = 5 then { i with k := IntKind.u32.wrap ((cnt r (k + 1 + i.k.toNat) : Int) - ((cnt r k : Int) + 1)) }
  else if i.code % 8 = 5 then { i with jt := IntKind.u8.wrap ((cnt r (k + 1 + i.jt.toNat) : Int) - ((cnt r k : Int) + 1)), jf := IntKind.u8.wrap ((cnt r (k + 1 + i.jf.toNat) : Int) - ((cnt r k : Int) + 1)) }
  else i
def stripGo (r : List Bool) : List Ins → Nat → List Ins
  | [], _ => []
  | i :: t, k => if r.getD k false then near r i k :: stripGo r t (k + 1) else stripGo r t (k + 1)
def strip (l : List Ins) : List Ins := if check l = (0, 0) then stripGo (reached l) l 0 else l

theorem setAll_len (ws : List Nat) (st : List Bool) : (setAll ws st).length = st.length := by
  unfold setAll
  induction ws generalizing st with
  | nil => rfl
  | cons w ws ih => rw [List.foldl_cons, ih, List.length_set]
theorem stepR_len (i : Ins) (k : Nat) (st : List Bool) : (stepR i k st).length = st.length := by
  unfold stepR
  split
  · exact setAll_len _ _
  · rfl
theorem getD_set {α} (st : List α) (x y : Nat) (v d : α) : (st.set x v).getD y d = if x = y ∧ x < st.length then v else st.getD y d := by
  rw [List.getD_eq_getElem?_getD, List.getElem?_set, List.getD_eq_getElem?_getD]
  split
  · rename_i h
    subst h
    split
    · simp [*]
    · rename_i h2
      rw [if_neg (by omega), List.getElem?_eq_none (by omega)]
  · rename_i h
    rw [if_neg (by omega)]
theorem setAll_get (ws : List Nat) (st : List Bool) (x : Nat) (hws : ∀ w ∈ ws, w < st.length) : (setAll ws st).getD x false = (st.getD x false || decide (x ∈ ws)) := by
  unfold setAll
  induction ws generalizing st with
  | nil => simp
  | cons w ws ih =>
    rw [List.foldl_cons, ih _ (fun y hy => by rw [List.length_set]; exact hws y (by simp [hy])), getD_set]
    have hw := hws w (by simp)
    by_cases h : w = x
    · subst h; simp [hw]
    · have h' : ¬ x = w := fun e => h e.symm
      simp [h, h']
theorem stepR_get {i : Ins} {k : Nat} {st : List Bool} (hws : ∀ w ∈ ways i k, w < st.length) (x : Nat) : (stepR i k st).getD x false = (st.getD x false || (st.getD k false && decide (x ∈ ways i k))) := by
  unfold stepR
  split
  · rename_i h; rw [setAll_get _ _ _ hws, h]; simp
  · rename_i h; rw [Bool.not_eq_true] at h; rw [h]; simp
theorem reachGo_inv (l : List Ins) (Inv : Nat → List Bool → Prop) (hs : ∀ (k : Nat) (h : k < l.length) st, Inv k st → Inv (k + 1) (stepR l[k] k st)) (k : Nat) (hk : k ≤ l.length) (st : List Bool) (h : Inv k st) :
    Inv l.length (reachGo (l.drop k) k st) := by
  obtain ⟨m, hm⟩ : ∃ m, m = l.length - k := ⟨_, rfl⟩
  induction m generalizing k st with
  | zero =>
    obtain rfl : k = l.length := by omega
    rw [List.drop_length]; exact h
  | succ m ih =>
    have hlt : k < l.length := by omega
    rw [List.drop_eq_getElem_cons hlt, reachGo]
    exact ih (k + 1) (by omega) _ (hs k hlt _ h) (by omega)
/-- what is reached: the first; where ways go from what is reached; nothing else -/
structure Rch (l : List Ins) (r : List Bool) : Prop where
  len : r.length = l.length
  zero : 0 < l.length → r.getD 0 false = true
  next : ∀ (k : Nat) (h : k < l.length), r.getD k false = true → ∀ x ∈ ways l[k] k, r.getD x false = true
  prev : ∀ x, x ≠ 0 → r.getD x false = true → ∃ k, ∃ h : k < l.length, r.getD k false = true ∧ x ∈ ways l[k] k
structure RchI (l : List Ins) (j : Nat) (r : List Bool) : Prop where
  len : r.length = l.length
  zero : 0 < l.length → r.getD 0 false = true
  next : ∀ (k : Nat) (h : k < l.length), k < j → r.getD k false = true → ∀ x ∈ ways l[k] k, r.getD x false = true
  prev : ∀ x, x ≠ 0 → r.getD x false = true → ∃ k, ∃ h : k < l.length, r.getD k false = true ∧ x ∈ ways l[k] k
theorem reached_rch {l : List Ins} (hw : Wd l) : Rch l (reached l) := by
  have h := reachGo_inv l (RchI l) ?_ 0 (Nat.zero_le _) ((List.replicate l.length false).set 0 true) ?_
  · rw [List.drop_zero] at h
    exact ⟨h.len, h.zero, fun k hk => h.next k hk hk, h.prev⟩
  · intro k hk st ⟨h1, h2, h3, h4⟩
    have hws : ∀ w ∈ ways l[k] k, w < st.length := fun w h => by rw [h1]; exact (hw k hk w h).2
    refine ⟨by rw [stepR_len, h1], fun h0 => by rw [stepR_get hws, h2 h0]; rfl, ?_, ?_⟩
    · intro j hj hjk hr x hx
      rw [stepR_get hws] at hr ⊢
      by_cases e : j = k
      · subst e
        have : st.getD j false = true := by
          by_cases q : st.getD j false = true
          · exact q
          · simp at q; simp [q] at hr
        rw [this]; simp [hx]
      · have hj2 : j < k := by omega
        have : st.getD j false = true := by
          rcases Bool.or_eq_true_iff.1 hr with q | q
          · exact q
          · have := (Bool.and_eq_true_iff.1 q).2
            have := (hw k hk j (of_decide_eq_true this)).1
            omega
        rw [h3 j hj hj2 this x hx]; rfl
    · intro x hx hr
      rw [stepR_get hws] at hr
      rcases Bool.or_eq_true_iff.1 hr with q | q
      · obtain ⟨j, hj, hr2, hm⟩ := h4 x hx q
        exact ⟨j, hj, by rw [stepR_get hws, hr2]; rfl, hm⟩
      · have q2 := Bool.and_eq_true_iff.1 q
        exact ⟨k, hk, by rw [stepR_get hws, q2.1]; rfl, of_decide_eq_true q2.2⟩
  · refine ⟨by simp, fun h0 => ?_, fun k _ h => by omega, ?_⟩
    · rw [getD_set]; simp [h0]
    · intro x hx hr
      rw [getD_set] at hr
      rw [if_neg (by omega)] at hr
      simp only [List.getD_eq_getElem?_getD, List.getElem?_replicate] at hr
      split at hr <;> simp at hr
theorem cnt_succ (r : List Bool) (k : Nat) : cnt r (k + 1) = cnt r k + (if r.getD k false then 1 else 0) := by
  unfold cnt
  by_cases h : k < r.length
  · rw [List.take_succ_eq_append_getElem h, List.countP_append, List.getD_eq_getElem?_getD, List.getElem?_eq_getElem h]
    cases hb : r[k] <;> simp
  · rw [List.take_of_length_le (by omega), List.take_of_length_le (by omega), List.getD_eq_getElem?_getD, List.getElem?_eq_none (by omega)]
    simp
theorem cnt_mono (r : List Bool) {a b : Nat} (h : a ≤ b) : cnt r a ≤ cnt r b := by
  induction b with
  | zero => obtain rfl : a = 0 := by omega
            exact Nat.le_refl _
  | succ b ih =>
    by_cases e : a = b + 1
    · subst e; exact Nat.le_refl _
    · have := ih (by omega)
      rw [cnt_succ]; omega
theorem cnt_le (r : List Bool) (k : Nat) : cnt r k ≤ k := by
  induction k with
  | zero => simp [cnt]
  | succ k ih => rw [cnt_succ]; split <;> omega
theorem cnt_zero (r : List Bool) : cnt r 0 = 0 := by simp [cnt]
theorem cnt_yes {r : List Bool} {k : Nat} (h : r.getD k false = true) : cnt r (k + 1) = cnt r k + 1 := by rw [cnt_succ, h]; rfl
theorem cnt_inj {r : List Bool} {a b : Nat} (ha : r.getD a false = true) (hb : r.getD b false = true) (h : cnt r a = cnt r b) : a = b := by
  rcases Nat.lt_trichotomy a b with q | q | q
  · have h1 := cnt_mono r (show a + 1 ≤ b from q); rw [cnt_yes ha] at h1; omega
  · exact q
  · have h1 := cnt_mono r (show b + 1 ≤ a from q); rw [cnt_yes hb] at h1; omega
theorem cnt_lt {r : List Bool} {a b : Nat} (ha : r.getD a false = true) (h : a < b) : cnt r a < cnt r b := by
  have h1 := cnt_mono r (show a + 1 ≤ b from h); rw [cnt_yes ha] at h1; omega
theorem cnt_surj (r : List Bool) {m n : Nat} (h : m < cnt r n) : ∃ k, k < n ∧ r.getD k false = true ∧ cnt r k = m := by
  induction n with
  | zero => simp [cnt] at h
  | succ n ih =>
    rw [cnt_succ] at h
    by_cases q : m < cnt r n
    · obtain ⟨k, h1, h2, h3⟩ := ih q
      exact ⟨k, by omega, h2, h3⟩
    · by_cases hb : r.getD n false = true
      · rw [hb] at h
        simp only [if_true] at h
        exact ⟨n, by omega, hb, by omega⟩
      · simp only [Bool.not_eq_true] at hb
        rw [hb] at h
        simp at h
        omega
theorem stripGo_len (r : List Bool) (l : List Ins) (k : Nat) : (stripGo r l k).length + cnt r k = cnt r (k + l.length) := by
  induction l generalizing k with
  | nil => simp [stripGo]
  | cons i t ih =>
    have := ih (k + 1)
    rw [cnt_succ] at this
    unfold stripGo
    rw [List.length_cons, show k + (t.length + 1) = k + 1 + t.length by omega]
    split
    · rename_i h
      rw [h] at this
      simp only [if_true] at this
      rw [List.length_cons]; omega
    · rename_i h
      simp only [Bool.not_eq_true] at h
      rw [h] at this
      simp only [Bool.false_eq_true, if_false] at this
      omega
theorem stripGo_get (r : List Bool) (l : List Ins) (k j : Nat) (hj : j < l.length) (hr : r.getD (k + j) false = true) : (stripGo r l k)[cnt r (k + j) - cnt r k]? = some (near r l[j] (k + j)) := by
  induction l generalizing k j with
  | nil => simp at hj
  | cons i t ih =>
    unfold stripGo
    cases j with
    | zero =>
      rw [Nat.add_zero] at hr
      rw [if_pos hr]
      simp
    | succ j =>
      have h1 := ih (k + 1) j (by simpa using hj) (by rw [show k + 1 + j = k + (j + 1) by omega]; exact hr)
      rw [show k + 1 + j = k + (j + 1) by omega] at h1
      have hm := cnt_mono r (show k + 1 ≤ k + (j + 1) by omega)
      rw [cnt_succ] at h1 hm
      split
      · rename_i hb
        rw [hb] at h1 hm
        simp only [if_true] at h1 hm
        rw [show cnt r (k + (j + 1)) - cnt r k = (cnt r (k + (j + 1)) - (cnt r k + 1)) + 1 by omega, List.getElem?_cons_succ, h1]
        rfl
      · rename_i hb
        simp only [Bool.not_eq_true] at hb
        rw [hb] at h1
        simpa using h1
end Go.Proofs.Ytcimcihhpkedfaa
namespace Go.Proofs.Ytcimcihhpkedfaa
open Go Go.RowKit
/-- what a filter that may be loaded is -/
structure Flt (l : List Ins) : Prop where
  ok : ∀ i ∈ l, i.ok
  pos : 0 < l.length
  max : l.length ≤ 4096
  one : ∀ (k : Nat) (h : k < l.length), one l[k] (k : Int) l.length = 0
  wd : Wd l
  ret : ∀ h : l.length - 1 < l.length, isRet l[l.length - 1] = true
  lds : loads l = (0, 0)
theorem flt_of {l : List Ins} (hl : ∀ i ∈ l, i.ok) (h : check l = (0, 0)) : Flt l := by
  obtain ⟨h1, h2, h3, h4, h5⟩ := check_parts h
  refine ⟨hl, h1, h2, ?_, ways_lt hl h3 h4, ?_, h5⟩
  · intro k hk
    have := firstBad_none h3 k hk
    rwa [Nat.zero_add] at this
  · intro hh
    rwa [List.getD_eq_getElem?_getD, List.getElem?_eq_getElem hh] at h4
theorem firstBad_nil {n : Nat} {l : List Ins} {at_ : Nat} (h : ∀ (k : Nat) (h : k < l.length), one l[k] ((at_ + k : Nat) : Int) n = 0) : firstBad n l at_ = none := by
  induction l generalizing at_ with
  | nil => rfl
  | cons i l ih =>
    have h0 := h 0 (by simp)
    simp only [List.getElem_cons_zero, Nat.add_zero] at h0
    rw [firstBad_cons, if_neg (fun q => q h0)]
    refine ih fun k hk => ?_
    have := h (k + 1) (by simpa using hk)
    rwa [List.getElem_cons_succ, show at_ + (k + 1) = at_ + 1 + k by omega] at this
theorem Flt.check {l : List Ins} (f : Flt l) : check l = (0, 0) := by
  refine check_of f.pos f.max (firstBad_nil fun k hk => ?_) ?_ f.lds
  · rw [Nat.zero_add]; exact f.one k hk
  · rw [List.getD_eq_getElem?_getD, List.getElem?_eq_getElem (by have := f.pos; omega)]
    exact f.ret (by have := f.pos; omega)
-- the certificate of loads
def sub (a b : Int) : Prop := ∀ j, a.toNat.testBit j = true → b.toNat.testBit j = true
theorem sub_refl (a : Int) : sub a a := fun _ h => h
theorem sub_trans {a b c : Int} (h : sub a b) (h2 : sub b c) : sub a c := fun j q => h2 j (h j q)
theorem sub_and {a b c : Int} (h : sub a b) (h2 : sub a c) : sub a (iand b c) := by
  intro j q
  simp only [iand, Int.toNat_natCast, Nat.testBit_and, h j q, h2 j q, Bool.and_self]
theorem and_sub1 (a b : Int) : sub (iand a b) a := by
  intro j q
  simp only [iand, Int.toNat_natCast, Nat.testBit_and, Bool.and_eq_true] at q
  exact q.1
theorem and_sub2 (a b : Int) : sub (iand a b) b := by
  intro j q
  simp only [iand, Int.toNat_natCast, Nat.testBit_and, Bool.and_eq_true] at q
  exact q.2
theorem sub_now {i : Ins} {a b : Int} (h : sub a b) : sub (nowOf i a) (nowOf i b) := by
  unfold nowOf
  split
  · intro j q
    simp only [ior, Int.toNat_natCast, Nat.testBit_or, Bool.or_eq_true] at q ⊢
    rcases q with q | q
    · exact .inl (h j q)
    · exact .inr q
  · exact h
theorem bit_sub {a b k : Int} (ha : 0 ≤ a) (hb : 0 ≤ b) (h : sub a b) (h1 : bit a k ≠ 0) : bit b k ≠ 0 := by
  have key : ∀ x : Int, 0 ≤ x → (bit x k ≠ 0 ↔ x.toNat.testBit (min k.toNat 16) = true) := by
    intro x hx
    obtain ⟨n, rfl⟩ := Int.eq_ofNat_of_zero_le hx
    have e : ((n : Int)).fdiv (2 ^ (min k.toNat 16)) = ((n / 2 ^ (min k.toNat 16) : Nat) : Int) := by
      rw [Int.fdiv_eq_ediv_of_nonneg _ (Int.le_of_lt (Int.pow_pos (by omega)))]
      simp
    unfold bit iand
    rw [e]
    simp only [Int.toNat_natCast]
    rw [Nat.testBit_eq_decide_div_mod_eq, decide_eq_true_iff]
    have e2 : (1 : Int).toNat = 1 := rfl
    rw [e2, Nat.and_one_is_mod]
    omega
  exact (key b hb).2 (h _ ((key a ha).1 h1))
theorem meetAll_get_sub {ws : List Nat} {nw c : Int} {st : List Int} {x : Nat} (h : sub c (st.getD x 0)) (h2 : x ∈ ws → sub c nw) : sub c ((meetAll ws nw st).getD x 0) := by
  unfold meetAll
  induction ws generalizing st with
  | nil => exact h
  | cons w ws ih =>
    rw [List.foldl_cons]
    refine ih ?_ (fun q => h2 (by simp [q]))
    rw [getD_set]
    split
    · rename_i e
      obtain ⟨rfl, _⟩ := e
      exact sub_and h (h2 (by simp))
    · exact h
theorem meetAll_sub_get {ws : List Nat} {nw : Int} {st : List Int} {x : Nat} : sub ((meetAll ws nw st).getD x 0) (st.getD x 0) := by
  unfold meetAll
  induction ws generalizing st with
  | nil => exact sub_refl _
  | cons w ws ih =>
    rw [List.foldl_cons]
    refine sub_trans ih ?_
    rw [getD_set]
    split
    · rename_i e
      obtain ⟨rfl, _⟩ := e
      exact and_sub1 _ _
    · exact sub_refl _
theorem meetAll_sub_now {ws : List Nat} {nw : Int} {st : List Int} {x : Nat} (hx : x ∈ ws) (hl : x < st.length) : sub ((meetAll ws nw st).getD x 0) nw := by
  induction ws generalizing st with
  | nil => simp at hx
  | cons w ws ih =>
    have e : meetAll (w :: ws) nw st = meetAll ws nw (st.set w (iand (st.getD w 0) nw)) := rfl
    rw [e]
    by_cases q : x ∈ ws
    · exact ih q (by rw [List.length_set]; exact hl)
    · have : x = w := by simpa [q] using hx
      subst this
      refine sub_trans meetAll_sub_get ?_
      rw [getD_set, if_pos ⟨rfl, hl⟩]
      exact and_sub2 _ _
structure LC (l : List Ins) (S : Nat → Int) : Prop where
  zero : S 0 = 0
  rng : ∀ k, k < l.length → 0 ≤ S k ∧ S k < 65536
  ld : ∀ (k : Nat) (h : k < l.length), isLd l[k] = true → bit (S k) l[k].k ≠ 0
  next : ∀ (k : Nat) (h : k < l.length), ∀ x ∈ ways l[k] k, sub (S x) (nowOf l[k] (S k))
theorem sub_full {a : Int} (h : 0 ≤ a ∧ a < 65536) : sub a 65535 := by
  intro j q
  have hj : j < 16 := by
    by_cases c : j < 16
    · exact c
    · have : a.toNat < 2 ^ j := Nat.lt_of_lt_of_le (by omega) (Nat.pow_le_pow_right (by omega) (show 16 ≤ j by omega))
      rw [Nat.testBit_lt_two_pow this] at q
      simp at q
  have e : (65535 : Int).toNat = 2 ^ 16 - 1 := rfl
  rw [e, Nat.testBit_two_pow_sub_one]
  simpa using hj
theorem init_get {n x : Nat} (hx : x < n) : ((List.replicate n (65535 : Int)).set 0 0).getD x 0 = if x = 0 then 0 else 65535 := by
  rw [getD_set]
  by_cases h : x = 0
  · subst h; simp [hx]
  · rw [if_neg (by omega), if_neg h, List.getD_eq_getElem?_getD, List.getElem?_replicate]
    simp [hx]
theorem loads_of {l : List Ins} {S : Nat → Int} (hw : Wd l) (c : LC l S) : loads l = (0, 0) := by
  have go : ∀ (m k : Nat) (st : List Int), l.length - k = m → k ≤ l.length → st.length = l.length → (∀ x ∈ st, 0 ≤ x ∧ x < 65536) → (∀ x, x < l.length → sub (S x) (st.getD x 0)) → loadsGo (l.drop k) k st = (0, 0) := by
    intro m
    induction m with
    | zero =>
      intro k st hm hk _ _ _
      obtain rfl : k = l.length := by omega
      rw [List.drop_length]; rfl
    | succ m ih =>
      intro k st hm hk hlen hrg hs
      have hlt : k < l.length := by omega
      rw [List.drop_eq_getElem_cons hlt, loadsGo]
      have hg : ∀ x, 0 ≤ st.getD x 0 := by
        intro x
        rw [List.getD_eq_getElem?_getD]
        cases hx : st[x]? with
        | none => simp
        | some y => exact (hrg y (List.mem_of_getElem? hx)).1
      rw [if_neg]
      · refine ih (k + 1) _ (by omega) (by omega) (by rw [meetAll_len, hlen]) (meetAll_rng _ _ _ hrg) ?_
        intro x hx
        refine meetAll_get_sub (hs x hx) (fun q => ?_)
        exact sub_trans (c.next k hlt x q) (sub_now (hs k hlt))
      · intro q
        simp only [Bool.and_eq_true, decide_eq_true_eq] at q
        exact bit_sub (c.rng k hlt).1 (hg k) (hs k hlt) (c.ld k hlt q.1) q.2
  have := go l.length 0 ((List.replicate l.length 65535).set 0 0) rfl (Nat.zero_le _) (by simp) ?_ ?_
  · rwa [List.drop_zero] at this
  · intro x hx
    rcases List.mem_or_eq_of_mem_set hx with h | rfl
    · have := List.eq_of_mem_replicate h; omega
    · omega
  · intro x hx
    rw [init_get hx]
    split
    · rename_i e; subst e; rw [c.zero]; exact sub_refl _
    · exact sub_full (c.rng x hx)
/-- the states of loads, one by one -/
def stAt (l : List Ins) : Nat → List Int
  | 0 => (List.replicate l.length 65535).set 0 0
  | k + 1 => meetAll (ways (l.getD k I0) k) (nowOf (l.getD k I0) ((stAt l k).getD k 0)) (stAt l k)
theorem getD_lt {l : List Ins} {k : Nat} (h : k < l.length) : l.getD k I0 = l[k] := by rw [List.getD_eq_getElem?_getD, List.getElem?_eq_getElem h]; rfl
theorem stAt_len (l : List Ins) (k : Nat) : (stAt l k).length = l.length := by
  induction k with
  | zero => simp [stAt]
  | succ k ih => rw [stAt, meetAll_len, ih]
theorem stAt_rng (l : List Ins) (k : Nat) : ∀ x ∈ stAt l k, 0 ≤ x ∧ x < 65536 := by
  induction k with
  | zero =>
    intro x hx
    rcases List.mem_or_eq_of_mem_set hx with h | rfl
    · have := List.eq_of_mem_replicate h; omega
    · omega
  | succ k ih => exact meetAll_rng _ _ _ ih
theorem stAt_dec (l : List Ins) {a b : Nat} (h : a ≤ b) (x : Nat) : sub ((stAt l b).getD x 0) ((stAt l a).getD x 0) := by
  induction b with
  | zero => obtain rfl : a = 0 := by omega
            exact sub_refl _
  | succ b ih =>
    by_cases e : a = b + 1
    · subst e; exact sub_refl _
    · exact sub_trans meetAll_sub_get (ih (by omega))
theorem stAt_go {l : List Ins} (h : loads l = (0, 0)) (k : Nat) (hk : k ≤ l.length) : loadsGo (l.drop k) k (stAt l k) = (0, 0) := by
  induction k with
  | zero => rw [List.drop_zero]; exact h
  | succ k ih =>
    have h1 := ih (by omega)
    have hlt : k < l.length := by omega
    rw [List.drop_eq_getElem_cons hlt, loadsGo] at h1
    split at h1
    · exact absurd (congrArg Prod.snd h1) (by simp)
    · rw [stAt, getD_lt hlt]; exact h1
theorem loads_cert {l : List Ins} (hw : Wd l) (h0 : 0 < l.length) (h : loads l = (0, 0)) : LC l (fun k => (stAt l k).getD k 0) := by
  have rg : ∀ k x, 0 ≤ (stAt l k).getD x 0 ∧ (stAt l k).getD x 0 < 65536 := by
    intro k x
    rw [List.getD_eq_getElem?_getD]
    cases hx : (stAt l k)[x]? with
    | none => simp
    | some y => exact stAt_rng l k y (List.mem_of_getElem? hx)
  refine ⟨?_, fun k _ => rg k k, ?_, ?_⟩
  · rw [stAt, init_get h0]; rfl
  · intro k hk hl
    have h1 := stAt_go h k (by omega)
    rw [List.drop_eq_getElem_cons hk, loadsGo] at h1
    split at h1
    · exact absurd (congrArg Prod.snd h1) (by simp)
    · rename_i q
      intro e
      exact q (by simp only [Bool.and_eq_true, decide_eq_true_eq]; exact ⟨hl, e⟩)
  · intro k hk x hx
    have hx2 := hw k hk x hx
    have h1 := stAt_dec l (show k + 1 ≤ x by omega) x
    refine sub_trans h1 ?_
    rw [stAt, getD_lt hk]
    exact meetAll_sub_now hx (by rw [stAt_len]; exact hx2.2)
-- the certificate of longest
def mx (xs : List Int) : Int := xs.foldl max 0
structure MC (l : List Ins) (f : Nat → Int) : Prop where
  eq : ∀ (k : Nat) (h : k < l.length), f k = mx ((ways l[k] k).map f) + 1
theorem updL_eq {ws : List Nat} {k : Nat} {st : List Int} (hk : k < st.length) (h : ∀ x ∈ ws, x ≠ k) : updL ws k st = st.set k (ws.foldl (fun m x => max m (st.getD x 0)) (st.getD k 0)) := by
  have go : ∀ (ws : List Nat) (m : Int), (∀ x ∈ ws, x ≠ k) → updL ws k (st.set k m) = st.set k (ws.foldl (fun m x => max m (st.getD x 0)) m) := by
    intro ws
    induction ws with
    | nil => intro m _; rfl
    | cons w ws ih =>
      intro m hh
      have hw := hh w (by simp)
      have e : updL (w :: ws) k (st.set k m) = updL ws k ((st.set k m).set k (max ((st.set k m).getD k 0) ((st.set k m).getD w 0))) := rfl
      rw [e, getD_set, if_pos ⟨rfl, hk⟩, getD_set, if_neg (by omega), List.set_set, ih _ (fun x hx => hh x (by simp [hx]))]
      rfl
  have e : st.set k (st.getD k 0) = st := by
    apply List.ext_getElem?
    intro j
    rw [List.getElem?_set]
    split
    · rename_i q; subst q
      rw [List.getD_eq_getElem?_getD, List.getElem?_eq_getElem hk]
      first | rfl | (rw [if_pos hk]; rfl)
    · rfl
  have := go ws (st.getD k 0) h
  rwa [e] at this
theorem foldl_max_map (ws : List Nat) (f : Nat → Int) (m : Int) : ws.foldl (fun m x => max m (f x)) m = (ws.map f).foldl max m := by
  induction ws generalizing m with
  | nil => rfl
  | cons w ws ih => exact ih _
theorem stepL_eq {i : Ins} {k : Nat} {st : List Int} (hk : k < st.length) (h0 : st.getD k 0 = 0) (h : ∀ x ∈ ways i k, k < x) : stepL i k st = st.set k (mx ((ways i k).map fun x => st.getD x 0) + 1) := by
  unfold stepL mx
  rw [updL_eq hk (fun x hx => by have := h x hx; omega), h0, getD_set, if_pos ⟨rfl, hk⟩, List.set_set, foldl_max_map _ (fun x => st.getD x 0)]
theorem longest_of {l : List Ins} {f : Nat → Int} (hw : Wd l) (h0 : 0 < l.length) (c : MC l f) : longest l = f 0 := by
  have go : ∀ (k : Nat) (st : List Int), k ≤ l.length → st.length = l.length → (∀ x, k ≤ x → x < l.length → st.getD x 0 = f x) → (∀ x, x < k → st.getD x 0 = 0) → (longGo l k st).getD 0 0 = f 0 := by
    intro k
    induction k with
    | zero => intro st _ _ h _; exact h 0 (Nat.le_refl _) h0
    | succ k ih =>
      intro st hk hlen h h2
      have hlt : k < l.length := by omega
      have hd : l.getD k ⟨0, 0, 0, 0⟩ = l[k] := getD_lt hlt
      rw [longGo, hd, stepL_eq (by omega) (h2 k (by omega)) (fun x hx => (hw k hlt x hx).1)]
      have e : (ways l[k] k).map (fun x => st.getD x 0) = (ways l[k] k).map f := by
        apply List.map_congr_left
        intro x hx
        have := hw k hlt x hx
        exact h x (by omega) this.2
      rw [e, ← c.eq k hlt]
      refine ih _ (by omega) (by rw [List.length_set]; exact hlen) ?_ ?_
      · intro x hx hx2
        rw [getD_set]
        split
        · rename_i q; rw [q.1]
        · rename_i q; exact h x (by omega) hx2
      · intro x hx
        rw [getD_set, if_neg (by omega)]
        exact h2 x (by omega)
  refine go l.length _ (Nat.le_refl _) (by simp) (fun x h1 h2 => by omega) ?_
  intro x hx
  rw [List.getD_eq_getElem?_getD, List.getElem?_replicate]
  simp [hx]
theorem longest_cert {l : List Ins} (hw : Wd l) : ∃ f, MC l f := by
  have go : ∀ m, ∃ f : Nat → Int, ∀ (k : Nat) (h : k < l.length), l.length ≤ k + m → f k = mx ((ways l[k] k).map f) + 1 := by
    intro m
    induction m with
    | zero => exact ⟨fun _ => 0, fun k h h2 => by omega⟩
    | succ m ih =>
      obtain ⟨f, hf⟩ := ih
      by_cases hm : m < l.length
      · refine ⟨fun x => if x = l.length - (m + 1) then mx ((ways (l.getD (l.length - (m + 1)) I0) (l.length - (m + 1))).map f) + 1 else f x, fun k h h2 => ?_⟩
        have e : (ways l[k] k).map (fun x => if x = l.length - (m + 1) then mx ((ways (l.getD (l.length - (m + 1)) I0) (l.length - (m + 1))).map f) + 1 else f x) = (ways l[k] k).map f := by
          apply List.map_congr_left
          intro x hx
          have := hw k h x hx
          rw [if_neg (by omega)]
        rw [e]
        by_cases q : k = l.length - (m + 1)
        · dsimp only
          rw [if_pos q, ← q, getD_lt h]
        · dsimp only
          rw [if_neg q]
          exact hf k h (by omega)
      · exact ⟨f, fun k h h2 => hf k h (by omega)⟩
  obtain ⟨f, hf⟩ := go l.length
  exact ⟨f, ⟨fun k h => hf k h (by omega)⟩⟩
end Go.Proofs.Ytcimcihhpkedfaa
namespace Go.Proofs.Ytcimcihhpkedfaa
open Go Go.RowKit
/-- a filter and what of it is reached -/
structure Str (l : List Ins) (r : List Bool) : Prop where
  f : Flt l
  r : Rch l r
variable {l : List Ins} {r : List Bool}
theorem Str.lt (s : Str l r) {k : Nat} (h : r.getD k false = true) : k < l.length := by
  by_cases q : k < l.length
  · exact q
  · rw [List.getD_eq_getElem?_getD, List.getElem?_eq_none (by rw [s.r.len]; omega)] at h
    simp at h
theorem near_code (r : List Bool) (i : Ins) (k : Nat) : (near r i k).code = i.code := by unfold near; split <;> (try split) <;> rfl
theorem near_k {r : List Bool} {i : Ins} {k : Nat} (h : i.code ≠ 5) : (near r i k).k = i.k := by unfold near; rw [if_neg h]; split <;> rfl
theorem wrapu32_of {x : Int} (h : 0 ≤ x ∧ x < 4294967296) : IntKind.u32.wrap x = x := by
  have : IntKind.u32.wrap x = x % 4294967296 := by simp only [IntKind.wrap, IntKind.bits, IntKind.signed]; simp
  omega
theorem wrapu8_of {x : Int} (h : 0 ≤ x ∧ x < 256) : IntKind.u8.wrap x = x := by
  have : IntKind.u8.wrap x = x % 256 := by simp only [IntKind.wrap, IntKind.bits, IntKind.signed]; simp
  omega
/-- how far a way goes in what is left -/
theorem Str.far (s : Str l r) {k : Nat} (hr : r.getD k false = true) {d : Int} (hd : 0 ≤ d) (h : k + 1 + d.toNat < l.length) (ht : r.getD (k + 1 + d.toNat) false = true) :
    0 ≤ (cnt r (k + 1 + d.toNat) : Int) - ((cnt r k : Int) + 1) ∧ (cnt r (k + 1 + d.toNat) : Int) - ((cnt r k : Int) + 1) ≤ d ∧ (cnt r (k + 1 + d.toNat) : Int) < cnt r l.length := by
  have h1 := cnt_lt hr (show k < k + 1 + d.toNat by omega)
  have h2 := cnt_lt ht h
  have h3 : cnt r (k + 1 + d.toNat) ≤ cnt r (k + 1) + d.toNat := by
    clear h ht h1 h2
    generalize d.toNat = m
    induction m with
    | zero => exact Nat.le_refl _
    | succ m ih => rw [show k + 1 + (m + 1) = k + 1 + m + 1 by omega, cnt_succ]; split <;> omega
  rw [cnt_yes hr] at h3
  omega
theorem Str.near (s : Str l r) {k : Nat} (hr : r.getD k false = true) (hk : k < l.length) :
    (near r l[k] k).ok ∧ one (near r l[k] k) (cnt r k) (cnt r l.length) = 0 ∧ ways (near r l[k] k) (cnt r k) = (ways l[k] k).map (cnt r) := by
  have hok := s.f.ok _ (List.getElem_mem hk)
  have h1 := s.f.one k hk
  have hwd := s.f.wd k hk
  have hnx := s.r.next k hk hr
  have hn := cnt_mono r (show k + 1 ≤ l.length from hk)
  rw [cnt_yes hr] at hn
  generalize l[k] = i at *
  obtain ⟨c, jt, jf, kk⟩ := i
  obtain ⟨hc, ht, hf, hkk⟩ := hok
  dsimp only at hc ht hf hkk
  by_cases c5 : c = 5
  · subst c5
    have hway : ways ⟨5, jt, jf, kk⟩ k = [k + 1 + kk.toNat] := by simp [ways]
    rw [hway] at hwd hnx ⊢
    have q1 := hwd (k + 1 + kk.toNat) (by simp)
    have q2 := hnx (k + 1 + kk.toNat) (by simp)
    have q3 := s.far hr hkk.1 q1.2 q2
    have e : Go.Proofs.Ytcimcihhpkedfaa.near r ⟨5, jt, jf, kk⟩ k = ⟨5, jt, jf, (cnt r (k + 1 + kk.toNat) : Int) - ((cnt r k : Int) + 1)⟩ := by
      unfold Go.Proofs.Ytcimcihhpkedfaa.near
      rw [if_pos rfl, wrapu32_of (by dsimp only; omega)]
    rw [e]
    refine ⟨⟨by dsimp only; omega, ht, hf, by dsimp only; omega⟩, ?_, ?_⟩
    · have hkn : known 5 = true := by decide
      simp [one, hkn]
      omega
    · simp [ways]
      omega
  · by_cases c8 : c % 8 = 5
    · have hway : ways ⟨c, jt, jf, kk⟩ k = [k + 1 + jt.toNat, k + 1 + jf.toNat] := by simp [ways, c5, c8]
      rw [hway] at hwd hnx ⊢
      have q1 := hwd (k + 1 + jt.toNat) (by simp)
      have q2 := hnx (k + 1 + jt.toNat) (by simp)
      have q3 := s.far hr ht.1 q1.2 q2
      have p1 := hwd (k + 1 + jf.toNat) (by simp)
      have p2 := hnx (k + 1 + jf.toNat) (by simp)
      have p3 := s.far hr hf.1 p1.2 p2
      have e : Go.Proofs.Ytcimcihhpkedfaa.near r ⟨c, jt, jf, kk⟩ k = ⟨c, (cnt r (k + 1 + jt.toNat) : Int) - ((cnt r k : Int) + 1), (cnt r (k + 1 + jf.toNat) : Int) - ((cnt r k : Int) + 1), kk⟩ := by
        unfold Go.Proofs.Ytcimcihhpkedfaa.near
        rw [if_neg c5, if_pos c8, wrapu8_of (by dsimp only; omega), wrapu8_of (by dsimp only; omega)]
      rw [e]
      refine ⟨⟨hc, by dsimp only; omega, by dsimp only; omega, hkk⟩, ?_, ?_⟩
      · unfold one at h1 ⊢
        dsimp only at h1 ⊢
        split at h1
        · omega
        rename_i k1
        rw [if_neg k1, if_neg (fun q => c5 q.1), if_neg (fun q => by omega)]
        split at h1
        · omega
        rw [if_neg (fun q => by omega), if_neg (fun q => by simp at q; omega), if_neg (fun q => by omega), if_neg (fun q => by omega)]
      · simp [ways, c5, c8]
        omega
    · have e : Go.Proofs.Ytcimcihhpkedfaa.near r ⟨c, jt, jf, kk⟩ k = ⟨c, jt, jf, kk⟩ := by
        unfold Go.Proofs.Ytcimcihhpkedfaa.near
        rw [if_neg c5, if_neg c8]
      rw [e]
      refine ⟨⟨hc, ht, hf, hkk⟩, ?_, ?_⟩
      · unfold one at h1 ⊢
        dsimp only at h1 ⊢
        split at h1
        · omega
        rename_i k1
        rw [if_neg k1, if_neg (fun q => c5 q.1), if_neg (fun q => c8 q.1)]
        rw [if_neg (fun q => c5 q.1), if_neg (fun q => c8 q.1)] at h1
        exact h1
      · by_cases c6 : c % 8 = 6
        · simp [ways, c6]
        · simp [ways, c5, c8, c6, cnt_yes hr]
theorem Str.zero (s : Str l r) : r.getD 0 false = true := s.r.zero s.f.pos
theorem Str.get (s : Str l r) {k : Nat} (hr : r.getD k false = true) : (stripGo r l 0)[cnt r k]? = some (Go.Proofs.Ytcimcihhpkedfaa.near r (l[k]'(s.lt hr)) k) := by
  have h := stripGo_get r l 0 k (s.lt hr) (by rwa [Nat.zero_add])
  rwa [Nat.zero_add, cnt_zero, Nat.sub_zero] at h
theorem Str.len (s : Str l r) : (stripGo r l 0).length = cnt r l.length := by
  have h := stripGo_len r l 0
  rwa [cnt_zero, Nat.zero_add, Nat.add_zero] at h
/-- each instruction of what is left is one that is reached -/
theorem Str.from (s : Str l r) {m : Nat} (hm : m < (stripGo r l 0).length) : ∃ k, ∃ hr : r.getD k false = true, cnt r k = m ∧ (stripGo r l 0)[m] = Go.Proofs.Ytcimcihhpkedfaa.near r (l[k]'(s.lt hr)) k := by
  rw [s.len] at hm
  obtain ⟨k, _, h2, h3⟩ := cnt_surj r hm
  refine ⟨k, h2, h3, ?_⟩
  have := s.get h2
  subst h3
  rw [List.getElem?_eq_getElem (by rw [s.len]; exact hm)] at this
  exact Option.some.inj this
/-- a function of places, carried to what is left -/
noncomputable def lif (r : List Bool) (g : Nat → Int) (m : Nat) : Int := by
  classical exact if h : ∃ k, r.getD k false = true ∧ cnt r k = m then g h.choose else 0
theorem lif_at (g : Nat → Int) {k : Nat} (hr : r.getD k false = true) : lif r g (cnt r k) = g k := by
  have h : ∃ j, r.getD j false = true ∧ cnt r j = cnt r k := ⟨k, hr, rfl⟩
  unfold lif
  rw [dif_pos h]
  rw [cnt_inj h.choose_spec.1 hr h.choose_spec.2]
theorem Str.strip (s : Str l r) : Flt (stripGo r l 0) := by
  have hz := s.zero
  have hp : 0 < (stripGo r l 0).length := by rw [s.len]; have := cnt_lt hz s.f.pos; omega
  have hwd : Wd (stripGo r l 0) := by
    intro m hm x hx
    obtain ⟨k, hr, rfl, e⟩ := s.from hm
    rw [e, (s.near hr (s.lt hr)).2.2] at hx
    obtain ⟨y, hy, rfl⟩ := List.mem_map.1 hx
    have h1 := s.f.wd k (s.lt hr) y hy
    have h2 := s.r.next k (s.lt hr) hr y hy
    rw [s.len]
    exact ⟨cnt_lt hr h1.1, cnt_lt h2 h1.2⟩
  have hn : (stripGo r l 0).length ≤ l.length := by rw [s.len]; exact cnt_le r _
  refine ⟨?_, hp, by have := s.f.max; omega, ?_, hwd, ?_, ?_⟩
  · intro i hi
    obtain ⟨m, hm, rfl⟩ := List.getElem_of_mem hi
    obtain ⟨k, hr, rfl, e⟩ := s.from hm
    rw [e]; exact (s.near hr (s.lt hr)).1
  · intro m hm
    obtain ⟨k, hr, rfl, e⟩ := s.from hm
    rw [e, s.len]; exact (s.near hr (s.lt hr)).2.1
  · intro hh
    obtain ⟨k, hr, hk, e⟩ := s.from hh
    rw [e]
    unfold isRet
    rw [near_code]
    by_cases q : (l[k]'(s.lt hr)).code % 8 = 6
    · simpa using q
    · exfalso
      have : ∃ x, x ∈ ways (l[k]'(s.lt hr)) k := by
        unfold ways
        rw [if_neg q]
        split
        · exact ⟨_, List.mem_cons_self ..⟩
        split
        · exact ⟨_, List.mem_cons_self ..⟩
        · exact ⟨_, List.mem_cons_self ..⟩
      obtain ⟨x, hx⟩ := this
      have h1 := s.f.wd k (s.lt hr) x hx
      have h2 := s.r.next k (s.lt hr) hr x hx
      have h3 := cnt_lt h2 h1.2
      have h4 := cnt_lt hr h1.1
      rw [s.len] at hk hp
      omega
  · have c := loads_cert s.f.wd s.f.pos s.f.lds
    generalize (fun k => (stAt l k).getD k 0) = S at c
    refine loads_of (S := lif r S) hwd ⟨?_, ?_, ?_, ?_⟩
    · have := lif_at S hz
      rw [cnt_zero] at this
      rw [this, c.zero]
    · intro m hm
      obtain ⟨k, hr, rfl, e⟩ := s.from hm
      rw [lif_at S hr]
      exact c.rng k (s.lt hr)
    · intro m hm hld
      obtain ⟨k, hr, rfl, e⟩ := s.from hm
      rw [e] at hld ⊢
      rw [lif_at S hr]
      have hld2 : isLd (l[k]'(s.lt hr)) = true := by unfold isLd at hld ⊢; rwa [near_code] at hld
      rw [near_k]
      · exact c.ld k (s.lt hr) hld2
      · intro e5; simp [isLd, e5] at hld2
    · intro m hm x hx
      obtain ⟨k, hr, rfl, e⟩ := s.from hm
      rw [e, (s.near hr (s.lt hr)).2.2] at hx
      obtain ⟨y, hy, rfl⟩ := List.mem_map.1 hx
      have h2 := s.r.next k (s.lt hr) hr y hy
      rw [e, lif_at S hr, lif_at S h2]
      have h3 := c.next k (s.lt hr) y hy
      unfold nowOf at h3 ⊢
      have hst : isSt (Go.Proofs.Ytcimcihhpkedfaa.near r (l[k]'(s.lt hr)) k) = isSt (l[k]'(s.lt hr)) := by unfold isSt; rw [near_code]
      rw [hst]
      split
      · rename_i q
        rw [if_pos q] at h3
        rw [near_k]
        · exact h3
        · intro e5; simp [isSt, e5] at q
      · rename_i q
        rw [if_neg q] at h3
        exact h3
theorem Str.longest (s : Str l r) : longest (stripGo r l 0) = longest l := by
  obtain ⟨f, c⟩ := longest_cert s.f.wd
  rw [longest_of s.f.wd s.f.pos c, longest_of (f := lif r f) s.strip.wd s.strip.pos ⟨?_⟩]
  · have := lif_at f s.zero
    rw [cnt_zero] at this
    exact this
  · intro m hm
    obtain ⟨k, hr, rfl, e⟩ := s.from hm
    rw [e, (s.near hr (s.lt hr)).2.2, lif_at f hr, c.eq k (s.lt hr), List.map_map]
    congr 2
    apply List.map_congr_left
    intro x hx
    exact (lif_at f (s.r.next k (s.lt hr) hr x hx)).symm
theorem Str.all (s : Str l r) : ∀ m, m < (stripGo r l 0).length → (reached (stripGo r l 0)).getD m false = true := by
  have R := reached_rch s.strip.wd
  have go : ∀ (b k : Nat), k < b → r.getD k false = true → (reached (stripGo r l 0)).getD (cnt r k) false = true := by
    intro b
    induction b with
    | zero => intro k h; omega
    | succ b ih =>
      intro k hb hr
      by_cases h0 : k = 0
      · subst h0; rw [cnt_zero]; exact R.zero s.strip.pos
      · obtain ⟨j, hj, hjr, hm⟩ := s.r.prev k h0 hr
        have h1 := s.f.wd j hj k hm
        have h2 := ih j (by omega) hjr
        have hlt : cnt r j < (stripGo r l 0).length := by rw [s.len]; exact cnt_lt hjr hj
        refine R.next (cnt r j) hlt h2 _ ?_
        obtain ⟨j', hr', e1, e2⟩ := s.from hlt
        obtain rfl := cnt_inj hr' hjr e1
        rw [e2, (s.near hjr hj).2.2]
        exact List.mem_map_of_mem hm
  intro m hm
  obtain ⟨k, hr, rfl, _⟩ := s.from hm
  exact go (k + 1) k (by omega) hr
theorem cnt_all {r : List Bool} (h : ∀ k, k < r.length → r.getD k false = true) : cnt r r.length = r.length := by
  have go : ∀ k, k ≤ r.length → cnt r k = k := by
    intro k
    induction k with
    | zero => intro _; exact cnt_zero r
    | succ k ih => intro hk; rw [cnt_yes (h k (by omega)), ih (by omega)]
  exact go _ (Nat.le_refl _)
theorem strip_str {l : List Ins} (hl : ∀ i ∈ l, i.ok) (h : check l = (0, 0)) : Str l (reached l) := ⟨flt_of hl h, reached_rch (flt_of hl h).wd⟩
/-- the law -/
theorem strip_ok {l : List Ins} (hl : ∀ i ∈ l, i.ok) (h : check l = (0, 0)) :
    (strip l).length = (reached l).countP id ∧ (∀ i ∈ strip l, i.ok) ∧ check (strip l) = (0, 0) ∧ longest (strip l) = longest l ∧ (strip (strip l)).length = (strip l).length ∧ (∀ b ∈ reached (strip l), b = true) := by
  have s := strip_str hl h
  have e : strip l = stripGo (reached l) l 0 := by unfold strip; rw [if_pos h]
  have c := s.strip.check
  have hall := s.all
  have hlen := s.r.len
  have R2 := reached_rch s.strip.wd
  rw [e]
  refine ⟨?_, s.strip.ok, c, s.longest, ?_, ?_⟩
  · rw [s.len, ← hlen]; unfold cnt; rw [List.take_length]
  · have s2 : Str (stripGo (reached l) l 0) (reached (stripGo (reached l) l 0)) := ⟨s.strip, R2⟩
    unfold strip
    rw [if_pos c, s2.len]
    rw [← R2.len] at hall ⊢
    exact cnt_all hall
  · intro b hb
    obtain ⟨m, hm, rfl⟩ := List.getElem_of_mem hb
    have := hall m (by rw [← R2.len]; exact hm)
    rwa [List.getD_eq_getElem?_getD, List.getElem?_eq_getElem hm] at this
end Go.Proofs.Ytcimcihhpkedfaa
