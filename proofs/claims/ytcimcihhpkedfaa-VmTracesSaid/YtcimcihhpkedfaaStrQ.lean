/- CheckStrips, the plain law: a stripped filter may be loaded, takes as many steps, is reached whole. -/
import Derived.Test.YtcimcihhpkedfaaStrP
namespace Go.Proofs.Ytcimcihhpkedfaa
open Go Go.RowKit
/-- what a filter that may be loaded is -/
structure Flt (l : List Ins) : Prop where
  ok : ∀ i ∈ l, i.ok
  pos : 0 < l.length
  max : l.length ≤ 4096
  one : ∀ (k : Nat) (h : k < l.length), one l[k] (k : Int) l.length = 0
  wd : Wd l
  ret : ∀ h : l.length - 1 < l.length, isRet l[l.length - 1] = true
  lds : loads l = (0, 0)
theorem flt_of {l : List Ins} (hl : ∀ i ∈ l, i.ok) (h : check l = (0, 0)) : Flt l := by
  obtain ⟨h1, h2, h3, h4, h5⟩ := check_parts h
  refine ⟨hl, h1, h2, ?_, ways_lt hl h3 h4, ?_, h5⟩
  · intro k hk
    have := firstBad_none h3 k hk
    rwa [Nat.zero_add] at this
  · intro hh
    rwa [List.getD_eq_getElem?_getD, List.getElem?_eq_getElem hh] at h4
theorem firstBad_nil {n : Nat} {l : List Ins} {at_ : Nat} (h : ∀ (k : Nat) (h : k < l.length), one l[k] ((at_ + k : Nat) : Int) n = 0) : firstBad n l at_ = none := by
  induction l generalizing at_ with
  | nil => rfl
  | cons i l ih =>
    have h0 := h 0 (by simp)
    simp only [List.getElem_cons_zero, Nat.add_zero] at h0
    rw [firstBad_cons, if_neg (fun q => q h0)]
    refine ih fun k hk => ?_
    have := h (k + 1) (by simpa using hk)
    rwa [List.getElem_cons_succ, show at_ + (k + 1) = at_ + 1 + k by omega] at this
theorem Flt.check {l : List Ins} (f : Flt l) : check l = (0, 0) := by
  refine check_of f.pos f.max (firstBad_nil fun k hk => ?_) ?_ f.lds
  · rw [Nat.zero_add]; exact f.one k hk
  · rw [List.getD_eq_getElem?_getD, List.getElem?_eq_getElem (by have := f.pos; omega)]
    exact f.ret (by have := f.pos; omega)
-- the certificate of loads
def sub (a b : Int) : Prop := ∀ j, a.toNat.testBit j = true → b.toNat.testBit j = true
theorem sub_refl (a : Int) : sub a a := fun _ h => h
theorem sub_trans {a b c : Int} (h : sub a b) (h2 : sub b c) : sub a c := fun j q => h2 j (h j q)
theorem sub_and {a b c : Int} (h : sub a b) (h2 : sub a c) : sub a (iand b c) := by
  intro j q
  simp only [iand, Int.toNat_natCast, Nat.testBit_and, h j q, h2 j q, Bool.and_self]
theorem and_sub1 (a b : Int) : sub (iand a b) a := by
  intro j q
  simp only [iand, Int.toNat_natCast, Nat.testBit_and, Bool.and_eq_true] at q
  exact q.1
theorem and_sub2 (a b : Int) : sub (iand a b) b := by
  intro j q
  simp only [iand, Int.toNat_natCast, Nat.testBit_and, Bool.and_eq_true] at q
  exact q.2
theorem sub_now {i : Ins} {a b : Int} (h : sub a b) : sub (nowOf i a) (nowOf i b) := by
  unfold nowOf
  split
  · intro j q
    simp only [ior, Int.toNat_natCast, Nat.testBit_or, Bool.or_eq_true] at q ⊢
    rcases q with q | q
    · exact .inl (h j q)
    · exact .inr q
  · exact h
theorem bit_sub {a b k : Int} (ha : 0 ≤ a) (hb : 0 ≤ b) (h : sub a b) (h1 : bit a k ≠ 0) : bit b k ≠ 0 := by
  have key : ∀ x : Int, 0 ≤ x → (bit x k ≠ 0 ↔ x.toNat.testBit (min k.toNat 16) = true) := by
    intro x hx
    obtain ⟨n, rfl⟩ := Int.eq_ofNat_of_zero_le hx
    have e : ((n : Int)).fdiv (2 ^ (min k.toNat 16)) = ((n / 2 ^ (min k.toNat 16) : Nat) : Int) := by
      rw [Int.fdiv_eq_ediv_of_nonneg _ (Int.le_of_lt (Int.pow_pos (by omega)))]
      simp
    unfold bit iand
    rw [e]
    simp only [Int.toNat_natCast]
    rw [Nat.testBit_eq_decide_div_mod_eq, decide_eq_true_iff]
    have e2 : (1 : Int).toNat = 1 := rfl
    rw [e2, Nat.and_one_is_mod]
    omega
  exact (key b hb).2 (h _ ((key a ha).1 h1))
theorem meetAll_get_sub {ws : List Nat} {nw c : Int} {st : List Int} {x : Nat} (h : sub c (st.getD x 0)) (h2 : x ∈ ws → sub c nw) : sub c ((meetAll ws nw st).getD x 0) := by
  unfold meetAll
  induction ws generalizing st with
  | nil => exact h
  | cons w ws ih =>
    rw [List.foldl_cons]
    refine ih ?_ (fun q => h2 (by simp [q]))
    rw [getD_set]
    split
    · rename_i e
      obtain ⟨rfl, _⟩ := e
      exact sub_and h (h2 (by simp))
    · exact h
theorem meetAll_sub_get {ws : List Nat} {nw : Int} {st : List Int} {x : Nat} : sub ((meetAll ws nw st).getD x 0) (st.getD x 0) := by
  unfold meetAll
  induction ws generalizing st with
  | nil => exact sub_refl _
  | cons w ws ih =>
    rw [List.foldl_cons]
    refine sub_trans ih ?_
    rw [getD_set]
    split
    · rename_i e
      obtain ⟨rfl, _⟩ := e
      exact and_sub1 _ _
    · exact sub_refl _
theorem meetAll_sub_now {ws : List Nat} {nw : Int} {st : List Int} {x : Nat} (hx : x ∈ ws) (hl : x < st.length) : sub ((meetAll ws nw st).getD x 0) nw := by
  induction ws generalizing st with
  | nil => simp at hx
  | cons w ws ih =>
    have e : meetAll (w :: ws) nw st = meetAll ws nw (st.set w (iand (st.getD w 0) nw)) := rfl
    rw [e]
    by_cases q : x ∈ ws
    · exact ih q (by rw [List.length_set]; exact hl)
    · have : x = w := by simpa [q] using hx
      subst this
      refine sub_trans meetAll_sub_get ?_
      rw [getD_set, if_pos ⟨rfl, hl⟩]
      exact and_sub2 _ _
structure LC (l : List Ins) (S : Nat → Int) : Prop where
  zero : S 0 = 0
  rng : ∀ k, k < l.length → 0 ≤ S k ∧ S k < 65536
  ld : ∀ (k : Nat) (h : k < l.length), isLd l[k] = true → bit (S k) l[k].k ≠ 0
  next : ∀ (k : Nat) (h : k < l.length), ∀ x ∈ ways l[k] k, sub (S x) (nowOf l[k] (S k))
theorem sub_full {a : Int} (h : 0 ≤ a ∧ a < 65536) : sub a 65535 := by
  intro j q
  have hj : j < 16 := by
    by_cases c : j < 16
    · exact c
    · have : a.toNat < 2 ^ j := Nat.lt_of_lt_of_le (by omega) (Nat.pow_le_pow_right (by omega) (show 16 ≤ j by omega))
      rw [Nat.testBit_lt_two_pow this] at q
      simp at q
  have e : (65535 : Int).toNat = 2 ^ 16 - 1 := rfl
  rw [e, Nat.testBit_two_pow_sub_one]
  simpa using hj
theorem init_get {n x : Nat} (hx : x < n) : ((List.replicate n (65535 : Int)).set 0 0).getD x 0 = if x = 0 then 0 else 65535 := by
  rw [getD_set]
  by_cases h : x = 0
  · subst h; simp [hx]
  · rw [if_neg (by omega), if_neg h, List.getD_eq_getElem?_getD, List.getElem?_replicate]
    simp [hx]
theorem loads_of {l : List Ins} {S : Nat → Int} (hw : Wd l) (c : LC l S) : loads l = (0, 0) := by
  have go : ∀ (m k : Nat) (st : List Int), l.length - k = m → k ≤ l.length → st.length = l.length → (∀ x ∈ st, 0 ≤ x ∧ x < 65536) → (∀ x, x < l.length → sub (S x) (st.getD x 0)) → loadsGo (l.drop k) k st = (0, 0) := by
    intro m
    induction m with
    | zero =>
      intro k st hm hk _ _ _
      obtain rfl : k = l.length := by omega
      rw [List.drop_length]; rfl
    | succ m ih =>
      intro k st hm hk hlen hrg hs
      have hlt : k < l.length := by omega
      rw [List.drop_eq_getElem_cons hlt, loadsGo]
      have hg : ∀ x, 0 ≤ st.getD x 0 := by
        intro x
        rw [List.getD_eq_getElem?_getD]
        cases hx : st[x]? with
        | none => simp
        | some y => exact (hrg y (List.mem_of_getElem? hx)).1
      rw [if_neg]
      · refine ih (k + 1) _ (by omega) (by omega) (by rw [meetAll_len, hlen]) (meetAll_rng _ _ _ hrg) ?_
        intro x hx
        refine meetAll_get_sub (hs x hx) (fun q => ?_)
        exact sub_trans (c.next k hlt x q) (sub_now (hs k hlt))
      · intro q
        simp only [Bool.and_eq_true, decide_eq_true_eq] at q
        exact bit_sub (c.rng k hlt).1 (hg k) (hs k hlt) (c.ld k hlt q.1) q.2
  have := go l.length 0 ((List.replicate l.length 65535).set 0 0) rfl (Nat.zero_le _) (by simp) ?_ ?_
  · rwa [List.drop_zero] at this
  · intro x hx
    rcases List.mem_or_eq_of_mem_set hx with h | rfl
    · have := List.eq_of_mem_replicate h; omega
    · omega
  · intro x hx
    rw [init_get hx]
    split
    · rename_i e; subst e; rw [c.zero]; exact sub_refl _
    · exact sub_full (c.rng x hx)
/-- the states of loads, one by one -/
def stAt (l : List Ins) : Nat → List Int
  | 0 => (List.replicate l.length 65535).set 0 0
  | k + 1 => meetAll (ways (l.getD k I0) k) (nowOf (l.getD k I0) ((stAt l k).getD k 0)) (stAt l k)
theorem getD_lt {l : List Ins} {k : Nat} (h : k < l.length) : l.getD k I0 = l[k] := by rw [List.getD_eq_getElem?_getD, List.getElem?_eq_getElem h]; rfl
theorem stAt_len (l : List Ins) (k : Nat) : (stAt l k).length = l.length := by
  induction k with
  | zero => simp [stAt]
  | succ k ih => rw [stAt, meetAll_len, ih]
theorem stAt_rng (l : List Ins) (k : Nat) : ∀ x ∈ stAt l k, 0 ≤ x ∧ x < 65536 := by
  induction k with
  | zero =>
    intro x hx
    rcases List.mem_or_eq_of_mem_set hx with h | rfl
    · have := List.eq_of_mem_replicate h; omega
    · omega
  | succ k ih => exact meetAll_rng _ _ _ ih
theorem stAt_dec (l : List Ins) {a b : Nat} (h : a ≤ b) (x : Nat) : sub ((stAt l b).getD x 0) ((stAt l a).getD x 0) := by
  induction b with
  | zero => obtain rfl : a = 0 := by omega
            exact sub_refl _
  | succ b ih =>
    by_cases e : a = b + 1
    · subst e; exact sub_refl _
    · exact sub_trans meetAll_sub_get (ih (by omega))
theorem stAt_go {l : List Ins} (h : loads l = (0, 0)) (k : Nat) (hk : k ≤ l.length) : loadsGo (l.drop k) k (stAt l k) = (0, 0) := by
  induction k with
  | zero => rw [List.drop_zero]; exact h
  | succ k ih =>
    have h1 := ih (by omega)
    have hlt : k < l.length := by omega
    rw [List.drop_eq_getElem_cons hlt, loadsGo] at h1
    split at h1
    · exact absurd (congrArg Prod.snd h1) (by simp)
    · rw [stAt, getD_lt hlt]; exact h1
theorem loads_cert {l : List Ins} (hw : Wd l) (h0 : 0 < l.length) (h : loads l = (0, 0)) : LC l (fun k => (stAt l k).getD k 0) := by
  have rg : ∀ k x, 0 ≤ (stAt l k).getD x 0 ∧ (stAt l k).getD x 0 < 65536 := by
    intro k x
    rw [List.getD_eq_getElem?_getD]
    cases hx : (stAt l k)[x]? with
    | none => simp
    | some y => exact stAt_rng l k y (List.mem_of_getElem? hx)
  refine ⟨?_, fun k _ => rg k k, ?_, ?_⟩
  · rw [stAt, init_get h0]; rfl
  · intro k hk hl
    have h1 := stAt_go h k (by omega)
    rw [List.drop_eq_getElem_cons hk, loadsGo] at h1
    split at h1
    · exact absurd (congrArg Prod.snd h1) (by simp)
    · rename_i q
      intro e
      exact q (by simp only [Bool.and_eq_true, decide_eq_true_eq]; exact ⟨hl, e⟩)
  · intro k hk x hx
    have hx2 := hw k hk x hx
    have h1 := stAt_dec l (show k + 1 ≤ x by omega) x
    refine sub_trans h1 ?_
    rw [stAt, getD_lt hk]
    exact meetAll_sub_now hx (by rw [stAt_len]; exact hx2.2)
-- the certificate of longest
def mx (xs : List Int) : Int := xs.foldl max 0
structure MC (l : List Ins) (f : Nat → Int) : Prop where
  eq : ∀ (k : Nat) (h : k < l.length), f k = mx ((ways l[k] k).map f) + 1
theorem updL_eq {ws : List Nat} {k : Nat} {st : List Int} (hk : k < st.length) (h : ∀ x ∈ ws, x ≠ k) : updL ws k st = st.set k (ws.foldl (fun m x => max m (st.getD x 0)) (st.getD k 0)) := by
  have go : ∀ (ws : List Nat) (m : Int), (∀ x ∈ ws, x ≠ k) → updL ws k (st.set k m) = st.set k (ws.foldl (fun m x => max m (st.getD x 0)) m) := by
    intro ws
    induction ws with
    | nil => intro m _; rfl
    | cons w ws ih =>
      intro m hh
      have hw := hh w (by simp)
      have e : updL (w :: ws) k (st.set k m) = updL ws k ((st.set k m).set k (max ((st.set k m).getD k 0) ((st.set k m).getD w 0))) := rfl
      rw [e, getD_set, if_pos ⟨rfl, hk⟩, getD_set, if_neg (by omega), List.set_set, ih _ (fun x hx => hh x (by simp [hx]))]
      rfl
  have e : st.set k (st.getD k 0) = st := by
    apply List.ext_getElem?
    intro j
    rw [List.getElem?_set]
    split
    · rename_i q; subst q
      rw [List.getD_eq_getElem?_getD, List.getElem?_eq_getElem hk]
      first | rfl | (rw [if_pos hk]; rfl)
    · rfl
  have := go ws (st.getD k 0) h
  rwa [e] at this
theorem foldl_max_map (ws : List Nat) (f : Nat → Int) (m : Int) : ws.foldl (fun m x => max m (f x)) m = (ws.map f).foldl max m := by
  induction ws generalizing m with
  | nil => rfl
  | cons w ws ih => exact ih _
theorem stepL_eq {i : Ins} {k : Nat} {st : List Int} (hk : k < st.length) (h0 : st.getD k 0 = 0) (h : ∀ x ∈ ways i k, k < x) : stepL i k st = st.set k (mx ((ways i k).map fun x => st.getD x 0) + 1) := by
  unfold stepL mx
  rw [updL_eq hk (fun x hx => by have := h x hx; omega), h0, getD_set, if_pos ⟨rfl, hk⟩, List.set_set, foldl_max_map _ (fun x => st.getD x 0)]
theorem longest_of {l : List Ins} {f : Nat → Int} (hw : Wd l) (h0 : 0 < l.length) (c : MC l f) : longest l = f 0 := by
  have go : ∀ (k : Nat) (st : List Int), k ≤ l.length → st.length = l.length → (∀ x, k ≤ x → x < l.length → st.getD x 0 = f x) → (∀ x, x < k → st.getD x 0 = 0) → (longGo l k st).getD 0 0 = f 0 := by
    intro k
    induction k with
    | zero => intro st _ _ h _; exact h 0 (Nat.le_refl _) h0
    | succ k ih =>
      intro st hk hlen h h2
      have hlt : k < l.length := by omega
      have hd : l.getD k ⟨0, 0, 0, 0⟩ = l[k] := getD_lt hlt
      rw [longGo, hd, stepL_eq (by omega) (h2 k (by omega)) (fun x hx => (hw k hlt x hx).1)]
      have e : (ways l[k] k).map (fun x => st.getD x 0) = (ways l[k] k).map f := by
        apply List.map_congr_left
        intro x hx
        have := hw k hlt x hx
        exact h x (by omega) this.2
      rw [e, ← c.eq k hlt]
      refine ih _ (by omega) (by rw [List.length_set]; exact hlen) ?_ ?_
      · intro x hx hx2
        rw [getD_set]
        split
        · rename_i q; rw [q.1]
        · rename_i q; exact h x (by omega) hx2
      · intro x hx
        rw [getD_set, if_neg (by omega)]
        exact h2 x (by omega)
  refine go l.length _ (Nat.le_refl _) (by simp) (fun x h1 h2 => by omega) ?_
  intro x hx
  rw [List.getD_eq_getElem?_getD, List.getElem?_replicate]
  simp [hx]
theorem longest_cert {l : List Ins} (hw : Wd l) : ∃ f, MC l f := by
  have go : ∀ m, ∃ f : Nat → Int, ∀ (k : Nat) (h : k < l.length), l.length ≤ k + m → f k = mx ((ways l[k] k).map f) + 1 := by
    intro m
    induction m with
    | zero => exact ⟨fun _ => 0, fun k h h2 => by omega⟩
    | succ m ih =>
      obtain ⟨f, hf⟩ := ih
      by_cases hm : m < l.length
      · refine ⟨fun x => if x = l.length - (m + 1) then mx ((ways (l.getD (l.length - (m + 1)) I0) (l.length - (m + 1))).map f) + 1 else f x, fun k h h2 => ?_⟩
        have e : (ways l[k] k).map (fun x => if x = l.length - (m + 1) then mx ((ways (l.getD (l.length - (m + 1)) I0) (l.length - (m + 1))).map f) + 1 else f x) = (ways l[k] k).map f := by
          apply List.map_congr_left
          intro x hx
          have := hw k h x hx
          rw [if_neg (by omega)]
        rw [e]
        by_cases q : k = l.length - (m + 1)
        · dsimp only
          rw [if_pos q, ← q, getD_lt h]
        · dsimp only
          rw [if_neg q]
          exact hf k h (by omega)
      · exact ⟨f, fun k h h2 => hf k h (by omega)⟩
  obtain ⟨f, hf⟩ := go l.length
  exact ⟨f, ⟨fun k h => hf k h (by omega)⟩⟩
end Go.Proofs.Ytcimcihhpkedfaa
