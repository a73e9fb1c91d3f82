/- JumpSizes: the code runs as the law says. Plain laws. -/
import Derived.Test.YtpbpgbkpciffgaaJszP
import Derived.Test.YtpbpgbkpciffgaaVm5
namespace Go.Proofs.Ytpbpgbkpciffgaa
open Go Go.RowKit
theorem jz_s {l : List Ins} {f n k : Nat} {m : Mch} {i : Ins} (he : m.en = false) (hp : m.pos = (k : Nat)) (hk : l[k]? = some i) : runGo l (f + 1) m n = runGo l f (stp { m with pos := (k : Int) + 1 } i) (n + 1) := by
  have hl : k < l.length := by rcases Nat.lt_or_ge k l.length with h | h; exact h; rw [List.getElem?_eq_none h] at hk; cases hk
  rw [runGo, if_neg (by rw [he, hp]; simp; omega), hp]
  have : l.getD (k : Int).toNat ⟨0, 0, 0, 0⟩ = i := by rw [Int.toNat_natCast, List.getD_eq_getElem?_getD, hk]; rfl
  rw [this]
theorem jz_e {l : List Ins} {f n : Nat} {m : Mch} (he : m.en = true) : runGo l f m n = (m, n) := by
  cases f with
  | zero => rfl
  | succ f => rw [runGo, if_pos (.inl he)]
/-- the run ends and says v -/
def Says (l : List Ins) (f : Nat) (m : Mch) (v : Int) : Prop := ∀ n, (runGo l f m n).1.en = true ∧ (runGo l f m n).1.act = v
theorem says_ret {l : List Ins} {f k : Nat} {m : Mch} {v : Nat} (he : m.en = false) (hp : m.pos = (k : Nat)) (hk : l[k]? = some (retI v)) : Says l (f + 1) m v := by
  intro n
  rw [jz_s he hp hk, jz_e (by simp [stp, retI])]
  simp [stp, retI]
theorem says_hop {l : List Ins} {f k : Nat} {m : Mch} {d v : Int} (he : m.en = false) (hp : m.pos = (k : Nat)) (hk : l[k]? = some ⟨5, 0, 0, d⟩) (h : Says l f { m with pos := (k : Int) + 1 + d } v) : Says l (f + 1) m v := by
  intro n
  rw [jz_s he hp hk]
  have e : stp { m with pos := (k : Int) + 1 } ⟨5, 0, 0, d⟩ = { m with pos := (k : Int) + 1 + d } := by
    have h0 : iandn 5 15 = 0 := by decide +kernel
    simp [stp, jmp, h0]
  rw [e]
  exact h _
theorem says_cmp {l : List Ins} {f k : Nat} {m : Mch} {cd jt jf v : Int} (hcd : cd = 21 ∨ cd = 69) (he : m.en = false) (hp : m.pos = (k : Nat)) (hk : l[k]? = some ⟨cd, jt, jf, 5⟩) (ha : m.a = 5 ∨ m.a = 0)
    (h : Says l f { m with pos := (k : Int) + 1 + (if m.a = 5 then jt else jf) } v) : Says l (f + 1) m v := by
  intro n
  rw [jz_s he hp hk]
  have e : stp { m with pos := (k : Int) + 1 } ⟨cd, jt, jf, 5⟩ = { m with pos := (k : Int) + 1 + (if m.a = 5 then jt else jf) } := by
    have h0 : iandn 21 15 = 16 := by decide +kernel
    have h1 : iandn 69 15 = 64 := by decide +kernel
    have h2 : iand 21 8 = 0 := by decide +kernel
    have h3 : iand 69 8 = 0 := by decide +kernel
    have h4 : iand 5 5 = 5 := by decide +kernel
    have h5 : iand 0 5 = 0 := by decide +kernel
    rcases hcd with rfl | rfl <;> rcases ha with ha | ha <;> simp [stp, jmp, holds, other, h0, h1, h2, h3, h4, h5, ha]
  rw [e]
  exact h _
def ld0 : Ins := ⟨32, 0, 0, 0⟩
def szL (cd : Int) (a b n : Nat) : List Ins := ld0 :: (szC cd a b ++ rets 0 n)
def numR (x : Int) : Rec := ⟨x, 0, 0, [0, 0, 0, 0, 0, 0]⟩
theorem numR_ok {x : Int} (h : x = 5 ∨ x = 0) : (numR x).ok := by rcases h with rfl | rfl <;> constructor <;> simp [numR]
theorem szL_get (cd : Int) (a b n j : Nat) (h : j < n) (s : Nat) (hs : s = 1 + (szC cd a b).length + j) : (szL cd a b n)[s]? = some (retI j) := by
  subst hs
  unfold szL
  rw [show 1 + (szC cd a b).length + j = ((szC cd a b).length + j) + 1 by omega, List.getElem?_cons_succ, List.getElem?_append_right (by omega), Nat.add_sub_cancel_left, rets_get 0 n j h, Nat.zero_add]
theorem sz_says (cd : Int) (hcd : cd = 21 ∨ cd = 69) (a b n : Nat) (ha : a < n) (hb : b < n) (x : Int) (hx : x = 5 ∨ x = 0) (f : Nat) : Says (szL cd a b n) (f + 4) (m0 (numR x)) (if x = 5 then (a : Int) else b) := by
  intro n0
  have h0 : (szL cd a b n)[0]? = some ld0 := rfl
  rw [jz_s (k := 0) rfl rfl h0]
  have e : stp { m0 (numR x) with pos := ((0 : Nat) : Int) + 1 } ld0 = { m0 (numR x) with pos := 1, a := x } := by
    rcases hx with rfl | rfl <;> kernel_rfl
  rw [e]
  revert n0
  suffices h : Says (szL cd a b n) (f + 3) { m0 (numR x) with pos := 1, a := x } (if x = 5 then (a : Int) else b) from fun n0 => h (n0 + 1)
  have hg := szL_get cd a b n
  have hc : ∀ j, (szL cd a b n)[j + 1]? = (szC cd a b ++ rets 0 n)[j]? := fun j => rfl
  by_cases hb3 : b > 253
  · by_cases ha3 : a + 1 > 253
    · have es : szC cd a b = [⟨cd, 0, 1, 5⟩, ⟨5, 0, 0, (a : Int) + 1⟩, ⟨5, 0, 0, (b : Int)⟩] := by unfold szC; rw [if_pos hb3, if_pos ha3]
      rw [es] at hg hc
      refine says_cmp (k := 1) hcd rfl rfl (hc 0) hx ?_
      rcases hx with rfl | rfl
      · exact says_hop (k := 2) rfl rfl (hc 1) (says_ret (k := 4 + a) rfl (by first | (simp; done) | (simp; omega)) (hg a ha _ rfl))
      · exact says_hop (k := 3) rfl rfl (hc 2) (says_ret (k := 4 + b) rfl (by first | (simp; done) | (simp; omega)) (hg b hb _ rfl))
    · have es : szC cd a b = [⟨cd, (a : Int) + 1, 0, 5⟩, ⟨5, 0, 0, (b : Int)⟩] := by unfold szC; rw [if_pos hb3, if_neg ha3]
      rw [es] at hg hc
      refine says_cmp (k := 1) hcd rfl rfl (hc 0) hx ?_
      rcases hx with rfl | rfl
      · exact says_ret (k := 3 + a) rfl (by first | (simp; done) | (simp; omega)) (hg a ha _ rfl)
      · exact says_hop (k := 2) rfl rfl (hc 1) (says_ret (k := 3 + b) rfl (by first | (simp; done) | (simp; omega)) (hg b hb _ rfl))
  · by_cases ha3 : a > 253
    · have es : szC cd a b = [⟨cd, 0, (b : Int) + 1, 5⟩, ⟨5, 0, 0, (a : Int)⟩] := by unfold szC; rw [if_neg hb3, if_pos ha3]
      rw [es] at hg hc
      refine says_cmp (k := 1) hcd rfl rfl (hc 0) hx ?_
      rcases hx with rfl | rfl
      · exact says_hop (k := 2) rfl rfl (hc 1) (says_ret (k := 3 + a) rfl (by first | (simp; done) | (simp; omega)) (hg a ha _ rfl))
      · exact says_ret (k := 3 + b) rfl (by first | (simp; done) | (simp; omega)) (hg b hb _ rfl)
    · have es : szC cd a b = [⟨cd, (a : Int), (b : Int), 5⟩] := by unfold szC; rw [if_neg hb3, if_neg ha3]
      rw [es] at hg hc
      refine says_cmp (k := 1) hcd rfl rfl (hc 0) hx ?_
      rcases hx with rfl | rfl
      · exact says_ret (k := 2 + a) rfl (by first | (simp; done) | (simp; omega)) (hg a ha _ rfl)
      · exact says_ret (k := 2 + b) rfl (by first | (simp; done) | (simp; omega)) (hg b hb _ rfl)
theorem szC_len (cd : Int) (a b : Nat) : (szC cd a b).length = 1 + (if b > 253 then 1 else 0) + (if a + (if b > 253 then 1 else 0) > 253 then 1 else 0) := by
  unfold szC
  by_cases hb : b > 253
  · simp only [if_pos hb]
    split <;> simp
  · simp only [if_neg hb, Nat.add_zero]
    split <;> simp
theorem szL_len (cd : Int) (a b n : Nat) : (szL cd a b n).length = 1 + (szC cd a b).length + n := by
  unfold szL; rw [List.length_cons, List.length_append, rets_len]; omega
theorem szL_lo (cd : Int) (a b n : Nat) (ha : a < n) (hb : b < n) : (szL cd a b n).length = ((szL cd a b n).length - 4) + 4 ∨ (szL cd a b n).length = 3 := by
  have h1 := szC_len cd a b
  have h2 := szL_len cd a b n
  split at h1 <;> split at h1 <;> omega
theorem sz_run (cd : Int) (hcd : cd = 21 ∨ cd = 69) (a b n : Nat) (ha : a < n) (hb : b < n) (x : Int) (hx : x = 5 ∨ x = 0) : (runF (szL cd a b n) (numR x)).1 = (if x = 5 then (a : Int) else b) := by
  rcases szL_lo cd a b n ha hb with h | h
  · have := sz_says cd hcd a b n ha hb x hx ((szL cd a b n).length - 4) 0
    rw [← h] at this
    unfold runF
    dsimp only
    rw [if_pos this.1, this.2]
  · have h1 := szL_len cd a b n
    have h2 := szC_len cd a b
    have hn : n = 1 := by omega
    have ha0 : a = 0 := by omega
    have hb0 : b = 0 := by omega
    subst hn; subst ha0; subst hb0
    rcases hcd with rfl | rfl <;> rcases hx with rfl | rfl <;> decide +kernel
theorem one_cmp {cd : Int} (hcd : cd = 21 ∨ cd = 69) (jt jf : Int) (at_ n : Int) (h : jt < n - at_ - 1) (h' : jf < n - at_ - 1) : one ⟨cd, jt, jf, 5⟩ at_ n = 0 := by
  have k1 : known 21 = true := by decide +kernel
  have k2 : known 69 = true := by decide +kernel
  have hm : ¬ (max jt jf ≥ n - at_ - 1) := by omega
  rcases hcd with rfl | rfl <;> simp [one, k1, k2, hm]
theorem one_hop (d : Int) (at_ n : Int) (h : d < n - at_ - 1) : one ⟨5, 0, 0, d⟩ at_ n = 0 := by
  have k1 : known 5 = true := by decide +kernel
  have hm : ¬ (d ≥ n - at_ - 1) := by omega
  simp [one, k1, hm]
theorem rets_bad (n k c at_ : Nat) : firstBad n (rets k c) at_ = none := by
  induction c generalizing k at_ with
  | zero => rfl
  | succ c ih => rw [rets, firstBad_cons, if_neg (by simp [one, known, retI])]; exact ih _ _
theorem loads_no (l : List Ins) (h : ∀ i ∈ l, isLd i = false) (k : Nat) (st : List Int) : loadsGo l k st = (0, 0) := by
  induction l generalizing k st with
  | nil => rfl
  | cons i l ih =>
    rw [loadsGo, h i (List.mem_cons_self ..), Bool.false_and, if_neg (by simp)]
    exact ih (fun j hj => h j (List.mem_cons_of_mem _ hj)) _ _
theorem rets_mem {k c : Nat} {i : Ins} (h : i ∈ rets k c) : ∃ j : Nat, i = retI j ∧ j < k + c := by
  induction c generalizing k with
  | zero => cases h
  | succ c ih =>
    rw [rets] at h
    rcases List.mem_cons.1 h with rfl | h
    · exact ⟨k, rfl, by omega⟩
    · obtain ⟨j, h1, h2⟩ := ih h
      exact ⟨j, h1, by omega⟩
theorem szC_mem {cd : Int} (hcd : cd = 21 ∨ cd = 69) {a b : Nat} (ha : a ≤ 600) (hb : b ≤ 600) {i : Ins} (h : i ∈ szC cd a b) : isLd i = false ∧ i.ok := by
  have mk : ∀ (x t f : Int), 0 ≤ t ∧ t < 256 → 0 ≤ f ∧ f < 256 → isLd ⟨cd, t, f, 5⟩ = false ∧ (⟨cd, t, f, 5⟩ : Ins).ok := by
    intro x t f h1 h2
    rcases hcd with rfl | rfl <;> exact ⟨by simp [isLd], ⟨by simp, h1, h2, by simp⟩⟩
  have mj : ∀ (d : Int), 0 ≤ d ∧ d < 4294967296 → isLd ⟨5, 0, 0, d⟩ = false ∧ (⟨5, 0, 0, d⟩ : Ins).ok := by
    intro d h1
    exact ⟨by simp [isLd], ⟨by simp, by simp, by simp, h1⟩⟩
  unfold szC at h
  split at h <;> split at h <;> simp only [List.mem_cons, List.not_mem_nil, or_false] at h
  · rcases h with rfl | rfl | rfl
    · exact mk 0 _ _ (by omega) (by omega)
    · exact mj _ (by omega)
    · exact mj _ (by omega)
  · rcases h with rfl | rfl
    · exact mk 0 _ _ (by omega) (by omega)
    · exact mj _ (by omega)
  · rcases h with rfl | rfl
    · exact mk 0 _ _ (by omega) (by omega)
    · exact mj _ (by omega)
  · subst h; exact mk 0 _ _ (by omega) (by omega)
theorem szL_ok {cd : Int} (hcd : cd = 21 ∨ cd = 69) {a b n : Nat} (ha : a < n) (hb : b < n) (hn : n ≤ 601) : ∀ i ∈ szL cd a b n, isLd i = false ∧ i.ok := by
  intro i hi
  rcases List.mem_cons.1 hi with rfl | hi
  · exact ⟨by simp [isLd, ld0], by constructor <;> simp [ld0]⟩
  rcases List.mem_append.1 hi with hi | hi
  · exact szC_mem hcd (by omega) (by omega) hi
  · obtain ⟨j, rfl, h⟩ := rets_mem hi
    exact ⟨by simp [isLd, retI], by constructor <;> simp [retI]; omega⟩
theorem szL_check {cd : Int} (hcd : cd = 21 ∨ cd = 69) {a b n : Nat} (ha : a < n) (hb : b < n) (hn : n ≤ 601) : check (szL cd a b n) = (0, 0) := by
  have hlen := szL_len cd a b n
  have hcl := szC_len cd a b
  have hc3 : (szC cd a b).length ≤ 3 := by rw [hcl]; split <;> split <;> omega
  have hlast : (szL cd a b n).getD ((szL cd a b n).length - 1) ⟨0, 0, 0, 0⟩ = retI (n - 1) := by
    rw [List.getD_eq_getElem?_getD, szL_get cd a b n (n - 1) (by omega) _ (by omega)]; rfl
  have hbad : firstBad (szL cd a b n).length (szL cd a b n) 0 = none := by
    generalize hN : (szL cd a b n).length = N at *
    have hN1 : (N : Int) = 1 + (szC cd a b).length + n := by omega
    unfold szL
    rw [firstBad_cons, if_neg (by simp [one, known, ld0])]
    by_cases hb3 : b > 253
    · simp only [if_pos hb3] at hcl
      by_cases ha3 : a + 1 > 253
      · rw [if_pos ha3] at hcl
        have es : szC cd a b = [⟨cd, 0, 1, 5⟩, ⟨5, 0, 0, (a : Int) + 1⟩, ⟨5, 0, 0, (b : Int)⟩] := by unfold szC; rw [if_pos hb3, if_pos ha3]
        rw [es]
        · simp only [List.cons_append, List.nil_append]
          rw [firstBad_cons, if_neg (fun h => h (one_cmp hcd _ _ _ _ (by omega) (by omega))), firstBad_cons, if_neg (fun h => h (one_hop _ _ _ (by omega))), firstBad_cons, if_neg (fun h => h (one_hop _ _ _ (by omega)))]
          exact rets_bad _ _ _ _
      · rw [if_neg ha3] at hcl
        have es : szC cd a b = [⟨cd, (a : Int) + 1, 0, 5⟩, ⟨5, 0, 0, (b : Int)⟩] := by unfold szC; rw [if_pos hb3, if_neg ha3]
        rw [es]
        · simp only [List.cons_append, List.nil_append]
          rw [firstBad_cons, if_neg (fun h => h (one_cmp hcd _ _ _ _ (by omega) (by omega))), firstBad_cons, if_neg (fun h => h (one_hop _ _ _ (by omega)))]
          exact rets_bad _ _ _ _
    · simp only [if_neg hb3, Nat.add_zero] at hcl
      by_cases ha3 : a > 253
      · rw [if_pos ha3] at hcl
        have es : szC cd a b = [⟨cd, 0, (b : Int) + 1, 5⟩, ⟨5, 0, 0, (a : Int)⟩] := by unfold szC; rw [if_neg hb3, if_pos ha3]
        rw [es]
        · simp only [List.cons_append, List.nil_append]
          rw [firstBad_cons, if_neg (fun h => h (one_cmp hcd _ _ _ _ (by omega) (by omega))), firstBad_cons, if_neg (fun h => h (one_hop _ _ _ (by omega)))]
          exact rets_bad _ _ _ _
      · rw [if_neg ha3] at hcl
        have es : szC cd a b = [⟨cd, (a : Int), (b : Int), 5⟩] := by unfold szC; rw [if_neg hb3, if_neg ha3]
        rw [es]
        · simp only [List.cons_append, List.nil_append]
          rw [firstBad_cons, if_neg (fun h => h (one_cmp hcd _ _ _ _ (by omega) (by omega)))]
          exact rets_bad _ _ _ _
  unfold check
  rw [if_neg (by omega), if_neg (by omega), hbad, hlast]
  have : isRet (retI (n - 1)) = true := by simp [isRet, retI]
  dsimp only
  rw [if_pos this]
  exact loads_no _ (fun i hi => (szL_ok hcd ha hb hn i hi).1) _ _
end Go.Proofs.Ytpbpgbkpciffgaa
