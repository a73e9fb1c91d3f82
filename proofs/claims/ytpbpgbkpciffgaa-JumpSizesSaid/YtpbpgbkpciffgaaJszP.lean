/- JumpSizes: what jump.Make yields. Plain laws. -/
import Derived.Test.YtpbpgbkpciffgaaJmp4
namespace Go.Proofs.Ytpbpgbkpciffgaa
open Go Go.RowKit
def retI (i : Nat) : Ins := ⟨6, 0, 0, (i : Int)⟩
def hereP (n : Int) : Prt := ⟨1, n, 0, ⟨0, 0, 0, 0⟩⟩
def plainP (i : Nat) : Prt := ⟨2, 0, 0, retI i⟩
def bodyP (a b i : Nat) : List Prt := (if i = a then [hereP 1] else []) ++ ((if i = b then [hereP 2] else []) ++ [plainP i])
def szT (a b : Nat) : Nat → Nat → List Prt
  | _, 0 => []
  | k, c + 1 => bodyP a b k ++ szT a b (k + 1) c
def rets : Nat → Nat → List Ins
  | _, 0 => []
  | k, c + 1 => retI k :: rets (k + 1) c
theorem rets_len (k c : Nat) : (rets k c).length = c := by
  induction c generalizing k with
  | zero => rfl
  | succ c ih => rw [rets, List.length_cons, ih]
theorem rets_get (k c j : Nat) (h : j < c) : (rets k c)[j]? = some (retI (k + j)) := by
  induction c generalizing k j with
  | zero => omega
  | succ c ih =>
    cases j with
    | zero => rfl
    | succ j => rw [rets, List.getElem?_cons_succ, ih (k + 1) j (by omega)]; congr 2; omega
theorem szT_snoc (a b k c : Nat) : szT a b k (c + 1) = szT a b k c ++ bodyP a b (k + c) := by
  induction c generalizing k with
  | zero => simp [szT]
  | succ c ih =>
    rw [szT, ih (k + 1), szT, List.append_assoc]
    congr 3; omega
theorem look_app (n : Int) (pl : List (Int × Int)) (q : Int × Int) : look n (pl ++ [q]) = match look n pl with | some x => some x | none => if n = q.1 then some q.2 else none := by
  induction pl with
  | nil => simp [look]
  | cons p r ih =>
    rw [List.cons_append]
    unfold look
    by_cases h : n = p.1
    · rw [if_pos h, if_pos h]
    · rw [if_neg h, if_neg h]; exact ih
theorem mkGo_cons {p : Prt} {r : List Prt} {m m' : Mk} (h : mkGo r = (0, m)) (hp : m.part p = (0, m')) (hl : m'.out.length ≤ 4096) : mkGo (p :: r) = (0, m') := by
  rw [mkGo, h, if_neg (by simp), hp, if_neg (by simp), if_neg (by dsimp only; omega)]
theorem part_plain (m : Mk) (i : Nat) : m.part (plainP i) = (0, m.put (retI i)) := by
  simp [Mk.part, plainP, retI]
theorem part_here (m : Mk) (n : Int) (h : look n m.pl = none) : m.part (hereP n) = (0, { m with pl := m.pl ++ [(n, (m.out.length : Int))] }) := by
  simp [Mk.part, hereP, h]
/-- what is known where -/
def at_ (k n a : Nat) : Option Int := if k ≤ a ∧ a < n then some ((n : Int) - a) else none
structure SzM (a b k n : Nat) (m : Mk) : Prop where
  out : m.out = (rets k (n - k)).reverse
  l1 : look 1 m.pl = at_ k n a
  l2 : look 2 m.pl = at_ k n b
theorem here_step {k n a : Nat} (hk : k < n) {pl : List (Int × Int)} {i : Int} (h : look i pl = at_ (k + 1) n a) (he : k = a) : look i (pl ++ [(i, (n : Int) - k)]) = at_ k n a := by
  subst he
  have h1 : at_ (k + 1) n k = none := by unfold at_; rw [if_neg (by omega)]
  have h2 : at_ k n k = some ((n : Int) - k) := by unfold at_; exact if_pos ⟨Nat.le_refl _, hk⟩
  rw [look_app, h, h1, h2]
  simp
theorem at_step {k n a : Nat} (he : k ≠ a) : at_ (k + 1) n a = at_ k n a := by
  unfold at_
  by_cases h : k ≤ a ∧ a < n
  · rw [if_pos h, if_pos (by omega)]
  · rw [if_neg h, if_neg (by omega)]
theorem look_other {i j : Int} (hij : i ≠ j) (pl : List (Int × Int)) (x : Int) : look i (pl ++ [(j, x)]) = look i pl := by
  rw [look_app]
  cases look i pl with
  | none => simp [hij]
  | some y => rfl
theorem szT_go (a b n : Nat) (hn : n ≤ 601) (c : Nat) : ∀ k, k + c = n → ∃ m, mkGo (szT a b k c) = (0, m) ∧ SzM a b k n m := by
  induction c with
  | zero =>
    intro k hk
    refine ⟨⟨[], []⟩, rfl, ?_, ?_, ?_⟩
    · show [] = (rets k (n - k)).reverse
      rw [show n - k = 0 by omega]; rfl
    · show none = at_ k n a
      unfold at_; rw [if_neg (by omega)]
    · show none = at_ k n b
      unfold at_; rw [if_neg (by omega)]
  | succ c ih =>
    intro k hk
    obtain ⟨m, hgo, ho, h1, h2⟩ := ih (k + 1) (by omega)
    have hol : m.out.length = n - (k + 1) := by rw [ho, List.length_reverse, rets_len]
    -- the instruction
    have hg1 := mkGo_cons hgo (part_plain m k) (by show (m.out ++ [retI k]).length ≤ 4096; rw [List.length_append, hol]; simp; omega)
    have ho1 : (m.put (retI k)).out = (rets k (n - k)).reverse := by
      show m.out ++ [retI k] = _
      rw [ho, show n - k = (n - (k + 1)) + 1 by omega, rets, List.reverse_cons]
    have hl1 : ((m.put (retI k)).out.length : Int) = (n : Int) - k := by rw [ho1, List.length_reverse, rets_len]; omega
    have hp1 : look 1 (m.put (retI k)).pl = at_ (k + 1) n a := h1
    have hp2 : look 2 (m.put (retI k)).pl = at_ (k + 1) n b := h2
    generalize m.put (retI k) = m1 at *
    -- the second place
    have step2 : ∃ m2, mkGo ((if k = b then [hereP 2] else []) ++ (plainP k :: szT a b (k + 1) c)) = (0, m2) ∧ m2.out = m1.out ∧ look 1 m2.pl = at_ (k + 1) n a ∧ look 2 m2.pl = at_ k n b := by
      by_cases hb : k = b
      · rw [if_pos hb]
        have hnone : look 2 m1.pl = none := by rw [hp2]; unfold at_; rw [if_neg (by omega)]
        refine ⟨_, mkGo_cons hg1 (part_here m1 2 hnone) (by dsimp only; omega), rfl, ?_, ?_⟩
        · rw [← hp1]; exact look_other (by decide) _ _
        · dsimp only; rw [hl1]; exact here_step (by omega) hp2 hb
      · rw [if_neg hb]
        exact ⟨m1, hg1, rfl, hp1, by rw [hp2, at_step hb]⟩
    obtain ⟨m2, hg2, ho2, hq1, hq2⟩ := step2
    have hl2 : ((m2.out.length : Nat) : Int) = (n : Int) - k := by rw [ho2]; exact hl1
    have hsz : szT a b k (c + 1) = (if k = a then [hereP 1] else []) ++ ((if k = b then [hereP 2] else []) ++ (plainP k :: szT a b (k + 1) c)) := by
      rw [szT, bodyP, List.append_assoc, List.append_assoc]; rfl
    rw [hsz]
    by_cases ha : k = a
    · rw [if_pos ha]
      have hnone : look 1 m2.pl = none := by rw [hq1]; unfold at_; rw [if_neg (by omega)]
      refine ⟨_, mkGo_cons hg2 (part_here m2 1 hnone) (by dsimp only; omega), ?_, ?_, ?_⟩
      · show m2.out = _; rw [ho2, ho1]
      · dsimp only; rw [hl2]; exact here_step (by omega) hq1 ha
      · rw [← hq2]; exact look_other (by decide) _ _
    · rw [if_neg ha]
      exact ⟨m2, hg2, by rw [ho2, ho1], by rw [hq1, at_step ha], hq2⟩
/-- the comparison and the ways ahead of the answers -/
def szC (cd : Int) (a b : Nat) : List Ins :=
  if b > 253 then (if a + 1 > 253 then [⟨cd, 0, 1, 5⟩, ⟨5, 0, 0, (a : Int) + 1⟩, ⟨5, 0, 0, (b : Int)⟩] else [⟨cd, (a : Int) + 1, 0, 5⟩, ⟨5, 0, 0, (b : Int)⟩])
  else (if a > 253 then [⟨cd, 0, (b : Int) + 1, 5⟩, ⟨5, 0, 0, (a : Int)⟩] else [⟨cd, (a : Int), (b : Int), 5⟩])
def ifP (cd : Int) : Prt := ⟨3, 1, 2, ⟨cd, 0, 0, 5⟩⟩
theorem make_sz (cd : Int) (hcd : cd = 21 ∨ cd = 69) (a b n : Nat) (ha : a < n) (hb : b < n) (hn : n ≤ 601) : make (ifP cd :: szT a b 0 n) = (0, szC cd a b ++ rets 0 n) := by
  obtain ⟨m, hgo, ho, h1, h2⟩ := szT_go a b n hn n 0 (by omega)
  have e1 : at_ 0 n a = some ((n : Int) - a) := by unfold at_; rw [if_pos ⟨Nat.zero_le _, ha⟩]
  have e2 : at_ 0 n b = some ((n : Int) - b) := by unfold at_; rw [if_pos ⟨Nat.zero_le _, hb⟩]
  rw [e1] at h1
  rw [e2] at h2
  have hol : m.out.length = n := by rw [ho, List.length_reverse, rets_len]; omega
  have hw1 : m.away 1 = (a : Int) := by unfold Mk.away; rw [h1, hol]; simp; omega
  have hw2 : m.away 2 = (b : Int) := by unfold Mk.away; rw [h2, hol]; simp; omega
  have hpart : m.part (ifP cd) = (0, m.far (ifP cd) (m.away 1) (m.away 2)) := by
    rcases hcd with rfl | rfl <;> simp [Mk.part, ifP, Mk.compare, h1, h2]
  rw [hw1, hw2] at hpart
  have hfar : (m.far (ifP cd) (a : Int) (b : Int)).out = m.out ++ (szC cd a b).reverse := by
    unfold Mk.far Mk.far1 Mk.far2 szC
    have w1 : IntKind.u32.wrap (b : Int) = b := IntWalk.u32_in _ (by omega)
    have w2 : IntKind.u32.wrap (a : Int) = a := IntWalk.u32_in _ (by omega)
    have w3 : IntKind.u32.wrap ((a : Int) + 1) = (a : Int) + 1 := IntWalk.u32_in _ (by omega)
    by_cases hb3 : b > 253
    · rw [if_pos (by omega), if_pos hb3]
      by_cases ha3 : a + 1 > 253
      · rw [if_pos (by omega), if_pos ha3]
        simp [Mk.hop, Mk.put, w1, w3, ifP]
      · rw [if_neg (by omega), if_neg ha3]
        simp [Mk.hop, Mk.put, w1, ifP]
    · rw [if_neg (by omega), if_neg hb3]
      by_cases ha3 : a > 253
      · rw [if_pos (by omega), if_pos ha3]
        simp [Mk.hop, Mk.put, w2, ifP]
      · rw [if_neg (by omega), if_neg ha3]
        simp [Mk.put, ifP]
  have hcl : (szC cd a b).length ≤ 3 := by unfold szC; repeat' split; all_goals simp
  have hgo2 := mkGo_cons hgo hpart (by rw [hfar, List.length_append, List.length_reverse, hol]; omega)
  unfold make
  rw [hgo2, if_pos rfl, hfar, List.reverse_append, List.reverse_reverse, ho, List.reverse_reverse]
  rfl
end Go.Proofs.Ytpbpgbkpciffgaa
