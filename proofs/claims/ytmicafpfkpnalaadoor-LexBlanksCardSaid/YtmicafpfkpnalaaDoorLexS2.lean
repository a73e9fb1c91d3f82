/- How long words put together are. Plain. -/
import Derived.Test.YtmicafpfkpnalaaDoorLexS
namespace Go.Proofs.YtmicafpfkpnalaaDoor
open Go Go.RowKit
def meas : List Tk → Nat
  | [] => 0
  | t :: r => t.text.length + meas r
theorem meas_app (a b : List Tk) : meas (a ++ b) = meas a + meas b := by
  induction a with
  | nil => simp [meas]
  | cons t r ih => rw [List.cons_append, meas, meas, ih]; omega
theorem lexGo_meas {line : Nat} {l : List UInt8} (f a : Nat) (ha : a ≤ l.length) : meas (lexGo line l f a []).1 ≤ l.length - a := by
  induction f generalizing a with
  | zero => exact Nat.zero_le _
  | succ f ih =>
    cases hq : nextF line l a with
    | done => rw [lexGo, hq]; exact Nat.zero_le _
    | wrong c e => rw [lexGo, hq]; exact Nat.zero_le _
    | tok t a' =>
      rw [lexGo_tok hq]
      obtain ⟨i1, i2, i3, i4, i5, i6, i7⟩ := next_is hq
      obtain ⟨t1, t2⟩ := next_tok hq
      have := ih a' t2
      dsimp only
      rw [meas]
      omega
def sumL : List (List UInt8) → Nat
  | [] => 0
  | p :: r => p.length + sumL r
theorem splitC_sum (c : UInt8) (l : List UInt8) : sumL (splitC c l) ≤ l.length := by
  induction l with
  | nil => exact Nat.le_refl _
  | cons b r ih =>
    rw [splitC]
    have hne := splitC_ne c r
    split
    · rw [sumL, List.length_cons, List.length_nil]; omega
    · cases hsr : splitC c r with
      | nil => exact absurd hsr hne
      | cons y ys =>
        rw [hsr, sumL] at ih
        rw [List.headD_cons, List.tail_cons, sumL, List.length_cons, List.length_cons]; omega
theorem lexAll_meas (P : List (List UInt8)) : ∀ (n : Nat) (out ts : List Tk), lexAll n P out = (ts, none) → meas ts ≤ meas out + sumL P := by
  induction P with
  | nil => intro n out ts h; rw [lexAll] at h; cases h; exact Nat.le_add_right _ _
  | cons p ps ih =>
    intro n out ts h
    rw [lexAll] at h
    have hg := lexGo_meas (line := n + 1) (l := headF 35 p) ((headF 35 p).length + 1) 0 (Nat.zero_le _)
    have hh := headF_len 35 p
    have hln : lexLn (n + 1) (headF 35 p) = lexGo (n + 1) (headF 35 p) ((headF 35 p).length + 1) 0 [] := rfl
    rw [hln] at h
    generalize lexGo (n + 1) (headF 35 p) ((headF 35 p).length + 1) 0 [] = q at *
    obtain ⟨us, w⟩ := q
    cases w with
    | some w => cases h
    | none =>
      dsimp only at h hg
      have := ih (n + 1) _ ts h
      rw [sumL]
      by_cases hu : us = []
      · rw [if_pos hu] at this; omega
      · rw [if_neg hu, meas_app, meas_app] at this
        have e : ∀ u : Tk, u.text = [] → meas [u] = 0 := fun u hu => by rw [meas, hu]; rfl
        rw [e _ rfl] at this
        omega
theorem sq_count (ts : List Tk) : ∀ b, Sq b ts → ts.length ≤ 2 * meas ts + (if b then 1 else 0) := by
  induction ts with
  | nil => intro b _; simp
  | cons t r ih =>
    intro b h
    rcases h with ⟨h1, h2, h3, h4, h5⟩ | ⟨h1, h2⟩
    · have := ih false h5
      rw [h2, List.length_cons, meas]
      simp at this ⊢
      omega
    · have := ih true h2
      have hp := gtk_pos h1.good
      rw [List.length_cons, meas]
      simp at this
      split <;> omega
theorem lexF_meas {l : List UInt8} {ts : List Tk} (h : lexF l = (ts, none)) : meas ts ≤ l.length ∧ ts.length ≤ 2 * l.length := by
  have hs := sq_count ts false (lexF_sq h)
  unfold lexF at h
  split at h
  · cases h
  · have h1 := lexAll_meas _ 0 [] ts h
    have h2 := splitC_sum 10 l
    have : meas [] = 0 := rfl
    simp at hs
    omega
theorem bldP_len (tg : List (Nat × Tk)) : (bldP tg).length ≤ 14 * tg.length + meas (tg.map (·.2)) := by
  induction tg with
  | nil => simp [bldP]
  | cons p r ih =>
    have hg : (gapS p.1).length ≤ 3 := by unfold gapS; split <;> (try split) <;> (try split) <;> decide
    have he : (endS p.1).length ≤ 11 := by unfold endS; split <;> (try split) <;> (try split) <;> decide
    unfold bldP at ih ⊢
    rw [List.flatMap_cons, List.length_append, List.length_append, List.length_cons, List.map_cons, meas]
    split <;> omega
/-- which blanks -/
def kf (l : List Int) (j : Nat) : Int := if j < l.length then l.getD j 0 else 0
def tgN (l : List Int) (ts : List Tk) (k : Nat) : List (Nat × Tk) := (List.range k).map fun j => ((kf l j % 4).toNat, ts.getD j ⟨0, [], 0, 0, 0⟩)
theorem tgN_s (l : List Int) (ts : List Tk) (k : Nat) (h : k < ts.length) : tgN l ts (k + 1) = tgN l ts k ++ [((kf l k % 4).toNat, ts[k])] := by
  unfold tgN
  rw [List.range_succ, List.map_append, List.map_cons, List.map_nil, List.getD_eq_getElem?_getD (l := ts), List.getElem?_eq_getElem h]; rfl
theorem tgN_take (l : List Int) (ts : List Tk) (k : Nat) (hk : k ≤ ts.length) : (tgN l ts k).map (·.2) = ts.take k := by
  induction k with
  | zero => rfl
  | succ k ih => rw [tgN_s l ts k (by omega), List.map_append, ih (by omega), List.take_succ_eq_append_getElem (by omega)]; rfl
theorem tgN_all (l : List Int) (ts : List Tk) : (tgN l ts ts.length).map (·.2) = ts := by rw [tgN_take l ts _ (Nat.le_refl _), List.take_length]
theorem tgN_len (l : List Int) (ts : List Tk) (k : Nat) : (tgN l ts k).length = k := by unfold tgN; simp
theorem tgN_meas (l : List Int) (ts : List Tk) (k : Nat) (hk : k ≤ ts.length) : meas ((tgN l ts k).map (·.2)) ≤ meas ts := by
  rw [tgN_take l ts k hk]
  conv => rhs; rw [← List.take_append_drop k ts]
  rw [meas_app]; omega
theorem bldP_snoc (tg : List (Nat × Tk)) (p : Nat × Tk) : bldP (tg ++ [p]) = bldP tg ++ gapS p.1 ++ (if p.2.kind = 0 then endS p.1 else p.2.text) := by
  unfold bldP
  rw [List.flatMap_append, List.flatMap_cons, List.flatMap_nil, List.append_nil]
  simp only [List.append_assoc]
end Go.Proofs.YtmicafpfkpnalaaDoor
