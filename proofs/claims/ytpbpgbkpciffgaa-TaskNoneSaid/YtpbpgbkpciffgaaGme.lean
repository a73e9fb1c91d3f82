/- Entries of maps by numbers in a row: what is found. Plain facts. -/
import Derived.Test.YtpbpgbkpciffgaaGmg
namespace Go.Proofs.Ytpbpgbkpciffgaa
open Go Go.RowKit
/-- numbers from s + 2 on, each with nought -/
def endF : Nat → Nat → List MapEntry
  | _, 0 => []
  | s, m + 1 => { key := .int .u8 ((s : Int) + 2), val := .int .i64 0, born := s } :: endF (s + 1) m
abbrev endE (m : Nat) : List MapEntry := endF 0 m
theorem endF_succ (s m : Nat) : endF s (m + 1) = endF s m ++ [{ key := .int .u8 (((s + m : Nat) : Int) + 2), val := .int .i64 0, born := s + m }] := by
  induction m generalizing s with
  | zero => rfl
  | succ m ih =>
    rw [endF, ih (s + 1), endF]
    simp only [List.cons_append, List.cons.injEq, true_and]
    rw [show s + 1 + m = s + (m + 1) by omega]
theorem endE_succ (m : Nat) : endE (m + 1) = endE m ++ [{ key := .int .u8 ((m : Int) + 2), val := .int .i64 0, born := m }] := by
  have := endF_succ 0 m
  simpa using this
theorem endF_len (s m : Nat) : (endF s m).length = m := by
  induction m generalizing s with
  | zero => rfl
  | succ m ih => simp [endF, ih]
theorem endF_none (s m : Nat) (n : Int) (i : Nat) (h : ¬ ((s : Int) + 2 ≤ n ∧ n < (s : Int) + m + 2)) : Instr.findNow (.int .u8) (.int .u8 n) (endF s m) i = some none := by
  induction m generalizing s i with
  | zero => rfl
  | succ m ih =>
    have hne : (n == (s : Int) + 2) = false := by simp only [beq_eq_false_iff_ne, ne_eq]; omega
    simp only [endF, Instr.findNow, Instr.sameNow, if_true, hne]
    exact ih (s + 1) (i + 1) (by omega)
theorem endF_some (s m : Nat) (n : Int) (i : Nat) (h : (s : Int) + 2 ≤ n ∧ n < (s : Int) + m + 2) : ∃ j, Instr.findNow (.int .u8) (.int .u8 n) (endF s m) i = some (some (j, .int .i64 0)) := by
  induction m generalizing s i with
  | zero => omega
  | succ m ih =>
    by_cases hn : n = (s : Int) + 2
    · subst hn
      exact ⟨i, by simp [endF, Instr.findNow, Instr.sameNow]⟩
    · have hne : (n == (s : Int) + 2) = false := by simp only [beq_eq_false_iff_ne, ne_eq]; exact hn
      simp only [endF, Instr.findNow, Instr.sameNow, if_true, hne]
      exact ih (s + 1) (i + 1) (by omega)
theorem endE_none (m : Nat) (n : Int) (h : n < 2 ∨ (m : Int) + 2 ≤ n) : Instr.findNow (.int .u8) (.int .u8 n) (endE m) 0 = some none := endF_none 0 m n 0 (by omega)
theorem endE_some (m : Nat) (n : Int) (h : 2 ≤ n ∧ n < (m : Int) + 2) : ∃ j, Instr.findNow (.int .u8) (.int .u8 n) (endE m) 0 = some (some (j, .int .i64 0)) := endF_some 0 m n 0 (by omega)
end Go.Proofs.Ytpbpgbkpciffgaa
