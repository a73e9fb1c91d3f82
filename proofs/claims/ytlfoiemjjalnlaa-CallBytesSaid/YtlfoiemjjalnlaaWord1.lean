/- Names' letters: Word, and the document's answer. -/
import Derived.Test.YtlfoiemjjalnlaaGrs
import Derived.Test.YtlfoiemjjalnlaaTys
import Derived.Lib.Hide
namespace Go.Proofs.Ytlfoiemjjalnlaa
open Go Go.RowKit
def smallc (c : Int) : Bool := decide (97 ≤ c) && decide (c ≤ 122)
def okc (c : Int) : Bool := smallc c || (decide (48 ≤ c) && decide (c ≤ 57)) || decide (c = 45) || decide (c = 95)
/-- a text's bytes, as numbers -/
def bI (s : ByteArray) : List Int := s.data.toList.map fun c => (c.toNat : Int)
theorem bI_len (s : ByteArray) : (bI s).length = s.size := by rw [bI, List.length_map]; cases s; rfl
def wordF (s : ByteArray) : Bool := (match bI s with | [] => false | c :: r => smallc c && r.all okc) && decide (s.size ≤ 14)
theorem ba_at {s : ByteArray} {k : Nat} (h : k < s.size) : ∃ x : UInt8, s[k]? = some x ∧ (s[k]'h) = x ∧ ((x.toNat : Int) < 256 ∧ 0 ≤ (x.toNat : Int)) ∧ (bI s)[k]? = some (x.toNat : Int) ∧ (bI s).drop k = (x.toNat : Int) :: (bI s).drop (k + 1) := by
  have hl := bI_len s
  have hg : (bI s)[k]? = some ((s[k]'h).toNat : Int) := by
    have hl2 : s.data.toList.length = s.size := by cases s; rfl
    rw [bI, List.getElem?_map, List.getElem?_eq_getElem (by omega)]; rfl
  refine ⟨s[k]'h, by simp [h], rfl, ?_, hg, ?_⟩
  · have := (s[k]'h).toNat_lt; omega
  · rw [List.drop_eq_getElem_cons (by omega)]
    rw [List.getElem?_eq_getElem (by omega)] at hg
    rw [Option.some.inj hg]
theorem bI_nil {s : ByteArray} {k : Nat} (h : s.size ≤ k) : (bI s).drop k = [] := List.drop_of_length_le (by rw [bI_len]; exact h)
def firstF (s : ByteArray) : Bool := match bI s with | [] => false | c :: _ => smallc c
theorem smallc_e (y : Int) : smallc y = decide (97 ≤ y ∧ y ≤ 122) := by simp [smallc]
theorem okc_e (y : Int) : okc y = decide ((97 ≤ y ∧ y ≤ 122) ∨ (48 ≤ y ∧ y ≤ 57) ∨ y = 45 ∨ y = 95) := by
  simp only [okc, smallc, Bool.decide_or, Bool.decide_and, Bool.or_assoc]
end Go.Proofs.Ytlfoiemjjalnlaa
