/- Ranges over texts, for the logic of walks. Conditions: each rule's own premises. -/
import Derived.Test.YtlfoiemjjalnlaaGl8
import Derived.Laws.RangeString
import Derived.Laws.RangeAny
namespace Go.Proofs.Ytlfoiemjjalnlaa
open Go Go.RowKit
section
variable {P : Program} {n : Nat} {l : List (Nat × Value)} {S : List Nat} {w0 : World} {L : List Blk} {K : Act → World → Prop} {kt : Kont} {ops : Array Oper} {d : Tmp} {ty : TypeId} {pos : String} {af : Array Edge}
abbrev iterB (b : Nat) (s : ByteArray) (p : Nat) : Blk := ⟨true, b, .stringIter s p⟩
theorem K1_rangeStr {t : TypeId} {x : Operand} {s : ByteArray} (hd : Nat.blt d n = true) (hx : ev l x = some (.string s)) (ht : P.underlying t = some .string)
    (h : ∀ nb, w0.heap.size ≤ nb → G n ((d, .pointer (some ⟨nb, 0, none⟩)) :: l) S w0 (iterB nb s 0 :: L) K) : G n l S w0 L (K1 P ops kt ⟨some d, .range t x, ty, pos, af, none⟩ K) := .mk fun a w hf H => k1_want rfl <| by
  unfold Oper.wp execOp
  simp only [hf.eval hx, Instr.range, Sem.run_bind, run_underlying ht, Sem.run_pure, Result.andThen_ok, run_newObj]
  exact (h _ H.size).out _ _ (hf.put (some d) _ hd) (H.alloc _)
theorem K1_nextStr {x : Operand} {i b p : Nat} {s : ByteArray} (hd : Nat.blt d n = true) (hx : ev l x = some (.pointer (some ⟨b, 0, none⟩))) (hi : L[i]? = some (iterB b s p)) (hp : p < s.size)
    (h : G n ((d, .tuple [.bool true, .int .i64 p, .int .i32 (Utf8.decode s p).1].toArray) :: l) S w0 (L.set i (iterB b s (p + (Utf8.decode s p).2))) K) : G n l S w0 L (K1 P ops kt ⟨some d, .next x true, ty, pos, af, none⟩ K) := .mk fun a w hf H => k1_want rfl <| by
  have hat := H.at_ i hi
  have hb : b < w.heap.size := H.lt i hi
  have hset : (setObj b (.stringIter s (p + (Utf8.decode s p).2))).run P w = .ok () { w with heap := w.heap.setIfInBounds b (.stringIter s (p + (Utf8.decode s p).2)) } := by
    simp only [setObj, Sem.run, hat]
  have H1 := H.turn i hi { w with heap := w.heap.setIfInBounds b (.stringIter s (p + (Utf8.decode s p).2)) } (.stringIter s (p + (Utf8.decode s p).2)) rfl rfl rfl (by simp) (by simp [hb]) (fun k hk => by rw [Array.getElem?_setIfInBounds, if_neg (fun e => hk (Eq.symm e))])
  have hr : (Instr.next (.pointer (some ⟨b, 0, none⟩)) true ty).run P w = .ok (.tuple [.bool true, .int .i64 p, .int .i32 (Utf8.decode s p).1].toArray) { w with heap := w.heap.setIfInBounds b (.stringIter s (p + (Utf8.decode s p).2)) } := by
    unfold Instr.next
    simp only [Sem.run_bind, getObj, Sem.run, hat, Result.andThen_ok, hp, if_true]
    simp only [Sem.run_bind, hset, Result.andThen_ok, Sem.run_pure, goInt]
  unfold Oper.wp execOp
  simp only [hf.eval hx, Sem.run_bind, hr, Result.andThen_ok, Sem.run_pure]
  exact h.out _ _ (hf.put (some d) _ hd) H1
theorem K1_nextOver {x : Operand} {i b p : Nat} {s : ByteArray} (hd : Nat.blt d n = true) (hx : ev l x = some (.pointer (some ⟨b, 0, none⟩))) (hi : L[i]? = some (iterB b s p)) (hp : ¬ p < s.size)
    (h : G n ((d, .tuple [.bool false].toArray) :: l) S w0 L K) : G n l S w0 L (K1 P ops kt ⟨some d, .next x true, ty, pos, af, none⟩ K) := .mk fun a w hf H => k1_want rfl <| by
  have hat := H.at_ i hi
  have hr : (Instr.next (.pointer (some ⟨b, 0, none⟩)) true ty).run P w = .ok (.tuple [.bool false].toArray) w := by
    unfold Instr.next
    simp only [Sem.run_bind, getObj, Sem.run, hat, Result.andThen_ok, hp, if_false, Sem.run_pure]
  unfold Oper.wp execOp
  simp only [hf.eval hx, Sem.run_bind, hr, Result.andThen_ok, Sem.run_pure]
  exact h.out _ _ (hf.put (some d) _ hd) H
end
end Go.Proofs.Ytlfoiemjjalnlaa
