/- A text appended to no bytes. Conditions: the rule's own premises. -/
import Derived.Test.YtpdnigifoaoflaaDoorGt
namespace Go.Proofs.YtpdnigifoaoflaaDoor
open Go Go.RowKit
section
variable {P : Program} {n : Nat} {l : List (Nat × Value)} {S : List Nat} {w0 : World} {L : List Blk} {K : Act → World → Prop} {k : Kont} {ops : Array Oper} {d : Tmp} {ty : TypeId} {pos : String} {af : Array Edge}
theorem run_appS_nil (w : World) (t u ty e : TypeId) (i : TypeInfo) (z : Value) (ht : P.underlying t = some (.slice e)) (hu : P.underlying u = some .string) (hi : P.info? e = some i) (hz : i.zero = some z) (h1 : i.size = 1) (hb1 : i.bytes = 1) (s : ByteArray)
    (hg : 0 < s.size) (h47 : s.size ≤ 140737488355328) :
    (Builtin.append_ #[t, u] ty #[.slice none 0 0, .string s]).run P w =
      .ok (.slice (some ⟨w.heap.size, 0, none⟩) s.size (grownCap w s.size 0 e))
        (w.drew.alloc (.cells ((sBytes s).toArray ++ Builtin.zeroCells z.cells (grownCap w s.size 0 e - s.size)) e)) := by
  have hn : ¬ (s.size = 0) := by omega
  have h63' : ¬ (9223372036854775807 < (s.size : Int)) := by omega
  have hfit : Builtin.nextslicecap s.size 0 * 1 ≤ 281474976710656 := growslice_fits hg (by omega)
  have h48' : ¬ (281474976710656 < Builtin.nextslicecap s.size 0) := by omega
  have hf := firstCells_str (P := P) s w.drew
  have hf0 : (Builtin.firstCells 1 0 (.slice none 0 0)).run P w.drew = .ok #[] w.drew := by
    simp [Builtin.firstCells, Sem.run_pure]
  simp [Builtin.append_, run_underlying ht, run_underlying hu, sizeOf, typeInfo, zeroValue, hi, hz, h1, hb1, Builtin.lenOf, hn, h63', h48', Question.forced, hf, hf0, newRow, grownCap]
theorem K1_appendStrN {E : Nat} {t tt : TypeId} {inf : TypeInfo} {z : Value} {s y : Operand} {str : ByteArray}
    (hd : Nat.blt d n = true) (ht : P.underlying t = some (.slice E)) (hu : P.underlying tt = some .string) (hi : P.info? E = some inf) (hz : inf.zero = some z) (hsize : inf.size = 1) (hby : inf.bytes = 1) (hzs : z.cells.size = 1)
    (hs : ev l s = some (.slice none 0 0)) (hy : ev l y = some (.string str)) (hm : 0 < str.size) (h47 : str.size ≤ 140737488355328)
    (h : ∀ v' e', Own E 1 v' str.size (sBytes str) e' → G n ((d, v') :: l) S w0 (e' ++ L) K) :
    G n l S w0 L (K1 P ops k ⟨some d, .call { callee := .builtin .append, args := #[s, y], argTypes := #[t, tt] }, ty, pos, af, none⟩ K) := .mk fun a w hf H => k1_want rfl <| by
  have hlen : (sBytes str).length = str.size * 1 := by rw [sBytes_len, Nat.mul_one]
  unfold Oper.wp execOp
  simp only [resolve, invoke, builtin, Sem.run_bind, Sem.run_pure, Result.andThen_ok, List.map_toArray, List.map_cons, List.map_nil, hf.eval hs, hf.eval hy]
  have hr := run_appS_nil (P := P) w t tt ty E inf z ht hu hi hz hsize hby str hm h47
  rw [hr]
  have hge := grownCap_ge w str.size 0 E
  have hcm2 : grownCap w str.size 0 E ≤ maxLen := grownCap_le_maxLen w str.size 0 E (by unfold maxLen; omega)
  refine (h _ [⟨true, w.heap.size, .cells ((sBytes str).toArray ++ Builtin.zeroCells z.cells (grownCap w str.size 0 E - str.size)) E (0, 0)⟩] ⟨hlen, .inr ⟨w.heap.size, _, _, rfl, rfl, hge, hcm2, ?_, ?_⟩⟩).out _ _ (hf.put (some d) _ hd) (H.drew.alloc _)
  · simp only [Array.size_append, List.size_toArray, size_zeroCells, hzs, sBytes_len, Nat.mul_one]
    omega
  · simp only [Array.toList_append]
    rw [← hlen]
    exact List.take_left
end
end Go.Proofs.YtpdnigifoaoflaaDoor
