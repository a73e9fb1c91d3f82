/- copy between bytes. Conditions: the rule's own premises. -/
import Derived.Test.YtlfoiemjjalnlaaGl8
namespace Go.Proofs.Ytlfoiemjjalnlaa
open Go Go.RowKit
section
variable {P : Program} {n : Nat} {l : List (Nat × Value)} {S : List Nat} {w0 : World} {L : List Blk} {K : Act → World → Prop} {k : Kont} {ops : Array Oper} {d : Tmp} {ty : TypeId} {pos : String} {af : Array Edge}
theorem K1_copy {E : Nat} {t tt : TypeId} {inf : TypeInfo} {x y : Operand} {g o dl dc b2 o2 sl sc i j : Nat} {q : Bool} {cur cs : Array Value} {T : TypeId} {fr : Nat × Nat} {news : List Value} {xa : Option Addr}
    (hd : Nat.blt d n = true) (ht : P.underlying t = some (.slice E)) (hi : P.info? E = some inf) (hsize : inf.size = 1)
    (hx : ev l x = some (.slice xa dl dc)) (hxa : xa = some ⟨g, o, none⟩) (hy : ev l y = some (.slice (some ⟨b2, o2, none⟩) sl sc)) (hown : L[j]? = some ⟨true, g, .cells cur E (0, 0)⟩) (hb : L[i]? = some ⟨q, b2, .cells cs T fr⟩)
    (hle : sl ≤ dl) (hfit : o + sl ≤ cur.size) (hcs : o2 + sl ≤ cs.size) (hnews : (cs.toList.drop o2).take sl = news) (hone : news.all (·.oneCell') = true)
    (h : ∀ cur2 : Array Value, cur2.toList = cur.toList.take o ++ news ++ cur.toList.drop (o + sl) → G n ((d, .int .i64 (sl : Nat)) :: l) S w0 (L.set j ⟨true, g, .cells cur2 E (0, 0)⟩) K) :
    G n l S w0 L (K1 P ops k ⟨some d, .call { callee := .builtin .copy, args := #[x, y], argTypes := #[t, tt] }, ty, pos, af, none⟩ K) := .mk fun a w hf H => k1_want rfl <| by
  subst hxa
  have hl : news.length = sl := by subst hnews; simp; omega
  have hgw : w.heap[g]? = some (.cells cur E (0, 0)) := H.at_ j hown
  have hc : ∀ j u, news[j]? = some u → w.cell? ((⟨b2, o2, none⟩ : Addr).add j) = some u := by
    intro j u hj
    have hadd : (⟨b2, o2, none⟩ : Addr).add j = ⟨b2, o2 + j, none⟩ := by unfold Addr.add; split <;> simp_all
    rw [hadd, cell_at H i hb]
    subst hnews
    rw [List.getElem?_take] at hj
    split at hj
    · simpa using hj
    · simp at hj
  have hf1 := run_firstCells_some (P := P) w 1 sl ⟨b2, o2, none⟩ sl sc news (by omega) hc
  have hst := run_storeCells_at P g o E news 0 cur w hgw (by omega) (List.all_eq_true.1 hone)
  simp only [Nat.add_zero, hl] at hst
  have hmin : Nat.min sl dl = sl := Nat.min_eq_left hle
  have hr : (Builtin.copy_ #[t, tt] ty #[.slice (some ⟨g, o, none⟩) dl dc, .slice (some ⟨b2, o2, none⟩) sl sc]).run P w = .ok (.int .i64 (sl : Nat)) (w.setRow g (cur.toList.take o ++ news ++ cur.toList.drop (o + sl)).toArray) := by
    simp [Builtin.copy_, run_underlying ht, sizeOf, typeInfo, hi, hsize, Builtin.lenOf, hmin, hf1, hst, goInt]
  unfold Oper.wp execOp
  simp only [resolve, invoke, builtin, Sem.run_bind, Sem.run_pure, Result.andThen_ok, List.map_toArray, List.map_cons, List.map_nil, hf.eval hx, hf.eval hy, hr]
  have HT := H.turn j (o := .cells cur E (0, 0)) hown (w.setRow g (cur.toList.take o ++ news ++ cur.toList.drop (o + sl)).toArray) _ rfl rfl rfl (size_setRow w g _)
    (setRow_heap w g cur _ E _ hgw) (fun k hk => setRow_other w g k _ hk)
  exact (h _ rfl).out _ _ (hf.put (some d) _ hd) HT
end
end Go.Proofs.Ytlfoiemjjalnlaa
