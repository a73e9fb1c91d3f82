/- Pointers seen as unsafe ones, and back; a row of bytes as a text without a copy. Conditions: each rule's own premises. -/
import Derived.Test.YtpdnigifoaoflaaDoorGl8
import Derived.Lib.Builder
import Derived.Lib.UnsafeStr
import Derived.Laws.Externs
namespace Go.Proofs.YtpdnigifoaoflaaDoor
open Go Go.RowKit
section
variable {P : Program} {n : Nat} {l : List (Nat × Value)} {S : List Nat} {w0 : World} {L : List Blk} {K : Act → World → Prop} {k : Kont} {ops : Array Oper} {d : Tmp} {ty : TypeId} {pos : String} {af : Array Edge}
theorem shape_at {w : World} (H : HP S w0 w L) (i : Nat) {q : Bool} {b : Nat} {cs : Array Value} {t : TypeId} {fr : Nat × Nat} (hi : L[i]? = some ⟨q, b, .cells cs t fr⟩) : w.shape? b = some (t, cs.size) := by
  have := H.at_ i hi
  simp only [World.shape?, this]
theorem E_toUnsafe {src dst t e : TypeId} {m : Nat} {x : Operand} {b i : Nat} {q : Bool} {cs : Array Value} {fr : Nat × Nat} (hx : ev l x = some (.pointer (some ⟨b, 0, none⟩))) (hs : P.underlying src = some (.pointer t)) (hd : P.underlying dst = some .unsafePointer) (ht : (P.info? t).map (·.size) = some m) (hj : Nat.blt 0 m = true)
    (hi : L[i]? = some ⟨q, b, .cells cs e fr⟩) (hc : 0 < cs.size) : ValOf P n l S w0 L ⟨some d, .convert src dst x, ty, pos, af, none⟩ (.pointer (some ⟨b, 0, none⟩)) :=
  ⟨fun a w hf H => by
    obtain ⟨inf, hi2, hi3⟩ := Option.map_eq_some_iff.1 ht
    have hj' : inf.size ≠ 0 := by have := Nat.le_of_ble_eq_true hj; omega
    simp only [execOp, hf.eval hx, Sem.run_bind, Lib.run_to_unsafe (P := P) (w := w) ⟨b, 0, none⟩ hs hd hi2 hj' (shape_at H i hi) hc, Result.andThen_ok, Sem.run_pure]⟩
theorem E_fromUnsafe {src dst u e : TypeId} {m : Nat} {x : Operand} {b i : Nat} {q : Bool} {cs : Array Value} {fr : Nat × Nat} (hx : ev l x = some (.pointer (some ⟨b, 0, none⟩))) (hs : P.underlying src = some .unsafePointer) (hd : P.underlying dst = some (.pointer u)) (hu : (P.info? u).map (·.size) = some m)
    (hi : L[i]? = some ⟨q, b, .cells cs e fr⟩) (hlies : liesAt P P.depth e (cs.size / P.cellsOf e) 0 u 1 = true) : ValOf P n l S w0 L ⟨some d, .convert src dst x, ty, pos, af, none⟩ (.pointer (some ⟨b, 0, none⟩)) :=
  ⟨fun a w hf H => by
    obtain ⟨inf, hi2, hi3⟩ := Option.map_eq_some_iff.1 hu
    simp only [execOp, hf.eval hx, Sem.run_bind, Lib.run_from_unsafe (P := P) (w := w) ⟨b, 0, none⟩ hs hd hi2 (shape_at H i hi) hlies, Result.andThen_ok, Sem.run_pure]⟩
theorem rb_pne_same {t te : TypeId} {m : Nat} {a : Addr} (hp : P.underlying t = some (.pointer te)) (hte : (P.info? te).map (·.size) = some m) : RBin P .neq t (.pointer (some a)) (.pointer (some a)) (.bool false) := .mk fun w => by
  obtain ⟨inf, hi, -⟩ := Option.map_eq_some_iff.1 hte
  exact Lib.run_neq_ptr_same w a hp hi
theorem K1_noEsc {F : FuncId} {fn : Func} {x : Operand} {v : Value} {ats : Array TypeId} (hf : P.funcs[F]? = some fn) (hname : (fn.name == "runtime.NumGoroutine") = false) (hb : fn.body.isNone = true) (hn : Extern.findNext fn = none) (he : Extern.find fn = some Extern.AbiNoEscape.same) (hd : Nat.blt d n = true) (hx : ev l x = some v)
    (h : G n ((d, v) :: l) S w0 L K) : G n l S w0 L (K1 P ops k ⟨some d, .call { callee := .value (.func F), args := #[x], argTypes := ats }, ty, pos, af, none⟩ K) := .mk fun a w hF H => k1_want rfl <| by
  unfold Oper.wp
  rw [execOp_call_go, List.map_toArray, hF.evals (xs := [x]) (vs := [v]) (by simp [evs, hx]), run_callFunc_extern hf hname hb hn he]
  exact h.out _ _ (hF.put (some d) v hd) H
theorem E_sliceData {x : Operand} {a : Addr} {m c : Nat} {ats : Array TypeId} (hx : ev l x = some (.slice (some a) m c)) (hc : c ≠ 0) : ValOf P n l S w0 L ⟨some d, .call { callee := .builtin .unsafeSliceData, args := #[x], argTypes := ats }, ty, pos, af, none⟩ (.pointer (some a)) :=
  E_builtin (xs := [x]) (vs := [.slice (some a) m c]) (by simp [evs, hx]) (fun cs => BigFrame.builtin_unsafeSliceData ..) ⟨fun w => Lib.run_unsafeSliceData_row _ _ _ _ _ _ hc⟩
theorem K1_unsafeStr {x y : Operand} {i g : Nat} {cur : Array Value} {z : List UInt8} {pt it e : TypeId} {m : Nat} (hd : Nat.blt d n = true) (hx : ev l x = some (.pointer (some ⟨g, 0, none⟩))) (hy : ev l y = some (.int .i64 (m : Nat))) (hi : L[i]? = some ⟨true, g, .cells cur e (0, 0)⟩)
    (hp : P.underlying pt = some (.pointer e)) (hc : P.cellsOf e = 1) (hm : z.length = m) (h0 : 0 < m) (hn : m ≤ cur.size) (h63 : m ≤ 9223372036854775807) (hcell : cur.toList.take m = Lib.byteCells z)
    (h : G n ((d, .string ⟨z.toArray⟩) :: l) S w0 (L.eraseIdx i) K) : G n l S w0 L (K1 P ops k ⟨some d, .call { callee := .builtin .unsafeString, args := #[x, y], argTypes := #[pt, it] }, ty, pos, af, none⟩ K) := .mk fun a w hf H => k1_want rfl <| by
  subst hm
  have hgw := H.at_ i hi
  have hr := Lib.run_unsafeString_row (P := P) w pt it ty e hp hc g cur.size (shape_at H i hi) z (fun h => by rw [h] at h0; simp at h0) hn h63 (fun j u hu => by
    have hadd : (⟨g, 0, none⟩ : Addr).add j = ⟨g, j, none⟩ := by unfold Addr.add; split <;> simp_all
    rw [hadd, cell_at H i hi]
    have hj : j < z.length := by
      rcases Nat.lt_or_ge j z.length with h | h
      · exact h
      · rw [List.getElem?_eq_none h] at hu; cases hu
    have h2 := congrArg (fun l => l[j]?) hcell
    simp only [List.getElem?_take, if_pos hj] at h2
    rw [← Array.getElem?_toList, h2]
    simp [Lib.byteCells, hu])
  unfold Oper.wp
  rw [BigFrame.execOp_builtin]
  simp only [List.map_toArray, List.map_cons, List.map_nil, hf.eval hx, hf.eval hy]
  rw [BigFrame.builtin_unsafeString]
  simp only [Sem.run_bind, hr, Result.andThen_ok, Sem.run_pure]
  have hz : z.length ≠ 0 := by omega
  have hgl : g < w.heap.size := H.lt i hi
  have HT := H.turn i (o := .cells cur e (0, 0)) hi (w.freeze ⟨g, 0, none⟩ z.length) (.cells cur e (0, 0 + z.length)) (by unfold World.freeze; rw [if_neg hz]) (by unfold World.freeze; rw [if_neg hz]) (by unfold World.freeze; rw [if_neg hz])
    (by unfold World.freeze; rw [if_neg hz]; exact Array.size_modify) (by unfold World.freeze; rw [if_neg hz]; dsimp only; rw [Array.getElem?_modify, if_pos rfl]; have hgw' : w.heap[g]? = some (.cells cur e (0, 0)) := hgw; rw [hgw']; rfl) (fun k hk => by unfold World.freeze; rw [if_neg hz]; dsimp only; rw [Array.getElem?_modify, if_neg (fun h => hk h.symm)])
  refine h.out _ _ (hf.put (some d) _ hd) (HT.sub ?_)
  have : ∀ (L : List Blk) (i : Nat) (x : Blk), (L.eraseIdx i).Sublist (L.set i x) := by
    intro L
    induction L with
    | nil => intro i x; simp
    | cons y r ih =>
      intro i x
      cases i with
      | zero => exact List.sublist_cons_self _ _
      | succ i => exact (ih i x).cons_cons y
  exact this L i _
end
end Go.Proofs.YtpdnigifoaoflaaDoor
