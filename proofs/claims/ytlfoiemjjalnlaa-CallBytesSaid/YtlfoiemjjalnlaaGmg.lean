/- Maps with any entries (also such as have lost some), for the logic of walks: looked up, updated, cut, counted. Conditions: each rule's own premises. -/
import Derived.Test.YtlfoiemjjalnlaaGm
namespace Go.Proofs.Ytlfoiemjjalnlaa
open Go Go.RowKit
abbrev mapG (b : Nat) (es : List MapEntry) (c : Nat) : Blk := ⟨true, b, .map es.toArray c⟩
section
variable {P : Program} {n : Nat} {l : List (Nat × Value)} {S : List Nat} {w0 : World} {L : List Blk} {K : Act → World → Prop} {kt : Kont} {ops : Array Oper} {d : Tmp} {ty : TypeId} {pos : String} {af : Array Edge}
theorem K1_makeMapG {t : TypeId} (hd : Nat.blt d n = true) (h : ∀ nb, w0.heap.size ≤ nb → G n ((d, .map (some nb)) :: l) S w0 (mapG nb [] 0 :: L) K) :
    G n l S w0 L (K1 P ops kt ⟨some d, .makeMap t none, ty, pos, af, none⟩ K) := K1_makeMap hd h
theorem E_lookupG {t key elem : TypeId} {dd : TypeDesc} {x ix : Operand} {i b c : Nat} {es : List MapEntry} {kv z : Value} {r : Option (Nat × Value)} (hx : ev l x = some (.map (some b))) (hk : ev l ix = some kv) (hi : L[i]? = some (mapG b es c))
    (ht : P.underlying t = some (.map key elem)) (hkt : P.underlying key = some dd) (hp : PlainKey dd kv) (hz : ∀ w, (zeroValue elem).run P w = .ok z w) (hf : Instr.findNow dd kv es 0 = some r) {fv : Value} {fb : Bool} (hfv : found r z = fv) (hfb : r.isSome = fb) :
    ValOf P n l S w0 L ⟨some d, .lookup t x ix true, ty, pos, af, none⟩ (tupleOf [fv, .bool fb]) :=
  ⟨fun a w hF H => by
    subst hfv
    subst hfb
    unfold execOp
    simp only [hF.eval hx, hF.eval hk, Sem.run_bind, run_lookup H i ht hkt hp hz hi hf, Result.andThen_ok, Sem.run_pure]
    rfl⟩
theorem E_lookup1G {t key elem : TypeId} {dd : TypeDesc} {x ix : Operand} {i b c : Nat} {es : List MapEntry} {kv z : Value} {r : Option (Nat × Value)} (hx : ev l x = some (.map (some b))) (hk : ev l ix = some kv) (hi : L[i]? = some (mapG b es c))
    (ht : P.underlying t = some (.map key elem)) (hkt : P.underlying key = some dd) (hp : PlainKey dd kv) (hz : ∀ w, (zeroValue elem).run P w = .ok z w) (hf : Instr.findNow dd kv es 0 = some r) {fv : Value} (hfv : found r z = fv) :
    ValOf P n l S w0 L ⟨some d, .lookup t x ix false, ty, pos, af, none⟩ fv :=
  ⟨fun a w hF H => by
    subst hfv
    unfold execOp
    simp only [hF.eval hx, hF.eval hk, Sem.run_bind, run_lookup H i ht hkt hp hz hi hf, Result.andThen_ok, Sem.run_pure]
    rfl⟩
theorem K1_mapUpdateG {t key elem : TypeId} {dd : TypeDesc} {x ix y : Operand} {i b c : Nat} {es : List MapEntry} {kv v : Value} (hx : ev l x = some (.map (some b))) (hk : ev l ix = some kv) (hy : ev l y = some v) (hi : L[i]? = some (mapG b es c))
    (ht : P.underlying t = some (.map key elem)) (hkt : P.underlying key = some dd) (hp : PlainKey dd kv) (hf : Instr.findNow dd kv es 0 = some none)
    (h : G n l S w0 (L.set i (mapG b (es ++ [{ key := kv, val := v, born := c }]) (c + 1))) K) : G n l S w0 L (K1 P ops kt ⟨none, .mapUpdate t x ix y, ty, pos, af, none⟩ K) := .mk fun a w hF H => k1_want rfl <| by
  have hat := H.at_ i hi
  have hr : (Instr.mapUpdate t (.map (some b)) kv v).run P w = .ok () { w with heap := w.heap.setIfInBounds b (mapG b (es ++ [{ key := kv, val := v, born := c }]) (c + 1)).o } := by
    unfold Instr.mapUpdate
    simp only [Sem.run_bind, run_underlying ht, Result.andThen_ok, run_getObj_map hat, run_checkKey_plain hkt hp, run_findKey hkt hf]
    simp only [run_setMap hat]
    simp
  have hgo : (execOp a.eval (⟨none, .mapUpdate t x ix y, ty, pos, af, none⟩ : Oper)).run P w = .ok .skip { w with heap := w.heap.setIfInBounds b (mapG b (es ++ [{ key := kv, val := v, born := c }]) (c + 1)).o } := by
    unfold execOp
    simp only [hF.eval hx, hF.eval hk, hF.eval hy, Sem.run_bind, hr, Result.andThen_ok, Sem.run_pure]
  unfold Oper.wp
  rw [hgo]
  exact h.out _ _ hF (H.setMap hi _)
theorem K1_deleteG {t key elem kt' : TypeId} {dd : TypeDesc} {x ix : Operand} {i j b c : Nat} {es : List MapEntry} {kv v : Value} (hx : ev l x = some (.map (some b))) (hk : ev l ix = some kv) (hi : L[i]? = some (mapG b es c))
    (ht : P.underlying t = some (.map key elem)) (hkt : P.underlying key = some dd) (hp : PlainKey dd kv) (hf : Instr.findNow dd kv es 0 = some (some (j, v)))
    (h : G n l S w0 (L.set i (mapG b (es.eraseIdx j) c)) K) : G n l S w0 L (K1 P ops kt ⟨none, .call { callee := .builtin .delete, args := #[x, ix], argTypes := #[t, kt'] }, ty, pos, af, none⟩ K) := .mk fun a w hF H => k1_want rfl <| by
  have hat := H.at_ i hi
  have he : es.toArray.eraseIdxIfInBounds j = (es.eraseIdx j).toArray := by
    unfold Array.eraseIdxIfInBounds
    split
    · simp
    · rename_i hn
      simp at hn
      rw [List.eraseIdx_of_length_le hn]
  have hr : (Builtin.delete_ #[t, kt'] ty #[.map (some b), kv]).run P w = .ok (.tuple #[]) { w with heap := w.heap.setIfInBounds b (mapG b (es.eraseIdx j) c).o } := by
    unfold Builtin.delete_
    simp only [List.getElem?_toArray, List.getElem?_cons_zero, List.getElem?_cons_succ, Sem.run_bind, run_underlying ht, Result.andThen_ok, run_getObj_map hat, run_checkKey_plain hkt hp, run_findKey hkt hf, run_setMap hat, Sem.run_pure, he]
  have hgo : (execOp a.eval (⟨none, .call { callee := .builtin .delete, args := #[x, ix], argTypes := #[t, kt'] }, ty, pos, af, none⟩ : Oper)).run P w = .ok (.value (.tuple #[])) { w with heap := w.heap.setIfInBounds b (mapG b (es.eraseIdx j) c).o } := by
    rw [BigFrame.execOp_builtin]
    simp only [List.map_toArray, List.map_cons, List.map_nil, hF.eval hx, hF.eval hk, builtin, Sem.run_bind, hr, Result.andThen_ok, Sem.run_pure]
  unfold Oper.wp
  rw [hgo]
  exact h.out _ _ hF (H.setMap hi _)
theorem E_lenG {t key elem : TypeId} {x : Operand} {i b c : Nat} {es : List MapEntry} (hx : ev l x = some (.map (some b))) (hi : L[i]? = some (mapG b es c)) (ht : P.underlying t = some (.map key elem)) :
    ValOf P n l S w0 L ⟨some d, .call { callee := .builtin .len, args := #[x], argTypes := #[t] }, ty, pos, af, none⟩ (.int .i64 es.length) :=
  ⟨fun a w hF H => by
    have hr : (Builtin.len_ #[t] ty #[.map (some b)]).run P w = .ok (.int .i64 es.length) w := by
      unfold Builtin.len_
      simp only [List.getElem?_toArray, List.getElem?_cons_zero, Sem.run_bind, run_underlying ht, Result.andThen_ok, run_getObj_map (H.at_ i hi), Sem.run_pure]
      rfl
    rw [BigFrame.execOp_builtin]
    simp only [List.map_toArray, List.map_cons, List.map_nil, hF.eval hx, builtin, Sem.run_bind, hr, Result.andThen_ok, Sem.run_pure]⟩
end
end Go.Proofs.Ytlfoiemjjalnlaa
