/- Atomic loads over known blocks. -/
import Derived.Test.YtlfoiemjjalnlaaGl7
import Derived.Laws.LoneSync
namespace Go.Proofs.Ytlfoiemjjalnlaa
open Go Go.RowKit
section
variable {P : Program} {n : Nat} {l : List (Nat × Value)} {S : List Nat} {w0 : World} {L : List Blk} {d : Tmp} {ty : TypeId} {pos : String} {af : Array Edge}
theorem E_aload {F : FuncId} {fn : Func} {k : IntKind} {x : Operand} {ats : Array TypeId} {i b off : Nat} {q : Bool} {cs : Array Value} {T : TypeId} {fr : Nat × Nat} {v : Int}
    (hf0 : P.funcs[F]? = some fn) (hname : (fn.name == "runtime.NumGoroutine") = false) (hb : fn.body.isNone = true) (hn : Extern.findNext fn = none) (he : Extern.find fn = some (Extern.Atomic.loadT (.int k)))
    (hx : ev l x = some (.pointer (some ⟨b, off, none⟩))) (hi : L[i]? = some ⟨q, b, .cells cs T fr⟩) (hv : cs.toList[off]? = some (.int k v)) :
    ValOf P n l S w0 L ⟨some d, .call { callee := .value (.func F), args := [x].toArray, argTypes := ats }, ty, pos, af, none⟩ (.int k v) :=
  ⟨fun a w hf H => by
    rw [execOp_call_go, List.map_toArray]
    have e : [x].map a.eval = [.pointer (some ⟨b, off, none⟩)] := by simp [hf.eval hx]
    rw [e]
    have : (#[] ++ [Value.pointer (some ⟨b, off, none⟩)].toArray ++ #[] : Array Value) = #[.pointer (some ⟨b, off, none⟩)] := by simp
    rw [this]
    exact run_call_load hf0 hname hb hn k he ((cell_at H i hi).trans (by simpa using hv))⟩
theorem K1_aadd {ops : Array Oper} {kt : Kont} {K : Act → World → Prop} {F : FuncId} {fn : Func} {k : IntKind} {x y : Operand} {ats : Array TypeId} {i b off : Nat} {cs : Array Value} {T : TypeId} {u v : Int}
    (hf0 : P.funcs[F]? = some fn) (hname : (fn.name == "runtime.NumGoroutine") = false) (hb : fn.body.isNone = true) (hn : Extern.findNext fn = none) (he : Extern.find fn = some (Extern.Atomic.update (Op.intArith .add) k true)) (hd : Nat.blt d n = true)
    (hx : ev l x = some (.pointer (some ⟨b, off, none⟩))) (hy : ev l y = some (.int k v)) (hi : L[i]? = some ⟨true, b, .cells cs T (0, 0)⟩) (hv : cs.toList[off]? = some (.int k u))
    (h : G n ((d, .int k (k.wrap (u + v))) :: l) S w0 (L.set i ⟨true, b, .cells (cs.setIfInBounds off (.int k (k.wrap (u + v)))) T (0, 0)⟩) K) :
    G n l S w0 L (K1 P ops kt ⟨some d, .call { callee := .value (.func F), args := [x, y].toArray, argTypes := ats }, ty, pos, af, none⟩ K) := .mk fun a w hf H => k1_want rfl <| by
  unfold Oper.wp
  rw [execOp_call_go, List.map_toArray]
  have e : [x, y].map a.eval = [.pointer (some ⟨b, off, none⟩), .int k v] := by simp [hf.eval hx, hf.eval hy]
  rw [e]
  have : (#[] ++ [Value.pointer (some ⟨b, off, none⟩), Value.int k v].toArray ++ #[] : Array Value) = #[.pointer (some ⟨b, off, none⟩), .int k v] := by simp
  rw [this, run_call_add hf0 hname hb hn k he ((cell_at H i hi).trans (by simpa using hv)) (by simp [frozen_at H i hi]) (s := k.wrap (u + v)) (by simp [Op.intArith])]
  have H1 := H.turn i hi (w.setCell ⟨b, off, none⟩ (.int k (k.wrap (u + v)))) (.cells (cs.setIfInBounds off (.int k (k.wrap (u + v)))) T (0, 0)) rfl rfl rfl (by simp)
    (by rw [heap_setCell_same w b off cs T _ (H.at_ i hi)]) (fun q hq => heap_setCell_other w _ q _ hq)
  exact h.out _ _ (hf.put (some d) _ hd) H1
end
end Go.Proofs.Ytlfoiemjjalnlaa
