/- Maps among the known blocks: made, looked up, updated, deleted from; keys of one integer kind, or strings. Conditions: each rule's own premises. -/
import Derived.Test.YtlfoiemjjalnlaaKit1
import Derived.MapKept
namespace Go.Proofs.Ytlfoiemjjalnlaa
open Go Go.RowKit

/-- keys of a plain kind -/
def PlainKey : TypeDesc → Value → Prop
  | .int k, .int k' _ => k' = k
  | .string, .string _ => True
  | _, _ => False

section
variable {P : Program} {o : Oper} {a : Act} {w w0 : World} {K : Act → World → Prop} {Q : Exit → Act → World → Prop} {S : List Nat} {L : List Blk} {ops : Array Oper} {rest : List Oper}

theorem run_checkKey_plain {e : Bool} {key : TypeId} {d : TypeDesc} {v : Value} (hk : P.underlying key = some d) (hp : PlainKey d v) (w : World) : (Instr.checkKey e 10000 key v).run P w = .ok () w := by
  show (Instr.checkKey e (9999 + 1) key v).run P w = .ok () w
  unfold Instr.checkKey
  rw [Sem.run_bind, run_underlying hk w]
  cases d <;> cases v <;> simp_all [PlainKey]

theorem run_findKey {key : TypeId} {d : TypeDesc} {v : Value} {es : List MapEntry} {r : Option (Nat × Value)} (hk : P.underlying key = some d) (hf : Instr.findNow d v es 0 = some r) (w : World) :
    (Instr.findKey key v es).run P w = .ok r w := by
  unfold Instr.findKey
  rw [Sem.run_bind, run_underlying hk w]
  simp [hf]

theorem run_getObj_map {b : Nat} {es : Array MapEntry} {c : Nat} (h : w.heap[b]? = some (.map es c)) : (getObj b).run P w = .ok (.map es c) w := by
  simp only [getObj, Sem.run, h]

/-- a map is made -/
theorem hp_makeMap (H : HP S w0 w L) {t : TypeId} (hg : Region.wanted o (yielded ops a.tmps) = true) (ho : o.op = .makeMap t none)
    (h : ∀ nb w', w0.heap.size ≤ nb → HP S w0 w' (⟨true, nb, .map #[] 0⟩ :: L) → wpList P ops Q rest (a.put o.dst (.map (some nb))) w') : wpList P ops Q (o :: rest) a w := by
  refine BigFrame.wpList_want hg fun _ hK => ?_
  unfold Oper.wp execOp
  simp only [ho, Option.map_none, Instr.makeMap, Sem.run_bind, Sem.run_pure, Result.andThen_ok, run_newObj]
  exact hK _ _ (h _ _ H.size (H.alloc _))

/-- what is looked up -/
def found (r : Option (Nat × Value)) (z : Value) : Value := match r with | some (_, v) => v | none => z

theorem run_lookup (H : HP S w0 w L) (i : Nat) {t key elem : TypeId} {d : TypeDesc} {q : Bool} {b : Nat} {es : Array MapEntry} {c : Nat} {kv z : Value} {r : Option (Nat × Value)} {ok : Bool}
    (ht : P.underlying t = some (.map key elem)) (hk : P.underlying key = some d) (hp : PlainKey d kv) (hz : ∀ w, (zeroValue elem).run P w = .ok z w)
    (hi : L[i]? = some ⟨q, b, .map es c⟩) (hf : Instr.findNow d kv es.toList 0 = some r) :
    (Instr.lookup t (.map (some b)) kv ok).run P w = .ok (if ok then .tuple #[found r z, .bool r.isSome] else found r z) w := by
  unfold Instr.lookup
  simp only [Sem.run_bind, run_underlying ht, Result.andThen_ok, run_getObj_map (H.at_ i hi), Sem.run_pure, run_checkKey_plain hk hp, run_findKey hk hf]
  cases r with
  | none => cases ok <;> simp [found, hz]
  | some p => cases ok <;> simp [found]

end
end Go.Proofs.Ytlfoiemjjalnlaa
