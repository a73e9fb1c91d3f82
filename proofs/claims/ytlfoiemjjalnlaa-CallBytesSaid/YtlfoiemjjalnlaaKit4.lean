/- Regions whose order is open and that only read, over known blocks: one walk in the order of the text. Conditions: each rule's own premises. -/
import Derived.Test.YtlfoiemjjalnlaaKit1
import Derived.Deep.QuietTactic
namespace Go.Proofs.Ytlfoiemjjalnlaa
open Go Go.RowKit

/-- 'wpQuiet' behind a wall: so that no elaboration reckons it out -/
structure WQ (P : Program) (ops : Array Oper) (C : World → Prop) (Q : Act → Prop) (l : List Oper) (a : Act) : Prop where
  out : wpQuiet P ops C Q l a

section
variable {P : Program} {S : List Nat} {w0 w : World} {L : List Blk} {o : Oper} {a : Act} {ops : Array Oper} {rest : List Oper} {Q' : Act → Prop}

/-- a region that draws its order, walked once: its operations only read what is known -/
theorem wp_region_hp {id : Nat} {Q : Exit → Act → World → Prop} {l : List Oper} (H : HP S w0 w L) (hm : P.follows .mixedOrders = true) (hB : Region.lexB .any l.toArray = true)
    (h : WQ P l.toArray (fun w' => HP S w0 w' L) (fun a' => ∀ w', HP S w0 w' L → Q .normal a' w') l a) : (Code.region id l.toArray true).wp P Q a w :=
  wp_region_quiet (C := fun w' => HP S w0 w' L) hm hB H.drew (by simpa using h.out)

theorem q_nil {C : World → Prop} (h : Q' a) : WQ P ops C Q' [] a := ⟨wpQuiet_nil h⟩
theorem q_step {C : World → Prop} (h : ∀ K : Act → Prop, (∀ a, WQ P ops C Q' rest a → K a) → if Region.wanted o (yielded ops a.tmps) then o.quiet P a C K else K (a.put o.dst undef)) : WQ P ops C Q' (o :: rest) a :=
  ⟨wpQuiet_step fun K hK => h K fun a h => hK a h.out⟩

/-- an operation that yields one value in every world, whatever it is -/
theorem q_value (v : Value) (hw : Region.wanted o (yielded ops a.tmps) = true) (hr : ∀ w, HP S w0 w L → (execOp a.eval o).run P w = .ok (.value v) w)
    (h : WQ P ops (fun w' => HP S w0 w' L) Q' rest (a.put o.dst v)) : WQ P ops (fun w' => HP S w0 w' L) Q' (o :: rest) a := by
  refine q_step fun K hK => ?_
  rw [if_pos hw]
  refine ⟨v, fun w H => ?_, hK _ h⟩
  unfold Oper.quietAt
  rw [hr w H]
  exact ⟨rfl, rfl⟩

/-- an operation whose guard says no -/
theorem q_skip {C : World → Prop} (hw : Region.wanted o (yielded ops a.tmps) = false) (h : WQ P ops C Q' rest (a.put o.dst undef)) : WQ P ops C Q' (o :: rest) a := by
  refine q_step fun K hK => ?_
  rw [if_neg (by simp [hw])]
  exact hK _ h

theorem run_load_one (H : HP S w0 w L) (i : Nat) {ty : TypeId} {x : Operand} {q : Bool} {b off : Nat} {cs : Array Value} {t : TypeId} {fr : Nat × Nat} {v : Value} (ho : o.op = .load ty x)
    (hx : a.eval x = .pointer (some ⟨b, off, none⟩)) (hi : L[i]? = some ⟨q, b, .cells cs t fr⟩) (hu : (P.underlying ty).isSome = true) (hd : aggB P ty = false) (hv : cs[off]? = some v) :
    (execOp a.eval o).run P w = .ok (.value v) w := by
  unfold execOp
  have hc : w.cell? ⟨b, off, none⟩ = some v := (cell_at H i hi).trans hv
  simp only [ho, hx, Instr.loadAt, Instr.sureAddr, loadVar, Sem.run_bind, Sem.run_pure, Result.andThen_ok, run_isAgg_of hu hd, Bool.false_eq_true, if_false, run_load, hc]

theorem run_load_agg (H : HP S w0 w L) (i : Nat) {ty : TypeId} {x : Operand} {q : Bool} {b off n : Nat} {cs : Array Value} {t : TypeId} {fr : Nat × Nat} {vs : Array Value} (ho : o.op = .load ty x)
    (hx : a.eval x = .pointer (some ⟨b, off, none⟩)) (hi : L[i]? = some ⟨q, b, .cells cs t fr⟩) (hn : (P.info? ty).map (·.size) = some n) (hle : off + n ≤ cs.size) (hvs : cs.extract off (off + n) = vs)
    (hu : (P.underlying ty).isSome = true) (hd : aggB P ty = true) : (execOp a.eval o).run P w = .ok (.value (.agg vs)) w := by
  have hl : (loadCells ⟨b, off, none⟩ vs.toList.length).run P w = .ok vs.toList.toArray w :=
    run_loadCells_list (P := P) w ⟨b, off, none⟩ vs.toList (fun j v hv => by
      have hadd : (⟨b, off, none⟩ : Addr).add j = ⟨b, off + j, none⟩ := by unfold Addr.add; split <;> simp_all
      rw [hadd, cell_at H i hi]
      subst hvs
      simp only [Array.getElem?_toList, Array.getElem?_extract] at hv
      split at hv
      · exact hv
      · simp at hv)
  have hlen : vs.toList.length = n := by subst hvs; simp; omega
  rw [hlen] at hl
  unfold execOp
  simp only [ho, hx, Instr.loadAt, Instr.sureAddr, loadVar, Sem.run_bind, Sem.run_pure, Result.andThen_ok, run_isAgg_of hu hd, if_true, run_sizeOf_of hn, hl, Array.toArray_toList]

theorem q_load_one (i : Nat) {ty : TypeId} {x : Operand} {q : Bool} {b off : Nat} {cs : Array Value} {t : TypeId} {fr : Nat × Nat} {v : Value} (hw : Region.wanted o (yielded ops a.tmps) = true) (ho : o.op = .load ty x)
    (hx : a.eval x = .pointer (some ⟨b, off, none⟩)) (hi : L[i]? = some ⟨q, b, .cells cs t fr⟩) (hu : (P.underlying ty).isSome = true) (hd : aggB P ty = false) (hv : cs[off]? = some v)
    (h : WQ P ops (fun w' => HP S w0 w' L) Q' rest (a.put o.dst v)) : WQ P ops (fun w' => HP S w0 w' L) Q' (o :: rest) a :=
  q_value v hw (fun _ H => run_load_one H i ho hx hi hu hd hv) h

theorem q_load_all (i : Nat) {ty : TypeId} {x : Operand} {q : Bool} {b : Nat} {cs : Array Value} {t : TypeId} {fr : Nat × Nat} (hw : Region.wanted o (yielded ops a.tmps) = true) (ho : o.op = .load ty x)
    (hx : a.eval x = .pointer (some ⟨b, 0, none⟩)) (hi : L[i]? = some ⟨q, b, .cells cs t fr⟩) (hu : (P.underlying ty).isSome = true) (hd : aggB P ty = true) {n : Nat} (hs : cs.size = n) (hn : (P.info? ty).map (·.size) = some n)
    (h : WQ P ops (fun w' => HP S w0 w' L) Q' rest (a.put o.dst (.agg cs))) : WQ P ops (fun w' => HP S w0 w' L) Q' (o :: rest) a :=
  q_value _ hw (fun _ H => run_load_agg H i ho hx hi hn (by omega) (by rw [← hs]; simp) hu hd) h

theorem q_load_agg (i : Nat) {ty : TypeId} {x : Operand} {q : Bool} {b off n : Nat} {cs : Array Value} {t : TypeId} {fr : Nat × Nat} (vs : Array Value) (hw : Region.wanted o (yielded ops a.tmps) = true) (ho : o.op = .load ty x)
    (hx : a.eval x = .pointer (some ⟨b, off, none⟩)) (hi : L[i]? = some ⟨q, b, .cells cs t fr⟩) (hu : (P.underlying ty).isSome = true) (hd : aggB P ty = true) (hn : (P.info? ty).map (·.size) = some n)
    (hle : off + n ≤ cs.size) (hvs : cs.extract off (off + n) = vs)
    (h : WQ P ops (fun w' => HP S w0 w' L) Q' rest (a.put o.dst (.agg vs))) : WQ P ops (fun w' => HP S w0 w' L) Q' (o :: rest) a :=
  q_value _ hw (fun _ H => run_load_agg H i ho hx hi hn hle hvs hu hd) h

/-- a call that yields one value and leaves what is known as it was -/
theorem q_call (v : Value) {f : FuncId} {args : Array Value} (hw : Region.wanted o (yielded ops a.tmps) = true) (hr : ∀ w, (execOp a.eval o).run P w = .ok (.enter f args) w)
    (hc : ∀ w, HP S w0 w L → Calls P f args w fun e w' => e = .returned v ∧ HP S w0 w' L)
    (h : WQ P ops (fun w' => HP S w0 w' L) Q' rest (a.put o.dst v)) : WQ P ops (fun w' => HP S w0 w' L) Q' (o :: rest) a := by
  refine q_step fun K hK => ?_
  rw [if_pos hw]
  refine ⟨v, fun w H => ?_, hK _ h⟩
  unfold Oper.quietAt
  rw [hr w]
  exact ⟨rfl, hc w H⟩
end
end Go.Proofs.Ytlfoiemjjalnlaa
