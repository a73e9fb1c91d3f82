/- A call of a function value that is known. Conditions: each rule's own premises. -/
import Derived.Test.YtmicafpfkpnalaaDoorGl8
namespace Go.Proofs.YtmicafpfkpnalaaDoor
open Go Go.RowKit
section
variable {P : Program} {n : Nat} {l : List (Nat × Value)} {S : List Nat} {w0 : World} {L : List Blk} {K : Act → World → Prop} {k : Kont} {ops : Array Oper} {d : Tmp} {ty : TypeId} {pos : String} {af : Array Edge}
theorem K1_callv {F : FuncId} {t : Tmp} {first captured : Array Value} {xs : List Operand} {vs : List Value} {ats : Array TypeId} {R : Value → List Blk → Prop} (hfn : (P.funcs[F]?).map (fun fn => (fn.name == "runtime.NumGoroutine", fn.body.isNone)) = some (false, false)) (hd : Nat.blt d n = true)
    (ht : lk l t = some (.func (.func F) first captured)) (hx : evs l xs = some vs) (hc : Fn P F (first ++ vs.toArray ++ captured) S w0 L R) (h : ∀ v L', R v L' → G n ((d, v) :: l) S w0 L' K) :
    G n l S w0 L (K1 P ops k ⟨some d, .call { callee := .value (.tmp t), args := xs.toArray, argTypes := ats }, ty, pos, af, none⟩ K) := .mk fun a w hf H => k1_want rfl <| by
    unfold Oper.wp
    have e1 : a.eval (.tmp t) = .func (.func F) first captured := hf.eval (x := .tmp t) ht
    have e : execOp a.eval ⟨some d, .call { callee := .value (.tmp t), args := xs.toArray, argTypes := ats }, ty, pos, af, none⟩ = callFunc F (first ++ (xs.toArray.map a.eval) ++ captured) := by
      show (do let d ← Deferred.ofValue (a.eval (.tmp t)) (xs.toArray.map a.eval); invoke d.target d.args) = _
      rw [e1]; rfl
    rw [e, List.map_toArray, hf.evals hx, run_callFunc hfn]
    refine (hc.out w H).mono fun e w' ⟨v, L', he, hR, H'⟩ => ?_
    subst he
    exact ((h v L' hR).out _ _ (hf.put (some d) v hd) H')
theorem K1_callv0 {F : FuncId} {t : Tmp} {xs : List Operand} {vs : List Value} {ats : Array TypeId} {R : Value → List Blk → Prop} (hfn : (P.funcs[F]?).map (fun fn => (fn.name == "runtime.NumGoroutine", fn.body.isNone)) = some (false, false)) (hd : Nat.blt d n = true)
    (ht : lk l t = some (.func (.func F) #[] #[])) (hx : evs l xs = some vs) (hc : Fn P F vs.toArray S w0 L R) (h : ∀ v L', R v L' → G n ((d, v) :: l) S w0 L' K) :
    G n l S w0 L (K1 P ops k ⟨some d, .call { callee := .value (.tmp t), args := xs.toArray, argTypes := ats }, ty, pos, af, none⟩ K) :=
  K1_callv hfn hd ht hx (by simpa using hc) h
/-- ways that meet again behind a block -/
theorem G_meetj {γ : Type} {c y : Code} (R : γ → Prop) (ch : γ → List (Nat × Value)) (kp : List (Nat × Value)) (L' : γ → List Blk) (_hk : Sub l kp)
    (h1 : G n l S w0 L (KC P c (.cut (At n S w0 R (fun g => ch g ++ kp) L') k))) (h2 : ∀ g, R g → G n (ch g ++ kp) S w0 (L' g) (KC P y k)) :
    G n l S w0 L (KC P c (.seq y k)) := .mk fun a w hf H =>
  ⟨wp_mono (h1.out a w hf H).out fun e a w h => by
    cases e <;> first | exact (let ⟨g, hR, hf, H⟩ := h.out; ((h2 g hR).out a w hf H).out) | exact h⟩
end
end Go.Proofs.YtmicafpfkpnalaaDoor
