/- Maps among the known blocks, for the logic of walks: made, looked up, updated; a map's entries in the order in which they came. Conditions: each rule's own premises. -/
import Derived.Test.YtlfoiemjjalnlaaGl8
import Derived.Test.YtlfoiemjjalnlaaKit6
namespace Go.Proofs.Ytlfoiemjjalnlaa
open Go Go.RowKit
/-- entries, each stamped with its place -/
def mkE : List (Value × Value) → Nat → List MapEntry
  | [], _ => []
  | p :: r, i => { key := p.1, val := p.2, born := i } :: mkE r (i + 1)
abbrev mapB (b : Nat) (kvs : List (Value × Value)) : Blk := ⟨true, b, .map (mkE kvs 0).toArray kvs.length⟩
/-- where a key stands, and what is there -/
def fd (d : TypeDesc) (k : Value) : List (Value × Value) → Nat → Option (Option (Nat × Value))
  | [], _ => some none
  | p :: r, i => match Instr.sameNow d k p.1 with
    | some true => some (some (i, p.2))
    | some false => fd d k r (i + 1)
    | none => none
theorem fd_eq (d : TypeDesc) (k : Value) (kvs : List (Value × Value)) (i j : Nat) : Instr.findNow d k (mkE kvs j) i = fd d k kvs i := by
  induction kvs generalizing i j with
  | nil => rfl
  | cons p r ih =>
    simp only [mkE, Instr.findNow, fd]
    cases h : Instr.sameNow d k p.1 with
    | none => rfl
    | some q => cases q with
      | true => rfl
      | false => exact ih _ _
theorem mkE_len (kvs : List (Value × Value)) (i : Nat) : (mkE kvs i).length = kvs.length := by
  induction kvs generalizing i with
  | nil => rfl
  | cons p r ih => simp [mkE, ih]
theorem mkE_app (kvs : List (Value × Value)) (p : Value × Value) (i : Nat) : mkE (kvs ++ [p]) i = mkE kvs i ++ [{ key := p.1, val := p.2, born := i + kvs.length }] := by
  induction kvs generalizing i with
  | nil => simp [mkE]
  | cons q r ih => simp only [List.cons_append, mkE, ih, List.length_cons]; rw [show i + 1 + r.length = i + (r.length + 1) by omega]
theorem mkE_get (kvs : List (Value × Value)) (i j : Nat) (p : Value × Value) (h : kvs[j]? = some p) : (mkE kvs i)[j]? = some { key := p.1, val := p.2, born := i + j } := by
  induction kvs generalizing i j with
  | nil => simp at h
  | cons q r ih =>
    cases j with
    | zero => simp at h; subst h; simp [mkE]
    | succ j =>
      simp only [List.getElem?_cons_succ] at h
      simp only [mkE, List.getElem?_cons_succ, ih (i + 1) j h]
      congr 2; omega
theorem mkE_set (kvs : List (Value × Value)) (i j : Nat) (p : Value × Value) (f : MapEntry → MapEntry) (hf : ∀ q, kvs[j]? = some q → f { key := q.1, val := q.2, born := i + j } = { key := p.1, val := p.2, born := i + j }) : (mkE kvs i).modify j f = mkE (kvs.set j p) i := by
  induction kvs generalizing i j with
  | nil => cases j <;> rfl
  | cons q r ih =>
    cases j with
    | zero => simp only [mkE, List.modify_zero_cons, List.set_cons_zero]; have := hf q (by simp); simp only [Nat.add_zero] at this; rw [this]
    | succ j =>
      simp only [mkE, List.modify_succ_cons, List.set_cons_succ]
      rw [ih (i + 1) j (fun q hq => by have := hf q (by simpa using hq); rw [show i + 1 + j = i + (j + 1) by omega]; exact this)]
theorem fd_get {d : TypeDesc} {k : Value} {kvs : List (Value × Value)} {i j : Nat} {v : Value} (h : fd d k kvs i = some (some (j, v))) : i ≤ j ∧ ∃ p, kvs[j - i]? = some p ∧ p.2 = v ∧ Instr.sameNow d k p.1 = some true := by
  induction kvs generalizing i with
  | nil => simp [fd] at h
  | cons q r ih =>
    simp only [fd] at h
    split at h
    · rename_i hs
      simp only [Option.some.injEq, Prod.mk.injEq] at h
      obtain ⟨rfl, rfl⟩ := h
      exact ⟨Nat.le_refl _, q, by simp, rfl, hs⟩
    · obtain ⟨h1, p, h2, h3⟩ := ih h
      refine ⟨by omega, p, ?_, h3⟩
      rw [show j - i = (j - (i + 1)) + 1 by omega, List.getElem?_cons_succ]; exact h2
    · simp at h
theorem ba_beq (x y : ByteArray) : (x == y) = decide (x = y) := by
  show (x.data == y.data) = _
  cases x with | mk a => cases y with | mk b =>
  by_cases h : a = b
  · subst h; simp
  · have h2 : ¬ (ByteArray.mk a = ByteArray.mk b) := fun e => h (by injection e)
    simp [h2]; exact fun e => h e
theorem same_plain {d : TypeDesc} {k k' : Value} (hp : PlainKey d k) (h : Instr.sameNow d k k' = some true) : Instr.sameBits 10000 k' k = true ∧ k' = k := by
  cases d <;> cases k <;> simp [PlainKey] at hp <;> cases k' <;> simp_all [Instr.sameNow, Instr.sameBits, ba_beq]
section
variable {P : Program} {n : Nat} {l : List (Nat × Value)} {S : List Nat} {w0 : World} {L : List Blk} {K : Act → World → Prop} {kt : Kont} {ops : Array Oper} {d : Tmp} {ty : TypeId} {pos : String} {af : Array Edge}
theorem K1_makeMap {t : TypeId} (hd : Nat.blt d n = true) (h : ∀ nb, w0.heap.size ≤ nb → G n ((d, .map (some nb)) :: l) S w0 (mapB nb [] :: L) K) :
    G n l S w0 L (K1 P ops kt ⟨some d, .makeMap t none, ty, pos, af, none⟩ K) := .mk fun a w hf H => k1_want rfl <| by
  unfold Oper.wp execOp
  simp only [Option.map_none, Instr.makeMap, Sem.run_bind, Sem.run_pure, Result.andThen_ok, run_newObj]
  exact (h _ H.size).out _ _ (hf.put (some d) _ hd) (H.alloc _)
theorem E_lookup {t key elem : TypeId} {dd : TypeDesc} {x ix : Operand} {i b : Nat} {kvs : List (Value × Value)} {kv z : Value} {r : Option (Nat × Value)} (hx : ev l x = some (.map (some b))) (hk : ev l ix = some kv) (hi : L[i]? = some (mapB b kvs))
    (ht : P.underlying t = some (.map key elem)) (hkt : P.underlying key = some dd) (hp : PlainKey dd kv) (hz : ∀ w, (zeroValue elem).run P w = .ok z w) (hf : fd dd kv kvs 0 = some r) {fv : Value} {fb : Bool} (hfv : found r z = fv) (hfb : r.isSome = fb) :
    ValOf P n l S w0 L ⟨some d, .lookup t x ix true, ty, pos, af, none⟩ (tupleOf [fv, .bool fb]) :=
  ⟨fun a w hF H => by
    subst hfv
    subst hfb
    unfold execOp
    simp only [hF.eval hx, hF.eval hk, Sem.run_bind, run_lookup H i ht hkt hp hz hi (by simpa [fd_eq] using hf), Result.andThen_ok, Sem.run_pure]
    rfl⟩
theorem E_lookup1 {t key elem : TypeId} {dd : TypeDesc} {x ix : Operand} {i b : Nat} {kvs : List (Value × Value)} {kv z : Value} {r : Option (Nat × Value)} (hx : ev l x = some (.map (some b))) (hk : ev l ix = some kv) (hi : L[i]? = some (mapB b kvs))
    (ht : P.underlying t = some (.map key elem)) (hkt : P.underlying key = some dd) (hp : PlainKey dd kv) (hz : ∀ w, (zeroValue elem).run P w = .ok z w) (hf : fd dd kv kvs 0 = some r) {fv : Value} (hfv : found r z = fv) :
    ValOf P n l S w0 L ⟨some d, .lookup t x ix false, ty, pos, af, none⟩ fv :=
  ⟨fun a w hF H => by
    subst hfv
    unfold execOp
    simp only [hF.eval hx, hF.eval hk, Sem.run_bind, run_lookup H i ht hkt hp hz hi (by simpa [fd_eq] using hf), Result.andThen_ok, Sem.run_pure]
    rfl⟩
theorem E_makeFunc {fn : Go.Fn} {xs ys : List Operand} {vs us : List Value} (hx : evs l xs = some vs) (hy : evs l ys = some us) :
    ValOf P n l S w0 L ⟨some d, .makeFunc fn xs.toArray ys.toArray, ty, pos, af, none⟩ (.func fn vs.toArray us.toArray) :=
  ⟨fun a w hF H => by
    unfold execOp
    simp only [List.map_toArray, hF.evals hx, hF.evals hy, Instr.makeFunc, Sem.run_bind, Sem.run_pure, Result.andThen_ok]⟩
theorem HP.setMap {w : World} {i b : Nat} {es : Array MapEntry} {c : Nat} (H : HP S w0 w L) (hi : L[i]? = some ⟨true, b, .map es c⟩) (o' : Obj) : HP S w0 { w with heap := w.heap.setIfInBounds b o' } (L.set i ⟨true, b, o'⟩) := by
  have hb : b < w.heap.size := H.lt i hi
  exact H.turn i hi _ o' rfl rfl rfl (by simp) (by simp [hb]) (fun k hk => by rw [Array.getElem?_setIfInBounds, if_neg (fun e => hk (Eq.symm e))])
theorem run_setMap {w : World} {b : Nat} {es : Array MapEntry} {c : Nat} (hat : w.heap[b]? = some (.map es c)) (o' : Obj) : (setObj b o').run P w = .ok () { w with heap := w.heap.setIfInBounds b o' } := by
  simp only [setObj, Sem.run, hat]
/-- a map behind an update -/
def updE (kvs : List (Value × Value)) (kv v : Value) (r : Option (Nat × Value)) : List (Value × Value) :=
  match r with
  | some (i, _) => kvs.set i (kv, v)
  | none => kvs ++ [(kv, v)]
theorem K1_mapUpdate {t key elem : TypeId} {dd : TypeDesc} {x ix y : Operand} {i b : Nat} {kvs : List (Value × Value)} {kv v : Value} {r : Option (Nat × Value)} (hx : ev l x = some (.map (some b))) (hk : ev l ix = some kv) (hy : ev l y = some v) (hi : L[i]? = some (mapB b kvs))
    (ht : P.underlying t = some (.map key elem)) (hkt : P.underlying key = some dd) (hp : PlainKey dd kv) (hf : fd dd kv kvs 0 = some r)
    (h : G n l S w0 (L.set i (mapB b (updE kvs kv v r))) K) : G n l S w0 L (K1 P ops kt ⟨none, .mapUpdate t x ix y, ty, pos, af, none⟩ K) := .mk fun a w hF H => k1_want rfl <| by
  have hat := H.at_ i hi
  have hfn : Instr.findNow dd kv (mkE kvs 0) 0 = some r := by rw [fd_eq]; exact hf
  have hr : (Instr.mapUpdate t (.map (some b)) kv v).run P w = .ok () { w with heap := w.heap.setIfInBounds b (mapB b (updE kvs kv v r)).o } := by
    unfold Instr.mapUpdate
    simp only [Sem.run_bind, run_underlying ht, Result.andThen_ok, run_getObj_map hat, run_checkKey_plain hkt hp, run_findKey hkt hfn]
    cases r with
    | none =>
      simp only [updE, run_setMap hat]
      simp [mkE_app]
    | some p =>
      obtain ⟨j, u⟩ := p
      obtain ⟨_, q, hq, _, hsn⟩ := fd_get hf
      simp only [Nat.sub_zero] at hq
      obtain ⟨hsb, hqe⟩ := same_plain hp hsn
      have hg := mkE_get kvs 0 j q hq
      have e1 : (mkE kvs 0).modify j (fun e => { key := kv, val := v, born := e.born }) = mkE (kvs.set j (kv, v)) 0 := mkE_set kvs 0 j (kv, v) _ (fun _ _ => rfl)
      simp only [List.getElem?_toArray, hg, Option.map_some, Option.getD_some, Instr.keyThatStays, hsb, if_true, Sem.run_pure, Result.andThen_ok, updE, Sem.run_bind, run_setMap hat]
      congr 1
      simp [e1]
  have hgo : (execOp a.eval (⟨none, .mapUpdate t x ix y, ty, pos, af, none⟩ : Oper)).run P w = .ok .skip { w with heap := w.heap.setIfInBounds b (mapB b (updE kvs kv v r)).o } := by
    unfold execOp
    simp only [hF.eval hx, hF.eval hk, hF.eval hy, Sem.run_bind, hr, Result.andThen_ok, Sem.run_pure]
  unfold Oper.wp
  rw [hgo]
  exact h.out _ _ hF (H.setMap hi _)
/-- a place in a map, for a key that is new -/
theorem K1_mapEntry {t key elem : TypeId} {dd : TypeDesc} {x ix : Operand} {i b : Nat} {kvs : List (Value × Value)} {kv z : Value} (hd : Nat.blt d n = true) (hx : ev l x = some (.map (some b))) (hk : ev l ix = some kv) (hi : L[i]? = some (mapB b kvs))
    (ht : P.underlying t = some (.map key elem)) (hkt : P.underlying key = some dd) (hp : PlainKey dd kv) (hz : ∀ w, (zeroValue elem).run P w = .ok z w) (hf : fd dd kv kvs 0 = some none)
    (h : G n ((d, tupleOf [z, .int .i64 kvs.length]) :: l) S w0 (L.set i (mapB b (kvs ++ [(kv, z)]))) K) : G n l S w0 L (K1 P ops kt ⟨some d, .mapEntry t x ix, ty, pos, af, none⟩ K) := .mk fun a w hF H => k1_want rfl <| by
  have hat := H.at_ i hi
  have hfn : Instr.findNow dd kv (mkE kvs 0) 0 = some none := by rw [fd_eq]; exact hf
  have hr : (Instr.mapEntry t (.map (some b)) kv).run P w = .ok (tupleOf [z, .int .i64 kvs.length]) { w with heap := w.heap.setIfInBounds b (mapB b (kvs ++ [(kv, z)])).o } := by
    unfold Instr.mapEntry
    simp only [Sem.run_bind, run_underlying ht, Result.andThen_ok, run_getObj_map hat, run_checkKey_plain hkt hp, run_findKey hkt hfn, hz, run_setMap hat, Sem.run_pure]
    simp [mkE_app, tupleOf, goInt]
  have hgo : (execOp a.eval (⟨some d, .mapEntry t x ix, ty, pos, af, none⟩ : Oper)).run P w = .ok (.value (tupleOf [z, .int .i64 kvs.length])) { w with heap := w.heap.setIfInBounds b (mapB b (kvs ++ [(kv, z)])).o } := by
    unfold execOp
    simp only [hF.eval hx, hF.eval hk, Sem.run_bind, hr, Result.andThen_ok, Sem.run_pure]
  unfold Oper.wp
  rw [hgo]
  exact h.out _ _ (hF.put (some d) _ hd) (H.setMap hi _)
theorem find_born (kvs : List (Value × Value)) (i j : Nat) (hj : j < kvs.length) : (mkE kvs i).findIdx? (fun e => (e.born : Int) == ((i + j : Nat) : Int)) = some j := by
  induction kvs generalizing i j with
  | nil => simp at hj
  | cons p r ih =>
    cases j with
    | zero => simp [mkE, List.findIdx?_cons]
    | succ j =>
      have hne : ((i : Int) == ((i + (j + 1) : Nat) : Int)) = false := by simp; omega
      rw [mkE, List.findIdx?_cons]
      simp only [hne]
      have := ih (i + 1) j (by simpa using hj)
      rw [show i + 1 + j = i + (j + 1) by omega] at this
      rw [if_neg (by simp)]
      simpa using this
theorem K1_entryStore {t : TypeId} {x s y : Operand} {i b j : Nat} {kvs : List (Value × Value)} {k0 u v : Value} {st : Int} (hx : ev l x = some (.map (some b))) (hs : ev l s = some (.int .i64 st)) (hy : ev l y = some v) (hi : L[i]? = some (mapB b kvs)) (hj : kvs[j]? = some (k0, u)) (hst : st = (j : Nat))
    (h : G n l S w0 (L.set i (mapB b (kvs.set j (k0, v)))) K) : G n l S w0 L (K1 P ops kt ⟨none, .entryStore t x s y, ty, pos, af, none⟩ K) := .mk fun a w hF H => k1_want rfl <| by
  subst hst
  have hat := H.at_ i hi
  have hlt : j < kvs.length := by
    rcases Nat.lt_or_ge j kvs.length with h | h
    · exact h
    · simp [List.getElem?_eq_none h] at hj
  have hfb := find_born kvs 0 j hlt
  rw [Nat.zero_add] at hfb
  have e1 : (mkE kvs 0).modify j (fun e => { key := e.key, val := v, born := e.born }) = mkE (kvs.set j (k0, v)) 0 := mkE_set kvs 0 j (k0, v) _ (fun q hq => by rw [hj] at hq; obtain rfl := Option.some.inj hq; rfl)
  have hr : (Instr.entryStore t (.map (some b)) (.int .i64 (j : Nat)) v).run P w = .ok () { w with heap := w.heap.setIfInBounds b (mapB b (kvs.set j (k0, v))).o } := by
    unfold Instr.entryStore
    simp only [Sem.run_bind, run_getObj_map hat, Result.andThen_ok, asInt, asIntOf, Sem.run_pure, List.findIdx?_toArray, hfb, run_setMap hat]
    congr 1
    simp [e1]
  have hgo : (execOp a.eval (⟨none, .entryStore t x s y, ty, pos, af, none⟩ : Oper)).run P w = .ok .skip { w with heap := w.heap.setIfInBounds b (mapB b (kvs.set j (k0, v))).o } := by
    unfold execOp
    simp only [hF.eval hx, hF.eval hs, hF.eval hy, Sem.run_bind, hr, Result.andThen_ok, Sem.run_pure]
  unfold Oper.wp
  rw [hgo]
  exact h.out _ _ hF (H.setMap hi _)
theorem K1_entryStoreL {t : TypeId} {x s y : Operand} {i b : Nat} {kvs : List (Value × Value)} {k0 u v : Value} (hx : ev l x = some (.map (some b))) (hs : ev l s = some (.int .i64 kvs.length)) (hy : ev l y = some v) (hi : L[i]? = some (mapB b (kvs ++ [(k0, u)])))
    (h : G n l S w0 (L.set i (mapB b (kvs ++ [(k0, v)]))) K) : G n l S w0 L (K1 P ops kt ⟨none, .entryStore t x s y, ty, pos, af, none⟩ K) :=
  K1_entryStore (j := kvs.length) (k0 := k0) (u := u) hx hs hy hi (by simp) rfl (by rw [List.set_append_right _ _ (Nat.le_refl _), Nat.sub_self, List.set_cons_zero]; exact h)
theorem G_regionHc {i j id m : Nat} {os : List Oper} {Lb : List Blk} (hb : (L.eraseIdx i).eraseIdx j = Lb) (hm : P.follows .mixedOrders = true) (hl : os.length = m) (h : G n l S w0 L (KH P S w0 Lb os.toArray kt m (Array.replicate m false))) : G n l S w0 L (KC P (.region id os.toArray true) kt) := .mk fun a w hf H => by
  subst hl
  have _ := hb
  exact ⟨wp_region_held hm (by simpa using (h.out a _ hf H.drew).out)⟩
end
end Go.Proofs.Ytlfoiemjjalnlaa
