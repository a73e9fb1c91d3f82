/- Part 2 of what the last text of this claim leans on: rules of walks, contracts, plain facts. Conditions: those of each statement. -/
import Derived.Test.YtpbpgbkpciffgaaQt1
set_option maxRecDepth 100000
namespace Go.Proofs.Ytpbpgbkpciffgaa
open Go Go.RowKit
theorem sz_3 : (Try.prog.info? 3).map (·.size) = some 1 := by kernel_rfl
theorem sz_5 : (Try.prog.info? 5).map (·.size) = some 1 := by kernel_rfl
theorem sz_22 : (Try.prog.info? 22).map (·.size) = some 1 := by kernel_rfl
theorem sz_23 : (Try.prog.info? 23).map (·.size) = some 1 := by kernel_rfl
theorem sz_24 : (Try.prog.info? 24).map (·.size) = some 6 := by kernel_rfl
theorem sz_26 : (Try.prog.info? 26).map (·.size) = some 9 := by kernel_rfl
theorem h2l : (Try.prog.info? 33).map (·.size) = some 1 := by kernel_rfl
theorem sz_36 : (Try.prog.info? 36).map (·.size) = some 1 := by kernel_rfl
theorem h4b : (Try.prog.info? 38).map (·.size) = some 2 := by kernel_rfl
theorem h4p : (Try.prog.info? 41).map (·.size) = some 1 := by kernel_rfl
theorem h3a : (Try.prog.info? 43).map (·.size) = some 4 := by kernel_rfl
theorem sz_60 : (Try.prog.info? 60).map (·.size) = some 2 := by kernel_rfl
theorem h5r : (Try.prog.info? 65).map (·.size) = some 6 := by kernel_rfl
theorem sz_68 : (Try.prog.info? 68).map (·.size) = some 8 := by kernel_rfl
theorem sz_79 : (Try.prog.info? 79).map (·.size) = some 7 := by kernel_rfl
theorem sz_119 : (Try.prog.info? 119).map (·.size) = some 1 := by kernel_rfl
theorem sz_122 : (Try.prog.info? 122).map (·.size) = some 16 := by kernel_rfl
theorem sz_138 : (Try.prog.info? 138).map (·.size) = some 30 := by kernel_rfl
theorem sz_198 : (Try.prog.info? 198).map (·.size) = some 64 := by kernel_rfl
theorem fo_26_0 : FldOff Try.prog 26 0 0 := .of Try.underlying26 rfl (by kernel_rfl) rfl
theorem fo_26_1 : FldOff Try.prog 26 1 1 := .of Try.underlying26 rfl (by kernel_rfl) rfl
theorem fo_26_2 : FldOff Try.prog 26 2 2 := .of Try.underlying26 rfl (by kernel_rfl) rfl
theorem fo_26_3 : FldOff Try.prog 26 3 3 := .of Try.underlying26 rfl (by kernel_rfl) rfl
theorem h2f : FldOff Try.prog 43 0 0 := .of Try.underlying43 rfl (by kernel_rfl) rfl
theorem fo_43_1 : FldOff Try.prog 43 1 1 := .of Try.underlying43 rfl (by kernel_rfl) rfl
theorem fo_43_2 : FldOff Try.prog 43 2 2 := .of Try.underlying43 rfl (by kernel_rfl) rfl
theorem h1t : FldOff Try.prog 43 3 3 := .of Try.underlying43 rfl (by kernel_rfl) rfl
theorem fo_60_0 : FldOff Try.prog 60 0 0 := .of Try.underlying60 rfl (by kernel_rfl) rfl
theorem fo_65_0 : FldOff Try.prog 65 0 0 := .of Try.underlying65 rfl (by kernel_rfl) rfl
theorem fo_65_1 : FldOff Try.prog 65 1 1 := .of Try.underlying65 rfl (by kernel_rfl) rfl
theorem h5t : FldOff Try.prog 65 2 2 := .of Try.underlying65 rfl (by kernel_rfl) rfl
theorem fo_65_3 : FldOff Try.prog 65 3 3 := .of Try.underlying65 rfl (by kernel_rfl) rfl
theorem fo_65_4 : FldOff Try.prog 65 4 5 := .of Try.underlying65 rfl (by kernel_rfl) rfl
theorem fo_68_0 : FldOff Try.prog 68 0 0 := .of Try.underlying68 rfl (by kernel_rfl) rfl
theorem fo_68_1 : FldOff Try.prog 68 1 1 := .of Try.underlying68 rfl (by kernel_rfl) rfl
theorem fo_68_2 : FldOff Try.prog 68 2 2 := .of Try.underlying68 rfl (by kernel_rfl) rfl
theorem fo_68_3 : FldOff Try.prog 68 3 3 := .of Try.underlying68 rfl (by kernel_rfl) rfl
theorem fo_68_4 : FldOff Try.prog 68 4 5 := .of Try.underlying68 rfl (by kernel_rfl) rfl
theorem fo_68_5 : FldOff Try.prog 68 5 6 := .of Try.underlying68 rfl (by kernel_rfl) rfl
theorem fo_68_6 : FldOff Try.prog 68 6 7 := .of Try.underlying68 rfl (by kernel_rfl) rfl
theorem fo_73_0 : FldOff Try.prog 73 0 0 := .of Try.underlying73 rfl (by kernel_rfl) rfl
theorem fo_73_1 : FldOff Try.prog 73 1 1 := .of Try.underlying73 rfl (by kernel_rfl) rfl
theorem fo_73_2 : FldOff Try.prog 73 2 2 := .of Try.underlying73 rfl (by kernel_rfl) rfl
theorem fo_73_3 : FldOff Try.prog 73 3 4 := .of Try.underlying73 rfl (by kernel_rfl) rfl
theorem fo_73_4 : FldOff Try.prog 73 4 5 := .of Try.underlying73 rfl (by kernel_rfl) rfl
theorem h5b : FldOff Try.prog 73 5 6 := .of Try.underlying73 rfl (by kernel_rfl) rfl
theorem fo_73_6 : FldOff Try.prog 73 6 7 := .of Try.underlying73 rfl (by kernel_rfl) rfl
theorem fo_79_0 : FldOff Try.prog 79 0 0 := .of Try.underlying79 rfl (by kernel_rfl) rfl
theorem fo_79_1 : FldOff Try.prog 79 1 1 := .of Try.underlying79 rfl (by kernel_rfl) rfl
theorem h5j : FldOff Try.prog 105 0 0 := .of Try.underlying105 rfl (by kernel_rfl) rfl
theorem fo_105_1 : FldOff Try.prog 105 1 1 := .of Try.underlying105 rfl (by kernel_rfl) rfl
theorem fo_105_2 : FldOff Try.prog 105 2 2 := .of Try.underlying105 rfl (by kernel_rfl) rfl
theorem fo_114_2 : FldOff Try.prog 114 2 0 := .of Try.underlying114 rfl (by kernel_rfl) rfl
theorem h3n : FldOff Try.prog 116 0 0 := .of Try.underlying116 rfl (by kernel_rfl) rfl
theorem fo_116_1 : FldOff Try.prog 116 1 1 := .of Try.underlying116 rfl (by kernel_rfl) rfl
theorem fo_116_2 : FldOff Try.prog 116 2 2 := .of Try.underlying116 rfl (by kernel_rfl) rfl
theorem fo_124_0 : FldOff Try.prog 124 0 0 := .of Try.underlying124 rfl (by kernel_rfl) rfl
theorem h1q : FldOff Try.prog 138 0 0 := .of Try.underlying138 rfl (by kernel_rfl) rfl
theorem h3t : FldOff Try.prog 138 1 1 := .of Try.underlying138 rfl (by kernel_rfl) rfl
theorem h5d : FldOff Try.prog 138 2 2 := .of Try.underlying138 rfl (by kernel_rfl) rfl
theorem h2k : FldOff Try.prog 138 3 18 := .of Try.underlying138 rfl (by kernel_rfl) rfl
theorem fo_138_4 : FldOff Try.prog 138 4 19 := .of Try.underlying138 rfl (by kernel_rfl) rfl
theorem h3z : FldOff Try.prog 138 5 28 := .of Try.underlying138 rfl (by kernel_rfl) rfl
theorem h3r : FldOff Try.prog 138 6 29 := .of Try.underlying138 rfl (by kernel_rfl) rfl
theorem inf_3 : (Try.prog.info? 3).map (fun i => (i.zero, i.size, i.bytes)) = some (some (Value.int .i64 0), 1, 8) := by kernel_rfl
theorem inf_3_i : Try.prog.info? 3 = some ((Try.prog.info? 3).getD default) := (h3u inf_3).1
theorem inf_3_z : ((Try.prog.info? 3).getD default).zero = some (Value.int .i64 0) := (h3u inf_3).2.1
theorem inf_3_s : ((Try.prog.info? 3).getD default).size = 1 := (h3u inf_3).2.2.1
theorem inf_3_b : ((Try.prog.info? 3).getD default).bytes = 8 := (h3u inf_3).2.2.2
theorem inf_22 : (Try.prog.info? 22).map (fun i => (i.zero, i.size, i.bytes)) = some (some (Value.int .u32 0), 1, 4) := by kernel_rfl
theorem inf_22_i : Try.prog.info? 22 = some ((Try.prog.info? 22).getD default) := (h3u inf_22).1
theorem inf_22_z : ((Try.prog.info? 22).getD default).zero = some (Value.int .u32 0) := (h3u inf_22).2.1
theorem inf_22_s : ((Try.prog.info? 22).getD default).size = 1 := (h3u inf_22).2.2.1
theorem inf_22_b : ((Try.prog.info? 22).getD default).bytes = 4 := (h3u inf_22).2.2.2
theorem inf_33 : (Try.prog.info? 33).map (fun i => (i.zero, i.size, i.bytes)) = some (some (Value.int .u8 0), 1, 1) := by kernel_rfl
theorem inf_33_i : Try.prog.info? 33 = some ((Try.prog.info? 33).getD default) := (h3u inf_33).1
theorem inf_33_z : ((Try.prog.info? 33).getD default).zero = some (Value.int .u8 0) := (h3u inf_33).2.1
theorem inf_33_s : ((Try.prog.info? 33).getD default).size = 1 := (h3u inf_33).2.2.1
theorem inf_33_b : ((Try.prog.info? 33).getD default).bytes = 1 := (h3u inf_33).2.2.2
theorem inf_36 : (Try.prog.info? 36).map (fun i => (i.zero, i.size, i.bytes)) = some (some (Value.pointer none), 1, 8) := by kernel_rfl
theorem inf_36_i : Try.prog.info? 36 = some ((Try.prog.info? 36).getD default) := (h3u inf_36).1
theorem inf_36_z : ((Try.prog.info? 36).getD default).zero = some (Value.pointer none) := (h3u inf_36).2.1
theorem inf_36_s : ((Try.prog.info? 36).getD default).size = 1 := (h3u inf_36).2.2.1
theorem inf_36_b : ((Try.prog.info? 36).getD default).bytes = 8 := (h3u inf_36).2.2.2
theorem inf_41 : (Try.prog.info? 41).map (fun i => (i.zero, i.size, i.bytes)) = some (some (Value.int .u16 0), 1, 2) := by kernel_rfl
theorem inf_41_i : Try.prog.info? 41 = some ((Try.prog.info? 41).getD default) := (h3u inf_41).1
theorem inf_41_z : ((Try.prog.info? 41).getD default).zero = some (Value.int .u16 0) := (h3u inf_41).2.1
theorem inf_41_s : ((Try.prog.info? 41).getD default).size = 1 := (h3u inf_41).2.2.1
theorem inf_41_b : ((Try.prog.info? 41).getD default).bytes = 2 := (h3u inf_41).2.2.2
theorem inf_43 : (Try.prog.info? 43).map (fun i => (i.zero, i.size, i.bytes)) = some (some (Value.agg #[Value.int .u16 0, Value.int .u8 0, Value.int .u8 0, Value.int .u32 0]), 4, 8) := by kernel_rfl
theorem inf_43_i : Try.prog.info? 43 = some ((Try.prog.info? 43).getD default) := (h3u inf_43).1
theorem inf_43_z : ((Try.prog.info? 43).getD default).zero = some (Value.agg #[Value.int .u16 0, Value.int .u8 0, Value.int .u8 0, Value.int .u32 0]) := (h3u inf_43).2.1
theorem inf_43_s : ((Try.prog.info? 43).getD default).size = 4 := (h3u inf_43).2.2.1
theorem inf_43_b : ((Try.prog.info? 43).getD default).bytes = 8 := (h3u inf_43).2.2.2
theorem inf_60 : (Try.prog.info? 60).map (fun i => (i.zero, i.size, i.bytes)) = some (some (Value.agg #[Value.int .i64 0, Value.int .u16 0]), 2, 16) := by kernel_rfl
theorem inf_60_i : Try.prog.info? 60 = some ((Try.prog.info? 60).getD default) := (h3u inf_60).1
theorem inf_60_z : ((Try.prog.info? 60).getD default).zero = some (Value.agg #[Value.int .i64 0, Value.int .u16 0]) := (h3u inf_60).2.1
theorem inf_60_s : ((Try.prog.info? 60).getD default).size = 2 := (h3u inf_60).2.2.1
theorem inf_60_b : ((Try.prog.info? 60).getD default).bytes = 16 := (h3u inf_60).2.2.2
theorem inf_65 : (Try.prog.info? 65).map (fun i => (i.zero, i.size, i.bytes)) = some (some (Value.agg #[Value.int .i64 0, Value.int .i64 0, Value.slice none 0 0, Value.int .i64 0, Value.int .u16 0, Value.slice none 0 0]), 6, 80) := by kernel_rfl
theorem inf_65_i : Try.prog.info? 65 = some ((Try.prog.info? 65).getD default) := (h3u inf_65).1
theorem inf_65_z : ((Try.prog.info? 65).getD default).zero = some (Value.agg #[Value.int .i64 0, Value.int .i64 0, Value.slice none 0 0, Value.int .i64 0, Value.int .u16 0, Value.slice none 0 0]) := (h3u inf_65).2.1
theorem inf_65_s : ((Try.prog.info? 65).getD default).size = 6 := (h3u inf_65).2.2.1
theorem inf_65_b : ((Try.prog.info? 65).getD default).bytes = 80 := (h3u inf_65).2.2.2
def PlainKey : TypeDesc → Value → Prop
 | .int k, .int k' _ => k' = k
 | .string, .string _ => True
 | _, _ => False
section
variable {P : Program} {o : Oper} {a : Act} {w w0 : World} {K : Act → World → Prop} {Q : Exit → Act → World → Prop} {S : List Nat} {L : List Blk} {ops : Array Oper} {rest : List Oper}
theorem h5c {e : Bool} {key : TypeId} {d : TypeDesc} {v : Value} (hk : P.underlying key = some d) (hp : PlainKey d v) (w : World) : (Instr.checkKey e 10000 key v).run P w = .ok () w := by
 show (Instr.checkKey e (9999 + 1) key v).run P w = .ok () w
 unfold Instr.checkKey
 rw [Sem.run_bind, run_underlying hk w]
 cases d <;> cases v <;> simp_all [PlainKey]
theorem run_findKey {key : TypeId} {d : TypeDesc} {v : Value} {es : List MapEntry} {r : Option (Nat × Value)} (hk : P.underlying key = some d) (hf : Instr.findNow d v es 0 = some r) (w : World) :
  (Instr.findKey key v es).run P w = .ok r w := by
 unfold Instr.findKey
 rw [Sem.run_bind, run_underlying hk w]
 simp [hf]
theorem h5m {b : Nat} {es : Array MapEntry} {c : Nat} (h : w.heap[b]? = some (.map es c)) : (getObj b).run P w = .ok (.map es c) w := by
 simp only [getObj, Sem.run, h]
def found (r : Option (Nat × Value)) (z : Value) : Value := match r with | some (_, v) => v | none => z
theorem run_lookup (H : HP S w0 w L) (i : Nat) {t key elem : TypeId} {d : TypeDesc} {q : Bool} {b : Nat} {es : Array MapEntry} {c : Nat} {kv z : Value} {r : Option (Nat × Value)} {ok : Bool}
  (ht : P.underlying t = some (.map key elem)) (hk : P.underlying key = some d) (hp : PlainKey d kv) (hz : ∀ w, (zeroValue elem).run P w = .ok z w)
  (hi : L[i]? = some ⟨q, b, .map es c⟩) (hf : Instr.findNow d kv es.toList 0 = some r) :
  (Instr.lookup t (.map (some b)) kv ok).run P w = .ok (if ok then .tuple #[found r z, .bool r.isSome] else found r z) w := by
 unfold Instr.lookup
 simp only [Sem.run_bind, run_underlying ht, Result.andThen_ok, h5m (H.at_ i hi), Sem.run_pure, h5c hk hp, run_findKey hk hf]
 cases r with
 | none => cases ok <;> simp [found, hz]
 | some p => cases ok <;> simp [found]
end
def mkE : List (Value × Value) → Nat → List MapEntry
 | [], _ => []
 | p :: r, i => { key := p.1, val := p.2, born := i } :: mkE r (i + 1)
abbrev mapB (b : Nat) (kvs : List (Value × Value)) : Blk := ⟨true, b, .map (mkE kvs 0).toArray kvs.length⟩
def fd (d : TypeDesc) (k : Value) : List (Value × Value) → Nat → Option (Option (Nat × Value))
 | [], _ => some none
 | p :: r, i => match Instr.sameNow d k p.1 with
  | some true => some (some (i, p.2))
  | some false => fd d k r (i + 1)
  | none => none
theorem ba_beq (x y : ByteArray) : (x == y) = decide (x = y) := by
 show (x.data == y.data) = _
 cases x with | mk a => cases y with | mk b =>
 by_cases h : a = b
 ·subst h; simp
 ·have h2 : ¬ (ByteArray.mk a = ByteArray.mk b) := fun e => h (by injection e)
  simp [h2]; exact fun e => h e
theorem same_plain {d : TypeDesc} {k k' : Value} (hp : PlainKey d k) (h : Instr.sameNow d k k' = some true) : Instr.sameBits 10000 k' k = true ∧ k' = k := by
 cases d <;> cases k <;> simp [PlainKey] at hp <;> cases k' <;> simp_all [Instr.sameNow, Instr.sameBits, ba_beq]
section
variable {P : Program} {n : Nat} {l : List (Nat × Value)} {S : List Nat} {w0 : World} {L : List Blk} {K : Act → World → Prop} {kt : Kont} {ops : Array Oper} {d : Tmp} {ty : TypeId} {pos : String} {af : Array Edge}
theorem K1_makeMap {t : TypeId} (hd : Nat.blt d n = true) (h : ∀ nb, w0.heap.size ≤ nb → G n ((d, .map (some nb)) :: l) S w0 (mapB nb [] :: L) K) :
  G n l S w0 L (K1 P ops kt ⟨some d, .makeMap t none, ty, pos, af, none⟩ K) := .mk fun a w hf H => h5s rfl <| by
 unfold Oper.wp execOp
 simp only [Option.map_none, Instr.makeMap, Sem.run_bind, Sem.run_pure, Result.andThen_ok, run_newObj]
 exact (h _ H.size).out _ _ (hf.put (some d) _ hd) (H.alloc _)
theorem HP.setMap {w : World} {i b : Nat} {es : Array MapEntry} {c : Nat} (H : HP S w0 w L) (hi : L[i]? = some ⟨true, b, .map es c⟩) (o' : Obj) : HP S w0 { w with heap := w.heap.setIfInBounds b o' } (L.set i ⟨true, b, o'⟩) := by
 have hb : b < w.heap.size := H.lt i hi
 exact H.turn i hi _ o' rfl rfl rfl (by simp) (by simp [hb]) (fun k hk => by rw [Array.getElem?_setIfInBounds, if_neg (fun e => hk (Eq.symm e))])
theorem run_setMap {w : World} {b : Nat} {es : Array MapEntry} {c : Nat} (hat : w.heap[b]? = some (.map es c)) (o' : Obj) : (setObj b o').run P w = .ok () { w with heap := w.heap.setIfInBounds b o' } := by
 simp only [setObj, Sem.run, hat]
end
abbrev h2n (b : Nat) (es : List MapEntry) (c : Nat) : Blk := ⟨true, b, .map es.toArray c⟩
section
variable {P : Program} {n : Nat} {l : List (Nat × Value)} {S : List Nat} {w0 : World} {L : List Blk} {K : Act → World → Prop} {kt : Kont} {ops : Array Oper} {d : Tmp} {ty : TypeId} {pos : String} {af : Array Edge}
theorem K1_makeMapG {t : TypeId} (hd : Nat.blt d n = true) (h : ∀ nb, w0.heap.size ≤ nb → G n ((d, .map (some nb)) :: l) S w0 (h2n nb [] 0 :: L) K) :
  G n l S w0 L (K1 P ops kt ⟨some d, .makeMap t none, ty, pos, af, none⟩ K) := K1_makeMap hd h
theorem E_lookupG {t key elem : TypeId} {dd : TypeDesc} {x ix : Operand} {i b c : Nat} {es : List MapEntry} {kv z : Value} {r : Option (Nat × Value)} (hx : ev l x = some (.map (some b))) (hk : ev l ix = some kv) (hi : L[i]? = some (h2n b es c))
  (ht : P.underlying t = some (.map key elem)) (hkt : P.underlying key = some dd) (hp : PlainKey dd kv) (hz : ∀ w, (zeroValue elem).run P w = .ok z w) (hf : Instr.findNow dd kv es 0 = some r) {fv : Value} {fb : Bool} (hfv : found r z = fv) (hfb : r.isSome = fb) :
  ValOf P n l S w0 L ⟨some d, .lookup t x ix true, ty, pos, af, none⟩ (h5f [fv, .bool fb]) :=
 ⟨fun a w hF H => by
  subst hfv
  subst hfb
  unfold execOp
  simp only [hF.eval hx, hF.eval hk, Sem.run_bind, run_lookup H i ht hkt hp hz hi hf, Result.andThen_ok, Sem.run_pure]
  rfl⟩
theorem h3y {t key elem : TypeId} {dd : TypeDesc} {x ix : Operand} {i b c : Nat} {es : List MapEntry} {kv z : Value} {r : Option (Nat × Value)} (hx : ev l x = some (.map (some b))) (hk : ev l ix = some kv) (hi : L[i]? = some (h2n b es c))
  (ht : P.underlying t = some (.map key elem)) (hkt : P.underlying key = some dd) (hp : PlainKey dd kv) (hz : ∀ w, (zeroValue elem).run P w = .ok z w) (hf : Instr.findNow dd kv es 0 = some r) {fv : Value} (hfv : found r z = fv) :
  ValOf P n l S w0 L ⟨some d, .lookup t x ix false, ty, pos, af, none⟩ fv :=
 ⟨fun a w hF H => by
  subst hfv
  unfold execOp
  simp only [hF.eval hx, hF.eval hk, Sem.run_bind, run_lookup H i ht hkt hp hz hi hf, Result.andThen_ok, Sem.run_pure]
  rfl⟩
theorem h4i {t key elem : TypeId} {dd : TypeDesc} {x ix y : Operand} {i b c : Nat} {es : List MapEntry} {kv v : Value} (hx : ev l x = some (.map (some b))) (hk : ev l ix = some kv) (hy : ev l y = some v) (hi : L[i]? = some (h2n b es c))
  (ht : P.underlying t = some (.map key elem)) (hkt : P.underlying key = some dd) (hp : PlainKey dd kv) (hf : Instr.findNow dd kv es 0 = some none)
  (h : G n l S w0 (L.set i (h2n b (es ++ [{ key := kv, val := v, born := c }]) (c + 1))) K) : G n l S w0 L (K1 P ops kt ⟨none, .mapUpdate t x ix y, ty, pos, af, none⟩ K) := .mk fun a w hF H => h5s rfl <| by
 have hat := H.at_ i hi
 have hr : (Instr.mapUpdate t (.map (some b)) kv v).run P w = .ok () { w with heap := w.heap.setIfInBounds b (h2n b (es ++ [{ key := kv, val := v, born := c }]) (c + 1)).o } := by
  unfold Instr.mapUpdate
  simp only [Sem.run_bind, run_underlying ht, Result.andThen_ok, h5m hat, h5c hkt hp, run_findKey hkt hf]
  simp only [run_setMap hat]
  simp
 have hgo : (execOp a.eval (⟨none, .mapUpdate t x ix y, ty, pos, af, none⟩ : Oper)).run P w = .ok .skip { w with heap := w.heap.setIfInBounds b (h2n b (es ++ [{ key := kv, val := v, born := c }]) (c + 1)).o } := by
  unfold execOp
  simp only [hF.eval hx, hF.eval hk, hF.eval hy, Sem.run_bind, hr, Result.andThen_ok, Sem.run_pure]
 unfold Oper.wp
 rw [hgo]
 exact h.out _ _ hF (H.setMap hi _)
theorem K1_deleteG {t key elem kt' : TypeId} {dd : TypeDesc} {x ix : Operand} {i j b c : Nat} {es : List MapEntry} {kv v : Value} (hx : ev l x = some (.map (some b))) (hk : ev l ix = some kv) (hi : L[i]? = some (h2n b es c))
  (ht : P.underlying t = some (.map key elem)) (hkt : P.underlying key = some dd) (hp : PlainKey dd kv) (hf : Instr.findNow dd kv es 0 = some (some (j, v)))
  (h : G n l S w0 (L.set i (h2n b (es.eraseIdx j) c)) K) : G n l S w0 L (K1 P ops kt ⟨none, .call { callee := .builtin .delete, args := #[x, ix], argTypes := #[t, kt'] }, ty, pos, af, none⟩ K) := .mk fun a w hF H => h5s rfl <| by
 have hat := H.at_ i hi
 have he : es.toArray.eraseIdxIfInBounds j = (es.eraseIdx j).toArray := by
  unfold Array.eraseIdxIfInBounds
  split
  ·simp
  ·rename_i hn
   simp at hn
   rw [List.eraseIdx_of_length_le hn]
 have hr : (Builtin.delete_ #[t, kt'] ty #[.map (some b), kv]).run P w = .ok (.tuple #[]) { w with heap := w.heap.setIfInBounds b (h2n b (es.eraseIdx j) c).o } := by
  unfold Builtin.delete_
  simp only [List.getElem?_toArray, List.getElem?_cons_zero, List.getElem?_cons_succ, Sem.run_bind, run_underlying ht, Result.andThen_ok, h5m hat, h5c hkt hp, run_findKey hkt hf, run_setMap hat, Sem.run_pure, he]
 have hgo : (execOp a.eval (⟨none, .call { callee := .builtin .delete, args := #[x, ix], argTypes := #[t, kt'] }, ty, pos, af, none⟩ : Oper)).run P w = .ok (.value (.tuple #[])) { w with heap := w.heap.setIfInBounds b (h2n b (es.eraseIdx j) c).o } := by
  rw [BigFrame.execOp_builtin]
  simp only [List.map_toArray, List.map_cons, List.map_nil, hF.eval hx, hF.eval hk, builtin, Sem.run_bind, hr, Result.andThen_ok, Sem.run_pure]
 unfold Oper.wp
 rw [hgo]
 exact h.out _ _ hF (H.setMap hi _)
theorem E_lenG {t key elem : TypeId} {x : Operand} {i b c : Nat} {es : List MapEntry} (hx : ev l x = some (.map (some b))) (hi : L[i]? = some (h2n b es c)) (ht : P.underlying t = some (.map key elem)) :
  ValOf P n l S w0 L ⟨some d, .call { callee := .builtin .len, args := #[x], argTypes := #[t] }, ty, pos, af, none⟩ (.int .i64 es.length) :=
 ⟨fun a w hF H => by
  have hr : (Builtin.len_ #[t] ty #[.map (some b)]).run P w = .ok (.int .i64 es.length) w := by
   unfold Builtin.len_
   simp only [List.getElem?_toArray, List.getElem?_cons_zero, Sem.run_bind, run_underlying ht, Result.andThen_ok, h5m (H.at_ i hi), Sem.run_pure]
   rfl
  rw [BigFrame.execOp_builtin]
  simp only [List.map_toArray, List.map_cons, List.map_nil, hF.eval hx, builtin, Sem.run_bind, hr, Result.andThen_ok, Sem.run_pure]⟩
end
end Go.Proofs.Ytpbpgbkpciffgaa
namespace Go.Proofs.Ytpbpgbkpciffgaa
open Go Go.RowKit Go.ChangeMaps
theorem set_app {α : Type} (e L : List α) (k : Nat) (x : α) : (e ++ L).set (e.length + k) x = e ++ L.set k x := by
 rw [List.set_append_right _ _ (by omega), Nat.add_sub_cancel_left]
section
variable {P : Program} {n : Nat} {l : List (Nat × Value)} {S : List Nat} {w0 : World} {L : List Blk} {K : Act → World → Prop} {kt : Kont} {ops : Array Oper} {d : Tmp} {ty : TypeId} {pos : String} {af : Array Edge}
end
theorem findNow_get {d : TypeDesc} {k : Value} {es : List MapEntry} {i j : Nat} {v : Value} (h : Instr.findNow d k es i = some (some (j, v))) : i ≤ j ∧ ∃ p, es[j - i]? = some p ∧ p.val = v ∧ Instr.sameNow d k p.key = some true := by
 induction es generalizing i with
 | nil => simp [Instr.findNow] at h
 | cons q r ih =>
  simp only [Instr.findNow] at h
  split at h
  ·rename_i hs
   simp only [Option.some.injEq, Prod.mk.injEq] at h
   obtain ⟨rfl, rfl⟩ := h
   exact ⟨Nat.le_refl _, q, by simp, rfl, hs⟩
  ·obtain ⟨h1, p, h2, h3⟩ := ih h
   refine ⟨by omega, p, ?_, h3⟩
   rw [show j - i = (j - (i + 1)) + 1 by omega, List.getElem?_cons_succ]; exact h2
  ·simp at h
abbrev mitG (r b c : Nat) (seen : List Nat) : Blk := ⟨true, r, .mapIter (some b) c seen.toArray c⟩
section
variable {P : Program} {n : Nat} {l : List (Nat × Value)} {S : List Nat} {w0 : World} {L : List Blk} {K : Act → World → Prop} {kt : Kont} {ops : Array Oper} {d : Tmp} {ty : TypeId} {pos : String} {af : Array Edge}
theorem K1_mapUpdateG2 {t key elem : TypeId} {dd : TypeDesc} {x ix y : Operand} {i j b c : Nat} {es : List MapEntry} {kv v u : Value} (hx : ev l x = some (.map (some b))) (hk : ev l ix = some kv) (hy : ev l y = some v) (hi : L[i]? = some (h2n b es c))
  (ht : P.underlying t = some (.map key elem)) (hkt : P.underlying key = some dd) (hp : PlainKey dd kv) (hf : Instr.findNow dd kv es 0 = some (some (j, u)))
  (h : G n l S w0 (L.set i (h2n b (es.modify j fun e => { key := kv, val := v, born := e.born }) c)) K) : G n l S w0 L (K1 P ops kt ⟨none, .mapUpdate t x ix y, ty, pos, af, none⟩ K) := .mk fun a w hF H => h5s rfl <| by
 have hat := H.at_ i hi
 have hr : (Instr.mapUpdate t (.map (some b)) kv v).run P w = .ok () { w with heap := w.heap.setIfInBounds b (h2n b (es.modify j fun e => { key := kv, val := v, born := e.born }) c).o } := by
  unfold Instr.mapUpdate
  simp only [Sem.run_bind, run_underlying ht, Result.andThen_ok, h5m hat, h5c hkt hp, run_findKey hkt hf]
  obtain ⟨_, q, hq, _, hsn⟩ := findNow_get hf
  simp only [Nat.sub_zero] at hq
  obtain ⟨hsb, hqe⟩ := same_plain hp hsn
  simp only [List.getElem?_toArray, hq, Option.map_some, Option.getD_some, Instr.keyThatStays, hsb, if_true, Sem.run_pure, Result.andThen_ok, Sem.run_bind, run_setMap hat]
  congr 1
  simp
 have hgo : (execOp a.eval (⟨none, .mapUpdate t x ix y, ty, pos, af, none⟩ : Oper)).run P w = .ok .skip { w with heap := w.heap.setIfInBounds b (h2n b (es.modify j fun e => { key := kv, val := v, born := e.born }) c).o } := by
  unfold execOp
  simp only [hF.eval hx, hF.eval hk, hF.eval hy, Sem.run_bind, hr, Result.andThen_ok, Sem.run_pure]
 unfold Oper.wp
 rw [hgo]
 exact h.out _ _ hF (H.setMap hi _)
theorem K1_rangeMapG {t k e : TypeId} {x : Operand} {i b c : Nat} {es : List MapEntry} (hd : Nat.blt d n = true) (hx : ev l x = some (.map (some b))) (hi : L[i]? = some (h2n b es c)) (ht : P.underlying t = some (.map k e))
  (h : ∀ nb, w0.heap.size ≤ nb → G n ((d, .pointer (some ⟨nb, 0, none⟩)) :: l) S w0 (mitG nb b c [] :: L) K) : G n l S w0 L (K1 P ops kt ⟨some d, .range t x, ty, pos, af, none⟩ K) := .mk fun a w hf H => h5s rfl <| by
 have hat := H.at_ i hi
 unfold Oper.wp execOp
 simp only [hf.eval hx, Sem.run_bind, run_range_map w t k e b _ _ ht hat, Result.andThen_ok, Sem.run_pure]
 exact (h _ H.size).out _ _ (hf.put (some d) _ hd) (H.alloc _)
theorem K1_nextMapG {x : Operand} {i j r b c : Nat} {es : List MapEntry} {seen : List Nat} (hold : ∀ e ∈ es, e.born < c) (hd : Nat.blt d n = true) (hx : ev l x = some (.pointer (some ⟨r, 0, none⟩))) (hi : L[i]? = some (mitG r b c seen)) (hj : L[j]? = some (h2n b es c))
  (hDone : (∀ e ∈ es, e.born ∈ seen) → G n ((d, .tuple #[.bool false]) :: l) S w0 L K)
  (hMore : ∀ e ∈ es, e.born ∉ seen → G n ((d, .tuple #[.bool true, e.key, e.val]) :: l) S w0 (L.set i (mitG r b c (seen ++ [e.born]))) K) :
  G n l S w0 L (K1 P ops kt ⟨some d, .next x false, ty, pos, af, none⟩ K) := .mk fun a w hf H => h5s rfl <| by
 have hr := H.at_ i hi
 have hb := H.at_ j hj
 have hlt : r < w.heap.size := H.lt i hi
 rcases run_next_at (P:=P) w ty r b c c seen.toArray es.toArray c hr hb (by simpa using hold) (Nat.le_refl _) with ⟨h0, hrun⟩ | ⟨e, he, w1, hal, hrun⟩
 ·unfold Oper.wp execOp
  simp only [hf.eval hx, Sem.run_bind, hrun, Result.andThen_ok, Sem.run_pure]
  refine (hDone ?_).out _ _ (hf.put (some d) _ hd) H
  intro e he
  by_cases hs : e.born ∈ seen
  ·exact hs
  ·exfalso
   have : e ∈ (leftOf es.toArray seen.toArray).toList := by
    unfold leftOf
    simp [he, hs]
   have h1 := List.length_pos_of_mem this
   rw [Array.length_toList] at h1
   omega
 ·have he2 : e ∈ es ∧ e.born ∉ seen := by
   unfold leftOf at he
   simp at he
   exact he
  have H1 : HP S w0 w1 L := by rcases hal with rfl | rfl; exact H; exact H.drew
  have hlt1 : r < w1.heap.size := H1.lt i hi
  have H2 := H1.turn i hi (setBlock w1 r (.mapIter (some b) c ((seen.toArray).push e.born) c)) (.mapIter (some b) c (seen ++ [e.born]).toArray c) rfl rfl rfl (by simp [setBlock]) (by simp [setBlock, hlt1])
   (fun k hk => by simp only [setBlock]; rw [Array.getElem?_setIfInBounds, if_neg (fun e => hk e.symm)])
  unfold Oper.wp execOp
  simp only [hf.eval hx, Sem.run_bind, hrun, Result.andThen_ok, Sem.run_pure]
  exact (hMore e he2.1 he2.2).out _ _ (hf.put (some d) _ hd) H2
theorem E_entryMapG {x : Operand} {i j r b c : Nat} {es : List MapEntry} {seen : List Nat} {e : MapEntry} (hn : (es.map (·.born)).Nodup) (he : e ∈ es) (hx : ev l x = some (.pointer (some ⟨r, 0, none⟩))) (hi : L[i]? = some (mitG r b c (seen ++ [e.born]))) (hj : L[j]? = some (h2n b es c)) :
  ValOf P n l S w0 L ⟨some d, .entry x, ty, pos, af, none⟩ (.tuple #[e.key, e.val]) :=
 ⟨fun a w hF H => by
  have hr := H.at_ i hi
  have hb := H.at_ j hj
  have hr' : w.heap[r]? = some (.mapIter (some b) c (seen.toArray.push e.born) c) := by rw [hr]; simp
  have := run_entry_at (P:=P) w r b c seen.toArray es.toArray c _ hr' hb (by simpa using he) (by simpa using hn)
  unfold execOp
  simp only [hF.eval hx, Sem.run_bind, this, Result.andThen_ok, Sem.run_pure]⟩
end
end Go.Proofs.Ytpbpgbkpciffgaa
namespace Go.Proofs.Ytpbpgbkpciffgaa
def gv (l : List Int) (i : Nat) : Int := l.getD i 0
theorem gv_get {l : List Int} {i : Nat} (h : i < l.length) : gv l i = l[i] := by simp [gv, List.getD_eq_getElem?_getD, h]
theorem gv_set {l : List Int} {i : Nat} {x : Int} (h : i < l.length) (k : Nat) : gv (l.set i x) k = if k = i then x else gv l k := by
 simp only [gv, List.getD_eq_getElem?_getD, List.getElem?_set]
 by_cases e : k = i
 ·subst e; simp [h]
 ·have e2 : ¬ i = k := fun h => e h.symm
  simp [e, e2]
def swp (l : List Int) (i j : Nat) : List Int := (l.set i (gv l j)).set j (gv l i)
theorem swp_len {l : List Int} {i j : Nat} : (swp l i j).length = l.length := by simp [swp]
theorem gv_swp {l : List Int} {i j : Nat} (hi : i < l.length) (hj : j < l.length) (k : Nat) : gv (swp l i j) k = if k = j then gv l i else if k = i then gv l j else gv l k := by
 rw [swp, gv_set (by simpa using hj), gv_set hi]
theorem cnt_set (l : List Int) (i : Nat) (x y : Int) (h : i < l.length) : (l.set i x).count y + (if gv l i = y then 1 else 0) = l.count y + (if x = y then 1 else 0) := by
 induction l generalizing i with
 | nil => simp at h
 | cons a t ih =>
  cases i with
  | zero => simp [gv, List.count_cons]; split <;> split <;> omega
  | succ i =>
   have := ih i (by simpa using h)
   simp [gv, List.count_cons] at this ⊢
   omega
theorem swp_perm {l : List Int} {i j : Nat} (hi : i < l.length) (hj : j < l.length) : (swp l i j).Perm l := by
 rw [List.perm_iff_count]
 intro y
 have h1 := cnt_set l i (gv l j) y hi
 have h2 := cnt_set (l.set i (gv l j)) j (gv l i) y (by simpa using hj)
 rw [gv_set hi] at h2
 rw [swp]
 by_cases e : j = i
 ·subst e; rw [if_pos rfl] at h2; omega
 ·rw [if_neg e] at h2; omega
structure Sw (a b : Nat) (l l' : List Int) : Prop where
 len : l'.length = l.length
 perm : l'.Perm l
 out : ∀ i, i < a ∨ b ≤ i → gv l' i = gv l i
 inn : ∀ i, a ≤ i → i < b → ∃ j, a ≤ j ∧ j < b ∧ gv l' i = gv l j
theorem Sw.refl (a b : Nat) (l : List Int) : Sw a b l l := ⟨rfl, .refl _, fun _ _ => rfl, fun i h1 h2 => ⟨i, h1, h2, rfl⟩⟩
theorem Sw.trans {a b : Nat} {l m n : List Int} (h : Sw a b l m) (k : Sw a b m n) : Sw a b l n :=
 ⟨k.len.trans h.len, k.perm.trans h.perm, fun i hi => (k.out i hi).trans (h.out i hi), fun i h1 h2 => by
  obtain ⟨j, j1, j2, e⟩ := k.inn i h1 h2
  obtain ⟨q, q1, q2, e2⟩ := h.inn j j1 j2
  exact ⟨q, q1, q2, e.trans e2⟩⟩
theorem Sw.wide {a b a' b' : Nat} {l m : List Int} (h : Sw a b l m) (ha : a' ≤ a) (hb : b ≤ b') : Sw a' b' l m :=
 ⟨h.len, h.perm, fun i hi => h.out i (by omega), fun i h1 h2 => by
  by_cases c : a ≤ i ∧ i < b
  ·obtain ⟨j, j1, j2, e⟩ := h.inn i c.1 c.2
   exact ⟨j, by omega, by omega, e⟩
  ·exact ⟨i, h1, h2, h.out i (by omega)⟩⟩
theorem Sw.swp {a b i j : Nat} {l : List Int} (hb : b ≤ l.length) (hi : a ≤ i ∧ i < b) (hj : a ≤ j ∧ j < b) : Sw a b l (swp l i j) :=
 ⟨swp_len, swp_perm (by omega) (by omega), fun k hk => by rw [gv_swp (by omega) (by omega)]; split; omega; split; omega; rfl, fun k h1 h2 => by
  rw [gv_swp (by omega) (by omega)]
  split
  ·exact ⟨i, by omega, by omega, rfl⟩
  split
  ·exact ⟨j, by omega, by omega, rfl⟩
  ·exact ⟨k, by omega, by omega, rfl⟩⟩
theorem Sw.all {a b : Nat} {l m : List Int} (h : Sw a b l m) {p : Int → Prop} (hp : ∀ i, a ≤ i → i < b → p (gv l i)) : ∀ i, a ≤ i → i < b → p (gv m i) := fun i h1 h2 => by
 obtain ⟨j, j1, j2, e⟩ := h.inn i h1 h2
 rw [e]; exact hp j j1 j2
def Srt (a b : Nat) (l : List Int) : Prop := ∀ i j, a ≤ i → i < j → j < b → gv l i ≤ gv l j
theorem Srt.nil {a b : Nat} {l : List Int} (h : b ≤ a + 1) : Srt a b l := fun i j h1 h2 h3 => by omega
theorem Srt.next {a i : Nat} {l : List Int} (h : Srt a i l) (h1 : a < i) (h2 : gv l (i - 1) ≤ gv l i) : Srt a (i + 1) l := fun p q p1 p2 p3 => by
 by_cases e : q = i
 ·subst e
  by_cases e2 : p = q - 1
  ·subst e2; exact h2
  ·have := h p (q - 1) p1 (by omega) (by omega); omega
 ·exact h p q p1 p2 (by omega)
theorem Srt.next' {a i : Nat} {l : List Int} (h : Srt a i l) (h2 : ∀ p, a ≤ p → p < i → gv l p ≤ gv l i) : Srt a (i + 1) l := fun p q p1 p2 p3 => by
 by_cases e : q = i
 ·subst e; exact h2 p p1 p2
 ·exact h p q p1 p2 (by omega)
theorem Srt.same {a b : Nat} {l m : List Int} (h : Srt a b l) (e : ∀ i, a ≤ i → i < b → gv m i = gv l i) : Srt a b m := fun p q p1 p2 p3 => by
 rw [e p p1 (by omega), e q (by omega) p3]; exact h p q p1 p2 p3
def Ins1 (a i j : Nat) (l : List Int) : Prop := ∀ p q, a ≤ p → p < q → q ≤ i → q ≠ j → gv l p ≤ gv l q
theorem Ins1.start {a i : Nat} {l : List Int} (h : Srt a i l) : Ins1 a i i l := fun p q p1 p2 p3 p4 => h p q p1 p2 (by omega)
theorem Ins1.step {a i j : Nat} {l : List Int} (h : Ins1 a i j l) (hj : a < j ∧ j ≤ i) (hl : i < l.length) (hc : gv l j < gv l (j - 1)) : Ins1 a i (j - 1) (swp l j (j - 1)) := fun p q p1 p2 p3 p4 => by
 rw [gv_swp (by omega) (by omega), gv_swp (by omega) (by omega), if_neg p4]
 have f1 := h p q p1 p2 p3
 have f2 := h p (j - 1) p1
 have f3 := h (j - 1) q (by omega)
 have f4 := h j q (by omega)
 by_cases e1 : p = j - 1
 ·rw [if_pos e1]
  by_cases e2 : q = j
  ·rw [if_pos e2]; omega
  ·rw [if_neg e2]; exact f4 (by omega) p3 e2
 ·rw [if_neg e1]
  by_cases e3 : p = j
  ·rw [if_pos e3, if_neg (by omega)]; exact f3 (by omega) p3 (by omega)
  ·rw [if_neg e3]
   by_cases e2 : q = j
   ·rw [if_pos e2]; exact f2 (by omega) (by omega) (by omega)
   ·rw [if_neg e2]; exact f1 e2
theorem Ins1.stop {a i j : Nat} {l : List Int} (h : Ins1 a i j l) (hj : a ≤ j ∧ j ≤ i) (hc : j = a ∨ gv l (j - 1) ≤ gv l j) : Srt a (i + 1) l := fun p q p1 p2 p3 => by
 by_cases e : q = j
 ·subst e
  rcases hc with hc | hc
  ·omega
  ·by_cases e2 : p = q - 1
   ·subst e2; exact hc
   ·have := h p (q - 1) p1 (by omega) (by omega) (by omega); omega
 ·exact h p q p1 p2 (by omega) e
def Heap (f lo hi : Nat) (l : List Int) : Prop := ∀ k c, lo ≤ k → (c = 2 * k + 1 ∨ c = 2 * k + 2) → c < hi → gv l (f + c) ≤ gv l (f + k)
structure HeapX (f lo hi r : Nat) (l : List Int) : Prop where
 but : ∀ k c, lo ≤ k → k ≠ r → (c = 2 * k + 1 ∨ c = 2 * k + 2) → c < hi → gv l (f + c) ≤ gv l (f + k)
 up : ∀ k c, lo ≤ k → (r = 2 * k + 1 ∨ r = 2 * k + 2) → (c = 2 * r + 1 ∨ c = 2 * r + 2) → c < hi → gv l (f + c) ≤ gv l (f + k)
theorem HeapX.stop {f lo hi r : Nat} {l : List Int} (h : HeapX f lo hi r l) (hc : ∀ c, (c = 2 * r + 1 ∨ c = 2 * r + 2) → c < hi → gv l (f + c) ≤ gv l (f + r)) : Heap f lo hi l := fun k c h1 h2 h3 => by
 by_cases e : k = r
 ·subst e; exact hc c h2 h3
 ·exact h.but k c h1 e h2 h3
theorem HeapX.step {f lo hi r c : Nat} {l : List Int} (h : HeapX f lo hi r l) (hr : lo ≤ r) (hc : c = 2 * r + 1 ∨ c = 2 * r + 2) (hlt : c < hi) (hl : f + hi ≤ l.length)
  (hmax : ∀ d, (d = 2 * r + 1 ∨ d = 2 * r + 2) → d < hi → gv l (f + d) ≤ gv l (f + c)) (hg : gv l (f + r) < gv l (f + c)) : HeapX f lo hi c (swp l (f + r) (f + c)) := by
 have hs := fun k => gv_swp (l:=l) (i:=f + r) (j:=f + c) (by omega) (by omega) k
 refine ⟨fun k d h1 h2 h3 h4 => ?_, fun k d h1 h2 h3 h4 => ?_⟩
 ·rw [hs, hs]
  have b1 := h.but k d h1
  by_cases e1 : k = r
  ·subst e1
   rw [if_neg (by omega : ¬ f + k = f + c), if_pos rfl]
   by_cases e2 : d = c
   ·rw [if_pos (by omega)]; omega
   ·rw [if_neg (by omega), if_neg (by omega)]; exact hmax d h3 h4
  ·rw [if_neg (by omega : ¬ f + k = f + c), if_neg (by omega : ¬ f + k = f + r)]
   by_cases e2 : d = c
   ·omega
   ·rw [if_neg (by omega)]
    by_cases e3 : d = r
    ·rw [if_pos (by omega)]; subst e3; exact h.up k c h1 (by omega) hc hlt
    ·rw [if_neg (by omega)]; exact b1 e1 h3 h4
 ·obtain rfl : k = r := by omega
  rw [hs, hs, if_neg (by omega), if_neg (by omega), if_neg (by omega), if_pos rfl]
  exact h.but c d (by omega) (by omega) h3 h4
theorem Heap.max {f hi : Nat} {l : List Int} (h : Heap f 0 hi l) : ∀ k, k < hi → gv l (f + k) ≤ gv l f := fun k => by
 induction k using Nat.strongRecOn with
 | _ k ih =>
  intro hk
  by_cases e : k = 0
  ·subst e; exact Int.le_refl _
  ·have h1 := ih ((k - 1) / 2) (by omega) (by omega)
   have h2 := h ((k - 1) / 2) k (by omega) (by omega) hk
   omega
theorem Heap.x {f lo hi : Nat} {l : List Int} (h : Heap f (lo + 1) hi l) : HeapX f lo hi lo l :=
 ⟨fun k c h1 h2 h3 h4 => h k c (by omega) h3 h4, fun k c h1 h2 h3 h4 => by omega⟩
structure Pop (f hi i : Nat) (l : List Int) : Prop where
 heap : Heap f 0 i l
 srt : Srt (f + i) (f + hi) l
 le : ∀ p q, p < i → i ≤ q → q < hi → gv l (f + p) ≤ gv l (f + q)
theorem Pop.swap {f hi i : Nat} {l : List Int} (h : Pop f hi (i + 1) l) (hi' : i + 1 ≤ hi) (hl : f + hi ≤ l.length) :
  HeapX f 0 i 0 (swp l f (f + i)) ∧ Srt (f + i) (f + hi) (swp l f (f + i)) ∧ ∀ p q, p < i → i ≤ q → q < hi → gv (swp l f (f + i)) (f + p) ≤ gv (swp l f (f + i)) (f + q) := by
 have hs := fun k => gv_swp (l:=l) (i:=f) (j:=f + i) (by omega) (by omega) k
 have mx := h.heap.max
 refine ⟨⟨fun k c h1 h2 h3 h4 => ?_, fun k c h1 h2 h3 h4 => by omega⟩, fun p q h1 h2 h3 => ?_, fun p q h1 h2 h3 => ?_⟩
 ·rw [hs, hs, if_neg (by omega), if_neg (by omega), if_neg (by omega), if_neg (by omega)]
  exact h.heap k c h1 h3 (by omega)
 ·rw [hs, hs]
  by_cases e0 : i = 0
  ·subst e0
   by_cases e : p = f
   ·rw [if_pos (by omega), if_neg (by omega), if_neg (by omega)]
    have := h.le 0 (q - f) (by omega) (by omega) (by omega)
    rw [show f + (q - f) = q by omega] at this
    exact this
   ·rw [if_neg (by omega), if_neg (by omega), if_neg (by omega), if_neg (by omega)]
    exact h.srt p q (by omega) h2 h3
  ·by_cases e : p = f + i
   ·rw [if_pos e, if_neg (by omega), if_neg (by omega)]
    have := h.le 0 (q - f) (by omega) (by omega) (by omega)
    rw [show f + (q - f) = q by omega] at this
    exact this
   ·rw [if_neg e, if_neg (by omega), if_neg (by omega), if_neg (by omega)]
    exact h.srt p q (by omega) h2 h3
 ·rw [hs, hs, if_neg (by omega)]
  have e0 : ¬ f + q = f := by omega
  rw [if_neg e0]
  by_cases e : p = 0
  ·subst e
   rw [if_pos (by omega : f + 0 = f)]
   by_cases e2 : q = i
   ·rw [if_pos (by omega)]; exact mx i (by omega)
   ·rw [if_neg (by omega)]; exact h.le i q (by omega) (by omega) h3
  ·rw [if_neg (by omega)]
   by_cases e2 : q = i
   ·rw [if_pos (by omega)]; exact mx p (by omega)
   ·rw [if_neg (by omega)]; exact h.le p q (by omega) (by omega) h3
theorem Srt.join {a m b : Nat} {l : List Int} (h1 : Srt a m l) (h2 : Srt m b l) (h : ∀ p q, a ≤ p → p < m → m ≤ q → q < b → gv l p ≤ gv l q) : Srt a b l := fun p q p1 p2 p3 => by
 by_cases e1 : q < m
 ·exact h1 p q p1 p2 e1
 ·by_cases e2 : m ≤ p
  ·exact h2 p q e2 p2 p3
  ·exact h p q p1 (by omega) (by omega) p3
structure Par (a b i j : Nat) (l : List Int) : Prop where
 lo : ∀ k, a < k → k < i → gv l k < gv l a
 hi : ∀ k, j < k → k < b → gv l a ≤ gv l k
theorem Par.start {a b : Nat} {l : List Int} : Par a b (a + 1) (b - 1) l := ⟨fun k h1 h2 => by omega, fun k h1 h2 => by omega⟩
theorem Par.up {a b i j : Nat} {l : List Int} (h : Par a b i j l) (hc : gv l i < gv l a) : Par a b (i + 1) j l :=
 ⟨fun k h1 h2 => by by_cases e : k = i; subst e; exact hc; exact h.lo k h1 (by omega), h.hi⟩
theorem Par.down {a b i j : Nat} {l : List Int} (h : Par a b i j l) (hc : gv l a ≤ gv l j) : Par a b i (j - 1) l :=
 ⟨h.lo, fun k h1 h2 => by by_cases e : k = j; subst e; exact hc; exact h.hi k (by omega) h2⟩
theorem Par.step {a b i j : Nat} {l : List Int} (h : Par a b i j l) (hi : a < i ∧ i < j ∧ j < b) (hl : b ≤ l.length) (h1 : gv l a ≤ gv l i) (h2 : gv l j < gv l a) : Par a b (i + 1) (j - 1) (swp l i j) := by
 have hs := fun k => gv_swp (l:=l) (i:=i) (j:=j) (by omega) (by omega) k
 refine ⟨fun k k1 k2 => ?_, fun k k1 k2 => ?_⟩
 ·rw [hs, hs, if_neg (by omega : ¬ k = j), if_neg (by omega : ¬ a = j), if_neg (by omega : ¬ a = i)]
  by_cases e : k = i
  ·rw [if_pos e]; exact h2
  ·rw [if_neg e]; exact h.lo k k1 (by omega)
 ·rw [hs, hs, if_neg (by omega : ¬ a = j), if_neg (by omega : ¬ a = i), if_neg (by omega : ¬ k = i)]
  by_cases e : k = j
  ·rw [if_pos e]; exact h1
  ·rw [if_neg e]; exact h.hi k (by omega) k2
structure Parted (a b m : Nat) (l : List Int) : Prop where
 lo : ∀ k, a ≤ k → k < m → gv l k ≤ gv l m
 hi : ∀ k, m < k → k < b → gv l m ≤ gv l k
theorem Par.fin {a b i j : Nat} {l : List Int} (h : Par a b i j l) (hj : a ≤ j ∧ j < b ∧ j < i) (hl : b ≤ l.length) : Parted a b j (swp l j a) := by
 have hs := fun k => gv_swp (l:=l) (i:=j) (j:=a) (by omega) (by omega) k
 have hm : gv (swp l j a) j = gv l a := by
  rw [hs]; by_cases e : j = a
  ·rw [if_pos e, e]
  ·rw [if_neg e, if_pos rfl]
 refine ⟨fun k k1 k2 => ?_, fun k k1 k2 => ?_⟩
 ·rw [hm, hs]
  by_cases e : k = a
  ·rw [if_pos e]
   have := h.lo j; omega
  ·rw [if_neg e, if_neg (by omega)]
   have := h.lo k (by omega) (by omega); omega
 ·rw [hm, hs, if_neg (by omega), if_neg (by omega)]
  exact h.hi k k1 k2
structure Peq (a b i j : Nat) (l : List Int) : Prop where
 lo : ∀ k, a ≤ k → k < i → gv l k ≤ gv l a
 hi : ∀ k, j < k → k < b → gv l a < gv l k
theorem Peq.start {a b : Nat} {l : List Int} : Peq a b (a + 1) (b - 1) l := ⟨fun k h1 h2 => (by obtain rfl : k = a := (by omega); exact Int.le_refl _), fun k h1 h2 => by omega⟩
theorem Peq.up {a b i j : Nat} {l : List Int} (h : Peq a b i j l) (hc : gv l i ≤ gv l a) : Peq a b (i + 1) j l :=
 ⟨fun k h1 h2 => by by_cases e : k = i; subst e; exact hc; exact h.lo k h1 (by omega), h.hi⟩
theorem Peq.down {a b i j : Nat} {l : List Int} (h : Peq a b i j l) (hc : gv l a < gv l j) : Peq a b i (j - 1) l :=
 ⟨h.lo, fun k h1 h2 => by by_cases e : k = j; subst e; exact hc; exact h.hi k (by omega) h2⟩
theorem Peq.step {a b i j : Nat} {l : List Int} (h : Peq a b i j l) (hi : a < i ∧ i < j ∧ j < b) (hl : b ≤ l.length) (h1 : gv l a < gv l i) (h2 : gv l j ≤ gv l a) : Peq a b (i + 1) (j - 1) (swp l i j) := by
 have hs := fun k => gv_swp (l:=l) (i:=i) (j:=j) (by omega) (by omega) k
 refine ⟨fun k k1 k2 => ?_, fun k k1 k2 => ?_⟩
 ·rw [hs, hs, if_neg (by omega : ¬ k = j), if_neg (by omega : ¬ a = j), if_neg (by omega : ¬ a = i)]
  by_cases e : k = i
  ·rw [if_pos e]; exact h2
  ·rw [if_neg e]; exact h.lo k k1 (by omega)
 ·rw [hs, hs, if_neg (by omega : ¬ a = j), if_neg (by omega : ¬ a = i), if_neg (by omega : ¬ k = i)]
  by_cases e : k = j
  ·rw [if_pos e]; exact h1
  ·rw [if_neg e]; exact h.hi k (by omega) k2
structure Pdq (a0 b0 : Nat) (l0 : List Int) (a b : Nat) (l : List Int) : Prop where
 ha : a0 ≤ a ∧ a ≤ b ∧ b ≤ b0
 hb : b0 ≤ l0.length
 sw : Sw a0 b0 l0 l
 left : Srt a0 a l
 right : Srt b b0 l
 le1 : ∀ p q, a0 ≤ p → p < a → a ≤ q → q < b0 → gv l p ≤ gv l q
 le2 : ∀ p q, a0 ≤ p → p < b → b ≤ q → q < b0 → gv l p ≤ gv l q
 bnd : 0 < a → ∀ q, a ≤ q → q < b → gv l (a - 1) ≤ gv l q
theorem Pdq.start {a b : Nat} {l : List Int} (h : a ≤ b) (hb : b ≤ l.length) (hbnd : 0 < a → ∀ q, a ≤ q → q < b → gv l (a - 1) ≤ gv l q) : Pdq a b l a b l :=
 ⟨⟨Nat.le_refl _, h, Nat.le_refl _⟩, hb, .refl _ _ _, .nil (by omega), .nil (by omega), fun p q => by omega, fun p q => by omega, hbnd⟩
theorem Pdq.turn {a0 b0 a b : Nat} {l0 l m : List Int} (h : Pdq a0 b0 l0 a b l) (hs : Sw a b l m) : Pdq a0 b0 l0 a b m := by
 obtain ⟨h1, h2, h3⟩ := h.ha
 refine ⟨h.ha, h.hb, h.sw.trans (hs.wide h1 h3), h.left.same fun i _ h => hs.out i (by omega), h.right.same fun i h _ => hs.out i (by omega), fun p q p1 p2 p3 p4 => ?_, fun p q p1 p2 p3 p4 => ?_, fun h0 q q1 q2 => ?_⟩
 ·rw [hs.out p (by omega)]
  by_cases e : q < b
  ·exact hs.all (p:=fun x => gv l p ≤ x) (fun i i1 i2 => h.le1 p i p1 p2 i1 (by omega)) q p3 e
  ·rw [hs.out q (by omega)]; exact h.le1 p q p1 p2 p3 p4
 ·rw [hs.out q (by omega)]
  by_cases e : a ≤ p
  ·exact hs.all (p:=fun x => x ≤ gv l q) (fun i i1 i2 => h.le2 i q (by omega) i2 p3 p4) p e p2
  ·rw [hs.out p (by omega)]; exact h.le2 p q p1 p2 p3 p4
 ·rw [hs.out (a - 1) (by omega)]
  exact hs.all (p:=fun x => gv l (a - 1) ≤ x) (fun i i1 i2 => h.bnd h0 i i1 i2) q q1 q2
theorem Pdq.fin {a0 b0 a b : Nat} {l0 l m : List Int} (h : Pdq a0 b0 l0 a b l) (hs : Sw a b l m) (hm : Srt a b m) : Sw a0 b0 l0 m ∧ Srt a0 b0 m := by
 have k := h.turn hs
 obtain ⟨h1, h2, h3⟩ := h.ha
 exact ⟨k.sw, (k.left.join (hm.join k.right fun p q p1 p2 p3 p4 => k.le2 p q (by omega) p2 p3 p4) fun p q p1 p2 p3 p4 => k.le1 p q p1 p2 p3 p4)⟩
theorem Pdq.rest {a0 b0 a b m : Nat} {l0 l n : List Int} (h : Pdq a0 b0 l0 a b l) (hp : Parted a b m l) (hm : a ≤ m ∧ m < b) (hs : Sw a m l n) (hn : Srt a m n) : Pdq a0 b0 l0 (m + 1) b n := by
 obtain ⟨h1, h2, h3⟩ := h.ha
 have k := h.turn (hs.wide (Nat.le_refl _) (by omega : m ≤ b))
 have om : gv n m = gv l m := hs.out m (by omega)
 have lo : ∀ p, a ≤ p → p < m → gv n p ≤ gv n m := by rw [om]; exact hs.all (p:=fun x => x ≤ gv l m) hp.lo
 have hi : ∀ q, m < q → q < b → gv n m ≤ gv n q := fun q q1 q2 => by rw [om, hs.out q (by omega)]; exact hp.hi q q1 q2
 have hi2 : ∀ q, m < q → q < b0 → gv n m ≤ gv n q := fun q q1 q2 => by
  by_cases e : q < b
  ·exact hi q q1 e
  ·exact k.le2 m q (by omega) (by omega) (by omega) q2
 refine ⟨by omega, k.hb, k.sw, (k.left.join hn fun p q p1 p2 p3 p4 => k.le1 p q p1 p2 p3 (by omega)).next' ?_, k.right, fun p q p1 p2 p3 p4 => ?_, k.le2, fun _ q q1 q2 => hi q (by omega) q2⟩
 ·intro p p1 p2
  by_cases e : a ≤ p
  ·exact lo p e p2
  ·exact k.le1 p m p1 (by omega) (by omega) (by omega)
 ·by_cases e : p = m
  ·subst e; exact hi2 q (by omega) p4
  ·by_cases e2 : a ≤ p
   ·have := lo p e2 (by omega); have := hi2 q (by omega) p4; omega
   ·exact k.le1 p q p1 (by omega) (by omega) p4
theorem Pdq.first {a0 b0 a b m : Nat} {l0 l n : List Int} (h : Pdq a0 b0 l0 a b l) (hp : Parted a b m l) (hm : a ≤ m ∧ m < b) (hs : Sw (m + 1) b l n) (hn : Srt (m + 1) b n) : Pdq a0 b0 l0 a m n := by
 obtain ⟨h1, h2, h3⟩ := h.ha
 have k := h.turn (hs.wide (by omega : a ≤ m + 1) (Nat.le_refl _))
 have om : gv n m = gv l m := hs.out m (by omega)
 have lo : ∀ p, a ≤ p → p < m → gv n p ≤ gv n m := fun p p1 p2 => by rw [om, hs.out p (by omega)]; exact hp.lo p p1 p2
 have hi : ∀ q, m + 1 ≤ q → q < b → gv n m ≤ gv n q := by rw [om]; exact hs.all (p:=fun x => gv l m ≤ x) fun i i1 i2 => hp.hi i (by omega) i2
 have hi2 : ∀ q, m < q → q < b0 → gv n m ≤ gv n q := fun q q1 q2 => by
  by_cases e : q < b
  ·exact hi q q1 e
  ·exact k.le2 m q (by omega) (by omega) (by omega) q2
 have sr : Srt m b0 n := fun p q p1 p2 p3 => by
  by_cases e : p = m
  ·subst e; exact hi2 q p2 p3
  ·exact hn.join k.right (fun p q p1 p2 p3 p4 => k.le2 p q (by omega) p2 p3 p4) p q (by omega) p2 p3
 refine ⟨by omega, k.hb, k.sw, k.left, sr, k.le1, fun p q p1 p2 p3 p4 => ?_, fun h0 q q1 q2 => k.bnd h0 q q1 (by omega)⟩
 have f : gv n p ≤ gv n m := by
  by_cases e : a ≤ p
  ·exact lo p e p2
  ·exact k.le1 p m p1 (by omega) (by omega) (by omega)
 by_cases e : q = m
 ·subst e; exact f
 ·have := hi2 q (by omega) p4; omega
theorem Pdq.eq {a0 b0 a b m j : Nat} {l0 l n : List Int} (h : Pdq a0 b0 l0 a b l) (hs : Sw a b l n) (hp : Peq a b m j n) (hj : m = j + 1) (hm : a < m ∧ m ≤ b) (hmin : ∀ q, a ≤ q → q < b → gv n a ≤ gv n q) : Pdq a0 b0 l0 m b n := by
 obtain ⟨h1, h2, h3⟩ := h.ha
 have k := h.turn hs
 have eqs : ∀ p, a ≤ p → p < m → gv n p = gv n a := fun p p1 p2 => by have := hp.lo p p1 p2; have := hmin p p1 (by omega); omega
 have up : ∀ q, a ≤ q → q < b0 → gv n a ≤ gv n q := fun q q1 q2 => by
  by_cases e : q < b
  ·exact hmin q q1 e
  ·exact k.le2 a q (by omega) (by omega) (by omega) q2
 refine ⟨by omega, k.hb, k.sw, k.left.join (fun p q p1 p2 p3 => ?_) fun p q p1 p2 p3 p4 => k.le1 p q p1 p2 p3 (by omega), k.right, fun p q p1 p2 p3 p4 => ?_, k.le2, fun h0 q q1 q2 => ?_⟩
 ·rw [eqs p p1 (by omega), eqs q (by omega) p3]; exact Int.le_refl _
 ·by_cases e : a ≤ p
  ·rw [eqs p e p2]; exact up q (by omega) p4
  ·exact k.le1 p q p1 (by omega) (by omega) p4
 ·rw [eqs (m - 1) (by omega) (by omega)]; exact up q (by omega) (by omega)
end Go.Proofs.Ytpbpgbkpciffgaa
namespace Go.Proofs.Ytpbpgbkpciffgaa
open Go Go.RowKit
theorem iand7 (c : Int) (h : 0 ≤ c) : iand c 7 = c % 8 := iand_mask c 3 h
theorem class_c {S w0 L} (c : Int) (h : 0 ≤ c ∧ c < 65536) : Fn Try.prog 51 #[.int .u16 c] S w0 L fun v L' => v = .int .u16 (c % 8) ∧ L = L' := by
 refine Fn1 Try.func51 Try.ntmps51 rfl rfl ?_
 repeat' (first | refine h0u ?_ | refine h0c ?_ | refine h0g ?_ | refine h0q ?_ | refine h1n ?_ | refine h2p ?_ | refine h0v ?_ | refine h1v ?_ | refine h0y ?_ | refine h2j ?_ | refine h1m ?_ | refine h2s rfl ?_ | refine h0p ?_ | refine h1c ?_ | refine h2a ?_ | refine h2w ?_ | refine h0s rfl ?_ | refine h0n rfl ?_ | (refine gR 0 ?_ <;> (try refine h0a ?_; (first | (refine q_k (h0e rfl) ?_))) <;> (try refine h0c ?_)) | (refine gR 1 ?_ <;> (try refine h0a ?_; (first | (refine q_k (h0b rfl) ?_))) <;> (try refine h0a ?_; (first | (refine q_k (q_b (r:=by refine h4y ?_ ?_; (focus (refine ⟨rfl, ⟨?_, ?_⟩⟩; (omega); (focus (simp only [IntKind.bits]; omega)))); (focus (refine ⟨rfl, ⟨?_, ?_⟩⟩; (omega); (focus (simp only [IntKind.bits]; omega)))))) ?_))) <;> (try refine h0a ?_; (first | (refine q_k (h0e rfl) ?_))) <;> (try refine h0c ?_)) | ((first | (refine h1r rfl (fun hc => ?_) (fun hc => ?_)) | (refine h1x rfl (fun hc => ?_) (fun hc => ?_)) | (refine h3i rfl (fun hc => ?_) (fun hc => ?_))) <;> (try subst hc)))
 refine h2h Try.results51 (.tmp rfl .nil) ⟨L, ⟨?_, rfl⟩, fun _ H => H⟩
 rw [iand7 c h.1]; rfl
def opOf (c : Int) : Int := iandn c (ior (iand c 8) 7)
def known (c : Int) : Bool :=
 c = 32 || c = 0 || c = 96 || c = 128 || c = 1 || c = 97 || c = 129 || c = 2 || c = 3 || c = 6 || c = 22 || c = 7 || c = 135 || c = 5 || c = 132 ||
 ((opOf c = 0 || opOf c = 16 || opOf c = 32 || opOf c = 48 || opOf c = 64 || opOf c = 80 || opOf c = 96 || opOf c = 112 || opOf c = 160) && c % 8 = 4) ||
 ((opOf c = 16 || opOf c = 32 || opOf c = 48 || opOf c = 64) && c % 8 = 5)
set_option maxHeartbeats 2000000 in
theorem known_c {S w0 L} (c : Int) (h : 0 ≤ c ∧ c < 65536) : Fn Try.prog 73 #[.int .u16 c] S w0 L fun v L' => v = .bool (known c) ∧ L = L' := by
 have h1 := iand_le' c 8 (by omega)
 have h2 := iand_le c 8 (by omega)
 have h3 := ior_lt (iand c 8) 7 16 (by omega) (by omega)
 refine Fn1 Try.func73 Try.ntmps73 rfl rfl ?_
 repeat' (first | refine h0u ?_ | refine h0c ?_ | refine h0g ?_ | refine h0q ?_ | refine h1n ?_ | refine h2p ?_ | refine h0v ?_ | refine h1v ?_ | refine h0y ?_ | refine h2j ?_ | refine h1m ?_ | refine h2s rfl ?_ | refine h0p ?_ | refine h1c ?_ | refine h2a ?_ | refine h2w ?_ | refine h0s rfl ?_ | refine h0n rfl ?_ | (refine gR 0 ?_ <;> (try refine h0a ?_; (first | (refine q_k (h0e rfl) ?_))) <;> (try refine h0c ?_)) | (refine gR 1 ?_ <;> (try refine h0a ?_; (first | (refine q_k (h0b rfl) ?_))) <;> (try refine h0c ?_)) | (refine gR 2 ?_ <;> (try refine h0a ?_; (first | (refine q_k (by exact q_b (r:=by first | (refine h0j ?_; first | rfl | (with_reducible assumption) | (decide; done)) | (exact h0m q_o) | exact h1a)) ?_))) <;> (try refine h0a ?_; (first | (refine q_k (h0e rfl) ?_))) <;> (try refine h0c ?_)) | (refine gR 3 ?_ <;> (try refine h0a ?_; (first | (refine q_k (by exact q_b (r:=by first | (refine h0j ?_; first | rfl | (with_reducible assumption) | (decide; done)) | (exact h0m q_o) | exact h1a)) ?_))) <;> (try refine h0a ?_; (first | (refine q_k (h0e rfl) ?_))) <;> (try refine h0c ?_)) | (refine gR 4 ?_ <;> (try refine h0a ?_; (first | (refine q_k (by exact q_b (r:=by first | (refine h0j ?_; first | rfl | (with_reducible assumption) | (decide; done)) | (exact h0m q_o) | exact h1a)) ?_))) <;> (try refine h0a ?_; (first | (refine q_k (h0e rfl) ?_))) <;> (try refine h0c ?_)) | (refine gR 5 ?_ <;> (try refine h0a ?_; (first | (refine q_k (by exact q_b (r:=by first | (refine h0j ?_; first | rfl | (with_reducible assumption) | (decide; done)) | (exact h0m q_o) | exact h1a)) ?_))) <;> (try refine h0a ?_; (first | (refine q_k (h0e rfl) ?_))) <;> (try refine h0c ?_)) | (refine gR 6 ?_ <;> (try refine h0a ?_; (first | (refine q_k (by exact q_b (r:=by first | (refine h0j ?_; first | rfl | (with_reducible assumption) | (decide; done)) | (exact h0m q_o) | exact h1a)) ?_))) <;> (try refine h0a ?_; (first | (refine q_k (h0e rfl) ?_))) <;> (try refine h0c ?_)) | (refine gR 7 ?_ <;> (try refine h0a ?_; (first | (refine q_k (by exact q_b (r:=by first | (refine h0j ?_; first | rfl | (with_reducible assumption) | (decide; done)) | (exact h0m q_o) | exact h1a)) ?_))) <;> (try refine h0a ?_; (first | (refine q_k (h0e rfl) ?_))) <;> (try refine h0c ?_)) | (refine gR 8 ?_ <;> (try refine h0a ?_; (first | (refine q_k (by exact q_b (r:=by first | (refine h0j ?_; first | rfl | (with_reducible assumption) | (decide; done)) | (exact h0m q_o) | exact h1a)) ?_))) <;> (try refine h0a ?_; (first | (refine q_k (h0e rfl) ?_))) <;> (try refine h0c ?_)) | (refine gR 9 ?_ <;> (try refine h0a ?_; (first | (refine q_k (by exact q_b (r:=by first | (refine h0j ?_; first | rfl | (with_reducible assumption) | (decide; done)) | (exact h0m q_o) | exact h1a)) ?_))) <;> (try refine h0a ?_; (first | (refine q_k (h0e rfl) ?_))) <;> (try refine h0c ?_)) | (refine gR 10 ?_ <;> (try refine h0a ?_; (first | (refine q_k (by exact q_b (r:=by first | (refine h0j ?_; first | rfl | (with_reducible assumption) | (decide; done)) | (exact h0m q_o) | exact h1a)) ?_))) <;> (try refine h0a ?_; (first | (refine q_k (h0e rfl) ?_))) <;> (try refine h0c ?_)) | (refine gR 11 ?_ <;> (try refine h0a ?_; (first | (refine q_k (by exact q_b (r:=by first | (refine h0j ?_; first | rfl | (with_reducible assumption) | (decide; done)) | (exact h0m q_o) | exact h1a)) ?_))) <;> (try refine h0a ?_; (first | (refine q_k (h0e rfl) ?_))) <;> (try refine h0c ?_)) | (refine gR 12 ?_ <;> (try refine h0a ?_; (first | (refine q_k (by exact q_b (r:=by first | (refine h0j ?_; first | rfl | (with_reducible assumption) | (decide; done)) | (exact h0m q_o) | exact h1a)) ?_))) <;> (try refine h0a ?_; (first | (refine q_k (h0e rfl) ?_))) <;> (try refine h0c ?_)) | (refine gR 13 ?_ <;> (try refine h0a ?_; (first | (refine q_k (by exact q_b (r:=by first | (refine h0j ?_; first | rfl | (with_reducible assumption) | (decide; done)) | (exact h0m q_o) | exact h1a)) ?_))) <;> (try refine h0a ?_; (first | (refine q_k (h0e rfl) ?_))) <;> (try refine h0c ?_)) | (refine gR 14 ?_ <;> (try refine h0a ?_; (first | (refine q_k (by exact q_b (r:=by first | (refine h0j ?_; first | rfl | (with_reducible assumption) | (decide; done)) | (exact h0m q_o) | exact h1a)) ?_))) <;> (try refine h0a ?_; (first | (refine q_k (h0e rfl) ?_))) <;> (try refine h0c ?_)) | (refine gR 15 ?_ <;> (try refine h0a ?_; (first | (refine q_k (by exact q_b (r:=by first | (refine h0j ?_; first | rfl | (with_reducible assumption) | (decide; done)) | (exact h0m q_o) | exact h1a)) ?_))) <;> (try refine h0a ?_; (first | (refine q_k (h0e rfl) ?_))) <;> (try refine h0c ?_)) | (refine gR 16 ?_ <;> (try refine h0a ?_; (first | (refine q_k (by exact q_b (r:=by first | (refine h0j ?_; first | rfl | (with_reducible assumption) | (decide; done)) | (exact h0m q_o) | exact h1a)) ?_))) <;> (try refine h0a ?_; (first | (refine q_k (h0e rfl) ?_))) <;> (try refine h0c ?_)) | (refine gR 17 ?_ <;> (try refine h0a ?_; (first | (refine q_k (h0e rfl) ?_))) <;> (try refine h0c ?_)) | (refine gR 18 ?_ <;> (try refine h0a ?_; (first | (refine q_k (h0b rfl) ?_))) <;> (try refine h0a ?_; (first | (refine q_k (q_b (r:=by refine h4y ?_ ?_; (focus (refine ⟨rfl, ⟨?_, ?_⟩⟩; (omega); (focus (simp only [IntKind.bits]; omega)))); (focus (refine ⟨rfl, ⟨?_, ?_⟩⟩; (omega); (focus (simp only [IntKind.bits]; omega)))))) ?_))) <;> (try refine h0a ?_; (first | (refine q_k (h0e rfl) ?_))) <;> (try refine h0c ?_)) | (refine gR 19 ?_ <;> (try refine h0a ?_; (first | (refine q_k (h0b rfl) ?_))) <;> (try refine h0a ?_; (first | (refine q_k (h0b rfl) ?_))) <;> (try refine h0a ?_; (first | (refine q_k (q_b (r:=by refine rb_or ?_ ?_; (focus (refine ⟨rfl, ⟨?_, ?_⟩⟩; (omega); (focus (simp only [IntKind.bits]; omega)))); (focus (refine ⟨rfl, ⟨?_, ?_⟩⟩; (omega); (focus (simp only [IntKind.bits]; omega)))))) ?_))) <;> (try refine h0a ?_; (first | (refine q_k (q_b (r:=by refine rb_andn ?_ ?_; (focus (refine ⟨rfl, ⟨?_, ?_⟩⟩; (omega); (focus (simp only [IntKind.bits]; omega)))); (focus (refine ⟨rfl, ⟨?_, ?_⟩⟩; (omega); (focus (simp only [IntKind.bits]; omega)))))) ?_))) <;> (try refine h0c ?_)) | (refine gR 20 ?_ <;> (try refine h0a ?_; (first | (refine q_k (by exact q_b (r:=by first | (refine h0j ?_; first | rfl | (with_reducible assumption) | (decide; done)) | (exact h0m q_o) | exact h1a)) ?_))) <;> (try refine h0a ?_; (first | (refine q_k (h0e rfl) ?_))) <;> (try refine h0c ?_)) | (refine gR 21 ?_ <;> (try refine h0a ?_; (first | (refine q_k (by exact q_b (r:=by first | (refine h0j ?_; first | rfl | (with_reducible assumption) | (decide; done)) | (exact h0m q_o) | exact h1a)) ?_))) <;> (try refine h0a ?_; (first | (refine q_k (h0e rfl) ?_))) <;> (try refine h0c ?_)) | (refine gR 22 ?_ <;> (try refine h0a ?_; (first | (refine q_k (by exact q_b (r:=by first | (refine h0j ?_; first | rfl | (with_reducible assumption) | (decide; done)) | (exact h0m q_o) | exact h1a)) ?_))) <;> (try refine h0a ?_; (first | (refine q_k (h0e rfl) ?_))) <;> (try refine h0c ?_)) | (refine gR 23 ?_ <;> (try refine h0a ?_; (first | (refine q_k (by exact q_b (r:=by first | (refine h0j ?_; first | rfl | (with_reducible assumption) | (decide; done)) | (exact h0m q_o) | exact h1a)) ?_))) <;> (try refine h0a ?_; (first | (refine q_k (h0e rfl) ?_))) <;> (try refine h0c ?_)) | (refine gR 24 ?_ <;> (try refine h0a ?_; (first | (refine q_k (by exact q_b (r:=by first | (refine h0j ?_; first | rfl | (with_reducible assumption) | (decide; done)) | (exact h0m q_o) | exact h1a)) ?_))) <;> (try refine h0a ?_; (first | (refine q_k (h0e rfl) ?_))) <;> (try refine h0c ?_)) | (refine gR 25 ?_ <;> (try refine h0a ?_; (first | (refine q_k (by exact q_b (r:=by first | (refine h0j ?_; first | rfl | (with_reducible assumption) | (decide; done)) | (exact h0m q_o) | exact h1a)) ?_))) <;> (try refine h0a ?_; (first | (refine q_k (h0e rfl) ?_))) <;> (try refine h0c ?_)) | (refine gR 26 ?_ <;> (try refine h0a ?_; (first | (refine q_k (by exact q_b (r:=by first | (refine h0j ?_; first | rfl | (with_reducible assumption) | (decide; done)) | (exact h0m q_o) | exact h1a)) ?_))) <;> (try refine h0a ?_; (first | (refine q_k (h0e rfl) ?_))) <;> (try refine h0c ?_)) | (refine gR 27 ?_ <;> (try refine h0a ?_; (first | (refine q_k (by exact q_b (r:=by first | (refine h0j ?_; first | rfl | (with_reducible assumption) | (decide; done)) | (exact h0m q_o) | exact h1a)) ?_))) <;> (try refine h0a ?_; (first | (refine q_k (h0e rfl) ?_))) <;> (try refine h0c ?_)) | (refine gR 28 ?_ <;> (try refine h0a ?_; (first | (refine q_k (by exact q_b (r:=by first | (refine h0j ?_; first | rfl | (with_reducible assumption) | (decide; done)) | (exact h0m q_o) | exact h1a)) ?_))) <;> (try refine h0a ?_; (first | (refine q_k (h0e rfl) ?_))) <;> (try refine h0c ?_)) | (refine gR 29 ?_ <;> (try refine h0a ?_; (first | (refine q_k (h0b rfl) ?_))) <;> (try refine h0a ?_; (first | (first | (refine h0w (F:=51) (by kernel_rfl) rfl rfl (class_c _ (by omega)) ?_; rintro _ _ ⟨rfl, rfl⟩)))) <;> (try refine h0a ?_; (first | (refine q_k (by exact q_b (r:=by first | (refine h0j ?_; first | rfl | (with_reducible assumption) | (decide; done)) | (exact h0m q_o) | exact h1a)) ?_))) <;> (try refine h0c ?_)) | (refine gR 30 ?_ <;> (try refine h0a ?_; (first | (refine q_k (h0e rfl) ?_))) <;> (try refine h0c ?_)) | (refine gR 31 ?_ <;> (try refine h0a ?_; (first | (refine q_k (h0b rfl) ?_))) <;> (try refine h0a ?_; (first | (refine q_k (h0b rfl) ?_))) <;> (try refine h0a ?_; (first | (refine q_k (q_b (r:=by refine rb_or ?_ ?_; (focus (refine ⟨rfl, ⟨?_, ?_⟩⟩; (omega); (focus (simp only [IntKind.bits]; omega)))); (focus (refine ⟨rfl, ⟨?_, ?_⟩⟩; (omega); (focus (simp only [IntKind.bits]; omega)))))) ?_))) <;> (try refine h0a ?_; (first | (refine q_k (q_b (r:=by refine rb_andn ?_ ?_; (focus (refine ⟨rfl, ⟨?_, ?_⟩⟩; (omega); (focus (simp only [IntKind.bits]; omega)))); (focus (refine ⟨rfl, ⟨?_, ?_⟩⟩; (omega); (focus (simp only [IntKind.bits]; omega)))))) ?_))) <;> (try refine h0c ?_)) | (refine gR 32 ?_ <;> (try refine h0a ?_; (first | (refine q_k (by exact q_b (r:=by first | (refine h0j ?_; first | rfl | (with_reducible assumption) | (decide; done)) | (exact h0m q_o) | exact h1a)) ?_))) <;> (try refine h0a ?_; (first | (refine q_k (h0e rfl) ?_))) <;> (try refine h0c ?_)) | (refine gR 33 ?_ <;> (try refine h0a ?_; (first | (refine q_k (by exact q_b (r:=by first | (refine h0j ?_; first | rfl | (with_reducible assumption) | (decide; done)) | (exact h0m q_o) | exact h1a)) ?_))) <;> (try refine h0a ?_; (first | (refine q_k (h0e rfl) ?_))) <;> (try refine h0c ?_)) | (refine gR 34 ?_ <;> (try refine h0a ?_; (first | (refine q_k (by exact q_b (r:=by first | (refine h0j ?_; first | rfl | (with_reducible assumption) | (decide; done)) | (exact h0m q_o) | exact h1a)) ?_))) <;> (try refine h0a ?_; (first | (refine q_k (h0e rfl) ?_))) <;> (try refine h0c ?_)) | (refine gR 35 ?_ <;> (try refine h0a ?_; (first | (refine q_k (by exact q_b (r:=by first | (refine h0j ?_; first | rfl | (with_reducible assumption) | (decide; done)) | (exact h0m q_o) | exact h1a)) ?_))) <;> (try refine h0a ?_; (first | (refine q_k (h0e rfl) ?_))) <;> (try refine h0c ?_)) | (refine gR 36 ?_ <;> (try refine h0a ?_; (first | (refine q_k (h0b rfl) ?_))) <;> (try refine h0a ?_; (first | (first | (refine h0w (F:=51) (by kernel_rfl) rfl rfl (class_c _ (by omega)) ?_; rintro _ _ ⟨rfl, rfl⟩)))) <;> (try refine h0a ?_; (first | (refine q_k (by exact q_b (r:=by first | (refine h0j ?_; first | rfl | (with_reducible assumption) | (decide; done)) | (exact h0m q_o) | exact h1a)) ?_))) <;> (try refine h0a ?_; (first | (refine q_k (h0e rfl) ?_))) <;> (try refine h0c ?_)) | (refine gR 37 ?_ <;> (try refine h0a ?_; (first | (refine q_k (h0e rfl) ?_))) <;> (try refine h0c ?_)) | ((first | (refine h1r rfl (fun hc => ?_) (fun hc => ?_)) | (refine h1x rfl (fun hc => ?_) (fun hc => ?_)) | (refine h3i rfl (fun hc => ?_) (fun hc => ?_))) <;> (try subst hc)))
 all_goals (refine h2h Try.results73 (.tmp rfl .nil) ⟨L, ⟨?_, rfl⟩, fun _ H => H⟩; refine congrArg Value.bool ?_; first | (simp [known, opOf, *]; done) | (exfalso; omega))
theorem scratch_c {S w0 L} (c : Int) : Fn Try.prog 74 #[.int .u16 c] S w0 L fun v L' => v = .bool (c = 96 || c = 97 || c = 2 || c = 3) ∧ L = L' := by
 refine Fn1 Try.func74 Try.ntmps74 rfl rfl ?_
 repeat' (first | refine h0u ?_ | refine h0c ?_ | refine h0g ?_ | refine h0q ?_ | refine h1n ?_ | refine h2p ?_ | refine h0v ?_ | refine h1v ?_ | refine h0y ?_ | refine h2j ?_ | refine h1m ?_ | refine h2s rfl ?_ | refine h0p ?_ | refine h1c ?_ | refine h2a ?_ | refine h2w ?_ | refine h0s rfl ?_ | refine h0n rfl ?_ | (refine gR 0 ?_ <;> (try refine h0a ?_; (first | (refine q_k (h0e rfl) ?_))) <;> (try refine h0c ?_)) | (refine gR 1 ?_ <;> (try refine h0a ?_; (first | (refine q_k (h0b rfl) ?_))) <;> (try refine h0c ?_)) | (refine gR 2 ?_ <;> (try refine h0a ?_; (first | (refine q_k (by exact q_b (r:=by first | (refine h0j ?_; first | rfl | (with_reducible assumption) | (decide; done)) | (exact h0m q_o) | exact h1a)) ?_))) <;> (try refine h0a ?_; (first | (refine q_k (h0e rfl) ?_))) <;> (try refine h0c ?_)) | (refine gR 3 ?_ <;> (try refine h0a ?_; (first | (refine q_k (by exact q_b (r:=by first | (refine h0j ?_; first | rfl | (with_reducible assumption) | (decide; done)) | (exact h0m q_o) | exact h1a)) ?_))) <;> (try refine h0a ?_; (first | (refine q_k (h0e rfl) ?_))) <;> (try refine h0c ?_)) | (refine gR 4 ?_ <;> (try refine h0a ?_; (first | (refine q_k (by exact q_b (r:=by first | (refine h0j ?_; first | rfl | (with_reducible assumption) | (decide; done)) | (exact h0m q_o) | exact h1a)) ?_))) <;> (try refine h0a ?_; (first | (refine q_k (h0e rfl) ?_))) <;> (try refine h0c ?_)) | (refine gR 5 ?_ <;> (try refine h0a ?_; (first | (refine q_k (by exact q_b (r:=by first | (refine h0j ?_; first | rfl | (with_reducible assumption) | (decide; done)) | (exact h0m q_o) | exact h1a)) ?_))) <;> (try refine h0a ?_; (first | (refine q_k (h0e rfl) ?_))) <;> (try refine h0c ?_)) | (refine gR 6 ?_ <;> (try refine h0a ?_; (first | (refine q_k (h0e rfl) ?_))) <;> (try refine h0c ?_)) | (refine gR 7 ?_ <;> (try refine h0a ?_; (first | (refine q_k (h0e rfl) ?_))) <;> (try refine h0c ?_)) | ((first | (refine h1r rfl (fun hc => ?_) (fun hc => ?_)) | (refine h1x rfl (fun hc => ?_) (fun hc => ?_)) | (refine h3i rfl (fun hc => ?_) (fun hc => ?_))) <;> (try subst hc)))
 all_goals (refine h2h Try.results74 (.tmp rfl .nil) ⟨L, ⟨?_, rfl⟩, fun _ H => H⟩; refine congrArg Value.bool ?_; simp [*])
structure Ins where
 code : Int
 jt : Int
 jf : Int
 k : Int
def Ins.cells (i : Ins) : List Value := [.int .u16 i.code, .int .u8 i.jt, .int .u8 i.jf, .int .u32 i.k]
def Ins.v (i : Ins) : Value := .agg #[.int .u16 i.code, .int .u8 i.jt, .int .u8 i.jf, .int .u32 i.k]
structure Ins.ok (i : Ins) : Prop where
 c : 0 ≤ i.code ∧ i.code < 65536
 t : 0 ≤ i.jt ∧ i.jt < 256
 f : 0 ≤ i.jf ∧ i.jf < 256
 k : 0 ≤ i.k ∧ i.k < 4294967296
def one (i : Ins) (at_ many : Int) : Int :=
 let left := many - at_ - 1
 if !known i.code then 208
 else if i.code = 5 ∧ i.k ≥ left then 207
 else if i.code % 8 = 5 ∧ i.code ≠ 5 ∧ max i.jt i.jf ≥ left then 207
 else if i.code = 32 ∧ (i.k % 4 ≠ 0 ∨ i.k > 60) then 204
 else if (i.code = 96 || i.code = 97 || i.code = 2 || i.code = 3) ∧ i.k ≥ 16 then 204
 else if i.code = 52 ∧ i.k = 0 then 204
 else if (i.code = 100 ∨ i.code = 116) ∧ i.k ≥ 32 then 204
 else 0
set_option maxHeartbeats 2000000 in
theorem one_c {S w0 L} (i : Ins) (hi : i.ok) (at_ many : Int) (h0 : 0 ≤ at_) (h1 : at_ < many) (h2 : many ≤ 4096) :
  Fn Try.prog 52 #[i.v, .int .i64 at_, .int .i64 many] S w0 L fun v L' => v = .int .i64 (one i at_ many) ∧ L = L' := by
 obtain ⟨c, jt, jf, k⟩ := i
 obtain ⟨hc, ht, hf, hk⟩ := hi
 simp only [Ins.v] at *
 refine Fn3 Try.func52 Try.ntmps52 rfl rfl ?_
 repeat' (first | refine h0u ?_ | refine h0c ?_ | refine h0g ?_ | refine h0q ?_ | refine h1n ?_ | refine h2p ?_ | refine h0v ?_ | refine h1v ?_ | refine h0y ?_ | refine h2j ?_ | refine h1m ?_ | refine h2s rfl ?_ | refine h0p ?_ | refine h1c ?_ | refine h2a ?_ | refine h2w ?_ | refine h0s rfl ?_ | refine h0n rfl ?_ | (refine gR 0 ?_ <;> (try refine h0a ?_; (first | (refine h4e (t:=43) rfl rfl ?_; intro nb hnb; (try simp only [Value.cells])))) <;> (try refine h0a ?_; (first | (refine q_k (h0e rfl) ?_))) <;> (try refine h0c ?_)) | (refine gR 1 ?_ <;> (try refine h0a ?_; (first | (refine q_k (h0b rfl) ?_))) <;> (try refine h0a ?_; (first | (refine q_k (h0b rfl) ?_))) <;> (try refine h0a ?_; (first | (refine q_k (by exact q_b (r:=by apply h2z; exact c_9; (focus (first | (refine IntWalk.i64_in _ ?_; omega) | (refine IntWalk.u8_in _ ?_; omega) | (refine IntWalk.u16_in _ ?_; omega) | (refine IntWalk.u32_in _ ?_; omega) | (refine IntWalk.u64_in _ ?_; omega) | (refine IntWalk.i32_in _ ?_; omega) | exact rfl)))) ?_))) <;> (try refine h0a ?_; (first | (refine q_k (by exact q_b (r:=by apply h2z; exact c_9; (focus (first | (refine IntWalk.i64_in _ ?_; omega) | (refine IntWalk.u8_in _ ?_; omega) | (refine IntWalk.u16_in _ ?_; omega) | (refine IntWalk.u32_in _ ?_; omega) | (refine IntWalk.u64_in _ ?_; omega) | (refine IntWalk.i32_in _ ?_; omega) | exact rfl)))) ?_))) <;> (try refine h0a ?_; (first | (refine q_k (h0e rfl) ?_))) <;> (try refine h0c ?_)) | (refine gR 2 ?_ <;> (try refine h0a ?_; (first | (refine q_k (by first | (exact q_f h2f) | (exact q_g h2f)) ?_))) <;> (try refine h0a ?_; (first | (refine q_k (by apply h0f (t:=41); exact rfl; (focus (repeat (first | exact fd0 | (with_reducible assumption) | apply fdA | apply fdS))); kernel_rfl; kernel_rfl; exact h2g) ?_))) <;> (try refine h0a ?_; (first | (first | (refine h0w (F:=73) (by kernel_rfl) rfl rfl (known_c _ (by assumption)) ?_; rintro _ _ ⟨rfl, rfl⟩)))) <;> (try refine h0a ?_; (first | (refine q_k (by apply E_un; exact rfl; (focus (first | exact h4l | exact h4s | exact h3v | exact ru_not))) ?_))) <;> (try refine h0a ?_; (first | (refine q_k (h0e rfl) ?_))) <;> (try refine h0c ?_)) | (refine gR 3 ?_ <;> (try refine h0a ?_; (first | (refine q_k (h0e rfl) ?_))) <;> (try refine h0c ?_)) | (refine gR 4 ?_ <;> (try refine h0a ?_; (first | (refine q_k (by first | (exact q_f h2f) | (exact q_g h2f)) ?_))) <;> (try refine h0a ?_; (first | (refine q_k (by apply h0f (t:=41); exact rfl; (focus (repeat (first | exact fd0 | (with_reducible assumption) | apply fdA | apply fdS))); kernel_rfl; kernel_rfl; exact h2g) ?_))) <;> (try refine h0a ?_; (first | (refine q_k (by exact q_b (r:=by first | (refine h0j ?_; first | rfl | (with_reducible assumption) | (decide; done)) | (exact h0m q_o) | exact h1a)) ?_))) <;> (try refine h0a ?_; (first | (refine q_k (h0b rfl) ?_))) <;> (try refine h0a ?_; (first | refine h2x rfl rfl rfl rfl ?_ | (refine h3w rfl rfl rfl ?_) | (refine h1y rfl rfl rfl ?_; (first | (refine q_k (by first | (exact q_f h1t) | (exact q_g h1t)) ?_))) | ((first | (refine h1w rfl rfl (fun hc => ?_) (fun hc => ?_)) | (refine h2c rfl rfl (fun hc => ?_) (fun hc => ?_)) | (refine h2t rfl rfl (fun hc => ?_) (fun hc => ?_))) <;> (try subst hc) <;> (first | refine h2x rfl rfl rfl rfl ?_ | (refine h1y rfl rfl rfl ?_; (first | (refine q_k (by first | (exact q_f h1t) | (exact q_g h1t)) ?_))))))) <;> (try refine h0a ?_; (first | refine h2x rfl rfl rfl rfl ?_ | (refine h3w rfl rfl rfl ?_) | (refine h1y rfl rfl rfl ?_; (first | (refine q_k (by apply h0f (t:=22); exact rfl; (focus (repeat (first | exact fd0 | (with_reducible assumption) | apply fdA | apply fdS))); kernel_rfl; kernel_rfl; exact h2g) ?_))) | ((first | (refine h1w rfl rfl (fun hc => ?_) (fun hc => ?_)) | (refine h2c rfl rfl (fun hc => ?_) (fun hc => ?_)) | (refine h2t rfl rfl (fun hc => ?_) (fun hc => ?_))) <;> (try subst hc) <;> (first | refine h2x rfl rfl rfl rfl ?_ | (refine h1y rfl rfl rfl ?_; (first | (refine q_k (by apply h0f (t:=22); exact rfl; (focus (repeat (first | exact fd0 | (with_reducible assumption) | apply fdA | apply fdS))); kernel_rfl; kernel_rfl; exact h2g) ?_))))))) <;> (try refine h0a ?_; (first | refine h2x rfl rfl rfl rfl ?_ | (refine h3w rfl rfl rfl ?_) | (refine h1y rfl rfl rfl ?_; (first | (refine q_k (by apply h3h; exact rfl; (focus (apply h3g Try.underlying22 Try.underlying23; first | (refine IntWalk.i64_in _ ?_; omega) | (refine IntWalk.u8_in _ ?_; omega) | (refine IntWalk.u16_in _ ?_; omega) | (refine IntWalk.u32_in _ ?_; omega) | (refine IntWalk.u64_in _ ?_; omega) | (refine IntWalk.i32_in _ ?_; omega) | exact rfl))) ?_))) | ((first | (refine h1w rfl rfl (fun hc => ?_) (fun hc => ?_)) | (refine h2c rfl rfl (fun hc => ?_) (fun hc => ?_)) | (refine h2t rfl rfl (fun hc => ?_) (fun hc => ?_))) <;> (try subst hc) <;> (first | refine h2x rfl rfl rfl rfl ?_ | (refine h1y rfl rfl rfl ?_; (first | (refine q_k (by apply h3h; exact rfl; (focus (apply h3g Try.underlying22 Try.underlying23; first | (refine IntWalk.i64_in _ ?_; omega) | (refine IntWalk.u8_in _ ?_; omega) | (refine IntWalk.u16_in _ ?_; omega) | (refine IntWalk.u32_in _ ?_; omega) | (refine IntWalk.u64_in _ ?_; omega) | (refine IntWalk.i32_in _ ?_; omega) | exact rfl))) ?_))))))) <;> (try refine h0a ?_; (first | refine h2x rfl rfl rfl rfl ?_ | (refine h3w rfl rfl rfl ?_) | (refine h1y rfl rfl rfl ?_; (first | (refine q_k (h0b rfl) ?_))) | ((first | (refine h1w rfl rfl (fun hc => ?_) (fun hc => ?_)) | (refine h2c rfl rfl (fun hc => ?_) (fun hc => ?_)) | (refine h2t rfl rfl (fun hc => ?_) (fun hc => ?_))) <;> (try subst hc) <;> (first | refine h2x rfl rfl rfl rfl ?_ | (refine h1y rfl rfl rfl ?_; (first | (refine q_k (h0b rfl) ?_))))))) <;> (try refine h0a ?_; (first | refine h2x rfl rfl rfl rfl ?_ | (refine h3w rfl rfl rfl ?_) | (refine h1y rfl rfl rfl ?_; (first | (refine q_k (by apply h3h; exact rfl; (focus (apply h3g Try.underlying3 Try.underlying23; first | (refine IntWalk.i64_in _ ?_; omega) | (refine IntWalk.u8_in _ ?_; omega) | (refine IntWalk.u16_in _ ?_; omega) | (refine IntWalk.u32_in _ ?_; omega) | (refine IntWalk.u64_in _ ?_; omega) | (refine IntWalk.i32_in _ ?_; omega) | exact rfl))) ?_))) | ((first | (refine h1w rfl rfl (fun hc => ?_) (fun hc => ?_)) | (refine h2c rfl rfl (fun hc => ?_) (fun hc => ?_)) | (refine h2t rfl rfl (fun hc => ?_) (fun hc => ?_))) <;> (try subst hc) <;> (first | refine h2x rfl rfl rfl rfl ?_ | (refine h1y rfl rfl rfl ?_; (first | (refine q_k (by apply h3h; exact rfl; (focus (apply h3g Try.underlying3 Try.underlying23; first | (refine IntWalk.i64_in _ ?_; omega) | (refine IntWalk.u8_in _ ?_; omega) | (refine IntWalk.u16_in _ ?_; omega) | (refine IntWalk.u32_in _ ?_; omega) | (refine IntWalk.u64_in _ ?_; omega) | (refine IntWalk.i32_in _ ?_; omega) | exact rfl))) ?_))))))) <;> (try refine h0a ?_; (first | refine h2x rfl rfl rfl rfl ?_ | (refine h3w rfl rfl rfl ?_) | (refine h1y rfl rfl rfl ?_; (first | (refine q_k (by exact q_b (r:=by first | (exact h3q q_o) | (exact h3c q_o) | exact rb_geq)) ?_))) | ((first | (refine h1w rfl rfl (fun hc => ?_) (fun hc => ?_)) | (refine h2c rfl rfl (fun hc => ?_) (fun hc => ?_)) | (refine h2t rfl rfl (fun hc => ?_) (fun hc => ?_))) <;> (try subst hc) <;> (first | refine h2x rfl rfl rfl rfl ?_ | (refine h1y rfl rfl rfl ?_; (first | (refine q_k (by exact q_b (r:=by first | (exact h3q q_o) | (exact h3c q_o) | exact rb_geq)) ?_))))))) <;> (try refine h0a ?_; (first | (refine q_k (h3p rfl rfl) ?_))) <;> (try refine h0a ?_; (first | (refine q_k (h0e rfl) ?_))) <;> (try refine h0c ?_)) | (refine gR 5 ?_ <;> (try refine h0a ?_; (first | (refine q_k (h0e rfl) ?_))) <;> (try refine h0c ?_)) | (refine gR 6 ?_ <;> (try refine h0a ?_; (first | (refine q_k (by first | (exact q_f h2f) | (exact q_g h2f)) ?_))) <;> (try refine h0a ?_; (first | (refine q_k (by apply h0f (t:=41); exact rfl; (focus (repeat (first | exact fd0 | (with_reducible assumption) | apply fdA | apply fdS))); kernel_rfl; kernel_rfl; exact h2g) ?_))) <;> (try refine h0a ?_; (first | (first | (refine h0w (F:=51) (by kernel_rfl) rfl rfl (class_c _ (by assumption)) ?_; rintro _ _ ⟨rfl, rfl⟩)))) <;> (try refine h0a ?_; (first | (refine q_k (by exact q_b (r:=by first | (refine h0j ?_; first | rfl | (with_reducible assumption) | (decide; done)) | (exact h0m q_o) | exact h1a)) ?_))) <;> (try refine h0a ?_; (first | (refine q_k (h0b rfl) ?_))) <;> (try refine h0a ?_; (first | refine h2x rfl rfl rfl rfl ?_ | (refine h3w rfl rfl rfl ?_) | (refine h1y rfl rfl rfl ?_; (first | (refine q_k (by first | (exact q_f h2f) | (exact q_g h2f)) ?_))) | ((first | (refine h1w rfl rfl (fun hc => ?_) (fun hc => ?_)) | (refine h2c rfl rfl (fun hc => ?_) (fun hc => ?_)) | (refine h2t rfl rfl (fun hc => ?_) (fun hc => ?_))) <;> (try subst hc) <;> (first | refine h2x rfl rfl rfl rfl ?_ | (refine h1y rfl rfl rfl ?_; (first | (refine q_k (by first | (exact q_f h2f) | (exact q_g h2f)) ?_))))))) <;> (try refine h0a ?_; (first | refine h2x rfl rfl rfl rfl ?_ | (refine h3w rfl rfl rfl ?_) | (refine h1y rfl rfl rfl ?_; (first | (refine q_k (by apply h0f (t:=41); exact rfl; (focus (repeat (first | exact fd0 | (with_reducible assumption) | apply fdA | apply fdS))); kernel_rfl; kernel_rfl; exact h2g) ?_))) | ((first | (refine h1w rfl rfl (fun hc => ?_) (fun hc => ?_)) | (refine h2c rfl rfl (fun hc => ?_) (fun hc => ?_)) | (refine h2t rfl rfl (fun hc => ?_) (fun hc => ?_))) <;> (try subst hc) <;> (first | refine h2x rfl rfl rfl rfl ?_ | (refine h1y rfl rfl rfl ?_; (first | (refine q_k (by apply h0f (t:=41); exact rfl; (focus (repeat (first | exact fd0 | (with_reducible assumption) | apply fdA | apply fdS))); kernel_rfl; kernel_rfl; exact h2g) ?_))))))) <;> (try refine h0a ?_; (first | refine h2x rfl rfl rfl rfl ?_ | (refine h3w rfl rfl rfl ?_) | (refine h1y rfl rfl rfl ?_; (first | (refine q_k (by exact q_b (r:=by first | (refine h2v ?_; first | rfl | (with_reducible assumption) | (decide; done)) | (exact h5a q_o) | exact rb_neq)) ?_))) | ((first | (refine h1w rfl rfl (fun hc => ?_) (fun hc => ?_)) | (refine h2c rfl rfl (fun hc => ?_) (fun hc => ?_)) | (refine h2t rfl rfl (fun hc => ?_) (fun hc => ?_))) <;> (try subst hc) <;> (first | refine h2x rfl rfl rfl rfl ?_ | (refine h1y rfl rfl rfl ?_; (first | (refine q_k (by exact q_b (r:=by first | (refine h2v ?_; first | rfl | (with_reducible assumption) | (decide; done)) | (exact h5a q_o) | exact rb_neq)) ?_))))))) <;> (try refine h0a ?_; (first | (refine q_k (h3p rfl rfl) ?_))) <;> (try refine h0a ?_; (first | (refine q_k (h0b rfl) ?_))) <;> (try refine h0a ?_; (first | refine h2x rfl rfl rfl rfl ?_ | (refine h3w rfl rfl rfl ?_) | (refine h1y rfl rfl rfl ?_; (first | (refine q_k (by first | (exact q_f fo_43_1) | (exact q_g fo_43_1)) ?_))) | ((first | (refine h1w rfl rfl (fun hc => ?_) (fun hc => ?_)) | (refine h2c rfl rfl (fun hc => ?_) (fun hc => ?_)) | (refine h2t rfl rfl (fun hc => ?_) (fun hc => ?_))) <;> (try subst hc) <;> (first | refine h2x rfl rfl rfl rfl ?_ | (refine h1y rfl rfl rfl ?_; (first | (refine q_k (by first | (exact q_f fo_43_1) | (exact q_g fo_43_1)) ?_))))))) <;> (try refine h0a ?_; (first | refine h2x rfl rfl rfl rfl ?_ | (refine h3w rfl rfl rfl ?_) | (refine h1y rfl rfl rfl ?_; (first | (refine q_k (by apply h0f (t:=5); exact rfl; (focus (repeat (first | exact fd0 | (with_reducible assumption) | apply fdA | apply fdS))); kernel_rfl; kernel_rfl; exact h2g) ?_))) | ((first | (refine h1w rfl rfl (fun hc => ?_) (fun hc => ?_)) | (refine h2c rfl rfl (fun hc => ?_) (fun hc => ?_)) | (refine h2t rfl rfl (fun hc => ?_) (fun hc => ?_))) <;> (try subst hc) <;> (first | refine h2x rfl rfl rfl rfl ?_ | (refine h1y rfl rfl rfl ?_; (first | (refine q_k (by apply h0f (t:=5); exact rfl; (focus (repeat (first | exact fd0 | (with_reducible assumption) | apply fdA | apply fdS))); kernel_rfl; kernel_rfl; exact h2g) ?_))))))) <;> (try refine h0a ?_; (first | refine h2x rfl rfl rfl rfl ?_ | (refine h3w rfl rfl rfl ?_) | (refine h1y rfl rfl rfl ?_; (first | (refine q_k (by first | (exact q_f fo_43_2) | (exact q_g fo_43_2)) ?_))) | ((first | (refine h1w rfl rfl (fun hc => ?_) (fun hc => ?_)) | (refine h2c rfl rfl (fun hc => ?_) (fun hc => ?_)) | (refine h2t rfl rfl (fun hc => ?_) (fun hc => ?_))) <;> (try subst hc) <;> (first | refine h2x rfl rfl rfl rfl ?_ | (refine h1y rfl rfl rfl ?_; (first | (refine q_k (by first | (exact q_f fo_43_2) | (exact q_g fo_43_2)) ?_))))))) <;> (try refine h0a ?_; (first | refine h2x rfl rfl rfl rfl ?_ | (refine h3w rfl rfl rfl ?_) | (refine h1y rfl rfl rfl ?_; (first | (refine q_k (by apply h0f (t:=5); exact rfl; (focus (repeat (first | exact fd0 | (with_reducible assumption) | apply fdA | apply fdS))); kernel_rfl; kernel_rfl; exact h2g) ?_))) | ((first | (refine h1w rfl rfl (fun hc => ?_) (fun hc => ?_)) | (refine h2c rfl rfl (fun hc => ?_) (fun hc => ?_)) | (refine h2t rfl rfl (fun hc => ?_) (fun hc => ?_))) <;> (try subst hc) <;> (first | refine h2x rfl rfl rfl rfl ?_ | (refine h1y rfl rfl rfl ?_; (first | (refine q_k (by apply h0f (t:=5); exact rfl; (focus (repeat (first | exact fd0 | (with_reducible assumption) | apply fdA | apply fdS))); kernel_rfl; kernel_rfl; exact h2g) ?_))))))) <;> (try refine h0a ?_; (first | refine h2x rfl rfl rfl rfl ?_ | (refine h3w rfl rfl rfl ?_) | (refine h1y rfl rfl rfl ?_; (first | (refine q_k (h0r rfl (fun _ => BigFrame.builtin_max ..) r_max) ?_))) | ((first | (refine h1w rfl rfl (fun hc => ?_) (fun hc => ?_)) | (refine h2c rfl rfl (fun hc => ?_) (fun hc => ?_)) | (refine h2t rfl rfl (fun hc => ?_) (fun hc => ?_))) <;> (try subst hc) <;> (first | refine h2x rfl rfl rfl rfl ?_ | (refine h1y rfl rfl rfl ?_; (first | (refine q_k (h0r rfl (fun _ => BigFrame.builtin_max ..) r_max) ?_))))))) <;> (try refine h0a ?_; (first | refine h2x rfl rfl rfl rfl ?_ | (refine h3w rfl rfl rfl ?_) | (refine h1y rfl rfl rfl ?_; (first | (refine q_k (by apply h3h; exact rfl; (focus (apply h3g Try.underlying5 Try.underlying3; first | (refine IntWalk.i64_in _ ?_; omega) | (refine IntWalk.u8_in _ ?_; omega) | (refine IntWalk.u16_in _ ?_; omega) | (refine IntWalk.u32_in _ ?_; omega) | (refine IntWalk.u64_in _ ?_; omega) | (refine IntWalk.i32_in _ ?_; omega) | exact rfl))) ?_))) | ((first | (refine h1w rfl rfl (fun hc => ?_) (fun hc => ?_)) | (refine h2c rfl rfl (fun hc => ?_) (fun hc => ?_)) | (refine h2t rfl rfl (fun hc => ?_) (fun hc => ?_))) <;> (try subst hc) <;> (first | refine h2x rfl rfl rfl rfl ?_ | (refine h1y rfl rfl rfl ?_; (first | (refine q_k (by apply h3h; exact rfl; (focus (apply h3g Try.underlying5 Try.underlying3; first | (refine IntWalk.i64_in _ ?_; omega) | (refine IntWalk.u8_in _ ?_; omega) | (refine IntWalk.u16_in _ ?_; omega) | (refine IntWalk.u32_in _ ?_; omega) | (refine IntWalk.u64_in _ ?_; omega) | (refine IntWalk.i32_in _ ?_; omega) | exact rfl))) ?_))))))) <;> (try refine h0a ?_; (first | refine h2x rfl rfl rfl rfl ?_ | (refine h3w rfl rfl rfl ?_) | (refine h1y rfl rfl rfl ?_; (first | (refine q_k (h0b rfl) ?_))) | ((first | (refine h1w rfl rfl (fun hc => ?_) (fun hc => ?_)) | (refine h2c rfl rfl (fun hc => ?_) (fun hc => ?_)) | (refine h2t rfl rfl (fun hc => ?_) (fun hc => ?_))) <;> (try subst hc) <;> (first | refine h2x rfl rfl rfl rfl ?_ | (refine h1y rfl rfl rfl ?_; (first | (refine q_k (h0b rfl) ?_))))))) <;> (try refine h0a ?_; (first | refine h2x rfl rfl rfl rfl ?_ | (refine h3w rfl rfl rfl ?_) | (refine h1y rfl rfl rfl ?_; (first | (refine q_k (by exact q_b (r:=by first | (exact h3q q_o) | (exact h3c q_o) | exact rb_geq)) ?_))) | ((first | (refine h1w rfl rfl (fun hc => ?_) (fun hc => ?_)) | (refine h2c rfl rfl (fun hc => ?_) (fun hc => ?_)) | (refine h2t rfl rfl (fun hc => ?_) (fun hc => ?_))) <;> (try subst hc) <;> (first | refine h2x rfl rfl rfl rfl ?_ | (refine h1y rfl rfl rfl ?_; (first | (refine q_k (by exact q_b (r:=by first | (exact h3q q_o) | (exact h3c q_o) | exact rb_geq)) ?_))))))) <;> (try refine h0a ?_; (first | (refine q_k (h3p rfl rfl) ?_))) <;> (try refine h0a ?_; (first | (refine q_k (h0e rfl) ?_))) <;> (try refine h0c ?_)) | (refine gR 7 ?_ <;> (try refine h0a ?_; (first | (refine q_k (h0e rfl) ?_))) <;> (try refine h0c ?_)) | (refine gR 8 ?_ <;> (try refine h0a ?_; (first | (refine q_k (by first | (exact q_f h2f) | (exact q_g h2f)) ?_))) <;> (try refine h0a ?_; (first | (refine q_k (by apply h0f (t:=41); exact rfl; (focus (repeat (first | exact fd0 | (with_reducible assumption) | apply fdA | apply fdS))); kernel_rfl; kernel_rfl; exact h2g) ?_))) <;> (try refine h0a ?_; (first | (refine q_k (by exact q_b (r:=by first | (refine h0j ?_; first | rfl | (with_reducible assumption) | (decide; done)) | (exact h0m q_o) | exact h1a)) ?_))) <;> (try refine h0a ?_; (first | (refine q_k (h0b rfl) ?_))) <;> (try refine h0a ?_; (first | refine h2x rfl rfl rfl rfl ?_ | (refine h3w rfl rfl rfl ?_) | (refine h1y rfl rfl rfl ?_; (first | (refine q_k (by first | (exact q_f h1t) | (exact q_g h1t)) ?_))) | ((first | (refine h1w rfl rfl (fun hc => ?_) (fun hc => ?_)) | (refine h2c rfl rfl (fun hc => ?_) (fun hc => ?_)) | (refine h2t rfl rfl (fun hc => ?_) (fun hc => ?_))) <;> (try subst hc) <;> (first | refine h2x rfl rfl rfl rfl ?_ | (refine h1y rfl rfl rfl ?_; (first | (refine q_k (by first | (exact q_f h1t) | (exact q_g h1t)) ?_))))))) <;> (try refine h0a ?_; (first | refine h2x rfl rfl rfl rfl ?_ | (refine h3w rfl rfl rfl ?_) | (refine h1y rfl rfl rfl ?_; (first | (refine q_k (by apply h0f (t:=22); exact rfl; (focus (repeat (first | exact fd0 | (with_reducible assumption) | apply fdA | apply fdS))); kernel_rfl; kernel_rfl; exact h2g) ?_))) | ((first | (refine h1w rfl rfl (fun hc => ?_) (fun hc => ?_)) | (refine h2c rfl rfl (fun hc => ?_) (fun hc => ?_)) | (refine h2t rfl rfl (fun hc => ?_) (fun hc => ?_))) <;> (try subst hc) <;> (first | refine h2x rfl rfl rfl rfl ?_ | (refine h1y rfl rfl rfl ?_; (first | (refine q_k (by apply h0f (t:=22); exact rfl; (focus (repeat (first | exact fd0 | (with_reducible assumption) | apply fdA | apply fdS))); kernel_rfl; kernel_rfl; exact h2g) ?_))))))) <;> (try refine h0a ?_; (first | refine h2x rfl rfl rfl rfl ?_ | (refine h3w rfl rfl rfl ?_) | (refine h1y rfl rfl rfl ?_; (first | (refine q_k (q_b (r:=by apply rb_rem; (omega); (omega); exact c_9)) ?_))) | ((first | (refine h1w rfl rfl (fun hc => ?_) (fun hc => ?_)) | (refine h2c rfl rfl (fun hc => ?_) (fun hc => ?_)) | (refine h2t rfl rfl (fun hc => ?_) (fun hc => ?_))) <;> (try subst hc) <;> (first | refine h2x rfl rfl rfl rfl ?_ | (refine h1y rfl rfl rfl ?_; (first | (refine q_k (q_b (r:=by apply rb_rem; (omega); (omega); exact c_9)) ?_))))))) <;> (try refine h0a ?_; (first | refine h2x rfl rfl rfl rfl ?_ | (refine h3w rfl rfl rfl ?_) | (refine h1y rfl rfl rfl ?_; (first | (refine q_k (by exact q_b (r:=by first | (refine h2v ?_; first | rfl | (with_reducible assumption) | (decide; done)) | (exact h5a q_o) | exact rb_neq)) ?_))) | ((first | (refine h1w rfl rfl (fun hc => ?_) (fun hc => ?_)) | (refine h2c rfl rfl (fun hc => ?_) (fun hc => ?_)) | (refine h2t rfl rfl (fun hc => ?_) (fun hc => ?_))) <;> (try subst hc) <;> (first | refine h2x rfl rfl rfl rfl ?_ | (refine h1y rfl rfl rfl ?_; (first | (refine q_k (by exact q_b (r:=by first | (refine h2v ?_; first | rfl | (with_reducible assumption) | (decide; done)) | (exact h5a q_o) | exact rb_neq)) ?_))))))) <;> (try refine h0a ?_; (first | refine h2x rfl rfl rfl rfl ?_ | (refine h3w rfl rfl rfl ?_) | (refine h1y rfl rfl rfl ?_; (first | (refine q_k (h0b rfl) ?_))) | ((first | (refine h1w rfl rfl (fun hc => ?_) (fun hc => ?_)) | (refine h2c rfl rfl (fun hc => ?_) (fun hc => ?_)) | (refine h2t rfl rfl (fun hc => ?_) (fun hc => ?_))) <;> (try subst hc) <;> (first | refine h2x rfl rfl rfl rfl ?_ | (refine h1y rfl rfl rfl ?_; (first | (refine q_k (h0b rfl) ?_))))))) <;> (try refine h0a ?_; (first | refine h2x rfl rfl rfl rfl ?_ | (refine h3w rfl rfl rfl ?_) | (refine h1y rfl rfl rfl ?_; (first | (refine q_k (by first | (exact q_f h1t) | (exact q_g h1t)) ?_))) | ((first | (refine h1w rfl rfl (fun hc => ?_) (fun hc => ?_)) | (refine h2c rfl rfl (fun hc => ?_) (fun hc => ?_)) | (refine h2t rfl rfl (fun hc => ?_) (fun hc => ?_))) <;> (try subst hc) <;> (first | refine h2x rfl rfl rfl rfl ?_ | (refine h1y rfl rfl rfl ?_; (first | (refine q_k (by first | (exact q_f h1t) | (exact q_g h1t)) ?_))))))) <;> (try refine h0a ?_; (first | refine h2x rfl rfl rfl rfl ?_ | (refine h3w rfl rfl rfl ?_) | (refine h1y rfl rfl rfl ?_; (first | (refine q_k (by apply h0f (t:=22); exact rfl; (focus (repeat (first | exact fd0 | (with_reducible assumption) | apply fdA | apply fdS))); kernel_rfl; kernel_rfl; exact h2g) ?_))) | ((first | (refine h1w rfl rfl (fun hc => ?_) (fun hc => ?_)) | (refine h2c rfl rfl (fun hc => ?_) (fun hc => ?_)) | (refine h2t rfl rfl (fun hc => ?_) (fun hc => ?_))) <;> (try subst hc) <;> (first | refine h2x rfl rfl rfl rfl ?_ | (refine h1y rfl rfl rfl ?_; (first | (refine q_k (by apply h0f (t:=22); exact rfl; (focus (repeat (first | exact fd0 | (with_reducible assumption) | apply fdA | apply fdS))); kernel_rfl; kernel_rfl; exact h2g) ?_))))))) <;> (try refine h0a ?_; (first | refine h2x rfl rfl rfl rfl ?_ | (refine h3w rfl rfl rfl ?_) | (refine h1y rfl rfl rfl ?_; (first | (refine q_k (by exact q_b (r:=by first | (exact h4m q_o) | (exact h4n q_o) | exact rb_gtr)) ?_))) | ((first | (refine h1w rfl rfl (fun hc => ?_) (fun hc => ?_)) | (refine h2c rfl rfl (fun hc => ?_) (fun hc => ?_)) | (refine h2t rfl rfl (fun hc => ?_) (fun hc => ?_))) <;> (try subst hc) <;> (first | refine h2x rfl rfl rfl rfl ?_ | (refine h1y rfl rfl rfl ?_; (first | (refine q_k (by exact q_b (r:=by first | (exact h4m q_o) | (exact h4n q_o) | exact rb_gtr)) ?_))))))) <;> (try refine h0a ?_; (first | refine h2x rfl rfl rfl rfl ?_ | (refine h3w rfl rfl rfl ?_) | (refine h1y rfl rfl rfl ?_; (first | (refine q_k (h3p rfl rfl) ?_))) | ((first | (refine h1w rfl rfl (fun hc => ?_) (fun hc => ?_)) | (refine h2c rfl rfl (fun hc => ?_) (fun hc => ?_)) | (refine h2t rfl rfl (fun hc => ?_) (fun hc => ?_))) <;> (try subst hc) <;> (first | refine h2x rfl rfl rfl rfl ?_ | (refine h1y rfl rfl rfl ?_; (first | (refine q_k (h3p rfl rfl) ?_))))))) <;> (try refine h0a ?_; (first | (refine q_k (h3p rfl rfl) ?_))) <;> (try refine h0a ?_; (first | (refine q_k (h0e rfl) ?_))) <;> (try refine h0c ?_)) | (refine gR 9 ?_ <;> (try refine h0a ?_; (first | (refine q_k (h0e rfl) ?_))) <;> (try refine h0c ?_)) | (refine gR 10 ?_ <;> (try refine h0a ?_; (first | (refine q_k (by first | (exact q_f h2f) | (exact q_g h2f)) ?_))) <;> (try refine h0a ?_; (first | (refine q_k (by apply h0f (t:=41); exact rfl; (focus (repeat (first | exact fd0 | (with_reducible assumption) | apply fdA | apply fdS))); kernel_rfl; kernel_rfl; exact h2g) ?_))) <;> (try refine h0a ?_; (first | (first | (refine h0w (F:=74) (by kernel_rfl) rfl rfl (scratch_c _) ?_; rintro _ _ ⟨rfl, rfl⟩)))) <;> (try refine h0a ?_; (first | (refine q_k (h0b rfl) ?_))) <;> (try refine h0a ?_; (first | refine h2x rfl rfl rfl rfl ?_ | (refine h3w rfl rfl rfl ?_) | (refine h1y rfl rfl rfl ?_; (first | (refine q_k (by first | (exact q_f h1t) | (exact q_g h1t)) ?_))) | ((first | (refine h1w rfl rfl (fun hc => ?_) (fun hc => ?_)) | (refine h2c rfl rfl (fun hc => ?_) (fun hc => ?_)) | (refine h2t rfl rfl (fun hc => ?_) (fun hc => ?_))) <;> (try subst hc) <;> (first | refine h2x rfl rfl rfl rfl ?_ | (refine h1y rfl rfl rfl ?_; (first | (refine q_k (by first | (exact q_f h1t) | (exact q_g h1t)) ?_))))))) <;> (try refine h0a ?_; (first | refine h2x rfl rfl rfl rfl ?_ | (refine h3w rfl rfl rfl ?_) | (refine h1y rfl rfl rfl ?_; (first | (refine q_k (by apply h0f (t:=22); exact rfl; (focus (repeat (first | exact fd0 | (with_reducible assumption) | apply fdA | apply fdS))); kernel_rfl; kernel_rfl; exact h2g) ?_))) | ((first | (refine h1w rfl rfl (fun hc => ?_) (fun hc => ?_)) | (refine h2c rfl rfl (fun hc => ?_) (fun hc => ?_)) | (refine h2t rfl rfl (fun hc => ?_) (fun hc => ?_))) <;> (try subst hc) <;> (first | refine h2x rfl rfl rfl rfl ?_ | (refine h1y rfl rfl rfl ?_; (first | (refine q_k (by apply h0f (t:=22); exact rfl; (focus (repeat (first | exact fd0 | (with_reducible assumption) | apply fdA | apply fdS))); kernel_rfl; kernel_rfl; exact h2g) ?_))))))) <;> (try refine h0a ?_; (first | refine h2x rfl rfl rfl rfl ?_ | (refine h3w rfl rfl rfl ?_) | (refine h1y rfl rfl rfl ?_; (first | (refine q_k (by exact q_b (r:=by first | (exact h3q q_o) | (exact h3c q_o) | exact rb_geq)) ?_))) | ((first | (refine h1w rfl rfl (fun hc => ?_) (fun hc => ?_)) | (refine h2c rfl rfl (fun hc => ?_) (fun hc => ?_)) | (refine h2t rfl rfl (fun hc => ?_) (fun hc => ?_))) <;> (try subst hc) <;> (first | refine h2x rfl rfl rfl rfl ?_ | (refine h1y rfl rfl rfl ?_; (first | (refine q_k (by exact q_b (r:=by first | (exact h3q q_o) | (exact h3c q_o) | exact rb_geq)) ?_))))))) <;> (try refine h0a ?_; (first | (refine q_k (h3p rfl rfl) ?_))) <;> (try refine h0a ?_; (first | (refine q_k (h0e rfl) ?_))) <;> (try refine h0c ?_)) | (refine gR 11 ?_ <;> (try refine h0a ?_; (first | (refine q_k (h0e rfl) ?_))) <;> (try refine h0c ?_)) | (refine gR 12 ?_ <;> (try refine h0a ?_; (first | (refine q_k (by first | (exact q_f h2f) | (exact q_g h2f)) ?_))) <;> (try refine h0a ?_; (first | (refine q_k (by apply h0f (t:=41); exact rfl; (focus (repeat (first | exact fd0 | (with_reducible assumption) | apply fdA | apply fdS))); kernel_rfl; kernel_rfl; exact h2g) ?_))) <;> (try refine h0a ?_; (first | (refine q_k (by exact q_b (r:=by first | (refine h0j ?_; first | rfl | (with_reducible assumption) | (decide; done)) | (exact h0m q_o) | exact h1a)) ?_))) <;> (try refine h0a ?_; (first | (refine q_k (h0b rfl) ?_))) <;> (try refine h0a ?_; (first | refine h2x rfl rfl rfl rfl ?_ | (refine h3w rfl rfl rfl ?_) | (refine h1y rfl rfl rfl ?_; (first | (refine q_k (by first | (exact q_f h1t) | (exact q_g h1t)) ?_))) | ((first | (refine h1w rfl rfl (fun hc => ?_) (fun hc => ?_)) | (refine h2c rfl rfl (fun hc => ?_) (fun hc => ?_)) | (refine h2t rfl rfl (fun hc => ?_) (fun hc => ?_))) <;> (try subst hc) <;> (first | refine h2x rfl rfl rfl rfl ?_ | (refine h1y rfl rfl rfl ?_; (first | (refine q_k (by first | (exact q_f h1t) | (exact q_g h1t)) ?_))))))) <;> (try refine h0a ?_; (first | refine h2x rfl rfl rfl rfl ?_ | (refine h3w rfl rfl rfl ?_) | (refine h1y rfl rfl rfl ?_; (first | (refine q_k (by apply h0f (t:=22); exact rfl; (focus (repeat (first | exact fd0 | (with_reducible assumption) | apply fdA | apply fdS))); kernel_rfl; kernel_rfl; exact h2g) ?_))) | ((first | (refine h1w rfl rfl (fun hc => ?_) (fun hc => ?_)) | (refine h2c rfl rfl (fun hc => ?_) (fun hc => ?_)) | (refine h2t rfl rfl (fun hc => ?_) (fun hc => ?_))) <;> (try subst hc) <;> (first | refine h2x rfl rfl rfl rfl ?_ | (refine h1y rfl rfl rfl ?_; (first | (refine q_k (by apply h0f (t:=22); exact rfl; (focus (repeat (first | exact fd0 | (with_reducible assumption) | apply fdA | apply fdS))); kernel_rfl; kernel_rfl; exact h2g) ?_))))))) <;> (try refine h0a ?_; (first | refine h2x rfl rfl rfl rfl ?_ | (refine h3w rfl rfl rfl ?_) | (refine h1y rfl rfl rfl ?_; (first | (refine q_k (by exact q_b (r:=by first | (refine h0j ?_; first | rfl | (with_reducible assumption) | (decide; done)) | (exact h0m q_o) | exact h1a)) ?_))) | ((first | (refine h1w rfl rfl (fun hc => ?_) (fun hc => ?_)) | (refine h2c rfl rfl (fun hc => ?_) (fun hc => ?_)) | (refine h2t rfl rfl (fun hc => ?_) (fun hc => ?_))) <;> (try subst hc) <;> (first | refine h2x rfl rfl rfl rfl ?_ | (refine h1y rfl rfl rfl ?_; (first | (refine q_k (by exact q_b (r:=by first | (refine h0j ?_; first | rfl | (with_reducible assumption) | (decide; done)) | (exact h0m q_o) | exact h1a)) ?_))))))) <;> (try refine h0a ?_; (first | (refine q_k (h3p rfl rfl) ?_))) <;> (try refine h0a ?_; (first | (refine q_k (h0e rfl) ?_))) <;> (try refine h0c ?_)) | (refine gR 13 ?_ <;> (try refine h0a ?_; (first | (refine q_k (h0e rfl) ?_))) <;> (try refine h0c ?_)) | (refine gR 14 ?_ <;> (try refine h0a ?_; (first | (refine q_k (by first | (exact q_f h2f) | (exact q_g h2f)) ?_))) <;> (try refine h0a ?_; (first | (refine q_k (by apply h0f (t:=41); exact rfl; (focus (repeat (first | exact fd0 | (with_reducible assumption) | apply fdA | apply fdS))); kernel_rfl; kernel_rfl; exact h2g) ?_))) <;> (try refine h0a ?_; (first | (refine q_k (by exact q_b (r:=by first | (refine h0j ?_; first | rfl | (with_reducible assumption) | (decide; done)) | (exact h0m q_o) | exact h1a)) ?_))) <;> (try refine h0a ?_; (first | (refine q_k (h0b rfl) ?_))) <;> (try refine h0a ?_; (first | refine h2x rfl rfl rfl rfl ?_ | (refine h3w rfl rfl rfl ?_) | (refine h1y rfl rfl rfl ?_; (first | (refine q_k (by first | (exact q_f h2f) | (exact q_g h2f)) ?_))) | ((first | (refine h1w rfl rfl (fun hc => ?_) (fun hc => ?_)) | (refine h2c rfl rfl (fun hc => ?_) (fun hc => ?_)) | (refine h2t rfl rfl (fun hc => ?_) (fun hc => ?_))) <;> (try subst hc) <;> (first | refine h2x rfl rfl rfl rfl ?_ | (refine h1y rfl rfl rfl ?_; (first | (refine q_k (by first | (exact q_f h2f) | (exact q_g h2f)) ?_))))))) <;> (try refine h0a ?_; (first | refine h2x rfl rfl rfl rfl ?_ | (refine h3w rfl rfl rfl ?_) | (refine h1y rfl rfl rfl ?_; (first | (refine q_k (by apply h0f (t:=41); exact rfl; (focus (repeat (first | exact fd0 | (with_reducible assumption) | apply fdA | apply fdS))); kernel_rfl; kernel_rfl; exact h2g) ?_))) | ((first | (refine h1w rfl rfl (fun hc => ?_) (fun hc => ?_)) | (refine h2c rfl rfl (fun hc => ?_) (fun hc => ?_)) | (refine h2t rfl rfl (fun hc => ?_) (fun hc => ?_))) <;> (try subst hc) <;> (first | refine h2x rfl rfl rfl rfl ?_ | (refine h1y rfl rfl rfl ?_; (first | (refine q_k (by apply h0f (t:=41); exact rfl; (focus (repeat (first | exact fd0 | (with_reducible assumption) | apply fdA | apply fdS))); kernel_rfl; kernel_rfl; exact h2g) ?_))))))) <;> (try refine h0a ?_; (first | refine h2x rfl rfl rfl rfl ?_ | (refine h3w rfl rfl rfl ?_) | (refine h1y rfl rfl rfl ?_; (first | (refine q_k (by exact q_b (r:=by first | (refine h0j ?_; first | rfl | (with_reducible assumption) | (decide; done)) | (exact h0m q_o) | exact h1a)) ?_))) | ((first | (refine h1w rfl rfl (fun hc => ?_) (fun hc => ?_)) | (refine h2c rfl rfl (fun hc => ?_) (fun hc => ?_)) | (refine h2t rfl rfl (fun hc => ?_) (fun hc => ?_))) <;> (try subst hc) <;> (first | refine h2x rfl rfl rfl rfl ?_ | (refine h1y rfl rfl rfl ?_; (first | (refine q_k (by exact q_b (r:=by first | (refine h0j ?_; first | rfl | (with_reducible assumption) | (decide; done)) | (exact h0m q_o) | exact h1a)) ?_))))))) <;> (try refine h0a ?_; (first | (refine q_k (h3p rfl rfl) ?_))) <;> (try refine h0a ?_; (first | (refine q_k (h0b rfl) ?_))) <;> (try refine h0a ?_; (first | refine h2x rfl rfl rfl rfl ?_ | (refine h3w rfl rfl rfl ?_) | (refine h1y rfl rfl rfl ?_; (first | (refine q_k (by first | (exact q_f h1t) | (exact q_g h1t)) ?_))) | ((first | (refine h1w rfl rfl (fun hc => ?_) (fun hc => ?_)) | (refine h2c rfl rfl (fun hc => ?_) (fun hc => ?_)) | (refine h2t rfl rfl (fun hc => ?_) (fun hc => ?_))) <;> (try subst hc) <;> (first | refine h2x rfl rfl rfl rfl ?_ | (refine h1y rfl rfl rfl ?_; (first | (refine q_k (by first | (exact q_f h1t) | (exact q_g h1t)) ?_))))))) <;> (try refine h0a ?_; (first | refine h2x rfl rfl rfl rfl ?_ | (refine h3w rfl rfl rfl ?_) | (refine h1y rfl rfl rfl ?_; (first | (refine q_k (by apply h0f (t:=22); exact rfl; (focus (repeat (first | exact fd0 | (with_reducible assumption) | apply fdA | apply fdS))); kernel_rfl; kernel_rfl; exact h2g) ?_))) | ((first | (refine h1w rfl rfl (fun hc => ?_) (fun hc => ?_)) | (refine h2c rfl rfl (fun hc => ?_) (fun hc => ?_)) | (refine h2t rfl rfl (fun hc => ?_) (fun hc => ?_))) <;> (try subst hc) <;> (first | refine h2x rfl rfl rfl rfl ?_ | (refine h1y rfl rfl rfl ?_; (first | (refine q_k (by apply h0f (t:=22); exact rfl; (focus (repeat (first | exact fd0 | (with_reducible assumption) | apply fdA | apply fdS))); kernel_rfl; kernel_rfl; exact h2g) ?_))))))) <;> (try refine h0a ?_; (first | refine h2x rfl rfl rfl rfl ?_ | (refine h3w rfl rfl rfl ?_) | (refine h1y rfl rfl rfl ?_; (first | (refine q_k (by exact q_b (r:=by first | (exact h3q q_o) | (exact h3c q_o) | exact rb_geq)) ?_))) | ((first | (refine h1w rfl rfl (fun hc => ?_) (fun hc => ?_)) | (refine h2c rfl rfl (fun hc => ?_) (fun hc => ?_)) | (refine h2t rfl rfl (fun hc => ?_) (fun hc => ?_))) <;> (try subst hc) <;> (first | refine h2x rfl rfl rfl rfl ?_ | (refine h1y rfl rfl rfl ?_; (first | (refine q_k (by exact q_b (r:=by first | (exact h3q q_o) | (exact h3c q_o) | exact rb_geq)) ?_))))))) <;> (try refine h0a ?_; (first | (refine q_k (h3p rfl rfl) ?_))) <;> (try refine h0a ?_; (first | (refine q_k (h0e rfl) ?_))) <;> (try refine h0c ?_)) | (refine gR 15 ?_ <;> (try refine h0a ?_; (first | (refine q_k (h0e rfl) ?_))) <;> (try refine h0c ?_)) | (refine gR 16 ?_ <;> (try refine h0a ?_; (first | (refine q_k (h0e rfl) ?_))) <;> (try refine h0c ?_)) | ((first | (refine h1r rfl (fun hc => ?_) (fun hc => ?_)) | (refine h1x rfl (fun hc => ?_) (fun hc => ?_)) | (refine h3i rfl (fun hc => ?_) (fun hc => ?_))) <;> (try subst hc)))
 all_goals (refine h2h Try.results52 (.tmp rfl .nil) ⟨L, ⟨?_, rfl⟩, fun _ H => H.tail⟩; refine congrArg (Value.int .i64) ?_; unfold one; first | (simp [*]; done) | (simp_all; done) | (simp_all; omega))
end Go.Proofs.Ytpbpgbkpciffgaa
