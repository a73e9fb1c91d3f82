/- Addresses, lengths, new blocks, for the logic of walks of Gl1. Conditions: none beyond each lemma's own premises. -/
import Derived.Test.YtlfoiemjjalnlaaGl2
namespace Go.Proofs.Ytlfoiemjjalnlaa
open Go Go.RowKit
section
variable {P : Program} {t s : TypeId} {k : IntKind} {a b c e : Int}

theorem info_of {z : Value} {m by_ : Nat} (h : (P.info? t).map (fun i => (i.zero, i.size, i.bytes)) = some (some z, m, by_)) :
    P.info? t = some ((P.info? t).getD default) ∧ ((P.info? t).getD default).zero = some z ∧ ((P.info? t).getD default).size = m ∧ ((P.info? t).getD default).bytes = by_ := by
  obtain ⟨i, hi, h1, h2, h3⟩ := info_parts h
  rw [hi]; exact ⟨rfl, h1, h2, h3⟩

/-- field f of the struct s stands at cell o of it, and has cells -/
structure FldOff (P : Program) (s : TypeId) (f o : Nat) : Prop where
  out : ∃ fs fld, P.underlying s = some (.struct fs) ∧ fs[f]? = some fld ∧ ((P.info? fld.type).map fun i => i.size != 0) = some true ∧ fld.offset = o
theorem FldOff.of {s : TypeId} {fs : Array Field} {fld : Field} {f o : Nat} (hs : P.underlying s = some (.struct fs)) (hf : fs[f]? = some fld) (hz : ((P.info? fld.type).map fun i => i.size != 0) = some true) (ho : fld.offset = o) : FldOff P s f o :=
  ⟨fs, fld, hs, hf, hz, ho⟩
theorem r_fieldAt {f o bb off off' : Nat} (h : FldOff P s f o) (ho : off + o = off') :
    RFldA P s (.pointer (some ⟨bb, off, none⟩)) f (.pointer (some ⟨bb, off', none⟩)) := .mk fun w => by
  obtain ⟨fs, fld, hs, hf, hz, he⟩ := h.out
  subst ho he
  unfold Instr.fieldAt
  cases hi : P.info? fld.type with
  | none => simp [hi] at hz
  | some i =>
    have h0 : i.size ≠ 0 := by simpa [hi] using hz
    have hadd : (⟨bb, off, none⟩ : Addr).add fld.offset = ⟨bb, off + fld.offset, none⟩ := by unfold Addr.add; split <;> simp_all
    simp [Sem.run_bind, run_underlying hs, hf, Instr.sureAddr, fieldPlace, sizeOf, typeInfo, hi, h0, hadd]

theorem r_ixs {elem m bb off off' len cap : Nat} (ht : P.underlying t = some (.slice elem)) (hm : (P.info? elem).map (·.size) = some m) (h0 : 0 ≤ a) (h1 : a < len) (ho : off + a.toNat * m = off') :
    RIdxA P t (.slice (some ⟨bb, off, none⟩) len cap) (.int k a) (.pointer (some ⟨bb, off', none⟩)) := .mk fun w => by
  subst ho
  cases hi : P.info? elem with
  | none => simp [hi] at hm
  | some i =>
    have h2 : i.size = m := by simpa [hi] using hm
    have hadd : ∀ q, (⟨bb, off, none⟩ : Addr).add q = ⟨bb, off + q, none⟩ := by intro q; unfold Addr.add; split <;> simp_all
    simp [Instr.indexAt, asIntOf, Sem.run_bind, run_underlying ht, h0, h1, sizeOf, typeInfo, hi, h2, hadd]

theorem r_ixa {elem m bb off off' len : Nat} (ht : P.underlying t = some (.array len elem)) (hm : (P.info? elem).map (·.size) = some m) (h0 : 0 ≤ a) (h1 : a < len) (ho : off + a.toNat * m = off') :
    RIdxA P t (.pointer (some ⟨bb, off, none⟩)) (.int k a) (.pointer (some ⟨bb, off', none⟩)) := .mk fun w => by
  subst ho
  cases hi : P.info? elem with
  | none => simp [hi] at hm
  | some i =>
    have h2 : i.size = m := by simpa [hi] using hm
    have hadd : ∀ q, (⟨bb, off, none⟩ : Addr).add q = ⟨bb, off + q, none⟩ := by intro q; unfold Addr.add; split <;> simp_all
    simp [Instr.indexAt, asIntOf, Sem.run_bind, run_underlying ht, h0, h1, Instr.sureAddr, sizeOf, typeInfo, hi, h2, hadd]

theorem r_ixv {elem len : Nat} {cs : Array Value} {v : Value} (ht : P.underlying t = some (.array len elem)) (hu : (P.underlying elem).isSome = true) (hg : aggB P elem = false) (hm : (P.info? elem).map (·.size) = some 1) (h0 : 0 ≤ a) (h1 : a < len) (hv : cs.toList[a.toNat]? = some v) :
    RIdx P t (.agg cs) (.int k a) v := .mk fun w => by
  cases hi : P.info? elem with
  | none => simp [hi] at hm
  | some i =>
    have h2 : i.size = 1 := by simpa [hi] using hm
    simp [Instr.index, asIntOf, Sem.run_bind, run_underlying ht, h0, h1, sizeOf, typeInfo, hi, h2, part, run_isAgg_of hu hg, show cs[a.toNat]? = some v by simpa using hv]

theorem r_ixstr {bs : ByteArray} {x : UInt8} (ht : P.underlying t = some .string) (h0 : 0 ≤ a) (hv : bs[a.toNat]? = some x) :
    RIdx P t (.string bs) (.int k a) (.int .u8 x.toNat) := .mk fun w => by
  simp [Instr.index, asIntOf, Sem.run_bind, run_underlying ht, h0, hv]

theorem r_field1 {fs : Array Field} {fld : Field} {f : Nat} {cs : Array Value} {v : Value} (hs : P.underlying s = some (.struct fs)) (hf : fs[f]? = some fld) (hu : (P.underlying fld.type).isSome = true) (hg : aggB P fld.type = false) (hv : cs.toList[fld.offset]? = some v) :
    RFld P s (.agg cs) f v := .mk fun w => by
  simp [Instr.field, asAgg, Sem.run_bind, run_underlying hs, hf, part, run_isAgg_of hu hg, show cs[fld.offset]? = some v by simpa using hv]

theorem r_len_slice {elem len cap : Nat} {x : Option Addr} (ht : P.underlying t = some (.slice elem)) {ty : TypeId} : Runs P (Builtin.len_ #[t] ty #[.slice x len cap]) (.int .i64 len) := .mk fun w => by
  simp [Builtin.len_, Sem.run_bind, run_underlying ht, goInt]
theorem r_len_slice_e {elem len cap : Nat} {e : Int} {x : Option Addr} (ht : P.underlying t = some (.slice elem)) {ty : TypeId} (he : (len : Int) = e) : Runs P (Builtin.len_ #[t] ty #[.slice x len cap]) (.int .i64 e) := he ▸ r_len_slice ht
theorem r_len_string {bs : ByteArray} (ht : P.underlying t = some .string) {ty : TypeId} : Runs P (Builtin.len_ #[t] ty #[.string bs]) (.int .i64 bs.size) := .mk fun w => by
  simp [Builtin.len_, Sem.run_bind, run_underlying ht, goInt]
theorem r_max {x : Array TypeId} {ty : TypeId} : Runs P (Builtin.max_ x ty #[.int k a, .int k b]) (.int k (max a b)) := .mk fun w => by
  have e : (if b > a then b else a) = max a b := by split <;> omega
  simp [Builtin.max_, Builtin.max2, e]
theorem r_min {x : Array TypeId} {ty : TypeId} : Runs P (Builtin.min_ x ty #[.int k a, .int k b]) (.int k (min a b)) := .mk fun w => by
  have e : (if b < a then b else a) = min a b := by split <;> omega
  simp [Builtin.min_, Builtin.min2, e]
end

/-! ### structs, compared -/
inductive EqF (P : Program) : Nat → Array Value → Array Value → List Field → Bool → Prop
  | nil {d xs ys} : EqF P d xs ys [] true
  | int {d xs ys f fs k k1 k2 a b r} : f.name ≠ "_" → P.underlying f.type = some (.int k) → xs.toList[f.offset]? = some (.int k1 a) → ys.toList[f.offset]? = some (.int k2 b) → k1 = k2 → EqF P (d + 1) xs ys fs r → EqF P (d + 1) xs ys (f :: fs) (decide (a = b) && r)
  | int1 {d xs ys f k k1 k2 a b} : f.name ≠ "_" → P.underlying f.type = some (.int k) → xs.toList[f.offset]? = some (.int k1 a) → ys.toList[f.offset]? = some (.int k2 b) → k1 = k2 → EqF P (d + 1) xs ys [f] (decide (a = b))
  | bool {d xs ys f fs a b r} : f.name ≠ "_" → P.underlying f.type = some .bool → xs.toList[f.offset]? = some (.bool a) → ys.toList[f.offset]? = some (.bool b) → EqF P (d + 1) xs ys fs r → EqF P (d + 1) xs ys (f :: fs) ((a == b) && r)
  | str {d xs ys f fs a b r} : f.name ≠ "_" → P.underlying f.type = some .string → xs.toList[f.offset]? = some (.string a) → ys.toList[f.offset]? = some (.string b) → EqF P (d + 1) xs ys fs r → EqF P (d + 1) xs ys (f :: fs) ((a.toList == b.toList) && r)
  | sub {d xs ys f fs fs' m xs' ys' r' r} : f.name ≠ "_" → P.underlying f.type = some (.struct fs') → P.stoodInHeld f.type = false → (P.info? f.type).map (·.size) = some m → (xs.toList.drop f.offset).take m = xs' → (ys.toList.drop f.offset).take m = ys' →
      EqF P d xs'.toArray ys'.toArray fs'.toList r' → EqF P (d + 1) xs ys fs r → EqF P (d + 1) xs ys (f :: fs) (r' && r)

section
variable {P : Program}
theorem part_one {t : TypeId} {d : TypeDesc} {xs : Array Value} {off : Nat} {v : Value} (hu : P.underlying t = some d) (hd : (match some d with | some (.struct _) | some (.array _ _) => true | _ => false) = false) (hv : xs.toList[off]? = some v) (w : World) : (part t xs off).run P w = .ok v w := by
  have hg : aggB P t = false := by unfold aggB; rw [hu]; exact hd
  have hv' : xs[off]? = some v := by simpa using hv
  simp [part, Sem.run_bind, run_isAgg_of (by rw [hu]; rfl) hg, hv']
theorem EqF.run {d : Nat} {xs ys : Array Value} {fs : List Field} {r : Bool} (h : EqF P d xs ys fs r) : ∀ w, (Op.eqFields d xs ys fs).run P w = .ok r w := by
  induction h with
  | nil => intro w; rfl
  | int hn hu hx hy hk _ ih =>
    intro w
    subst hk
    unfold Op.eqFields
    rw [if_pos hn, Sem.run_bind, part_one hu rfl hx, Result.andThen_ok, Sem.run_bind, part_one hu rfl hy, Result.andThen_ok, Sem.run_bind, run_equalIn_int w _ _ _ _ _ _ hu, Result.andThen_ok, beq_d]
    rename_i a b r _
    by_cases hab : a = b
    · simp [hab, ih w]
    · simp [hab]
  | int1 hn hu hx hy hk =>
    intro w
    subst hk
    unfold Op.eqFields
    rw [if_pos hn, Sem.run_bind, part_one hu rfl hx, Result.andThen_ok, Sem.run_bind, part_one hu rfl hy, Result.andThen_ok, Sem.run_bind, run_equalIn_int w _ _ _ _ _ _ hu, Result.andThen_ok, beq_d]
    rename_i a b
    by_cases hab : a = b
    · simp [hab, Op.eqFields]
    · simp [hab]
  | bool hn hu hx hy _ ih =>
    intro w
    unfold Op.eqFields
    rw [if_pos hn, Sem.run_bind, part_one hu rfl hx, Result.andThen_ok, Sem.run_bind, part_one hu rfl hy, Result.andThen_ok, Sem.run_bind, run_equalIn_bool' w _ _ _ _ hu, Result.andThen_ok]
    rename_i a b r _
    cases hab : (a == b)
    · simp
    · simp [ih w]
  | str hn hu hx hy _ ih =>
    intro w
    unfold Op.eqFields
    rw [if_pos hn, Sem.run_bind, part_one hu rfl hx, Result.andThen_ok, Sem.run_bind, part_one hu rfl hy, Result.andThen_ok, Sem.run_bind, run_equalIn_string w _ _ _ _ hu, Result.andThen_ok]
    rename_i a b r _
    cases hab : (a.toList == b.toList)
    · simp
    · simp [ih w]
  | @sub d xs ys f fs fs' m xs' ys' r' r hn hu hp hm hx hy _ _ ih1 ih2 =>
    intro w
    have hg : aggB P f.type = true := by unfold aggB; rw [hu]
    have hpart : ∀ (zs : Array Value) (zs' : List Value), (zs.toList.drop f.offset).take m = zs' → ∀ w, (part f.type zs f.offset).run P w = .ok (.agg zs'.toArray) w := by
      intro zs zs' hz w
      have : zs.extract f.offset (f.offset + m) = zs'.toArray := by subst hz; apply Array.ext'; simp
      simp [part, Sem.run_bind, run_isAgg_of (by rw [hu]; rfl) hg, run_sizeOf_of hm, this]
    unfold Op.eqFields
    rw [if_pos hn, Sem.run_bind, hpart _ _ hx, Result.andThen_ok, Sem.run_bind, hpart _ _ hy, Result.andThen_ok, Sem.run_bind]
    have hfo : P.fieldsOf f.type = fs' := by unfold Program.fieldsOf; rw [hu]
    rw [run_equalIn_agg w _ _ _ _ (by rw [hfo]; exact hu) hp, hfo, ih1, Result.andThen_ok]
    cases r'
    · simp
    · simp [ih2 w]
theorem rb_eql_agg {t : TypeId} {fs : Array Field} {xs ys : Array Value} {r : Bool} (ht : P.underlying t = some (.struct fs)) (hp : P.stoodInHeld t = false) (h : EqF P 9999 xs ys fs.toList r) : RBin P .eql t (.agg xs) (.agg ys) (.bool r) := .mk fun w => by
  have hfo : P.fieldsOf t = fs := by unfold Program.fieldsOf; rw [ht]
  rw [run_eql_struct, run_equalIn_agg w 9999 t xs ys (by rw [hfo]; exact ht) hp, hfo, h.run]; rfl
theorem rb_neq_agg {t : TypeId} {fs : Array Field} {xs ys : Array Value} {r : Bool} (ht : P.underlying t = some (.struct fs)) (hp : P.stoodInHeld t = false) (h : EqF P 9999 xs ys fs.toList r) : RBin P .neq t (.agg xs) (.agg ys) (.bool (!r)) := .mk fun w => by
  have hfo : P.fieldsOf t = fs := by unfold Program.fieldsOf; rw [ht]
  rw [run_neq_struct, run_equalIn_agg w 9999 t xs ys (by rw [hfo]; exact ht) hp, hfo, h.run]; rfl
end

section
variable {P : Program} {n : Nat} {l : List (Nat × Value)} {S : List Nat} {w0 : World} {L : List Blk} {K : Act → World → Prop} {k : Kont} {ops : Array Oper} {d : Tmp} {ty : TypeId} {pos : String} {af : Array Edge}

/-- a slice of given elements -/
theorem K1_buildSlice {xs : List (Nat × Operand)} {vs : List (Nat × Value)} (mk : List (Nat × Value) → List Value) {t e m : Nat} (hd : Nat.blt d n = true) (hx : evp l xs = some vs)
    (hr : ∀ w, (Instr.buildSlice t m vs.toArray).run P w = .ok (.slice (some ⟨w.heap.size, 0, none⟩) m m) (w.alloc (.cells (mk vs).toArray e)))
    (h : ∀ nb, w0.heap.size ≤ nb → G n ((d, .slice (some ⟨nb, 0, none⟩) m m) :: l) S w0 (⟨true, nb, .cells (mk vs).toArray e (0, 0)⟩ :: L) K) :
    G n l S w0 L (K1 P ops k ⟨some d, .buildSlice t m xs.toArray, ty, pos, af, none⟩ K) := .mk fun a w hf H => k1_want rfl <| by
    unfold Oper.wp execOp
    have e1 := hf.evalp hx
    simp only [List.map_toArray]
    rw [e1]
    simp only [Sem.run_bind, hr, Result.andThen_ok, Sem.run_pure]
    exact ((h _ H.size).out _ _ (hf.put (some d) _ hd) (H.alloc _))

theorem made_one (z : Value) (k : Nat) : madeCells #[z] k = (List.replicate k z).toArray := by
  unfold madeCells
  apply Array.ext'
  apply List.ext_getElem?
  intro i
  by_cases h : i < k
  · simp [h, Nat.mod_one]
  · simp [h]

/-- 'make' of a slice whose elements are one cell each -/
theorem run_makeSlice_one {t e bytes m : Nat} {i : TypeInfo} {z : Value} (ht : P.underlying t = some (.slice e)) (hi : P.info? e = some i) (hz : i.zero = some z) (hs : i.size = 1) (hb : i.bytes = bytes) (hzc : z.cells = #[z]) (hm : bytes * m ≤ 281474976710656)
    (h63 : m ≤ 9223372036854775807) (w : World) :
    (Instr.makeSlice t (.int .i64 m) (.int .i64 m)).run P w = .ok (.slice (some ⟨w.heap.size, 0, none⟩) m m) (w.alloc (.cells (List.replicate m z).toArray e)) := by
  have h := run_make (P := P) w t e i z ht hi hz .i64 .i64 m m (by omega) (by omega) (by rw [hb]; have : ((bytes * m : Nat) : Int) ≤ 281474976710656 := by omega
                                                                                         simpa using this) (by omega)
  rw [h, hs, hzc, Nat.mul_one, made_one]; simp

theorem K1_makeSlice {x y : Operand} {t e bytes m : Nat} {i : TypeInfo} {z : Value} (hd : Nat.blt d n = true) (hx : ev l x = some (.int .i64 m)) (hy : ev l y = some (.int .i64 m)) (ht : P.underlying t = some (.slice e)) (hi : P.info? e = some i) (hz : i.zero = some z) (hs : i.size = 1) (hb : i.bytes = bytes)
    (hzc : z.cells = #[z]) (hm : bytes * m ≤ 281474976710656) (h63 : m ≤ 9223372036854775807)
    (h : ∀ nb, w0.heap.size ≤ nb → G n ((d, .slice (some ⟨nb, 0, none⟩) m m) :: l) S w0 (⟨true, nb, .cells (List.replicate m z).toArray e (0, 0)⟩ :: L) K) :
    G n l S w0 L (K1 P ops k ⟨some d, .makeSlice t x y, ty, pos, af, none⟩ K) := .mk fun a w hf H => k1_want rfl <| by
    unfold Oper.wp execOp
    simp only [hf.eval hx, hf.eval hy, Sem.run_bind, run_makeSlice_one ht hi hz hs hb hzc hm h63, Result.andThen_ok, Sem.run_pure]
    exact ((h _ H.size).out _ _ (hf.put (some d) _ hd) (H.alloc _))
end
end Go.Proofs.Ytlfoiemjjalnlaa
