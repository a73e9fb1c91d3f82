/- Slices of structs: made, written into. Conditions: each rule's own premises. -/
import Derived.Test.YtlfoiemjjalnlaaGl4
namespace Go.Proofs.Ytlfoiemjjalnlaa
open Go Go.RowKit

theorem made_flat (zc : List Value) (n : Nat) : madeCells zc.toArray (n * zc.length) = (List.replicate n zc).flatten.toArray := by
  unfold madeCells
  apply Array.ext'
  rw [Array.toList_map, Array.toList_range]
  induction n with
  | zero => simp
  | succ n ih =>
    rw [Nat.add_mul, Nat.one_mul, List.range_add, List.map_append, ih, List.replicate_succ', List.flatten_append]
    congr 1
    simp only [List.map_map, List.flatten_cons, List.flatten_nil, List.append_nil]
    apply List.ext_getElem?
    intro i
    by_cases h : i < zc.length
    · simp [h, Nat.mod_eq_of_lt h]
    · simp [h]

theorem oc_int {k : IntKind} {a : Int} : (Value.int k a).oneCell' = true := rfl
theorem oc_bool {a : Bool} : (Value.bool a).oneCell' = true := rfl
theorem oc_str {a : ByteArray} : (Value.string a).oneCell' = true := rfl
theorem oc_ptr {a : Option Addr} : (Value.pointer a).oneCell' = true := rfl
theorem oc_sl {a : Option Addr} {n m : Nat} : (Value.slice a n m).oneCell' = true := rfl
theorem oc_map {a : Option Nat} : (Value.map a).oneCell' = true := rfl
/-- a piece of a list is written over -/
def splice (cs : List Value) (off : Nat) (vs : List Value) : List Value := cs.take off ++ vs ++ cs.drop (off + vs.length)
theorem splice_len {cs : List Value} {off : Nat} {vs : List Value} (h : off + vs.length ≤ cs.length) : (splice cs off vs).length = cs.length := by
  unfold splice; simp; omega

section
variable {P : Program} {n : Nat} {l : List (Nat × Value)} {S : List Nat} {w0 : World} {L : List Blk} {K : Act → World → Prop} {k : Kont} {ops : Array Oper} {d : Tmp} {ty : TypeId} {pos : String} {af : Array Edge}

theorem K1_makeSliceN {x y : Operand} {t e bytes m : Nat} {i : TypeInfo} {z : Value} {zc : List Value} (hd : Nat.blt d n = true) (hx : ev l x = some (.int .i64 m)) (hy : ev l y = some (.int .i64 m)) (ht : P.underlying t = some (.slice e)) (hi : P.info? e = some i) (hz : i.zero = some z) (hs : i.size = zc.length) (hb : i.bytes = bytes)
    (hzc : z.cells = zc.toArray) (hm : bytes * m ≤ 281474976710656) (h63 : m ≤ 9223372036854775807)
    (h : ∀ nb, w0.heap.size ≤ nb → G n ((d, .slice (some ⟨nb, 0, none⟩) m m) :: l) S w0 (⟨true, nb, .cells (List.replicate m zc).flatten.toArray e (0, 0)⟩ :: L) K) :
    G n l S w0 L (K1 P ops k ⟨some d, .makeSlice t x y, ty, pos, af, none⟩ K) := .mk fun a w hf H => k1_want rfl <| by
    have hmb : (i.bytes : Int) * (m : Int) ≤ 281474976710656 := by
      have e1 : ((bytes * m : Nat) : Int) = (bytes : Int) * (m : Int) := Int.natCast_mul _ _
      rw [hb, ← e1]; omega
    have hr := run_make (P := P) w t e i z ht hi hz .i64 .i64 m m (by omega) (by omega) hmb (by omega)
    rw [hs, hzc, Int.toNat_natCast, made_flat] at hr
    unfold Oper.wp execOp
    simp only [hf.eval hx, hf.eval hy, Sem.run_bind, hr, Result.andThen_ok, Sem.run_pure]
    exact ((h _ H.size).out _ _ (hf.put (some d) _ hd) (H.alloc _))

theorem K1_storeN {i : Nat} {t : TypeId} {x y : Operand} {b off m : Nat} {cs vs : List Value} {T : TypeId} (hx : ev l x = some (.pointer (some ⟨b, off, none⟩))) (hy : ev l y = some (.agg vs.toArray))
    (hi : L[i]? = some ⟨true, b, .cells cs.toArray T (0, 0)⟩) (hm : (P.info? t).map (·.size) = some m) (hvn : vs.length = m) (hone : vs.all (·.oneCell') = true) (hle : off + m ≤ cs.length)
    (h : G n l S w0 (L.set i ⟨true, b, .cells (splice cs off vs).toArray T (0, 0)⟩) K) : G n l S w0 L (K1 P ops k ⟨none, .store t x y, ty, pos, af, none⟩ K) :=
  K1_of_wp rfl (fun _ _ _ hf H hK => wp_store H i (.agg vs.toArray) (splice cs off vs).toArray rfl (hf.eval hx) (hf.eval hy) hi hm (by simpa [Value.cells] using hvn) hone (by simpa using hle) (by subst hvn; simp [Value.cells, splice]) (fun w' H' => hK _ w' hf H')) h
end
end Go.Proofs.Ytlfoiemjjalnlaa
