/- A long slice of noughts, and the text that it is. Conditions: each rule's own premises. -/
import Derived.Test.YtpdnigifoaoflaaDoorGb
namespace Go.Proofs.YtpdnigifoaoflaaDoor
open Go Go.RowKit
def zsL (m : Nat) : Array Value := (List.replicate m (Value.int .u8 0)).toArray
def zstr (m : Nat) : ByteArray := strOfNums (List.replicate m 0)
theorem zstr_size (m : Nat) : (zstr m).size = m := by
  unfold zstr strOfNums
  show (_ : Array UInt8).size = m
  simp
section
variable {P : Program} {n : Nat} {l : List (Nat × Value)} {S : List Nat} {w0 : World} {L : List Blk} {K : Act → World → Prop} {k : Kont} {ops : Array Oper} {d : Tmp} {ty : TypeId} {pos : String} {af : Array Edge}
theorem K1_makeZ {x y : Operand} {t e : TypeId} {m : Nat} {M : Int} {i : TypeInfo} {zc : Array Value} (hzc : zsL m = zc) (hM : M = (m : Int)) (hd : Nat.blt d n = true) (hx : ev l x = some (.int .i64 M)) (hy : ev l y = some (.int .i64 M)) (ht : P.underlying t = some (.slice e)) (hi : P.info? e = some i) (hz : i.zero = some (.int .u8 0)) (hs : i.size = 1) (hb : i.bytes = 1)
    (hm : m ≤ 2000000)
    (h : ∀ nb, w0.heap.size ≤ nb → G n ((d, .slice (some ⟨nb, 0, none⟩) m m) :: l) S w0 (⟨true, nb, .cells zc e (0, 0)⟩ :: L) K) :
    G n l S w0 L (K1 P ops k ⟨some d, .makeSlice t x y, ty, pos, af, none⟩ K) := by
  subst hM hzc
  exact K1_makeSlice (z := .int .u8 0) hd hx hy ht hi hz hs hb rfl (by omega) (by omega) h
theorem E_zstr {src dst e T : TypeId} {x : Operand} {m cap nb i : Nat} {fr : Nat × Nat} {q : Bool} {zc : Array Value} {z : ByteArray} (hzc : zsL m = zc) (hzs : zstr m = z) (hx : ev l x = some (.slice (some ⟨nb, 0, none⟩) m cap)) (hs : P.underlying src = some (.slice e)) (he : P.underlying e = some (.int .u8)) (hd : P.underlying dst = some .string)
    (hi : L[i]? = some ⟨q, nb, .cells zc T fr⟩) : ValOf P n l S w0 L ⟨some d, .convert src dst x, ty, pos, af, none⟩ (.string z) := by
  subst hzc hzs
  refine E_bytesStr (xs := List.replicate m 0) hx hs he hd (Sli.of hi ?_ ?_) rfl
  · unfold zsL; simp
  · unfold zsL u8l
    simp
end
end Go.Proofs.YtpdnigifoaoflaaDoor
