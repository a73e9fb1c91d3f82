/- A slice made with room but no elements; what a slice of the call's own is. Conditions: each rule's own premises. -/
import Derived.Test.YtlfoiemjjalnlaaGmg
namespace Go.Proofs.Ytlfoiemjjalnlaa
open Go Go.RowKit
section
variable {P : Program} {n : Nat} {l : List (Nat × Value)} {S : List Nat} {w0 : World} {L : List Blk} {K : Act → World → Prop} {k : Kont} {ops : Array Oper} {d : Tmp} {ty : TypeId} {pos : String} {af : Array Edge}
theorem K1_makeSlice0 {x y : Operand} {t e bytes m : Nat} {i : TypeInfo} {z : Value} {zc : List Value} (hd : Nat.blt d n = true) (hx : ev l x = some (.int .i64 0)) (hy : ev l y = some (.int .i64 m)) (ht : P.underlying t = some (.slice e)) (hi : P.info? e = some i) (hz : i.zero = some z) (hs : i.size = zc.length) (hb : i.bytes = bytes)
    (hzc : z.cells = zc.toArray) (hm : bytes * m ≤ 281474976710656) (h63 : m ≤ maxLen)
    (h : ∀ v eA, Own e zc.length v 0 [] eA → G n ((d, v) :: l) S w0 (eA ++ L) K) :
    G n l S w0 L (K1 P ops k ⟨some d, .makeSlice t x y, ty, pos, af, none⟩ K) := .mk fun a w hf H => k1_want rfl <| by
    have h64 : m ≤ 9223372036854775807 := by unfold maxLen at h63; omega
    have hmb : (i.bytes : Int) * (m : Int) ≤ 281474976710656 := by
      have e1 : ((bytes * m : Nat) : Int) = (bytes : Int) * (m : Int) := Int.natCast_mul _ _
      rw [hb, ← e1]; omega
    have hr := run_make (P := P) w t e i z ht hi hz .i64 .i64 0 m (by omega) (by omega) hmb (by omega)
    rw [hs, hzc, Int.toNat_natCast, made_flat] at hr
    unfold Oper.wp execOp
    simp only [hf.eval hx, hf.eval hy, Sem.run_bind, hr, Result.andThen_ok, Sem.run_pure]
    have ho := Own.of_block (E := e) (size := zc.length) (g := w.heap.size) (n := 0) (cap := m) (cur := (List.replicate m zc).flatten.toArray) (Nat.zero_le _) h63 (by simp)
    rw [Nat.zero_mul, List.take_zero] at ho
    exact ((h _ [⟨true, w.heap.size, .cells (List.replicate m zc).flatten.toArray e (0, 0)⟩] ho).out _ _ (hf.put (some d) _ hd) (H.alloc _))
theorem E_lenB {t key elem : TypeId} {x : Operand} {i b : Nat} {kvs : List (Value × Value)} (hx : ev l x = some (.map (some b))) (hi : L[i]? = some (mapB b kvs)) (ht : P.underlying t = some (.map key elem)) :
    ValOf P n l S w0 L ⟨some d, .call { callee := .builtin .len, args := #[x], argTypes := #[t] }, ty, pos, af, none⟩ (.int .i64 kvs.length) := by
  have h := E_lenG (P := P) (n := n) (S := S) (w0 := w0) (d := d) (ty := ty) (pos := pos) (af := af) (es := mkE kvs 0) (c := kvs.length) hx hi ht
  rwa [mkE_len] at h
end
/-- a slice of the call's own: nil, or one block -/
theorem own_cases {E size : Nat} {v : Value} {n : Nat} {xs : List Value} {e : List Blk} (h : Own E size v n xs e) :
    (v = .slice none 0 0 ∧ n = 0 ∧ xs = [] ∧ e = []) ∨ ∃ g cap cur, v = .slice (some ⟨g, 0, none⟩) n cap ∧ e = [⟨true, g, .cells cur E (0, 0)⟩] ∧ n ≤ cap ∧ cap ≤ maxLen ∧ cur.size = cap * size ∧ cur.toList.take (n * size) = xs := by
  obtain ⟨h1, h | h⟩ := h
  · obtain ⟨a, b, c⟩ := h
    subst b
    rw [Nat.zero_mul] at h1
    exact .inl ⟨a, rfl, List.eq_nil_of_length_eq_zero h1, c⟩
  · exact .inr h
theorem own_mk {E size n g cap : Nat} {cur : Array Value} {xs : List Value} (h1 : n ≤ cap) (h2 : cap ≤ maxLen) (h3 : cur.size = cap * size) (h4 : cur.toList.take (n * size) = xs) :
    Own E size (.slice (some ⟨g, 0, none⟩) n cap) n xs [⟨true, g, .cells cur E (0, 0)⟩] := by subst h4; exact Own.of_block h1 h2 h3
end Go.Proofs.Ytlfoiemjjalnlaa
