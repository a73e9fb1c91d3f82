/- Slices cut, bytes as texts, for the logic of walks. Conditions: each rule's own premises. -/
import Derived.Test.YtlfoiemjjalnlaaGl8
import Derived.Laws.BytesArg
namespace Go.Proofs.Ytlfoiemjjalnlaa
open Go Go.RowKit
/-- a loop that is left in its first round -/
theorem G_loop1 {P : Program} {n : Nat} {l : List (Nat × Value)} {S : List Nat} {w0 : World} {L : List Blk} {k : Kont} {c : Code} (h : G n l S w0 L (KC P c (.cut (fun _ _ => False) k))) : G n l S w0 L (KC P (.loop c) k) := by
  refine .mk fun a w hf H => ⟨?_⟩
  intro b k' cs
  obtain ⟨e, a₁, w₁, hq, harr⟩ := ((h.out a w hf H).out) b (.inLoop c :: k') cs
  have key : ∃ e a' w', k.den P e a' w' ∧ Arrives P (lone (b.at a (.code c :: .inLoop c :: k')) cs w) b k' cs e a' w' := by
    cases e with
    | normal => exact hq.elim
    | exit id => exact ⟨_, a₁, w₁, hq, .pass (x := .inLoop c) rfl (fun _ _ => .inl (by simp)) harr⟩
    | goto l => exact ⟨_, a₁, w₁, hq, .pass (x := .inLoop c) rfl (fun _ _ => .inl (by simp)) harr⟩
    | ret => exact ⟨_, a₁, w₁, hq, .pass (x := .inLoop c) rfl (fun _ _ => .inl (by simp)) harr⟩
    | panic ch => exact ⟨_, a₁, w₁, hq, .pass (x := .inLoop c) rfl (fun _ _ => .inl (by simp)) harr⟩
    | outgrown => exact ⟨_, a₁, w₁, hq, .pass (x := .inLoop c) rfl (fun _ _ => .inl (by simp)) harr⟩
  obtain ⟨e, a', w', hq, harr⟩ := key
  exact ⟨e, a', w', hq, .of_steps (.one step_loop) harr⟩
/-- where a slice begins that is cut at its lower end -/
def slO (a : Option Addr) (lo cap m : Nat) : Option Addr := if cap = lo then a else a.map (·.add (lo * m))
theorem Sli.cut {L : List Blk} {a : Option Addr} {len cap m lo hi : Nat} {cells : List Value} (h : Sli L a len m cells) (h1 : lo ≤ hi) (h2 : hi ≤ len) (h3 : len ≤ cap) : Sli L (slO a lo cap m) (hi - lo) m ((cells.drop (lo * m)).take ((hi - lo) * m)) := by
  have hlen := h.1
  have e1 : lo * m + (hi - lo) * m = hi * m := by rw [← Nat.add_mul]; congr 1; omega
  have e2 : hi * m ≤ len * m := Nat.mul_le_mul_right _ h2
  refine ⟨by rw [List.length_take, List.length_drop, hlen]; omega, ?_⟩
  by_cases hz : hi - lo = 0
  · exact .inl hz
  · rcases h.2 with h0 | ⟨i, q, b, off, cs, T, fr, rfl, hi', hsz, htk⟩
    · omega
    · refine .inr ⟨i, q, b, off + lo * m, cs, T, fr, ?_, hi', by omega, ?_⟩
      · unfold slO
        rw [if_neg (by omega), Option.map_some]
        congr 1
        unfold Addr.add; split <;> simp_all
      · subst htk
        rw [List.drop_take, List.drop_drop, List.take_take, Nat.min_eq_left (by omega)]
section
variable {P : Program} {t s : TypeId}
theorem r_slg {elem m len cap l' h' : Nat} {a : Option Addr} {lo hi : Option Value} (ht : P.underlying t = some (.slice elem)) (hm : (P.info? elem).map (·.size) = some m)
    (hb : ∀ w, (Instr.sliceBounds true len cap lo hi none).run P w = .ok (l', h', cap) w) : RSlc P t (.slice a len cap) lo hi none (.slice (slO a l' cap m) (h' - l') (cap - l')) := .mk fun w => by
  cases hi' : P.info? elem with
  | none => simp [hi'] at hm
  | some i =>
    have h2 : i.size = m := by simpa [hi'] using hm
    simp [Instr.sliceAt, Instr.slice, Sem.run_bind, run_underlying ht, hb, sizeOf, typeInfo, hi', h2, slO]
end
def u8l (l : List Int) : List Value := l.map (Value.int .u8)
theorem u8l_len (l : List Int) : (u8l l).length = l.length := List.length_map ..
section
variable {P : Program} {n : Nat} {l : List (Nat × Value)} {S : List Nat} {w0 : World} {L : List Blk} {d : Tmp} {ty : TypeId} {pos : String} {af : Array Edge}
theorem E_bytesStr {src dst e : TypeId} {x : Operand} {a : Option Addr} {len cap : Nat} {xs : List Int} {z : ByteArray} (hx : ev l x = some (.slice a len cap)) (hs : P.underlying src = some (.slice e)) (he : P.underlying e = some (.int .u8)) (hd : P.underlying dst = some .string) (hsl : Sli L a len 1 (u8l xs))
    (hz : strOfNums xs = z) : ValOf P n l S w0 L ⟨some d, .convert src dst x, ty, pos, af, none⟩ (.string z) :=
  ⟨fun act w hF H => by
    subst hz
    have hxl : xs.length = len := by have := hsl.1; rw [u8l_len] at this; omega
    have hr : (convert src dst (.slice a len cap)).run P w = .ok (.string (strOfNums xs)) w := by
      rcases hsl.2 with h0 | ⟨i, q, b, off, cs, T, fr, rfl, hi, hsz, htk⟩
      · have hnil : xs = [] := List.eq_nil_of_length_eq_zero (by omega)
        subst hnil
        cases a with
        | none => exact run_convert_bytes_nil w src e hs he len cap dst hd
        | some p =>
          obtain ⟨b, off, spot⟩ := p
          subst h0
          rw [run_convert_bytes_string w src dst e _ 0 cap hs he hd, run_bytesToString w _ 0 cap [] rfl]; rfl
      · exact run_convert_bytes_arg w src e hs he b off len cap xs hxl (fun j hj => by
          rw [cell_at H i hi]
          have := congrArg (fun l => l[j]?) htk
          simp only [List.getElem?_take, List.getElem?_drop, u8l, List.getElem?_map] at this
          rw [if_pos (by omega)] at this
          rw [List.getD_eq_getElem?_getD]
          have hj' : j < xs.length := by omega
          rw [List.getElem?_eq_getElem hj'] at this ⊢
          simpa using this) dst hd
    simp only [execOp, hF.eval hx, Sem.run_bind, hr, Result.andThen_ok, Sem.run_pure]⟩
end
end Go.Proofs.Ytlfoiemjjalnlaa
