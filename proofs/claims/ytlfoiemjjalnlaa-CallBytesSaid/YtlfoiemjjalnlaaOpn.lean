/- Arguments that came in: structs, arrays and slices of them, as lists of what they hold, and the blocks that are read. Conditions: each lemma's own premises. -/
import Derived.Test.YtlfoiemjjalnlaaGl6
import Derived.Test.YtlfoiemjjalnlaaKit3
namespace Go.Proofs.Ytlfoiemjjalnlaa
open Go Go.RowKit
theorem lst_1 {cs : List Value} (h : cs.length = 1) : ∃ c0, cs = [c0] := by
  match cs, h with
  | [_], _ => exact ⟨_, rfl⟩
theorem lst_2 {cs : List Value} (h : cs.length = 2) : ∃ c0 c1, cs = [c0, c1] := by
  match cs, h with
  | [_, _], _ => exact ⟨_, _, rfl⟩
theorem lst_3 {cs : List Value} (h : cs.length = 3) : ∃ c0 c1 c2, cs = [c0, c1, c2] := by
  match cs, h with
  | [_, _, _], _ => exact ⟨_, _, _, rfl⟩
theorem lst_4 {cs : List Value} (h : cs.length = 4) : ∃ c0 c1 c2 c3, cs = [c0, c1, c2, c3] := by
  match cs, h with
  | [_, _, _, _], _ => exact ⟨_, _, _, _, rfl⟩
theorem lst_5 {cs : List Value} (h : cs.length = 5) : ∃ c0 c1 c2 c3 c4, cs = [c0, c1, c2, c3, c4] := by
  match cs, h with
  | [_, _, _, _, _], _ => exact ⟨_, _, _, _, _, rfl⟩
theorem lst_6 {cs : List Value} (h : cs.length = 6) : ∃ c0 c1 c2 c3 c4 c5, cs = [c0, c1, c2, c3, c4, c5] := by
  match cs, h with
  | [_, _, _, _, _, _], _ => exact ⟨_, _, _, _, _, _, rfl⟩
theorem lst_7 {cs : List Value} (h : cs.length = 7) : ∃ c0 c1 c2 c3 c4 c5 c6, cs = [c0, c1, c2, c3, c4, c5, c6] := by
  match cs, h with
  | [_, _, _, _, _, _, _], _ => exact ⟨_, _, _, _, _, _, _, rfl⟩
theorem lst_8 {cs : List Value} (h : cs.length = 8) : ∃ c0 c1 c2 c3 c4 c5 c6 c7, cs = [c0, c1, c2, c3, c4, c5, c6, c7] := by
  match cs, h with
  | [_, _, _, _, _, _, _, _], _ => exact ⟨_, _, _, _, _, _, _, _, rfl⟩
theorem lst_9 {cs : List Value} (h : cs.length = 9) : ∃ c0 c1 c2 c3 c4 c5 c6 c7 c8, cs = [c0, c1, c2, c3, c4, c5, c6, c7, c8] := by
  match cs, h with
  | [_, _, _, _, _, _, _, _, _], _ => exact ⟨_, _, _, _, _, _, _, _, _, rfl⟩
theorem lst_10 {cs : List Value} (h : cs.length = 10) : ∃ c0 c1 c2 c3 c4 c5 c6 c7 c8 c9, cs = [c0, c1, c2, c3, c4, c5, c6, c7, c8, c9] := by
  match cs, h with
  | [_, _, _, _, _, _, _, _, _, _], _ => exact ⟨_, _, _, _, _, _, _, _, _, _, rfl⟩
theorem lst_11 {cs : List Value} (h : cs.length = 11) : ∃ c0 c1 c2 c3 c4 c5 c6 c7 c8 c9 c10, cs = [c0, c1, c2, c3, c4, c5, c6, c7, c8, c9, c10] := by
  match cs, h with
  | [_, _, _, _, _, _, _, _, _, _, _], _ => exact ⟨_, _, _, _, _, _, _, _, _, _, _, rfl⟩
theorem lst_12 {cs : List Value} (h : cs.length = 12) : ∃ c0 c1 c2 c3 c4 c5 c6 c7 c8 c9 c10 c11, cs = [c0, c1, c2, c3, c4, c5, c6, c7, c8, c9, c10, c11] := by
  match cs, h with
  | [_, _, _, _, _, _, _, _, _, _, _, _], _ => exact ⟨_, _, _, _, _, _, _, _, _, _, _, _, rfl⟩
theorem lst_13 {cs : List Value} (h : cs.length = 13) : ∃ c0 c1 c2 c3 c4 c5 c6 c7 c8 c9 c10 c11 c12, cs = [c0, c1, c2, c3, c4, c5, c6, c7, c8, c9, c10, c11, c12] := by
  match cs, h with
  | [_, _, _, _, _, _, _, _, _, _, _, _, _], _ => exact ⟨_, _, _, _, _, _, _, _, _, _, _, _, _, rfl⟩
theorem lst_14 {cs : List Value} (h : cs.length = 14) : ∃ c0 c1 c2 c3 c4 c5 c6 c7 c8 c9 c10 c11 c12 c13, cs = [c0, c1, c2, c3, c4, c5, c6, c7, c8, c9, c10, c11, c12, c13] := by
  match cs, h with
  | [_, _, _, _, _, _, _, _, _, _, _, _, _, _], _ => exact ⟨_, _, _, _, _, _, _, _, _, _, _, _, _, _, rfl⟩
theorem lst_15 {cs : List Value} (h : cs.length = 15) : ∃ c0 c1 c2 c3 c4 c5 c6 c7 c8 c9 c10 c11 c12 c13 c14, cs = [c0, c1, c2, c3, c4, c5, c6, c7, c8, c9, c10, c11, c12, c13, c14] := by
  match cs, h with
  | [_, _, _, _, _, _, _, _, _, _, _, _, _, _, _], _ => exact ⟨_, _, _, _, _, _, _, _, _, _, _, _, _, _, _, rfl⟩
theorem lst_16 {cs : List Value} (h : cs.length = 16) : ∃ c0 c1 c2 c3 c4 c5 c6 c7 c8 c9 c10 c11 c12 c13 c14 c15, cs = [c0, c1, c2, c3, c4, c5, c6, c7, c8, c9, c10, c11, c12, c13, c14, c15] := by
  match cs, h with
  | [_, _, _, _, _, _, _, _, _, _, _, _, _, _, _, _], _ => exact ⟨_, _, _, _, _, _, _, _, _, _, _, _, _, _, _, _, rfl⟩
theorem lst_17 {cs : List Value} (h : cs.length = 17) : ∃ c0 c1 c2 c3 c4 c5 c6 c7 c8 c9 c10 c11 c12 c13 c14 c15 c16, cs = [c0, c1, c2, c3, c4, c5, c6, c7, c8, c9, c10, c11, c12, c13, c14, c15, c16] := by
  match cs, h with
  | [_, _, _, _, _, _, _, _, _, _, _, _, _, _, _, _, _], _ => exact ⟨_, _, _, _, _, _, _, _, _, _, _, _, _, _, _, _, _, rfl⟩
theorem lst_18 {cs : List Value} (h : cs.length = 18) : ∃ c0 c1 c2 c3 c4 c5 c6 c7 c8 c9 c10 c11 c12 c13 c14 c15 c16 c17, cs = [c0, c1, c2, c3, c4, c5, c6, c7, c8, c9, c10, c11, c12, c13, c14, c15, c16, c17] := by
  match cs, h with
  | [_, _, _, _, _, _, _, _, _, _, _, _, _, _, _, _, _, _], _ => exact ⟨_, _, _, _, _, _, _, _, _, _, _, _, _, _, _, _, _, _, rfl⟩
theorem lst_19 {cs : List Value} (h : cs.length = 19) : ∃ c0 c1 c2 c3 c4 c5 c6 c7 c8 c9 c10 c11 c12 c13 c14 c15 c16 c17 c18, cs = [c0, c1, c2, c3, c4, c5, c6, c7, c8, c9, c10, c11, c12, c13, c14, c15, c16, c17, c18] := by
  match cs, h with
  | [_, _, _, _, _, _, _, _, _, _, _, _, _, _, _, _, _, _, _], _ => exact ⟨_, _, _, _, _, _, _, _, _, _, _, _, _, _, _, _, _, _, _, rfl⟩
theorem lst_20 {cs : List Value} (h : cs.length = 20) : ∃ c0 c1 c2 c3 c4 c5 c6 c7 c8 c9 c10 c11 c12 c13 c14 c15 c16 c17 c18 c19, cs = [c0, c1, c2, c3, c4, c5, c6, c7, c8, c9, c10, c11, c12, c13, c14, c15, c16, c17, c18, c19] := by
  match cs, h with
  | [_, _, _, _, _, _, _, _, _, _, _, _, _, _, _, _, _, _, _, _], _ => exact ⟨_, _, _, _, _, _, _, _, _, _, _, _, _, _, _, _, _, _, _, _, rfl⟩
theorem lst_21 {cs : List Value} (h : cs.length = 21) : ∃ c0 c1 c2 c3 c4 c5 c6 c7 c8 c9 c10 c11 c12 c13 c14 c15 c16 c17 c18 c19 c20, cs = [c0, c1, c2, c3, c4, c5, c6, c7, c8, c9, c10, c11, c12, c13, c14, c15, c16, c17, c18, c19, c20] := by
  match cs, h with
  | [_, _, _, _, _, _, _, _, _, _, _, _, _, _, _, _, _, _, _, _, _], _ => exact ⟨_, _, _, _, _, _, _, _, _, _, _, _, _, _, _, _, _, _, _, _, _, rfl⟩
theorem lst_22 {cs : List Value} (h : cs.length = 22) : ∃ c0 c1 c2 c3 c4 c5 c6 c7 c8 c9 c10 c11 c12 c13 c14 c15 c16 c17 c18 c19 c20 c21, cs = [c0, c1, c2, c3, c4, c5, c6, c7, c8, c9, c10, c11, c12, c13, c14, c15, c16, c17, c18, c19, c20, c21] := by
  match cs, h with
  | [_, _, _, _, _, _, _, _, _, _, _, _, _, _, _, _, _, _, _, _, _, _], _ => exact ⟨_, _, _, _, _, _, _, _, _, _, _, _, _, _, _, _, _, _, _, _, _, _, rfl⟩
theorem lst_23 {cs : List Value} (h : cs.length = 23) : ∃ c0 c1 c2 c3 c4 c5 c6 c7 c8 c9 c10 c11 c12 c13 c14 c15 c16 c17 c18 c19 c20 c21 c22, cs = [c0, c1, c2, c3, c4, c5, c6, c7, c8, c9, c10, c11, c12, c13, c14, c15, c16, c17, c18, c19, c20, c21, c22] := by
  match cs, h with
  | [_, _, _, _, _, _, _, _, _, _, _, _, _, _, _, _, _, _, _, _, _, _, _], _ => exact ⟨_, _, _, _, _, _, _, _, _, _, _, _, _, _, _, _, _, _, _, _, _, _, _, rfl⟩
theorem lst_24 {cs : List Value} (h : cs.length = 24) : ∃ c0 c1 c2 c3 c4 c5 c6 c7 c8 c9 c10 c11 c12 c13 c14 c15 c16 c17 c18 c19 c20 c21 c22 c23, cs = [c0, c1, c2, c3, c4, c5, c6, c7, c8, c9, c10, c11, c12, c13, c14, c15, c16, c17, c18, c19, c20, c21, c22, c23] := by
  match cs, h with
  | [_, _, _, _, _, _, _, _, _, _, _, _, _, _, _, _, _, _, _, _, _, _, _, _], _ => exact ⟨_, _, _, _, _, _, _, _, _, _, _, _, _, _, _, _, _, _, _, _, _, _, _, _, rfl⟩
section
variable {H : Type} {enc : TypeId × Value → H} {P : Program} {w : World} {base : Nat} {spare : Nat → Bool} {held : Bool}
theorem trod_elems {n : Nat} {t e : TypeId} {fuel : Nat} {cs : List Value} {x : DataW H × List MemPlace} (ht : P.underlying t = some (.array n e)) (h : DataW.trod enc P w base spare held fuel t cs = some x) :
    ∃ m, fuel = m + 1 ∧ cs.length = P.cellsOf t ∧ ∀ i, i < n → ∃ y, DataW.trod enc P w base spare held m e ((cs.drop (i * P.cellsOf e)).take (P.cellsOf e)) = some y := by
  obtain ⟨xs, m, h1, _, h3, h4, h5⟩ := DataW.trod_array ht h
  exact ⟨m, h1, h3, fun i hi => ⟨xs[i]'(by omega), by rw [h5 i hi]; exact List.getElem?_eq_getElem (by omega)⟩⟩
theorem trod_slice_cell {t e : TypeId} {fuel : Nat} {c : Value} {y : DataW H × List MemPlace} (ht : P.underlying t = some (.slice e)) (h : DataW.trod enc P w base spare held fuel t [c] = some y) : ∃ a len cap, c = .slice a len cap := by
  cases fuel with
  | zero => simp [DataW.trod] at h
  | succ f =>
    unfold DataW.trod at h
    rw [ht] at h
    cases c <;> simp_all
theorem trod_int_any {t : TypeId} {k : IntKind} {fuel : Nat} {cs : List Value} {y : DataW H × List MemPlace} (ht : P.underlying t = some (.int k)) (h : DataW.trod enc P w base spare held fuel t cs = some y) : ∃ n, cs = [.int k n] ∧ (Lit.int k n).wf = true := by
  have hc : ∃ c, cs = [c] := by
    cases fuel with
    | zero => simp [DataW.trod] at h
    | succ f =>
      unfold DataW.trod at h
      rw [ht] at h
      match cs, h with
      | [c], _ => exact ⟨c, rfl⟩
      | [], h => simp at h
      | _ :: _ :: _, h => simp at h
  obtain ⟨c, rfl⟩ := hc
  obtain ⟨n, rfl, hw⟩ := trod_int_cell ht h
  exact ⟨n, rfl, hw⟩
theorem trod_str_any {t : TypeId} {fuel : Nat} {cs : List Value} {y : DataW H × List MemPlace} (ht : P.underlying t = some .string) (h : DataW.trod enc P w base spare held fuel t cs = some y) : ∃ s, cs = [.string s] ∧ s.size ≤ maxLen := by
  have hc : ∃ c, cs = [c] := by
    cases fuel with
    | zero => simp [DataW.trod] at h
    | succ f =>
      unfold DataW.trod at h
      rw [ht] at h
      match cs, h with
      | [c], _ => exact ⟨c, rfl⟩
      | [], h => simp at h
      | _ :: _ :: _, h => simp at h
  obtain ⟨c, rfl⟩ := hc
  obtain ⟨n, rfl, hw⟩ := trod_string_cell ht h
  exact ⟨n, rfl, hw⟩
/-- blocks that are read alone -/
def ROnly (w : World) (B : List Blk) : Prop := ∀ p ∈ B, p.wr = false ∧ w.heap[p.b]? = some p.o
theorem ROnly.nil {w : World} : ROnly w [] := by simp [ROnly]
theorem ROnly.app {w : World} {B C : List Blk} (h : ROnly w B) (h2 : ROnly w C) : ROnly w (B ++ C) := fun p hp => by
  rcases List.mem_append.1 hp with hp | hp
  · exact h p hp
  · exact h2 p hp
theorem HP.ro {w : World} {B : List Blk} (h : ROnly w B) : HP [] w w B := HP.read h
theorem Sli.app {L M : List Blk} {a : Option Addr} {len size : Nat} {cells : List Value} (h : Sli L a len size cells) : Sli (L ++ M) a len size cells := h.left
/-- a slice whose elements are told by a predicate -/
theorem slice_list {X : Type} {cells : X → List Value} {ok : X → Prop} {t e : TypeId} {sz fuel : Nat} {a : Option Addr} {len cap : Nat} {x : DataW H × List MemPlace} (ht : P.underlying t = some (.slice e)) (hsz : P.cellsOf e = sz) (h0 : 0 < sz)
    (hcl : ∀ x, ok x → (cells x).length = sz) (hel : ∀ n cs y, DataW.trod enc P w base spare held n e cs = some y → ∃ x, cs = cells x ∧ ok x) (h : DataW.trod enc P w base spare held fuel t [.slice a len cap] = some x) :
    ∃ (l : List X) (B : List Blk), l.length = len ∧ (∀ x ∈ l, ok x) ∧ Sli B a len sz (l.flatMap cells) ∧ ROnly w B ∧ len ≤ maxLen ∧ len ≤ cap ∧ cap ≤ maxLen := by
  by_cases hl : 0 < len
  · obtain ⟨b, off, acs, T, fr, n, rfl, hb, h1, h2, hall⟩ := slice_block ht hsz h0 h hl
    have key : ∀ m, m ≤ len → ∃ l : List X, l.length = m ∧ (∀ x ∈ l, ok x) ∧ (acs.toList.drop off).take (m * sz) = l.flatMap cells := by
      intro m
      induction m with
      | zero => intro _; exact ⟨[], rfl, by simp, by simp⟩
      | succ m ih =>
        intro hm
        obtain ⟨l, e1, e2, e3⟩ := ih (by omega)
        obtain ⟨cs, y, hc1, hc2, hc3, hc4⟩ := hall m (by omega)
        obtain ⟨x, rfl, hx⟩ := hel _ _ _ hc2
        refine ⟨l ++ [x], by simp [e1], ?_, ?_⟩
        · intro z hz
          rcases List.mem_append.1 hz with hz | hz
          · exact e2 z hz
          · rw [List.mem_singleton.1 hz]; exact hx
        · rw [List.flatMap_append, ← e3, Nat.add_mul, Nat.one_mul, List.take_add, List.drop_drop]
          congr 1
          have := congrArg Array.toList hc4
          simp only [Array.toList_extract, List.extract_eq_take_drop] at this
          rw [Nat.add_sub_cancel_left] at this
          simpa using this
    obtain ⟨l, e1, e2, e3⟩ := key len (Nat.le_refl _)
    obtain ⟨_, _, _, _, hc3, _⟩ := hall (len - 1) (by omega)
    have hmul : (len - 1) * sz + sz = len * sz := by
      obtain ⟨q, rfl⟩ : ∃ q, len = q + 1 := ⟨len - 1, by omega⟩
      rw [Nat.add_sub_cancel, Nat.add_mul, Nat.one_mul]
    refine ⟨l, [⟨false, b, .cells acs T fr⟩], e1, e2, Sli.of (i := 0) rfl (by omega) e3, ?_, by omega, by omega, by omega⟩
    intro p hp
    rw [List.mem_singleton.1 hp]
    exact ⟨rfl, hb⟩
  · rcases trod_slice ht h with ⟨rfl, rfl, rfl⟩ | ⟨p, n, rfl, _, h2, h3, _⟩
    · exact ⟨[], [], rfl, by simp, ⟨by simp, .inl rfl⟩, ROnly.nil, by omega, by omega, by omega⟩
    · obtain rfl : len = 0 := by omega
      exact ⟨[], [], rfl, by simp, ⟨by simp, .inl rfl⟩, ROnly.nil, by omega, by omega, by omega⟩
end
end Go.Proofs.Ytlfoiemjjalnlaa
