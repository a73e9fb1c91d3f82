/- Results of calls that came in: a struct with bytes in it; how many they can be. -/
import Derived.Test.YtbldkodegdanbaaOpnL
import Derived.Test.YtbldkodegdanbaaLawL2
import Derived.SizedLaws
namespace Go.Proofs.Ytbldkodegdanbaa
open Go Go.RowKit
theorem field_slice_len {H : Type} {enc : TypeId × Value → H} {P : Program} {w : World} {base : Nat} {spare : Nat → Bool} {held : Bool} {fuel : Nat} {cs : List Value} {x : DataW H × List MemPlace} {t e : TypeId} {fs : Array Field}
    (ht : P.underlying t = some (.struct fs)) (h : DataW.trod enc P w base spare held fuel t cs = some x) {i : Nat} {f : Field} (hf : fs[i]? = some f) (hu : P.underlying f.type = some (.slice e)) {a : Option Addr} {len cap : Nat}
    (hc : (cs.drop f.offset).take (P.cellsOf f.type) = [.slice a len cap]) (hb : P.bytesOf e = 1) {m : Nat} (hw : ∀ n ∈ x.1.weights P t, n ≤ m) : len ≤ m := by
  obtain ⟨xs, n, rfl, rfl, _, hl, hx⟩ := DataW.trod_struct ht h
  have h1 := hx i f hf
  rw [hc] at h1
  have hi : i < xs.length := by
    rw [hl]
    by_cases hlt : i < fs.size
    · exact hlt
    · rw [Array.getElem?_eq_none (by omega)] at hf; simp at hf
  rw [List.getElem?_eq_getElem hi] at h1
  rcases DataW.trod_slice hu h1 with ⟨h2, _⟩ | ⟨a', len', cap', elems, rest, n', _, h2, h3, _, _, _, h4, _⟩
  · simp only [List.cons.injEq, Value.slice.injEq, and_true] at h2
    omega
  · simp only [List.cons.injEq, Value.slice.injEq, and_true] at h2
    obtain ⟨_, rfl, _⟩ := h2
    have h5 : (elems.length + rest.length) * P.bytesOf e ∈ (xs[i]).1.weights P f.type := by
      rw [h3]; simp [DataW.weights, hu]
    have h6 : (elems.length + rest.length) * P.bytesOf e ∈ DataW.weightsEach P (fs.toList.map (·.type)) (xs.map (·.1)) :=
      DataW.weights_mem_each (j := i) (t := f.type) (d := (xs[i]).1) (by simp [hf]) (by simp [hi]) _ h5
    have h7 := hw _ (by simp only [DataW.weights, ht]; exact h6)
    rw [hb, h4] at h7
    omega
set_option linter.unusedVariables false in
theorem open_53 {H : Type} {enc : TypeId × Value → H} {w : World} {base : Nat} {spare : Nat → Bool} {held : Bool} {fuel : Nat} {cs : List Value} {x : DataW H × List MemPlace} (h : DataW.trod enc Try.prog w base spare held fuel 53 cs = some x) :
    ∃ (a0 : Int) (a1_a : Option Addr) (a1_l a1_c : Nat) (a2 : Int) (a3 : Bool), cs = [Value.int .i64 a0, Value.slice a1_a a1_l a1_c, Value.int .i64 a2, Value.bool a3] ∧ (-9223372036854775808 ≤ a0 ∧ a0 < 9223372036854775808) ∧ (∃ fuel y, DataW.trod enc Try.prog w base spare held fuel 50 [Value.slice a1_a a1_l a1_c] = some y) ∧ (-9223372036854775808 ≤ a2 ∧ a2 < 9223372036854775808) := by
  obtain ⟨n, rfl, hlen, hf⟩ := trod_fields Try.underlying53 h
  rw [(by kernel_rfl : Try.prog.cellsOf 53 = 4)] at hlen
  obtain ⟨c0, c1, c2, c3, rfl⟩ := lst_4 hlen
  have e2 : Try.prog.cellsOf 2 = 1 := by kernel_rfl
  have e4 : Try.prog.cellsOf 4 = 1 := by kernel_rfl
  have e50 : Try.prog.cellsOf 50 = 1 := by kernel_rfl
  have e51 : Try.prog.cellsOf 51 = 1 := by kernel_rfl
  obtain ⟨y0, h0⟩ := hf 0 _ rfl
  (try simp only [e2] at h0); (try simp only [Nat.reduceMul] at h0); (try simp only [List.drop_succ_cons] at h0); (try simp only [List.drop_zero] at h0); (try simp only [List.take_succ_cons] at h0); (try simp only [List.take_zero] at h0)
  obtain ⟨a0, rfl, ba0⟩ := trod_int_cell Try.underlying2 h0
  replace ba0 := wf_i64 ba0
  obtain ⟨y1, h1⟩ := hf 1 _ rfl
  (try simp only [e50] at h1); (try simp only [Nat.reduceMul] at h1); (try simp only [List.drop_succ_cons] at h1); (try simp only [List.drop_zero] at h1); (try simp only [List.take_succ_cons] at h1); (try simp only [List.take_zero] at h1)
  obtain ⟨a1_a, a1_l, a1_c, rfl⟩ := trod_slice_cell Try.underlying50 h1
  have ba1 : ∃ fuel y, DataW.trod enc Try.prog w base spare held fuel 50 [Value.slice a1_a a1_l a1_c] = some y := ⟨_, _, h1⟩
  obtain ⟨y2, h2⟩ := hf 2 _ rfl
  (try simp only [e51] at h2); (try simp only [Nat.reduceMul] at h2); (try simp only [List.drop_succ_cons] at h2); (try simp only [List.drop_zero] at h2); (try simp only [List.take_succ_cons] at h2); (try simp only [List.take_zero] at h2)
  obtain ⟨a2, rfl, ba2⟩ := trod_int_cell Try.underlying51 h2
  replace ba2 := wf_i64 ba2
  obtain ⟨y3, h3⟩ := hf 3 _ rfl
  (try simp only [e4] at h3); (try simp only [Nat.reduceMul] at h3); (try simp only [List.drop_succ_cons] at h3); (try simp only [List.drop_zero] at h3); (try simp only [List.take_succ_cons] at h3); (try simp only [List.take_zero] at h3)
  obtain ⟨a3, rfl⟩ := trod_bool_cell Try.underlying4 h3
  exact ⟨a0, a1_a, a1_l, a1_c, a2, a3, rfl, ba0, ba1, ba2⟩

theorem result_open {H : Type} {enc : TypeId × Value → H} {w : World} {fuel : Nat} {base : Nat} {spare : Nat → Bool} {held : Bool} {cs : List Value} {x : DataW H × List MemPlace} (h : DataW.trod enc Try.prog w base spare held fuel 53 cs = some x) :
    ∃ (r : ResD) (B : List Blk), cs = r.cells ∧ r.ok ∧ Sli B r.a r.bs.length 1 (u8l r.bs) ∧ ROnly w B ∧ ∀ m : Nat, (∀ n ∈ x.1.weights Try.prog 53, n ≤ m) → r.bs.length ≤ m := by
  obtain ⟨v, a_a, a_l, a_c, e, k, rfl, hv, ⟨fu, y, hy⟩, he⟩ := open_53 h
  obtain ⟨l, B, rfl, hl, hs, hro, _, hle, hcap⟩ := slice_list (cells := u8v) (ok := fun n : Int => 0 ≤ n ∧ n < 256) Try.underlying50 (sz := 1) (by kernel_rfl) (by omega) (fun _ _ => rfl) (fun _ _ _ h => u8_open h) hy
  rw [u8v_flat] at hs
  refine ⟨⟨v, l, e, k, a_a, a_c⟩, B, rfl, ⟨hv, he, hle, hcap⟩, hs, hro, ?_⟩
  intro m hw
  exact field_slice_len (a := a_a) (cap := a_c) Try.underlying53 h (i := 1) rfl Try.underlying50 (by kernel_rfl) (by kernel_rfl) hw
end Go.Proofs.Ytbldkodegdanbaa
