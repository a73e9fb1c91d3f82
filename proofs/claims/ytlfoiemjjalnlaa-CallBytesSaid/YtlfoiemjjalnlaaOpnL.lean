/- Calls and bytes that came in. -/
import Derived.Test.YtlfoiemjjalnlaaOpn
import Derived.Test.YtlfoiemjjalnlaaCal2
namespace Go.Proofs.Ytlfoiemjjalnlaa
open Go Go.RowKit
set_option linter.unusedVariables false in
theorem open_30 {H : Type} {enc : TypeId × Value → H} {w : World} {base : Nat} {spare : Nat → Bool} {held : Bool} {fuel : Nat} {cs : List Value} {x : DataW H × List MemPlace} (h : DataW.trod enc Try.prog w base spare held fuel 30 cs = some x) :
    ∃ (a0 : Int) (a1 : Int), cs = [Value.int .u64 a0, Value.int .u64 a1] ∧ (0 ≤ a0 ∧ a0 < 18446744073709551616) ∧ (0 ≤ a1 ∧ a1 < 18446744073709551616) := by
  obtain ⟨n, rfl, hlen, hf⟩ := trod_elems Try.underlying30 h
  rw [(by kernel_rfl : Try.prog.cellsOf 30 = 2)] at hlen
  obtain ⟨c0, c1, rfl⟩ := lst_2 hlen
  have e29 : Try.prog.cellsOf 29 = 1 := by kernel_rfl
  obtain ⟨y0, h0⟩ := hf 0 (by omega)
  (try simp only [e29] at h0); (try simp only [Nat.reduceMul] at h0); (try simp only [List.drop_succ_cons] at h0); (try simp only [List.drop_zero] at h0); (try simp only [List.take_succ_cons] at h0); (try simp only [List.take_zero] at h0)
  obtain ⟨a0, rfl, ba0⟩ := trod_int_cell Try.underlying29 h0
  replace ba0 := wf_u64 ba0
  obtain ⟨y1, h1⟩ := hf 1 (by omega)
  (try simp only [e29] at h1); (try simp only [Nat.reduceMul] at h1); (try simp only [List.drop_succ_cons] at h1); (try simp only [List.drop_zero] at h1); (try simp only [List.take_succ_cons] at h1); (try simp only [List.take_zero] at h1)
  obtain ⟨a1, rfl, ba1⟩ := trod_int_cell Try.underlying29 h1
  replace ba1 := wf_u64 ba1
  exact ⟨a0, a1, rfl, ba0, ba1⟩
set_option linter.unusedVariables false in
theorem open_31 {H : Type} {enc : TypeId × Value → H} {w : World} {base : Nat} {spare : Nat → Bool} {held : Bool} {fuel : Nat} {cs : List Value} {x : DataW H × List MemPlace} (h : DataW.trod enc Try.prog w base spare held fuel 31 cs = some x) :
    ∃ (a0 : ByteArray) (a1 : ByteArray), cs = [Value.string a0, Value.string a1] ∧ a0.size ≤ maxLen ∧ a1.size ≤ maxLen := by
  obtain ⟨n, rfl, hlen, hf⟩ := trod_elems Try.underlying31 h
  rw [(by kernel_rfl : Try.prog.cellsOf 31 = 2)] at hlen
  obtain ⟨c0, c1, rfl⟩ := lst_2 hlen
  have e9 : Try.prog.cellsOf 9 = 1 := by kernel_rfl
  obtain ⟨y0, h0⟩ := hf 0 (by omega)
  (try simp only [e9] at h0); (try simp only [Nat.reduceMul] at h0); (try simp only [List.drop_succ_cons] at h0); (try simp only [List.drop_zero] at h0); (try simp only [List.take_succ_cons] at h0); (try simp only [List.take_zero] at h0)
  obtain ⟨a0, rfl, ba0⟩ := trod_string_cell Try.underlying9 h0
  obtain ⟨y1, h1⟩ := hf 1 (by omega)
  (try simp only [e9] at h1); (try simp only [Nat.reduceMul] at h1); (try simp only [List.drop_succ_cons] at h1); (try simp only [List.drop_zero] at h1); (try simp only [List.take_succ_cons] at h1); (try simp only [List.take_zero] at h1)
  obtain ⟨a1, rfl, ba1⟩ := trod_string_cell Try.underlying9 h1
  exact ⟨a0, a1, rfl, ba0, ba1⟩
set_option linter.unusedVariables false in
theorem open_33 {H : Type} {enc : TypeId × Value → H} {w : World} {base : Nat} {spare : Nat → Bool} {held : Bool} {fuel : Nat} {cs : List Value} {x : DataW H × List MemPlace} (h : DataW.trod enc Try.prog w base spare held fuel 33 cs = some x) :
    ∃ (a0 : Int) (a1 : Bool) (a2 : Int) (a3 : Int) (a4 : Int) (a5 : ByteArray) (a6 : ByteArray), cs = [Value.int .u8 a0, Value.bool a1, Value.int .u32 a2, Value.int .u64 a3, Value.int .u64 a4, Value.string a5, Value.string a6] ∧ (0 ≤ a0 ∧ a0 < 256) ∧ (0 ≤ a2 ∧ a2 < 4294967296) ∧ (0 ≤ a3 ∧ a3 < 18446744073709551616) ∧ (0 ≤ a4 ∧ a4 < 18446744073709551616) ∧ a5.size ≤ maxLen ∧ a6.size ≤ maxLen := by
  obtain ⟨n, rfl, hlen, hf⟩ := trod_fields Try.underlying33 h
  rw [(by kernel_rfl : Try.prog.cellsOf 33 = 7)] at hlen
  obtain ⟨c0, c1, c2, c3, c4, c5, c6, rfl⟩ := lst_7 hlen
  have e4 : Try.prog.cellsOf 4 = 1 := by kernel_rfl
  have e27 : Try.prog.cellsOf 27 = 1 := by kernel_rfl
  have e28 : Try.prog.cellsOf 28 = 1 := by kernel_rfl
  have e30 : Try.prog.cellsOf 30 = 2 := by kernel_rfl
  have e31 : Try.prog.cellsOf 31 = 2 := by kernel_rfl
  obtain ⟨y0, h0⟩ := hf 0 _ rfl
  (try simp only [e27] at h0); (try simp only [Nat.reduceMul] at h0); (try simp only [List.drop_succ_cons] at h0); (try simp only [List.drop_zero] at h0); (try simp only [List.take_succ_cons] at h0); (try simp only [List.take_zero] at h0)
  obtain ⟨a0, rfl, ba0⟩ := trod_int_cell Try.underlying27 h0
  replace ba0 := wf_u8 ba0
  obtain ⟨y1, h1⟩ := hf 1 _ rfl
  (try simp only [e4] at h1); (try simp only [Nat.reduceMul] at h1); (try simp only [List.drop_succ_cons] at h1); (try simp only [List.drop_zero] at h1); (try simp only [List.take_succ_cons] at h1); (try simp only [List.take_zero] at h1)
  obtain ⟨a1, rfl⟩ := trod_bool_cell Try.underlying4 h1
  obtain ⟨y2, h2⟩ := hf 2 _ rfl
  (try simp only [e28] at h2); (try simp only [Nat.reduceMul] at h2); (try simp only [List.drop_succ_cons] at h2); (try simp only [List.drop_zero] at h2); (try simp only [List.take_succ_cons] at h2); (try simp only [List.take_zero] at h2)
  obtain ⟨a2, rfl, ba2⟩ := trod_int_cell Try.underlying28 h2
  replace ba2 := wf_u32 ba2
  obtain ⟨y3, h3⟩ := hf 3 _ rfl
  (try simp only [e30] at h3); (try simp only [Nat.reduceMul] at h3); (try simp only [List.drop_succ_cons] at h3); (try simp only [List.drop_zero] at h3); (try simp only [List.take_succ_cons] at h3); (try simp only [List.take_zero] at h3)
  obtain ⟨a3, a4, q3, ba3, ba4⟩ := open_30 h3
  simp only [List.cons.injEq, and_true] at q3
  obtain ⟨rfl, rfl⟩ := q3
  obtain ⟨y4, h4⟩ := hf 4 _ rfl
  (try simp only [e31] at h4); (try simp only [Nat.reduceMul] at h4); (try simp only [List.drop_succ_cons] at h4); (try simp only [List.drop_zero] at h4); (try simp only [List.take_succ_cons] at h4); (try simp only [List.take_zero] at h4)
  obtain ⟨a5, a6, q4, ba5, ba6⟩ := open_31 h4
  simp only [List.cons.injEq, and_true] at q4
  obtain ⟨rfl, rfl⟩ := q4
  exact ⟨a0, a1, a2, a3, a4, a5, a6, rfl, ba0, ba2, ba3, ba4, ba5, ba6⟩

theorem call_open {H : Type} {enc : TypeId × Value → H} {w : World} {base : Nat} {spare : Nat → Bool} {held : Bool} {fuel : Nat} {cs : List Value} {x : DataW H × List MemPlace} (h : DataW.trod enc Try.prog w base spare held fuel 33 cs = some x) : ∃ c : CallD, cs = c.cells ∧ c.ok := by
  obtain ⟨a0, a1, a2, a3, a4, a5, a6, rfl, h0, h2, h3, h4, h5, h6⟩ := open_33 h
  exact ⟨⟨a0, a1, a2, a3, a4, a5, a6⟩, rfl, h0, h2, h3, h4, h5, h6⟩
def u8ok (n : Int) : Prop := 0 ≤ n ∧ n < 256
def u8v (n : Int) : List Value := [.int .u8 n]
theorem u8v_flat (l : List Int) : l.flatMap u8v = u8l l := by induction l with | nil => rfl | cons n r ih => simpa [u8v, u8l] using ih
theorem u8_open {H : Type} {enc : TypeId × Value → H} {w : World} {base : Nat} {spare : Nat → Bool} {held : Bool} {fuel : Nat} {cs : List Value} {x : DataW H × List MemPlace} (h : DataW.trod enc Try.prog w base spare held fuel 5 cs = some x) : ∃ n : Int, cs = u8v n ∧ (0 ≤ n ∧ n < 256) := by
  obtain ⟨n, rfl, hw⟩ := trod_int_any Try.underlying5 h
  exact ⟨n, rfl, wf_u8 hw⟩
end Go.Proofs.Ytlfoiemjjalnlaa
