/- Records that came in. -/
import Derived.Test.YtpbpgbkpciffgaaOpn
import Derived.Test.YtpbpgbkpciffgaaRec1
namespace Go.Proofs.Ytpbpgbkpciffgaa
open Go Go.RowKit
set_option linter.unusedVariables false in
theorem open_24 {H : Type} {enc : TypeId × Value → H} {w : World} {base : Nat} {spare : Nat → Bool} {held : Bool} {fuel : Nat} {cs : List Value} {x : DataW H × List MemPlace} (h : DataW.trod enc Try.prog w base spare held fuel 24 cs = some x) :
    ∃ (a0 : Int) (a1 : Int) (a2 : Int) (a3 : Int) (a4 : Int) (a5 : Int), cs = [Value.int .u64 a0, Value.int .u64 a1, Value.int .u64 a2, Value.int .u64 a3, Value.int .u64 a4, Value.int .u64 a5] ∧ (0 ≤ a0 ∧ a0 < 18446744073709551616) ∧ (0 ≤ a1 ∧ a1 < 18446744073709551616) ∧ (0 ≤ a2 ∧ a2 < 18446744073709551616) ∧ (0 ≤ a3 ∧ a3 < 18446744073709551616) ∧ (0 ≤ a4 ∧ a4 < 18446744073709551616) ∧ (0 ≤ a5 ∧ a5 < 18446744073709551616) := by
  obtain ⟨n, rfl, hlen, hf⟩ := trod_elems Try.underlying24 h
  rw [(by kernel_rfl : Try.prog.cellsOf 24 = 6)] at hlen
  obtain ⟨c0, c1, c2, c3, c4, c5, rfl⟩ := lst_6 hlen
  have e23 : Try.prog.cellsOf 23 = 1 := by kernel_rfl
  obtain ⟨y0, h0⟩ := hf 0 (by omega)
  (try simp only [e23] at h0); (try simp only [Nat.reduceMul] at h0); (try simp only [List.drop_succ_cons] at h0); (try simp only [List.drop_zero] at h0); (try simp only [List.take_succ_cons] at h0); (try simp only [List.take_zero] at h0)
  obtain ⟨a0, rfl, ba0⟩ := trod_int_cell Try.underlying23 h0
  replace ba0 := wf_u64 ba0
  obtain ⟨y1, h1⟩ := hf 1 (by omega)
  (try simp only [e23] at h1); (try simp only [Nat.reduceMul] at h1); (try simp only [List.drop_succ_cons] at h1); (try simp only [List.drop_zero] at h1); (try simp only [List.take_succ_cons] at h1); (try simp only [List.take_zero] at h1)
  obtain ⟨a1, rfl, ba1⟩ := trod_int_cell Try.underlying23 h1
  replace ba1 := wf_u64 ba1
  obtain ⟨y2, h2⟩ := hf 2 (by omega)
  (try simp only [e23] at h2); (try simp only [Nat.reduceMul] at h2); (try simp only [List.drop_succ_cons] at h2); (try simp only [List.drop_zero] at h2); (try simp only [List.take_succ_cons] at h2); (try simp only [List.take_zero] at h2)
  obtain ⟨a2, rfl, ba2⟩ := trod_int_cell Try.underlying23 h2
  replace ba2 := wf_u64 ba2
  obtain ⟨y3, h3⟩ := hf 3 (by omega)
  (try simp only [e23] at h3); (try simp only [Nat.reduceMul] at h3); (try simp only [List.drop_succ_cons] at h3); (try simp only [List.drop_zero] at h3); (try simp only [List.take_succ_cons] at h3); (try simp only [List.take_zero] at h3)
  obtain ⟨a3, rfl, ba3⟩ := trod_int_cell Try.underlying23 h3
  replace ba3 := wf_u64 ba3
  obtain ⟨y4, h4⟩ := hf 4 (by omega)
  (try simp only [e23] at h4); (try simp only [Nat.reduceMul] at h4); (try simp only [List.drop_succ_cons] at h4); (try simp only [List.drop_zero] at h4); (try simp only [List.take_succ_cons] at h4); (try simp only [List.take_zero] at h4)
  obtain ⟨a4, rfl, ba4⟩ := trod_int_cell Try.underlying23 h4
  replace ba4 := wf_u64 ba4
  obtain ⟨y5, h5⟩ := hf 5 (by omega)
  (try simp only [e23] at h5); (try simp only [Nat.reduceMul] at h5); (try simp only [List.drop_succ_cons] at h5); (try simp only [List.drop_zero] at h5); (try simp only [List.take_succ_cons] at h5); (try simp only [List.take_zero] at h5)
  obtain ⟨a5, rfl, ba5⟩ := trod_int_cell Try.underlying23 h5
  replace ba5 := wf_u64 ba5
  exact ⟨a0, a1, a2, a3, a4, a5, rfl, ba0, ba1, ba2, ba3, ba4, ba5⟩
set_option linter.unusedVariables false in
theorem open_26 {H : Type} {enc : TypeId × Value → H} {w : World} {base : Nat} {spare : Nat → Bool} {held : Bool} {fuel : Nat} {cs : List Value} {x : DataW H × List MemPlace} (h : DataW.trod enc Try.prog w base spare held fuel 26 cs = some x) :
    ∃ (a0 : Int) (a1 : Int) (a2 : Int) (a3 : Int) (a4 : Int) (a5 : Int) (a6 : Int) (a7 : Int) (a8 : Int), cs = [Value.int .u32 a0, Value.int .u32 a1, Value.int .u64 a2, Value.int .u64 a3, Value.int .u64 a4, Value.int .u64 a5, Value.int .u64 a6, Value.int .u64 a7, Value.int .u64 a8] ∧ (0 ≤ a0 ∧ a0 < 4294967296) ∧ (0 ≤ a1 ∧ a1 < 4294967296) ∧ (0 ≤ a2 ∧ a2 < 18446744073709551616) ∧ (0 ≤ a3 ∧ a3 < 18446744073709551616) ∧ (0 ≤ a4 ∧ a4 < 18446744073709551616) ∧ (0 ≤ a5 ∧ a5 < 18446744073709551616) ∧ (0 ≤ a6 ∧ a6 < 18446744073709551616) ∧ (0 ≤ a7 ∧ a7 < 18446744073709551616) ∧ (0 ≤ a8 ∧ a8 < 18446744073709551616) := by
  obtain ⟨n, rfl, hlen, hf⟩ := trod_fields Try.underlying26 h
  rw [(by kernel_rfl : Try.prog.cellsOf 26 = 9)] at hlen
  obtain ⟨c0, c1, c2, c3, c4, c5, c6, c7, c8, rfl⟩ := lst_9 hlen
  have e22 : Try.prog.cellsOf 22 = 1 := by kernel_rfl
  have e23 : Try.prog.cellsOf 23 = 1 := by kernel_rfl
  have e24 : Try.prog.cellsOf 24 = 6 := by kernel_rfl
  obtain ⟨y0, h0⟩ := hf 0 _ rfl
  (try simp only [e22] at h0); (try simp only [Nat.reduceMul] at h0); (try simp only [List.drop_succ_cons] at h0); (try simp only [List.drop_zero] at h0); (try simp only [List.take_succ_cons] at h0); (try simp only [List.take_zero] at h0)
  obtain ⟨a0, rfl, ba0⟩ := trod_int_cell Try.underlying22 h0
  replace ba0 := wf_u32 ba0
  obtain ⟨y1, h1⟩ := hf 1 _ rfl
  (try simp only [e22] at h1); (try simp only [Nat.reduceMul] at h1); (try simp only [List.drop_succ_cons] at h1); (try simp only [List.drop_zero] at h1); (try simp only [List.take_succ_cons] at h1); (try simp only [List.take_zero] at h1)
  obtain ⟨a1, rfl, ba1⟩ := trod_int_cell Try.underlying22 h1
  replace ba1 := wf_u32 ba1
  obtain ⟨y2, h2⟩ := hf 2 _ rfl
  (try simp only [e23] at h2); (try simp only [Nat.reduceMul] at h2); (try simp only [List.drop_succ_cons] at h2); (try simp only [List.drop_zero] at h2); (try simp only [List.take_succ_cons] at h2); (try simp only [List.take_zero] at h2)
  obtain ⟨a2, rfl, ba2⟩ := trod_int_cell Try.underlying23 h2
  replace ba2 := wf_u64 ba2
  obtain ⟨y3, h3⟩ := hf 3 _ rfl
  (try simp only [e24] at h3); (try simp only [Nat.reduceMul] at h3); (try simp only [List.drop_succ_cons] at h3); (try simp only [List.drop_zero] at h3); (try simp only [List.take_succ_cons] at h3); (try simp only [List.take_zero] at h3)
  obtain ⟨a3, a4, a5, a6, a7, a8, q3, ba3, ba4, ba5, ba6, ba7, ba8⟩ := open_24 h3
  simp only [List.cons.injEq, and_true] at q3
  obtain ⟨rfl, rfl, rfl, rfl, rfl, rfl⟩ := q3
  exact ⟨a0, a1, a2, a3, a4, a5, a6, a7, a8, rfl, ba0, ba1, ba2, ba3, ba4, ba5, ba6, ba7, ba8⟩

theorem rec_openR {H : Type} {enc : TypeId × Value → H} {w : World} {base : Nat} {spare : Nat → Bool} {held : Bool} {fuel : Nat} {cs : List Value} {x : DataW H × List MemPlace} (h : DataW.trod enc Try.prog w base spare held fuel 26 cs = some x) : ∃ r : Rec, cs = r.cells ∧ r.ok := by
  obtain ⟨a0, a1, a2, a3, a4, a5, a6, a7, a8, rfl, h0, h1, h2, h3, h4, h5, h6, h7, h8⟩ := open_26 h
  refine ⟨⟨a0, a1, a2, [a3, a4, a5, a6, a7, a8]⟩, rfl, ⟨h0, h1, h2, rfl, ?_⟩⟩
  intro a ha
  simp only [List.mem_cons, List.not_mem_nil, or_false] at ha
  rcases ha with rfl | rfl | rfl | rfl | rfl | rfl <;> assumption
theorem rec_lenR {r : Rec} (h : r.ok) : r.cells.length = 9 := by simp [Rec.cells, h.len]
end Go.Proofs.Ytpbpgbkpciffgaa
