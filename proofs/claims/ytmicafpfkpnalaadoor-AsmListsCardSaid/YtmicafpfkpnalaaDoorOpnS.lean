/- Small instructions that came in. -/
import Derived.Test.YtmicafpfkpnalaaDoorOpn
import Derived.Test.YtmicafpfkpnalaaDoorProg1
namespace Go.Proofs.YtmicafpfkpnalaaDoor
open Go Go.RowKit
set_option linter.unusedVariables false in
theorem open_32 {H : Type} {enc : TypeId × Value → H} {w : World} {base : Nat} {spare : Nat → Bool} {held : Bool} {fuel : Nat} {cs : List Value} {x : DataW H × List MemPlace} (h : DataW.trod enc Tryd.prog w base spare held fuel 32 cs = some x) :
    ∃ (a0 : Int) (a1 : Int) (a2 : Int) (a3 : Int), cs = [Value.int .u16 a0, Value.int .u8 a1, Value.int .u8 a2, Value.int .u32 a3] ∧ (0 ≤ a0 ∧ a0 < 65536) ∧ (0 ≤ a1 ∧ a1 < 256) ∧ (0 ≤ a2 ∧ a2 < 256) ∧ (0 ≤ a3 ∧ a3 < 4294967296) := by
  obtain ⟨n, rfl, hlen, hf⟩ := trod_fields Tryd.underlying32 h
  rw [(by kernel_rfl : Tryd.prog.cellsOf 32 = 4)] at hlen
  obtain ⟨c0, c1, c2, c3, rfl⟩ := lst_4 hlen
  have e5 : Tryd.prog.cellsOf 5 = 1 := by kernel_rfl
  have e29 : Tryd.prog.cellsOf 29 = 1 := by kernel_rfl
  have e30 : Tryd.prog.cellsOf 30 = 1 := by kernel_rfl
  obtain ⟨y0, h0⟩ := hf 0 _ rfl
  (try simp only [e29] at h0); (try simp only [Nat.reduceMul] at h0); (try simp only [List.drop_succ_cons] at h0); (try simp only [List.drop_zero] at h0); (try simp only [List.take_succ_cons] at h0); (try simp only [List.take_zero] at h0)
  obtain ⟨a0, rfl, ba0⟩ := trod_int_cell Tryd.underlying29 h0
  replace ba0 := wf_u16 ba0
  obtain ⟨y1, h1⟩ := hf 1 _ rfl
  (try simp only [e5] at h1); (try simp only [Nat.reduceMul] at h1); (try simp only [List.drop_succ_cons] at h1); (try simp only [List.drop_zero] at h1); (try simp only [List.take_succ_cons] at h1); (try simp only [List.take_zero] at h1)
  obtain ⟨a1, rfl, ba1⟩ := trod_int_cell Tryd.underlying5 h1
  replace ba1 := wf_u8 ba1
  obtain ⟨y2, h2⟩ := hf 2 _ rfl
  (try simp only [e5] at h2); (try simp only [Nat.reduceMul] at h2); (try simp only [List.drop_succ_cons] at h2); (try simp only [List.drop_zero] at h2); (try simp only [List.take_succ_cons] at h2); (try simp only [List.take_zero] at h2)
  obtain ⟨a2, rfl, ba2⟩ := trod_int_cell Tryd.underlying5 h2
  replace ba2 := wf_u8 ba2
  obtain ⟨y3, h3⟩ := hf 3 _ rfl
  (try simp only [e30] at h3); (try simp only [Nat.reduceMul] at h3); (try simp only [List.drop_succ_cons] at h3); (try simp only [List.drop_zero] at h3); (try simp only [List.take_succ_cons] at h3); (try simp only [List.take_zero] at h3)
  obtain ⟨a3, rfl, ba3⟩ := trod_int_cell Tryd.underlying30 h3
  replace ba3 := wf_u32 ba3
  exact ⟨a0, a1, a2, a3, rfl, ba0, ba1, ba2, ba3⟩
set_option linter.unusedVariables false in
theorem open_133 {H : Type} {enc : TypeId × Value → H} {w : World} {base : Nat} {spare : Nat → Bool} {held : Bool} {fuel : Nat} {cs : List Value} {x : DataW H × List MemPlace} (h : DataW.trod enc Tryd.prog w base spare held fuel 133 cs = some x) :
    ∃ (a0 : Int) (a1 : Int) (a2 : Int) (a3 : Int) (a4 : Int) (a5 : Int) (a6 : Int) (a7 : Int) (a8 : Bool), cs = [Value.int .u8 a0, Value.int .u8 a1, Value.int .u8 a2, Value.int .u8 a3, Value.int .u16 a4, Value.int .u8 a5, Value.int .u8 a6, Value.int .u32 a7, Value.bool a8] ∧ (0 ≤ a0 ∧ a0 < 256) ∧ (0 ≤ a1 ∧ a1 < 256) ∧ (0 ≤ a2 ∧ a2 < 256) ∧ (0 ≤ a3 ∧ a3 < 256) ∧ (0 ≤ a4 ∧ a4 < 65536) ∧ (0 ≤ a5 ∧ a5 < 256) ∧ (0 ≤ a6 ∧ a6 < 256) ∧ (0 ≤ a7 ∧ a7 < 4294967296) := by
  obtain ⟨n, rfl, hlen, hf⟩ := trod_fields Tryd.underlying133 h
  rw [(by kernel_rfl : Tryd.prog.cellsOf 133 = 9)] at hlen
  obtain ⟨c0, c1, c2, c3, c4, c5, c6, c7, c8, rfl⟩ := lst_9 hlen
  have e4 : Tryd.prog.cellsOf 4 = 1 := by kernel_rfl
  have e5 : Tryd.prog.cellsOf 5 = 1 := by kernel_rfl
  have e32 : Tryd.prog.cellsOf 32 = 4 := by kernel_rfl
  obtain ⟨y0, h0⟩ := hf 0 _ rfl
  (try simp only [e5] at h0); (try simp only [Nat.reduceMul] at h0); (try simp only [List.drop_succ_cons] at h0); (try simp only [List.drop_zero] at h0); (try simp only [List.take_succ_cons] at h0); (try simp only [List.take_zero] at h0)
  obtain ⟨a0, rfl, ba0⟩ := trod_int_cell Tryd.underlying5 h0
  replace ba0 := wf_u8 ba0
  obtain ⟨y1, h1⟩ := hf 1 _ rfl
  (try simp only [e5] at h1); (try simp only [Nat.reduceMul] at h1); (try simp only [List.drop_succ_cons] at h1); (try simp only [List.drop_zero] at h1); (try simp only [List.take_succ_cons] at h1); (try simp only [List.take_zero] at h1)
  obtain ⟨a1, rfl, ba1⟩ := trod_int_cell Tryd.underlying5 h1
  replace ba1 := wf_u8 ba1
  obtain ⟨y2, h2⟩ := hf 2 _ rfl
  (try simp only [e5] at h2); (try simp only [Nat.reduceMul] at h2); (try simp only [List.drop_succ_cons] at h2); (try simp only [List.drop_zero] at h2); (try simp only [List.take_succ_cons] at h2); (try simp only [List.take_zero] at h2)
  obtain ⟨a2, rfl, ba2⟩ := trod_int_cell Tryd.underlying5 h2
  replace ba2 := wf_u8 ba2
  obtain ⟨y3, h3⟩ := hf 3 _ rfl
  (try simp only [e5] at h3); (try simp only [Nat.reduceMul] at h3); (try simp only [List.drop_succ_cons] at h3); (try simp only [List.drop_zero] at h3); (try simp only [List.take_succ_cons] at h3); (try simp only [List.take_zero] at h3)
  obtain ⟨a3, rfl, ba3⟩ := trod_int_cell Tryd.underlying5 h3
  replace ba3 := wf_u8 ba3
  obtain ⟨y4, h4⟩ := hf 4 _ rfl
  (try simp only [e32] at h4); (try simp only [Nat.reduceMul] at h4); (try simp only [List.drop_succ_cons] at h4); (try simp only [List.drop_zero] at h4); (try simp only [List.take_succ_cons] at h4); (try simp only [List.take_zero] at h4)
  obtain ⟨a4, a5, a6, a7, q4, ba4, ba5, ba6, ba7⟩ := open_32 h4
  simp only [List.cons.injEq, and_true] at q4
  obtain ⟨rfl, rfl, rfl, rfl⟩ := q4
  obtain ⟨y5, h5⟩ := hf 5 _ rfl
  (try simp only [e4] at h5); (try simp only [Nat.reduceMul] at h5); (try simp only [List.drop_succ_cons] at h5); (try simp only [List.drop_zero] at h5); (try simp only [List.take_succ_cons] at h5); (try simp only [List.take_zero] at h5)
  obtain ⟨a8, rfl⟩ := trod_bool_cell Tryd.underlying4 h5
  exact ⟨a0, a1, a2, a3, a4, a5, a6, a7, a8, rfl, ba0, ba1, ba2, ba3, ba4, ba5, ba6, ba7⟩

theorem small_open {H : Type} {enc : TypeId × Value → H} {w : World} {base : Nat} {spare : Nat → Bool} {held : Bool} {fuel : Nat} {cs : List Value} {x : DataW H × List MemPlace} (h : DataW.trod enc Tryd.prog w base spare held fuel 133 cs = some x) : ∃ s : Sml, cs = s.cells ∧ s.ok := by
  obtain ⟨a0, a1, a2, a3, a4, a5, a6, a7, a8, rfl, h0, h1, h2, h3, h4, h5, h6, h7⟩ := open_133 h
  exact ⟨⟨a0, a1, a2, a3, ⟨a4, a5, a6, a7⟩, a8⟩, rfl, ⟨h0, h1, h2, h3, ⟨h4, h5, h6, h7⟩⟩⟩
end Go.Proofs.YtmicafpfkpnalaaDoor
