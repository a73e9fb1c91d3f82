/- What a struct fd.Open that is read looks like: seven cells of their kinds. -/
import Derived.Test.YtdbelddaifllnaaRows
import Derived.Test.YtdbelddaifllnaaKit3
namespace Go.Proofs.Ytdbelddaifllnaa
open Go Go.RowKit
def IsOpen (cs : List Value) : Prop :=
  ∃ (k m i t r p : Int) (l : Bool), cs = [.int .u8 k, .int .i64 m, .int .u16 i, .int .i64 t, .int .u16 r, .int .i64 p, .bool l] ∧
    (Lit.int .u8 k).wf = true ∧ (Lit.int .i64 m).wf = true ∧ (Lit.int .u16 i).wf = true ∧ (Lit.int .i64 t).wf = true ∧ (Lit.int .u16 r).wf = true ∧ (Lit.int .i64 p).wf = true

theorem seven {cs : List Value} (h : cs.length = 7) : ∃ a b c d e f g, cs = [a, b, c, d, e, f, g] := by
  match cs, h with
  | [a, b, c, d, e, f, g], _ => exact ⟨a, b, c, d, e, f, g, rfl⟩

theorem isOpen_of_trod {H : Type} {enc : TypeId × Value → H} {w : World} {base : Nat} {spare : Nat → Bool} {held : Bool} {fuel : Nat} {cs : List Value} {x : DataW H × List MemPlace}
    (h : DataW.trod enc Try.prog w base spare held fuel 35 cs = some x) : IsOpen cs := by
  obtain ⟨n, rfl, hlen, hf⟩ := trod_fields Try.underlying35 h
  have h7 : Try.prog.cellsOf 35 = 7 := by kernel_rfl
  rw [h7] at hlen
  obtain ⟨a, b, c, d, e, f, g, rfl⟩ := seven hlen
  obtain ⟨y0, h0⟩ := hf 0 _ rfl
  obtain ⟨y1, h1⟩ := hf 1 _ rfl
  obtain ⟨y2, h2⟩ := hf 2 _ rfl
  obtain ⟨y3, h3⟩ := hf 3 _ rfl
  obtain ⟨y4, h4⟩ := hf 4 _ rfl
  obtain ⟨y5, h5⟩ := hf 5 _ rfl
  have c28 : Try.prog.cellsOf 28 = 1 := by kernel_rfl
  have c32 : Try.prog.cellsOf 32 = 2 := by kernel_rfl
  have c30 : Try.prog.cellsOf 30 = 1 := by kernel_rfl
  have c3 : Try.prog.cellsOf 3 = 1 := by kernel_rfl
  have c33 : Try.prog.cellsOf 33 = 1 := by kernel_rfl
  have c4 : Try.prog.cellsOf 4 = 1 := by kernel_rfl
  simp only [c28, c32, c3, c33, c4, List.drop_succ_cons, List.drop_zero, List.take_succ_cons, List.take_zero] at h0 h1 h2 h3 h4 h5
  obtain ⟨k, rfl, w0⟩ := trod_int_cell Try.underlying28 h0
  obtain ⟨n', rfl, _, hg⟩ := trod_fields Try.underlying32 h1
  obtain ⟨z0, g0⟩ := hg 0 _ rfl
  obtain ⟨z1, g1⟩ := hg 1 _ rfl
  simp only [c3, c30, List.drop_succ_cons, List.drop_zero, List.take_succ_cons, List.take_zero] at g0 g1
  obtain ⟨m, rfl, w1⟩ := trod_int_cell Try.underlying3 g0
  obtain ⟨i, rfl, w2⟩ := trod_int_cell Try.underlying30 g1
  obtain ⟨t, rfl, w3⟩ := trod_int_cell Try.underlying3 h2
  obtain ⟨r, rfl, w4⟩ := trod_int_cell Try.underlying33 h3
  obtain ⟨p, rfl, w5⟩ := trod_int_cell Try.underlying3 h4
  obtain ⟨l, rfl⟩ := trod_bool_cell Try.underlying4 h5
  exact ⟨k, m, i, t, r, p, l, rfl, w0, w1, w2, w3, w4, w5⟩
end Go.Proofs.Ytdbelddaifllnaa
