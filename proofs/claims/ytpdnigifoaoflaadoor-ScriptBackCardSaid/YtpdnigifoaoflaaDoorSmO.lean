/- Small calls that came in. -/
import Derived.Test.YtpdnigifoaoflaaDoorOpn
import Derived.Test.YtpdnigifoaoflaaDoorSmD
import Derived.Test.YtpdnigifoaoflaaDoorOpnU
namespace Go.Proofs.YtpdnigifoaoflaaDoor
open Go Go.RowKit
section
variable {H : Type} {enc : TypeId × Value → H} {P : Program} {w : World} {base : Nat} {spare : Nat → Bool} {held : Bool}
/-- a slice whose elements are told by a predicate over blocks of their own -/
theorem slice_listB {X : Type} {cells : X → List Value} {ok : List Blk → X → Prop} {t e : TypeId} {sz fuel : Nat} {a : Option Addr} {len cap : Nat} {x : DataW H × List MemPlace} (ht : P.underlying t = some (.slice e)) (hsz : P.cellsOf e = sz) (h0 : 0 < sz)
    (hl : ∀ B C x, ok B x → ok (B ++ C) x) (hr : ∀ B C x, ok C x → ok (B ++ C) x)
    (hel : ∀ n cs y, DataW.trod enc P w base spare held n e cs = some y → ∃ x B, cs = cells x ∧ ok B x ∧ ROnly w B) (h : DataW.trod enc P w base spare held fuel t [.slice a len cap] = some x) :
    ∃ (l : List X) (B : List Blk), l.length = len ∧ (∀ x ∈ l, ok B x) ∧ Sli B a len sz (l.flatMap cells) ∧ ROnly w B ∧ len ≤ maxLen ∧ len ≤ cap ∧ cap ≤ maxLen := by
  by_cases hln : 0 < len
  · obtain ⟨b, off, acs, T, fr, n, rfl, hb, h1, h2, hall⟩ := slice_block ht hsz h0 h hln
    have key : ∀ m, m ≤ len → ∃ (l : List X) (B : List Blk), l.length = m ∧ (∀ x ∈ l, ok B x) ∧ (acs.toList.drop off).take (m * sz) = l.flatMap cells ∧ ROnly w B := by
      intro m
      induction m with
      | zero => intro _; exact ⟨[], [], rfl, by simp, by simp, ROnly.nil⟩
      | succ m ih =>
        intro hm
        obtain ⟨l, B, e1, e2, e3, e4⟩ := ih (by omega)
        obtain ⟨cs, y, hc1, hc2, hc3, hc4⟩ := hall m (by omega)
        obtain ⟨x, C, rfl, hx, hC⟩ := hel _ _ _ hc2
        refine ⟨l ++ [x], B ++ C, by simp [e1], ?_, ?_, e4.app hC⟩
        · intro z hz
          rcases List.mem_append.1 hz with hz | hz
          · exact hl _ _ _ (e2 z hz)
          · rw [List.mem_singleton.1 hz]; exact hr _ _ _ hx
        · rw [List.flatMap_append, ← e3, Nat.add_mul, Nat.one_mul, List.take_add, List.drop_drop]
          congr 1
          have := congrArg Array.toList hc4
          simp only [Array.toList_extract, List.extract_eq_take_drop] at this
          rw [Nat.add_sub_cancel_left] at this
          simpa using this
    obtain ⟨l, B, e1, e2, e3, e4⟩ := key len (Nat.le_refl _)
    obtain ⟨_, _, _, _, hc3, _⟩ := hall (len - 1) (by omega)
    have hmul : (len - 1) * sz + sz = len * sz := by
      obtain ⟨q, rfl⟩ : ∃ q, len = q + 1 := ⟨len - 1, by omega⟩
      rw [Nat.add_sub_cancel, Nat.add_mul, Nat.one_mul]
    refine ⟨l, [⟨false, b, .cells acs T fr⟩] ++ B, e1, fun x hx => hr _ _ _ (e2 x hx), Sli.of (i := 0) rfl (by omega) e3, ROnly.app ?_ e4, by omega, by omega, by omega⟩
    intro p hp
    rw [List.mem_singleton.1 hp]
    exact ⟨rfl, hb⟩
  · rcases trod_slice ht h with ⟨rfl, rfl, rfl⟩ | ⟨p, n, rfl, _, h2, h3, _⟩
    · exact ⟨[], [], rfl, by simp, ⟨by simp, .inl rfl⟩, ROnly.nil, by omega, by omega, by omega⟩
    · obtain rfl : len = 0 := by omega
      exact ⟨[], [], rfl, by simp, ⟨by simp, .inl rfl⟩, ROnly.nil, by omega, by omega, by omega⟩
end
set_option linter.unusedVariables false in
theorem open_49 {H : Type} {enc : TypeId × Value → H} {w : World} {base : Nat} {spare : Nat → Bool} {held : Bool} {fuel : Nat} {cs : List Value} {x : DataW H × List MemPlace} (h : DataW.trod enc Tryd.prog w base spare held fuel 49 cs = some x) :
    ∃ (a0 : Int) (a1 : Int), cs = [Value.int .u64 a0, Value.int .u64 a1] ∧ (0 ≤ a0 ∧ a0 < 18446744073709551616) ∧ (0 ≤ a1 ∧ a1 < 18446744073709551616) := by
  obtain ⟨n, rfl, hlen, hf⟩ := trod_elems Tryd.underlying49 h
  rw [(by kernel_rfl : Tryd.prog.cellsOf 49 = 2)] at hlen
  obtain ⟨c0, c1, rfl⟩ := lst_2 hlen
  have e48 : Tryd.prog.cellsOf 48 = 1 := by kernel_rfl
  obtain ⟨y0, h0⟩ := hf 0 (by omega)
  (try simp only [e48] at h0); (try simp only [Nat.reduceMul] at h0); (try simp only [List.drop_succ_cons] at h0); (try simp only [List.drop_zero] at h0); (try simp only [List.take_succ_cons] at h0); (try simp only [List.take_zero] at h0)
  obtain ⟨a0, rfl, ba0⟩ := trod_int_cell Tryd.underlying48 h0
  replace ba0 := wf_u64 ba0
  obtain ⟨y1, h1⟩ := hf 1 (by omega)
  (try simp only [e48] at h1); (try simp only [Nat.reduceMul] at h1); (try simp only [List.drop_succ_cons] at h1); (try simp only [List.drop_zero] at h1); (try simp only [List.take_succ_cons] at h1); (try simp only [List.take_zero] at h1)
  obtain ⟨a1, rfl, ba1⟩ := trod_int_cell Tryd.underlying48 h1
  replace ba1 := wf_u64 ba1
  exact ⟨a0, a1, rfl, ba0, ba1⟩
set_option linter.unusedVariables false in
theorem open_50 {H : Type} {enc : TypeId × Value → H} {w : World} {base : Nat} {spare : Nat → Bool} {held : Bool} {fuel : Nat} {cs : List Value} {x : DataW H × List MemPlace} (h : DataW.trod enc Tryd.prog w base spare held fuel 50 cs = some x) :
    ∃ (a0 : ByteArray) (a1 : ByteArray), cs = [Value.string a0, Value.string a1] ∧ a0.size ≤ maxLen ∧ a1.size ≤ maxLen := by
  obtain ⟨n, rfl, hlen, hf⟩ := trod_elems Tryd.underlying50 h
  rw [(by kernel_rfl : Tryd.prog.cellsOf 50 = 2)] at hlen
  obtain ⟨c0, c1, rfl⟩ := lst_2 hlen
  have e9 : Tryd.prog.cellsOf 9 = 1 := by kernel_rfl
  obtain ⟨y0, h0⟩ := hf 0 (by omega)
  (try simp only [e9] at h0); (try simp only [Nat.reduceMul] at h0); (try simp only [List.drop_succ_cons] at h0); (try simp only [List.drop_zero] at h0); (try simp only [List.take_succ_cons] at h0); (try simp only [List.take_zero] at h0)
  obtain ⟨a0, rfl, ba0⟩ := trod_string_cell Tryd.underlying9 h0
  obtain ⟨y1, h1⟩ := hf 1 (by omega)
  (try simp only [e9] at h1); (try simp only [Nat.reduceMul] at h1); (try simp only [List.drop_succ_cons] at h1); (try simp only [List.drop_zero] at h1); (try simp only [List.take_succ_cons] at h1); (try simp only [List.take_zero] at h1)
  obtain ⟨a1, rfl, ba1⟩ := trod_string_cell Tryd.underlying9 h1
  exact ⟨a0, a1, rfl, ba0, ba1⟩
set_option linter.unusedVariables false in
theorem open_52 {H : Type} {enc : TypeId × Value → H} {w : World} {base : Nat} {spare : Nat → Bool} {held : Bool} {fuel : Nat} {cs : List Value} {x : DataW H × List MemPlace} (h : DataW.trod enc Tryd.prog w base spare held fuel 52 cs = some x) :
    ∃ (a0 : Int) (a1 : Bool) (a2 : Int) (a3 : Int) (a4 : Int) (a5 : ByteArray) (a6 : ByteArray), cs = [Value.int .u8 a0, Value.bool a1, Value.int .u32 a2, Value.int .u64 a3, Value.int .u64 a4, Value.string a5, Value.string a6] ∧ (0 ≤ a0 ∧ a0 < 256) ∧ (0 ≤ a2 ∧ a2 < 4294967296) ∧ (0 ≤ a3 ∧ a3 < 18446744073709551616) ∧ (0 ≤ a4 ∧ a4 < 18446744073709551616) ∧ a5.size ≤ maxLen ∧ a6.size ≤ maxLen := by
  obtain ⟨n, rfl, hlen, hf⟩ := trod_fields Tryd.underlying52 h
  rw [(by kernel_rfl : Tryd.prog.cellsOf 52 = 7)] at hlen
  obtain ⟨c0, c1, c2, c3, c4, c5, c6, rfl⟩ := lst_7 hlen
  have e4 : Tryd.prog.cellsOf 4 = 1 := by kernel_rfl
  have e46 : Tryd.prog.cellsOf 46 = 1 := by kernel_rfl
  have e47 : Tryd.prog.cellsOf 47 = 1 := by kernel_rfl
  have e49 : Tryd.prog.cellsOf 49 = 2 := by kernel_rfl
  have e50 : Tryd.prog.cellsOf 50 = 2 := by kernel_rfl
  obtain ⟨y0, h0⟩ := hf 0 _ rfl
  (try simp only [e46] at h0); (try simp only [Nat.reduceMul] at h0); (try simp only [List.drop_succ_cons] at h0); (try simp only [List.drop_zero] at h0); (try simp only [List.take_succ_cons] at h0); (try simp only [List.take_zero] at h0)
  obtain ⟨a0, rfl, ba0⟩ := trod_int_cell Tryd.underlying46 h0
  replace ba0 := wf_u8 ba0
  obtain ⟨y1, h1⟩ := hf 1 _ rfl
  (try simp only [e4] at h1); (try simp only [Nat.reduceMul] at h1); (try simp only [List.drop_succ_cons] at h1); (try simp only [List.drop_zero] at h1); (try simp only [List.take_succ_cons] at h1); (try simp only [List.take_zero] at h1)
  obtain ⟨a1, rfl⟩ := trod_bool_cell Tryd.underlying4 h1
  obtain ⟨y2, h2⟩ := hf 2 _ rfl
  (try simp only [e47] at h2); (try simp only [Nat.reduceMul] at h2); (try simp only [List.drop_succ_cons] at h2); (try simp only [List.drop_zero] at h2); (try simp only [List.take_succ_cons] at h2); (try simp only [List.take_zero] at h2)
  obtain ⟨a2, rfl, ba2⟩ := trod_int_cell Tryd.underlying47 h2
  replace ba2 := wf_u32 ba2
  obtain ⟨y3, h3⟩ := hf 3 _ rfl
  (try simp only [e49] at h3); (try simp only [Nat.reduceMul] at h3); (try simp only [List.drop_succ_cons] at h3); (try simp only [List.drop_zero] at h3); (try simp only [List.take_succ_cons] at h3); (try simp only [List.take_zero] at h3)
  obtain ⟨a3, a4, q3, ba3, ba4⟩ := open_49 h3
  simp only [List.cons.injEq, and_true] at q3
  obtain ⟨rfl, rfl⟩ := q3
  obtain ⟨y4, h4⟩ := hf 4 _ rfl
  (try simp only [e50] at h4); (try simp only [Nat.reduceMul] at h4); (try simp only [List.drop_succ_cons] at h4); (try simp only [List.drop_zero] at h4); (try simp only [List.take_succ_cons] at h4); (try simp only [List.take_zero] at h4)
  obtain ⟨a5, a6, q4, ba5, ba6⟩ := open_50 h4
  simp only [List.cons.injEq, and_true] at q4
  obtain ⟨rfl, rfl⟩ := q4
  exact ⟨a0, a1, a2, a3, a4, a5, a6, rfl, ba0, ba2, ba3, ba4, ba5, ba6⟩

theorem call_open {H : Type} {enc : TypeId × Value → H} {w : World} {base : Nat} {spare : Nat → Bool} {held : Bool} {fuel : Nat} {cs : List Value} {x : DataW H × List MemPlace} (h : DataW.trod enc Tryd.prog w base spare held fuel 52 cs = some x) : ∃ c : CallD, cs = c.cells ∧ c.ok := by
  obtain ⟨a0, a1, a2, a3, a4, a5, a6, rfl, h0, h2, h3, h4, h5, h6⟩ := open_52 h
  exact ⟨⟨a0, a1, a2, a3, a4, a5, a6⟩, rfl, h0, h2, h3, h4, h5, h6⟩
set_option linter.unusedVariables false in
theorem open_54 {H : Type} {enc : TypeId × Value → H} {w : World} {base : Nat} {spare : Nat → Bool} {held : Bool} {fuel : Nat} {cs : List Value} {x : DataW H × List MemPlace} (h : DataW.trod enc Tryd.prog w base spare held fuel 54 cs = some x) :
    ∃ (a0 : Int) (a1 : Int) (a2 : Int) (a3 : Int) (a4_a : Option Addr) (a4_l a4_c : Nat) (a5_a : Option Addr) (a5_l a5_c : Nat) (a6 : ByteArray) (a7 : Bool) (a8 : Bool) (a9 : Int) (a10 : Bool) (a11 : Int) (a12 : Int) (a13 : Int) (a14 : ByteArray) (a15 : ByteArray) (a16 : Bool), cs = [Value.int .u8 a0, Value.int .u8 a1, Value.int .u8 a2, Value.int .u8 a3, Value.slice a4_a a4_l a4_c, Value.slice a5_a a5_l a5_c, Value.string a6, Value.bool a7, Value.bool a8, Value.int .u8 a9, Value.bool a10, Value.int .u32 a11, Value.int .u64 a12, Value.int .u64 a13, Value.string a14, Value.string a15, Value.bool a16] ∧ (0 ≤ a0 ∧ a0 < 256) ∧ (0 ≤ a1 ∧ a1 < 256) ∧ (0 ≤ a2 ∧ a2 < 256) ∧ (0 ≤ a3 ∧ a3 < 256) ∧ (∃ fuel y, DataW.trod enc Tryd.prog w base spare held fuel 22 [Value.slice a4_a a4_l a4_c] = some y) ∧ (∃ fuel y, DataW.trod enc Tryd.prog w base spare held fuel 22 [Value.slice a5_a a5_l a5_c] = some y) ∧ a6.size ≤ maxLen ∧ (0 ≤ a9 ∧ a9 < 256) ∧ (0 ≤ a11 ∧ a11 < 4294967296) ∧ (0 ≤ a12 ∧ a12 < 18446744073709551616) ∧ (0 ≤ a13 ∧ a13 < 18446744073709551616) ∧ a14.size ≤ maxLen ∧ a15.size ≤ maxLen := by
  obtain ⟨n, rfl, hlen, hf⟩ := trod_fields Tryd.underlying54 h
  rw [(by kernel_rfl : Tryd.prog.cellsOf 54 = 17)] at hlen
  obtain ⟨c0, c1, c2, c3, c4, c5, c6, c7, c8, c9, c10, c11, c12, c13, c14, c15, c16, rfl⟩ := lst_17 hlen
  have e4 : Tryd.prog.cellsOf 4 = 1 := by kernel_rfl
  have e5 : Tryd.prog.cellsOf 5 = 1 := by kernel_rfl
  have e9 : Tryd.prog.cellsOf 9 = 1 := by kernel_rfl
  have e22 : Tryd.prog.cellsOf 22 = 1 := by kernel_rfl
  have e52 : Tryd.prog.cellsOf 52 = 7 := by kernel_rfl
  obtain ⟨y0, h0⟩ := hf 0 _ rfl
  (try simp only [e5] at h0); (try simp only [Nat.reduceMul] at h0); (try simp only [List.drop_succ_cons] at h0); (try simp only [List.drop_zero] at h0); (try simp only [List.take_succ_cons] at h0); (try simp only [List.take_zero] at h0)
  obtain ⟨a0, rfl, ba0⟩ := trod_int_cell Tryd.underlying5 h0
  replace ba0 := wf_u8 ba0
  obtain ⟨y1, h1⟩ := hf 1 _ rfl
  (try simp only [e5] at h1); (try simp only [Nat.reduceMul] at h1); (try simp only [List.drop_succ_cons] at h1); (try simp only [List.drop_zero] at h1); (try simp only [List.take_succ_cons] at h1); (try simp only [List.take_zero] at h1)
  obtain ⟨a1, rfl, ba1⟩ := trod_int_cell Tryd.underlying5 h1
  replace ba1 := wf_u8 ba1
  obtain ⟨y2, h2⟩ := hf 2 _ rfl
  (try simp only [e5] at h2); (try simp only [Nat.reduceMul] at h2); (try simp only [List.drop_succ_cons] at h2); (try simp only [List.drop_zero] at h2); (try simp only [List.take_succ_cons] at h2); (try simp only [List.take_zero] at h2)
  obtain ⟨a2, rfl, ba2⟩ := trod_int_cell Tryd.underlying5 h2
  replace ba2 := wf_u8 ba2
  obtain ⟨y3, h3⟩ := hf 3 _ rfl
  (try simp only [e5] at h3); (try simp only [Nat.reduceMul] at h3); (try simp only [List.drop_succ_cons] at h3); (try simp only [List.drop_zero] at h3); (try simp only [List.take_succ_cons] at h3); (try simp only [List.take_zero] at h3)
  obtain ⟨a3, rfl, ba3⟩ := trod_int_cell Tryd.underlying5 h3
  replace ba3 := wf_u8 ba3
  obtain ⟨y4, h4⟩ := hf 4 _ rfl
  (try simp only [e22] at h4); (try simp only [Nat.reduceMul] at h4); (try simp only [List.drop_succ_cons] at h4); (try simp only [List.drop_zero] at h4); (try simp only [List.take_succ_cons] at h4); (try simp only [List.take_zero] at h4)
  obtain ⟨a4_a, a4_l, a4_c, rfl⟩ := trod_slice_cell Tryd.underlying22 h4
  have ba4 : ∃ fuel y, DataW.trod enc Tryd.prog w base spare held fuel 22 [Value.slice a4_a a4_l a4_c] = some y := ⟨_, _, h4⟩
  obtain ⟨y5, h5⟩ := hf 5 _ rfl
  (try simp only [e22] at h5); (try simp only [Nat.reduceMul] at h5); (try simp only [List.drop_succ_cons] at h5); (try simp only [List.drop_zero] at h5); (try simp only [List.take_succ_cons] at h5); (try simp only [List.take_zero] at h5)
  obtain ⟨a5_a, a5_l, a5_c, rfl⟩ := trod_slice_cell Tryd.underlying22 h5
  have ba5 : ∃ fuel y, DataW.trod enc Tryd.prog w base spare held fuel 22 [Value.slice a5_a a5_l a5_c] = some y := ⟨_, _, h5⟩
  obtain ⟨y6, h6⟩ := hf 6 _ rfl
  (try simp only [e9] at h6); (try simp only [Nat.reduceMul] at h6); (try simp only [List.drop_succ_cons] at h6); (try simp only [List.drop_zero] at h6); (try simp only [List.take_succ_cons] at h6); (try simp only [List.take_zero] at h6)
  obtain ⟨a6, rfl, ba6⟩ := trod_string_cell Tryd.underlying9 h6
  obtain ⟨y7, h7⟩ := hf 7 _ rfl
  (try simp only [e4] at h7); (try simp only [Nat.reduceMul] at h7); (try simp only [List.drop_succ_cons] at h7); (try simp only [List.drop_zero] at h7); (try simp only [List.take_succ_cons] at h7); (try simp only [List.take_zero] at h7)
  obtain ⟨a7, rfl⟩ := trod_bool_cell Tryd.underlying4 h7
  obtain ⟨y8, h8⟩ := hf 8 _ rfl
  (try simp only [e4] at h8); (try simp only [Nat.reduceMul] at h8); (try simp only [List.drop_succ_cons] at h8); (try simp only [List.drop_zero] at h8); (try simp only [List.take_succ_cons] at h8); (try simp only [List.take_zero] at h8)
  obtain ⟨a8, rfl⟩ := trod_bool_cell Tryd.underlying4 h8
  obtain ⟨y9, h9⟩ := hf 9 _ rfl
  (try simp only [e52] at h9); (try simp only [Nat.reduceMul] at h9); (try simp only [List.drop_succ_cons] at h9); (try simp only [List.drop_zero] at h9); (try simp only [List.take_succ_cons] at h9); (try simp only [List.take_zero] at h9)
  obtain ⟨a9, a10, a11, a12, a13, a14, a15, q9, ba9, ba11, ba12, ba13, ba14, ba15⟩ := open_52 h9
  simp only [List.cons.injEq, and_true] at q9
  obtain ⟨rfl, rfl, rfl, rfl, rfl, rfl, rfl⟩ := q9
  obtain ⟨y10, h10⟩ := hf 10 _ rfl
  (try simp only [e4] at h10); (try simp only [Nat.reduceMul] at h10); (try simp only [List.drop_succ_cons] at h10); (try simp only [List.drop_zero] at h10); (try simp only [List.take_succ_cons] at h10); (try simp only [List.take_zero] at h10)
  obtain ⟨a16, rfl⟩ := trod_bool_cell Tryd.underlying4 h10
  exact ⟨a0, a1, a2, a3, a4_a, a4_l, a4_c, a5_a, a5_l, a5_c, a6, a7, a8, a9, a10, a11, a12, a13, a14, a15, a16, rfl, ba0, ba1, ba2, ba3, ba4, ba5, ba6, ba9, ba11, ba12, ba13, ba14, ba15⟩

theorem small26_open {H : Type} {enc : TypeId × Value → H} {w : World} {base : Nat} {spare : Nat → Bool} {held : Bool} {fuel : Nat} {cs : List Value} {x : DataW H × List MemPlace} (h : DataW.trod enc Tryd.prog w base spare held fuel 54 cs = some x) : ∃ (s : SmD) (B : List Blk), cs = s.cells ∧ s.ok B ∧ ROnly w B := by
  obtain ⟨a0, a1, a2, a3, a4a, a4l, a4c, a5a, a5l, a5c, a6, a7, a8, a9, a10, a11, a12, a13, a14, a15, a16, rfl, h0, h1, h2, h3, ⟨f4, y4, h4⟩, ⟨f5, y5, h5⟩, h6, h9, h11, h12, h13, h14, h15⟩ := open_54 h
  obtain ⟨l1, B1, rfl, g1, s1, r1, m1, _, _⟩ := slice_list (cells := u8v) (ok := fun n : Int => 0 ≤ n ∧ n < 256) Tryd.underlying22 (sz := 1) (by kernel_rfl) (by omega) (fun _ _ => rfl) (fun _ _ _ h => u8_open h) h4
  obtain ⟨l2, B2, rfl, g2, s2, r2, m2, _, _⟩ := slice_list (cells := u8v) (ok := fun n : Int => 0 ≤ n ∧ n < 256) Tryd.underlying22 (sz := 1) (by kernel_rfl) (by omega) (fun _ _ => rfl) (fun _ _ _ h => u8_open h) h5
  rw [u8v_flat] at s1 s2
  exact ⟨⟨a0, a1, a2, a3, l1, a4a, a4c, l2, a5a, a5c, a6, a7, a8, ⟨a9, a10, a11, a12, a13, a14, a15⟩, a16⟩, B1 ++ B2, rfl, ⟨h0, h1, h2, h3, g1, m1, s1.left, g2, m2, s2.upA B1, h6, ⟨h9, h11, h12, h13, h14, h15⟩⟩, r1.app r2⟩
end Go.Proofs.YtpdnigifoaoflaaDoor
