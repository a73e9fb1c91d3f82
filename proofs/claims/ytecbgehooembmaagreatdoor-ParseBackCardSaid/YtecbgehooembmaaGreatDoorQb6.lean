/- The law ParseBack returns true at every input and leaves its arguments as they were. No condition. -/
import Derived.Test.YtecbgehooembmaaGreatDoorQb5
set_option maxRecDepth 100000
namespace Go.Proofs.YtecbgehooembmaaGreatDoor
open Go Go.RowKit
section
variable {H : Type} {enc : TypeId × Value → H} {P : Program} {w : World} {base : Nat} {spare : Nat → Bool} {held : Bool}
theorem slice_listB {X : Type} {cells : X → List Value} {ok : List Blk → X → Prop} {t e : TypeId} {sz fuel : Nat} {a : Option Addr} {len cap : Nat} {x : DataW H × List MemPlace} (ht : P.underlying t = some (.slice e)) (hsz : P.cellsOf e = sz) (h0 : 0 < sz)
  (hl : ∀ B C x, ok B x → ok (B ++ C) x) (hr : ∀ B C x, ok C x → ok (B ++ C) x)
  (hel : ∀ n cs y, DataW.trod enc P w base spare held n e cs = some y → ∃ x B, cs = cells x ∧ ok B x ∧ ROnly w B) (h : DataW.trod enc P w base spare held fuel t [.slice a len cap] = some x) :
  ∃ (l : List X) (B : List Blk), l.length = len ∧ (∀ x ∈ l, ok B x) ∧ Sli B a len sz (l.flatMap cells) ∧ ROnly w B ∧ len ≤ maxLen ∧ len ≤ cap ∧ cap ≤ maxLen := by
 by_cases hln : 0 < len
 ·obtain ⟨b, off, acs, T, fr, n, rfl, hb, h1, h2, hall⟩ := slice_block ht hsz h0 h hln
  have key : ∀ m, m ≤ len → ∃ (l : List X) (B : List Blk), l.length = m ∧ (∀ x ∈ l, ok B x) ∧ (acs.toList.drop off).take (m * sz) = l.flatMap cells ∧ ROnly w B := by
   intro m
   induction m with
   | zero => intro _; exact ⟨[], [], rfl, by simp, by simp, ROnly.nil⟩
   | succ m ih =>
    intro hm
    obtain ⟨l, B, e1, e2, e3, e4⟩ := ih (by omega)
    obtain ⟨cs, y, hc1, hc2, hc3, hc4⟩ := hall m (by omega)
    obtain ⟨x, C, rfl, hx, hC⟩ := hel _ _ _ hc2
    refine ⟨l ++ [x], B ++ C, by simp [e1], ?_, ?_, e4.app hC⟩
    ·intro z hz
     rcases List.mem_append.1 hz with hz | hz
     ·exact hl _ _ _ (e2 z hz)
     ·rw [List.mem_singleton.1 hz]; exact hr _ _ _ hx
    ·rw [List.flatMap_append, ← e3, Nat.add_mul, Nat.one_mul, List.take_add, List.drop_drop]
     congr 1
     have := congrArg Array.toList hc4
     simp only [Array.toList_extract, List.extract_eq_take_drop] at this
     rw [Nat.add_sub_cancel_left] at this
     simpa using this
  obtain ⟨l, B, e1, e2, e3, e4⟩ := key len (Nat.le_refl _)
  obtain ⟨_, _, _, _, hc3, _⟩ := hall (len - 1) (by omega)
  have hmul : (len - 1) * sz + sz = len * sz := by
   obtain ⟨q, rfl⟩ : ∃ q, len = q + 1 := ⟨len - 1, by omega⟩
   rw [Nat.add_sub_cancel, Nat.add_mul, Nat.one_mul]
  refine ⟨l, [⟨false, b, .cells acs T fr⟩] ++ B, e1, fun x hx => hr _ _ _ (e2 x hx), Sli.of (i:=0) rfl (by omega) e3, ROnly.app ?_ e4, by omega, by omega, by omega⟩
  intro p hp
  rw [List.mem_singleton.1 hp]
  exact ⟨rfl, hb⟩
 ·rcases trod_slice ht h with ⟨rfl, rfl, rfl⟩ | ⟨p, n, rfl, _, h2, h3, _⟩
  ·exact ⟨[], [], rfl, by simp, ⟨by simp, .inl rfl⟩, ROnly.nil, by omega, by omega, by omega⟩
  ·obtain rfl : len = 0 := by omega
   exact ⟨[], [], rfl, by simp, ⟨by simp, .inl rfl⟩, ROnly.nil, by omega, by omega, by omega⟩
end
def u8ok (n : Int) : Prop := 0 ≤ n ∧ n < 256
def u8v (n : Int) : List Value := [.int .u8 n]
theorem u8v_flat (l : List Int) : l.flatMap u8v = u8l l := by induction l with | nil => rfl | cons n r ih => simpa [u8v, u8l] using ih
theorem u8_open {H : Type} {enc : TypeId × Value → H} {w : World} {base : Nat} {spare : Nat → Bool} {held : Bool} {fuel : Nat} {cs : List Value} {x : DataW H × List MemPlace} (h : DataW.trod enc Tryz.prog w base spare held fuel 5 cs = some x) : ∃ n : Int, cs = u8v n ∧ (0 ≤ n ∧ n < 256) := by
 obtain ⟨n, rfl, hw⟩ := trod_int_any Tryz.underlying5 h
 exact ⟨n, rfl, wf_u8 hw⟩
theorem i_nat {n : Int} {k : Int} (h : 0 ≤ n ∧ n < k) : ∃ m : Nat, n = (m : Int) := ⟨n.toNat, by omega⟩
set_option linter.unusedVariables false in
theorem open_95 {H : Type} {enc : TypeId × Value → H} {w : World} {base : Nat} {spare : Nat → Bool} {held : Bool} {fuel : Nat} {cs : List Value} {x : DataW H × List MemPlace} (h : DataW.trod enc Tryz.prog w base spare held fuel 95 cs = some x) :
  ∃ (a0 : Int) (a1 : Int) (a2 : Int) (a3 : Int), cs = [Value.int .u8 a0, Value.int .u8 a1, Value.int .u8 a2, Value.int .u8 a3] ∧ (0 ≤ a0 ∧ a0 < 256) ∧ (0 ≤ a1 ∧ a1 < 256) ∧ (0 ≤ a2 ∧ a2 < 256) ∧ (0 ≤ a3 ∧ a3 < 256) := by
 obtain ⟨n, rfl, hlen, hf⟩ := h5i Tryz.underlying95 h
 rw [(by kernel_rfl : Tryz.prog.cellsOf 95 = 4)] at hlen
 obtain ⟨c0, c1, c2, c3, rfl⟩ := lst_4 hlen
 have e5 : Tryz.prog.cellsOf 5 = 1 := by kernel_rfl
 obtain ⟨y0, h0⟩ := hf 0 _ rfl
 (try simp only [e5] at h0); (try simp only [Nat.reduceMul] at h0); (try simp only [List.drop_succ_cons] at h0); (try simp only [List.drop_zero] at h0); (try simp only [List.take_succ_cons] at h0); (try simp only [List.take_zero] at h0)
 obtain ⟨a0, rfl, ba0⟩ := h1q Tryz.underlying5 h0
 replace ba0 := wf_u8 ba0
 obtain ⟨y1, h1⟩ := hf 1 _ rfl
 (try simp only [e5] at h1); (try simp only [Nat.reduceMul] at h1); (try simp only [List.drop_succ_cons] at h1); (try simp only [List.drop_zero] at h1); (try simp only [List.take_succ_cons] at h1); (try simp only [List.take_zero] at h1)
 obtain ⟨a1, rfl, ba1⟩ := h1q Tryz.underlying5 h1
 replace ba1 := wf_u8 ba1
 obtain ⟨y2, h2⟩ := hf 2 _ rfl
 (try simp only [e5] at h2); (try simp only [Nat.reduceMul] at h2); (try simp only [List.drop_succ_cons] at h2); (try simp only [List.drop_zero] at h2); (try simp only [List.take_succ_cons] at h2); (try simp only [List.take_zero] at h2)
 obtain ⟨a2, rfl, ba2⟩ := h1q Tryz.underlying5 h2
 replace ba2 := wf_u8 ba2
 obtain ⟨y3, h3⟩ := hf 3 _ rfl
 (try simp only [e5] at h3); (try simp only [Nat.reduceMul] at h3); (try simp only [List.drop_succ_cons] at h3); (try simp only [List.drop_zero] at h3); (try simp only [List.take_succ_cons] at h3); (try simp only [List.take_zero] at h3)
 obtain ⟨a3, rfl, ba3⟩ := h1q Tryz.underlying5 h3
 replace ba3 := wf_u8 ba3
 exact ⟨a0, a1, a2, a3, rfl, ba0, ba1, ba2, ba3⟩
set_option linter.unusedVariables false in
theorem open_91 {H : Type} {enc : TypeId × Value → H} {w : World} {base : Nat} {spare : Nat → Bool} {held : Bool} {fuel : Nat} {cs : List Value} {x : DataW H × List MemPlace} (h : DataW.trod enc Tryz.prog w base spare held fuel 91 cs = some x) :
  ∃ (a0 : Int) (a1 : Int) (a2 : Int) (a3_a : Option Addr) (a3_l a3_c : Nat), cs = [Value.int .u8 a0, Value.int .u8 a1, Value.int .u8 a2, Value.slice a3_a a3_l a3_c] ∧ (0 ≤ a0 ∧ a0 < 256) ∧ (0 ≤ a1 ∧ a1 < 256) ∧ (0 ≤ a2 ∧ a2 < 256) ∧ (∃ fuel y, DataW.trod enc Tryz.prog w base spare held fuel 89 [Value.slice a3_a a3_l a3_c] = some y) := by
 obtain ⟨n, rfl, hlen, hf⟩ := h5i Tryz.underlying91 h
 rw [(by kernel_rfl : Tryz.prog.cellsOf 91 = 4)] at hlen
 obtain ⟨c0, c1, c2, c3, rfl⟩ := lst_4 hlen
 have e5 : Tryz.prog.cellsOf 5 = 1 := by kernel_rfl
 have e89 : Tryz.prog.cellsOf 89 = 1 := by kernel_rfl
 obtain ⟨y0, h0⟩ := hf 0 _ rfl
 (try simp only [e5] at h0); (try simp only [Nat.reduceMul] at h0); (try simp only [List.drop_succ_cons] at h0); (try simp only [List.drop_zero] at h0); (try simp only [List.take_succ_cons] at h0); (try simp only [List.take_zero] at h0)
 obtain ⟨a0, rfl, ba0⟩ := h1q Tryz.underlying5 h0
 replace ba0 := wf_u8 ba0
 obtain ⟨y1, h1⟩ := hf 1 _ rfl
 (try simp only [e5] at h1); (try simp only [Nat.reduceMul] at h1); (try simp only [List.drop_succ_cons] at h1); (try simp only [List.drop_zero] at h1); (try simp only [List.take_succ_cons] at h1); (try simp only [List.take_zero] at h1)
 obtain ⟨a1, rfl, ba1⟩ := h1q Tryz.underlying5 h1
 replace ba1 := wf_u8 ba1
 obtain ⟨y2, h2⟩ := hf 2 _ rfl
 (try simp only [e5] at h2); (try simp only [Nat.reduceMul] at h2); (try simp only [List.drop_succ_cons] at h2); (try simp only [List.drop_zero] at h2); (try simp only [List.take_succ_cons] at h2); (try simp only [List.take_zero] at h2)
 obtain ⟨a2, rfl, ba2⟩ := h1q Tryz.underlying5 h2
 replace ba2 := wf_u8 ba2
 obtain ⟨y3, h3⟩ := hf 3 _ rfl
 (try simp only [e89] at h3); (try simp only [Nat.reduceMul] at h3); (try simp only [List.drop_succ_cons] at h3); (try simp only [List.drop_zero] at h3); (try simp only [List.take_succ_cons] at h3); (try simp only [List.take_zero] at h3)
 obtain ⟨a3_a, a3_l, a3_c, rfl⟩ := h3n Tryz.underlying89 h3
 have ba3 : ∃ fuel y, DataW.trod enc Tryz.prog w base spare held fuel 89 [Value.slice a3_a a3_l a3_c] = some y := ⟨_, _, h3⟩
 exact ⟨a0, a1, a2, a3_a, a3_l, a3_c, rfl, ba0, ba1, ba2, ba3⟩
set_option linter.unusedVariables false in
theorem open_48 {H : Type} {enc : TypeId × Value → H} {w : World} {base : Nat} {spare : Nat → Bool} {held : Bool} {fuel : Nat} {cs : List Value} {x : DataW H × List MemPlace} (h : DataW.trod enc Tryz.prog w base spare held fuel 48 cs = some x) :
  ∃ (a0 : Int) (a1 : Int) (a2 : Int) (a3_a : Option Addr) (a3_l a3_c : Nat) (a4 : Int) (a5_a : Option Addr) (a5_l a5_c : Nat) (a6_a : Option Addr) (a6_l a6_c : Nat) (a7_a : Option Addr) (a7_l a7_c : Nat), cs = [Value.int .u8 a0, Value.int .u8 a1, Value.int .u8 a2, Value.slice a3_a a3_l a3_c, Value.int .u16 a4, Value.slice a5_a a5_l a5_c, Value.slice a6_a a6_l a6_c, Value.slice a7_a a7_l a7_c] ∧ (0 ≤ a0 ∧ a0 < 256) ∧ (0 ≤ a1 ∧ a1 < 256) ∧ (0 ≤ a2 ∧ a2 < 256) ∧ (∃ fuel y, DataW.trod enc Tryz.prog w base spare held fuel 44 [Value.slice a3_a a3_l a3_c] = some y) ∧ (0 ≤ a4 ∧ a4 < 65536) ∧ (∃ fuel y, DataW.trod enc Tryz.prog w base spare held fuel 45 [Value.slice a5_a a5_l a5_c] = some y) ∧ (∃ fuel y, DataW.trod enc Tryz.prog w base spare held fuel 46 [Value.slice a6_a a6_l a6_c] = some y) ∧ (∃ fuel y, DataW.trod enc Tryz.prog w base spare held fuel 45 [Value.slice a7_a a7_l a7_c] = some y) := by
 obtain ⟨n, rfl, hlen, hf⟩ := h5i Tryz.underlying48 h
 rw [(by kernel_rfl : Tryz.prog.cellsOf 48 = 8)] at hlen
 obtain ⟨c0, c1, c2, c3, c4, c5, c6, c7, rfl⟩ := lst_8 hlen
 have e5 : Tryz.prog.cellsOf 5 = 1 := by kernel_rfl
 have e31 : Tryz.prog.cellsOf 31 = 1 := by kernel_rfl
 have e44 : Tryz.prog.cellsOf 44 = 1 := by kernel_rfl
 have e45 : Tryz.prog.cellsOf 45 = 1 := by kernel_rfl
 have e46 : Tryz.prog.cellsOf 46 = 1 := by kernel_rfl
 obtain ⟨y0, h0⟩ := hf 0 _ rfl
 (try simp only [e5] at h0); (try simp only [Nat.reduceMul] at h0); (try simp only [List.drop_succ_cons] at h0); (try simp only [List.drop_zero] at h0); (try simp only [List.take_succ_cons] at h0); (try simp only [List.take_zero] at h0)
 obtain ⟨a0, rfl, ba0⟩ := h1q Tryz.underlying5 h0
 replace ba0 := wf_u8 ba0
 obtain ⟨y1, h1⟩ := hf 1 _ rfl
 (try simp only [e5] at h1); (try simp only [Nat.reduceMul] at h1); (try simp only [List.drop_succ_cons] at h1); (try simp only [List.drop_zero] at h1); (try simp only [List.take_succ_cons] at h1); (try simp only [List.take_zero] at h1)
 obtain ⟨a1, rfl, ba1⟩ := h1q Tryz.underlying5 h1
 replace ba1 := wf_u8 ba1
 obtain ⟨y2, h2⟩ := hf 2 _ rfl
 (try simp only [e5] at h2); (try simp only [Nat.reduceMul] at h2); (try simp only [List.drop_succ_cons] at h2); (try simp only [List.drop_zero] at h2); (try simp only [List.take_succ_cons] at h2); (try simp only [List.take_zero] at h2)
 obtain ⟨a2, rfl, ba2⟩ := h1q Tryz.underlying5 h2
 replace ba2 := wf_u8 ba2
 obtain ⟨y3, h3⟩ := hf 3 _ rfl
 (try simp only [e44] at h3); (try simp only [Nat.reduceMul] at h3); (try simp only [List.drop_succ_cons] at h3); (try simp only [List.drop_zero] at h3); (try simp only [List.take_succ_cons] at h3); (try simp only [List.take_zero] at h3)
 obtain ⟨a3_a, a3_l, a3_c, rfl⟩ := h3n Tryz.underlying44 h3
 have ba3 : ∃ fuel y, DataW.trod enc Tryz.prog w base spare held fuel 44 [Value.slice a3_a a3_l a3_c] = some y := ⟨_, _, h3⟩
 obtain ⟨y4, h4⟩ := hf 4 _ rfl
 (try simp only [e31] at h4); (try simp only [Nat.reduceMul] at h4); (try simp only [List.drop_succ_cons] at h4); (try simp only [List.drop_zero] at h4); (try simp only [List.take_succ_cons] at h4); (try simp only [List.take_zero] at h4)
 obtain ⟨a4, rfl, ba4⟩ := h1q Tryz.underlying31 h4
 replace ba4 := wf_u16 ba4
 obtain ⟨y5, h5⟩ := hf 5 _ rfl
 (try simp only [e45] at h5); (try simp only [Nat.reduceMul] at h5); (try simp only [List.drop_succ_cons] at h5); (try simp only [List.drop_zero] at h5); (try simp only [List.take_succ_cons] at h5); (try simp only [List.take_zero] at h5)
 obtain ⟨a5_a, a5_l, a5_c, rfl⟩ := h3n Tryz.underlying45 h5
 have ba5 : ∃ fuel y, DataW.trod enc Tryz.prog w base spare held fuel 45 [Value.slice a5_a a5_l a5_c] = some y := ⟨_, _, h5⟩
 obtain ⟨y6, h6⟩ := hf 6 _ rfl
 (try simp only [e46] at h6); (try simp only [Nat.reduceMul] at h6); (try simp only [List.drop_succ_cons] at h6); (try simp only [List.drop_zero] at h6); (try simp only [List.take_succ_cons] at h6); (try simp only [List.take_zero] at h6)
 obtain ⟨a6_a, a6_l, a6_c, rfl⟩ := h3n Tryz.underlying46 h6
 have ba6 : ∃ fuel y, DataW.trod enc Tryz.prog w base spare held fuel 46 [Value.slice a6_a a6_l a6_c] = some y := ⟨_, _, h6⟩
 obtain ⟨y7, h7⟩ := hf 7 _ rfl
 (try simp only [e45] at h7); (try simp only [Nat.reduceMul] at h7); (try simp only [List.drop_succ_cons] at h7); (try simp only [List.drop_zero] at h7); (try simp only [List.take_succ_cons] at h7); (try simp only [List.take_zero] at h7)
 obtain ⟨a7_a, a7_l, a7_c, rfl⟩ := h3n Tryz.underlying45 h7
 have ba7 : ∃ fuel y, DataW.trod enc Tryz.prog w base spare held fuel 45 [Value.slice a7_a a7_l a7_c] = some y := ⟨_, _, h7⟩
 exact ⟨a0, a1, a2, a3_a, a3_l, a3_c, a4, a5_a, a5_l, a5_c, a6_a, a6_l, a6_c, a7_a, a7_l, a7_c, rfl, ba0, ba1, ba2, ba3, ba4, ba5, ba6, ba7⟩
theorem u16_open {H : Type} {enc : TypeId × Value → H} {w : World} {base : Nat} {spare : Nat → Bool} {held : Bool} {fuel : Nat} {cs : List Value} {x : DataW H × List MemPlace} (h : DataW.trod enc Tryz.prog w base spare held fuel 31 cs = some x) : ∃ n : Int, cs = [.int .u16 n] ∧ (0 ≤ n ∧ n < 65536) := by
 obtain ⟨n, rfl, hw⟩ := trod_int_any Tryz.underlying31 h
 exact ⟨n, rfl, wf_u16 hw⟩
def u16v (n : Int) : List Value := [.int .u16 n]
theorem u16v_flat (l : List Int) : l.flatMap u16v = u16g l := by induction l with | nil => rfl | cons n r ih => simpa [u16v, u16g] using ih
theorem scond_open {H : Type} {enc : TypeId × Value → H} {w : World} {base : Nat} {spare : Nat → Bool} {held : Bool} {fuel : Nat} {cs : List Value} {x : DataW H × List MemPlace} (h : DataW.trod enc Tryz.prog w base spare held fuel 95 cs = some x) : ∃ c : SCnd, cs = c.cells ∧ c.ok := by
 obtain ⟨a0, a1, a2, a3, rfl, h0, h1, h2, h3⟩ := open_95 h
 exact ⟨⟨a0, a1, a2, a3⟩, rfl, h0, h1, h2, h3⟩
structure SRulV where
 r : SRul
 v : Value
def SRulV.cells (x : SRulV) : List Value := [.int .u8 x.r.c, .int .u8 x.r.a, .int .u8 x.r.e, x.v]
structure SRulV.ok (B : List Blk) (x : SRulV) : Prop where
 r : x.r.ok
 v : SCndS B x.v x.r.conds
theorem srul_open {H : Type} {enc : TypeId × Value → H} {w : World} {base : Nat} {spare : Nat → Bool} {held : Bool} {fuel : Nat} {cs : List Value} {x : DataW H × List MemPlace} (h : DataW.trod enc Tryz.prog w base spare held fuel 91 cs = some x) : ∃ (r : SRulV) (B : List Blk), cs = r.cells ∧ r.ok B ∧ ROnly w B := by
 obtain ⟨a0, a1, a2, a3a, a3l, a3c, rfl, h0, h1, h2, ⟨f3, y3, h3⟩⟩ := open_91 h
 obtain ⟨l1, B1, rfl, g1, s1, r1, m1, _, _⟩ := slice_list (cells:=SCnd.cells) (ok:=SCnd.ok) Tryz.underlying89 (sz:=4) (by kernel_rfl) (by omega) (fun _ _ => rfl) (fun _ _ _ h => scond_open h) h3
 exact ⟨⟨⟨a0, a1, a2, l1⟩, _⟩, B1, rfl, ⟨⟨h0, h1, h2, g1⟩, ⟨a3a, a3c, rfl, s1, m1⟩⟩, r1⟩
theorem srulG_of {B : List Blk} : ∀ l : List SRulV, (∀ x ∈ l, x.ok B) → SRulG B (l.map SRulV.r) (l.flatMap SRulV.cells)
 | [], _ => rfl
 | x :: r, h => ⟨x.v, r.flatMap SRulV.cells, rfl, (h x (List.mem_cons_self ..)).v, srulG_of r fun y hy => h y (List.mem_cons_of_mem _ hy)⟩
structure SmlV where
 s : SPol
 vr : Value
 vp : Value
 vg : Value
 vq : Value
abbrev SmlV.cells (x : SmlV) : List Value := [.int .u8 x.s.nm, .int .u8 x.s.df, .int .u8 x.s.en, x.vr, .int .u16 (x.s.hd : Nat), x.vp, x.vg, x.vq]
structure SmlV.ok (B : List Blk) (x : SmlV) : Prop where
 s : x.s.ok
 v : SPolS B x.s x.vr x.vp x.vg x.vq
theorem SmlV.ok.mono {B L : List Blk} {x : SmlV} (h : x.ok B) (hs : SubB B L) : x.ok L := ⟨h.s, h.v.mono hs⟩
theorem small_openP {H : Type} {enc : TypeId × Value → H} {w : World} {base : Nat} {spare : Nat → Bool} {held : Bool} {fuel : Nat} {cs : List Value} {x : DataW H × List MemPlace} (h : DataW.trod enc Tryz.prog w base spare held fuel 48 cs = some x) : ∃ (s : SmlV) (B : List Blk), cs = s.cells ∧ s.ok B ∧ ROnly w B := by
 obtain ⟨a0, a1, a2, a3a, a3l, a3c, a4, a5a, a5l, a5c, a6a, a6l, a6c, a7a, a7l, a7c, rfl, h0, h1, h2, ⟨f3, y3, h3⟩, h4, ⟨f5, y5, h5⟩, ⟨f6, y6, h6⟩, ⟨f7, y7, h7⟩⟩ := open_48 h
 obtain ⟨l3, B3, rfl, g3, s3, r3, m3, -, -⟩ := slice_listB (cells:=SRulV.cells) (ok:=SRulV.ok) Tryz.underlying44 (sz:=4) (by kernel_rfl) (by omega) (fun _ _ _ h => ⟨h.r, h.v.left⟩) (fun _ _ _ h => ⟨h.r, h.v.upA _⟩) (fun _ _ _ h => srul_open h) h3
 obtain ⟨l5, B5, rfl, g5, s5, r5, m5, -, -⟩ := slice_list (cells:=u8v) (ok:=u8ok) Tryz.underlying45 (sz:=1) (by kernel_rfl) (by omega) (fun _ _ => rfl) (fun _ _ _ h => u8_open h) h5
 obtain ⟨l6, B6, rfl, g6, s6, r6, m6, -, -⟩ := slice_list (cells:=u16v) (ok:=fun n : Int => 0 ≤ n ∧ n < 65536) Tryz.underlying46 (sz:=1) (by kernel_rfl) (by omega) (fun _ _ => rfl) (fun _ _ _ h => u16_open h) h6
 obtain ⟨l7, B7, rfl, g7, s7, r7, m7, -, -⟩ := slice_list (cells:=u8v) (ok:=u8ok) Tryz.underlying45 (sz:=1) (by kernel_rfl) (by omega) (fun _ _ => rfl) (fun _ _ _ h => u8_open h) h7
 rw [u8v_flat] at s5 s7
 rw [u16v_flat] at s6
 obtain ⟨hd, rfl⟩ := i_nat h4
 have e3 : (l3.map SRulV.r).length = l3.length := List.length_map ..
 refine ⟨⟨⟨a0, a1, a2, l3.map SRulV.r, hd, l5, l6, l7⟩, _, _, _, _⟩, B3 ++ (B5 ++ (B6 ++ B7)), rfl, ⟨⟨h0, h1, h2, ?_, by show hd < 65536; omega, g5, g6, g7⟩, ⟨⟨a3a, a3c, l3.flatMap SRulV.cells, by rw [e3], by rw [e3]; exact s3.left, (srulG_of l3 g3).left⟩, ⟨a5a, a5c, rfl, (s5.left).upA B3⟩, ⟨a6a, a6c, rfl, ((s6.left).upA B5).upA B3⟩, ⟨a7a, a7c, rfl, ((s7.upA B6).upA B5).upA B3⟩, by show (l3.map SRulV.r).length ≤ maxLen; rw [e3]; exact m3, m5, m6, m7⟩⟩, r3.app (r5.app (r6.app r7))⟩
 intro r hr
 obtain ⟨x, hx, rfl⟩ := List.mem_map.1 hr
 exact (g3 x hx).r
set_option linter.unusedVariables false in
theorem open_99 {H : Type} {enc : TypeId × Value → H} {w : World} {base : Nat} {spare : Nat → Bool} {held : Bool} {fuel : Nat} {cs : List Value} {x : DataW H × List MemPlace} (h : DataW.trod enc Tryz.prog w base spare held fuel 99 cs = some x) :
  ∃ (a0 : Int) (a1 : Int) (a2 : Int) (a3 : Int), cs = [Value.int .i64 a0, Value.int .u8 a1, Value.int .u64 a2, Value.int .u64 a3] ∧ (-9223372036854775808 ≤ a0 ∧ a0 < 9223372036854775808) ∧ (0 ≤ a1 ∧ a1 < 256) ∧ (0 ≤ a2 ∧ a2 < 18446744073709551616) ∧ (0 ≤ a3 ∧ a3 < 18446744073709551616) := by
 obtain ⟨n, rfl, hlen, hf⟩ := h5i Tryz.underlying99 h
 rw [(by kernel_rfl : Tryz.prog.cellsOf 99 = 4)] at hlen
 obtain ⟨c0, c1, c2, c3, rfl⟩ := lst_4 hlen
 have e3 : Tryz.prog.cellsOf 3 = 1 := by kernel_rfl
 have e96 : Tryz.prog.cellsOf 96 = 1 := by kernel_rfl
 have e97 : Tryz.prog.cellsOf 97 = 1 := by kernel_rfl
 obtain ⟨y0, h0⟩ := hf 0 _ rfl
 (try simp only [e3] at h0); (try simp only [Nat.reduceMul] at h0); (try simp only [List.drop_succ_cons] at h0); (try simp only [List.drop_zero] at h0); (try simp only [List.take_succ_cons] at h0); (try simp only [List.take_zero] at h0)
 obtain ⟨a0, rfl, ba0⟩ := h1q Tryz.underlying3 h0
 replace ba0 := wf_i64 ba0
 obtain ⟨y1, h1⟩ := hf 1 _ rfl
 (try simp only [e96] at h1); (try simp only [Nat.reduceMul] at h1); (try simp only [List.drop_succ_cons] at h1); (try simp only [List.drop_zero] at h1); (try simp only [List.take_succ_cons] at h1); (try simp only [List.take_zero] at h1)
 obtain ⟨a1, rfl, ba1⟩ := h1q Tryz.underlying96 h1
 replace ba1 := wf_u8 ba1
 obtain ⟨y2, h2⟩ := hf 2 _ rfl
 (try simp only [e97] at h2); (try simp only [Nat.reduceMul] at h2); (try simp only [List.drop_succ_cons] at h2); (try simp only [List.drop_zero] at h2); (try simp only [List.take_succ_cons] at h2); (try simp only [List.take_zero] at h2)
 obtain ⟨a2, rfl, ba2⟩ := h1q Tryz.underlying97 h2
 replace ba2 := wf_u64 ba2
 obtain ⟨y3, h3⟩ := hf 3 _ rfl
 (try simp only [e97] at h3); (try simp only [Nat.reduceMul] at h3); (try simp only [List.drop_succ_cons] at h3); (try simp only [List.drop_zero] at h3); (try simp only [List.take_succ_cons] at h3); (try simp only [List.take_zero] at h3)
 obtain ⟨a3, rfl, ba3⟩ := h1q Tryz.underlying97 h3
 replace ba3 := wf_u64 ba3
 exact ⟨a0, a1, a2, a3, rfl, ba0, ba1, ba2, ba3⟩
set_option linter.unusedVariables false in
theorem open_73 {H : Type} {enc : TypeId × Value → H} {w : World} {base : Nat} {spare : Nat → Bool} {held : Bool} {fuel : Nat} {cs : List Value} {x : DataW H × List MemPlace} (h : DataW.trod enc Tryz.prog w base spare held fuel 73 cs = some x) :
  ∃ (a0 : Int) (a1 : Int) (a2_a : Option Addr) (a2_l a2_c : Nat), cs = [Value.int .u32 a0, Value.int .u32 a1, Value.slice a2_a a2_l a2_c] ∧ (0 ≤ a0 ∧ a0 < 4294967296) ∧ (0 ≤ a1 ∧ a1 < 4294967296) ∧ (∃ fuel y, DataW.trod enc Tryz.prog w base spare held fuel 71 [Value.slice a2_a a2_l a2_c] = some y) := by
 obtain ⟨n, rfl, hlen, hf⟩ := h5i Tryz.underlying73 h
 rw [(by kernel_rfl : Tryz.prog.cellsOf 73 = 3)] at hlen
 obtain ⟨c0, c1, c2, rfl⟩ := lst_3 hlen
 have e28 : Tryz.prog.cellsOf 28 = 1 := by kernel_rfl
 have e29 : Tryz.prog.cellsOf 29 = 1 := by kernel_rfl
 have e71 : Tryz.prog.cellsOf 71 = 1 := by kernel_rfl
 obtain ⟨y0, h0⟩ := hf 0 _ rfl
 (try simp only [e28] at h0); (try simp only [Nat.reduceMul] at h0); (try simp only [List.drop_succ_cons] at h0); (try simp only [List.drop_zero] at h0); (try simp only [List.take_succ_cons] at h0); (try simp only [List.take_zero] at h0)
 obtain ⟨a0, rfl, ba0⟩ := h1q Tryz.underlying28 h0
 replace ba0 := wf_u32 ba0
 obtain ⟨y1, h1⟩ := hf 1 _ rfl
 (try simp only [e29] at h1); (try simp only [Nat.reduceMul] at h1); (try simp only [List.drop_succ_cons] at h1); (try simp only [List.drop_zero] at h1); (try simp only [List.take_succ_cons] at h1); (try simp only [List.take_zero] at h1)
 obtain ⟨a1, rfl, ba1⟩ := h1q Tryz.underlying29 h1
 replace ba1 := wf_u32 ba1
 obtain ⟨y2, h2⟩ := hf 2 _ rfl
 (try simp only [e71] at h2); (try simp only [Nat.reduceMul] at h2); (try simp only [List.drop_succ_cons] at h2); (try simp only [List.drop_zero] at h2); (try simp only [List.take_succ_cons] at h2); (try simp only [List.take_zero] at h2)
 obtain ⟨a2_a, a2_l, a2_c, rfl⟩ := h3n Tryz.underlying71 h2
 have ba2 : ∃ fuel y, DataW.trod enc Tryz.prog w base spare held fuel 71 [Value.slice a2_a a2_l a2_c] = some y := ⟨_, _, h2⟩
 exact ⟨a0, a1, a2_a, a2_l, a2_c, rfl, ba0, ba1, ba2⟩
set_option linter.unusedVariables false in
theorem open_104 {H : Type} {enc : TypeId × Value → H} {w : World} {base : Nat} {spare : Nat → Bool} {held : Bool} {fuel : Nat} {cs : List Value} {x : DataW H × List MemPlace} (h : DataW.trod enc Tryz.prog w base spare held fuel 104 cs = some x) :
  ∃ (a0 : ByteArray) (a1 : Int), cs = [Value.string a0, Value.int .u16 a1] ∧ a0.size ≤ maxLen ∧ (0 ≤ a1 ∧ a1 < 65536) := by
 obtain ⟨n, rfl, hlen, hf⟩ := h5i Tryz.underlying104 h
 rw [(by kernel_rfl : Tryz.prog.cellsOf 104 = 2)] at hlen
 obtain ⟨c0, c1, rfl⟩ := lst_2 hlen
 have e9 : Tryz.prog.cellsOf 9 = 1 := by kernel_rfl
 have e32 : Tryz.prog.cellsOf 32 = 1 := by kernel_rfl
 obtain ⟨y0, h0⟩ := hf 0 _ rfl
 (try simp only [e9] at h0); (try simp only [Nat.reduceMul] at h0); (try simp only [List.drop_succ_cons] at h0); (try simp only [List.drop_zero] at h0); (try simp only [List.take_succ_cons] at h0); (try simp only [List.take_zero] at h0)
 obtain ⟨a0, rfl, ba0⟩ := trod_string_cell Tryz.underlying9 h0
 obtain ⟨y1, h1⟩ := hf 1 _ rfl
 (try simp only [e32] at h1); (try simp only [Nat.reduceMul] at h1); (try simp only [List.drop_succ_cons] at h1); (try simp only [List.drop_zero] at h1); (try simp only [List.take_succ_cons] at h1); (try simp only [List.take_zero] at h1)
 obtain ⟨a1, rfl, ba1⟩ := h1q Tryz.underlying32 h1
 replace ba1 := wf_u16 ba1
 exact ⟨a0, a1, rfl, ba0, ba1⟩
set_option linter.unusedVariables false in
theorem open_106 {H : Type} {enc : TypeId × Value → H} {w : World} {base : Nat} {spare : Nat → Bool} {held : Bool} {fuel : Nat} {cs : List Value} {x : DataW H × List MemPlace} (h : DataW.trod enc Tryz.prog w base spare held fuel 106 cs = some x) :
  ∃ (a0 : Int) (a1 : Int), cs = [Value.int .u16 a0, Value.int .u16 a1] ∧ (0 ≤ a0 ∧ a0 < 65536) ∧ (0 ≤ a1 ∧ a1 < 65536) := by
 obtain ⟨n, rfl, hlen, hf⟩ := h5i Tryz.underlying106 h
 rw [(by kernel_rfl : Tryz.prog.cellsOf 106 = 2)] at hlen
 obtain ⟨c0, c1, rfl⟩ := lst_2 hlen
 have e31 : Tryz.prog.cellsOf 31 = 1 := by kernel_rfl
 have e32 : Tryz.prog.cellsOf 32 = 1 := by kernel_rfl
 obtain ⟨y0, h0⟩ := hf 0 _ rfl
 (try simp only [e31] at h0); (try simp only [Nat.reduceMul] at h0); (try simp only [List.drop_succ_cons] at h0); (try simp only [List.drop_zero] at h0); (try simp only [List.take_succ_cons] at h0); (try simp only [List.take_zero] at h0)
 obtain ⟨a0, rfl, ba0⟩ := h1q Tryz.underlying31 h0
 replace ba0 := wf_u16 ba0
 obtain ⟨y1, h1⟩ := hf 1 _ rfl
 (try simp only [e32] at h1); (try simp only [Nat.reduceMul] at h1); (try simp only [List.drop_succ_cons] at h1); (try simp only [List.drop_zero] at h1); (try simp only [List.take_succ_cons] at h1); (try simp only [List.take_zero] at h1)
 obtain ⟨a1, rfl, ba1⟩ := h1q Tryz.underlying32 h1
 replace ba1 := wf_u16 ba1
 exact ⟨a0, a1, rfl, ba0, ba1⟩
set_option linter.unusedVariables false in
theorem open_36 {H : Type} {enc : TypeId × Value → H} {w : World} {base : Nat} {spare : Nat → Bool} {held : Bool} {fuel : Nat} {cs : List Value} {x : DataW H × List MemPlace} (h : DataW.trod enc Tryz.prog w base spare held fuel 36 cs = some x) :
  ∃ (a0 : ByteArray) (a1 : Int) (a2_a : Option Addr) (a2_l a2_c : Nat) (a3 : Int) (a4_a : Option Addr) (a4_l a4_c : Nat) (a5_a : Option Addr) (a5_l a5_c : Nat), cs = [Value.string a0, Value.int .u32 a1, Value.slice a2_a a2_l a2_c, Value.int .u16 a3, Value.slice a4_a a4_l a4_c, Value.slice a5_a a5_l a5_c] ∧ a0.size ≤ maxLen ∧ (0 ≤ a1 ∧ a1 < 4294967296) ∧ (∃ fuel y, DataW.trod enc Tryz.prog w base spare held fuel 30 [Value.slice a2_a a2_l a2_c] = some y) ∧ (0 ≤ a3 ∧ a3 < 65536) ∧ (∃ fuel y, DataW.trod enc Tryz.prog w base spare held fuel 33 [Value.slice a4_a a4_l a4_c] = some y) ∧ (∃ fuel y, DataW.trod enc Tryz.prog w base spare held fuel 34 [Value.slice a5_a a5_l a5_c] = some y) := by
 obtain ⟨n, rfl, hlen, hf⟩ := h5i Tryz.underlying36 h
 rw [(by kernel_rfl : Tryz.prog.cellsOf 36 = 6)] at hlen
 obtain ⟨c0, c1, c2, c3, c4, c5, rfl⟩ := lst_6 hlen
 have e9 : Tryz.prog.cellsOf 9 = 1 := by kernel_rfl
 have e29 : Tryz.prog.cellsOf 29 = 1 := by kernel_rfl
 have e30 : Tryz.prog.cellsOf 30 = 1 := by kernel_rfl
 have e32 : Tryz.prog.cellsOf 32 = 1 := by kernel_rfl
 have e33 : Tryz.prog.cellsOf 33 = 1 := by kernel_rfl
 have e34 : Tryz.prog.cellsOf 34 = 1 := by kernel_rfl
 obtain ⟨y0, h0⟩ := hf 0 _ rfl
 (try simp only [e9] at h0); (try simp only [Nat.reduceMul] at h0); (try simp only [List.drop_succ_cons] at h0); (try simp only [List.drop_zero] at h0); (try simp only [List.take_succ_cons] at h0); (try simp only [List.take_zero] at h0)
 obtain ⟨a0, rfl, ba0⟩ := trod_string_cell Tryz.underlying9 h0
 obtain ⟨y1, h1⟩ := hf 1 _ rfl
 (try simp only [e29] at h1); (try simp only [Nat.reduceMul] at h1); (try simp only [List.drop_succ_cons] at h1); (try simp only [List.drop_zero] at h1); (try simp only [List.take_succ_cons] at h1); (try simp only [List.take_zero] at h1)
 obtain ⟨a1, rfl, ba1⟩ := h1q Tryz.underlying29 h1
 replace ba1 := wf_u32 ba1
 obtain ⟨y2, h2⟩ := hf 2 _ rfl
 (try simp only [e30] at h2); (try simp only [Nat.reduceMul] at h2); (try simp only [List.drop_succ_cons] at h2); (try simp only [List.drop_zero] at h2); (try simp only [List.take_succ_cons] at h2); (try simp only [List.take_zero] at h2)
 obtain ⟨a2_a, a2_l, a2_c, rfl⟩ := h3n Tryz.underlying30 h2
 have ba2 : ∃ fuel y, DataW.trod enc Tryz.prog w base spare held fuel 30 [Value.slice a2_a a2_l a2_c] = some y := ⟨_, _, h2⟩
 obtain ⟨y3, h3⟩ := hf 3 _ rfl
 (try simp only [e32] at h3); (try simp only [Nat.reduceMul] at h3); (try simp only [List.drop_succ_cons] at h3); (try simp only [List.drop_zero] at h3); (try simp only [List.take_succ_cons] at h3); (try simp only [List.take_zero] at h3)
 obtain ⟨a3, rfl, ba3⟩ := h1q Tryz.underlying32 h3
 replace ba3 := wf_u16 ba3
 obtain ⟨y4, h4⟩ := hf 4 _ rfl
 (try simp only [e33] at h4); (try simp only [Nat.reduceMul] at h4); (try simp only [List.drop_succ_cons] at h4); (try simp only [List.drop_zero] at h4); (try simp only [List.take_succ_cons] at h4); (try simp only [List.take_zero] at h4)
 obtain ⟨a4_a, a4_l, a4_c, rfl⟩ := h3n Tryz.underlying33 h4
 have ba4 : ∃ fuel y, DataW.trod enc Tryz.prog w base spare held fuel 33 [Value.slice a4_a a4_l a4_c] = some y := ⟨_, _, h4⟩
 obtain ⟨y5, h5⟩ := hf 5 _ rfl
 (try simp only [e34] at h5); (try simp only [Nat.reduceMul] at h5); (try simp only [List.drop_succ_cons] at h5); (try simp only [List.drop_zero] at h5); (try simp only [List.take_succ_cons] at h5); (try simp only [List.take_zero] at h5)
 obtain ⟨a5_a, a5_l, a5_c, rfl⟩ := h3n Tryz.underlying34 h5
 have ba5 : ∃ fuel y, DataW.trod enc Tryz.prog w base spare held fuel 34 [Value.slice a5_a a5_l a5_c] = some y := ⟨_, _, h5⟩
 exact ⟨a0, a1, a2_a, a2_l, a2_c, a3, a4_a, a4_l, a4_c, a5_a, a5_l, a5_c, rfl, ba0, ba1, ba2, ba3, ba4, ba5⟩
theorem gcnd_open {H : Type} {enc : TypeId × Value → H} {w : World} {base : Nat} {spare : Nat → Bool} {held : Bool} {fuel : Nat} {cs : List Value} {x : DataW H × List MemPlace} (h : DataW.trod enc Tryz.prog w base spare held fuel 99 cs = some x) : ∃ c : GCnd, cs = c.cells ∧ c.ok := by
 obtain ⟨a0, a1, a2, a3, rfl, h0, h1, h2, h3⟩ := open_99 h
 obtain ⟨o, rfl⟩ := i_nat h1
 obtain ⟨m, rfl⟩ := i_nat h2
 obtain ⟨v, rfl⟩ := i_nat h3
 exact ⟨⟨a0, o, m, v⟩, rfl, h0, by show o < 256; omega, by show m < _; omega, by show v < _; omega⟩
structure GRulV where
 r : GRul
 v : Value
def GRulV.cells (x : GRulV) : List Value := [.int .u32 x.r.num, .int .u32 x.r.act, x.v]
structure GRulV.ok (B : List Blk) (x : GRulV) : Prop where
 r : x.r.ok
 v : CndS B x.v x.r.conds
theorem grul_open {H : Type} {enc : TypeId × Value → H} {w : World} {base : Nat} {spare : Nat → Bool} {held : Bool} {fuel : Nat} {cs : List Value} {x : DataW H × List MemPlace} (h : DataW.trod enc Tryz.prog w base spare held fuel 73 cs = some x) : ∃ (r : GRulV) (B : List Blk), cs = r.cells ∧ r.ok B ∧ ROnly w B := by
 obtain ⟨a0, a1, a2a, a2l, a2c, rfl, h0, h1, ⟨f2, y2, h2⟩⟩ := open_73 h
 obtain ⟨l1, B1, rfl, g1, s1, r1, m1, _, _⟩ := slice_list (cells:=GCnd.cells) (ok:=GCnd.ok) Tryz.underlying71 (sz:=4) (by kernel_rfl) (by omega) (fun _ _ => rfl) (fun _ _ _ h => gcnd_open h) h2
 exact ⟨⟨⟨a0, a1, l1⟩, _⟩, B1, rfl, ⟨⟨h0, h1, g1⟩, ⟨a2a, a2c, rfl, s1, m1⟩⟩, r1⟩
theorem grulG_of {B : List Blk} : ∀ l : List GRulV, (∀ x ∈ l, x.ok B) → RulsG B (l.map GRulV.r) (l.flatMap GRulV.cells)
 | [], _ => rfl
 | x :: r, h => ⟨x.v, r.flatMap GRulV.cells, rfl, (h x (List.mem_cons_self ..)).v, grulG_of r fun y hy => h y (List.mem_cons_of_mem _ hy)⟩
def ptcV (p : List UInt8 × Nat) : List Value := [.string (mB8 p.1), .int .u16 (p.2 : Nat)]
theorem ptc_open {H : Type} {enc : TypeId × Value → H} {w : World} {base : Nat} {spare : Nat → Bool} {held : Bool} {fuel : Nat} {cs : List Value} {x : DataW H × List MemPlace} (h : DataW.trod enc Tryz.prog w base spare held fuel 104 cs = some x) : ∃ p : List UInt8 × Nat, cs = ptcV p ∧ (p.1.length ≤ maxLen ∧ p.2 < 65536) := by
 obtain ⟨a0, a1, rfl, h0, h1⟩ := open_104 h
 obtain ⟨n, rfl⟩ := i_nat h1
 exact ⟨(lB a0, n), by rw [ptcV, mB8_lB], by rw [h2x]; exact h0, by show n < 65536; omega⟩
def prcV (p : Nat × Nat) : List Value := [.int .u16 (p.1 : Nat), .int .u16 (p.2 : Nat)]
theorem prc_open {H : Type} {enc : TypeId × Value → H} {w : World} {base : Nat} {spare : Nat → Bool} {held : Bool} {fuel : Nat} {cs : List Value} {x : DataW H × List MemPlace} (h : DataW.trod enc Tryz.prog w base spare held fuel 106 cs = some x) : ∃ p : Nat × Nat, cs = prcV p ∧ (p.1 < 65536 ∧ p.2 < 65536) := by
 obtain ⟨a0, a1, rfl, h0, h1⟩ := open_106 h
 obtain ⟨n, rfl⟩ := i_nat h0
 obtain ⟨m, rfl⟩ := i_nat h1
 exact ⟨(n, m), rfl, by show n < 65536; omega, by show m < 65536; omega⟩
structure GplV where
 P : GPol
 vr : Value
 vp : Value
 vq : Value
abbrev GplV.cells (x : GplV) : List Value := polG x.P x.vr x.vp x.vq
structure GplV.ok (B : List Blk) (x : GplV) : Prop where
 r : GPolR x.P
 v : PolS B x.P x.vr x.vp x.vq
theorem GplV.ok.mono {B L : List Blk} {x : GplV} (h : x.ok B) (hs : SubB B L) : x.ok L := ⟨h.r, h.v.mono hs⟩
theorem policy_open {H : Type} {enc : TypeId × Value → H} {w : World} {base : Nat} {spare : Nat → Bool} {held : Bool} {fuel : Nat} {cs : List Value} {x : DataW H × List MemPlace} (h : DataW.trod enc Tryz.prog w base spare held fuel 36 cs = some x) : ∃ (s : GplV) (B : List Blk), cs = s.cells ∧ s.ok B ∧ ROnly w B := by
 obtain ⟨a0, a1, a2a, a2l, a2c, a3, a4a, a4l, a4c, a5a, a5l, a5c, rfl, h0, h1, ⟨f2, y2, h2⟩, h3, ⟨f4, y4, h4⟩, ⟨f5, y5, h5⟩⟩ := open_36 h
 obtain ⟨l2, B2, rfl, g2, s2, r2, m2, -, -⟩ := slice_listB (cells:=GRulV.cells) (ok:=GRulV.ok) Tryz.underlying30 (sz:=3) (by kernel_rfl) (by omega) (fun _ _ _ h => ⟨h.r, h.v.left⟩) (fun _ _ _ h => ⟨h.r, h.v.upA _⟩) (fun _ _ _ h => grul_open h) h2
 obtain ⟨l4, B4, rfl, g4, s4, r4, m4, -, -⟩ := slice_list (cells:=ptcV) (ok:=fun p : List UInt8 × Nat => p.1.length ≤ maxLen ∧ p.2 < 65536) Tryz.underlying33 (sz:=2) (by kernel_rfl) (by omega) (fun _ _ => rfl) (fun _ _ _ h => ptc_open h) h4
 obtain ⟨l5, B5, rfl, g5, s5, r5, m5, -, -⟩ := slice_list (cells:=prcV) (ok:=fun p : Nat × Nat => p.1 < 65536 ∧ p.2 < 65536) Tryz.underlying34 (sz:=2) (by kernel_rfl) (by omega) (fun _ _ => rfl) (fun _ _ _ h => prc_open h) h5
 obtain ⟨hd, rfl⟩ := i_nat h3
 have e2 : (l2.map GRulV.r).length = l2.length := List.length_map ..
 refine ⟨⟨⟨lB a0, a1, l2.map GRulV.r, hd, l4, l5⟩, _, _, _⟩, B2 ++ (B4 ++ B5), by rw [GplV.cells, polG, mB8_lB], ⟨⟨by show (lB a0).length ≤ maxLen; rw [h2x]; exact h0, h1, ?_, by show hd < 65536; omega, g4, g5⟩, ⟨⟨a2a, a2c, l2.flatMap GRulV.cells, by rw [e2], by rw [e2]; exact s2.left, (grulG_of l2 g2).left⟩, ⟨a4a, a4c, rfl, (s4.left).upA B2⟩, ⟨a5a, a5c, rfl, (s5.upA B4).upA B2⟩, by show (l2.map GRulV.r).length ≤ maxLen; rw [e2]; exact m2, m4, m5⟩⟩, r2.app (r4.app r5)⟩
 intro r hr
 obtain ⟨x, hx, rfl⟩ := List.mem_map.1 hr
 exact (g2 x hx).r
end Go.Proofs.YtecbgehooembmaaGreatDoor
namespace Go.Proofs.YtecbgehooembmaaGreatDoor
open Go.ChangeShapes Go.WideShapes Go.ChangeAt Go.RowKit
theorem ownParseBack : ownKnob Tryz.prog.godebug = none := by kernel_rfl
theorem laidParseBack : laidOutB Tryz.prog = true := by kernel_rfl
theorem parseBack_lifted (os : Os) (started : os.Started) (H : Type) (enc : TypeId × Value → H) :
  ReturnsInHanded {} Tryz.checked os 6 .any (fun w args => (Rows.parseBackSpec.pre enc Tryz.prog Tryz.f6 [] false w args ∧ laidMetH Tryz.prog Rows.parseBackRow.laid w) ∧ sizedMet enc Tryz.prog Tryz.f6 (OpenSpec.ofChange Rows.parseBackSpec) false w args)
   (Rows.parseBackSpec.post enc Tryz.prog Tryz.f6 false true false false) := by
 refine returnsInHanded_of_change_and (C:=Tryz.checked) (X:=fun w _ => laidMetH Tryz.prog Rows.parseBackRow.laid w) (fun _ _ _ hh h => h.of_heap hh) ownParseBack started (by kernel_rfl) Tryz.func6
  (ChangeSpec.witness_shaped (enc:=enc) (C:=Tryz.checked) (os:=os) (X:=fun w _ => laidMetH Tryz.prog Rows.parseBackRow.laid w) false (World.laidAll Tryz.prog os Rows.parseBackRow.laid) #[.agg #[.int .u8 0, .int .u8 0, .int .u8 0, .slice none 0 0, .int .u16 0, .slice none 0 0, .slice none 0 0, .slice none 0 0], .agg #[.string ⟨#[]⟩, .int .u32 0, .slice none 0 0, .int .u16 0, .slice none 0 0, .slice none 0 0], .bool false] 8 (World.laidAll_os _ _ _)
   (World.shaped_of_ZipB (by kernel_rfl) (by kernel_rfl)) (by kernel_rfl) (by kernel_rfl) (by kernel_rfl)
   (by rw [MakeChecks.laidMetH_plain _ _ _ (by kernel_rfl)]; exact laidMet_laidAll _ (by kernel_rfl) (by kernel_rfl))) ?_
 intro W base args ds gs before hval0 hW _ _ _ _
 have hval : ∀ (j : Nat) t v, Tryz.f6.params[j]? = some t → args[j]? = some v → Value.okWide Tryz.prog W .any base t v := hval0
 have hW' := hW
 obtain ⟨p, q, hA0, hV, rfl, hfz, hnd⟩ := hW
 have hA : DataW.TrodAll enc Tryz.prog W 0 (fun _ => true) true Tryz.f6.params.toList args.toList ds p := hA0
 rw [Tryz.params6] at hA hval
 obtain ⟨v0, vs0, d0, ds0, p0, q0, hargs, rfl, rfl, h0, r0⟩ := trodAll_cons hA
 obtain ⟨v1, vs1, d1, ds1, p1, q1, rfl, rfl, rfl, h1, r1⟩ := trodAll_cons r0
 obtain ⟨v2, vs2, d2, ds2, p2, q2, rfl, rfl, rfl, h2, r2⟩ := trodAll_cons r1
 obtain ⟨rfl, rfl, rfl⟩ := trodAll_nil r2
 obtain rfl : args = #[v0, v1, v2] := by cases args; simp_all
 obtain ⟨rfl, rfl⟩ := trodVars_none hV
 have k0 := h0
 have lt0 : ∀ x ∈ p0, x.block < W.heap.size := by obtain ⟨m, hm⟩ := k0; exact DataW.trod_lt m _ _ _ hm
 have k1 := h1
 have lt1 : ∀ x ∈ p1, x.block < W.heap.size := by obtain ⟨m, hm⟩ := k1; exact DataW.trod_lt m _ _ _ hm
 have k2 := h2
 have lt2 : ∀ x ∈ p2, x.block < W.heap.size := by obtain ⟨m, hm⟩ := k2; exact DataW.trod_lt m _ _ _ hm
 obtain ⟨a2, rfl⟩ := okWide_bool Tryz.underlying4 (hval 2 4 v2 rfl rfl)
 obtain ⟨cs0, rfl, _⟩ := okWide_struct Tryz.underlying48 (hval 0 48 v0 rfl rfl)
 obtain ⟨f0, hf0⟩ := h0
 obtain ⟨a0, B0, e0, b0, ro0⟩ := small_openP hf0
 obtain rfl : cs0 = a0.cells.toArray := by apply Array.ext'; simpa [Value.cells] using e0
 obtain ⟨cs1, rfl, _⟩ := okWide_struct Tryz.underlying36 (hval 1 36 v1 rfl rfl)
 obtain ⟨f1, hf1⟩ := h1
 obtain ⟨a1, B1, e1, b1, ro1⟩ := policy_open hf1
 obtain rfl : cs1 = a1.cells.toArray := by apply Array.ext'; simpa [Value.cells] using e1
 have S0 := b0.mono (L:=(B0 ++ B1)) (SubB.left _ _)
 have S1 := b1.mono (L:=(B0 ++ B1)) (SubB.upA (SubB.refl _))
 clear hA0 hval0
 refine ((parseBack_c (S:=[]) (w0:=W) (L:=(B0 ++ B1)) a0.s S0.s a0.vr a0.vp a0.vg a0.vq S0.v a1.P S1.r a1.vr a1.vp a1.vq S1.v a2).out W (HP.ro (ro0.app ro1))).mono fun e W' ⟨v, L', he, ⟨hv, _⟩, H'⟩ => ?_
 subst he hv
 have bel := H'.below
 exact ⟨_, rfl, _, _, _, [], _, [], hW', trodAll_mk1 (shut_bool Tryz.underlying4 _), (trodAll_cons_mk (Below.trod laidParseBack (by kernel_rfl) (of_decide_eq_true (by kernel_rfl)) k0 bel lt0) (trodAll_cons_mk (Below.trod laidParseBack (by kernel_rfl) (of_decide_eq_true (by kernel_rfl)) k1 bel lt1) (trodAll_cons_mk (Below.trod laidParseBack (by kernel_rfl) (of_decide_eq_true (by kernel_rfl)) k2 bel lt2) trodAll_mk0))), rfl, bel.frame _, fun h => by cases h⟩
theorem parseBack_said : Rows.ParseBackSaid :=
 OpenClaim.holds_of_wide 6 Tryz.f6 rfl rfl rfl rfl rfl rfl rfl ⟨rfl, rfl, rfl, rfl, rfl⟩ rfl rfl rfl rfl rfl (by kernel_rfl) Tryz.func6 (by kernel_rfl)
  (of_decide_eq_true (by kernel_rfl)) (by unfold Func.isWrapper; first | (rw [if_pos (by decide +kernel)]; kernel_rfl) | (rw [if_neg (by decide +kernel)]; exact ⟨rfl, rfl⟩))
  (fun os started H enc _ => parseBack_lifted os started H enc)
theorem parseBack_plain (f : FuncId) (fn : Func) (hf : Tryz.pinned.checked.prog.funcNamed "pinfold/pinfoldlaw10.ParseBack" = some f) (hfn : Tryz.pinned.checked.prog.funcs[f]? = some fn) :
  false = Tryz.pinned.checked.prog.looks [] ∧ ∀ (j : Nat) t, fn.params[j]? = some t → Tryz.pinned.checked.prog.wantsStandIn t = false := by
 obtain rfl : f = 6 := Option.some.inj ((show Tryz.prog.funcNamed "pinfold/pinfoldlaw10.ParseBack" = some 6 by kernel_rfl).symm.trans hf) |>.symm
 obtain rfl : fn = Tryz.f6 := (Option.some.inj (Tryz.func6.symm.trans hfn)).symm
 refine ⟨by kernel_rfl, fun j t ht => ?_⟩
 rw [Tryz.params6] at ht
 have hm : t ∈ [48, 36, 4] := by simpa using Array.mem_of_getElem? ht
 have hall : ([48, 36, 4].all fun u => !Tryz.prog.wantsStandIn u) = true := by kernel_rfl
 exact (show Tryz.prog.wantsStandIn t = false by simpa using List.all_eq_true.1 hall t hm)
theorem parseBack_holds : Rows.ParseBackCardSaid :=
 Claim7.holds_tied_plain_at .later [] _ _ _ _ parseBack_said (fun _ h => by cases h) (by kernel_rfl) (fun _ h => by cases h) parseBack_row_tie rfl ⟨rfl, rfl⟩ (by kernel_rfl) rfl parseBack_plain (by kernel_rfl)
#print axioms parseBack_holds
end Go.Proofs.YtecbgehooembmaaGreatDoor
