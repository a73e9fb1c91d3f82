/- The law TaskPlays returns true at every input and leaves its arguments as they were. No condition. -/
import Derived.Test.YtpbpgbkpciffgaaQt11
set_option maxRecDepth 100000
namespace Go.Proofs.Ytpbpgbkpciffgaa
open Go Go.RowKit
theorem wf_u8 {a : Int} (h : (Lit.int .u8 a).wf = true) : 0 ≤ a ∧ a < 256 := by
 simp [Lit.wf, IntKind.min, IntKind.max, IntKind.signed, IntKind.bits] at h; omega
theorem wf_u16 {a : Int} (h : (Lit.int .u16 a).wf = true) : 0 ≤ a ∧ a < 65536 := by
 simp [Lit.wf, IntKind.min, IntKind.max, IntKind.signed, IntKind.bits] at h; omega
theorem wf_u32 {a : Int} (h : (Lit.int .u32 a).wf = true) : 0 ≤ a ∧ a < 4294967296 := by
 simp [Lit.wf, IntKind.min, IntKind.max, IntKind.signed, IntKind.bits] at h; omega
theorem wf_u64 {a : Int} (h : (Lit.int .u64 a).wf = true) : 0 ≤ a ∧ a < 18446744073709551616 := by
 simp [Lit.wf, IntKind.min, IntKind.max, IntKind.signed, IntKind.bits] at h; omega
theorem wf_i64 {a : Int} (h : (Lit.int .i64 a).wf = true) : -9223372036854775808 ≤ a ∧ a < 9223372036854775808 := by
 simp [Lit.wf, IntKind.min, IntKind.max, IntKind.signed, IntKind.bits] at h; omega
theorem HP.read {w : World} {L : List Blk} (h : ∀ p ∈ L, p.wr = false ∧ w.heap[p.b]? = some p.o) : HP [] w w L :=
 ⟨rfl, rfl, rfl, Nat.le_refl _, fun _ _ _ => rfl, fun p hp => (h p hp).2, fun p hp hw => by simp [(h p hp).1] at hw,
  List.pairwise_of_forall_mem_list fun p hp q hq hw => by rcases hw with hw | hw <;> simp [(h p hp).1, (h q hq).1] at hw⟩
theorem mapM_some {α β : Type} {f : α → Option β} : ∀ {l : List α} {ys : List β}, l.mapM f = some ys → ∀ (i : Nat) (x : α), l[i]? = some x → ∃ y, f x = some y ∧ ys[i]? = some y
 | [], _, _, i, x, hx => by simp at hx
 | a :: l, ys, h, i, x, hx => by
  simp only [List.mapM_cons, Option.pure_def, Option.bind_eq_bind, Option.bind_eq_some_iff] at h
  obtain ⟨y, hy, ys', hys, e⟩ := h
  obtain rfl := Option.some.inj e
  cases i with
  | zero => simp at hx; subst hx; exact ⟨y, hy, by simp⟩
  | succ i => simp at hx; simpa using mapM_some hys i x hx
theorem mapM_len {α β : Type} {f : α → Option β} : ∀ {l : List α} {ys : List β}, l.mapM f = some ys → ys.length = l.length
 | [], ys, h => by simp at h; simp [h]
 | a :: l, ys, h => by
  simp only [List.mapM_cons, Option.pure_def, Option.bind_eq_bind, Option.bind_eq_some_iff] at h
  obtain ⟨y, hy, ys', hys, e⟩ := h
  obtain rfl := Option.some.inj e
  simp [mapM_len hys]
section
variable {H : Type} {enc : TypeId × Value → H} {P : Program} {w : World} {base : Nat} {spare : Nat → Bool} {held : Bool}
theorem trod_fields {t : TypeId} {fs : Array Field} {fuel : Nat} {cs : List Value} {x : DataW H × List MemPlace} (ht : P.underlying t = some (.struct fs))
  (h : DataW.trod enc P w base spare held fuel t cs = some x) :
  ∃ n, fuel = n + 1 ∧ cs.length = P.cellsOf t ∧ ∀ (i : Nat) (f : Field), fs.toList[i]? = some f → ∃ y, DataW.trod enc P w base spare held n f.type ((cs.drop f.offset).take (P.cellsOf f.type)) = some y := by
 cases fuel with
 | zero => simp [DataW.trod] at h
 | succ n =>
  refine ⟨n, rfl, ?_⟩
  unfold DataW.trod at h
  simp only [ht] at h
  split at h
  ·rename_i hlen
   simp only [Option.map_eq_some_iff] at h
   obtain ⟨xs, hxs, _⟩ := h
   exact ⟨hlen, fun i f hf => let ⟨y, hy, _⟩ := mapM_some hxs i f hf; ⟨y, hy⟩⟩
  ·simp at h
theorem trod_slice {t e : TypeId} {fuel : Nat} {a : Option Addr} {len cap : Nat} {x : DataW H × List MemPlace} (ht : P.underlying t = some (.slice e))
  (h : DataW.trod enc P w base spare held fuel t [.slice a len cap] = some x) :
  (a = none ∧ len = 0 ∧ cap = 0) ∨
  ∃ p n, a = some p ∧ fuel = n + 1 ∧ len ≤ cap ∧ cap ≤ maxLen ∧ ∀ i, i < len → ∃ cs y, w.cells? base (p.add (i * P.cellsOf e)) (P.cellsOf e) = some cs ∧ DataW.trod enc P w base spare held n e cs = some y := by
 cases fuel with
 | zero => simp [DataW.trod] at h
 | succ n =>
  cases a with
  | none =>
   left
   unfold DataW.trod at h
   simp only [ht] at h
   cases len <;> cases cap <;> simp_all
  | some p =>
   right
   unfold DataW.trod at h
   simp only [ht] at h
   split at h
   ·rename_i hc
    simp only [Option.bind_eq_some_iff] at h
    obtain ⟨elems, hel, _⟩ := h
    refine ⟨p, n, rfl, rfl, hc.2.1, hc.2.2, fun i hi => ?_⟩
    obtain ⟨y, hy, _⟩ := mapM_some hel i i (by simp [hi])
    simp only [Option.bind_eq_some_iff] at hy
    obtain ⟨cs, hcs, hy⟩ := hy
    exact ⟨cs, y, hcs, hy⟩
   ·simp at h
theorem cells?_get {a : Addr} {n : Nat} {cs : List Value} (h : w.cells? base a n = some cs) : base ≤ a.block ∧ cs.length = n ∧ ∀ j, j < n → w.cell? (a.add j) = cs[j]? := by
 unfold World.cells? at h
 split at h
 ·rename_i hb
  refine ⟨hb, by simpa using mapM_len h, fun j hj => ?_⟩
  obtain ⟨y, hy, hy'⟩ := mapM_some h j j (by simp [hj])
  rw [hy, hy']
 ·simp at h
theorem h3j {t : TypeId} {k : IntKind} {fuel : Nat} {c : Value} {y : DataW H × List MemPlace} (ht : P.underlying t = some (.int k)) (h : DataW.trod enc P w base spare held fuel t [c] = some y) :
  ∃ n, c = .int k n ∧ (Lit.int k n).wf = true := by
 cases fuel with
 | zero => simp [DataW.trod] at h
 | succ f =>
  unfold DataW.trod at h
  rw [ht] at h
  cases c <;> simp_all
theorem trod_bool_cell {t : TypeId} {fuel : Nat} {c : Value} {y : DataW H × List MemPlace} (ht : P.underlying t = some .bool) (h : DataW.trod enc P w base spare held fuel t [c] = some y) :
  ∃ b, c = .bool b := by
 cases fuel with
 | zero => simp [DataW.trod] at h
 | succ f =>
  unfold DataW.trod at h
  rw [ht] at h
  cases c <;> simp_all
theorem add_none (b off n : Nat) : (⟨b, off, none⟩ : Addr).add n = ⟨b, off + n, none⟩ := by unfold Addr.add; split <;> simp_all
theorem slice_block {t e : TypeId} {fuel : Nat} {a : Option Addr} {len cap : Nat} {x : DataW H × List MemPlace} (ht : P.underlying t = some (.slice e)) {sz : Nat} (hsz : P.cellsOf e = sz) (h0 : 0 < sz)
  (h : DataW.trod enc P w base spare held fuel t [.slice a len cap] = some x) (hlen : 0 < len) :
  ∃ b off acs T fr n, a = some ⟨b, off, none⟩ ∧ w.heap[b]? = some (.cells acs T fr) ∧ len ≤ cap ∧ cap ≤ maxLen ∧
   ∀ i, i < len → ∃ cs y, cs.length = sz ∧ DataW.trod enc P w base spare held n e cs = some y ∧ off + i * sz + sz ≤ acs.size ∧ acs.extract (off + i * sz) (off + i * sz + sz) = cs.toArray := by
 rcases trod_slice ht h with ⟨_, h1, _⟩ | ⟨p, n, rfl, _, hlc, hcm, hel⟩
 ·omega
 ·rw [hsz] at hel
  obtain ⟨cs0, y0, hc0, _⟩ := hel 0 hlen
  obtain ⟨_, hl0, hg0⟩ := cells?_get hc0
  obtain ⟨v, hv⟩ : ∃ v, cs0[0]? = some v := ⟨_, List.getElem?_eq_getElem (by omega)⟩
  have hcell := hg0 0 h0
  rw [hv] at hcell
  obtain ⟨b, off, spot⟩ := p
  have hsp : spot = none := by simpa [Addr.add] using World.cell?_spot hcell
  subst hsp
  simp only [add_none, Nat.zero_mul, Nat.add_zero] at hcell
  obtain ⟨acs, T, fr, hb⟩ : ∃ acs T fr, w.heap[b]? = some (.cells acs T fr) := by
   unfold World.cell? at hcell
   cases hq : w.heap[b]? with
   | none => simp [hq] at hcell
   | some ob =>
    cases ob with
    | cells acs T fr => exact ⟨acs, T, fr, rfl⟩
    | _ => simp [hq] at hcell
  refine ⟨b, off, acs, T, fr, n, rfl, hb, hlc, hcm, fun i hi => ?_⟩
  obtain ⟨cs, y, hcs, hy⟩ := hel i hi
  obtain ⟨_, hl, hg⟩ := cells?_get hcs
  have hget : ∀ j, j < sz → acs[off + i * sz + j]? = cs[j]? := by
   intro j hj
   have := hg j hj
   simp only [add_none] at this
   rw [cell_of_row w b _ acs T fr hb] at this
   exact this
  have hsize : off + i * sz + sz ≤ acs.size := by
   have := hget (sz - 1) (by omega)
   rw [List.getElem?_eq_getElem (by omega)] at this
   have h3 := Array.getElem?_eq_some_iff.1 this
   obtain ⟨h3, _⟩ := h3
   omega
  refine ⟨cs, y, hl, hy, hsize, ?_⟩
  apply Array.ext_getElem?
  intro j
  by_cases hj : j < sz
  ·rw [Array.getElem?_extract, if_pos (by omega), hget j hj]
   simp
  ·rw [Array.getElem?_extract, if_neg (by omega)]
   simp; omega
end
theorem lst_2 {cs : List Value} (h : cs.length = 2) : ∃ c0 c1, cs = [c0, c1] := by
 match cs, h with
 | [_, _], _ => exact ⟨_, _, rfl⟩
theorem lst_6 {cs : List Value} (h : cs.length = 6) : ∃ c0 c1 c2 c3 c4 c5, cs = [c0, c1, c2, c3, c4, c5] := by
 match cs, h with
 | [_, _, _, _, _, _], _ => exact ⟨_, _, _, _, _, _, rfl⟩
theorem lst_8 {cs : List Value} (h : cs.length = 8) : ∃ c0 c1 c2 c3 c4 c5 c6 c7, cs = [c0, c1, c2, c3, c4, c5, c6, c7] := by
 match cs, h with
 | [_, _, _, _, _, _, _, _], _ => exact ⟨_, _, _, _, _, _, _, _, rfl⟩
theorem lst_9 {cs : List Value} (h : cs.length = 9) : ∃ c0 c1 c2 c3 c4 c5 c6 c7 c8, cs = [c0, c1, c2, c3, c4, c5, c6, c7, c8] := by
 match cs, h with
 | [_, _, _, _, _, _, _, _, _], _ => exact ⟨_, _, _, _, _, _, _, _, _, rfl⟩
section
variable {H : Type} {enc : TypeId × Value → H} {P : Program} {w : World} {base : Nat} {spare : Nat → Bool} {held : Bool}
theorem trod_elems {n : Nat} {t e : TypeId} {fuel : Nat} {cs : List Value} {x : DataW H × List MemPlace} (ht : P.underlying t = some (.array n e)) (h : DataW.trod enc P w base spare held fuel t cs = some x) :
  ∃ m, fuel = m + 1 ∧ cs.length = P.cellsOf t ∧ ∀ i, i < n → ∃ y, DataW.trod enc P w base spare held m e ((cs.drop (i * P.cellsOf e)).take (P.cellsOf e)) = some y := by
 obtain ⟨xs, m, h1, _, h3, h4, h5⟩ := DataW.trod_array ht h
 exact ⟨m, h1, h3, fun i hi => ⟨xs[i]'(by omega), by rw [h5 i hi]; exact List.getElem?_eq_getElem (by omega)⟩⟩
def ROnly (w : World) (B : List Blk) : Prop := ∀ p ∈ B, p.wr = false ∧ w.heap[p.b]? = some p.o
theorem ROnly.nil {w : World} : ROnly w [] := by simp [ROnly]
theorem ROnly.app {w : World} {B C : List Blk} (h : ROnly w B) (h2 : ROnly w C) : ROnly w (B ++ C) := fun p hp => by
 rcases List.mem_append.1 hp with hp | hp
 ·exact h p hp
 ·exact h2 p hp
theorem HP.ro {w : World} {B : List Blk} (h : ROnly w B) : HP [] w w B := HP.read h
theorem Sli.app {L M : List Blk} {a : Option Addr} {len size : Nat} {cells : List Value} (h : Sli L a len size cells) : Sli (L ++ M) a len size cells := h.left
theorem slice_list {X : Type} {cells : X → List Value} {ok : X → Prop} {t e : TypeId} {sz fuel : Nat} {a : Option Addr} {len cap : Nat} {x : DataW H × List MemPlace} (ht : P.underlying t = some (.slice e)) (hsz : P.cellsOf e = sz) (h0 : 0 < sz)
  (hcl : ∀ x, ok x → (cells x).length = sz) (hel : ∀ n cs y, DataW.trod enc P w base spare held n e cs = some y → ∃ x, cs = cells x ∧ ok x) (h : DataW.trod enc P w base spare held fuel t [.slice a len cap] = some x) :
  ∃ (l : List X) (B : List Blk), l.length = len ∧ (∀ x ∈ l, ok x) ∧ Sli B a len sz (l.flatMap cells) ∧ ROnly w B ∧ len ≤ maxLen ∧ len ≤ cap ∧ cap ≤ maxLen := by
 by_cases hl : 0 < len
 ·obtain ⟨b, off, acs, T, fr, n, rfl, hb, h1, h2, hall⟩ := slice_block ht hsz h0 h hl
  have key : ∀ m, m ≤ len → ∃ l : List X, l.length = m ∧ (∀ x ∈ l, ok x) ∧ (acs.toList.drop off).take (m * sz) = l.flatMap cells := by
   intro m
   induction m with
   | zero => intro _; exact ⟨[], rfl, by simp, by simp⟩
   | succ m ih =>
    intro hm
    obtain ⟨l, e1, e2, e3⟩ := ih (by omega)
    obtain ⟨cs, y, hc1, hc2, hc3, hc4⟩ := hall m (by omega)
    obtain ⟨x, rfl, hx⟩ := hel _ _ _ hc2
    refine ⟨l ++ [x], by simp [e1], ?_, ?_⟩
    ·intro z hz
     rcases List.mem_append.1 hz with hz | hz
     ·exact e2 z hz
     ·rw [List.mem_singleton.1 hz]; exact hx
    ·rw [List.flatMap_append, ← e3, Nat.add_mul, Nat.one_mul, List.take_add, List.drop_drop]
     congr 1
     have := congrArg Array.toList hc4
     simp only [Array.toList_extract, List.extract_eq_take_drop] at this
     rw [Nat.add_sub_cancel_left] at this
     simpa using this
  obtain ⟨l, e1, e2, e3⟩ := key len (Nat.le_refl _)
  obtain ⟨_, _, _, _, hc3, _⟩ := hall (len - 1) (by omega)
  have hmul : (len - 1) * sz + sz = len * sz := by
   obtain ⟨q, rfl⟩ : ∃ q, len = q + 1 := ⟨len - 1, by omega⟩
   rw [Nat.add_sub_cancel, Nat.add_mul, Nat.one_mul]
  refine ⟨l, [⟨false, b, .cells acs T fr⟩], e1, e2, Sli.of (i:=0) rfl (by omega) e3, ?_, by omega, by omega, by omega⟩
  intro p hp
  rw [List.mem_singleton.1 hp]
  exact ⟨rfl, hb⟩
 ·rcases trod_slice ht h with ⟨rfl, rfl, rfl⟩ | ⟨p, n, rfl, _, h2, h3, _⟩
  ·exact ⟨[], [], rfl, by simp, ⟨by simp, .inl rfl⟩, ROnly.nil, by omega, by omega, by omega⟩
  ·obtain rfl : len = 0 := by omega
   exact ⟨[], [], rfl, by simp, ⟨by simp, .inl rfl⟩, ROnly.nil, by omega, by omega, by omega⟩
end
set_option linter.unusedVariables false in
theorem open_24 {H : Type} {enc : TypeId × Value → H} {w : World} {base : Nat} {spare : Nat → Bool} {held : Bool} {fuel : Nat} {cs : List Value} {x : DataW H × List MemPlace} (h : DataW.trod enc Try.prog w base spare held fuel 24 cs = some x) :
  ∃ (a0 : Int) (a1 : Int) (a2 : Int) (a3 : Int) (a4 : Int) (a5 : Int), cs = [Value.int .u64 a0, Value.int .u64 a1, Value.int .u64 a2, Value.int .u64 a3, Value.int .u64 a4, Value.int .u64 a5] ∧ (0 ≤ a0 ∧ a0 < 18446744073709551616) ∧ (0 ≤ a1 ∧ a1 < 18446744073709551616) ∧ (0 ≤ a2 ∧ a2 < 18446744073709551616) ∧ (0 ≤ a3 ∧ a3 < 18446744073709551616) ∧ (0 ≤ a4 ∧ a4 < 18446744073709551616) ∧ (0 ≤ a5 ∧ a5 < 18446744073709551616) := by
 obtain ⟨n, rfl, hlen, hf⟩ := trod_elems Try.underlying24 h
 rw [(by kernel_rfl : Try.prog.cellsOf 24 = 6)] at hlen
 obtain ⟨c0, c1, c2, c3, c4, c5, rfl⟩ := lst_6 hlen
 have e23 : Try.prog.cellsOf 23 = 1 := by kernel_rfl
 obtain ⟨y0, h0⟩ := hf 0 (by omega)
 (try simp only [e23] at h0); (try simp only [Nat.reduceMul] at h0); (try simp only [List.drop_succ_cons] at h0); (try simp only [List.drop_zero] at h0); (try simp only [List.take_succ_cons] at h0); (try simp only [List.take_zero] at h0)
 obtain ⟨a0, rfl, ba0⟩ := h3j Try.underlying23 h0
 replace ba0 := wf_u64 ba0
 obtain ⟨y1, h1⟩ := hf 1 (by omega)
 (try simp only [e23] at h1); (try simp only [Nat.reduceMul] at h1); (try simp only [List.drop_succ_cons] at h1); (try simp only [List.drop_zero] at h1); (try simp only [List.take_succ_cons] at h1); (try simp only [List.take_zero] at h1)
 obtain ⟨a1, rfl, ba1⟩ := h3j Try.underlying23 h1
 replace ba1 := wf_u64 ba1
 obtain ⟨y2, h2⟩ := hf 2 (by omega)
 (try simp only [e23] at h2); (try simp only [Nat.reduceMul] at h2); (try simp only [List.drop_succ_cons] at h2); (try simp only [List.drop_zero] at h2); (try simp only [List.take_succ_cons] at h2); (try simp only [List.take_zero] at h2)
 obtain ⟨a2, rfl, ba2⟩ := h3j Try.underlying23 h2
 replace ba2 := wf_u64 ba2
 obtain ⟨y3, h3⟩ := hf 3 (by omega)
 (try simp only [e23] at h3); (try simp only [Nat.reduceMul] at h3); (try simp only [List.drop_succ_cons] at h3); (try simp only [List.drop_zero] at h3); (try simp only [List.take_succ_cons] at h3); (try simp only [List.take_zero] at h3)
 obtain ⟨a3, rfl, ba3⟩ := h3j Try.underlying23 h3
 replace ba3 := wf_u64 ba3
 obtain ⟨y4, h4⟩ := hf 4 (by omega)
 (try simp only [e23] at h4); (try simp only [Nat.reduceMul] at h4); (try simp only [List.drop_succ_cons] at h4); (try simp only [List.drop_zero] at h4); (try simp only [List.take_succ_cons] at h4); (try simp only [List.take_zero] at h4)
 obtain ⟨a4, rfl, ba4⟩ := h3j Try.underlying23 h4
 replace ba4 := wf_u64 ba4
 obtain ⟨y5, h5⟩ := hf 5 (by omega)
 (try simp only [e23] at h5); (try simp only [Nat.reduceMul] at h5); (try simp only [List.drop_succ_cons] at h5); (try simp only [List.drop_zero] at h5); (try simp only [List.take_succ_cons] at h5); (try simp only [List.take_zero] at h5)
 obtain ⟨a5, rfl, ba5⟩ := h3j Try.underlying23 h5
 replace ba5 := wf_u64 ba5
 exact ⟨a0, a1, a2, a3, a4, a5, rfl, ba0, ba1, ba2, ba3, ba4, ba5⟩
set_option linter.unusedVariables false in
theorem open_26 {H : Type} {enc : TypeId × Value → H} {w : World} {base : Nat} {spare : Nat → Bool} {held : Bool} {fuel : Nat} {cs : List Value} {x : DataW H × List MemPlace} (h : DataW.trod enc Try.prog w base spare held fuel 26 cs = some x) :
  ∃ (a0 : Int) (a1 : Int) (a2 : Int) (a3 : Int) (a4 : Int) (a5 : Int) (a6 : Int) (a7 : Int) (a8 : Int), cs = [Value.int .u32 a0, Value.int .u32 a1, Value.int .u64 a2, Value.int .u64 a3, Value.int .u64 a4, Value.int .u64 a5, Value.int .u64 a6, Value.int .u64 a7, Value.int .u64 a8] ∧ (0 ≤ a0 ∧ a0 < 4294967296) ∧ (0 ≤ a1 ∧ a1 < 4294967296) ∧ (0 ≤ a2 ∧ a2 < 18446744073709551616) ∧ (0 ≤ a3 ∧ a3 < 18446744073709551616) ∧ (0 ≤ a4 ∧ a4 < 18446744073709551616) ∧ (0 ≤ a5 ∧ a5 < 18446744073709551616) ∧ (0 ≤ a6 ∧ a6 < 18446744073709551616) ∧ (0 ≤ a7 ∧ a7 < 18446744073709551616) ∧ (0 ≤ a8 ∧ a8 < 18446744073709551616) := by
 obtain ⟨n, rfl, hlen, hf⟩ := trod_fields Try.underlying26 h
 rw [(by kernel_rfl : Try.prog.cellsOf 26 = 9)] at hlen
 obtain ⟨c0, c1, c2, c3, c4, c5, c6, c7, c8, rfl⟩ := lst_9 hlen
 have e22 : Try.prog.cellsOf 22 = 1 := by kernel_rfl
 have e23 : Try.prog.cellsOf 23 = 1 := by kernel_rfl
 have e24 : Try.prog.cellsOf 24 = 6 := by kernel_rfl
 obtain ⟨y0, h0⟩ := hf 0 _ rfl
 (try simp only [e22] at h0); (try simp only [Nat.reduceMul] at h0); (try simp only [List.drop_succ_cons] at h0); (try simp only [List.drop_zero] at h0); (try simp only [List.take_succ_cons] at h0); (try simp only [List.take_zero] at h0)
 obtain ⟨a0, rfl, ba0⟩ := h3j Try.underlying22 h0
 replace ba0 := wf_u32 ba0
 obtain ⟨y1, h1⟩ := hf 1 _ rfl
 (try simp only [e22] at h1); (try simp only [Nat.reduceMul] at h1); (try simp only [List.drop_succ_cons] at h1); (try simp only [List.drop_zero] at h1); (try simp only [List.take_succ_cons] at h1); (try simp only [List.take_zero] at h1)
 obtain ⟨a1, rfl, ba1⟩ := h3j Try.underlying22 h1
 replace ba1 := wf_u32 ba1
 obtain ⟨y2, h2⟩ := hf 2 _ rfl
 (try simp only [e23] at h2); (try simp only [Nat.reduceMul] at h2); (try simp only [List.drop_succ_cons] at h2); (try simp only [List.drop_zero] at h2); (try simp only [List.take_succ_cons] at h2); (try simp only [List.take_zero] at h2)
 obtain ⟨a2, rfl, ba2⟩ := h3j Try.underlying23 h2
 replace ba2 := wf_u64 ba2
 obtain ⟨y3, h3⟩ := hf 3 _ rfl
 (try simp only [e24] at h3); (try simp only [Nat.reduceMul] at h3); (try simp only [List.drop_succ_cons] at h3); (try simp only [List.drop_zero] at h3); (try simp only [List.take_succ_cons] at h3); (try simp only [List.take_zero] at h3)
 obtain ⟨a3, a4, a5, a6, a7, a8, q3, ba3, ba4, ba5, ba6, ba7, ba8⟩ := open_24 h3
 simp only [List.cons.injEq, and_true] at q3
 obtain ⟨rfl, rfl, rfl, rfl, rfl, rfl⟩ := q3
 exact ⟨a0, a1, a2, a3, a4, a5, a6, a7, a8, rfl, ba0, ba1, ba2, ba3, ba4, ba5, ba6, ba7, ba8⟩
theorem rec_openR {H : Type} {enc : TypeId × Value → H} {w : World} {base : Nat} {spare : Nat → Bool} {held : Bool} {fuel : Nat} {cs : List Value} {x : DataW H × List MemPlace} (h : DataW.trod enc Try.prog w base spare held fuel 26 cs = some x) : ∃ r : Rec, cs = r.cells ∧ r.ok := by
 obtain ⟨a0, a1, a2, a3, a4, a5, a6, a7, a8, rfl, h0, h1, h2, h3, h4, h5, h6, h7, h8⟩ := open_26 h
 refine ⟨⟨a0, a1, a2, [a3, a4, a5, a6, a7, a8]⟩, rfl, ⟨h0, h1, h2, rfl, ?_⟩⟩
 intro a ha
 simp only [List.mem_cons, List.not_mem_nil, or_false] at ha
 rcases ha with rfl | rfl | rfl | rfl | rfl | rfl <;> assumption
set_option linter.unusedVariables false in
theorem open_60 {H : Type} {enc : TypeId × Value → H} {w : World} {base : Nat} {spare : Nat → Bool} {held : Bool} {fuel : Nat} {cs : List Value} {x : DataW H × List MemPlace} (h : DataW.trod enc Try.prog w base spare held fuel 60 cs = some x) :
  ∃ (a0 : Int) (a1 : Int), cs = [Value.int .i64 a0, Value.int .u16 a1] ∧ (-9223372036854775808 ≤ a0 ∧ a0 < 9223372036854775808) ∧ (0 ≤ a1 ∧ a1 < 65536) := by
 obtain ⟨n, rfl, hlen, hf⟩ := trod_fields Try.underlying60 h
 rw [(by kernel_rfl : Try.prog.cellsOf 60 = 2)] at hlen
 obtain ⟨c0, c1, rfl⟩ := lst_2 hlen
 have e3 : Try.prog.cellsOf 3 = 1 := by kernel_rfl
 have e58 : Try.prog.cellsOf 58 = 1 := by kernel_rfl
 obtain ⟨y0, h0⟩ := hf 0 _ rfl
 (try simp only [e3] at h0); (try simp only [Nat.reduceMul] at h0); (try simp only [List.drop_succ_cons] at h0); (try simp only [List.drop_zero] at h0); (try simp only [List.take_succ_cons] at h0); (try simp only [List.take_zero] at h0)
 obtain ⟨a0, rfl, ba0⟩ := h3j Try.underlying3 h0
 replace ba0 := wf_i64 ba0
 obtain ⟨y1, h1⟩ := hf 1 _ rfl
 (try simp only [e58] at h1); (try simp only [Nat.reduceMul] at h1); (try simp only [List.drop_succ_cons] at h1); (try simp only [List.drop_zero] at h1); (try simp only [List.take_succ_cons] at h1); (try simp only [List.take_zero] at h1)
 obtain ⟨a1, rfl, ba1⟩ := h3j Try.underlying58 h1
 replace ba1 := wf_u16 ba1
 exact ⟨a0, a1, rfl, ba0, ba1⟩
set_option linter.unusedVariables false in
theorem open_68 {H : Type} {enc : TypeId × Value → H} {w : World} {base : Nat} {spare : Nat → Bool} {held : Bool} {fuel : Nat} {cs : List Value} {x : DataW H × List MemPlace} (h : DataW.trod enc Try.prog w base spare held fuel 68 cs = some x) :
  ∃ (a0 : Int) (a1 : Int) (a2 : Int) (a3 : Int) (a4 : Int) (a5 : Int) (a6 : Int) (a7 : Bool), cs = [Value.int .u8 a0, Value.int .u8 a1, Value.int .u32 a2, Value.int .i64 a3, Value.int .u16 a4, Value.int .i64 a5, Value.int .u8 a6, Value.bool a7] ∧ (0 ≤ a0 ∧ a0 < 256) ∧ (0 ≤ a1 ∧ a1 < 256) ∧ (0 ≤ a2 ∧ a2 < 4294967296) ∧ (-9223372036854775808 ≤ a3 ∧ a3 < 9223372036854775808) ∧ (0 ≤ a4 ∧ a4 < 65536) ∧ (-9223372036854775808 ≤ a5 ∧ a5 < 9223372036854775808) ∧ (0 ≤ a6 ∧ a6 < 256) := by
 obtain ⟨n, rfl, hlen, hf⟩ := trod_fields Try.underlying68 h
 rw [(by kernel_rfl : Try.prog.cellsOf 68 = 8)] at hlen
 obtain ⟨c0, c1, c2, c3, c4, c5, c6, c7, rfl⟩ := lst_8 hlen
 have e3 : Try.prog.cellsOf 3 = 1 := by kernel_rfl
 have e4 : Try.prog.cellsOf 4 = 1 := by kernel_rfl
 have e5 : Try.prog.cellsOf 5 = 1 := by kernel_rfl
 have e22 : Try.prog.cellsOf 22 = 1 := by kernel_rfl
 have e60 : Try.prog.cellsOf 60 = 2 := by kernel_rfl
 obtain ⟨y0, h0⟩ := hf 0 _ rfl
 (try simp only [e5] at h0); (try simp only [Nat.reduceMul] at h0); (try simp only [List.drop_succ_cons] at h0); (try simp only [List.drop_zero] at h0); (try simp only [List.take_succ_cons] at h0); (try simp only [List.take_zero] at h0)
 obtain ⟨a0, rfl, ba0⟩ := h3j Try.underlying5 h0
 replace ba0 := wf_u8 ba0
 obtain ⟨y1, h1⟩ := hf 1 _ rfl
 (try simp only [e5] at h1); (try simp only [Nat.reduceMul] at h1); (try simp only [List.drop_succ_cons] at h1); (try simp only [List.drop_zero] at h1); (try simp only [List.take_succ_cons] at h1); (try simp only [List.take_zero] at h1)
 obtain ⟨a1, rfl, ba1⟩ := h3j Try.underlying5 h1
 replace ba1 := wf_u8 ba1
 obtain ⟨y2, h2⟩ := hf 2 _ rfl
 (try simp only [e22] at h2); (try simp only [Nat.reduceMul] at h2); (try simp only [List.drop_succ_cons] at h2); (try simp only [List.drop_zero] at h2); (try simp only [List.take_succ_cons] at h2); (try simp only [List.take_zero] at h2)
 obtain ⟨a2, rfl, ba2⟩ := h3j Try.underlying22 h2
 replace ba2 := wf_u32 ba2
 obtain ⟨y3, h3⟩ := hf 3 _ rfl
 (try simp only [e60] at h3); (try simp only [Nat.reduceMul] at h3); (try simp only [List.drop_succ_cons] at h3); (try simp only [List.drop_zero] at h3); (try simp only [List.take_succ_cons] at h3); (try simp only [List.take_zero] at h3)
 obtain ⟨a3, a4, q3, ba3, ba4⟩ := open_60 h3
 simp only [List.cons.injEq, and_true] at q3
 obtain ⟨rfl, rfl⟩ := q3
 obtain ⟨y4, h4⟩ := hf 4 _ rfl
 (try simp only [e3] at h4); (try simp only [Nat.reduceMul] at h4); (try simp only [List.drop_succ_cons] at h4); (try simp only [List.drop_zero] at h4); (try simp only [List.take_succ_cons] at h4); (try simp only [List.take_zero] at h4)
 obtain ⟨a5, rfl, ba5⟩ := h3j Try.underlying3 h4
 replace ba5 := wf_i64 ba5
 obtain ⟨y5, h5⟩ := hf 5 _ rfl
 (try simp only [e5] at h5); (try simp only [Nat.reduceMul] at h5); (try simp only [List.drop_succ_cons] at h5); (try simp only [List.drop_zero] at h5); (try simp only [List.take_succ_cons] at h5); (try simp only [List.take_zero] at h5)
 obtain ⟨a6, rfl, ba6⟩ := h3j Try.underlying5 h5
 replace ba6 := wf_u8 ba6
 obtain ⟨y6, h6⟩ := hf 6 _ rfl
 (try simp only [e4] at h6); (try simp only [Nat.reduceMul] at h6); (try simp only [List.drop_succ_cons] at h6); (try simp only [List.drop_zero] at h6); (try simp only [List.take_succ_cons] at h6); (try simp only [List.take_zero] at h6)
 obtain ⟨a7, rfl⟩ := trod_bool_cell Try.underlying4 h6
 exact ⟨a0, a1, a2, a3, a4, a5, a6, a7, rfl, ba0, ba1, ba2, ba3, ba4, ba5, ba6⟩
theorem act_openT {H : Type} {enc : TypeId × Value → H} {w : World} {base : Nat} {spare : Nat → Bool} {held : Bool} {fuel : Nat} {cs : List Value} {x : DataW H × List MemPlace} (h : DataW.trod enc Try.prog w base spare held fuel 68 cs = some x) : ∃ r : AT, cs = r.cells ∧ r.ok := by
 obtain ⟨a0, a1, a2, a3, a4, a5, a6, a7, rfl, h0, h1, h2, h3, h4, h5, h6⟩ := open_68 h
 exact ⟨⟨a0, a1, a2, a3, a4, a5, a6, a7⟩, rfl, h0, h1, h2, h6⟩
end Go.Proofs.Ytpbpgbkpciffgaa
namespace Go.Proofs.Ytpbpgbkpciffgaa
open Go.ChangeShapes Go.WideShapes Go.ChangeAt Go.RowKit
theorem ownTaskPlays : ownKnob Try.prog.godebug = none := by kernel_rfl
theorem laidTaskPlays : laidOutB Try.prog = true := by kernel_rfl
theorem taskPlays_lifted (os : Os) (started : os.Started) (H : Type) (enc : TypeId × Value → H) :
  ReturnsInHanded {} Try.checked os 4 .any (Rows.taskPlaysSpec.pre6 enc Try.prog Try.f4 Rows.taskPlaysRow.domain false) (Rows.taskPlaysSpec.post enc Try.prog Try.f4 false true false false) := by
 refine returnsInHanded_of_change (C:=Try.checked) ownTaskPlays started (by kernel_rfl) Try.func4
  (ChangeSpec.witness6 (enc:=enc) (C:=Try.checked) false ⟨#[], #[.int .i64 0, .slice none 0 0, .agg #[.int .u32 0, .int .u32 0, .int .u64 0, .int .u64 0, .int .u64 0, .int .u64 0, .int .u64 0, .int .u64 0, .int .u64 0]], []⟩ 8 (by kernel_rfl) (by kernel_rfl) (by kernel_rfl) (by kernel_rfl)) ?_
 intro W base args ds gs before hval0 hW hcnd _
 have hval : ∀ (j : Nat) t v, Try.f4.params[j]? = some t → args[j]? = some v → Value.okWide Try.prog W .any base t v := hval0
 have hW' := hW
 obtain ⟨p, q, hA0, hV, rfl, hfz, hnd⟩ := hW
 have hA : DataW.TrodAll enc Try.prog W 0 (fun _ => true) true Try.f4.params.toList args.toList ds p := hA0
 rw [Try.params4] at hA hval
 obtain ⟨v0, vs0, d0, ds0, p0, q0, hargs, rfl, rfl, h0, r0⟩ := trodAll_cons hA
 obtain ⟨v1, vs1, d1, ds1, p1, q1, rfl, rfl, rfl, h1, r1⟩ := trodAll_cons r0
 obtain ⟨v2, vs2, d2, ds2, p2, q2, rfl, rfl, rfl, h2, r2⟩ := trodAll_cons r1
 obtain ⟨rfl, rfl, rfl⟩ := trodAll_nil r2
 obtain rfl : args = #[v0, v1, v2] := by cases args; simp_all
 obtain ⟨rfl, rfl⟩ := trodVars_none hV
 have k0 := h0
 have lt0 : ∀ x ∈ p0, x.block < W.heap.size := by obtain ⟨m, hm⟩ := k0; exact DataW.trod_lt m _ _ _ hm
 have k1 := h1
 have lt1 : ∀ x ∈ p1, x.block < W.heap.size := by obtain ⟨m, hm⟩ := k1; exact DataW.trod_lt m _ _ _ hm
 have k2 := h2
 have lt2 : ∀ x ∈ p2, x.block < W.heap.size := by obtain ⟨m, hm⟩ := k2; exact DataW.trod_lt m _ _ _ hm
 obtain ⟨a0, rfl, rfl, rfl, w0⟩ := open_int Try.underlying3 (hval 0 3 v0 rfl rfl) h0
 have b0 := wf_i64 w0
 obtain ⟨A1, len1, C1, rfl⟩ := okWide_slice Try.underlying56 (hval 1 56 v1 rfl rfl)
 obtain ⟨f1, hf1⟩ := h1
 obtain ⟨a1, B1, rfl, b1, s1, ro1, m1, q1⟩ := slice_list (cells:=AT.cells) (ok:=AT.ok) Try.underlying56 (sz:=8) (by kernel_rfl) (by omega) (fun _ _ => rfl) (fun _ _ _ h => act_openT h) (by simpa [Value.cells] using hf1)
 obtain ⟨cs2, rfl, _⟩ := okWide_struct Try.underlying26 (hval 2 26 v2 rfl rfl)
 obtain ⟨f2, hf2⟩ := h2
 obtain ⟨a2, e2, b2⟩ := rec_openR hf2
 obtain rfl : cs2 = a2.cells.toArray := by apply Array.ext'; simpa [Value.cells] using e2
 have S1 := s1
 clear hA0 hval0
 refine ((taskPlays_c (S:=[]) (w0:=W) (L:=B1) a0 a1 b1 m1 A1 C1 S1 a2 b2).out W (HP.ro ro1)).mono fun e W' ⟨v, L', he, ⟨hv, _⟩, H'⟩ => ?_
 subst he hv
 have bel := H'.below
 exact ⟨_, rfl, _, _, _, [], _, [], hW', trodAll_mk1 (shut_bool Try.underlying4 _), (trodAll_cons_mk (Below.trod laidTaskPlays (by kernel_rfl) (of_decide_eq_true (by kernel_rfl)) k0 bel lt0) (trodAll_cons_mk (Below.trod laidTaskPlays (by kernel_rfl) (of_decide_eq_true (by kernel_rfl)) k1 bel lt1) (trodAll_cons_mk (Below.trod laidTaskPlays (by kernel_rfl) (of_decide_eq_true (by kernel_rfl)) k2 bel lt2) trodAll_mk0))), rfl, bel.frame _, fun h => by cases h⟩
theorem taskPlays_holds : Rows.TaskPlaysSaid :=
 OpenClaim.holds_of_wide 4 Try.f4 rfl rfl rfl rfl rfl rfl rfl ⟨rfl, rfl, rfl, rfl, rfl⟩ rfl rfl rfl rfl rfl (by kernel_rfl) Try.func4 (by kernel_rfl)
  (of_decide_eq_true (by kernel_rfl)) (by unfold Func.isWrapper; first | (rw [if_pos (by decide +kernel)]; kernel_rfl) | (rw [if_neg (by decide +kernel)]; exact ⟨rfl, rfl⟩))
  (fun os started H enc _ => taskPlays_lifted os started H enc)
#print axioms taskPlays_holds
end Go.Proofs.Ytpbpgbkpciffgaa
