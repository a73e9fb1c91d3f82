/- The law ParseOrder returns true at every input and leaves its arguments as they were. No condition. -/
import Derived.Test.YtecbgehooembmaaGreatDoorQo12
set_option maxRecDepth 100000
namespace Go.Proofs.YtecbgehooembmaaGreatDoor
open Go Go.RowKit
theorem wf_u8 {a : Int} (h : (Lit.int .u8 a).wf = true) : 0 ≤ a ∧ a < 256 := by
 simp [Lit.wf, IntKind.min, IntKind.max, IntKind.signed, IntKind.bits] at h; omega
theorem wf_u16 {a : Int} (h : (Lit.int .u16 a).wf = true) : 0 ≤ a ∧ a < 65536 := by
 simp [Lit.wf, IntKind.min, IntKind.max, IntKind.signed, IntKind.bits] at h; omega
theorem HP.read {w : World} {L : List Blk} (h : ∀ p ∈ L, p.wr = false ∧ w.heap[p.b]? = some p.o) : HP [] w w L :=
 ⟨rfl, rfl, rfl, Nat.le_refl _, fun _ _ _ => rfl, fun p hp => (h p hp).2, fun p hp hw => by simp [(h p hp).1] at hw,
  List.pairwise_of_forall_mem_list fun p hp q hq hw => by rcases hw with hw | hw <;> simp [(h p hp).1, (h q hq).1] at hw⟩
theorem mapM_some {α β : Type} {f : α → Option β} : ∀ {l : List α} {ys : List β}, l.mapM f = some ys → ∀ (i : Nat) (x : α), l[i]? = some x → ∃ y, f x = some y ∧ ys[i]? = some y
 | [], _, _, i, x, hx => by simp at hx
 | a :: l, ys, h, i, x, hx => by
  simp only [List.mapM_cons, Option.pure_def, Option.bind_eq_bind, Option.bind_eq_some_iff] at h
  obtain ⟨y, hy, ys', hys, e⟩ := h
  obtain rfl := Option.some.inj e
  cases i with
  | zero => simp at hx; subst hx; exact ⟨y, hy, by simp⟩
  | succ i => simp at hx; simpa using mapM_some hys i x hx
theorem mapM_len {α β : Type} {f : α → Option β} : ∀ {l : List α} {ys : List β}, l.mapM f = some ys → ys.length = l.length
 | [], ys, h => by simp at h; simp [h]
 | a :: l, ys, h => by
  simp only [List.mapM_cons, Option.pure_def, Option.bind_eq_bind, Option.bind_eq_some_iff] at h
  obtain ⟨y, hy, ys', hys, e⟩ := h
  obtain rfl := Option.some.inj e
  simp [mapM_len hys]
section
variable {H : Type} {enc : TypeId × Value → H} {P : Program} {w : World} {base : Nat} {spare : Nat → Bool} {held : Bool}
theorem trod_fields {t : TypeId} {fs : Array Field} {fuel : Nat} {cs : List Value} {x : DataW H × List MemPlace} (ht : P.underlying t = some (.struct fs))
  (h : DataW.trod enc P w base spare held fuel t cs = some x) :
  ∃ n, fuel = n + 1 ∧ cs.length = P.cellsOf t ∧ ∀ (i : Nat) (f : Field), fs.toList[i]? = some f → ∃ y, DataW.trod enc P w base spare held n f.type ((cs.drop f.offset).take (P.cellsOf f.type)) = some y := by
 cases fuel with
 | zero => simp [DataW.trod] at h
 | succ n =>
  refine ⟨n, rfl, ?_⟩
  unfold DataW.trod at h
  simp only [ht] at h
  split at h
  ·rename_i hlen
   simp only [Option.map_eq_some_iff] at h
   obtain ⟨xs, hxs, _⟩ := h
   exact ⟨hlen, fun i f hf => let ⟨y, hy, _⟩ := mapM_some hxs i f hf; ⟨y, hy⟩⟩
  ·simp at h
theorem trod_slice {t e : TypeId} {fuel : Nat} {a : Option Addr} {len cap : Nat} {x : DataW H × List MemPlace} (ht : P.underlying t = some (.slice e))
  (h : DataW.trod enc P w base spare held fuel t [.slice a len cap] = some x) :
  (a = none ∧ len = 0 ∧ cap = 0) ∨
  ∃ p n, a = some p ∧ fuel = n + 1 ∧ len ≤ cap ∧ cap ≤ maxLen ∧ ∀ i, i < len → ∃ cs y, w.cells? base (p.add (i * P.cellsOf e)) (P.cellsOf e) = some cs ∧ DataW.trod enc P w base spare held n e cs = some y := by
 cases fuel with
 | zero => simp [DataW.trod] at h
 | succ n =>
  cases a with
  | none =>
   left
   unfold DataW.trod at h
   simp only [ht] at h
   cases len <;> cases cap <;> simp_all
  | some p =>
   right
   unfold DataW.trod at h
   simp only [ht] at h
   split at h
   ·rename_i hc
    simp only [Option.bind_eq_some_iff] at h
    obtain ⟨elems, hel, _⟩ := h
    refine ⟨p, n, rfl, rfl, hc.2.1, hc.2.2, fun i hi => ?_⟩
    obtain ⟨y, hy, _⟩ := mapM_some hel i i (by simp [hi])
    simp only [Option.bind_eq_some_iff] at hy
    obtain ⟨cs, hcs, hy⟩ := hy
    exact ⟨cs, y, hcs, hy⟩
   ·simp at h
theorem cells?_get {a : Addr} {n : Nat} {cs : List Value} (h : w.cells? base a n = some cs) : base ≤ a.block ∧ cs.length = n ∧ ∀ j, j < n → w.cell? (a.add j) = cs[j]? := by
 unfold World.cells? at h
 split at h
 ·rename_i hb
  refine ⟨hb, by simpa using mapM_len h, fun j hj => ?_⟩
  obtain ⟨y, hy, hy'⟩ := mapM_some h j j (by simp [hj])
  rw [hy, hy']
 ·simp at h
theorem h3j {t : TypeId} {k : IntKind} {fuel : Nat} {c : Value} {y : DataW H × List MemPlace} (ht : P.underlying t = some (.int k)) (h : DataW.trod enc P w base spare held fuel t [c] = some y) :
  ∃ n, c = .int k n ∧ (Lit.int k n).wf = true := by
 cases fuel with
 | zero => simp [DataW.trod] at h
 | succ f =>
  unfold DataW.trod at h
  rw [ht] at h
  cases c <;> simp_all
theorem add_none (b off n : Nat) : (⟨b, off, none⟩ : Addr).add n = ⟨b, off + n, none⟩ := by unfold Addr.add; split <;> simp_all
theorem slice_block {t e : TypeId} {fuel : Nat} {a : Option Addr} {len cap : Nat} {x : DataW H × List MemPlace} (ht : P.underlying t = some (.slice e)) {sz : Nat} (hsz : P.cellsOf e = sz) (h0 : 0 < sz)
  (h : DataW.trod enc P w base spare held fuel t [.slice a len cap] = some x) (hlen : 0 < len) :
  ∃ b off acs T fr n, a = some ⟨b, off, none⟩ ∧ w.heap[b]? = some (.cells acs T fr) ∧ len ≤ cap ∧ cap ≤ maxLen ∧
   ∀ i, i < len → ∃ cs y, cs.length = sz ∧ DataW.trod enc P w base spare held n e cs = some y ∧ off + i * sz + sz ≤ acs.size ∧ acs.extract (off + i * sz) (off + i * sz + sz) = cs.toArray := by
 rcases trod_slice ht h with ⟨_, h1, _⟩ | ⟨p, n, rfl, _, hlc, hcm, hel⟩
 ·omega
 ·rw [hsz] at hel
  obtain ⟨cs0, y0, hc0, _⟩ := hel 0 hlen
  obtain ⟨_, hl0, hg0⟩ := cells?_get hc0
  obtain ⟨v, hv⟩ : ∃ v, cs0[0]? = some v := ⟨_, List.getElem?_eq_getElem (by omega)⟩
  have hcell := hg0 0 h0
  rw [hv] at hcell
  obtain ⟨b, off, spot⟩ := p
  have hsp : spot = none := by simpa [Addr.add] using World.cell?_spot hcell
  subst hsp
  simp only [add_none, Nat.zero_mul, Nat.add_zero] at hcell
  obtain ⟨acs, T, fr, hb⟩ : ∃ acs T fr, w.heap[b]? = some (.cells acs T fr) := by
   unfold World.cell? at hcell
   cases hq : w.heap[b]? with
   | none => simp [hq] at hcell
   | some ob =>
    cases ob with
    | cells acs T fr => exact ⟨acs, T, fr, rfl⟩
    | _ => simp [hq] at hcell
  refine ⟨b, off, acs, T, fr, n, rfl, hb, hlc, hcm, fun i hi => ?_⟩
  obtain ⟨cs, y, hcs, hy⟩ := hel i hi
  obtain ⟨_, hl, hg⟩ := cells?_get hcs
  have hget : ∀ j, j < sz → acs[off + i * sz + j]? = cs[j]? := by
   intro j hj
   have := hg j hj
   simp only [add_none] at this
   rw [cell_of_row w b _ acs T fr hb] at this
   exact this
  have hsize : off + i * sz + sz ≤ acs.size := by
   have := hget (sz - 1) (by omega)
   rw [List.getElem?_eq_getElem (by omega)] at this
   have h3 := Array.getElem?_eq_some_iff.1 this
   obtain ⟨h3, _⟩ := h3
   omega
  refine ⟨cs, y, hl, hy, hsize, ?_⟩
  apply Array.ext_getElem?
  intro j
  by_cases hj : j < sz
  ·rw [Array.getElem?_extract, if_pos (by omega), hget j hj]
   simp
  ·rw [Array.getElem?_extract, if_neg (by omega)]
   simp; omega
end
theorem lst_4 {cs : List Value} (h : cs.length = 4) : ∃ c0 c1 c2 c3, cs = [c0, c1, c2, c3] := by
 match cs, h with
 | [_, _, _, _], _ => exact ⟨_, _, _, _, rfl⟩
theorem lst_8 {cs : List Value} (h : cs.length = 8) : ∃ c0 c1 c2 c3 c4 c5 c6 c7, cs = [c0, c1, c2, c3, c4, c5, c6, c7] := by
 match cs, h with
 | [_, _, _, _, _, _, _, _], _ => exact ⟨_, _, _, _, _, _, _, _, rfl⟩
section
variable {H : Type} {enc : TypeId × Value → H} {P : Program} {w : World} {base : Nat} {spare : Nat → Bool} {held : Bool}
theorem h5d {t e : TypeId} {fuel : Nat} {c : Value} {y : DataW H × List MemPlace} (ht : P.underlying t = some (.slice e)) (h : DataW.trod enc P w base spare held fuel t [c] = some y) : ∃ a len cap, c = .slice a len cap := by
 cases fuel with
 | zero => simp [DataW.trod] at h
 | succ f =>
  unfold DataW.trod at h
  rw [ht] at h
  cases c <;> simp_all
theorem trod_int_any {t : TypeId} {k : IntKind} {fuel : Nat} {cs : List Value} {y : DataW H × List MemPlace} (ht : P.underlying t = some (.int k)) (h : DataW.trod enc P w base spare held fuel t cs = some y) : ∃ n, cs = [.int k n] ∧ (Lit.int k n).wf = true := by
 have hc : ∃ c, cs = [c] := by
  cases fuel with
  | zero => simp [DataW.trod] at h
  | succ f =>
   unfold DataW.trod at h
   rw [ht] at h
   match cs, h with
   | [c], _ => exact ⟨c, rfl⟩
   | [], h => simp at h
   | _ :: _ :: _, h => simp at h
 obtain ⟨c, rfl⟩ := hc
 obtain ⟨n, rfl, hw⟩ := h3j ht h
 exact ⟨n, rfl, hw⟩
def ROnly (w : World) (B : List Blk) : Prop := ∀ p ∈ B, p.wr = false ∧ w.heap[p.b]? = some p.o
theorem ROnly.nil {w : World} : ROnly w [] := by simp [ROnly]
theorem ROnly.app {w : World} {B C : List Blk} (h : ROnly w B) (h2 : ROnly w C) : ROnly w (B ++ C) := fun p hp => by
 rcases List.mem_append.1 hp with hp | hp
 ·exact h p hp
 ·exact h2 p hp
theorem HP.ro {w : World} {B : List Blk} (h : ROnly w B) : HP [] w w B := HP.read h
theorem Sli.app {L M : List Blk} {a : Option Addr} {len size : Nat} {cells : List Value} (h : Sli L a len size cells) : Sli (L ++ M) a len size cells := h.left
theorem slice_list {X : Type} {cells : X → List Value} {ok : X → Prop} {t e : TypeId} {sz fuel : Nat} {a : Option Addr} {len cap : Nat} {x : DataW H × List MemPlace} (ht : P.underlying t = some (.slice e)) (hsz : P.cellsOf e = sz) (h0 : 0 < sz)
  (hcl : ∀ x, ok x → (cells x).length = sz) (hel : ∀ n cs y, DataW.trod enc P w base spare held n e cs = some y → ∃ x, cs = cells x ∧ ok x) (h : DataW.trod enc P w base spare held fuel t [.slice a len cap] = some x) :
  ∃ (l : List X) (B : List Blk), l.length = len ∧ (∀ x ∈ l, ok x) ∧ Sli B a len sz (l.flatMap cells) ∧ ROnly w B ∧ len ≤ maxLen ∧ len ≤ cap ∧ cap ≤ maxLen := by
 by_cases hl : 0 < len
 ·obtain ⟨b, off, acs, T, fr, n, rfl, hb, h1, h2, hall⟩ := slice_block ht hsz h0 h hl
  have key : ∀ m, m ≤ len → ∃ l : List X, l.length = m ∧ (∀ x ∈ l, ok x) ∧ (acs.toList.drop off).take (m * sz) = l.flatMap cells := by
   intro m
   induction m with
   | zero => intro _; exact ⟨[], rfl, by simp, by simp⟩
   | succ m ih =>
    intro hm
    obtain ⟨l, e1, e2, e3⟩ := ih (by omega)
    obtain ⟨cs, y, hc1, hc2, hc3, hc4⟩ := hall m (by omega)
    obtain ⟨x, rfl, hx⟩ := hel _ _ _ hc2
    refine ⟨l ++ [x], by simp [e1], ?_, ?_⟩
    ·intro z hz
     rcases List.mem_append.1 hz with hz | hz
     ·exact e2 z hz
     ·rw [List.mem_singleton.1 hz]; exact hx
    ·rw [List.flatMap_append, ← e3, Nat.add_mul, Nat.one_mul, List.take_add, List.drop_drop]
     congr 1
     have := congrArg Array.toList hc4
     simp only [Array.toList_extract, List.extract_eq_take_drop] at this
     rw [Nat.add_sub_cancel_left] at this
     simpa using this
  obtain ⟨l, e1, e2, e3⟩ := key len (Nat.le_refl _)
  obtain ⟨_, _, _, _, hc3, _⟩ := hall (len - 1) (by omega)
  have hmul : (len - 1) * sz + sz = len * sz := by
   obtain ⟨q, rfl⟩ : ∃ q, len = q + 1 := ⟨len - 1, by omega⟩
   rw [Nat.add_sub_cancel, Nat.add_mul, Nat.one_mul]
  refine ⟨l, [⟨false, b, .cells acs T fr⟩], e1, e2, Sli.of (i:=0) rfl (by omega) e3, ?_, by omega, by omega, by omega⟩
  intro p hp
  rw [List.mem_singleton.1 hp]
  exact ⟨rfl, hb⟩
 ·rcases trod_slice ht h with ⟨rfl, rfl, rfl⟩ | ⟨p, n, rfl, _, h2, h3, _⟩
  ·exact ⟨[], [], rfl, by simp, ⟨by simp, .inl rfl⟩, ROnly.nil, by omega, by omega, by omega⟩
  ·obtain rfl : len = 0 := by omega
   exact ⟨[], [], rfl, by simp, ⟨by simp, .inl rfl⟩, ROnly.nil, by omega, by omega, by omega⟩
end
section
variable {H : Type} {enc : TypeId × Value → H} {P : Program} {w : World} {base : Nat} {spare : Nat → Bool} {held : Bool}
theorem slice_listB {X : Type} {cells : X → List Value} {ok : List Blk → X → Prop} {t e : TypeId} {sz fuel : Nat} {a : Option Addr} {len cap : Nat} {x : DataW H × List MemPlace} (ht : P.underlying t = some (.slice e)) (hsz : P.cellsOf e = sz) (h0 : 0 < sz)
  (hl : ∀ B C x, ok B x → ok (B ++ C) x) (hr : ∀ B C x, ok C x → ok (B ++ C) x)
  (hel : ∀ n cs y, DataW.trod enc P w base spare held n e cs = some y → ∃ x B, cs = cells x ∧ ok B x ∧ ROnly w B) (h : DataW.trod enc P w base spare held fuel t [.slice a len cap] = some x) :
  ∃ (l : List X) (B : List Blk), l.length = len ∧ (∀ x ∈ l, ok B x) ∧ Sli B a len sz (l.flatMap cells) ∧ ROnly w B ∧ len ≤ maxLen ∧ len ≤ cap ∧ cap ≤ maxLen := by
 by_cases hln : 0 < len
 ·obtain ⟨b, off, acs, T, fr, n, rfl, hb, h1, h2, hall⟩ := slice_block ht hsz h0 h hln
  have key : ∀ m, m ≤ len → ∃ (l : List X) (B : List Blk), l.length = m ∧ (∀ x ∈ l, ok B x) ∧ (acs.toList.drop off).take (m * sz) = l.flatMap cells ∧ ROnly w B := by
   intro m
   induction m with
   | zero => intro _; exact ⟨[], [], rfl, by simp, by simp, ROnly.nil⟩
   | succ m ih =>
    intro hm
    obtain ⟨l, B, e1, e2, e3, e4⟩ := ih (by omega)
    obtain ⟨cs, y, hc1, hc2, hc3, hc4⟩ := hall m (by omega)
    obtain ⟨x, C, rfl, hx, hC⟩ := hel _ _ _ hc2
    refine ⟨l ++ [x], B ++ C, by simp [e1], ?_, ?_, e4.app hC⟩
    ·intro z hz
     rcases List.mem_append.1 hz with hz | hz
     ·exact hl _ _ _ (e2 z hz)
     ·rw [List.mem_singleton.1 hz]; exact hr _ _ _ hx
    ·rw [List.flatMap_append, ← e3, Nat.add_mul, Nat.one_mul, List.take_add, List.drop_drop]
     congr 1
     have := congrArg Array.toList hc4
     simp only [Array.toList_extract, List.extract_eq_take_drop] at this
     rw [Nat.add_sub_cancel_left] at this
     simpa using this
  obtain ⟨l, B, e1, e2, e3, e4⟩ := key len (Nat.le_refl _)
  obtain ⟨_, _, _, _, hc3, _⟩ := hall (len - 1) (by omega)
  have hmul : (len - 1) * sz + sz = len * sz := by
   obtain ⟨q, rfl⟩ : ∃ q, len = q + 1 := ⟨len - 1, by omega⟩
   rw [Nat.add_sub_cancel, Nat.add_mul, Nat.one_mul]
  refine ⟨l, [⟨false, b, .cells acs T fr⟩] ++ B, e1, fun x hx => hr _ _ _ (e2 x hx), Sli.of (i:=0) rfl (by omega) e3, ROnly.app ?_ e4, by omega, by omega, by omega⟩
  intro p hp
  rw [List.mem_singleton.1 hp]
  exact ⟨rfl, hb⟩
 ·rcases trod_slice ht h with ⟨rfl, rfl, rfl⟩ | ⟨p, n, rfl, _, h2, h3, _⟩
  ·exact ⟨[], [], rfl, by simp, ⟨by simp, .inl rfl⟩, ROnly.nil, by omega, by omega, by omega⟩
  ·obtain rfl : len = 0 := by omega
   exact ⟨[], [], rfl, by simp, ⟨by simp, .inl rfl⟩, ROnly.nil, by omega, by omega, by omega⟩
end
def u8ok (n : Int) : Prop := 0 ≤ n ∧ n < 256
def u8v (n : Int) : List Value := [.int .u8 n]
theorem u8v_flat (l : List Int) : l.flatMap u8v = u8l l := by induction l with | nil => rfl | cons n r ih => simpa [u8v, u8l] using ih
theorem u8_open {H : Type} {enc : TypeId × Value → H} {w : World} {base : Nat} {spare : Nat → Bool} {held : Bool} {fuel : Nat} {cs : List Value} {x : DataW H × List MemPlace} (h : DataW.trod enc Tryz.prog w base spare held fuel 5 cs = some x) : ∃ n : Int, cs = u8v n ∧ (0 ≤ n ∧ n < 256) := by
 obtain ⟨n, rfl, hw⟩ := trod_int_any Tryz.underlying5 h
 exact ⟨n, rfl, wf_u8 hw⟩
theorem i_nat {n : Int} {k : Int} (h : 0 ≤ n ∧ n < k) : ∃ m : Nat, n = (m : Int) := ⟨n.toNat, by omega⟩
set_option linter.unusedVariables false in
theorem open_95 {H : Type} {enc : TypeId × Value → H} {w : World} {base : Nat} {spare : Nat → Bool} {held : Bool} {fuel : Nat} {cs : List Value} {x : DataW H × List MemPlace} (h : DataW.trod enc Tryz.prog w base spare held fuel 95 cs = some x) :
  ∃ (a0 : Int) (a1 : Int) (a2 : Int) (a3 : Int), cs = [Value.int .u8 a0, Value.int .u8 a1, Value.int .u8 a2, Value.int .u8 a3] ∧ (0 ≤ a0 ∧ a0 < 256) ∧ (0 ≤ a1 ∧ a1 < 256) ∧ (0 ≤ a2 ∧ a2 < 256) ∧ (0 ≤ a3 ∧ a3 < 256) := by
 obtain ⟨n, rfl, hlen, hf⟩ := trod_fields Tryz.underlying95 h
 rw [(by kernel_rfl : Tryz.prog.cellsOf 95 = 4)] at hlen
 obtain ⟨c0, c1, c2, c3, rfl⟩ := lst_4 hlen
 have e5 : Tryz.prog.cellsOf 5 = 1 := by kernel_rfl
 obtain ⟨y0, h0⟩ := hf 0 _ rfl
 (try simp only [e5] at h0); (try simp only [Nat.reduceMul] at h0); (try simp only [List.drop_succ_cons] at h0); (try simp only [List.drop_zero] at h0); (try simp only [List.take_succ_cons] at h0); (try simp only [List.take_zero] at h0)
 obtain ⟨a0, rfl, ba0⟩ := h3j Tryz.underlying5 h0
 replace ba0 := wf_u8 ba0
 obtain ⟨y1, h1⟩ := hf 1 _ rfl
 (try simp only [e5] at h1); (try simp only [Nat.reduceMul] at h1); (try simp only [List.drop_succ_cons] at h1); (try simp only [List.drop_zero] at h1); (try simp only [List.take_succ_cons] at h1); (try simp only [List.take_zero] at h1)
 obtain ⟨a1, rfl, ba1⟩ := h3j Tryz.underlying5 h1
 replace ba1 := wf_u8 ba1
 obtain ⟨y2, h2⟩ := hf 2 _ rfl
 (try simp only [e5] at h2); (try simp only [Nat.reduceMul] at h2); (try simp only [List.drop_succ_cons] at h2); (try simp only [List.drop_zero] at h2); (try simp only [List.take_succ_cons] at h2); (try simp only [List.take_zero] at h2)
 obtain ⟨a2, rfl, ba2⟩ := h3j Tryz.underlying5 h2
 replace ba2 := wf_u8 ba2
 obtain ⟨y3, h3⟩ := hf 3 _ rfl
 (try simp only [e5] at h3); (try simp only [Nat.reduceMul] at h3); (try simp only [List.drop_succ_cons] at h3); (try simp only [List.drop_zero] at h3); (try simp only [List.take_succ_cons] at h3); (try simp only [List.take_zero] at h3)
 obtain ⟨a3, rfl, ba3⟩ := h3j Tryz.underlying5 h3
 replace ba3 := wf_u8 ba3
 exact ⟨a0, a1, a2, a3, rfl, ba0, ba1, ba2, ba3⟩
set_option linter.unusedVariables false in
theorem open_91 {H : Type} {enc : TypeId × Value → H} {w : World} {base : Nat} {spare : Nat → Bool} {held : Bool} {fuel : Nat} {cs : List Value} {x : DataW H × List MemPlace} (h : DataW.trod enc Tryz.prog w base spare held fuel 91 cs = some x) :
  ∃ (a0 : Int) (a1 : Int) (a2 : Int) (a3_a : Option Addr) (a3_l a3_c : Nat), cs = [Value.int .u8 a0, Value.int .u8 a1, Value.int .u8 a2, Value.slice a3_a a3_l a3_c] ∧ (0 ≤ a0 ∧ a0 < 256) ∧ (0 ≤ a1 ∧ a1 < 256) ∧ (0 ≤ a2 ∧ a2 < 256) ∧ (∃ fuel y, DataW.trod enc Tryz.prog w base spare held fuel 89 [Value.slice a3_a a3_l a3_c] = some y) := by
 obtain ⟨n, rfl, hlen, hf⟩ := trod_fields Tryz.underlying91 h
 rw [(by kernel_rfl : Tryz.prog.cellsOf 91 = 4)] at hlen
 obtain ⟨c0, c1, c2, c3, rfl⟩ := lst_4 hlen
 have e5 : Tryz.prog.cellsOf 5 = 1 := by kernel_rfl
 have e89 : Tryz.prog.cellsOf 89 = 1 := by kernel_rfl
 obtain ⟨y0, h0⟩ := hf 0 _ rfl
 (try simp only [e5] at h0); (try simp only [Nat.reduceMul] at h0); (try simp only [List.drop_succ_cons] at h0); (try simp only [List.drop_zero] at h0); (try simp only [List.take_succ_cons] at h0); (try simp only [List.take_zero] at h0)
 obtain ⟨a0, rfl, ba0⟩ := h3j Tryz.underlying5 h0
 replace ba0 := wf_u8 ba0
 obtain ⟨y1, h1⟩ := hf 1 _ rfl
 (try simp only [e5] at h1); (try simp only [Nat.reduceMul] at h1); (try simp only [List.drop_succ_cons] at h1); (try simp only [List.drop_zero] at h1); (try simp only [List.take_succ_cons] at h1); (try simp only [List.take_zero] at h1)
 obtain ⟨a1, rfl, ba1⟩ := h3j Tryz.underlying5 h1
 replace ba1 := wf_u8 ba1
 obtain ⟨y2, h2⟩ := hf 2 _ rfl
 (try simp only [e5] at h2); (try simp only [Nat.reduceMul] at h2); (try simp only [List.drop_succ_cons] at h2); (try simp only [List.drop_zero] at h2); (try simp only [List.take_succ_cons] at h2); (try simp only [List.take_zero] at h2)
 obtain ⟨a2, rfl, ba2⟩ := h3j Tryz.underlying5 h2
 replace ba2 := wf_u8 ba2
 obtain ⟨y3, h3⟩ := hf 3 _ rfl
 (try simp only [e89] at h3); (try simp only [Nat.reduceMul] at h3); (try simp only [List.drop_succ_cons] at h3); (try simp only [List.drop_zero] at h3); (try simp only [List.take_succ_cons] at h3); (try simp only [List.take_zero] at h3)
 obtain ⟨a3_a, a3_l, a3_c, rfl⟩ := h5d Tryz.underlying89 h3
 have ba3 : ∃ fuel y, DataW.trod enc Tryz.prog w base spare held fuel 89 [Value.slice a3_a a3_l a3_c] = some y := ⟨_, _, h3⟩
 exact ⟨a0, a1, a2, a3_a, a3_l, a3_c, rfl, ba0, ba1, ba2, ba3⟩
set_option linter.unusedVariables false in
theorem open_48 {H : Type} {enc : TypeId × Value → H} {w : World} {base : Nat} {spare : Nat → Bool} {held : Bool} {fuel : Nat} {cs : List Value} {x : DataW H × List MemPlace} (h : DataW.trod enc Tryz.prog w base spare held fuel 48 cs = some x) :
  ∃ (a0 : Int) (a1 : Int) (a2 : Int) (a3_a : Option Addr) (a3_l a3_c : Nat) (a4 : Int) (a5_a : Option Addr) (a5_l a5_c : Nat) (a6_a : Option Addr) (a6_l a6_c : Nat) (a7_a : Option Addr) (a7_l a7_c : Nat), cs = [Value.int .u8 a0, Value.int .u8 a1, Value.int .u8 a2, Value.slice a3_a a3_l a3_c, Value.int .u16 a4, Value.slice a5_a a5_l a5_c, Value.slice a6_a a6_l a6_c, Value.slice a7_a a7_l a7_c] ∧ (0 ≤ a0 ∧ a0 < 256) ∧ (0 ≤ a1 ∧ a1 < 256) ∧ (0 ≤ a2 ∧ a2 < 256) ∧ (∃ fuel y, DataW.trod enc Tryz.prog w base spare held fuel 44 [Value.slice a3_a a3_l a3_c] = some y) ∧ (0 ≤ a4 ∧ a4 < 65536) ∧ (∃ fuel y, DataW.trod enc Tryz.prog w base spare held fuel 45 [Value.slice a5_a a5_l a5_c] = some y) ∧ (∃ fuel y, DataW.trod enc Tryz.prog w base spare held fuel 46 [Value.slice a6_a a6_l a6_c] = some y) ∧ (∃ fuel y, DataW.trod enc Tryz.prog w base spare held fuel 45 [Value.slice a7_a a7_l a7_c] = some y) := by
 obtain ⟨n, rfl, hlen, hf⟩ := trod_fields Tryz.underlying48 h
 rw [(by kernel_rfl : Tryz.prog.cellsOf 48 = 8)] at hlen
 obtain ⟨c0, c1, c2, c3, c4, c5, c6, c7, rfl⟩ := lst_8 hlen
 have e5 : Tryz.prog.cellsOf 5 = 1 := by kernel_rfl
 have e31 : Tryz.prog.cellsOf 31 = 1 := by kernel_rfl
 have e44 : Tryz.prog.cellsOf 44 = 1 := by kernel_rfl
 have e45 : Tryz.prog.cellsOf 45 = 1 := by kernel_rfl
 have e46 : Tryz.prog.cellsOf 46 = 1 := by kernel_rfl
 obtain ⟨y0, h0⟩ := hf 0 _ rfl
 (try simp only [e5] at h0); (try simp only [Nat.reduceMul] at h0); (try simp only [List.drop_succ_cons] at h0); (try simp only [List.drop_zero] at h0); (try simp only [List.take_succ_cons] at h0); (try simp only [List.take_zero] at h0)
 obtain ⟨a0, rfl, ba0⟩ := h3j Tryz.underlying5 h0
 replace ba0 := wf_u8 ba0
 obtain ⟨y1, h1⟩ := hf 1 _ rfl
 (try simp only [e5] at h1); (try simp only [Nat.reduceMul] at h1); (try simp only [List.drop_succ_cons] at h1); (try simp only [List.drop_zero] at h1); (try simp only [List.take_succ_cons] at h1); (try simp only [List.take_zero] at h1)
 obtain ⟨a1, rfl, ba1⟩ := h3j Tryz.underlying5 h1
 replace ba1 := wf_u8 ba1
 obtain ⟨y2, h2⟩ := hf 2 _ rfl
 (try simp only [e5] at h2); (try simp only [Nat.reduceMul] at h2); (try simp only [List.drop_succ_cons] at h2); (try simp only [List.drop_zero] at h2); (try simp only [List.take_succ_cons] at h2); (try simp only [List.take_zero] at h2)
 obtain ⟨a2, rfl, ba2⟩ := h3j Tryz.underlying5 h2
 replace ba2 := wf_u8 ba2
 obtain ⟨y3, h3⟩ := hf 3 _ rfl
 (try simp only [e44] at h3); (try simp only [Nat.reduceMul] at h3); (try simp only [List.drop_succ_cons] at h3); (try simp only [List.drop_zero] at h3); (try simp only [List.take_succ_cons] at h3); (try simp only [List.take_zero] at h3)
 obtain ⟨a3_a, a3_l, a3_c, rfl⟩ := h5d Tryz.underlying44 h3
 have ba3 : ∃ fuel y, DataW.trod enc Tryz.prog w base spare held fuel 44 [Value.slice a3_a a3_l a3_c] = some y := ⟨_, _, h3⟩
 obtain ⟨y4, h4⟩ := hf 4 _ rfl
 (try simp only [e31] at h4); (try simp only [Nat.reduceMul] at h4); (try simp only [List.drop_succ_cons] at h4); (try simp only [List.drop_zero] at h4); (try simp only [List.take_succ_cons] at h4); (try simp only [List.take_zero] at h4)
 obtain ⟨a4, rfl, ba4⟩ := h3j Tryz.underlying31 h4
 replace ba4 := wf_u16 ba4
 obtain ⟨y5, h5⟩ := hf 5 _ rfl
 (try simp only [e45] at h5); (try simp only [Nat.reduceMul] at h5); (try simp only [List.drop_succ_cons] at h5); (try simp only [List.drop_zero] at h5); (try simp only [List.take_succ_cons] at h5); (try simp only [List.take_zero] at h5)
 obtain ⟨a5_a, a5_l, a5_c, rfl⟩ := h5d Tryz.underlying45 h5
 have ba5 : ∃ fuel y, DataW.trod enc Tryz.prog w base spare held fuel 45 [Value.slice a5_a a5_l a5_c] = some y := ⟨_, _, h5⟩
 obtain ⟨y6, h6⟩ := hf 6 _ rfl
 (try simp only [e46] at h6); (try simp only [Nat.reduceMul] at h6); (try simp only [List.drop_succ_cons] at h6); (try simp only [List.drop_zero] at h6); (try simp only [List.take_succ_cons] at h6); (try simp only [List.take_zero] at h6)
 obtain ⟨a6_a, a6_l, a6_c, rfl⟩ := h5d Tryz.underlying46 h6
 have ba6 : ∃ fuel y, DataW.trod enc Tryz.prog w base spare held fuel 46 [Value.slice a6_a a6_l a6_c] = some y := ⟨_, _, h6⟩
 obtain ⟨y7, h7⟩ := hf 7 _ rfl
 (try simp only [e45] at h7); (try simp only [Nat.reduceMul] at h7); (try simp only [List.drop_succ_cons] at h7); (try simp only [List.drop_zero] at h7); (try simp only [List.take_succ_cons] at h7); (try simp only [List.take_zero] at h7)
 obtain ⟨a7_a, a7_l, a7_c, rfl⟩ := h5d Tryz.underlying45 h7
 have ba7 : ∃ fuel y, DataW.trod enc Tryz.prog w base spare held fuel 45 [Value.slice a7_a a7_l a7_c] = some y := ⟨_, _, h7⟩
 exact ⟨a0, a1, a2, a3_a, a3_l, a3_c, a4, a5_a, a5_l, a5_c, a6_a, a6_l, a6_c, a7_a, a7_l, a7_c, rfl, ba0, ba1, ba2, ba3, ba4, ba5, ba6, ba7⟩
theorem u16_open {H : Type} {enc : TypeId × Value → H} {w : World} {base : Nat} {spare : Nat → Bool} {held : Bool} {fuel : Nat} {cs : List Value} {x : DataW H × List MemPlace} (h : DataW.trod enc Tryz.prog w base spare held fuel 31 cs = some x) : ∃ n : Int, cs = [.int .u16 n] ∧ (0 ≤ n ∧ n < 65536) := by
 obtain ⟨n, rfl, hw⟩ := trod_int_any Tryz.underlying31 h
 exact ⟨n, rfl, wf_u16 hw⟩
def u16v (n : Int) : List Value := [.int .u16 n]
theorem u16v_flat (l : List Int) : l.flatMap u16v = u16g l := by induction l with | nil => rfl | cons n r ih => simpa [u16v, u16g] using ih
theorem scond_open {H : Type} {enc : TypeId × Value → H} {w : World} {base : Nat} {spare : Nat → Bool} {held : Bool} {fuel : Nat} {cs : List Value} {x : DataW H × List MemPlace} (h : DataW.trod enc Tryz.prog w base spare held fuel 95 cs = some x) : ∃ c : SCnd, cs = c.cells ∧ c.ok := by
 obtain ⟨a0, a1, a2, a3, rfl, h0, h1, h2, h3⟩ := open_95 h
 exact ⟨⟨a0, a1, a2, a3⟩, rfl, h0, h1, h2, h3⟩
structure SRulV where
 r : SRul
 v : Value
def SRulV.cells (x : SRulV) : List Value := [.int .u8 x.r.c, .int .u8 x.r.a, .int .u8 x.r.e, x.v]
structure SRulV.ok (B : List Blk) (x : SRulV) : Prop where
 r : x.r.ok
 v : SCndS B x.v x.r.conds
theorem srul_open {H : Type} {enc : TypeId × Value → H} {w : World} {base : Nat} {spare : Nat → Bool} {held : Bool} {fuel : Nat} {cs : List Value} {x : DataW H × List MemPlace} (h : DataW.trod enc Tryz.prog w base spare held fuel 91 cs = some x) : ∃ (r : SRulV) (B : List Blk), cs = r.cells ∧ r.ok B ∧ ROnly w B := by
 obtain ⟨a0, a1, a2, a3a, a3l, a3c, rfl, h0, h1, h2, ⟨f3, y3, h3⟩⟩ := open_91 h
 obtain ⟨l1, B1, rfl, g1, s1, r1, m1, _, _⟩ := slice_list (cells:=SCnd.cells) (ok:=SCnd.ok) Tryz.underlying89 (sz:=4) (by kernel_rfl) (by omega) (fun _ _ => rfl) (fun _ _ _ h => scond_open h) h3
 exact ⟨⟨⟨a0, a1, a2, l1⟩, _⟩, B1, rfl, ⟨⟨h0, h1, h2, g1⟩, ⟨a3a, a3c, rfl, s1, m1⟩⟩, r1⟩
theorem srulG_of {B : List Blk} : ∀ l : List SRulV, (∀ x ∈ l, x.ok B) → SRulG B (l.map SRulV.r) (l.flatMap SRulV.cells)
 | [], _ => rfl
 | x :: r, h => ⟨x.v, r.flatMap SRulV.cells, rfl, (h x (List.mem_cons_self ..)).v, srulG_of r fun y hy => h y (List.mem_cons_of_mem _ hy)⟩
structure SmlV where
 s : SPol
 vr : Value
 vp : Value
 vg : Value
 vq : Value
abbrev SmlV.cells (x : SmlV) : List Value := [.int .u8 x.s.nm, .int .u8 x.s.df, .int .u8 x.s.en, x.vr, .int .u16 (x.s.hd : Nat), x.vp, x.vg, x.vq]
structure SmlV.ok (B : List Blk) (x : SmlV) : Prop where
 s : x.s.ok
 v : SPolS B x.s x.vr x.vp x.vg x.vq
theorem SmlV.ok.mono {B L : List Blk} {x : SmlV} (h : x.ok B) (hs : SubB B L) : x.ok L := ⟨h.s, h.v.mono hs⟩
theorem small_openP {H : Type} {enc : TypeId × Value → H} {w : World} {base : Nat} {spare : Nat → Bool} {held : Bool} {fuel : Nat} {cs : List Value} {x : DataW H × List MemPlace} (h : DataW.trod enc Tryz.prog w base spare held fuel 48 cs = some x) : ∃ (s : SmlV) (B : List Blk), cs = s.cells ∧ s.ok B ∧ ROnly w B := by
 obtain ⟨a0, a1, a2, a3a, a3l, a3c, a4, a5a, a5l, a5c, a6a, a6l, a6c, a7a, a7l, a7c, rfl, h0, h1, h2, ⟨f3, y3, h3⟩, h4, ⟨f5, y5, h5⟩, ⟨f6, y6, h6⟩, ⟨f7, y7, h7⟩⟩ := open_48 h
 obtain ⟨l3, B3, rfl, g3, s3, r3, m3, -, -⟩ := slice_listB (cells:=SRulV.cells) (ok:=SRulV.ok) Tryz.underlying44 (sz:=4) (by kernel_rfl) (by omega) (fun _ _ _ h => ⟨h.r, h.v.left⟩) (fun _ _ _ h => ⟨h.r, h.v.upA _⟩) (fun _ _ _ h => srul_open h) h3
 obtain ⟨l5, B5, rfl, g5, s5, r5, m5, -, -⟩ := slice_list (cells:=u8v) (ok:=u8ok) Tryz.underlying45 (sz:=1) (by kernel_rfl) (by omega) (fun _ _ => rfl) (fun _ _ _ h => u8_open h) h5
 obtain ⟨l6, B6, rfl, g6, s6, r6, m6, -, -⟩ := slice_list (cells:=u16v) (ok:=fun n : Int => 0 ≤ n ∧ n < 65536) Tryz.underlying46 (sz:=1) (by kernel_rfl) (by omega) (fun _ _ => rfl) (fun _ _ _ h => u16_open h) h6
 obtain ⟨l7, B7, rfl, g7, s7, r7, m7, -, -⟩ := slice_list (cells:=u8v) (ok:=u8ok) Tryz.underlying45 (sz:=1) (by kernel_rfl) (by omega) (fun _ _ => rfl) (fun _ _ _ h => u8_open h) h7
 rw [u8v_flat] at s5 s7
 rw [u16v_flat] at s6
 obtain ⟨hd, rfl⟩ := i_nat h4
 have e3 : (l3.map SRulV.r).length = l3.length := List.length_map ..
 refine ⟨⟨⟨a0, a1, a2, l3.map SRulV.r, hd, l5, l6, l7⟩, _, _, _, _⟩, B3 ++ (B5 ++ (B6 ++ B7)), rfl, ⟨⟨h0, h1, h2, ?_, by show hd < 65536; omega, g5, g6, g7⟩, ⟨⟨a3a, a3c, l3.flatMap SRulV.cells, by rw [e3], by rw [e3]; exact s3.left, (srulG_of l3 g3).left⟩, ⟨a5a, a5c, rfl, (s5.left).upA B3⟩, ⟨a6a, a6c, rfl, ((s6.left).upA B5).upA B3⟩, ⟨a7a, a7c, rfl, ((s7.upA B6).upA B5).upA B3⟩, by show (l3.map SRulV.r).length ≤ maxLen; rw [e3]; exact m3, m5, m6, m7⟩⟩, r3.app (r5.app (r6.app r7))⟩
 intro r hr
 obtain ⟨x, hx, rfl⟩ := List.mem_map.1 hr
 exact (g3 x hx).r
structure GRulV where
 r : GRul
 v : Value
def GRulV.cells (x : GRulV) : List Value := [.int .u32 x.r.num, .int .u32 x.r.act, x.v]
structure GRulV.ok (B : List Blk) (x : GRulV) : Prop where
 r : x.r.ok
 v : CndS B x.v x.r.conds
structure GplV where
 P : GPol
 vr : Value
 vp : Value
 vq : Value
abbrev GplV.cells (x : GplV) : List Value := polG x.P x.vr x.vp x.vq
structure GplV.ok (B : List Blk) (x : GplV) : Prop where
 r : GPolR x.P
 v : PolS B x.P x.vr x.vp x.vq
theorem GplV.ok.mono {B L : List Blk} {x : GplV} (h : x.ok B) (hs : SubB B L) : x.ok L := ⟨h.r, h.v.mono hs⟩
theorem slice_len_w {H : Type} {enc : TypeId × Value → H} {P : Program} {w : World} {base : Nat} {spare : Nat → Bool} {held : Bool} {fuel : Nat} {x : DataW H × List MemPlace} {t e : TypeId} {a : Option Addr} {len cap m : Nat}
  (hu : P.underlying t = some (.slice e)) (h : DataW.trod enc P w base spare held fuel t [.slice a len cap] = some x) (hb : P.bytesOf e = 1) (hw : ∀ n ∈ x.1.weights P t, n ≤ m) : len ≤ m := by
 rcases DataW.trod_slice hu h with ⟨h2, _⟩ | ⟨a', len', cap', elems, rest, n', _, h2, h3, _, _, _, h4, _⟩
 ·simp only [List.cons.injEq, Value.slice.injEq, and_true] at h2
  omega
 ·simp only [List.cons.injEq, Value.slice.injEq, and_true] at h2
  obtain ⟨_, rfl, _⟩ := h2
  have h5 : (elems.length + rest.length) * P.bytesOf e ∈ x.1.weights P t := by
   rw [h3]; simp [DataW.weights, hu]
  have h7 := hw _ h5
  rw [hb, h4] at h7
  omega
end Go.Proofs.YtecbgehooembmaaGreatDoor
namespace Go.Proofs.YtecbgehooembmaaGreatDoor
open Go.ChangeShapes Go.WideShapes Go.ChangeAt Go.RowKit
theorem ownParseOrder : ownKnob Tryz.prog.godebug = none := by kernel_rfl
theorem laidParseOrder : laidOutB Tryz.prog = true := by kernel_rfl
theorem parseOrder_lifted (os : Os) (started : os.Started) (H : Type) (enc : TypeId × Value → H) :
  ReturnsInHanded {} Tryz.checked os 5 .any (fun w args => (Rows.parseOrderSpec.pre enc Tryz.prog Tryz.f5 [] false w args ∧ laidMetH Tryz.prog Rows.parseOrderRow.laid w) ∧ sizedMet enc Tryz.prog Tryz.f5 (OpenSpec.ofChange Rows.parseOrderSpec) false w args)
   (Rows.parseOrderSpec.post enc Tryz.prog Tryz.f5 false true false false) := by
 refine returnsInHanded_of_change_and (C:=Tryz.checked) (X:=fun w _ => laidMetH Tryz.prog Rows.parseOrderRow.laid w) (fun _ _ _ hh h => h.of_heap hh) ownParseOrder started (by kernel_rfl) Tryz.func5
  (ChangeSpec.witness_shaped (enc:=enc) (C:=Tryz.checked) (os:=os) (X:=fun w _ => laidMetH Tryz.prog Rows.parseOrderRow.laid w) false (World.laidAll Tryz.prog os Rows.parseOrderRow.laid) #[.agg #[.int .u8 0, .int .u8 0, .int .u8 0, .slice none 0 0, .int .u16 0, .slice none 0 0, .slice none 0 0, .slice none 0 0], .slice none 0 0] 8 (World.laidAll_os _ _ _)
   (World.shaped_of_ZipB (by kernel_rfl) (by kernel_rfl)) (by kernel_rfl) (by kernel_rfl) (by kernel_rfl)
   (by rw [MakeChecks.laidMetH_plain _ _ _ (by kernel_rfl)]; exact laidMet_laidAll _ (by kernel_rfl) (by kernel_rfl))) ?_
 intro W base args ds gs before hval0 hW _ hsz0 _ _
 have hsz : (DataW.weightsEach Tryz.prog (Tryz.f5.params.toList ++ Rows.parseOrderSpec.plain.varTypes Tryz.prog) (ds ++ gs)).all (· ≤ reachBytes) = true := hsz0
 have hval : ∀ (j : Nat) t v, Tryz.f5.params[j]? = some t → args[j]? = some v → Value.okWide Tryz.prog W .any base t v := hval0
 have hW' := hW
 obtain ⟨p, q, hA0, hV, rfl, hfz, hnd⟩ := hW
 have hA : DataW.TrodAll enc Tryz.prog W 0 (fun _ => true) true Tryz.f5.params.toList args.toList ds p := hA0
 rw [Tryz.params5] at hA hval hsz
 obtain ⟨v0, vs0, d0, ds0, p0, q0, hargs, rfl, rfl, h0, r0⟩ := trodAll_cons hA
 obtain ⟨v1, vs1, d1, ds1, p1, q1, rfl, rfl, rfl, h1, r1⟩ := trodAll_cons r0
 obtain ⟨rfl, rfl, rfl⟩ := trodAll_nil r1
 obtain rfl : args = #[v0, v1] := by cases args; simp_all
 obtain ⟨rfl, rfl⟩ := trodVars_none hV
 have k0 := h0
 have lt0 : ∀ x ∈ p0, x.block < W.heap.size := by obtain ⟨m, hm⟩ := k0; exact DataW.trod_lt m _ _ _ hm
 have k1 := h1
 have lt1 : ∀ x ∈ p1, x.block < W.heap.size := by obtain ⟨m, hm⟩ := k1; exact DataW.trod_lt m _ _ _ hm
 obtain ⟨cs0, rfl, _⟩ := okWide_struct Tryz.underlying48 (hval 0 48 v0 rfl rfl)
 obtain ⟨f0, hf0⟩ := h0
 obtain ⟨a0, B0, e0, b0, ro0⟩ := small_openP hf0
 obtain rfl : cs0 = a0.cells.toArray := by apply Array.ext'; simpa [Value.cells] using e0
 obtain ⟨A1, len1, C1, rfl⟩ := okWide_slice Tryz.underlying45 (hval 1 45 v1 rfl rfl)
 obtain ⟨f1, hf1⟩ := h1
 obtain ⟨a1, B1, rfl, b1, s1, ro1, m1, q1⟩ := slice_list (cells:=u8v) (ok:=u8ok) Tryz.underlying45 (sz:=1) (by kernel_rfl) (by omega) (fun _ _ => rfl) (fun _ _ _ h => u8_open h) (by simpa [Value.cells] using hf1)
 have y1 := slice_len_w (m:=140737488351232) Tryz.underlying45 (by simpa [Value.cells] using hf1) (by kernel_rfl) (fun n hn => of_decide_eq_true (List.all_eq_true.1 hsz n (DataW.weights_mem_each (j:=1) rfl rfl n hn)))
 have S0 := b0.mono (L:=(B0 ++ B1)) (SubB.left _ _)
 have S1 := (s1).upA B0
 clear hA0 hval0
 refine ((parseOrder_c (S:=[]) (w0:=W) (L:=(B0 ++ B1)) a0.s S0.s a0.vr a0.vp a0.vg a0.vq S0.v a1 b1 y1 A1 C1 (by rw [← u8v_flat]; exact S1)).out W (HP.ro (ro0.app ro1))).mono fun e W' ⟨v, L', he, ⟨hv, _⟩, H'⟩ => ?_
 subst he hv
 have bel := H'.below
 exact ⟨_, rfl, _, _, _, [], _, [], hW', trodAll_mk1 (shut_bool Tryz.underlying4 _), (trodAll_cons_mk (Below.trod laidParseOrder (by kernel_rfl) (of_decide_eq_true (by kernel_rfl)) k0 bel lt0) (trodAll_cons_mk (Below.trod laidParseOrder (by kernel_rfl) (of_decide_eq_true (by kernel_rfl)) k1 bel lt1) trodAll_mk0)), rfl, bel.frame _, fun h => by cases h⟩
theorem parseOrder_said : Rows.ParseOrderSaid :=
 OpenClaim.holds_of_wide 5 Tryz.f5 rfl rfl rfl rfl rfl rfl rfl ⟨rfl, rfl, rfl, rfl, rfl⟩ rfl rfl rfl rfl rfl (by kernel_rfl) Tryz.func5 (by kernel_rfl)
  (of_decide_eq_true (by kernel_rfl)) (by unfold Func.isWrapper; first | (rw [if_pos (by decide +kernel)]; kernel_rfl) | (rw [if_neg (by decide +kernel)]; exact ⟨rfl, rfl⟩))
  (fun os started H enc _ => parseOrder_lifted os started H enc)
theorem parseOrder_plain (f : FuncId) (fn : Func) (hf : Tryz.pinned.checked.prog.funcNamed "pinfold/pinfoldlaw10.ParseOrder" = some f) (hfn : Tryz.pinned.checked.prog.funcs[f]? = some fn) :
  false = Tryz.pinned.checked.prog.looks [] ∧ ∀ (j : Nat) t, fn.params[j]? = some t → Tryz.pinned.checked.prog.wantsStandIn t = false := by
 obtain rfl : f = 5 := Option.some.inj ((show Tryz.prog.funcNamed "pinfold/pinfoldlaw10.ParseOrder" = some 5 by kernel_rfl).symm.trans hf) |>.symm
 obtain rfl : fn = Tryz.f5 := (Option.some.inj (Tryz.func5.symm.trans hfn)).symm
 refine ⟨by kernel_rfl, fun j t ht => ?_⟩
 rw [Tryz.params5] at ht
 have hm : t ∈ [48, 45] := by simpa using Array.mem_of_getElem? ht
 have hall : ([48, 45].all fun u => !Tryz.prog.wantsStandIn u) = true := by kernel_rfl
 exact (show Tryz.prog.wantsStandIn t = false by simpa using List.all_eq_true.1 hall t hm)
theorem parseOrder_holds : Rows.ParseOrderCardSaid :=
 Claim7.holds_tied_plain_at .later [] _ _ _ _ parseOrder_said (fun _ h => by cases h) (by kernel_rfl) (fun _ h => by cases h) parseOrder_row_tie rfl ⟨rfl, rfl⟩ (by kernel_rfl) rfl parseOrder_plain (by kernel_rfl)
#print axioms parseOrder_holds
end Go.Proofs.YtecbgehooembmaaGreatDoor
