/- What a reading of the arguments tells of their cells: structs field by field, slices element by element. Conditions: none beyond each lemma's own premises. -/
import Derived.WalkKit
import Derived.ProofKit
namespace Go.Proofs.Ytlfoiemjjalnlaa
open Go Go.RowKit

theorem mapM_some {α β : Type} {f : α → Option β} : ∀ {l : List α} {ys : List β}, l.mapM f = some ys → ∀ (i : Nat) (x : α), l[i]? = some x → ∃ y, f x = some y ∧ ys[i]? = some y
  | [], _, _, i, x, hx => by simp at hx
  | a :: l, ys, h, i, x, hx => by
    simp only [List.mapM_cons, Option.pure_def, Option.bind_eq_bind, Option.bind_eq_some_iff] at h
    obtain ⟨y, hy, ys', hys, e⟩ := h
    obtain rfl := Option.some.inj e
    cases i with
    | zero => simp at hx; subst hx; exact ⟨y, hy, by simp⟩
    | succ i => simp at hx; simpa using mapM_some hys i x hx

theorem mapM_len {α β : Type} {f : α → Option β} : ∀ {l : List α} {ys : List β}, l.mapM f = some ys → ys.length = l.length
  | [], ys, h => by simp at h; simp [h]
  | a :: l, ys, h => by
    simp only [List.mapM_cons, Option.pure_def, Option.bind_eq_bind, Option.bind_eq_some_iff] at h
    obtain ⟨y, hy, ys', hys, e⟩ := h
    obtain rfl := Option.some.inj e
    simp [mapM_len hys]

section
variable {H : Type} {enc : TypeId × Value → H} {P : Program} {w : World} {base : Nat} {spare : Nat → Bool} {held : Bool}

/-- each field of a struct that reads, reads -/
theorem trod_fields {t : TypeId} {fs : Array Field} {fuel : Nat} {cs : List Value} {x : DataW H × List MemPlace} (ht : P.underlying t = some (.struct fs))
    (h : DataW.trod enc P w base spare held fuel t cs = some x) :
    ∃ n, fuel = n + 1 ∧ cs.length = P.cellsOf t ∧ ∀ (i : Nat) (f : Field), fs.toList[i]? = some f → ∃ y, DataW.trod enc P w base spare held n f.type ((cs.drop f.offset).take (P.cellsOf f.type)) = some y := by
  cases fuel with
  | zero => simp [DataW.trod] at h
  | succ n =>
    refine ⟨n, rfl, ?_⟩
    unfold DataW.trod at h
    simp only [ht] at h
    split at h
    · rename_i hlen
      simp only [Option.map_eq_some_iff] at h
      obtain ⟨xs, hxs, _⟩ := h
      exact ⟨hlen, fun i f hf => let ⟨y, hy, _⟩ := mapM_some hxs i f hf; ⟨y, hy⟩⟩
    · simp at h

/-- a slice that reads: nil, or each element up to the capacity is there and reads -/
theorem trod_slice {t e : TypeId} {fuel : Nat} {a : Option Addr} {len cap : Nat} {x : DataW H × List MemPlace} (ht : P.underlying t = some (.slice e))
    (h : DataW.trod enc P w base spare held fuel t [.slice a len cap] = some x) :
    (a = none ∧ len = 0 ∧ cap = 0) ∨
    ∃ p n, a = some p ∧ fuel = n + 1 ∧ len ≤ cap ∧ cap ≤ maxLen ∧ ∀ i, i < len → ∃ cs y, w.cells? base (p.add (i * P.cellsOf e)) (P.cellsOf e) = some cs ∧ DataW.trod enc P w base spare held n e cs = some y := by
  cases fuel with
  | zero => simp [DataW.trod] at h
  | succ n =>
    cases a with
    | none =>
      left
      unfold DataW.trod at h
      simp only [ht] at h
      cases len <;> cases cap <;> simp_all
    | some p =>
      right
      unfold DataW.trod at h
      simp only [ht] at h
      split at h
      · rename_i hc
        simp only [Option.bind_eq_some_iff] at h
        obtain ⟨elems, hel, _⟩ := h
        refine ⟨p, n, rfl, rfl, hc.2.1, hc.2.2, fun i hi => ?_⟩
        obtain ⟨y, hy, _⟩ := mapM_some hel i i (by simp [hi])
        simp only [Option.bind_eq_some_iff] at hy
        obtain ⟨cs, hcs, hy⟩ := hy
        exact ⟨cs, y, hcs, hy⟩
      · simp at h

theorem cells?_get {a : Addr} {n : Nat} {cs : List Value} (h : w.cells? base a n = some cs) : base ≤ a.block ∧ cs.length = n ∧ ∀ j, j < n → w.cell? (a.add j) = cs[j]? := by
  unfold World.cells? at h
  split at h
  · rename_i hb
    refine ⟨hb, by simpa using mapM_len h, fun j hj => ?_⟩
    obtain ⟨y, hy, hy'⟩ := mapM_some h j j (by simp [hj])
    rw [hy, hy']
  · simp at h

theorem trod_int_cell {t : TypeId} {k : IntKind} {fuel : Nat} {c : Value} {y : DataW H × List MemPlace} (ht : P.underlying t = some (.int k)) (h : DataW.trod enc P w base spare held fuel t [c] = some y) :
    ∃ n, c = .int k n ∧ (Lit.int k n).wf = true := by
  cases fuel with
  | zero => simp [DataW.trod] at h
  | succ f =>
    unfold DataW.trod at h
    rw [ht] at h
    cases c <;> simp_all

theorem trod_bool_cell {t : TypeId} {fuel : Nat} {c : Value} {y : DataW H × List MemPlace} (ht : P.underlying t = some .bool) (h : DataW.trod enc P w base spare held fuel t [c] = some y) :
    ∃ b, c = .bool b := by
  cases fuel with
  | zero => simp [DataW.trod] at h
  | succ f =>
    unfold DataW.trod at h
    rw [ht] at h
    cases c <;> simp_all

theorem trod_string_cell {t : TypeId} {fuel : Nat} {c : Value} {y : DataW H × List MemPlace} (ht : P.underlying t = some .string) (h : DataW.trod enc P w base spare held fuel t [c] = some y) :
    ∃ s, c = .string s ∧ s.size ≤ maxLen := by
  cases fuel with
  | zero => simp [DataW.trod] at h
  | succ f =>
    unfold DataW.trod at h
    rw [ht] at h
    cases c <;> simp_all

theorem add_none (b off n : Nat) : (⟨b, off, none⟩ : Addr).add n = ⟨b, off + n, none⟩ := by unfold Addr.add; split <;> simp_all

/-- a slice that reads and is not empty lies in one block, which holds its elements' cells -/
theorem slice_block {t e : TypeId} {fuel : Nat} {a : Option Addr} {len cap : Nat} {x : DataW H × List MemPlace} (ht : P.underlying t = some (.slice e)) {sz : Nat} (hsz : P.cellsOf e = sz) (h0 : 0 < sz)
    (h : DataW.trod enc P w base spare held fuel t [.slice a len cap] = some x) (hlen : 0 < len) :
    ∃ b off acs T fr n, a = some ⟨b, off, none⟩ ∧ w.heap[b]? = some (.cells acs T fr) ∧ len ≤ cap ∧ cap ≤ maxLen ∧
      ∀ i, i < len → ∃ cs y, cs.length = sz ∧ DataW.trod enc P w base spare held n e cs = some y ∧ off + i * sz + sz ≤ acs.size ∧ acs.extract (off + i * sz) (off + i * sz + sz) = cs.toArray := by
  rcases trod_slice ht h with ⟨_, h1, _⟩ | ⟨p, n, rfl, _, hlc, hcm, hel⟩
  · omega
  · rw [hsz] at hel
    obtain ⟨cs0, y0, hc0, _⟩ := hel 0 hlen
    obtain ⟨_, hl0, hg0⟩ := cells?_get hc0
    obtain ⟨v, hv⟩ : ∃ v, cs0[0]? = some v := ⟨_, List.getElem?_eq_getElem (by omega)⟩
    have hcell := hg0 0 h0
    rw [hv] at hcell
    obtain ⟨b, off, spot⟩ := p
    have hsp : spot = none := by simpa [Addr.add] using World.cell?_spot hcell
    subst hsp
    simp only [add_none, Nat.zero_mul, Nat.add_zero] at hcell
    obtain ⟨acs, T, fr, hb⟩ : ∃ acs T fr, w.heap[b]? = some (.cells acs T fr) := by
      unfold World.cell? at hcell
      cases hq : w.heap[b]? with
      | none => simp [hq] at hcell
      | some ob =>
        cases ob with
        | cells acs T fr => exact ⟨acs, T, fr, rfl⟩
        | _ => simp [hq] at hcell
    refine ⟨b, off, acs, T, fr, n, rfl, hb, hlc, hcm, fun i hi => ?_⟩
    obtain ⟨cs, y, hcs, hy⟩ := hel i hi
    obtain ⟨_, hl, hg⟩ := cells?_get hcs
    have hget : ∀ j, j < sz → acs[off + i * sz + j]? = cs[j]? := by
      intro j hj
      have := hg j hj
      simp only [add_none] at this
      rw [cell_of_row w b _ acs T fr hb] at this
      exact this
    have hsize : off + i * sz + sz ≤ acs.size := by
      have := hget (sz - 1) (by omega)
      rw [List.getElem?_eq_getElem (by omega)] at this
      have h3 := Array.getElem?_eq_some_iff.1 this
      obtain ⟨h3, _⟩ := h3
      omega
    refine ⟨cs, y, hl, hy, hsize, ?_⟩
    apply Array.ext_getElem?
    intro j
    by_cases hj : j < sz
    · rw [Array.getElem?_extract, if_pos (by omega), hget j hj]
      simp
    · rw [Array.getElem?_extract, if_neg (by omega)]
      simp; omega
end
end Go.Proofs.Ytlfoiemjjalnlaa
