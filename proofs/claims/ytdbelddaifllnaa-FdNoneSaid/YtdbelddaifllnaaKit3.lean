/- What a reading of the arguments tells of their cells: structs field by field, slices element by element. Conditions: none beyond each lemma's own premises. -/
import Derived.WalkKit
import Derived.ProofKit
namespace Go.Proofs.Ytdbelddaifllnaa
open Go Go.RowKit

theorem mapM_some {α β : Type} {f : α → Option β} : ∀ {l : List α} {ys : List β}, l.mapM f = some ys → ∀ (i : Nat) (x : α), l[i]? = some x → ∃ y, f x = some y ∧ ys[i]? = some y
  | [], _, _, i, x, hx => by simp at hx
  | a :: l, ys, h, i, x, hx => by
    simp only [List.mapM_cons, Option.pure_def, Option.bind_eq_bind, Option.bind_eq_some_iff] at h
    obtain ⟨y, hy, ys', hys, e⟩ := h
    obtain rfl := Option.some.inj e
    cases i with
    | zero => simp at hx; subst hx; exact ⟨y, hy, by simp⟩
    | succ i => simp at hx; simpa using mapM_some hys i x hx

theorem mapM_len {α β : Type} {f : α → Option β} : ∀ {l : List α} {ys : List β}, l.mapM f = some ys → ys.length = l.length
  | [], ys, h => by simp at h; simp [h]
  | a :: l, ys, h => by
    simp only [List.mapM_cons, Option.pure_def, Option.bind_eq_bind, Option.bind_eq_some_iff] at h
    obtain ⟨y, hy, ys', hys, e⟩ := h
    obtain rfl := Option.some.inj e
    simp [mapM_len hys]

section
variable {H : Type} {enc : TypeId × Value → H} {P : Program} {w : World} {base : Nat} {spare : Nat → Bool} {held : Bool}

/-- each field of a struct that reads, reads -/
theorem trod_fields {t : TypeId} {fs : Array Field} {fuel : Nat} {cs : List Value} {x : DataW H × List MemPlace} (ht : P.underlying t = some (.struct fs))
    (h : DataW.trod enc P w base spare held fuel t cs = some x) :
    ∃ n, fuel = n + 1 ∧ cs.length = P.cellsOf t ∧ ∀ (i : Nat) (f : Field), fs.toList[i]? = some f → ∃ y, DataW.trod enc P w base spare held n f.type ((cs.drop f.offset).take (P.cellsOf f.type)) = some y := by
  cases fuel with
  | zero => simp [DataW.trod] at h
  | succ n =>
    refine ⟨n, rfl, ?_⟩
    unfold DataW.trod at h
    simp only [ht] at h
    split at h
    · rename_i hlen
      simp only [Option.map_eq_some_iff] at h
      obtain ⟨xs, hxs, _⟩ := h
      exact ⟨hlen, fun i f hf => let ⟨y, hy, _⟩ := mapM_some hxs i f hf; ⟨y, hy⟩⟩
    · simp at h

/-- a slice that reads: nil, or each element up to the capacity is there and reads -/
theorem trod_slice {t e : TypeId} {fuel : Nat} {a : Option Addr} {len cap : Nat} {x : DataW H × List MemPlace} (ht : P.underlying t = some (.slice e))
    (h : DataW.trod enc P w base spare held fuel t [.slice a len cap] = some x) :
    (a = none ∧ len = 0 ∧ cap = 0) ∨
    ∃ p n, a = some p ∧ fuel = n + 1 ∧ len ≤ cap ∧ cap ≤ maxLen ∧ ∀ i, i < len → ∃ cs y, w.cells? base (p.add (i * P.cellsOf e)) (P.cellsOf e) = some cs ∧ DataW.trod enc P w base spare held n e cs = some y := by
  cases fuel with
  | zero => simp [DataW.trod] at h
  | succ n =>
    cases a with
    | none =>
      left
      unfold DataW.trod at h
      simp only [ht] at h
      cases len <;> cases cap <;> simp_all
    | some p =>
      right
      unfold DataW.trod at h
      simp only [ht] at h
      split at h
      · rename_i hc
        simp only [Option.bind_eq_some_iff] at h
        obtain ⟨elems, hel, _⟩ := h
        refine ⟨p, n, rfl, rfl, hc.2.1, hc.2.2, fun i hi => ?_⟩
        obtain ⟨y, hy, _⟩ := mapM_some hel i i (by simp [hi])
        simp only [Option.bind_eq_some_iff] at hy
        obtain ⟨cs, hcs, hy⟩ := hy
        exact ⟨cs, y, hcs, hy⟩
      · simp at h

theorem cells?_get {a : Addr} {n : Nat} {cs : List Value} (h : w.cells? base a n = some cs) : base ≤ a.block ∧ cs.length = n ∧ ∀ j, j < n → w.cell? (a.add j) = cs[j]? := by
  unfold World.cells? at h
  split at h
  · rename_i hb
    refine ⟨hb, by simpa using mapM_len h, fun j hj => ?_⟩
    obtain ⟨y, hy, hy'⟩ := mapM_some h j j (by simp [hj])
    rw [hy, hy']
  · simp at h

theorem trod_int_cell {t : TypeId} {k : IntKind} {fuel : Nat} {c : Value} {y : DataW H × List MemPlace} (ht : P.underlying t = some (.int k)) (h : DataW.trod enc P w base spare held fuel t [c] = some y) :
    ∃ n, c = .int k n ∧ (Lit.int k n).wf = true := by
  cases fuel with
  | zero => simp [DataW.trod] at h
  | succ f =>
    unfold DataW.trod at h
    rw [ht] at h
    cases c <;> simp_all

theorem trod_bool_cell {t : TypeId} {fuel : Nat} {c : Value} {y : DataW H × List MemPlace} (ht : P.underlying t = some .bool) (h : DataW.trod enc P w base spare held fuel t [c] = some y) :
    ∃ b, c = .bool b := by
  cases fuel with
  | zero => simp [DataW.trod] at h
  | succ f =>
    unfold DataW.trod at h
    rw [ht] at h
    cases c <;> simp_all

theorem trod_string_cell {t : TypeId} {fuel : Nat} {c : Value} {y : DataW H × List MemPlace} (ht : P.underlying t = some .string) (h : DataW.trod enc P w base spare held fuel t [c] = some y) :
    ∃ s, c = .string s ∧ s.size ≤ maxLen := by
  cases fuel with
  | zero => simp [DataW.trod] at h
  | succ f =>
    unfold DataW.trod at h
    rw [ht] at h
    cases c <;> simp_all
end
end Go.Proofs.Ytdbelddaifllnaa
