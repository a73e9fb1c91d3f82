/- The laws of check: Awake, CheckMany. -/
import Derived.Test.YtpbpgbkpciffgaaCheck3
import Derived.Test.YtpbpgbkpciffgaaInsn2
namespace Go.Proofs.Ytpbpgbkpciffgaa
open Go Go.RowKit
theorem sli_lit {L : List Blk} {b : Nat} {T : TypeId} {q : Bool} {fr : Nat × Nat} (l : List Ins) : Sli (⟨q, b, .cells (flat l).toArray T fr⟩ :: L) (some ⟨b, 0, none⟩) l.length 4 (flat l) :=
  Sli.of (i := 0) rfl (by simp [flat_len]) (by rw [List.drop_zero]; exact List.take_of_length_le (by rw [flat_len]; exact Nat.le_refl _))
theorem awake_chk : check [⟨6, 0, 0, 7⟩] = (0, 0) ∧ check [⟨32, 0, 0, 0⟩] = (0, 209) := by decide +kernel
def ret0 : Ins := ⟨6, 0, 0, 0⟩
theorem flat_rep (n : Nat) (i : Ins) : flat (List.replicate n i) = (List.replicate n i.cells).flatten := by
  simp [flat, List.flatMap_replicate]
theorem splice_flat (l : List Ins) (k : Nat) (i : Ins) (h : k < l.length) : splice (flat l) (k * 4) i.cells = flat (l.set k i) := by
  induction l generalizing k with
  | nil => simp at h
  | cons j l ih =>
    cases k with
    | zero => simp [splice, flat, List.flatMap_cons, Ins.cells]
    | succ k =>
      have := ih k (by simpa using h)
      have e : (k + 1) * 4 = j.cells.length + k * 4 := by simp [Ins.cells]; omega
      have e2 : j.cells.length + k * 4 + i.cells.length = j.cells.length + (k * 4 + i.cells.length) := by omega
      simp only [splice, flat, List.flatMap_cons, List.set_cons_succ] at this ⊢
      rw [e, List.take_length_add_append, e2, List.drop_length_add_append, List.append_assoc, List.append_assoc, ← List.append_assoc (List.take _ _), this]
theorem loadsGo_none (l : List Ins) (k : Nat) (st : List Int) (h : ∀ i ∈ l, isLd i = false) : loadsGo l k st = (0, 0) := by
  induction l generalizing k st with
  | nil => rfl
  | cons i l ih =>
    unfold loadsGo
    rw [h i (by simp)]
    simp only [Bool.false_and, Bool.false_eq_true, if_false]
    exact ih _ _ fun j hj => h j (by simp [hj])
theorem firstBad_rep (n m at_ : Nat) : firstBad n (List.replicate m ret0) at_ = none := by
  induction m generalizing at_ with
  | zero => rfl
  | succ m ih =>
    rw [List.replicate_succ, firstBad_cons]
    have : one ret0 at_ n = 0 := by simp [one, ret0, known]
    rw [this, if_neg (by simp)]; exact ih _
theorem check_many (m : Nat) (k : Int) (hm : 2 ≤ m) (hk : 0 ≤ k) : check (⟨5, 0, 0, k⟩ :: List.replicate (m - 1) ret0) = if m > 4096 then (4096, 205) else if k > (m : Int) - 2 then (0, 207) else (0, 0) := by
  have hl : (⟨5, 0, 0, k⟩ :: List.replicate (m - 1) ret0 : List Ins).length = m := by simp; omega
  unfold check
  rw [hl, if_neg (by omega)]
  by_cases h1 : m > 4096
  · rw [if_pos h1, if_pos h1]
  · rw [if_neg h1, if_neg h1, firstBad_cons]
    have ho : one ⟨5, 0, 0, k⟩ ((0 : Nat) : Int) m = if k > (m : Int) - 2 then 207 else 0 := by
      unfold one
      by_cases h2 : k > (m : Int) - 2
      · have h3 : (m : Int) - 1 ≤ k := by omega
        simp [known, h2, h3]
      · have h3 : ¬ (m : Int) - 1 ≤ k := by omega
        simp [known, h2, h3]
    rw [ho]
    by_cases h2 : k > (m : Int) - 2
    · simp [h2]
    · rw [if_neg h2, if_neg h2, if_neg (by simp), firstBad_rep]
      have hlast : (⟨5, 0, 0, k⟩ :: List.replicate (m - 1) ret0 : List Ins).getD (m - 1) ⟨0, 0, 0, 0⟩ = ret0 := by
        obtain ⟨q, rfl⟩ : ∃ q, m = q + 2 := ⟨m - 2, by omega⟩
        simp [List.getD_eq_getElem?_getD]
      rw [hlast]
      show (if isRet ret0 = true then _ else _) = _
      rw [if_pos (by decide)]
      unfold loads
      exact loadsGo_none _ _ _ (by intro i hi; simp at hi; rcases hi with rfl | ⟨_, rfl⟩ <;> simp [isLd, ret0])
theorem check_nil : check [] = (0, 203) := rfl

end Go.Proofs.Ytpbpgbkpciffgaa
