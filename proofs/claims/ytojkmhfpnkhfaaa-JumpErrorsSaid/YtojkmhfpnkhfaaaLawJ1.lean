/- JumpErrors, walked. -/
import Derived.Test.YtojkmhfpnkhfaaaLawJ0
namespace Go.Proofs.Ytojkmhfpnkhfaaa
open Go Go.RowKit
def ret1 : Prt := ⟨2, 0, 0, ⟨6, 0, 0, 1⟩⟩
theorem ret1_ok : ret1.ok := ⟨by decide, by decide, by decide, ⟨by decide, by decide, by decide, by decide⟩⟩
theorem mkGo_rep (n : Nat) (h : n ≤ 4096) : mkGo (List.replicate n ret1) = (0, ⟨List.replicate n ⟨6, 0, 0, 1⟩, []⟩) := by
  induction n with
  | zero => rfl
  | succ n ih =>
    rw [List.replicate_succ, mkGo, ih (by omega)]
    have e : Mk.part ⟨List.replicate n ⟨6, 0, 0, 1⟩, []⟩ ret1 = (0, ⟨List.replicate (n + 1) ⟨6, 0, 0, 1⟩, []⟩) := by
      have : Mk.part ⟨List.replicate n ⟨6, 0, 0, 1⟩, []⟩ ret1 = (0, ⟨List.replicate n ⟨6, 0, 0, 1⟩ ++ [⟨6, 0, 0, 1⟩], []⟩) := rfl
      rw [this, ← List.replicate_succ']
    dsimp only
    rw [e, if_neg (by simp), if_neg (by simp), if_neg (by simp; omega)]
theorem make_rep (n : Nat) : (make (List.replicate n ret1)).1 = if n > 4096 then 205 else 0 := by
  by_cases h : n > 4096
  · rw [if_pos h]
    obtain ⟨q, hq⟩ : ∃ q, q = 4096 := ⟨_, rfl⟩
    have h1 : (mkGo (List.replicate (q + 1) ret1)).1 = 205 := by
      rw [List.replicate_succ, mkGo, mkGo_rep q (by omega)]
      have e : Mk.part ⟨List.replicate q ⟨6, 0, 0, 1⟩, []⟩ ret1 = (0, ⟨List.replicate q ⟨6, 0, 0, 1⟩ ++ [⟨6, 0, 0, 1⟩], []⟩) := rfl
      dsimp only
      rw [e, if_neg (by simp), if_neg (by simp), if_pos (by rw [List.length_append, List.length_replicate, List.length_singleton]; omega)]
    have h2 := mkGo_err (List.replicate (n - (q + 1)) ret1) (List.replicate (q + 1) ret1) (by rw [h1]; decide)
    rw [List.replicate_append_replicate, show n - (q + 1) + (q + 1) = n by omega] at h2
    unfold make
    rw [h2]; exact h1
  · rw [if_neg h]
    unfold make
    rw [mkGo_rep n (by omega)]
theorem mk_plain (i : Ins) : (make [⟨2, 0, 0, i⟩, ret1]).1 = if i.code % 8 = 5 then 210 else 0 := by
  have h0 : mkGo [ret1] = (0, ⟨[⟨6, 0, 0, 1⟩], []⟩) := rfl
  unfold make
  rw [mkGo, h0]
  by_cases h : i.code % 8 = 5
  · simp [Mk.part, h]
  · simp [Mk.part, h, Mk.put]
theorem mk_kind (k : Int) : (make [⟨k, 0, 0, ⟨0, 0, 0, 0⟩⟩, ret1]).1 = if k = 1 ∨ k = 2 then 0 else if k = 4 then 207 else 210 := by
  have h0 : mkGo [ret1] = (0, ⟨[⟨6, 0, 0, 1⟩], []⟩) := rfl
  unfold make
  rw [mkGo, h0]
  by_cases h1 : k = 1
  · subst h1; simp [Mk.part, look]
  by_cases h2 : k = 2
  · subst h2; simp [Mk.part, Mk.put]
  by_cases h4 : k = 4
  · subst h4; simp [Mk.part, look]
  by_cases h3 : k = 3
  · subst h3; simp [Mk.part, Mk.compare]
  · simp [Mk.part, h1, h2, h3, h4]
theorem mk_twice (to : Int) : (make [⟨1, to, 0, ⟨0, 0, 0, 0⟩⟩, ⟨1, to, 0, ⟨0, 0, 0, 0⟩⟩, ret1]).1 = 206 := by
  have h0 : mkGo [ret1] = (0, ⟨[⟨6, 0, 0, 1⟩], []⟩) := rfl
  unfold make
  rw [mkGo, mkGo, h0]
  simp [Mk.part, look]
theorem mk_back (to : Int) : (make [⟨1, to, 0, ⟨0, 0, 0, 0⟩⟩, ⟨4, to, 0, ⟨0, 0, 0, 0⟩⟩, ret1]).1 = 207 := by
  have h0 : mkGo [ret1] = (0, ⟨[⟨6, 0, 0, 1⟩], []⟩) := rfl
  unfold make
  rw [mkGo, mkGo, h0]
  simp [Mk.part, look]
theorem mk_if : (make [⟨3, 1, 2, ⟨21, 0, 0, 0⟩⟩, ⟨1, 1, 0, ⟨0, 0, 0, 0⟩⟩, ret1]).1 = 207 := rfl
theorem mk_skip : (make [⟨3, 1, 1, ⟨5, 0, 0, 0⟩⟩, ⟨1, 1, 0, ⟨0, 0, 0, 0⟩⟩, ret1]).1 = 210 := rfl
theorem mk2_c {S w0} (l : List Prt) (hl : ∀ p ∈ l, p.ok) (hm : l.length ≤ maxLen) (er : Int) (he : (make l).1 = er) (L : List Blk) (nb : Nat) :
    Fn Try.prog 25 #[.slice (some ⟨nb, 0, none⟩) l.length l.length] S w0 (⟨true, nb, .cells (flatP l).toArray 68 (0, 0)⟩ :: L) fun r L' => ∃ v e, r = tupleOf [v, .int .i64 er] ∧ e ++ ⟨true, nb, .cells (flatP l).toArray 68 (0, 0)⟩ :: L = L' := by
  subst he
  have h := make_c (S := S) (w0 := w0) (L := ⟨true, nb, .cells (flatP l).toArray 68 (0, 0)⟩ :: L) l hl hm (some ⟨nb, 0, none⟩) l.length (Sli.of (i := 0) rfl (by simp [flatP_len]) (by rw [List.drop_zero, List.take_of_length_le (by simp [flatP_len])]))
  refine h.mono ?_
  rintro v L' ⟨v', e, h1, _, h2⟩
  exact ⟨_, ⟨v', e, h1, rfl⟩, fun w H => by rw [h2]; exact H⟩
theorem flatP_rep (n : Nat) (i : Prt) : flatP (List.replicate n i) = (List.replicate n i.cells).flatten := by
  induction n with
  | zero => rfl
  | succ n ih => rw [List.replicate_succ, List.replicate_succ, List.flatten_cons, ← ih]; rfl
theorem splice_flatP (l : List Prt) (k : Nat) (i : Prt) (h : k < l.length) : splice (flatP l) (k * 7) i.cells = flatP (l.set k i) := by
  induction l generalizing k with
  | nil => simp at h
  | cons x l ih =>
    have hx : flatP (x :: l) = x.cells ++ flatP l := rfl
    have hc : ∀ y : Prt, y.cells.length = 7 := fun _ => rfl
    cases k with
    | zero =>
      unfold splice
      rw [hx, Nat.zero_mul, List.take_zero, List.nil_append, Nat.zero_add, hc, ← hc x, List.drop_left]
      rfl
    | succ k =>
      have := ih k (by simpa using h)
      unfold splice at this ⊢
      have e1 : (k + 1) * 7 = x.cells.length + k * 7 := by rw [hc]; omega
      have e2 : (k + 1) * 7 + i.cells.length = x.cells.length + (k * 7 + i.cells.length) := by rw [hc]; omega
      rw [e2, hx, e1, List.take_length_add_append, ← List.drop_drop, List.drop_left, List.append_assoc, List.append_assoc]
      rw [List.append_assoc] at this
      rw [this]
      rfl
end Go.Proofs.Ytojkmhfpnkhfaaa
