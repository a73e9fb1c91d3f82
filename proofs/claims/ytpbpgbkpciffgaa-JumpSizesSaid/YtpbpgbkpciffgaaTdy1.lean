/- jump.Tidy as plain functions; maps of names as lists. -/
import Derived.Test.YtpbpgbkpciffgaaJmp4
namespace Go.Proofs.Ytpbpgbkpciffgaa
open Go Go.RowKit
def wset (n x : Int) : List (Int × Int) → List (Int × Int)
  | [] => [(n, x)]
  | q :: r => if n = q.1 then (n, x) :: r else q :: wset n x r
theorem look_wset (n x m : Int) (w : List (Int × Int)) : look m (wset n x w) = if m = n then some x else look m w := by
  induction w with
  | nil => simp [wset, look]
  | cons q r ih =>
    unfold wset
    by_cases h : n = q.1
    · rw [if_pos h]
      by_cases h2 : m = n
      · simp [look, h2]
      · rw [if_neg h2, look, look]
        dsimp only
        rw [if_neg h2, if_neg (by rw [← h]; exact h2)]
    · rw [if_neg h, look, ih, look]
      by_cases h2 : m = q.1
      · rw [if_pos h2, if_pos h2, if_neg (by rw [h2]; exact fun e => h e.symm)]
      · rw [if_neg h2, if_neg h2]
theorem fd_plx (n : Int) (w : List (Int × Int)) (i : Nat) : ∃ r, fd (.int .i64) (.int .i64 n) (plV w) i = some r ∧
    ((r = none ∧ look n w = none ∧ ∀ x, w ++ [(n, x)] = wset n x w) ∨ ∃ j y, r = some (i + j, .int .i64 y) ∧ look n w = some y ∧ ∀ x, w.set j (n, x) = wset n x w) := by
  induction w generalizing i with
  | nil => exact ⟨none, rfl, .inl ⟨rfl, rfl, fun x => rfl⟩⟩
  | cons c r ih =>
    by_cases h : n = c.1
    · refine ⟨some (i, .int .i64 c.2), by simp [plV, fd, Instr.sameNow, h], .inr ⟨0, c.2, rfl, by simp [look, h], fun x => ?_⟩⟩
      rw [wset, if_pos h]; rfl
    · have e : (n == c.1) = false := by simpa using h
      obtain ⟨q, h1, h2⟩ := ih (i + 1)
      refine ⟨q, by simpa [plV, fd, Instr.sameNow, e] using h1, ?_⟩
      rcases h2 with ⟨rfl, h3, h4⟩ | ⟨j, y, rfl, h3, h4⟩
      · exact .inl ⟨rfl, by simpa [look, h] using h3, fun x => by rw [wset, if_neg h, ← h4]; rfl⟩
      · exact .inr ⟨j + 1, y, by rw [show i + 1 + j = i + (j + 1) by omega], by simpa [look, h] using h3, fun x => by rw [wset, if_neg h, ← h4]; rfl⟩
theorem upd_pl (n x : Int) (w : List (Int × Int)) : ∃ r, fd (.int .i64) (.int .i64 n) (plV w) 0 = some r ∧ updE (plV w) (.int .i64 n) (.int .i64 x) r = plV (wset n x w) := by
  obtain ⟨r, h1, h2⟩ := fd_plx n w 0
  refine ⟨r, h1, ?_⟩
  rcases h2 with ⟨rfl, _, h4⟩ | ⟨j, y, rfl, _, h4⟩
  · rw [← h4]; simp [updE, plV]
  · rw [← h4, Nat.zero_add]; simp [updE, plV, List.map_set]
def uset (n : Int) (us : List Int) : List Int := if n ∈ us then us else us ++ [n]
def usV (us : List Int) : List (Value × Value) := us.map fun k => (.int .i64 k, .bool true)
theorem fd_us (n : Int) (us : List Int) (i : Nat) : ∃ r, fd (.int .i64) (.int .i64 n) (usV us) i = some r ∧
    ((r = none ∧ n ∉ us) ∨ ∃ j, r = some (i + j, .bool true) ∧ us[j]? = some n) := by
  induction us generalizing i with
  | nil => exact ⟨none, rfl, .inl ⟨rfl, by simp⟩⟩
  | cons c r ih =>
    by_cases h : n = c
    · exact ⟨some (i, .bool true), by simp [usV, fd, Instr.sameNow, h], .inr ⟨0, rfl, by simp [h]⟩⟩
    · have e : (n == c) = false := by simpa using h
      obtain ⟨q, h1, h2⟩ := ih (i + 1)
      refine ⟨q, by simpa [usV, fd, Instr.sameNow, e] using h1, ?_⟩
      rcases h2 with ⟨rfl, h3⟩ | ⟨j, rfl, h3⟩
      · exact .inl ⟨rfl, by simp [h, h3]⟩
      · exact .inr ⟨j + 1, by rw [show i + 1 + j = i + (j + 1) by omega], by simpa using h3⟩
theorem upd_us (n : Int) (us : List Int) : ∃ r, fd (.int .i64) (.int .i64 n) (usV us) 0 = some r ∧ found r (.bool false) = .bool (decide (n ∈ us)) ∧ updE (usV us) (.int .i64 n) (.bool true) r = usV (uset n us) := by
  obtain ⟨r, h1, h2⟩ := fd_us n us 0
  refine ⟨r, h1, ?_⟩
  rcases h2 with ⟨rfl, h3⟩ | ⟨j, rfl, h3⟩
  · unfold uset; rw [if_neg h3]; exact ⟨by simp [found, h3], by simp [updE, usV]⟩
  · have hm := List.mem_of_getElem? h3
    unfold uset; rw [if_pos hm]
    refine ⟨by simp [found, hm], ?_⟩
    rw [Nat.zero_add]
    simp only [updE, usV]
    apply List.ext_getElem?
    intro k
    rw [List.getElem?_set]
    split
    · rename_i e; subst e
      obtain ⟨q1, q2⟩ := List.getElem?_eq_some_iff.1 h3
      simp [q1, q2]
    · rfl
theorem mem_uset (n m : Int) (us : List Int) : m ∈ uset n us ↔ m = n ∨ m ∈ us := by
  unfold uset
  split
  · rename_i h
    constructor
    · exact .inr
    · rintro (rfl | h2)
      · exact h
      · exact h2
  · simp [or_comm]
-- where one goes on from a name
def ng : List Prt → Option Int
  | [] => none
  | p :: r => if p.kind = 1 then ng r else if p.kind = 4 then some p.to else none
def thr1 (p : Prt) (r : List Prt) (w : List (Int × Int)) : List (Int × Int) :=
  if p.kind = 1 then (match ng r with | some x => wset p.to x w | none => w) else w
def threadsGo : List Prt → List (Int × Int) → List (Int × Int)
  | [], w => w
  | p :: r, w => threadsGo r (thr1 p r w)
def threads (l : List Prt) : List (Int × Int) := threadsGo l []
def alongGo (w : List (Int × Int)) : Nat → Int → Int
  | 0, n => n
  | f + 1, n => match look n w with | none => n | some x => alongGo w f x
def along (w : List (Int × Int)) (n : Int) : Int := alongGo w w.length n
def fwd (w : List (Int × Int)) (p : Prt) : Prt :=
  if p.kind = 4 then { p with to := along w p.to } else if p.kind = 3 then { p with to := along w p.to, els := along w p.els } else p
def useP (us : List Int) (p : Prt) : List Int := if p.kind = 4 then uset p.to us else if p.kind = 3 then uset p.els (uset p.to us) else us
def follows : List Prt → Int → Bool
  | [], _ => false
  | p :: r, n => if p.kind ≠ 1 then false else if p.to = n then true else follows r n
def ends (p : Prt) : Bool := p.kind = 4 || (p.kind = 2 && p.ins.code % 8 = 6)
def keepGo (us : List Int) : List Prt → Bool → List Prt
  | [], _ => []
  | p :: r, dead =>
    if p.kind = 1 then (if p.to ∈ us then p :: keepGo us r false else keepGo us r dead)
    else if dead = true ∨ (p.kind = 4 ∧ follows r p.to = true) then keepGo us r dead
    else p :: keepGo us r (ends p)
def onceP (l : List Prt) : List Prt := l.map (fwd (threads l))
def once (l : List Prt) : List Prt := keepGo ((onceP l).foldl useP []) (onceP l) false
theorem keepGo_len (us : List Int) (l : List Prt) (dead : Bool) : (keepGo us l dead).length ≤ l.length := by
  induction l generalizing dead with
  | nil => simp [keepGo]
  | cons p r ih =>
    have h1 := ih false
    have h2 := ih dead
    have h3 := ih (ends p)
    unfold keepGo
    split
    · split
      · simp only [List.length_cons]; omega
      · simp only [List.length_cons]; omega
    · split
      · simp only [List.length_cons]; omega
      · simp only [List.length_cons]; omega
theorem once_len (l : List Prt) : (once l).length ≤ l.length := by
  have := keepGo_len ((onceP l).foldl useP []) (onceP l) false
  unfold once
  rwa [onceP, List.length_map] at this
def tidy (l : List Prt) : List Prt := if (once l).length = l.length then once l else tidy (once l)
termination_by l.length
decreasing_by
  have := once_len l
  omega
theorem along_keep {w : List (Int × Int)} {n : Int} (h : look n w = none) (f : Nat) : alongGo w f n = n := by
  cases f with
  | zero => rfl
  | succ f => rw [alongGo, h]
theorem wset_rng {lo hi : Int} {n x : Int} {w : List (Int × Int)} (hx : lo ≤ x ∧ x < hi) (h : ∀ q ∈ w, lo ≤ q.2 ∧ q.2 < hi) : ∀ q ∈ wset n x w, lo ≤ q.2 ∧ q.2 < hi := by
  induction w with
  | nil => intro q hq; simp [wset] at hq; subst hq; exact hx
  | cons c r ih =>
    intro q hq
    unfold wset at hq
    split at hq
    · rcases List.mem_cons.1 hq with rfl | h2
      · exact hx
      · exact h q (List.mem_cons_of_mem _ h2)
    · rcases List.mem_cons.1 hq with rfl | h2
      · exact h _ (List.mem_cons_self ..)
      · exact ih (fun q hq => h q (List.mem_cons_of_mem _ hq)) q h2
theorem wset_len (n x : Int) (w : List (Int × Int)) : (wset n x w).length ≤ w.length + 1 := by
  induction w with
  | nil => simp [wset]
  | cons c r ih => unfold wset; split <;> simp <;> omega
abbrev nm (x : Int) : Prop := -9223372036854775808 ≤ x ∧ x < 9223372036854775808
theorem ng_rng {l : List Prt} (h : ∀ p ∈ l, p.ok) {x : Int} (hx : ng l = some x) : nm x := by
  induction l with
  | nil => simp [ng] at hx
  | cons p r ih =>
    unfold ng at hx
    split at hx
    · exact ih (fun q hq => h q (List.mem_cons_of_mem _ hq)) hx
    · split at hx
      · cases hx; exact (h p (List.mem_cons_self ..)).to
      · simp at hx
/-- what is known of ways -/
structure WOk (w : List (Int × Int)) (b : Nat) : Prop where
  rng : ∀ q ∈ w, nm q.2
  len : w.length ≤ b
theorem thr1_ok {p : Prt} {r : List Prt} (h : ∀ q ∈ p :: r, q.ok) {w : List (Int × Int)} {b : Nat} (hw : WOk w b) : WOk (thr1 p r w) (b + 1) := by
  have hm : WOk w (b + 1) := ⟨hw.rng, by have := hw.len; omega⟩
  unfold thr1
  split
  · cases hn : ng r with
    | none => exact hm
    | some x =>
      have hx := ng_rng (fun q hq => h q (List.mem_cons_of_mem _ hq)) hn
      exact ⟨wset_rng hx hw.rng, by have := wset_len p.to x w; have := hw.len; dsimp only; omega⟩
  · exact hm
theorem along_rng {w : List (Int × Int)} (h : ∀ q ∈ w, nm q.2) {n : Int} (hn : nm n) : nm (along w n) := by
  unfold along
  generalize w.length = f
  induction f generalizing n with
  | zero => exact hn
  | succ f ih =>
    rw [alongGo]
    cases e : look n w with
    | none => exact hn
    | some x => exact ih (h _ (look_mem e))
theorem fwd_ok {w : List (Int × Int)} (h : ∀ q ∈ w, nm q.2) {p : Prt} (hp : p.ok) : (fwd w p).ok := by
  unfold fwd
  split
  · exact ⟨hp.kind, along_rng h hp.to, hp.els, hp.ins⟩
  split
  · exact ⟨hp.kind, along_rng h hp.to, along_rng h hp.els, hp.ins⟩
  · exact hp
end Go.Proofs.Ytpbpgbkpciffgaa
