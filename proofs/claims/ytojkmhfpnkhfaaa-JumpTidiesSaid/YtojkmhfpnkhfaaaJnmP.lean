/- Parts with other names make the same code; parts that are right make code. Plain laws. -/
import Derived.Test.YtojkmhfpnkhfaaaJmp4
namespace Go.Proofs.Ytojkmhfpnkhfaaa
open Go Go.RowKit
def names : List Prt → List Int
  | [] => []
  | p :: r => if p.kind = 1 then p.to :: names r else names r
/-- a part fits ahead of others -/
def okH (p : Prt) (r : List Prt) : Prop :=
  (p.kind = 1 ∧ p.to ∉ names r) ∨ (p.kind = 2 ∧ p.ins.code % 8 ≠ 5) ∨ (p.kind = 4 ∧ p.to ∈ names r) ∨ (p.kind = 3 ∧ p.ins.code % 8 = 5 ∧ p.ins.code ≠ 5 ∧ p.to ∈ names r ∧ p.els ∈ names r)
def okP : List Prt → Prop
  | [] => True
  | p :: r => okP r ∧ okH p r
theorem look_snoc (n a b : Int) (pl : List (Int × Int)) : (look n (pl ++ [(a, b)])).isSome = ((look n pl).isSome || decide (n = a)) := by
  induction pl with
  | nil => by_cases h : n = a <;> simp [look, h]
  | cons q r ih =>
    rw [List.cons_append, look, look]
    by_cases h : n = q.1
    · simp [h]
    · rw [if_neg h, if_neg h, ih]
theorem far_len (m : Mk) (p : Prt) (a b : Int) : (m.far p a b).out.length ≤ m.out.length + 3 ∧ (m.far p a b).pl = m.pl := by
  unfold Mk.far Mk.far1 Mk.far2 Mk.hop Mk.put
  repeat' split
  all_goals simp
theorem mk_okP {l : List Prt} (h : okP l) (hn : 3 * l.length ≤ 4096) : ∃ s, mkGo l = (0, s) ∧ (∀ n, (look n s.pl).isSome = true ↔ n ∈ names l) ∧ s.out.length ≤ 3 * l.length := by
  induction l with
  | nil => exact ⟨⟨[], []⟩, rfl, by simp [look, names], by simp⟩
  | cons p r ih =>
    obtain ⟨hr, hp⟩ := h
    simp only [List.length_cons] at hn ⊢
    obtain ⟨s, h1, h2, h3⟩ := ih hr (by omega)
    rw [mkGo, h1]
    dsimp only
    rw [if_neg (by simp)]
    have key : ∃ s2, s.part p = (0, s2) ∧ (∀ n, (look n s2.pl).isSome = true ↔ n ∈ names (p :: r)) ∧ s2.out.length ≤ 3 * r.length + 3 := by
      rcases hp with ⟨k1, hh⟩ | ⟨k2, hh⟩ | ⟨k4, hh⟩ | ⟨k3, c1, c2, hh, hh2⟩
      · have hl : (look p.to s.pl).isSome = false := by
          rw [Bool.eq_false_iff]
          intro e
          exact hh ((h2 _).1 e)
        refine ⟨{ s with pl := s.pl ++ [(p.to, (s.out.length : Int))] }, by unfold Mk.part; rw [if_pos k1, if_neg (by rw [hl]; simp)], ?_, by dsimp only; omega⟩
        intro n
        rw [look_snoc, names, if_pos k1, Bool.or_eq_true, h2, decide_eq_true_iff, List.mem_cons]
        exact Or.comm
      · refine ⟨s.put p.ins, by unfold Mk.part; rw [if_neg (by omega), if_pos k2, if_neg hh], ?_, by simp [Mk.put]; omega⟩
        intro n
        rw [names, if_neg (by omega)]
        exact h2 n
      · have hl := (h2 _).2 hh
        refine ⟨s.hop (s.away p.to), by unfold Mk.part; rw [if_neg (by omega), if_neg (by omega), if_pos k4, if_neg (by rw [hl]; simp)], ?_, by simp [Mk.hop]; omega⟩
        intro n
        rw [names, if_neg (by omega)]
        exact h2 n
      · have hl := (h2 _).2 hh
        have hl2 := (h2 _).2 hh2
        have hf := far_len s p (s.away p.to) (s.away p.els)
        refine ⟨s.far p (s.away p.to) (s.away p.els), by unfold Mk.part Mk.compare; rw [if_neg (by omega), if_neg (by omega), if_neg (by omega), if_pos k3, if_neg (by omega), if_neg (by rw [hl, hl2]; simp)], ?_, by omega⟩
        intro n
        rw [hf.2, names, if_neg (by omega)]
        exact h2 n
    obtain ⟨s2, k1, k2, k3⟩ := key
    rw [k1]
    dsimp only
    rw [if_neg (by simp), if_neg (by omega)]
    exact ⟨s2, rfl, k2, by omega⟩
theorem make_okP {l : List Prt} (h : okP l) (hn : 3 * l.length ≤ 4096) : (make l).1 = 0 := by
  obtain ⟨s, h1, _, _⟩ := mk_okP h hn
  unfold make
  rw [h1]
/-- other names -/
def ren (f : Int → Int) (p : Prt) : Prt := ⟨p.kind, if p.kind ≠ 2 then f p.to else p.to, if p.kind = 3 then f p.els else p.els, p.ins⟩
def Mk.ren (f : Int → Int) (m : Mk) : Mk := ⟨m.out, m.pl.map fun q => (f q.1, q.2)⟩
theorem look_ren {f : Int → Int} (hf : ∀ a b, f a = f b → a = b) (n : Int) (pl : List (Int × Int)) : look (f n) (pl.map fun q => (f q.1, q.2)) = look n pl := by
  induction pl with
  | nil => rfl
  | cons q r ih =>
    rw [List.map_cons, look, look]
    dsimp only
    by_cases h : n = q.1
    · rw [if_pos h, if_pos (by rw [h])]
    · rw [if_neg h, if_neg (fun e => h (hf _ _ e)), ih]
theorem part_ren {f : Int → Int} (hf : ∀ a b, f a = f b → a = b) (m : Mk) (p : Prt) : (m.ren f).part (ren f p) = (((m.part p).1), (m.part p).2.ren f) := by
  have hl : ∀ n, look (f n) (m.ren f).pl = look n m.pl := fun n => look_ren hf n m.pl
  have ha : ∀ n, (m.ren f).away (f n) = m.away n := fun n => by unfold Mk.away; rw [hl]; rfl
  by_cases k1 : p.kind = 1
  · have e : ren f p = ⟨p.kind, f p.to, p.els, p.ins⟩ := by unfold ren; rw [if_pos (by omega), if_neg (by omega)]
    rw [e]
    unfold Mk.part
    dsimp only
    rw [if_pos k1, if_pos k1, hl]
    split
    · rfl
    · simp [Mk.ren]
  by_cases k2 : p.kind = 2
  · have e : ren f p = ⟨p.kind, p.to, p.els, p.ins⟩ := by unfold ren; rw [if_neg (by omega), if_neg (by omega)]
    rw [e]
    unfold Mk.part
    dsimp only
    rw [if_neg k1, if_neg k1, if_pos k2, if_pos k2]
    split <;> rfl
  by_cases k4 : p.kind = 4
  · have e : ren f p = ⟨p.kind, f p.to, p.els, p.ins⟩ := by unfold ren; rw [if_pos (by omega), if_neg (by omega)]
    rw [e]
    unfold Mk.part
    dsimp only
    rw [if_neg k1, if_neg k1, if_neg k2, if_neg k2, if_pos k4, if_pos k4, hl, ha]
    split <;> rfl
  by_cases k3 : p.kind = 3
  · have e : ren f p = ⟨p.kind, f p.to, f p.els, p.ins⟩ := by unfold ren; rw [if_pos (by omega), if_pos k3]
    rw [e]
    unfold Mk.part
    dsimp only
    rw [if_neg k1, if_neg k1, if_neg k2, if_neg k2, if_neg k4, if_neg k4, if_pos k3, if_pos k3]
    unfold Mk.compare
    dsimp only
    rw [hl, hl, ha, ha]
    split
    · rfl
    split
    · rfl
    · unfold Mk.far Mk.far1 Mk.far2
      dsimp only
      repeat' split
      all_goals rfl
  · have e : ren f p = ⟨p.kind, f p.to, p.els, p.ins⟩ := by unfold ren; rw [if_pos k2, if_neg k3]
    rw [e]
    unfold Mk.part
    dsimp only
    rw [if_neg k1, if_neg k1, if_neg k2, if_neg k2, if_neg k4, if_neg k4, if_neg k3, if_neg k3]
theorem mkGo_ren {f : Int → Int} (hf : ∀ a b, f a = f b → a = b) (l : List Prt) : mkGo (l.map (ren f)) = ((mkGo l).1, (mkGo l).2.ren f) := by
  induction l with
  | nil => rfl
  | cons p r ih =>
    rw [List.map_cons, mkGo, mkGo, ih]
    dsimp only
    rw [part_ren hf]
    dsimp only
    split
    · rfl
    split
    · rfl
    split
    · rename_i h
      have h' : ((mkGo r).2.part p).2.out.length > 4096 := h
      rw [if_pos h']
    · rename_i h
      have h' : ¬ ((mkGo r).2.part p).2.out.length > 4096 := h
      rw [if_neg h']
theorem make_ren {f : Int → Int} (hf : ∀ a b, f a = f b → a = b) (l : List Prt) : make (l.map (ren f)) = make l := by
  unfold make
  rw [mkGo_ren hf]
  rfl
end Go.Proofs.Ytojkmhfpnkhfaaa
