/- The steps of a run, one by one. Plain laws. -/
import Derived.Test.YtcimcihhpkedfaaSimP
namespace Go.Proofs.Ytcimcihhpkedfaa
open Go Go.RowKit
/-- the steps from a state: where, and the machine behind each -/
def trM (l : List Ins) : Nat → Mch → List (Nat × Mch)
  | 0, _ => []
  | f + 1, m => if m.en = true ∨ (l.length : Int) ≤ m.pos then [] else (m.pos.toNat, stp { m with pos := m.pos + 1 } (l.getD m.pos.toNat I0)) :: trM l f (stp { m with pos := m.pos + 1 } (l.getD m.pos.toNat I0))
theorem trM_len (l : List Ins) (f : Nat) (m : Mch) (n : Nat) : (runGo l f m n).2 = n + (trM l f m).length := by
  induction f generalizing m n with
  | zero => rfl
  | succ f ih =>
    rw [runGo, trM]
    split
    · rfl
    · have := ih (stp { m with pos := m.pos + 1 } (l.getD m.pos.toNat ⟨0, 0, 0, 0⟩)) (n + 1)
      rw [this, List.length_cons]
      show n + 1 + (trM l f (stp { m with pos := m.pos + 1 } (l.getD m.pos.toNat I0))).length = _
      omega
/-- what a step leaves -/
structure StF (r : Rec) (i : Ins) (m : Mch) : Prop where
  ld : i.code = 32 → m.a = word r i.k
  ldx : i.code = 1 → m.x = i.k
/-- what the last step leaves -/
structure LaF (i : Ins) (m : Mch) : Prop where
  k : i.code = 6 → m.act = i.k
  a : i.code = 22 → m.act = m.a
  d : i.code % 8 ≠ 6 → iandn i.code 8 = 52 ∧ m.act = 0
def Chn (l : List Ins) (r : Rec) : Nat → List (Nat × Mch) → Prop
  | _, [] => False
  | k, q :: t => q.1 = k ∧ k < l.length ∧ StF r (l.getD k I0) q.2 ∧ ((t = [] ∧ q.2.en = true ∧ LaF (l.getD k I0) q.2) ∨ ∃ k2, k2 ∈ ways (l.getD k I0) k ∧ Chn l r k2 t)
theorem red_keep (m : Mch) (i : Ins) : (red m i).act = m.act ∧ (red m i).rc = m.rc := by
  unfold red
  dsimp only
  repeat' split
  all_goals exact ⟨rfl, rfl⟩
theorem stp_keep (m : Mch) (i : Ins) : (stp m i).rc = m.rc ∧ (i.code % 8 ≠ 6 → (stp m i).act = m.act) := by
  have h := red_keep m i
  unfold stp
  repeat' split
  all_goals first
    | exact ⟨rfl, fun _ => rfl⟩
    | exact ⟨h.2, fun _ => h.1⟩
    | (refine ⟨rfl, fun q => ?_⟩; omega)
theorem stp_stf {m : Mch} {i : Ins} : StF m.rc i (stp m i) := by
  constructor
  · intro h
    unfold stp
    rw [if_pos (by omega)]
    show ld m i = _
    unfold ld
    have : iandn i.code 7 = 32 := by rw [h]; decide
    rw [if_pos this]
  · intro h
    unfold stp
    rw [if_neg (by omega), if_pos (by omega)]
    show ld m i = _
    unfold ld
    have : iandn i.code 7 = 0 := by rw [h]; decide
    rw [if_neg (by omega), if_neg (by omega), if_neg (by omega)]
theorem red_end {m : Mch} {i : Ins} (hm : m.en = false) (h : (red m i).en = true) : iandn i.code 15 = 48 := by
  unfold red at h
  dsimp only at h
  by_cases h48 : iandn i.code 15 = 48
  · exact h48
  · exfalso
    repeat' (split at h)
    all_goals first
      | exact h48 (by assumption)
      | (rw [hm] at h; simp at h; done)
      | (simp [hm] at h; done)
theorem stp_last {m : Mch} {i : Ins} (hi : i.ok) (hm : m.en = false) (ha : m.act = 0) (he : (stp m i).en = true) : LaF i (stp m i) := by
  constructor
  · intro h
    unfold stp
    rw [if_neg (by omega), if_neg (by omega), if_neg (by omega), if_neg (by omega), if_neg (by omega), if_neg (by omega), if_pos (by omega)]
    show (if i.code = 22 then m.a else i.k) = i.k
    rw [if_neg (by omega)]
  · intro h
    unfold stp
    rw [if_neg (by omega), if_neg (by omega), if_neg (by omega), if_neg (by omega), if_neg (by omega), if_neg (by omega), if_pos (by omega)]
    show (if i.code = 22 then m.a else i.k) = m.a
    rw [if_pos h]
  · intro h6
    refine ⟨?_, by rw [(stp_keep m i).2 h6, ha]⟩
    by_cases h4 : i.code % 8 = 4
    · have e : stp m i = red m i := by
        unfold stp
        rw [if_neg (by omega), if_neg (by omega), if_neg (by omega), if_neg (by omega), if_pos h4]
      rw [e] at he
      have h48 := red_end hm he
      have hc := hi.c
      have h := iandn_mask i.code 4 hc.1
      have e15 : ((2 : Int) ^ 4 - 1) = 15 := by decide
      have e16 : ((2 : Int) ^ 4) = 16 := by decide
      rw [e15, e16, h48] at h
      rcases (show i.code = 52 ∨ i.code = 60 by omega) with e1 | e1
      · rw [e1]; decide
      · rw [e1]; decide
    · exfalso
      have : (stp m i).en = m.en := by
        unfold stp
        repeat' (first | rfl | (exfalso; omega) | split)
      rw [this, hm] at he
      simp at he
theorem trM_chn {l : List Ins} (fl : Flt l) (r : Rec) : ∀ (f k : Nat) (m : Mch), m.en = false → m.pos = (k : Int) → k < l.length → l.length ≤ f + k → m.act = 0 → m.rc = r → Chn l r k (trM l f m) := by
  intro f
  induction f with
  | zero => intro k m _ _ h1 h2; omega
  | succ f ih =>
    intro k m he hp hk hf ha hrc
    have hi := fl.ok _ (List.getElem_mem hk)
    have hd : l.getD k I0 = l[k] := getD_lt hk
    rw [trM, if_neg (by rw [he, hp]; simp; omega)]
    have hpk : m.pos.toNat = k := by omega
    have hm2 : stp { m with pos := m.pos + 1 } (l.getD m.pos.toNat I0) = stp (m.to ((k : Int) + 1)) l[k] := by rw [hpk, hd, hp]; rfl
    rw [hm2, hpk]
    have hmr : (m.to ((k : Int) + 1)).rc = r := hrc
    have hst := stp_stf (m := m.to ((k : Int) + 1)) (i := l[k])
    rw [hmr] at hst
    have hkp := stp_keep (m.to ((k : Int) + 1)) l[k]
    refine ⟨rfl, hk, by rw [hd]; exact hst, ?_⟩
    rw [hd]
    cases he2 : (stp (m.to ((k : Int) + 1)) l[k]).en with
    | true =>
      refine .inl ⟨?_, by first | exact he2 | rfl, stp_last hi he ha he2⟩
      cases f with
      | zero => rfl
      | succ f => rw [trM, if_pos (.inl he2)]
    | false =>
      obtain ⟨k2, h1, h2⟩ := stp_next hi (fl.one k hk) he2
      have h3 := fl.wd k hk k2 h2
      have h6 : l[k].code % 8 ≠ 6 := by
        intro h6
        unfold ways at h2
        rw [if_pos h6] at h2
        simp at h2
      exact .inr ⟨k2, h2, ih k2 _ he2 h1 h3.2 (by omega) (by rw [hkp.2 h6]; exact ha) (by rw [hkp.1]; exact hmr)⟩
/-- step by step, by places -/
theorem Chn.at_ {l : List Ins} {r : Rec} {k : Nat} {xs : List (Nat × Mch)} (h : Chn l r k xs) (j : Nat) (hj : j < xs.length) :
    (xs[j]).1 < l.length ∧ StF r (l.getD (xs[j]).1 I0) (xs[j]).2 ∧ (∀ h2 : j + 1 < xs.length, (xs[j + 1]).1 ∈ ways (l.getD (xs[j]).1 I0) (xs[j]).1) ∧ (j + 1 = xs.length → (xs[j]).2.en = true ∧ LaF (l.getD (xs[j]).1 I0) (xs[j]).2) := by
  induction xs generalizing k j with
  | nil => simp at hj
  | cons q t ih =>
    obtain ⟨h1, h2, h3, h4⟩ := h
    cases j with
    | zero =>
      simp only [List.getElem_cons_zero]
      rw [h1]
      refine ⟨h2, h3, ?_, ?_⟩
      · intro hh
        rcases h4 with ⟨rfl, _, _⟩ | ⟨k2, h5, h6⟩
        · simp at hh
        · cases t with
          | nil => simp at hh
          | cons q2 t2 => simp only [Nat.zero_add, List.getElem_cons_succ, List.getElem_cons_zero]; rw [h6.1]; exact h5
      · intro hh
        rcases h4 with ⟨_, h5, h6⟩ | ⟨k2, h5, h6⟩
        · exact ⟨h5, h6⟩
        · cases t with
          | nil => exact absurd h6 id
          | cons q2 t2 => simp at hh
    | succ j =>
      rcases h4 with ⟨rfl, _, _⟩ | ⟨k2, h5, h6⟩
      · simp at hj
      · have := ih h6 j (by simpa using hj)
        simp only [List.getElem_cons_succ, List.length_cons, Nat.add_lt_add_iff_right, Nat.add_right_cancel_iff]
        exact this
theorem Chn.zero {l : List Ins} {r : Rec} {k : Nat} {xs : List (Nat × Mch)} (h : Chn l r k xs) : ∃ h0 : 0 < xs.length, (xs[0]).1 = k := by
  cases xs with
  | nil => exact absurd h id
  | cons q t => exact ⟨by simp, h.1⟩
/-- the run's answer is the last machine's -/
theorem trM_act {l : List Ins} : ∀ (f : Nat) (m : Mch) (n : Nat) (h : 0 < (trM l f m).length), (runGo l f m n).1 = ((trM l f m)[(trM l f m).length - 1]'(by omega)).2 := by
  intro f
  induction f with
  | zero => intro m n h; simp [trM] at h
  | succ f ih =>
    intro m n h
    by_cases hc : m.en = true ∨ (l.length : Int) ≤ m.pos
    · rw [trM, if_pos hc] at h; simp at h
    · have e1 : trM l (f + 1) m = (m.pos.toNat, stp { m with pos := m.pos + 1 } (l.getD m.pos.toNat I0)) :: trM l f (stp { m with pos := m.pos + 1 } (l.getD m.pos.toNat I0)) := by rw [trM, if_neg hc]
      have e2 : runGo l (f + 1) m n = runGo l f (stp { m with pos := m.pos + 1 } (l.getD m.pos.toNat I0)) (n + 1) := by rw [runGo, if_neg hc]; rfl
      rw [e2]
      generalize stp { m with pos := m.pos + 1 } (l.getD m.pos.toNat I0) = m2 at *
      have hx : ∀ (xs : List (Nat × Mch)) (e : trM l (f + 1) m = xs) (hh : 0 < xs.length), ((trM l (f + 1) m)[(trM l (f + 1) m).length - 1]'(by rw [e]; omega)) = xs[xs.length - 1]'(by omega) := by
        intro xs e hh; subst e; rfl
      rw [hx _ e1 (by simp)]
      by_cases h0 : 0 < (trM l f m2).length
      · rw [ih m2 (n + 1) h0]
        have : ((m.pos.toNat, m2) :: trM l f m2).length - 1 = ((trM l f m2).length - 1) + 1 := by rw [List.length_cons]; omega
        simp only [this, List.getElem_cons_succ]
      · have hn : trM l f m2 = [] := List.eq_nil_of_length_eq_zero (by omega)
        have hr : runGo l f m2 (n + 1) = (m2, n + 1) := by
          cases f with
          | zero => rfl
          | succ f =>
            rw [runGo]
            by_cases hc2 : m2.en = true ∨ (l.length : Int) ≤ m2.pos
            · rw [if_pos hc2]
            · rw [trM, if_neg hc2] at hn; simp at hn
        rw [hr]
        simp [hn]
def trF (l : List Ins) (r : Rec) : List (Nat × Mch) := trM l l.length (m0 r)
theorem trF_ok {l : List Ins} (fl : Flt l) (r : Rec) : Chn l r 0 (trF l r) := trM_chn fl r l.length 0 (m0 r) rfl rfl fl.pos (by omega) rfl rfl
theorem trF_len (l : List Ins) (r : Rec) : (runF l r).2 = (trF l r).length := by
  have := trM_len l l.length (m0 r) 0
  unfold runF trF
  dsimp only
  omega
theorem trF_act {l : List Ins} (fl : Flt l) (r : Rec) : ∃ h : (trF l r).length - 1 < (trF l r).length, (runF l r).1 = ((trF l r)[(trF l r).length - 1]).2.act := by
  have c := trF_ok fl r
  obtain ⟨h0, _⟩ := c.zero
  refine ⟨by omega, ?_⟩
  have h1 := (c.at_ ((trF l r).length - 1) (by omega)).2.2.2 (by omega)
  have h2 := trM_act (l := l) l.length (m0 r) 0 h0
  unfold runF
  dsimp only
  rw [h2]
  have h3 : ((trM l l.length (m0 r))[(trM l l.length (m0 r)).length - 1]'(by have : 0 < (trM l l.length (m0 r)).length := h0; omega)).2.en = true := h1.1
  rw [h3]
  rfl
end Go.Proofs.Ytcimcihhpkedfaa
