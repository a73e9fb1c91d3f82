/- VmScratch: the code that stores and loads, its check, its run. -/
import Derived.Test.YtcimcihhpkedfaaLawV2
namespace Go.Proofs.Ytcimcihhpkedfaa
open Go Go.RowKit
def pairI (i : Nat) (n : Int) : List Ins := if i % 2 = 0 then [⟨0, 0, 0, n⟩, ⟨2, 0, 0, i⟩] else [⟨1, 0, 0, n⟩, ⟨3, 0, 0, i⟩]
def codeOf : List Int → Nat → List Ins
  | [], _ => []
  | n :: r, i => pairI i n ++ codeOf r (i + 1)
theorem pairI_len (i : Nat) (n : Int) : (pairI i n).length = 2 := by unfold pairI; split <;> rfl
theorem codeOf_len (l : List Int) (i : Nat) : (codeOf l i).length = 2 * l.length := by
  induction l generalizing i with
  | nil => rfl
  | cons n r ih => simp only [codeOf, List.length_append, pairI_len, ih, List.length_cons]; omega
theorem codeOf_app (l r : List Int) (i : Nat) : codeOf (l ++ r) i = codeOf l i ++ codeOf r (i + l.length) := by
  induction l generalizing i with
  | nil => simp [codeOf]
  | cons n l ih => simp only [List.cons_append, codeOf, ih, List.append_assoc, List.length_cons]; rw [show i + 1 + l.length = i + (l.length + 1) by omega]
/-- numbers that are loaded do not count for the check -/
def zk (i : Ins) : Ins := if i.code = 0 ∨ i.code = 1 then { i with k := 0 } else i
theorem one_zk (i : Ins) (a b : Int) : one (zk i) a b = one i a b := by
  unfold zk
  split
  · rename_i h
    obtain ⟨c, jt, jf, k⟩ := i
    dsimp only at h
    rcases h with rfl | rfl <;> simp [one]
  · rfl
theorem zk_code (i : Ins) : (zk i).code = i.code := by unfold zk; split <;> rfl
theorem firstBad_zk (n : Nat) (l : List Ins) (at_ : Nat) : firstBad n (l.map zk) at_ = firstBad n l at_ := by
  induction l generalizing at_ with
  | nil => rfl
  | cons i r ih => rw [List.map_cons, firstBad_cons, firstBad_cons, one_zk, ih]
theorem isRet_zk (i : Ins) : isRet (zk i) = isRet i := by unfold isRet; rw [zk_code]
theorem loadsGo_zk (l : List Ins) (at_ : Nat) (st : List Int) : loadsGo (l.map zk) at_ st = loadsGo l at_ st := by
  induction l generalizing at_ st with
  | nil => rfl
  | cons i r ih =>
    have e1 : isLd (zk i) = isLd i := by unfold isLd; rw [zk_code]
    have e2 : isSt (zk i) = isSt i := by unfold isSt; rw [zk_code]
    have e3 : ways (zk i) at_ = ways i at_ := by
      unfold zk; split
      · rename_i h
        obtain ⟨c, jt, jf, k⟩ := i
        dsimp only at h
        rcases h with rfl | rfl <;> rfl
      · rfl
    have e4 : isLd i = true → (zk i).k = i.k := by
      intro h; unfold zk; split
      · rename_i h2; unfold isLd at h; rcases h2 with h2 | h2 <;> simp [h2] at h
      · rfl
    have e5 : isSt i = true → (zk i).k = i.k := by
      intro h; unfold zk; split
      · rename_i h2; unfold isSt at h; rcases h2 with h2 | h2 <;> simp [h2] at h
      · rfl
    have e6 : nowOf (zk i) (st.getD at_ 0) = nowOf i (st.getD at_ 0) := by
      unfold nowOf; rw [e2]; split
      · rename_i h; rw [e5 h]
      · rfl
    simp only [List.map_cons, loadsGo, e1, e3, e6, ih]
    cases h : isLd i with
    | false => simp
    | true => rw [e4 h]
theorem check_zk (l : List Ins) : check (l.map zk) = check l := by
  have e : ∀ k, (l.map zk).getD k ⟨0, 0, 0, 0⟩ = zk (l.getD k ⟨0, 0, 0, 0⟩) := by
    intro k
    simp only [List.getD_eq_getElem?_getD, List.getElem?_map]
    cases l[k]? <;> rfl
  unfold check loads
  rw [List.length_map, firstBad_zk, e, isRet_zk, loadsGo_zk]
theorem codeOf_zk (l : List Int) (i : Nat) : (codeOf l i).map zk = codeOf (List.replicate l.length 0) i := by
  induction l generalizing i with
  | nil => rfl
  | cons n r ih =>
    have : (pairI i n).map zk = pairI i 0 := by unfold pairI; split <;> simp [zk]
    simp only [codeOf, List.map_append, ih, List.length_cons, List.replicate_succ, this]
def tailA (k : Int) : List Ins := [⟨96, 0, 0, k⟩, ⟨22, 0, 0, 0⟩]
def tailB (k : Int) : List Ins := [⟨97, 0, 0, k⟩, ⟨135, 0, 0, 0⟩, ⟨22, 0, 0, 0⟩]
theorem scr_all : ∀ m : Fin 17, ∀ k : Fin 16, k.val < m.val → check (codeOf (List.replicate m.val 0) 0 ++ tailA (k.val : Int)) = (0, 0) ∧ check (codeOf (List.replicate m.val 0) 0 ++ tailB (k.val : Int)) = (0, 0) := by decide +kernel
theorem scr_chk (l : List Int) (k : Nat) (hk : k < l.length) (h : l.length ≤ 16) : check (codeOf l 0 ++ tailA k) = (0, 0) ∧ check (codeOf l 0 ++ tailB k) = (0, 0) := by
  have := scr_all ⟨l.length, by omega⟩ ⟨k, by omega⟩ hk
  rw [← check_zk, ← check_zk (codeOf l 0 ++ tailB k), List.map_append, List.map_append, codeOf_zk]
  exact this
/-- the state behind the code -/
theorem run_code (full tail : List Ins) (rest : List Int) (i n f : Nat) (m : Mch) (hd : full.drop (2 * i) = codeOf rest i ++ tail) (he : m.en = false) (hp : m.pos = ((2 * i : Nat) : Int)) (hsc : m.sc.length = 16) (hi : i + rest.length ≤ 16) :
    ∃ m', runGo full (f + 2 * rest.length) m n = runGo full f m' (n + 2 * rest.length) ∧ m'.en = false ∧ m'.pos = ((2 * (i + rest.length) : Nat) : Int) ∧ m'.sc.length = 16 ∧ (∀ j, j < i → m'.sc.getD j 0 = m.sc.getD j 0) ∧ ∀ j, j < rest.length → m'.sc.getD (i + j) 0 = rest.getD j 0 := by
  induction rest generalizing i n m with
  | nil => exact ⟨m, rfl, he, hp, hsc, fun _ _ => rfl, fun j hj => by simp at hj⟩
  | cons v r ih =>
    simp only [List.length_cons] at hi
    have hlen : 2 * i + 1 < full.length := by
      have := congrArg List.length hd
      simp only [List.length_drop, List.length_append, codeOf_len, List.length_cons] at this
      omega
    have hg0 : full.getD (2 * i) ⟨0, 0, 0, 0⟩ = (pairI i v).getD 0 ⟨0, 0, 0, 0⟩ := by
      have := congrArg (fun l => l[0]?) hd
      simp only [List.getElem?_drop, Nat.add_zero, codeOf, List.append_assoc] at this
      rw [List.getElem?_append_left (by rw [pairI_len]; omega)] at this
      simp only [List.getD_eq_getElem?_getD, this]
    have hg1 : full.getD (2 * i + 1) ⟨0, 0, 0, 0⟩ = (pairI i v).getD 1 ⟨0, 0, 0, 0⟩ := by
      have := congrArg (fun l => l[1]?) hd
      simp only [List.getElem?_drop, codeOf, List.append_assoc] at this
      rw [List.getElem?_append_left (by rw [pairI_len]; omega)] at this
      simp only [List.getD_eq_getElem?_getD, this]
    have hd2 : full.drop (2 * (i + 1)) = codeOf r (i + 1) ++ tail := by
      have := congrArg (List.drop 2) hd
      rw [List.drop_drop, codeOf, List.append_assoc, List.drop_left' (pairI_len i v)] at this
      exact this
    have hf : f + 2 * (r.length + 1) = (f + 2 * r.length + 1) + 1 := by omega
    have step2 : ∃ m2, runGo full (f + 2 * (r.length + 1)) m n = runGo full (f + 2 * r.length) m2 (n + 2) ∧ m2.en = false ∧ m2.pos = ((2 * (i + 1) : Nat) : Int) ∧ m2.sc = m.sc.set i v := by
      rw [hf, runGo_s (k := 2 * i) he hp (by omega), hg0]
      by_cases hpar : i % 2 = 0
      · have ep : pairI i v = [⟨0, 0, 0, v⟩, ⟨2, 0, 0, i⟩] := by unfold pairI; rw [if_pos hpar]
        rw [ep] at hg1 ⊢
        have e1 : stp { m with pos := m.pos + 1 } ⟨0, 0, 0, v⟩ = { m with pos := m.pos + 1, a := v } := by
          show ({ m with pos := m.pos + 1, a := ld { m with pos := m.pos + 1 } ⟨0, 0, 0, v⟩ } : Mch) = _
          have : ld { m with pos := m.pos + 1 } ⟨0, 0, 0, v⟩ = v := by simp [ld, iandn]
          rw [this]
        simp only [List.getD_cons_zero, e1]
        rw [runGo_s (k := 2 * i + 1) (m := { m with pos := m.pos + 1, a := v }) he (by show m.pos + 1 = _; rw [hp]; omega) (by omega), hg1]
        refine ⟨_, rfl, he, ?_, ?_⟩
        · show m.pos + 1 + 1 = _; rw [hp]; omega
        · show m.sc.set ((i : Int) % 16).toNat v = _
          rw [show ((i : Int) % 16).toNat = i by omega]
      · have ep : pairI i v = [⟨1, 0, 0, v⟩, ⟨3, 0, 0, i⟩] := by unfold pairI; rw [if_neg hpar]
        rw [ep] at hg1 ⊢
        have e1 : stp { m with pos := m.pos + 1 } ⟨1, 0, 0, v⟩ = { m with pos := m.pos + 1, x := v } := by
          show ({ m with pos := m.pos + 1, x := ld { m with pos := m.pos + 1 } ⟨1, 0, 0, v⟩ } : Mch) = _
          have : ld { m with pos := m.pos + 1 } ⟨1, 0, 0, v⟩ = v := by simp [ld, iandn]
          rw [this]
        simp only [List.getD_cons_zero, e1]
        rw [runGo_s (k := 2 * i + 1) (m := { m with pos := m.pos + 1, x := v }) he (by show m.pos + 1 = _; rw [hp]; omega) (by omega), hg1]
        refine ⟨_, rfl, he, ?_, ?_⟩
        · show m.pos + 1 + 1 = _; rw [hp]; omega
        · show m.sc.set ((i : Int) % 16).toNat v = _
          rw [show ((i : Int) % 16).toNat = i by omega]
    obtain ⟨m2, hr2, he2, hp2, hs2⟩ := step2
    obtain ⟨m', h1, h2, h3, h4, h5, h6⟩ := ih (i + 1) (n + 2) m2 hd2 he2 hp2 (by rw [hs2, List.length_set, hsc]) (by omega)
    refine ⟨m', ?_, h2, ?_, h4, ?_, ?_⟩
    · simp only [List.length_cons]; rw [hr2, h1]; congr 1; omega
    · rw [h3]; simp only [List.length_cons]; congr 2; omega
    · intro j hj
      rw [h5 j (by omega), hs2, List.getD_eq_getElem?_getD, List.getElem?_set_ne (by omega), ← List.getD_eq_getElem?_getD]
    · intro j hj
      cases j with
      | zero =>
        rw [Nat.add_zero, h5 i (by omega), hs2, List.getD_eq_getElem?_getD, List.getElem?_set_self (by omega)]; rfl
      | succ j =>
        have := h6 j (by simpa using hj)
        rw [show i + 1 + j = i + (j + 1) by omega] at this
        rw [this]; simp
theorem scr_runA (l : List Int) (k : Nat) (hk : k < l.length) (h : l.length ≤ 16) (r : Rec) : runF (codeOf l 0 ++ tailA k) r = (l.getD k 0, 2 * l.length + 2) := by
  obtain ⟨m', h1, h2, h3, h4, _, h6⟩ := run_code (codeOf l 0 ++ tailA k) (tailA k) l 0 0 2 (m0 r) rfl rfl rfl rfl (by omega)
  have hl : (codeOf l 0 ++ tailA k).length = 2 + 2 * l.length := by rw [List.length_append, codeOf_len]; simp [tailA]; omega
  have g0 : (codeOf l 0 ++ tailA k).getD (2 * l.length) ⟨0, 0, 0, 0⟩ = ⟨96, 0, 0, k⟩ := by
    rw [List.getD_eq_getElem?_getD, List.getElem?_append_right (by rw [codeOf_len]; omega), codeOf_len, Nat.sub_self]; rfl
  have g1 : (codeOf l 0 ++ tailA k).getD (2 * l.length + 1) ⟨0, 0, 0, 0⟩ = ⟨22, 0, 0, 0⟩ := by
    rw [List.getD_eq_getElem?_getD, List.getElem?_append_right (by rw [codeOf_len]; omega), codeOf_len, show 2 * l.length + 1 - 2 * l.length = 1 by omega]; rfl
  have hv := h6 k hk
  rw [Nat.zero_add] at hv
  rw [Nat.zero_add] at h3
  have e1 : stp { m' with pos := m'.pos + 1 } ⟨96, 0, 0, (k : Int)⟩ = { m' with pos := m'.pos + 1, a := l.getD k 0 } := by
    show ({ m' with pos := m'.pos + 1, a := ld { m' with pos := m'.pos + 1 } ⟨96, 0, 0, (k : Int)⟩ } : Mch) = _
    have : ld { m' with pos := m'.pos + 1 } ⟨96, 0, 0, (k : Int)⟩ = l.getD k 0 := by
      simp only [ld, show iandn 96 7 = 96 from by decide]
      rw [if_neg (by omega), if_pos trivial, show ((k : Int) % 16).toNat = k by omega]; exact hv
    rw [this]
  unfold runF
  rw [hl, h1, runGo_s (k := 2 * l.length) h2 h3 (by omega), g0, e1, runGo_s (k := 2 * l.length + 1) (m := { m' with pos := m'.pos + 1, a := l.getD k 0 }) h2 (by show m'.pos + 1 = _; rw [h3]; omega) (by omega), g1]
  simp [runGo, stp]
  (try omega)
theorem scr_runB (l : List Int) (k : Nat) (hk : k < l.length) (h : l.length ≤ 16) (r : Rec) : runF (codeOf l 0 ++ tailB k) r = (l.getD k 0, 2 * l.length + 3) := by
  obtain ⟨m', h1, h2, h3, h4, _, h6⟩ := run_code (codeOf l 0 ++ tailB k) (tailB k) l 0 0 3 (m0 r) rfl rfl rfl rfl (by omega)
  have hl : (codeOf l 0 ++ tailB k).length = 3 + 2 * l.length := by rw [List.length_append, codeOf_len]; simp [tailB]; omega
  have gg : ∀ q, q < 3 → (codeOf l 0 ++ tailB k).getD (2 * l.length + q) ⟨0, 0, 0, 0⟩ = (tailB k).getD q ⟨0, 0, 0, 0⟩ := by
    intro q hq
    rw [List.getD_eq_getElem?_getD, List.getElem?_append_right (by rw [codeOf_len]; omega), codeOf_len, show 2 * l.length + q - 2 * l.length = q by omega]; rfl
  have hv := h6 k hk
  rw [Nat.zero_add] at hv
  rw [Nat.zero_add] at h3
  have e1 : stp { m' with pos := m'.pos + 1 } ⟨97, 0, 0, (k : Int)⟩ = { m' with pos := m'.pos + 1, x := l.getD k 0 } := by
    show ({ m' with pos := m'.pos + 1, x := ld { m' with pos := m'.pos + 1 } ⟨97, 0, 0, (k : Int)⟩ } : Mch) = _
    have : ld { m' with pos := m'.pos + 1 } ⟨97, 0, 0, (k : Int)⟩ = l.getD k 0 := by
      simp only [ld, show iandn 97 7 = 96 from by decide]
      rw [if_neg (by omega), if_pos trivial, show ((k : Int) % 16).toNat = k by omega]; exact hv
    rw [this]
  have g0 : (codeOf l 0 ++ tailB k).getD (2 * l.length) ⟨0, 0, 0, 0⟩ = ⟨97, 0, 0, k⟩ := gg 0 (by omega)
  have g1 : (codeOf l 0 ++ tailB k).getD (2 * l.length + 1) ⟨0, 0, 0, 0⟩ = ⟨135, 0, 0, 0⟩ := gg 1 (by omega)
  have g2 : (codeOf l 0 ++ tailB k).getD (2 * l.length + 2) ⟨0, 0, 0, 0⟩ = ⟨22, 0, 0, 0⟩ := gg 2 (by omega)
  unfold runF
  rw [hl, h1, runGo_s (k := 2 * l.length) h2 h3 (by omega)]
  rw [g0, e1, runGo_s (k := 2 * l.length + 1) (m := { m' with pos := m'.pos + 1, x := l.getD k 0 }) h2 (by show m'.pos + 1 = _; rw [h3]; omega) (by omega), g1]
  rw [show stp { m' with pos := m'.pos + 1 + 1, x := l.getD k 0 } ⟨135, 0, 0, 0⟩ = { m' with pos := m'.pos + 1 + 1, x := l.getD k 0, a := l.getD k 0 } from rfl]
  rw [runGo_s (k := 2 * l.length + 2) (m := { m' with pos := m'.pos + 1 + 1, x := l.getD k 0, a := l.getD k 0 }) h2 (by show m'.pos + 1 + 1 = _; rw [h3]; omega) (by omega), g2]
  simp [runGo, stp]
  (try omega)
end Go.Proofs.Ytcimcihhpkedfaa
