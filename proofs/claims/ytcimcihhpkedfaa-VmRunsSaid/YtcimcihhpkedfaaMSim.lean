/- Runs of two filters side by side: a stripped one, one with more behind it. The steps of a run, one by one. Plain laws. -/
import Derived.Test.YtcimcihhpkedfaaVm4
import Derived.Test.YtcimcihhpkedfaaAct1
import Derived.Test.YtcimcihhpkedfaaMStr
namespace Go.Proofs.Ytcimcihhpkedfaa
open Go Go.RowKit
def Mch.to (m : Mch) (p : Int) : Mch := { m with pos := p }
theorem red_to (m : Mch) (i : Ins) (p : Int) : red (m.to p) i = (red m i).to p := by
  have ho : other (m.to p) i = other m i := rfl
  unfold red
  dsimp only
  rw [ho]
  by_cases h0 : iandn i.code 15 = 0
  · rw [if_pos h0, if_pos h0]; rfl
  rw [if_neg h0, if_neg h0]
  by_cases h16 : iandn i.code 15 = 16
  · rw [if_pos h16, if_pos h16]; rfl
  rw [if_neg h16, if_neg h16]
  by_cases h32 : iandn i.code 15 = 32
  · rw [if_pos h32, if_pos h32]; rfl
  rw [if_neg h32, if_neg h32]
  by_cases h48 : iandn i.code 15 = 48
  · rw [if_pos h48, if_pos h48]
    by_cases hb : other m i = 0
    · rw [if_pos hb, if_pos hb]; rfl
    · rw [if_neg hb, if_neg hb]; rfl
  rw [if_neg h48, if_neg h48]
  by_cases h64 : iandn i.code 15 = 64
  · rw [if_pos h64, if_pos h64]; rfl
  rw [if_neg h64, if_neg h64]
  by_cases h80 : iandn i.code 15 = 80
  · rw [if_pos h80, if_pos h80]; rfl
  rw [if_neg h80, if_neg h80]
  by_cases h160 : iandn i.code 15 = 160
  · rw [if_pos h160, if_pos h160]; rfl
  rw [if_neg h160, if_neg h160]
  by_cases h96 : iandn i.code 15 = 96
  · rw [if_pos h96, if_pos h96]; rfl
  rw [if_neg h96, if_neg h96]
  by_cases h112 : iandn i.code 15 = 112
  · rw [if_pos h112, if_pos h112]; rfl
  rw [if_neg h112, if_neg h112]
  by_cases h128 : iandn i.code 15 = 128
  · rw [if_pos h128, if_pos h128]; rfl
  rw [if_neg h128, if_neg h128]
theorem stp_to (m : Mch) (i : Ins) (p : Int) : stp (m.to p) i = (stp (m.to 0) i).to (p + (stp (m.to 0) i).pos) := by
  have hz : ∀ m : Mch, ∀ q : Int, (m.to q).to (p + (m.to 0).pos) = m.to p := fun m q => by show (⟨_, _, _, p + 0, _, _, _⟩ : Mch) = _; rw [Int.add_zero]; rfl
  unfold stp
  split
  · exact (hz { m with a := ld m i } 0).symm
  split
  · exact (hz { m with x := ld m i } 0).symm
  split
  · exact (hz { m with sc := m.sc.set (i.k % 16).toNat m.a } 0).symm
  split
  · exact (hz { m with sc := m.sc.set (i.k % 16).toNat m.x } 0).symm
  split
  · rw [red_to, red_to]
    exact (hz (red m i) 0).symm
  split
  · unfold jmp
    have hh : ∀ q, holds (m.to q) i = holds m i := fun _ => rfl
    simp only [hh]
    show (⟨_, _, _, _, _, _, _⟩ : Mch) = ⟨_, _, _, _, _, _, _⟩
    congr 1
    show (if iandn i.code 15 = 0 then p + i.k else if holds m i = true then p + i.jt else p + i.jf) = p + (if iandn i.code 15 = 0 then 0 + i.k else if holds m i = true then 0 + i.jt else 0 + i.jf)
    split
    · omega
    · split <;> omega
  split
  · exact (hz { m with en := true, act := if i.code = 22 then m.a else i.k } 0).symm
  split
  · exact (hz { m with x := m.a } 0).symm
  · exact (hz { m with a := m.x } 0).symm
theorem stp_jmp {m : Mch} {i : Ins} (h : i.code % 8 = 5) : stp m i = jmp m i := by
  unfold stp
  rw [if_neg (by omega), if_neg (by omega), if_neg (by omega), if_neg (by omega), if_neg (by omega), if_pos h]
/-- a step that is no jump goes on by one -/
theorem stp_far {m : Mch} {i : Ins} (h : i.code % 8 ≠ 5) : (stp m i).pos = m.pos := by
  unfold stp
  repeat' (first | rfl | exact red_pos _ _ | (exfalso; omega) | split)
theorem op_known {c : Int} (hc : 0 ≤ c) (hk : known c = true) (h8 : c % 8 = 5) (h5 : c ≠ 5) : iandn c 15 ≠ 0 := by
  intro e
  have h := iandn_mask c 4 hc
  have e15 : ((2 : Int) ^ 4 - 1) = 15 := by decide
  have e16 : ((2 : Int) ^ 4) = 16 := by decide
  rw [e15, e16, e] at h
  have : c = 13 := by omega
  subst this
  have : known 13 = false := by decide
  rw [this] at hk
  simp at hk
theorem one_known {i : Ins} {a n : Int} (h : one i a n = 0) : known i.code = true := by
  unfold one at h
  dsimp only at h
  split at h
  · omega
  · rename_i h1
    simpa using h1
/-- where a step goes: a way, if the run isn't over -/
theorem stp_next {m : Mch} {i : Ins} {k n : Nat} (hi : i.ok) (h1 : one i (k : Int) (n : Int) = 0) (he : (stp (m.to ((k : Int) + 1)) i).en = false) : ∃ k2 : Nat, (stp (m.to ((k : Int) + 1)) i).pos = (k2 : Int) ∧ k2 ∈ ways i k := by
  have hkn := one_known h1
  have h6 : i.code % 8 ≠ 6 := by
    intro h6
    unfold stp at he
    rw [if_neg (by omega), if_neg (by omega), if_neg (by omega), if_neg (by omega), if_neg (by omega), if_neg (by omega), if_pos h6] at he
    simp at he
  have hk := hi.k
  have ht := hi.t
  have hf := hi.f
  by_cases h8 : i.code % 8 = 5
  · rw [stp_jmp h8]
    by_cases h5 : i.code = 5
    · have e0 : iandn i.code 15 = 0 := by rw [h5]; decide
      have hw : ways i k = [k + 1 + i.k.toNat] := by unfold ways; rw [if_neg h6, if_pos h5]
      refine ⟨k + 1 + i.k.toNat, ?_, by rw [hw]; exact List.mem_cons_self ..⟩
      unfold jmp
      dsimp only
      rw [if_pos e0]
      show (k : Int) + 1 + i.k = _
      omega
    · have e0 := op_known hi.c.1 hkn h8 h5
      have hw : ways i k = [k + 1 + i.jt.toNat, k + 1 + i.jf.toNat] := by unfold ways; rw [if_neg h6, if_neg h5, if_pos h8]
      unfold jmp
      dsimp only
      rw [if_neg e0, hw]
      split
      · exact ⟨k + 1 + i.jt.toNat, by show (k : Int) + 1 + i.jt = _; omega, List.mem_cons_self ..⟩
      · exact ⟨k + 1 + i.jf.toNat, by show (k : Int) + 1 + i.jf = _; omega, by simp⟩
  · have hw : ways i k = [k + 1] := by
      unfold ways
      rw [if_neg h6, if_neg (fun h => h8 (by omega)), if_neg h8]
    refine ⟨k + 1, ?_, by rw [hw]; exact List.mem_cons_self ..⟩
    rw [stp_far h8]
    show (k : Int) + 1 = _
    omega
/-- two filters side by side: places of the one, and where they are in the other -/
structure Sim (A B : List Ins) (G : Nat → Prop) (w : Nat → Nat) : Prop where
  la : ∀ k, G k → k < A.length
  lb : ∀ k, G k → w k < B.length
  step : ∀ (k : Nat) (g : G k) (m : Mch), ∃ p : Int, stp (m.to ((w k : Int) + 1)) (B[w k]'(lb k g)) = (stp (m.to ((k : Int) + 1)) (A[k]'(la k g))).to p ∧
    ((stp (m.to ((k : Int) + 1)) (A[k]'(la k g))).en = false → ∃ k2 : Nat, (stp (m.to ((k : Int) + 1)) (A[k]'(la k g))).pos = (k2 : Int) ∧ G k2 ∧ p = (w k2 : Int) ∧ k < k2 ∧ w k < w k2)
/-- what a run shows -/
def obs (q : Mch × Nat) : Int × Nat := (if q.1.en then q.1.act else 2147483648, q.2)
theorem runGo_end {l : List Ins} {m : Mch} {n f : Nat} (h : m.en = true) : runGo l f m n = (m, n) := by
  cases f with
  | zero => rfl
  | succ f => rw [runGo, if_pos (.inl h)]
theorem Sim.run {A B : List Ins} {G : Nat → Prop} {w : Nat → Nat} (s : Sim A B G w) : ∀ (f : Nat) (k : Nat) (m : Mch) (n f' : Nat), m.en = false → m.pos = (k : Int) → G k → A.length ≤ f + k → B.length ≤ f' + w k →
    obs (runGo B f' (m.to (w k)) n) = obs (runGo A f m n) ∧ (runGo A f m n).1.en = true := by
  intro f
  induction f with
  | zero => intro k m n f' _ _ g h; have := s.la k g; omega
  | succ f ih =>
    intro k m n f' he hp g h1 h2
    have la := s.la k g
    have lb := s.lb k g
    obtain ⟨f2, rfl⟩ : ∃ f2, f' = f2 + 1 := ⟨f' - 1, by omega⟩
    have hA : runGo A (f + 1) m n = runGo A f (stp (m.to ((k : Int) + 1)) A[k]) (n + 1) := by
      rw [runGo, if_neg (by rw [he, hp]; simp; omega), hp, Int.toNat_natCast, List.getD_eq_getElem?_getD, List.getElem?_eq_getElem la]
      rfl
    have hB : runGo B (f2 + 1) (m.to (w k)) n = runGo B f2 (stp (m.to ((w k : Int) + 1)) B[w k]) (n + 1) := by
      have e1 : (m.to (w k)).en = false := he
      have e2 : (m.to (w k)).pos = (w k : Int) := rfl
      rw [runGo, if_neg (by rw [e1, e2]; simp; omega), e2, Int.toNat_natCast, List.getD_eq_getElem?_getD, List.getElem?_eq_getElem lb]
      rfl
    obtain ⟨p, e, hnx⟩ := s.step k g m
    rw [hA, hB, e]
    generalize stp (m.to ((k : Int) + 1)) A[k] = m2 at *
    cases he2 : m2.en with
    | true =>
      have e3 : (m2.to p).en = true := he2
      rw [runGo_end e3, runGo_end he2]
      exact ⟨rfl, he2⟩
    | false =>
      obtain ⟨k2, hp2, g2, rfl, h3, h4⟩ := hnx he2
      exact ih k2 m2 (n + 1) f2 he2 hp2 g2 (by omega) (by omega)
theorem Sim.runF {A B : List Ins} {G : Nat → Prop} {w : Nat → Nat} (s : Sim A B G w) (g0 : G 0) (w0 : w 0 = 0) (r : Rec) : runF B r = runF A r ∧ (runGo A A.length (m0 r) 0).1.en = true := by
  have h := s.run A.length 0 (m0 r) 0 B.length rfl rfl g0 (by omega) (by omega)
  rw [w0] at h
  exact h
/-- a filter, with something more behind it -/
theorem sim_more {l : List Ins} (fl : Flt l) (x : List Ins) : Sim l (l ++ x) (fun k => k < l.length) id where
  la := fun k h => h
  lb := fun k h => by show k < _; rw [List.length_append]; have : k < l.length := h; omega
  step := by
    intro k g m
    have g' : k < l.length := g
    have e : (l ++ x)[id k]'(by show k < _; rw [List.length_append]; omega) = l[k] := List.getElem_append_left g'
    refine ⟨(stp (m.to ((k : Int) + 1)) l[k]).pos, ?_, ?_⟩
    · rw [e]; rfl
    · intro he
      obtain ⟨k2, h1, h2⟩ := stp_next (n := l.length) (fl.ok _ (List.getElem_mem g')) (fl.one k g') he
      have h3 := fl.wd k g' k2 h2
      exact ⟨k2, h1, h3.2, h1, h3.1, h3.1⟩
/-- a filter stripped -/
theorem near_data {r : List Bool} {i : Ins} {k : Nat} (h : i.code % 8 ≠ 5) : near r i k = i := by
  unfold near
  rw [if_neg (fun e => h (by omega)), if_neg h]
theorem sim_strip {l : List Ins} {r : List Bool} (s : Str l r) : Sim l (stripGo r l 0) (fun k => r.getD k false = true) (cnt r) where
  la := fun k h => s.lt h
  lb := fun k h => by rw [s.len]; exact cnt_lt h (s.lt h)
  step := by
    intro k g m
    have g' : r.getD k false = true := g
    have hk := s.lt g'
    have hlb : cnt r k < (stripGo r l 0).length := by rw [s.len]; exact cnt_lt g' hk
    have e : (stripGo r l 0)[cnt r k] = near r (l[k]'hk) k := by
      have := s.get g'
      rw [List.getElem?_eq_getElem hlb] at this
      exact Option.some.inj this
    have hok := s.f.ok _ (List.getElem_mem hk)
    have h1 := s.f.one k hk
    have hnear := s.near g' hk
    have hnx := s.r.next k hk g'
    have hwd := s.f.wd k hk
    rw [e]
    have key : ∃ p : Int, stp (m.to ((cnt r k : Int) + 1)) (near r (l[k]'hk) k) = (stp (m.to ((k : Int) + 1)) (l[k]'hk)).to p := by
      by_cases h8 : (l[k]'hk).code % 8 = 5
      · have h8' : (near r (l[k]'hk) k).code % 8 = 5 := by rw [near_code]; exact h8
        rw [stp_jmp h8', stp_jmp h8]
        exact ⟨_, rfl⟩
      · rw [near_data h8, stp_to m (l[k]'hk) ((cnt r k : Int) + 1), stp_to m (l[k]'hk) ((k : Int) + 1)]
        exact ⟨_, rfl⟩
    obtain ⟨p, hp⟩ := key
    refine ⟨p, hp, ?_⟩
    intro he
    obtain ⟨k2, h2, h3⟩ := stp_next (n := l.length) hok h1 he
    have he' : (stp (m.to ((cnt r k : Int) + 1)) (near r (l[k]'hk) k)).en = false := by rw [hp]; exact he
    obtain ⟨k3, h4, h5⟩ := stp_next (n := cnt r l.length) hnear.1 hnear.2.1 he'
    have hpk : p = (k3 : Int) := by rw [hp] at h4; exact h4
    refine ⟨k2, h2, hnx k2 h3, ?_, (hwd k2 h3).1, cnt_lt g' (hwd k2 h3).1⟩
    rw [hpk]
    congr 1
    have hcd := near_code r (l[k]'hk) k
    have hwy := hnear.2.2
    have hi := hnear.1
    have hkk := fun h => near_k (r := r) (i := l[k]'hk) (k := k) h
    have hkn := one_known h1
    generalize near r (l[k]'hk) k = j at *
    generalize l[k]'hk = i at *
    by_cases h8 : i.code % 8 = 5
    · have h8' : j.code % 8 = 5 := by rw [hcd]; exact h8
      rw [stp_jmp h8] at h2
      rw [stp_jmp h8'] at h4
      by_cases h5 : i.code = 5
      · have h5' : j.code = 5 := by rw [hcd]; exact h5
        have e0 : iandn i.code 15 = 0 := by rw [h5]; decide
        have e0' : iandn j.code 15 = 0 := by rw [h5']; decide
        have w1 : ways i k = [k + 1 + i.k.toNat] := by unfold ways; rw [if_neg (by omega), if_pos h5]
        have w2 : ways j (cnt r k) = [cnt r k + 1 + j.k.toNat] := by unfold ways; rw [if_neg (by omega), if_pos h5']
        rw [w1, w2] at hwy
        simp only [List.map_cons, List.map_nil, List.cons.injEq, and_true] at hwy
        have p1 : (jmp (m.to ((k : Int) + 1)) i).pos = (k : Int) + 1 + i.k := by unfold jmp; dsimp only; rw [if_pos e0]; rfl
        have p2 : (jmp (m.to ((cnt r k : Int) + 1)) j).pos = (cnt r k : Int) + 1 + j.k := by unfold jmp; dsimp only; rw [if_pos e0']; rfl
        rw [p1] at h2
        rw [p2] at h4
        have := hok.k
        have := hi.k
        have q1 : k2 = k + 1 + i.k.toNat := by omega
        have q2 : k3 = cnt r k + 1 + j.k.toNat := by omega
        rw [q1, q2]; exact hwy
      · have h5' : j.code ≠ 5 := by rw [hcd]; exact h5
        have e0 := op_known hok.c.1 hkn h8 h5
        have e0' : iandn j.code 15 ≠ 0 := by rw [hcd]; exact e0
        have w1 : ways i k = [k + 1 + i.jt.toNat, k + 1 + i.jf.toNat] := by unfold ways; rw [if_neg (by omega), if_neg h5, if_pos h8]
        have w2 : ways j (cnt r k) = [cnt r k + 1 + j.jt.toNat, cnt r k + 1 + j.jf.toNat] := by unfold ways; rw [if_neg (by omega), if_neg h5', if_pos h8']
        rw [w1, w2] at hwy
        simp only [List.map_cons, List.map_nil, List.cons.injEq, and_true] at hwy
        have hh : holds (m.to ((cnt r k : Int) + 1)) j = holds (m.to ((k : Int) + 1)) i := by
          unfold holds other
          rw [hcd, hkk h5]
          rfl
        have := hok.t
        have := hi.t
        have := hok.f
        have := hi.f
        cases hb : holds (m.to ((k : Int) + 1)) i with
        | true =>
          rw [hb] at hh
          have p1 : (jmp (m.to ((k : Int) + 1)) i).pos = (k : Int) + 1 + i.jt := by unfold jmp; dsimp only; rw [if_neg e0, hb]; rfl
          have p2 : (jmp (m.to ((cnt r k : Int) + 1)) j).pos = (cnt r k : Int) + 1 + j.jt := by unfold jmp; dsimp only; rw [if_neg e0', hh]; rfl
          rw [p1] at h2
          rw [p2] at h4
          have q1 : k2 = k + 1 + i.jt.toNat := by omega
          have q2 : k3 = cnt r k + 1 + j.jt.toNat := by omega
          rw [q1, q2]; exact hwy.1
        | false =>
          rw [hb] at hh
          have p1 : (jmp (m.to ((k : Int) + 1)) i).pos = (k : Int) + 1 + i.jf := by unfold jmp; dsimp only; rw [if_neg e0, hb]; rfl
          have p2 : (jmp (m.to ((cnt r k : Int) + 1)) j).pos = (cnt r k : Int) + 1 + j.jf := by unfold jmp; dsimp only; rw [if_neg e0', hh]; rfl
          rw [p1] at h2
          rw [p2] at h4
          have q1 : k2 = k + 1 + i.jf.toNat := by omega
          have q2 : k3 = cnt r k + 1 + j.jf.toNat := by omega
          rw [q1, q2]; exact hwy.2
    · have h8' : j.code % 8 ≠ 5 := by rw [hcd]; exact h8
      rw [stp_far h8] at h2
      rw [stp_far h8'] at h4
      have p1 : (m.to ((k : Int) + 1)).pos = (k : Int) + 1 := rfl
      have p2 : (m.to ((cnt r k : Int) + 1)).pos = (cnt r k : Int) + 1 := rfl
      rw [p1] at h2
      rw [p2] at h4
      have q1 : k2 = k + 1 := by omega
      have q2 : k3 = cnt r k + 1 := by omega
      rw [q1, q2, cnt_yes g']
/-- the law -/
theorem strip_run {l : List Ins} (hl : ∀ i ∈ l, i.ok) (h : check l = (0, 0)) (r : Rec) : runF (strip l) r = runF l r := by
  have s := strip_str hl h
  have e : strip l = stripGo (reached l) l 0 := by unfold strip; rw [if_pos h]
  rw [e]
  exact ((sim_strip s).runF s.zero (cnt_zero _) r).1
theorem more_run {l : List Ins} (hl : ∀ i ∈ l, i.ok) (h : check l = (0, 0)) (x : List Ins) (r : Rec) : runF (l ++ x) r = runF l r :=
  ((sim_more (flt_of hl h) x).runF (flt_of hl h).pos rfl r).1
end Go.Proofs.Ytcimcihhpkedfaa
namespace Go.Proofs.Ytcimcihhpkedfaa
open Go Go.RowKit
/-- the steps from a state: where, and the machine behind each -/
def trM (l : List Ins) : Nat → Mch → List (Nat × Mch)
  | 0, _ => []
  | f + 1, m => if m.en = true ∨ (l.length : Int) ≤ m.pos then [] else (m.pos.toNat, stp { m with pos := m.pos + 1 } (l.getD m.pos.toNat I0)) :: trM l f (stp { m with pos := m.pos + 1 } (l.getD m.pos.toNat I0))
theorem trM_len (l : List Ins) (f : Nat) (m : Mch) (n : Nat) : (runGo l f m n).2 = n + (trM l f m).length := by
  induction f generalizing m n with
  | zero => rfl
  | succ f ih =>
    rw [runGo, trM]
    split
    · rfl
    · have := ih (stp { m with pos := m.pos + 1 } (l.getD m.pos.toNat ⟨0, 0, 0, 0⟩)) (n + 1)
      rw [this, List.length_cons]
      show n + 1 + (trM l f (stp { m with pos := m.pos + 1 } (l.getD m.pos.toNat I0))).length = _
      omega
/-- what a step leaves -/
structure StF (r : Rec) (i : Ins) (m : Mch) : Prop where
  ld : i.code = 32 → m.a = word r i.k
  ldx : i.code = 1 → m.x = i.k
/-- what the last step leaves -/
structure LaF (i : Ins) (m : Mch) : Prop where
  k : i.code = 6 → m.act = i.k
  a : i.code = 22 → m.act = m.a
  d : i.code % 8 ≠ 6 → iandn i.code 8 = 52 ∧ m.act = 0
def Chn (l : List Ins) (r : Rec) : Nat → List (Nat × Mch) → Prop
  | _, [] => False
  | k, q :: t => q.1 = k ∧ k < l.length ∧ StF r (l.getD k I0) q.2 ∧ ((t = [] ∧ q.2.en = true ∧ LaF (l.getD k I0) q.2) ∨ ∃ k2, k2 ∈ ways (l.getD k I0) k ∧ Chn l r k2 t)
theorem red_keep (m : Mch) (i : Ins) : (red m i).act = m.act ∧ (red m i).rc = m.rc := by
  unfold red
  dsimp only
  repeat' split
  all_goals exact ⟨rfl, rfl⟩
theorem stp_keep (m : Mch) (i : Ins) : (stp m i).rc = m.rc ∧ (i.code % 8 ≠ 6 → (stp m i).act = m.act) := by
  have h := red_keep m i
  unfold stp
  repeat' split
  all_goals first
    | exact ⟨rfl, fun _ => rfl⟩
    | exact ⟨h.2, fun _ => h.1⟩
    | (refine ⟨rfl, fun q => ?_⟩; omega)
theorem stp_stf {m : Mch} {i : Ins} : StF m.rc i (stp m i) := by
  constructor
  · intro h
    unfold stp
    rw [if_pos (by omega)]
    show ld m i = _
    unfold ld
    have : iandn i.code 7 = 32 := by rw [h]; decide
    rw [if_pos this]
  · intro h
    unfold stp
    rw [if_neg (by omega), if_pos (by omega)]
    show ld m i = _
    unfold ld
    have : iandn i.code 7 = 0 := by rw [h]; decide
    rw [if_neg (by omega), if_neg (by omega), if_neg (by omega)]
theorem red_end {m : Mch} {i : Ins} (hm : m.en = false) (h : (red m i).en = true) : iandn i.code 15 = 48 := by
  unfold red at h
  dsimp only at h
  by_cases h48 : iandn i.code 15 = 48
  · exact h48
  · exfalso
    repeat' (split at h)
    all_goals first
      | exact h48 (by assumption)
      | (rw [hm] at h; simp at h; done)
      | (simp [hm] at h; done)
theorem stp_last {m : Mch} {i : Ins} (hi : i.ok) (hm : m.en = false) (ha : m.act = 0) (he : (stp m i).en = true) : LaF i (stp m i) := by
  constructor
  · intro h
    unfold stp
    rw [if_neg (by omega), if_neg (by omega), if_neg (by omega), if_neg (by omega), if_neg (by omega), if_neg (by omega), if_pos (by omega)]
    show (if i.code = 22 then m.a else i.k) = i.k
    rw [if_neg (by omega)]
  · intro h
    unfold stp
    rw [if_neg (by omega), if_neg (by omega), if_neg (by omega), if_neg (by omega), if_neg (by omega), if_neg (by omega), if_pos (by omega)]
    show (if i.code = 22 then m.a else i.k) = m.a
    rw [if_pos h]
  · intro h6
    refine ⟨?_, by rw [(stp_keep m i).2 h6, ha]⟩
    by_cases h4 : i.code % 8 = 4
    · have e : stp m i = red m i := by
        unfold stp
        rw [if_neg (by omega), if_neg (by omega), if_neg (by omega), if_neg (by omega), if_pos h4]
      rw [e] at he
      have h48 := red_end hm he
      have hc := hi.c
      have h := iandn_mask i.code 4 hc.1
      have e15 : ((2 : Int) ^ 4 - 1) = 15 := by decide
      have e16 : ((2 : Int) ^ 4) = 16 := by decide
      rw [e15, e16, h48] at h
      rcases (show i.code = 52 ∨ i.code = 60 by omega) with e1 | e1
      · rw [e1]; decide
      · rw [e1]; decide
    · exfalso
      have : (stp m i).en = m.en := by
        unfold stp
        repeat' (first | rfl | (exfalso; omega) | split)
      rw [this, hm] at he
      simp at he
theorem trM_chn {l : List Ins} (fl : Flt l) (r : Rec) : ∀ (f k : Nat) (m : Mch), m.en = false → m.pos = (k : Int) → k < l.length → l.length ≤ f + k → m.act = 0 → m.rc = r → Chn l r k (trM l f m) := by
  intro f
  induction f with
  | zero => intro k m _ _ h1 h2; omega
  | succ f ih =>
    intro k m he hp hk hf ha hrc
    have hi := fl.ok _ (List.getElem_mem hk)
    have hd : l.getD k I0 = l[k] := getD_lt hk
    rw [trM, if_neg (by rw [he, hp]; simp; omega)]
    have hpk : m.pos.toNat = k := by omega
    have hm2 : stp { m with pos := m.pos + 1 } (l.getD m.pos.toNat I0) = stp (m.to ((k : Int) + 1)) l[k] := by rw [hpk, hd, hp]; rfl
    rw [hm2, hpk]
    have hmr : (m.to ((k : Int) + 1)).rc = r := hrc
    have hst := stp_stf (m := m.to ((k : Int) + 1)) (i := l[k])
    rw [hmr] at hst
    have hkp := stp_keep (m.to ((k : Int) + 1)) l[k]
    refine ⟨rfl, hk, by rw [hd]; exact hst, ?_⟩
    rw [hd]
    cases he2 : (stp (m.to ((k : Int) + 1)) l[k]).en with
    | true =>
      refine .inl ⟨?_, by first | exact he2 | rfl, stp_last hi he ha he2⟩
      cases f with
      | zero => rfl
      | succ f => rw [trM, if_pos (.inl he2)]
    | false =>
      obtain ⟨k2, h1, h2⟩ := stp_next hi (fl.one k hk) he2
      have h3 := fl.wd k hk k2 h2
      have h6 : l[k].code % 8 ≠ 6 := by
        intro h6
        unfold ways at h2
        rw [if_pos h6] at h2
        simp at h2
      exact .inr ⟨k2, h2, ih k2 _ he2 h1 h3.2 (by omega) (by rw [hkp.2 h6]; exact ha) (by rw [hkp.1]; exact hmr)⟩
/-- step by step, by places -/
theorem Chn.at_ {l : List Ins} {r : Rec} {k : Nat} {xs : List (Nat × Mch)} (h : Chn l r k xs) (j : Nat) (hj : j < xs.length) :
    (xs[j]).1 < l.length ∧ StF r (l.getD (xs[j]).1 I0) (xs[j]).2 ∧ (∀ h2 : j + 1 < xs.length, (xs[j + 1]).1 ∈ ways (l.getD (xs[j]).1 I0) (xs[j]).1) ∧ (j + 1 = xs.length → (xs[j]).2.en = true ∧ LaF (l.getD (xs[j]).1 I0) (xs[j]).2) := by
  induction xs generalizing k j with
  | nil => simp at hj
  | cons q t ih =>
    obtain ⟨h1, h2, h3, h4⟩ := h
    cases j with
    | zero =>
      simp only [List.getElem_cons_zero]
      rw [h1]
      refine ⟨h2, h3, ?_, ?_⟩
      · intro hh
        rcases h4 with ⟨rfl, _, _⟩ | ⟨k2, h5, h6⟩
        · simp at hh
        · cases t with
          | nil => simp at hh
          | cons q2 t2 => simp only [Nat.zero_add, List.getElem_cons_succ, List.getElem_cons_zero]; rw [h6.1]; exact h5
      · intro hh
        rcases h4 with ⟨_, h5, h6⟩ | ⟨k2, h5, h6⟩
        · exact ⟨h5, h6⟩
        · cases t with
          | nil => exact absurd h6 id
          | cons q2 t2 => simp at hh
    | succ j =>
      rcases h4 with ⟨rfl, _, _⟩ | ⟨k2, h5, h6⟩
      · simp at hj
      · have := ih h6 j (by simpa using hj)
        simp only [List.getElem_cons_succ, List.length_cons, Nat.add_lt_add_iff_right, Nat.add_right_cancel_iff]
        exact this
theorem Chn.zero {l : List Ins} {r : Rec} {k : Nat} {xs : List (Nat × Mch)} (h : Chn l r k xs) : ∃ h0 : 0 < xs.length, (xs[0]).1 = k := by
  cases xs with
  | nil => exact absurd h id
  | cons q t => exact ⟨by simp, h.1⟩
/-- the run's answer is the last machine's -/
theorem trM_act {l : List Ins} : ∀ (f : Nat) (m : Mch) (n : Nat) (h : 0 < (trM l f m).length), (runGo l f m n).1 = ((trM l f m)[(trM l f m).length - 1]'(by omega)).2 := by
  intro f
  induction f with
  | zero => intro m n h; simp [trM] at h
  | succ f ih =>
    intro m n h
    by_cases hc : m.en = true ∨ (l.length : Int) ≤ m.pos
    · rw [trM, if_pos hc] at h; simp at h
    · have e1 : trM l (f + 1) m = (m.pos.toNat, stp { m with pos := m.pos + 1 } (l.getD m.pos.toNat I0)) :: trM l f (stp { m with pos := m.pos + 1 } (l.getD m.pos.toNat I0)) := by rw [trM, if_neg hc]
      have e2 : runGo l (f + 1) m n = runGo l f (stp { m with pos := m.pos + 1 } (l.getD m.pos.toNat I0)) (n + 1) := by rw [runGo, if_neg hc]; rfl
      rw [e2]
      generalize stp { m with pos := m.pos + 1 } (l.getD m.pos.toNat I0) = m2 at *
      have hx : ∀ (xs : List (Nat × Mch)) (e : trM l (f + 1) m = xs) (hh : 0 < xs.length), ((trM l (f + 1) m)[(trM l (f + 1) m).length - 1]'(by rw [e]; omega)) = xs[xs.length - 1]'(by omega) := by
        intro xs e hh; subst e; rfl
      rw [hx _ e1 (by simp)]
      by_cases h0 : 0 < (trM l f m2).length
      · rw [ih m2 (n + 1) h0]
        have : ((m.pos.toNat, m2) :: trM l f m2).length - 1 = ((trM l f m2).length - 1) + 1 := by rw [List.length_cons]; omega
        simp only [this, List.getElem_cons_succ]
      · have hn : trM l f m2 = [] := List.eq_nil_of_length_eq_zero (by omega)
        have hr : runGo l f m2 (n + 1) = (m2, n + 1) := by
          cases f with
          | zero => rfl
          | succ f =>
            rw [runGo]
            by_cases hc2 : m2.en = true ∨ (l.length : Int) ≤ m2.pos
            · rw [if_pos hc2]
            · rw [trM, if_neg hc2] at hn; simp at hn
        rw [hr]
        simp [hn]
def trF (l : List Ins) (r : Rec) : List (Nat × Mch) := trM l l.length (m0 r)
theorem trF_ok {l : List Ins} (fl : Flt l) (r : Rec) : Chn l r 0 (trF l r) := trM_chn fl r l.length 0 (m0 r) rfl rfl fl.pos (by omega) rfl rfl
theorem trF_len (l : List Ins) (r : Rec) : (runF l r).2 = (trF l r).length := by
  have := trM_len l l.length (m0 r) 0
  unfold runF trF
  dsimp only
  omega
theorem trF_act {l : List Ins} (fl : Flt l) (r : Rec) : ∃ h : (trF l r).length - 1 < (trF l r).length, (runF l r).1 = ((trF l r)[(trF l r).length - 1]).2.act := by
  have c := trF_ok fl r
  obtain ⟨h0, _⟩ := c.zero
  refine ⟨by omega, ?_⟩
  have h1 := (c.at_ ((trF l r).length - 1) (by omega)).2.2.2 (by omega)
  have h2 := trM_act (l := l) l.length (m0 r) 0 h0
  unfold runF
  dsimp only
  rw [h2]
  have h3 : ((trM l l.length (m0 r))[(trM l l.length (m0 r)).length - 1]'(by have : 0 < (trM l l.length (m0 r)).length := h0; omega)).2.en = true := h1.1
  rw [h3]
  rfl
end Go.Proofs.Ytcimcihhpkedfaa
