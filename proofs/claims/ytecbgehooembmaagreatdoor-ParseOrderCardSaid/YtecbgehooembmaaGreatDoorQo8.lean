/- Part 8 of what the last text of this claim leans on: rules of walks, contracts, plain facts. Conditions: those of each statement. -/
import Derived.Test.YtecbgehooembmaaGreatDoorQo7
set_option maxRecDepth 100000
namespace Go.Proofs.YtecbgehooembmaaGreatDoor
open Go Go.RowKit
def Rs (s s' : PS) : Prop := s.1.map kn = s'.1.map kn ∧ (s.2 = (0, 0, 0) ↔ s'.2 = (0, 0, 0))
theorem h5m {w w' : Wr} {t t' : Tk} {e e' : Nat} (he : e ≠ 0) (he' : e' ≠ 0) : (h2v w t e = (0, 0, 0) ↔ h2v w' t' e' = (0, 0, 0)) :=
 ⟨fun h => absurd h (failW_ne _ _ _ he), fun h => absurd h (failW_ne _ _ _ he')⟩
theorem head_r {l l' : List Tk} (h : l.map kn = l'.map kn) : kn (l.headD zTk) = kn (l'.headD zTk) ∧ l.tail.map kn = l'.tail.map kn := by
 cases l with
 | nil =>
  cases l' with
  | nil => exact ⟨rfl, rfl⟩
  | cons b r => cases h
 | cons a r =>
  cases l' with
  | nil => cases h
  | cons b r' =>
   injection h with h1 h2
   exact ⟨h1, h2⟩
theorem h5g {t t' : Tk} (h : kn t = kn t') : t.kind = t'.kind ∧ t.text = t'.text ∧ t.num = t'.num := by
 injection h with h1 h2
 injection h2 with h2 h3
 exact ⟨h1, h2, h3⟩
theorem ite_r {c c' : Prop} [Decidable c] [Decidable c'] {a b a' b' : Wr} (hc : c ↔ c') (h1 : a = (0, 0, 0) ↔ a' = (0, 0, 0)) (h2 : b = (0, 0, 0) ↔ b' = (0, 0, 0)) : ((if c then a else b) = (0, 0, 0) ↔ (if c' then a' else b') = (0, 0, 0)) := by
 by_cases h : c
 ·rw [if_pos h, if_pos (hc.1 h)]; exact h1
 ·rw [if_neg h, if_neg (fun h' => h (hc.2 h'))]; exact h2
theorem h6e {k : Nat} {s s' : PS} (h : Rs s s') : kn (h0z k s).1 = kn (h0z k s').1 ∧ Rs (h0z k s).2 (h0z k s').2 := by
 obtain ⟨h1, h2⟩ := head_r h.1
 refine ⟨h1, h2, ?_⟩
 show (if (s.1.headD zTk).kind = k then s.2 else h2v s.2 (s.1.headD zTk) 203) = (0, 0, 0) ↔ (if (s'.1.headD zTk).kind = k then s'.2 else h2v s'.2 (s'.1.headD zTk) 203) = (0, 0, 0)
 exact ite_r (by rw [(h5g h1).1]) h.2 (h5m (by omega) (by omega))
theorem wordT_r {s s' : PS} (h : Rs s s') : kn (h2g s).1 = kn (h2g s').1 ∧ Rs (h2g s).2 (h2g s').2 := by
 obtain ⟨h1, h2, h3⟩ := h6e (k:=1) h
 refine ⟨h1, h2, ite_r ?_ (h5m (by omega) (by omega)) h3⟩
 rw [h3, (h5g h1).2.1]
theorem keyF_r {k : List UInt8} {s s' : PS} (h : Rs s s') : Rs (keyF k s) (keyF k s') := by
 obtain ⟨h1, h2, h3⟩ := h6e (k:=1) h
 refine ⟨h2, ite_r ?_ (h5m (by omega) (by omega)) h3⟩
 rw [h3, (h5g h1).2.1]
theorem actF_r {s s' : PS} (h : Rs s s') : (actF s).1 = (actF s').1 ∧ Rs (actF s).2 (actF s').2 := by
 obtain ⟨h1, h2⟩ := wordT_r h
 obtain ⟨g1, g2⟩ := h6e (k:=2) h2
 have ht := (h5g h1).2.1
 have hn := (h5g g1).2.2
 unfold actF
 rw [ht]
 by_cases c1 : (h2g s').1.text = tKill
 ·rw [if_pos c1, if_pos c1]; exact ⟨rfl, h2⟩
 rw [if_neg c1, if_neg c1]
 by_cases c2 : (h2g s').1.text = tLog
 ·rw [if_pos c2, if_pos c2]; exact ⟨rfl, h2⟩
 rw [if_neg c2, if_neg c2]
 by_cases c3 : (h2g s').1.text = tAllow
 ·rw [if_pos c3, if_pos c3]; exact ⟨rfl, h2⟩
 rw [if_neg c3, if_neg c3]
 by_cases c4 : (h2g s').1.text = tErrno
 ·rw [if_pos c4, if_pos c4]
  by_cases c5 : (h0z 2 (h2g s').2).2.2 = (0, 0, 0) ∧ ((h0z 2 (h2g s').2).1.num < 1 ∨ 4095 < (h0z 2 (h2g s').2).1.num)
  ·rw [if_pos c5, if_pos ⟨g2.2.2 c5.1, by rw [hn]; exact c5.2⟩]
   exact ⟨rfl, g2.1, h5m (by omega) (by omega)⟩
  ·rw [if_neg c5, if_neg (fun c => c5 ⟨g2.2.1 c.1, by rw [← hn]; exact c.2⟩), hn]
   exact ⟨rfl, g2⟩
 ·rw [if_neg c4, if_neg c4]
  exact ⟨rfl, h2.1, h5m (by omega) (by omega)⟩
theorem mskF_r {o : Nat} {s s' : PS} (h : Rs s s') : (mskF o s).1 = (mskF o s').1 ∧ Rs (mskF o s).2 (mskF o s').2 := by
 obtain ⟨h1, h2⟩ := h6e (k:=2) h
 obtain ⟨g1, g2, g3⟩ := h6e (k:=4) h2
 unfold mskF
 by_cases c : o = 7
 ·rw [if_pos c, if_pos c]
  refine ⟨(h5g h1).2.2, g2, ite_r ?_ (h5m (by omega) (by omega)) g3⟩
  rw [(h5g g1).2.1]
 ·rw [if_neg c, if_neg c]; exact ⟨rfl, h⟩
theorem valF_r {a o m : Nat} {s s' : PS} (h : Rs s s') : (valF a o m s).1 = (valF a o m s').1 ∧ Rs (valF a o m s).2 (valF a o m s').2 := by
 obtain ⟨h1, h2, h3⟩ := h6e (k:=2) h
 have hn := (h5g h1).2.2
 unfold valF
 rw [hn]
 exact ⟨rfl, h2, ite_r Iff.rfl (h5m (by omega) (by omega)) h3⟩
theorem cndF_r {s s' : PS} (h : Rs s s') : (cndF s).1 = (cndF s').1 ∧ Rs (cndF s).2 (cndF s').2 := by
 obtain ⟨h1, h2, h3⟩ := wordT_r h
 have ht := (h5g h1).2.1
 unfold cndF argW
 rw [ht]
 have hs : Rs ((h2g s).2.1, if (argOf (h2g s').1.text).isSome then (h2g s).2.2 else h2v (h2g s).2.2 (h2g s).1 202) ((h2g s').2.1, if (argOf (h2g s').1.text).isSome then (h2g s').2.2 else h2v (h2g s').2.2 (h2g s').1 202) := ⟨h2, ite_r Iff.rfl h3 (h5m (by omega) (by omega))⟩
 generalize ((h2g s).2.1, if (argOf (h2g s').1.text).isSome then (h2g s).2.2 else h2v (h2g s).2.2 (h2g s).1 202) = z at *
 generalize ((h2g s').2.1, if (argOf (h2g s').1.text).isSome then (h2g s').2.2 else h2v (h2g s').2.2 (h2g s').1 202) = z' at *
 unfold sgnS
 obtain ⟨g1, g2⟩ := h6e (k:=4) hs
 rw [(h5g g1).2.1]
 obtain ⟨k1, k2⟩ := mskF_r (o:=opOf (h0z 4 z').1.text) g2
 rw [k1]
 exact valF_r k2
theorem cndsGo_r (f : Nat) : ∀ (key : List UInt8) (s s' : PS) (out : List Cnd), Rs s s' → (h4v f key s out).1 = (h4v f key s' out).1 ∧ Rs (h4v f key s out).2 (h4v f key s' out).2 := by
 induction f with
 | zero => intro key s s' out h; exact ⟨rfl, h⟩
 | succ f ih =>
  intro key s s' out h
  obtain ⟨h1, -⟩ := head_r h.1
  have hk := (h5g h1).1
  have hn : s.1 = [] ↔ s'.1 = [] := by
   rw [← List.map_eq_nil_iff (f:=kn), h.1, List.map_eq_nil_iff]
  unfold h4v
  by_cases c : s'.1 = [] ∨ (s'.1.headD zTk).kind = 0 ∨ s'.2 ≠ (0, 0, 0)
  ·rw [if_pos c, if_pos (by rw [hn, hk, ne_eq, h.2]; exact c)]
   exact ⟨rfl, h⟩
  ·rw [if_neg c, if_neg (by rw [hn, hk, ne_eq, h.2]; exact c)]
   obtain ⟨g1, g2, g3⟩ := cndF_r (keyF_r (k:=key) h)
   rw [g1]
   exact ih _ _ _ _ ⟨g2, ite_r Iff.rfl (h5m (by omega) (by omega)) g3⟩
theorem setF_r {k : Nat} {s s' : PS} (h : Rs s s') : (setF k s).1 = (setF k s').1 ∧ Rs (setF k s).2 (setF k s').2 := by
 obtain ⟨h1, h2, h3⟩ := h6e (k:=1) h
 have ht := (h5g h1).2.1
 unfold setF
 rw [ht]
 refine ⟨rfl, h2, ?_⟩
 by_cases c : (Rg.parseF 0 (h1p 44 (h0z 1 s').1.text)).2 ≠ 0
 ·rw [if_pos c, if_pos c]; exact h5m c c
 ·rw [if_neg c, if_neg c]; exact ite_r Iff.rfl (h5m (by omega) (by omega)) h3
theorem rulF_r {t t' : Tk} {rs : List RulP} {s s' : PS} (h : Rs s s') : (rulF t rs s).1 = (rulF t' rs s').1 ∧ Rs (rulF t rs s).2 (rulF t' rs s').2 := by
 obtain ⟨h1, h2, h3⟩ := wordT_r h
 have ht := (h5g h1).2.1
 have hc : rulC s = rulC s' := by unfold rulC; rw [ht]
 have hn : rulN s = rulN s' := by unfold rulN; rw [hc]
 have h4 : Rs (rul1 s) (rul1 s') := ⟨h2, ite_r (by rw [hc]) h3 (h5m (by omega) (by omega))⟩
 obtain ⟨g1, g2⟩ := actF_r h4
 have hl : (rul2 s).2.1.length = (rul2 s').2.1.length := by
  have := congrArg List.length g2.1
  rwa [List.length_map, List.length_map] at this
 obtain ⟨k1, k2, k3⟩ := cndsGo_r ((rul2 s').2.1.length + 1) tIf _ _ [] g2
 have e : rul3 s = h4v ((rul2 s').2.1.length + 1) tIf (rul2 s).2 [] := by unfold rul3; rw [hl]
 unfold rulF
 rw [hn, e]
 refine ⟨?_, k2, ite_r Iff.rfl (h5m (by omega) (by omega)) k3⟩
 show rs ++ [⟨rulN s', (rul2 s).1, _⟩] = rs ++ [⟨rulN s', (rul2 s').1, _⟩]
 rw [show (rul2 s).1 = (rul2 s').1 from g1]
 exact congrArg (fun x => rs ++ [(⟨rulN s', (rul2 s').1, x⟩ : RulP)]) k1
theorem hanF_r {hd : Nat} {t t' : Tk} {s s' : PS} (h : Rs s s') : (hanF hd t s).1 = (hanF hd t' s').1 ∧ Rs (hanF hd t s).2 (hanF hd t' s').2 :=
 setF_r ⟨h.1, ite_r Iff.rfl (h5m (by omega) (by omega)) h.2⟩
theorem benF_r {hd : Nat} {t t' : Tk} {ps : List (List UInt8 × Nat)} {s s' : PS} (h : Rs s s') : (benF hd t ps s).1 = (benF hd t' ps s').1 ∧ Rs (benF hd t ps s).2 (benF hd t' ps s').2 := by
 obtain ⟨h1, h2, h3⟩ := h6e (k:=3) h
 have ht := (h5g h1).2.1
 have h4 : Rs (ben1 s) (ben1 s') := ⟨h2, ite_r (by rw [h3, ht]) (h5m (by omega) (by omega)) h3⟩
 obtain ⟨g1, g2, g3⟩ := setF_r (k:=hd &&& 2047) h4
 refine ⟨?_, g2, ite_r Iff.rfl (h5m (by omega) (by omega)) ?_⟩
 ·show ps ++ [(_, _)] = ps ++ [(_, _)]
  rw [ht]
  exact congrArg (fun x => ps ++ [((h0z 3 s').1.text, x)]) g1
 ·exact ite_r (by rw [ht]) (h5m (by omega) (by omega)) g3
theorem porF_r {hd : Nat} {t t' : Tk} {ps : List (Nat × Nat)} {s s' : PS} (h : Rs s s') : (porF hd t ps s).1 = (porF hd t' ps s').1 ∧ Rs (porF hd t ps s).2 (porF hd t' ps s').2 := by
 obtain ⟨h1, h2, h3⟩ := h6e (k:=2) h
 have ht := (h5g h1).2.2
 have hp : porN s = porN s' := by unfold porN; rw [ht]
 have h4 : Rs (por1 s) (por1 s') := ⟨h2, ite_r (by rw [ht]) (h5m (by omega) (by omega)) h3⟩
 obtain ⟨g1, g2, g3⟩ := setF_r (k:=hd &&& 49152) h4
 refine ⟨?_, g2, ite_r Iff.rfl (h5m (by omega) (by omega)) ?_⟩
 ·show ps ++ [(_, _)] = ps ++ [(_, _)]
  rw [hp]
  exact congrArg (fun x => ps ++ [(porN s', x)]) g1
 ·exact ite_r (by rw [hp]) (h5m (by omega) (by omega)) g3
theorem lineP_r {P : Pol} {s s' : PS} (h : Rs s s') : (lineP P s).1 = (lineP P s').1 ∧ Rs (lineP P s).2 (lineP P s').2 := by
 obtain ⟨h1, h2⟩ := h6e (k:=1) h
 have ht := (h5g h1).2.1
 unfold lineP lineW
 rw [ht]
 by_cases c1 : (h0z 1 s').1.text = tCall
 ·rw [if_pos c1, if_pos c1]
  obtain ⟨g1, g2⟩ := rulF_r (t:=(h0z 1 s).1) (t' := (h0z 1 s').1) (rs:=P.rules) h2
  exact ⟨by rw [g1], g2⟩
 rw [if_neg c1, if_neg c1]
 by_cases c2 : (h0z 1 s').1.text = tHandle
 ·rw [if_pos c2, if_pos c2]
  obtain ⟨g1, g2⟩ := hanF_r (hd:=P.hd) (t:=(h0z 1 s).1) (t' := (h0z 1 s').1) h2
  exact ⟨by rw [g1], g2⟩
 rw [if_neg c2, if_neg c2]
 by_cases c3 : (h0z 1 s').1.text = tBeneath
 ·rw [if_pos c3, if_pos c3]
  obtain ⟨g1, g2⟩ := benF_r (hd:=P.hd) (t:=(h0z 1 s).1) (t' := (h0z 1 s').1) (ps:=P.paths) h2
  exact ⟨by rw [g1], g2⟩
 rw [if_neg c3, if_neg c3]
 by_cases c4 : (h0z 1 s').1.text = tPort
 ·rw [if_pos c4, if_pos c4]
  obtain ⟨g1, g2⟩ := porF_r (hd:=P.hd) (t:=(h0z 1 s).1) (t' := (h0z 1 s').1) (ps:=P.ports) h2
  exact ⟨by rw [g1], g2⟩
 rw [if_neg c4, if_neg c4]
 exact ⟨rfl, h2.1, h5m (by omega) (by omega)⟩
theorem linesGo_r (f : Nat) : ∀ (P : Pol) (s s' : PS), Rs s s' → (h2u f (P, s)).1 = (h2u f (P, s')).1 ∧ Rs (h2u f (P, s)).2 (h2u f (P, s')).2 := by
 induction f with
 | zero => intro P s s' h; exact ⟨rfl, h⟩
 | succ f ih =>
  intro P s s' h
  have hn : s.1 = [] ↔ s'.1 = [] := by
   rw [← List.map_eq_nil_iff (f:=kn), h.1, List.map_eq_nil_iff]
  unfold h2u
  by_cases c : s'.1 = [] ∨ s'.2 ≠ (0, 0, 0)
  ·rw [if_pos c, if_pos (by rw [hn, ne_eq, h.2]; exact c)]
   exact ⟨rfl, h⟩
  ·rw [if_neg c, if_neg (by rw [hn, ne_eq, h.2]; exact c)]
   obtain ⟨g1, g2⟩ := lineP_r (P:=P) h
   rw [g1]
   exact ih _ _ _ (h6e (k:=0) g2).2
theorem allP_r {s s' : PS} (h : Rs s s') : (allP s).1 = (allP s').1 ∧ Rs (allP s).2 (allP s').2 := by
 have h1 := keyF_r (k:=tPolicy) h
 obtain ⟨h2, h3, h4⟩ := wordT_r h1
 have ht := (h5g h2).2.1
 have h5 : Rs (nmS s) (nmS s') := ⟨h3, ite_r (by rw [h4, ht]) (h5m (by omega) (by omega)) h4⟩
 obtain ⟨g1, g2⟩ := actF_r (keyF_r (k:=tDefault) (h6e (k:=0) h5).2)
 have g3 := (h6e (k:=0) g2).2
 have e : (polS s).1 = (polS s').1 := by
  show (⟨_, _, [], 0, [], []⟩ : Pol) = ⟨_, _, [], 0, [], []⟩
  rw [ht, show (dfS s).1 = (dfS s').1 from g1]
 have hl : (polS s).2.1.length = (polS s').2.1.length := by
  have := congrArg List.length g3.1
  rwa [List.length_map, List.length_map] at this
 have e1 : allP s = h2u ((polS s').2.1.length + 1) ((polS s').1, (polS s).2) := by
  unfold allP
  rw [hl, ← e]
 rw [e1]
 exact linesGo_r _ _ _ _ g3
structure PolRn (P : Pol) : Prop where
 c : ∀ r ∈ P.rules, ∀ c ∈ r.conds, c.mask ≤ 18446744073709551615 ∧ c.val ≤ 18446744073709551615
theorem actL_ok {a : Int} (h : actOk a = true) : (∀ w ∈ actL a, WOk w) ∧ actL a ≠ [] ∧ ((actL a).map fun w => w.2.1.length + 1).sum ≤ 27 := by
 unfold actL
 split
 ·refine ⟨fun w hw => ?_, by simp, ?_⟩
  ·rcases List.mem_cons.1 hw with rfl | hw
   ·exact nmB_ok (by decide)
   ·rw [List.mem_singleton.1 hw]
    have := and_lt a
    exact wD_ok (by omega)
  ·have := decF_len 5 (iand a 65535).toNat (by omega) (by have := and_lt a; omega)
   simp only [List.map_cons, List.map_nil, List.sum_cons, List.sum_nil]
   have e : tErrno.length = 5 := rfl
   omega
 ·split
  ·exact ⟨fun w hw => by rw [List.mem_singleton.1 hw]; exact nmB_ok (by decide), by simp, by decide⟩
  ·split
   ·exact ⟨fun w hw => by rw [List.mem_singleton.1 hw]; exact nmB_ok (by decide), by simp, by decide⟩
   ·exact ⟨fun w hw => by rw [List.mem_singleton.1 hw]; exact nmB_ok (by decide), by simp, by decide⟩
theorem d20 {n : Nat} (h : n ≤ 18446744073709551615) : (decF n).length ≤ 20 := decF_len 20 n (by omega) (by omega)
theorem argTx_ok {n : Nat} (h : n ≤ 5) : WOk (wN (argTx n)) ∧ (argTx n).length = 4 := by
 obtain rfl | rfl | rfl | rfl | rfl | rfl : n = 0 ∨ n = 1 ∨ n = 2 ∨ n = 3 ∨ n = 4 ∨ n = 5 := by omega
 all_goals
  unfold argTx
  rw [decF_dig (by omega)]
  exact ⟨nmB_ok (by decide), by decide⟩
theorem cndL_ok {c : Cnd} (h : CndOk c) (hm : c.mask ≤ 18446744073709551615) (hv : c.val ≤ 18446744073709551615) : (∀ w ∈ cndL c, WOk w) ∧ ((cndL c).map fun w => w.2.1.length + 1).sum ≤ 53 := by
 have h1 := argTx_ok h.arg
 have h2 := sg_ok h.op1 h.op2
 have h3 := d20 hm
 have h4 := d20 hv
 unfold cndL
 by_cases c7 : c.op = 7
 ·rw [if_pos c7]
  refine ⟨fun w hw => ?_, ?_⟩
  ·simp only [List.cons_append, List.nil_append, List.mem_cons, List.not_mem_nil, or_false] at hw
   rcases hw with rfl | rfl | rfl | rfl | rfl
   ·exact h1.1
   ·exact h2.1
   ·exact wD_ok hm
   ·exact wG_ok (by decide)
   ·exact wD_ok hv
  ·simp only [List.cons_append, List.nil_append, List.map_cons, List.map_nil, List.sum_cons, List.sum_nil, List.length_cons, List.length_nil]
   omega
 ·rw [if_neg c7]
  refine ⟨fun w hw => ?_, ?_⟩
  ·simp only [List.nil_append, List.mem_cons, List.not_mem_nil, or_false] at hw
   rcases hw with rfl | rfl | rfl
   ·exact h1.1
   ·exact h2.1
   ·exact wD_ok hv
  ·simp only [List.nil_append, List.map_cons, List.map_nil, List.sum_cons, List.sum_nil]
   omega
theorem cndsL_ok (cs : List Cnd) (h : ∀ c ∈ cs, CndOk c ∧ c.mask ≤ 18446744073709551615 ∧ c.val ≤ 18446744073709551615) : ∀ key : List UInt8, nmB key = true → key.length ≤ 3 → (∀ w ∈ cndsL key cs, WOk w) ∧ ((cndsL key cs).map fun w => w.2.1.length + 1).sum ≤ 57 * cs.length := by
 induction cs with
 | nil => intro key _ _; exact ⟨(fun w hw => by cases hw), Nat.le_refl _⟩
 | cons c cs ih =>
  intro key hk hl
  obtain ⟨h1, h2, h3⟩ := h c (List.mem_cons_self ..)
  obtain ⟨g1, g2⟩ := cndL_ok h1 h2 h3
  obtain ⟨k1, k2⟩ := ih (fun c hc => h c (List.mem_cons_of_mem _ hc)) tAnd (by decide) (by decide)
  refine ⟨fun w hw => ?_, ?_⟩
  ·rcases List.mem_cons.1 hw with rfl | hw
   ·exact nmB_ok hk
   ·rcases List.mem_append.1 hw with hw | hw
    ·exact g1 w hw
    ·exact k1 w hw
  ·show ((wN key :: (cndL c ++ cndsL tAnd cs)).map fun w => w.2.1.length + 1).sum ≤ _
   rw [List.map_cons, List.sum_cons, List.map_append, List.sum_append, List.length_cons]
   show key.length + 1 + _ ≤ _
   omega
theorem clls_nm : (clls.all fun m => nmB (lB m.name) && decide ((lB m.name).length ≤ 14)) = true := by decide +kernel
theorem rulL_ok {r : RulP} (h : RulOk r) (hr : ∀ c ∈ r.conds, c.mask ≤ 18446744073709551615 ∧ c.val ≤ 18446744073709551615) : (∀ w ∈ rulL r, WOk w) ∧ rulL r ≠ [] ∧ ((rulL r).map fun w => w.2.1.length + 1).sum ≤ 390 := by
 obtain ⟨a1, a2, a3⟩ := actL_ok h.act
 obtain ⟨c1, c2⟩ := cndsL_ok r.conds (fun c hc => ⟨h.conds c hc, hr c hc⟩) tIf (by decide) (by decide)
 have hn : nmB (h5e r.num) = true ∧ (h5e r.num).length ≤ 14 := by
  cases hc : h5x r.num clls with
  | none => have := h.num; rw [hc] at this; cases this
  | some m =>
   have h2 := List.all_eq_true.1 clls_nm m (cnumF_mem hc).1
   rw [Bool.and_eq_true, decide_eq_true_eq] at h2
   unfold h5e
   rw [hc]; exact h2
 refine ⟨fun w hw => ?_, by simp [rulL], ?_⟩
 ·rcases List.mem_cons.1 hw with rfl | hw
  ·exact nmB_ok (by decide)
  rcases List.mem_cons.1 hw with rfl | hw
  ·exact nmB_ok hn.1
  rcases List.mem_append.1 hw with hw | hw
  ·exact a1 w hw
  ·exact c1 w hw
 ·show ((wN tCall :: wN (h5e r.num) :: (actL r.act ++ cndsL tIf r.conds)).map fun w => w.2.1.length + 1).sum ≤ _
  rw [List.map_cons, List.map_cons, List.sum_cons, List.sum_cons, List.map_append, List.sum_append]
  show tCall.length + 1 + ((h5e r.num).length + 1 + _) ≤ _
  have e : tCall.length = 4 := rfl
  have := h.len
  omega
theorem spcL_len (ws : List W3) : (spcL ws).length ≤ (ws.map fun w => w.2.1.length + 1).sum := by
 cases ws with
 | nil => exact Nat.le_refl _
 | cons w r =>
  rw [List.map_cons, List.sum_cons]
  show (w.2.1 ++ r.flatMap fun v => 32 :: v.2.1).length ≤ _
  have key : ∀ r : List W3, (r.flatMap fun v => 32 :: v.2.1).length ≤ (r.map fun w => w.2.1.length + 1).sum := by
   intro r
   induction r with
   | nil => exact Nat.le_refl _
   | cons v r ih =>
    rw [List.flatMap_cons, List.length_append, List.map_cons, List.sum_cons, List.length_cons]
    omega
  have := key r
  rw [List.length_append]
  omega
theorem lnsT_len (D : List (List W3)) (k : Nat) (h : ∀ ws ∈ D, (ws.map fun w => w.2.1.length + 1).sum ≤ k) : (h4p D).length ≤ D.length * (k + 1) := by
 induction D with
 | nil => exact Nat.zero_le _
 | cons ws D ih =>
  have h1 := ih (fun w hw => h w (List.mem_cons_of_mem _ hw))
  have h2 := h ws (List.mem_cons_self ..)
  have h3 := spcL_len ws
  show ((ws :: D).flatMap fun ws => spcL ws ++ [10]).length ≤ _
  rw [List.flatMap_cons, List.length_append, List.length_append, List.length_singleton, List.length_cons, Nat.succ_mul]
  have e : (D.flatMap fun ws => spcL ws ++ [10]).length = (h4p D).length := rfl
  omega
theorem lnsT_app (A B : List (List W3)) : h4p (A ++ B) = h4p A ++ h4p B := by simp [h4p]
theorem polL_ok (P : Pol) (h : PolOk P) (hr : PolRn P) : LinesOk (polL P) ∧ (polT P).length ≤ 55000 := by
 obtain ⟨n1, n2⟩ := nm_ok h.nm
 obtain ⟨a1, a2, a3⟩ := actL_ok h.df
 have hru : ∀ ws ∈ P.rules.map rulL, (∀ w ∈ ws, WOk w) ∧ ws ≠ [] ∧ (ws.map fun w => w.2.1.length + 1).sum ≤ 390 := by
  intro ws hws
  obtain ⟨r, hr1, rfl⟩ := List.mem_map.1 hws
  exact rulL_ok (h.rules r hr1) (hr.c r hr1)
 have hha : ∀ ws ∈ hanL P.hd, (∀ w ∈ ws, WOk w) ∧ ws ≠ [] ∧ (ws.map fun w => w.2.1.length + 1).sum ≤ 390 := by
  intro ws hws
  unfold hanL at hws
  split at hws
  ·rename_i h0
   obtain ⟨r1, r2⟩ := rg_ok h0 h.hd
   rw [List.mem_singleton.1 hws]
   refine ⟨fun w hw => ?_, by simp, ?_⟩
   ·rcases List.mem_cons.1 hw with rfl | hw
    ·exact nmB_ok (by decide)
    ·rw [List.mem_singleton.1 hw]; exact r1
   ·show tHandle.length + 1 + ((rgT P.hd).length + 1 + 0) ≤ 390
    have e : tHandle.length = 6 := rfl
    omega
  ·cases hws
 have hpa : ∀ ws ∈ P.paths.map benL, (∀ w ∈ ws, WOk w) ∧ ws ≠ [] ∧ (ws.map fun w => w.2.1.length + 1).sum ≤ 450 := by
  intro ws hws
  obtain ⟨p, hp, rfl⟩ := List.mem_map.1 hws
  obtain ⟨g1, g2, g3, g4⟩ := h.paths p hp
  obtain ⟨p1, p2⟩ := wP_ok g1
  obtain ⟨r1, r2⟩ := rg_ok g2 (and_sub g3 h.hd)
  refine ⟨fun w hw => ?_, by simp [benL], ?_⟩
  ·simp only [benL, List.mem_cons, List.not_mem_nil, or_false] at hw
   rcases hw with rfl | rfl | rfl
   ·exact nmB_ok (by decide)
   ·exact p1
   ·exact r1
  ·show tBeneath.length + 1 + (p.1.length + 1 + ((rgT p.2).length + 1 + 0)) ≤ 450
   have e : tBeneath.length = 7 := rfl
   omega
 have hpo : ∀ ws ∈ P.ports.map porL, (∀ w ∈ ws, WOk w) ∧ ws ≠ [] ∧ (ws.map fun w => w.2.1.length + 1).sum ≤ 390 := by
  intro ws hws
  obtain ⟨p, hp, rfl⟩ := List.mem_map.1 hws
  obtain ⟨g1, g2, g3, g4⟩ := h.ports p hp
  obtain ⟨r1, r2⟩ := rg_ok g2 (and_sub g3 h.hd)
  have hd := d20 (n:=p.1) (by omega)
  refine ⟨fun w hw => ?_, by simp [porL], ?_⟩
  ·simp only [porL, List.mem_cons, List.not_mem_nil, or_false] at hw
   rcases hw with rfl | rfl | rfl
   ·exact nmB_ok (by decide)
   ·exact wD_ok (by omega)
   ·exact r1
  ·show tPort.length + 1 + ((decF p.1).length + 1 + ((rgT p.2).length + 1 + 0)) ≤ 390
   have e : tPort.length = 4 := rfl
   omega
 have hh : ∀ ws ∈ [[wN tPolicy, wN P.nm], wN tDefault :: actL P.df], (∀ w ∈ ws, WOk w) ∧ ws ≠ [] ∧ (ws.map fun w => w.2.1.length + 1).sum ≤ 40 := by
  intro ws hws
  rcases List.mem_cons.1 hws with rfl | hws
  ·refine ⟨fun w hw => ?_, by simp, ?_⟩
   ·rcases List.mem_cons.1 hw with rfl | hw
    ·exact nmB_ok (by decide)
    ·rw [List.mem_singleton.1 hw]; exact n1
   ·show tPolicy.length + 1 + (P.nm.length + 1 + 0) ≤ 40
    have e : tPolicy.length = 6 := rfl
    omega
  ·rw [List.mem_singleton.1 hws]
   refine ⟨fun w hw => ?_, by simp, ?_⟩
   ·rcases List.mem_cons.1 hw with rfl | hw
    ·exact nmB_ok (by decide)
    ·exact a1 w hw
   ·rw [List.map_cons, List.sum_cons]
    show tDefault.length + 1 + _ ≤ 40
    have e : tDefault.length = 7 := rfl
    omega
 have e : polL P = [[wN tPolicy, wN P.nm], wN tDefault :: actL P.df] ++ (P.rules.map rulL ++ (hanL P.hd ++ (P.paths.map benL ++ P.ports.map porL))) := rfl
 have all : ∀ ws ∈ polL P, (∀ w ∈ ws, WOk w) ∧ ws ≠ [] := by
  intro ws hws
  rw [e] at hws
  rcases List.mem_append.1 hws with hws | hws
  ·exact ⟨(hh ws hws).1, (hh ws hws).2.1⟩
  rcases List.mem_append.1 hws with hws | hws
  ·exact ⟨(hru ws hws).1, (hru ws hws).2.1⟩
  rcases List.mem_append.1 hws with hws | hws
  ·exact ⟨(hha ws hws).1, (hha ws hws).2.1⟩
  rcases List.mem_append.1 hws with hws | hws
  ·exact ⟨(hpa ws hws).1, (hpa ws hws).2.1⟩
  ·exact ⟨(hpo ws hws).1, (hpo ws hws).2.1⟩
 refine ⟨⟨fun ws hws => (all ws hws).2, fun ws hws => (all ws hws).1⟩, ?_⟩
 unfold polT
 rw [e, lnsT_app, lnsT_app, lnsT_app, lnsT_app]
 have b1 := lnsT_len _ _ (fun ws hws => (hh ws hws).2.2)
 have b2 := lnsT_len _ _ (fun ws hws => (hru ws hws).2.2)
 have b3 := lnsT_len _ _ (fun ws hws => (hha ws hws).2.2)
 have b4 := lnsT_len _ _ (fun ws hws => (hpa ws hws).2.2)
 have b5 := lnsT_len _ _ (fun ws hws => (hpo ws hws).2.2)
 have l3 : (hanL P.hd).length ≤ 1 := by unfold hanL; split <;> simp
 rw [List.length_map] at b2 b4 b5
 simp only [List.length_append]
 have l1 := h.l1
 have l2 := h.l2
 have l4 := h.l3
 simp only [List.length_cons, List.length_nil] at b1
 omega
theorem nd_app {α} {l : List α} {a : α} (h : l.Nodup) (ha : a ∉ l) : (l ++ [a]).Nodup := by
 rw [List.nodup_append]
 refine ⟨h, by simp, fun x hx y hy => ?_⟩
 rw [List.mem_singleton.1 hy]
 exact fun e => ha (e ▸ hx)
theorem mem_app1 {α} {p : α → Prop} {l : List α} {a : α} (h : ∀ x ∈ l, p x) (ha : p a) : ∀ x ∈ l ++ [a], p x := by
 intro x hx
 rcases List.mem_append.1 hx with h1 | h1
 ·exact h x h1
 ·rw [List.mem_singleton.1 h1]; exact ha
section
variable {P : Program} {n : Nat} {l : List (Nat × Value)} {S : List Nat} {w0 : World} {L : List Blk} {k : Kont} {ops : Array Oper}
structure TagC (p : Prop) : Prop where
 out : p
theorem H_run3t {i j m fuel : Nat} {listed : Array Bool} {Lb : List Blk} {o o' o'' : Oper} (hi : ops[i]? = some o) (hj : ops[j]? = some o') (hm : ops[m]? = some o'') (hr : Region.ready .any ops listed = [i, j, m]) (h : TagA (G n l S w0 L (K1 P ops k o (KHS P S w0 Lb ops k fuel (listed.setIfInBounds i true)))))
  (h' : TagB (G n l S w0 L (K1 P ops k o' (KHS P S w0 Lb ops k fuel (listed.setIfInBounds j true))))) (h'' : TagC (G n l S w0 L (K1 P ops k o'' (KHS P S w0 Lb ops k fuel (listed.setIfInBounds m true))))) : G n l S w0 L (KH P S w0 Lb ops k (fuel + 1) listed) := .mk fun a w hF H => by
 refine ⟨wpAnyH_all hr (by simp) fun q hq => ?_⟩
 rcases (show q = i ∨ q = j ∨ q = m by simpa using hq) with rfl | rfl | rfl
 ·have hh := (h.out.out a w hF H).out
  unfold wpOp
  simp only [hi]
  split
  ·rename_i hw; rw [if_pos hw] at hh; exact .inl (Oper.wp_mono (fun _ _ h => ⟨h.out.1, h.out.2.out⟩) hh)
  ·rename_i hw; rw [if_neg hw] at hh; exact ⟨hh.out.1, hh.out.2.out⟩
 ·have hh := (h'.out.out a w hF H).out
  unfold wpOp
  simp only [hj]
  split
  ·rename_i hw; rw [if_pos hw] at hh; exact .inl (Oper.wp_mono (fun _ _ h => ⟨h.out.1, h.out.2.out⟩) hh)
  ·rename_i hw; rw [if_neg hw] at hh; exact ⟨hh.out.1, hh.out.2.out⟩
 ·have hh := (h''.out.out a w hF H).out
  unfold wpOp
  simp only [hm]
  split
  ·rename_i hw; rw [if_pos hw] at hh; exact .inl (Oper.wp_mono (fun _ _ h => ⟨h.out.1, h.out.2.out⟩) hh)
  ·rename_i hw; rw [if_neg hw] at hh; exact ⟨hh.out.1, hh.out.2.out⟩
end
abbrev AT10 : ByteArray := ⟨#[112, 111, 108, 105, 99, 121, 32, 112, 10, 100, 101, 102, 97, 117, 108, 116, 32, 97, 108, 108, 111, 119, 10, 99, 97, 108, 108, 32, 119, 114, 105, 116, 101, 32, 107, 105, 108, 108, 10]⟩
theorem at10_pol : polF (lB AT10) = (⟨[112], 2147418112, [⟨1, 2147483648, []⟩], 0, [], []⟩, (0, 0, 0)) := by kernel_rfl
theorem RulsR.inv {rs : List RulP} {cz : List Value} {ec : List Blk} (h : RulsR rs cz ec) : (rs = [] ∧ cz = [] ∧ ec = []) ∨ ∃ rs' cz' ec' r v e, rs = rs' ++ [r] ∧ cz = cz' ++ [.int .u32 r.num, .int .u32 r.act, v] ∧ ec = e ++ ec' ∧ RulsR rs' cz' ec' ∧ Own 99 4 v r.conds.length (cndC r.conds) e := by
 cases h with
 | nil => exact Or.inl ⟨rfl, rfl, rfl⟩
 | snoc h1 h2 => exact Or.inr ⟨_, _, _, _, _, _, rfl, rfl, rfl, h1, h2⟩
theorem rules_one {r : RulP} {cz : List Value} {ec : List Blk} (h : RulsR [r] cz ec) : ∃ v, cz = [.int .u32 r.num, .int .u32 r.act, v] := by
 rcases h.inv with ⟨h1, -⟩ | ⟨rs', cz', ec', r', v, e, h1, h2, -, h3, -⟩
 ·cases h1
 ·have hl := congrArg List.length h1
  rw [List.length_append] at hl
  obtain rfl : rs' = [] := List.eq_nil_of_length_eq_zero (by simpa using hl)
  injection h1 with h4 h5
  subst h4
  rcases h3.inv with ⟨-, h6, -⟩ | ⟨rs2, cz2, ec2, r2, v2, e2, h6, -⟩
  ·exact ⟨v, by rw [h2, h6]; rfl⟩
  ·have hl := congrArg List.length h6
   rw [List.length_append] at hl
   simp at hl
theorem pw10_c {S w0 L} (pb ct rb : Nat) : Fn Tryz.prog 10 #[.pointer (some ⟨pb, 0, none⟩), .string AT10] S w0 (prB pb ct rb :: tbl0 ct 0 0 :: Rg.wrd0 rb :: L) fun v L' => ∃ g cap cur p1 p2 p3 q1 q2 q3,
  v = h2y [.agg #[.string ⟨#[112]⟩, .int .u32 2147418112, .slice (some ⟨g, 0, none⟩) 1 cap, .int .u16 0, .slice p1 p2 p3, .slice q1 q2 q3], .agg #[.int .i64 0, .int .i64 0, .int .i64 0]] ∧ 3 ≤ cur.size ∧ cur.toList[0]? = some (.int .u32 1) ∧ cur.toList[1]? = some (.int .u32 2147483648) ∧ ⟨true, g, .cells cur 73 (0, 0)⟩ :: L = L' := by
 refine (parse_c (S:=S) (w0:=w0) pb ct rb 0 L (tbl0 ct 0 0 :: Rg.wrd0 rb :: L) (by omega) ⟨0, 0, none, rfl⟩ AT10 (by decide)).mono ?_
 rintro v L' ⟨d, m', T', rfl, hd, -, ⟨m1, m2, o, rfl⟩, rfl⟩
 rw [at10_pol] at hd ⊢
 obtain ⟨r1, r3, p1, p3, q1, q3, e1, e2, e3⟩ := hd.sl
 obtain ⟨vc, hcz⟩ := rules_one hd.rs
 rcases h3i hd.vr with ⟨h1, h0, -, -⟩ | ⟨g, cap, cur, h1, h2, h3, h4, h5, h6⟩
 ·cases h0
 ·rw [hcz] at h6
  have h7 : ∀ i : Nat, i < 3 → cur.toList[i]? = [Value.int .u32 1, .int .u32 2147483648, vc][i]? := by
   intro i hi
   have h8 : (cur.toList.take 3)[i]? = [Value.int .u32 1, .int .u32 2147483648, vc][i]? := by
    show (cur.toList.take (1 * 3))[i]? = _
    rw [show (1 : Nat) = ([⟨1, 2147483648, []⟩] : List RulP).length from rfl, h6]
   rw [← h8, List.getElem?_take_of_lt hi]
  have h9 : ([⟨1, 2147483648, []⟩] : List RulP).length = 1 := rfl
  rw [h9] at h3
  refine ⟨_, ⟨g, cap, cur, p1, _, p3, q1, _, q3, by rw [h1, e2, e3]; rfl, by omega, h7 0 (by omega), h7 1 (by omega), rfl⟩, fun w H => ?_⟩
  unfold PoD.blocks at H
  rw [h2] at H
  refine H.sub (List.Sublist.cons _ ?_)
  simp only [List.cons_append, List.nil_append]
  refine List.Sublist.cons_cons _ ?_
  simp only [← List.append_assoc]
  exact List.sublist_append_right _ _
theorem awake10_c {S w0 L} : Fn Tryz.prog 8 #[] S w0 L fun v L' => v = .bool true ∧ L = L' := by
 have hp := fun (L : List Blk) (pb ct rb : Nat) => pw10_c (S:=S) (w0:=w0) (L:=L) pb ct rb
 refine Fn0 Tryz.func8 Tryz.ntmps8 rfl ?_
 repeat' (first | refine h0p ?_ | refine h0e ?_ | refine h1h ?_ | (refine gR 0 (p_a (h:=h0d ?_))) | (refine gR 1 ?_ <;> (try refine h0f ?_; (refine q_c 9 (c:=by apply new_q) (h:=?_); rintro _ _ ⟨pb, ct, rb, rfl, rfl⟩; (try simp only [zzE, zzF]))) <;> (try refine h0f ?_; (refine q_c 10 (c:=by apply hp) (h:=?_); rintro _ _ ⟨g, cap, cur, p1, p2, p3, q1, q2, q3, rfl, hsz, h0, h1, rfl⟩; (try simp only [zzE, zzF]))) <;> (try refine p_m (h:=p_x (h:=q_x ?_))) <;> (try refine h0f ?_; (refine h0i (t:=36) rfl Tryz.zeroValue36 ?_; intro nb hnb; (try simp only [Value.cells]))) <;> (try refine h0f ?_; (refine h0i (t:=25) rfl Tryz.zeroValue25 ?_; intro nb hnb; (try simp only [Value.cells]))) <;> (try refine h0f ?_; (refine q_W ?_)) <;> (try refine h0f ?_; (refine q_W ?_)) <;> (try refine h0d ?_)) | (refine gR 2 (q_e (q_L h3z) ?_) <;> (try refine q_e (by exact h0s (t:=25) (fun vs => (match vs with | [] => [Value.int .i64 0, Value.int .i64 0, Value.int .i64 0] | _ => [])) rfl (fun w => by kernel_rfl)) ?_; (try simp only [Value.cells]); (try simp only [zzC, zzN])) <;> (try refine p_e (by apply h1s (op:=.eql) (t:=25); exact rfl; exact rfl; kernel_rfl; (apply rb_eql_agg Tryz.underlying25 (by kernel_rfl); apply EqF.int; (focus (simp)); exact Tryz.underlying3; exact rfl; exact rfl; exact rfl; apply EqF.int; (focus (simp)); exact Tryz.underlying3; exact rfl; exact rfl; exact rfl; exact EqF.int1 (by simp) Tryz.underlying23 rfl rfl rfl)) (h:=p_m (h:=p_y (q_f fo_36_0) (h:=p_y q_l (h:=p_y (q_b (r:=by exact h2l)) (h:=p_p (h:=p_m (h:=p_y (q_f fo_36_1) (h:=q_y q_l ?_))))))))) <;> (try refine q_y (by exact q_b (r:=by refine h1i ?_; first | rfl | (with_reducible assumption) | (decide; done) | omega)) ?_) <;> (try refine p_p (h:=p_m (h:=p_y (q_f h3s) (h:=p_y q_l (h:=q_y (by apply h0g; exact rfl; exact (fun _ => BigFrame.builtin_len ..); apply h0k Tryz.underlying30; exact h4y) ?_))))) <;> (try refine q_y (by exact q_b (r:=by refine h1i ?_; first | rfl | (with_reducible assumption) | (decide; done) | omega)) ?_) <;> (try refine p_p (h:=p_m (h:=p_y (q_f h3s) (h:=p_y q_l (h:=p_y (by apply h0n; exact rfl; exact rfl; (focus (apply h3e Tryz.underlying30 sz_73; omega; omega; exact c_1))) (h:=p_y (q_f fo_73_0) (h:=q_y (by apply h1l (t:=28); exact rfl; exact h3n; kernel_rfl; kernel_rfl; (with_reducible assumption)) ?_))))))) <;> (try refine q_y (by exact q_b (r:=by refine h1i ?_; first | rfl | (with_reducible assumption) | (decide; done) | omega)) ?_) <;> (try refine p_p (h:=p_m (h:=p_y (q_f h3s) (h:=p_y q_l (h:=p_y (by apply h0n; exact rfl; exact rfl; (focus (apply h3e Tryz.underlying30 sz_73; omega; omega; exact c_1))) (h:=p_y (q_f fo_73_1) (h:=q_y (by apply h1l (t:=29); exact rfl; exact h3n; kernel_rfl; kernel_rfl; (with_reducible assumption)) ?_))))))) <;> (try refine q_y (by exact q_b (r:=by refine h1i ?_; first | rfl | (with_reducible assumption) | (decide; done) | omega)) ?_) <;> (try refine p_p (h:=p_a (h:=h0d ?_)))))
 (refine h0v Tryz.results8 (.tmp rfl .nil) ?_)
 exact ⟨_, ⟨rfl, rfl⟩, by intro w H; refine H.sub ?_; (try simp only [zzC, zzN]); repeat (first | exact List.Sublist.refl _ | refine List.Sublist.cons _ ?_)⟩
theorem RulsG.snoc {L : List Blk} {v : Value} {r : GRul} : ∀ {rs : List GRul} {cz : List Value}, RulsG L rs cz → CndS L v r.conds → RulsG L (rs ++ [r]) (cz ++ [.int .u32 r.num, .int .u32 r.act, v])
 | [], cz, h, hc => by
  obtain rfl : cz = [] := h
  exact ⟨v, [], rfl, hc, rfl⟩
 | _ :: _, _, ⟨v2, cz', h1, h2, h3⟩, hc => ⟨v2, _, by rw [h1]; rfl, h2, RulsG.snoc h3 hc⟩
theorem RulsR.g {rs : List RulP} {cz : List Value} {ec : List Blk} (h : RulsR rs cz ec) (hl : ∀ r ∈ rs, r.conds.length ≤ maxLen) : RulsG ec (rs.map RulP.g) cz := by
 induction h with
 | nil => rfl
 | @snoc rs cz ec r v e _ ho ih =>
  rw [List.map_append]
  obtain ⟨a, c, hv, hs⟩ := ho.sli ec
  refine RulsG.snoc (RulsG.upA e (ih fun q hq => hl q (List.mem_append_left _ hq))) ?_
  refine ⟨a, c, ?_, ?_, ?_⟩
  ·show v = .slice a (r.conds.map Cnd.g).length c
   rw [List.length_map]; exact hv
  ·show Sli (e ++ ec) a (r.conds.map Cnd.g).length 4 (gcC (r.conds.map Cnd.g))
   rw [List.length_map, gcC_map]; exact hs
  ·show (r.conds.map Cnd.g).length ≤ maxLen
   rw [List.length_map]; exact hl r (List.mem_append_right _ (List.mem_singleton.2 rfl))
theorem PoD.ok.polS {d : PoD} {P : Pol} (h : d.ok P) (hl : ∀ r ∈ P.rules, r.conds.length ≤ maxLen) : PolS d.blocks P.g d.vr d.vp d.vq := by
 obtain ⟨r1, r2, e1, s1⟩ := h.vr.sli (d.ep ++ (d.eq ++ d.ec))
 obtain ⟨p1, p2, e2, s2⟩ := h.vp.sli (d.eq ++ d.ec)
 obtain ⟨q1, q2, e3, s3⟩ := h.vq.sli d.ec
 have g := RulsR.g h.rs hl
 have hm : (1000 : Nat) ≤ maxLen := by unfold maxLen; omega
 have elr : P.g.rules.length = P.rules.length := List.length_map ..
 refine ⟨⟨r1, r2, d.cz, by rw [elr]; exact e1, by rw [elr]; exact s1, ((g.upA d.eq).upA d.ep).upA d.er⟩, ⟨p1, p2, e2, s2.upA d.er⟩, ⟨q1, q2, e3, (s3.upA d.ep).upA d.er⟩, ?_, ?_, ?_⟩
 ·rw [elr]; have := h.l1; omega
 ·show P.paths.length ≤ maxLen
  have := h.l2; omega
 ·show P.ports.length ≤ maxLen
  have := h.l3; omega
theorem akind_c {S w0 L} (a : Int) (h : 0 ≤ a ∧ a < 4294967296) : Fn Tryz.prog 59 #[.int .u32 a] S w0 L fun v L' => v = .int .u32 (kndA a) ∧ L = L' := by
 have h8 := iandn_le a 65535 h.1
 have hj : kndA a = if h6b a 65535 = 327680 ∨ h6b a 65535 = 2147221504 ∨ h6b a 65535 = 2147418112 then h6b a 65535 else 2147483648 := rfl
 rw [hj]
 clear hj
 by_cases c1 : h6b a 65535 = 327680
 ·rw [if_pos (Or.inl c1)]
  refine Fn1 Tryz.func59 Tryz.ntmps59 rfl rfl ?_
  repeat' (first | refine h0p ?_ | refine h0e ?_ | refine h1f ?_ | refine h2p ?_ | refine h0r ?_ | refine h0u ?_ | refine h1h ?_ | refine h0j rfl ?_ | (refine gR 0 (p_a (h:=h0d ?_))) | (refine gR 1 (q_m ?_) <;> (try refine q_e (q_b (r:=by refine rb_andn ?_ ?_; (focus (refine ⟨rfl, ⟨?_, ?_⟩⟩; omega; (focus (simp only [IntKind.bits]; omega)))); (focus (refine ⟨rfl, ⟨?_, ?_⟩⟩; omega; (focus (simp only [IntKind.bits]; omega)))))) ?_) <;> (try refine p_a (h:=h0d ?_))) | (refine gR 2 (p_m (h:=h0d ?_))) | (refine gR 3 ?_ <;> (try refine q_e (by exact q_b (r:=by refine h1i ?_; first | rfl | (with_reducible assumption) | (decide; done) | omega)) ?_) <;> (try refine p_a (h:=h0d ?_))) | (refine gR 6 (p_m (h:=p_a (h:=h0d ?_)))))
  (refine h0v Tryz.results59 (.tmp rfl .nil) ?_)
  exact ⟨_, ⟨rfl, rfl⟩, by intro w H; refine H.sub ?_; (try simp only [zzC, zzN]); repeat (exact List.Sublist.refl _)⟩
 by_cases c2 : h6b a 65535 = 2147221504
 ·rw [if_pos (Or.inr (Or.inl c2))]
  refine Fn1 Tryz.func59 Tryz.ntmps59 rfl rfl ?_
  repeat' (first | refine h0p ?_ | refine h0e ?_ | refine h1f ?_ | refine h2p ?_ | refine h0r ?_ | refine h0u ?_ | refine h1h ?_ | refine h0j rfl ?_ | refine h0h rfl ?_ | (refine gR 0 (p_a (h:=h0d ?_))) | (refine gR 1 (q_m ?_) <;> (try refine q_e (q_b (r:=by refine rb_andn ?_ ?_; (focus (refine ⟨rfl, ⟨?_, ?_⟩⟩; omega; (focus (simp only [IntKind.bits]; omega)))); (focus (refine ⟨rfl, ⟨?_, ?_⟩⟩; omega; (focus (simp only [IntKind.bits]; omega)))))) ?_) <;> (try refine p_a (h:=h0d ?_))) | (refine gR 2 (p_m (h:=h0d ?_))) | (refine gR 3 (p_e (q_b (r:=by exact h1o q_o)) (h:=p_a (h:=h0d ?_)))) | (refine gR 4 ?_ <;> (try refine q_e (by exact q_b (r:=by refine h1i ?_; first | rfl | (with_reducible assumption) | (decide; done) | omega)) ?_) <;> (try refine p_a (h:=h0d ?_))) | (refine gR 6 (p_m (h:=p_a (h:=h0d ?_)))))
  (refine h0v Tryz.results59 (.tmp rfl .nil) ?_)
  exact ⟨_, ⟨rfl, rfl⟩, by intro w H; refine H.sub ?_; (try simp only [zzC, zzN]); repeat (exact List.Sublist.refl _)⟩
 by_cases c3 : h6b a 65535 = 2147418112
 ·rw [if_pos (Or.inr (Or.inr c3))]
  refine Fn1 Tryz.func59 Tryz.ntmps59 rfl rfl ?_
  repeat' (first | refine h0p ?_ | refine h0e ?_ | refine h1f ?_ | refine h2p ?_ | refine h0r ?_ | refine h1h ?_ | refine h0j rfl ?_ | refine h0h rfl ?_ | (refine gR 0 (p_a (h:=h0d ?_))) | (refine gR 1 (q_m ?_) <;> (try refine q_e (q_b (r:=by refine rb_andn ?_ ?_; (focus (refine ⟨rfl, ⟨?_, ?_⟩⟩; omega; (focus (simp only [IntKind.bits]; omega)))); (focus (refine ⟨rfl, ⟨?_, ?_⟩⟩; omega; (focus (simp only [IntKind.bits]; omega)))))) ?_) <;> (try refine p_a (h:=h0d ?_))) | (refine gR 2 (p_m (h:=h0d ?_))) | (refine gR 3 (p_e (q_b (r:=by exact h1o q_o)) (h:=p_a (h:=h0d ?_)))) | (refine gR 4 (p_e (q_b (r:=by exact h1o q_o)) (h:=p_a (h:=h0d ?_)))) | (refine gR 5 ?_ <;> (try refine q_e (by exact q_b (r:=by refine h1i ?_; first | rfl | (with_reducible assumption) | (decide; done) | omega)) ?_) <;> (try refine p_a (h:=h0d ?_))) | (refine gR 6 (p_m (h:=p_a (h:=h0d ?_)))))
  (refine h0v Tryz.results59 (.tmp rfl .nil) ?_)
  exact ⟨_, ⟨rfl, rfl⟩, by intro w H; refine H.sub ?_; (try simp only [zzC, zzN]); repeat (exact List.Sublist.refl _)⟩
 rw [if_neg (fun h => h.elim c1 (fun h => h.elim c2 c3))]
 refine Fn1 Tryz.func59 Tryz.ntmps59 rfl rfl ?_
 repeat' (first | refine h0p ?_ | refine h0e ?_ | refine h0x ?_ | refine h0r ?_ | refine h0u ?_ | refine h1h ?_ | refine h0h rfl ?_ | (refine gR 0 (p_a (h:=h0d ?_))) | (refine gR 1 (q_m ?_) <;> (try refine q_e (q_b (r:=by refine rb_andn ?_ ?_; (focus (refine ⟨rfl, ⟨?_, ?_⟩⟩; omega; (focus (simp only [IntKind.bits]; omega)))); (focus (refine ⟨rfl, ⟨?_, ?_⟩⟩; omega; (focus (simp only [IntKind.bits]; omega)))))) ?_) <;> (try refine p_a (h:=h0d ?_))) | (refine gR 2 (p_m (h:=h0d ?_))) | (refine gR 3 (p_e (q_b (r:=by exact h1o q_o)) (h:=p_a (h:=h0d ?_)))) | (refine gR 4 (p_e (q_b (r:=by exact h1o q_o)) (h:=p_a (h:=h0d ?_)))) | (refine gR 5 (p_e (q_b (r:=by exact h1o q_o)) (h:=p_a (h:=h0d ?_)))) | (refine gR 7 (p_a (h:=h0d ?_))))
 (refine h0v Tryz.results59 (.tmp rfl .nil) ?_)
 exact ⟨_, ⟨rfl, rfl⟩, by intro w H; refine H.sub ?_; (try simp only [zzC, zzN]); repeat (exact List.Sublist.refl _)⟩
theorem numS_c {S w0} (e L : List Blk) (b m1 m2 n : Nat) (hn : n ≤ 100000) (s : Int) : Fn Tryz.prog 31 #[.pointer (some ⟨b, 0, none⟩), .int .u32 s] S w0 (e ++ (tbS b m1 m2 n ++ L)) fun v L' => ∃ m1' m2', v = gotV (h5x s clls) ∧ e ++ (tbS b m1' m2' (n + 1) ++ L) = L' := by
 have hsw : ∀ (A B : List Blk) w, HP S w0 w (A ++ (B ++ L)) → HP S w0 w (B ++ (A ++ L)) := fun A B w H => H.perm (List.perm_append_comm_assoc A B L)
 cases n with
 | zero =>
  refine Fn.weak (hsw e _) ((numbered0_c (S:=S) (w0:=w0) (L:=e ++ L) b 0 0 (by omega) (by omega) s).mono ?_)
  rintro v L' ⟨x, y, rfl, rfl⟩
  exact ⟨_, ⟨x, y, rfl, rfl⟩, fun w H => hsw (tbS b x y 1) e w H⟩
 | succ n =>
  refine Fn.weak (hsw e _) ?_
  rw [tbS_succ]
  refine (numbered1_c (S:=S) (w0:=w0) (L:=e ++ L) b m1 m2 _ 1 (by omega) s).mono ?_
  rintro v L' ⟨rfl, rfl⟩
  refine ⟨_, ⟨m1, m2, rfl, rfl⟩, fun w H => hsw _ e w ?_⟩
  rw [tbS_succ, Int.natCast_add, Int.natCast_one]
  exact H
theorem pthC_at (ps : List (List UInt8 × Nat)) (k : Nat) (h : k < ps.length) : ((pthC ps).drop (k * 2)).take 2 = [.string (mB8 ps[k].1), .int .u16 (ps[k].2 : Nat)] := by
 induction ps generalizing k with
 | nil => simp at h
 | cons c r ih =>
  cases k with
  | zero => rfl
  | succ k =>
   rw [show (k + 1) * 2 = k * 2 + 2 by omega]
   exact ih k (by simpa using h)
theorem porC_at (ps : List (Nat × Nat)) (k : Nat) (h : k < ps.length) : ((porC ps).drop (k * 2)).take 2 = [.int .u16 (ps[k].1 : Nat), .int .u16 (ps[k].2 : Nat)] := by
 induction ps generalizing k with
 | nil => simp at h
 | cons c r ih =>
  cases k with
  | zero => rfl
  | succ k =>
   rw [show (k + 1) * 2 = k * 2 + 2 by omega]
   exact ih k (by simpa using h)
theorem ne_paths (a : ByteArray) (b : Int) : RBin Tryz.prog .neq 104 (.agg #[.string a, .int .u16 b]) (.agg #[.string a, .int .u16 b]) (.bool false) := by
 apply RBin.mk
 intro w
 go_simp
set_option maxHeartbeats 1000000 in
theorem same_paths {S w0 L} (ps : List (List UInt8 × Nat)) (n : Nat) (hn : n = ps.length) (a1 a2 : Option Addr) (c1 c2 : Nat) (hl : ps.length ≤ maxLen) (s1 : Sli L a1 ps.length 2 (pthC ps)) (s2 : Sli L a2 ps.length 2 (pthC ps)) :
  Fn Tryz.prog 37 #[.slice a1 n c1, .slice a2 n c2] S w0 L fun v L' => v = .bool true ∧ L = L' := by
 subst hn
 unfold maxLen at hl
 refine Fn2 Tryz.func37 Tryz.ntmps37 rfl rfl ?_
 repeat' (first | (refine h2r (id:=0) ?_) | refine h0p ?_ | refine h0e ?_ | (refine gR 0 (p_a (h:=h0d ?_))) | (refine gR 1 (p_m (h:=p_e (by apply h0g; exact rfl; exact (fun _ => BigFrame.builtin_len ..); apply h0k Tryz.underlying33; exact h4y) (h:=p_m (h:=h0d ?_))))))
 refine ⟨?_⟩
 refine h0r ?_
 refine h2s (γ:=Nat) (fun k => k ≤ ps.length) (fun k => ps.length - k) (fun k => [(9, .int .i64 (k : Nat))]) [(1, _), (7, _), (8, _)] (fun _ => L) 0 (.cons rfl (.cons rfl (.cons rfl .nil))) (Nat.zero_le _) (by (focus (repeat (first | exact Sub.nil | refine Sub.cons rfl ?_)))) (fun _ H => H) ?_
 intro k hk
 simp only [List.cons_append, List.nil_append]
 by_cases hlt : k < ps.length
 ·obtain ⟨j, q, bb, off, cs, T, fr, rfl, hj, hsz, hx⟩ := s1.elem hlt
  obtain ⟨j2, q2, bb2, off2, cs2, T2, fr2, rfl, hj2, hsz2, hx2⟩ := s2.elem hlt
  rw [pthC_at _ _ hlt] at hx hx2
  generalize ps[k] = p at *
  obtain ⟨pt, pr⟩ := p
  try dsimp only at *
  have hne := ne_paths (mB8 pt) (pr : Nat)
  repeat' (first | refine h0p ?_ | refine h0e ?_ | refine h0t ?_ | refine h0x ?_ | refine h0r ?_ | refine h0u ?_ | refine h0j rfl ?_ | refine h0h rfl ?_ | (refine gR 2 (p_e (q_b (r:=by exact h1d q_o)) (h:=h0d ?_))) | (refine gR 3 (p_m (h:=p_e (by apply h0n; exact rfl; exact rfl; (focus (apply h3e Tryz.underlying33 sz_104; omega; omega; exact c_1))) (h:=q_e (by apply h3p (t:=104); exact rfl; exact c_20; kernel_rfl; kernel_rfl; exact sz_104; (with_reducible assumption); (with_reducible assumption)) ?_))) <;> (try refine h0f ?_; (refine h0i (t:=104) rfl Tryz.zeroValue104 ?_; intro nb hnb; (try simp only [Value.cells]))) <;> (try refine q_a ?_) <;> (try refine h0f ?_; (refine q_W ?_)) <;> (try refine h0d ?_)) | ((refine h2q (id:=4) (m:=6) (by kernel_rfl) rfl (q_u 0 (x:=by exact q_L sz_104) (h:=q_u 1 (x:=by exact h0m rfl) (h:=q_u 2 (x:=by exact h0m rfl) (h:=q_u 3 (x:=by apply h0n; exact rfl; exact rfl; (focus (apply h3e Tryz.underlying33 sz_104; omega; omega; exact c_1))) (h:=q_u 4 (x:=by apply h3p (t:=104); exact rfl; exact c_18; kernel_rfl; kernel_rfl; exact sz_104; (with_reducible assumption); (with_reducible assumption)) (h:=q_u 5 (x:=by apply h1s (op:=.neq) (t:=104); exact rfl; exact rfl; kernel_rfl; (with_reducible assumption)) (h:=h1e (by kernel_rfl) ?_))))))))) | (refine gR 6 ?_ <;> (try refine q_e (q_b (r:=by apply h1r; exact c_5; (focus (refine IntWalk.i64_in _ ?_; omega)))) ?_) <;> (try refine p_m (h:=h0d ?_))))
  exact h0w (k + 1) ⟨by show k + 1 ≤ ps.length; omega, by show ps.length - (k + 1) < ps.length - k; omega⟩ (by (focus (repeat (first | exact Sub.nil | refine Sub.cons rfl ?_)))) (fun _ H => H.tail)
 ·repeat' (first | refine h0p ?_ | refine h0e ?_ | refine h1u ?_ | refine h1n ?_ | refine h1v ?_ | refine h2o ?_ | refine h1h ?_ | refine h0h rfl ?_ | (refine gR 2 (p_e (q_b (r:=by exact h1j q_o)) (h:=h0d ?_))) | (refine gR 7 (p_a (h:=h0d ?_))))
  (refine h0v Tryz.results37 (.tmp rfl .nil) ?_)
  exact ⟨_, ⟨rfl, rfl⟩, by intro w H; refine H.sub ?_; (try simp only [zzC, zzN]); repeat (exact List.Sublist.refl _)⟩
theorem ne_ports (a : Int) (b : Int) : RBin Tryz.prog .neq 106 (.agg #[.int .u16 a, .int .u16 b]) (.agg #[.int .u16 a, .int .u16 b]) (.bool false) := by
 apply RBin.mk
 intro w
 go_simp
set_option maxHeartbeats 1000000 in
theorem same_ports {S w0 L} (ps : List (Nat × Nat)) (n : Nat) (hn : n = ps.length) (a1 a2 : Option Addr) (c1 c2 : Nat) (hl : ps.length ≤ maxLen) (s1 : Sli L a1 ps.length 2 (porC ps)) (s2 : Sli L a2 ps.length 2 (porC ps)) :
  Fn Tryz.prog 38 #[.slice a1 n c1, .slice a2 n c2] S w0 L fun v L' => v = .bool true ∧ L = L' := by
 subst hn
 unfold maxLen at hl
 refine Fn2 Tryz.func38 Tryz.ntmps38 rfl rfl ?_
 repeat' (first | (refine h2r (id:=0) ?_) | refine h0p ?_ | refine h0e ?_ | (refine gR 0 (p_a (h:=h0d ?_))) | (refine gR 1 (p_m (h:=p_e (by apply h0g; exact rfl; exact (fun _ => BigFrame.builtin_len ..); apply h0k Tryz.underlying34; exact h4y) (h:=p_m (h:=h0d ?_))))))
 refine ⟨?_⟩
 refine h0r ?_
 refine h2s (γ:=Nat) (fun k => k ≤ ps.length) (fun k => ps.length - k) (fun k => [(9, .int .i64 (k : Nat))]) [(1, _), (7, _), (8, _)] (fun _ => L) 0 (.cons rfl (.cons rfl (.cons rfl .nil))) (Nat.zero_le _) (by (focus (repeat (first | exact Sub.nil | refine Sub.cons rfl ?_)))) (fun _ H => H) ?_
 intro k hk
 simp only [List.cons_append, List.nil_append]
 by_cases hlt : k < ps.length
 ·obtain ⟨j, q, bb, off, cs, T, fr, rfl, hj, hsz, hx⟩ := s1.elem hlt
  obtain ⟨j2, q2, bb2, off2, cs2, T2, fr2, rfl, hj2, hsz2, hx2⟩ := s2.elem hlt
  rw [porC_at _ _ hlt] at hx hx2
  generalize ps[k] = p at *
  obtain ⟨pt, pr⟩ := p
  try dsimp only at *
  have hne := ne_ports (pt : Nat) (pr : Nat)
  repeat' (first | refine h0p ?_ | refine h0e ?_ | refine h0t ?_ | refine h0x ?_ | refine h0r ?_ | refine h0u ?_ | refine h0j rfl ?_ | refine h0h rfl ?_ | (refine gR 2 (p_e (q_b (r:=by exact h1d q_o)) (h:=h0d ?_))) | (refine gR 3 (p_m (h:=p_e (by apply h0n; exact rfl; exact rfl; (focus (apply h3e Tryz.underlying34 sz_106; omega; omega; exact c_1))) (h:=q_e (by apply h3p (t:=106); exact rfl; exact c_20; kernel_rfl; kernel_rfl; exact sz_106; (with_reducible assumption); (with_reducible assumption)) ?_))) <;> (try refine h0f ?_; (refine h0i (t:=106) rfl Tryz.zeroValue106 ?_; intro nb hnb; (try simp only [Value.cells]))) <;> (try refine q_a ?_) <;> (try refine h0f ?_; (refine q_W ?_)) <;> (try refine h0d ?_)) | ((refine h2q (id:=4) (m:=6) (by kernel_rfl) rfl (q_u 0 (x:=by exact q_L sz_106) (h:=q_u 1 (x:=by exact h0m rfl) (h:=q_u 2 (x:=by exact h0m rfl) (h:=q_u 3 (x:=by apply h0n; exact rfl; exact rfl; (focus (apply h3e Tryz.underlying34 sz_106; omega; omega; exact c_1))) (h:=q_u 4 (x:=by apply h3p (t:=106); exact rfl; exact c_18; kernel_rfl; kernel_rfl; exact sz_106; (with_reducible assumption); (with_reducible assumption)) (h:=q_u 5 (x:=by apply h1s (op:=.neq) (t:=106); exact rfl; exact rfl; kernel_rfl; (with_reducible assumption)) (h:=h1e (by kernel_rfl) ?_))))))))) | (refine gR 6 ?_ <;> (try refine q_e (q_b (r:=by apply h1r; exact c_5; (focus (refine IntWalk.i64_in _ ?_; omega)))) ?_) <;> (try refine p_m (h:=h0d ?_))))
  exact h0w (k + 1) ⟨by show k + 1 ≤ ps.length; omega, by show ps.length - (k + 1) < ps.length - k; omega⟩ (by (focus (repeat (first | exact Sub.nil | refine Sub.cons rfl ?_)))) (fun _ H => H.tail)
 ·repeat' (first | refine h0p ?_ | refine h0e ?_ | refine h1u ?_ | refine h1n ?_ | refine h1v ?_ | refine h2o ?_ | refine h1h ?_ | refine h0h rfl ?_ | (refine gR 2 (p_e (q_b (r:=by exact h1j q_o)) (h:=h0d ?_))) | (refine gR 7 (p_a (h:=h0d ?_))))
  (refine h0v Tryz.results38 (.tmp rfl .nil) ?_)
  exact ⟨_, ⟨rfl, rfl⟩, by intro w H; refine H.sub ?_; (try simp only [zzC, zzN]); repeat (exact List.Sublist.refl _)⟩
theorem ne_conds (a b c d : Int) : RBin Tryz.prog .neq 99 (.agg #[.int .i64 a, .int .u8 b, .int .u64 c, .int .u64 d]) (.agg #[.int .i64 a, .int .u8 b, .int .u64 c, .int .u64 d]) (.bool false) := by
 apply RBin.mk
 intro w
 go_simp
set_option maxHeartbeats 1000000 in
theorem same_conds {S w0 L} (ps : List (GCnd)) (n : Nat) (hn : n = ps.length) (a1 a2 : Option Addr) (c1 c2 : Nat) (hl : ps.length ≤ maxLen) (s1 : Sli L a1 ps.length 4 (gcC ps)) (s2 : Sli L a2 ps.length 4 (gcC ps)) :
  Fn Tryz.prog 64 #[.slice a1 n c1, .slice a2 n c2] S w0 L fun v L' => v = .bool true ∧ L = L' := by
 subst hn
 unfold maxLen at hl
 refine Fn2 Tryz.func64 Tryz.ntmps64 rfl rfl ?_
 repeat' (first | (refine h2r (id:=0) ?_) | refine h0p ?_ | refine h0e ?_ | (refine gR 0 (p_a (h:=h0d ?_))) | (refine gR 1 (p_m (h:=p_e (by apply h0g; exact rfl; exact (fun _ => BigFrame.builtin_len ..); apply h0k Tryz.underlying71; exact h4y) (h:=p_m (h:=h0d ?_))))))
 refine ⟨?_⟩
 refine h0r ?_
 refine h2s (γ:=Nat) (fun k => k ≤ ps.length) (fun k => ps.length - k) (fun k => [(9, .int .i64 (k : Nat))]) [(1, _), (7, _), (8, _)] (fun _ => L) 0 (.cons rfl (.cons rfl (.cons rfl .nil))) (Nat.zero_le _) (by (focus (repeat (first | exact Sub.nil | refine Sub.cons rfl ?_)))) (fun _ H => H) ?_
 intro k hk
 simp only [List.cons_append, List.nil_append]
 by_cases hlt : k < ps.length
 ·obtain ⟨j, q, bb, off, cs, T, fr, rfl, hj, hsz, hx⟩ := s1.elem hlt
  obtain ⟨j2, q2, bb2, off2, cs2, T2, fr2, rfl, hj2, hsz2, hx2⟩ := s2.elem hlt
  rw [gcC_at _ _ hlt] at hx hx2
  generalize ps[k] = p at *
  obtain ⟨ca, co, cm, cv⟩ := p
  try dsimp only at *
  have hne := ne_conds ca (co : Nat) (cm : Nat) (cv : Nat)
  repeat' (first | refine h0p ?_ | refine h0e ?_ | refine h0t ?_ | refine h0x ?_ | refine h0r ?_ | refine h0u ?_ | refine h0j rfl ?_ | refine h0h rfl ?_ | (refine gR 2 (p_e (q_b (r:=by exact h1d q_o)) (h:=h0d ?_))) | (refine gR 3 (p_m (h:=p_e (by apply h0n; exact rfl; exact rfl; (focus (apply h3e Tryz.underlying71 sz_99; omega; omega; exact c_1))) (h:=q_e (by apply h3p (t:=99); exact rfl; exact c_20; kernel_rfl; kernel_rfl; exact sz_99; (with_reducible assumption); (with_reducible assumption)) ?_))) <;> (try refine h0f ?_; (refine h0i (t:=99) rfl Tryz.zeroValue99 ?_; intro nb hnb; (try simp only [Value.cells]))) <;> (try refine q_a ?_) <;> (try refine h0f ?_; (refine q_W ?_)) <;> (try refine h0d ?_)) | ((refine h2q (id:=4) (m:=6) (by kernel_rfl) rfl (q_u 0 (x:=by exact q_L sz_99) (h:=q_u 1 (x:=by exact h0m rfl) (h:=q_u 2 (x:=by exact h0m rfl) (h:=q_u 3 (x:=by apply h0n; exact rfl; exact rfl; (focus (apply h3e Tryz.underlying71 sz_99; omega; omega; exact c_1))) (h:=q_u 4 (x:=by apply h3p (t:=99); exact rfl; exact c_18; kernel_rfl; kernel_rfl; exact sz_99; (with_reducible assumption); (with_reducible assumption)) (h:=q_u 5 (x:=by apply h1s (op:=.neq) (t:=99); exact rfl; exact rfl; kernel_rfl; (with_reducible assumption)) (h:=h1e (by kernel_rfl) ?_))))))))) | (refine gR 6 ?_ <;> (try refine q_e (q_b (r:=by apply h1r; exact c_5; (focus (refine IntWalk.i64_in _ ?_; omega)))) ?_) <;> (try refine p_m (h:=h0d ?_))))
  exact h0w (k + 1) ⟨by show k + 1 ≤ ps.length; omega, by show ps.length - (k + 1) < ps.length - k; omega⟩ (by (focus (repeat (first | exact Sub.nil | refine Sub.cons rfl ?_)))) (fun _ H => H.tail)
 ·repeat' (first | refine h0p ?_ | refine h0e ?_ | refine h1u ?_ | refine h1n ?_ | refine h1v ?_ | refine h2o ?_ | refine h1h ?_ | refine h0h rfl ?_ | (refine gR 2 (p_e (q_b (r:=by exact h1j q_o)) (h:=h0d ?_))) | (refine gR 7 (p_a (h:=h0d ?_))))
  (refine h0v Tryz.results64 (.tmp rfl .nil) ?_)
  exact ⟨_, ⟨rfl, rfl⟩, by intro w H; refine H.sub ?_; (try simp only [zzC, zzN]); repeat (exact List.Sublist.refl _)⟩
theorem samerule_c {S w0 L} (num act : Int) (cs : List GCnd) (v1 v2 : Value) (h1 : CndS L v1 cs) (h2 : CndS L v2 cs) :
  Fn Tryz.prog 36 #[.agg #[.int .u32 num, .int .u32 act, v1], .agg #[.int .u32 num, .int .u32 act, v2]] S w0 L fun v L' => v = .bool true ∧ L = L' := by
 obtain ⟨a1, c1, rfl, s1, l1⟩ := h1
 obtain ⟨a2, c2, rfl, s2, -⟩ := h2
 have hs := fun (e : List Blk) => same_conds (S:=S) (w0:=w0) (L:=e ++ L) cs _ rfl a1 a2 c1 c2 l1 (s1.upA e) (s2.upA e)
 have hs2 := fun (x1 x2 : Blk) => hs [x1, x2]
 simp only [List.cons_append, List.nil_append] at hs2
 refine Fn2 Tryz.func36 Tryz.ntmps36 rfl rfl ?_
 repeat' (first | refine h0p ?_ | refine h0e ?_ | refine h0u ?_ | refine h1h ?_ | refine h0h rfl ?_ | (refine gR 0 ?_ <;> (try refine h0f ?_; (refine h5b (t:=73) rfl rfl ?_; intro nb hnb; (try simp only [Value.cells]))) <;> (try refine h0f ?_; (refine h5b (t:=73) rfl rfl ?_; intro nb hnb; (try simp only [Value.cells]))) <;> (try refine p_a (h:=h0d ?_))) | (refine gR 1 (p_e (q_f fo_73_0) (h:=p_e q_l (h:=p_e (q_f fo_73_0) (h:=q_e q_l ?_)))) <;> (try refine q_e (by exact q_b (r:=by refine h3o ?_; first | rfl | (with_reducible assumption) | (decide; done) | omega)) ?_) <;> (try refine p_m (h:=p_y (q_f fo_73_1) (h:=p_y q_l (h:=p_y (q_f fo_73_1) (h:=q_y q_l ?_))))) <;> (try refine q_y (by exact q_b (r:=by refine h3o ?_; first | rfl | (with_reducible assumption) | (decide; done) | omega)) ?_) <;> (try refine p_p (h:=p_m (h:=p_y (q_f h3f) (h:=p_y q_l (h:=p_y (by apply h0g; exact rfl; exact (fun _ => BigFrame.builtin_len ..); apply h0k Tryz.underlying71; exact h4y) (h:=p_y (q_f h3f) (h:=p_y q_l (h:=q_y (by apply h0g; exact rfl; exact (fun _ => BigFrame.builtin_len ..); apply h0k Tryz.underlying71; exact h4y) ?_)))))))) <;> (try refine q_y (by exact q_b (r:=by refine h3o ?_; first | rfl | (with_reducible assumption) | (decide; done) | omega)) ?_) <;> (try refine p_p (h:=h0d ?_))) | (refine gR 3 (p_e (q_f h3f) (h:=p_e q_l (h:=p_e (q_f h3f) (h:=q_e q_l ?_)))) <;> (try refine h0f ?_; (refine q_c 64 (c:=by apply hs2) (h:=?_); rintro _ _ ⟨rfl, rfl⟩; (try simp only [zzE, zzF]))) <;> (try refine p_a (h:=h0d ?_))))
 (refine h0v Tryz.results36 (.tmp rfl .nil) ?_)
 exact ⟨_, ⟨rfl, rfl⟩, by intro w H; refine H.sub ?_; (try simp only [zzC, zzN]); repeat (first | exact List.Sublist.refl _ | refine List.Sublist.cons _ ?_)⟩
set_option maxHeartbeats 1000000 in
theorem psame_c {S w0 L} (P : GPol) (vr vp vq ur up uq : Value) (h1 : PolS L P vr vp vq) (h2 : PolS L P ur up uq) :
  Fn Tryz.prog 14 #[.agg (polG P vr vp vq).toArray, .agg (polG P ur up uq).toArray] S w0 L fun v L' => v = .bool true ∧ L = L' := by
 obtain ⟨⟨a1, c1, z1, rfl, r1, g1⟩, ⟨a2, c2, rfl, p1⟩, ⟨a3, c3, rfl, q1⟩, l1, l2, l3⟩ := h1
 obtain ⟨⟨b1, d1, z2, rfl, r2, g2⟩, ⟨b2, d2, rfl, p2⟩, ⟨b3, d3, rfl, q2⟩, -, -, -⟩ := h2
 have hsp := fun (x1 x2 : Blk) => same_paths (S:=S) (w0:=w0) (L:=[x1, x2] ++ L) P.paths _ rfl a2 b2 c2 d2 l2 (p1.upA _) (p2.upA _)
 have hsq := fun (x1 x2 : Blk) => same_ports (S:=S) (w0:=w0) (L:=[x1, x2] ++ L) P.ports _ rfl a3 b3 c3 d3 l3 (q1.upA _) (q2.upA _)
 obtain ⟨nm, df, rs, hd, ps, qs⟩ := P
 dsimp only at *
 generalize mB8 nm = nm' at *
 simp only [List.cons_append, List.nil_append] at hsp hsq
 unfold maxLen at l1 l2 l3
 refine Fn2 Tryz.func14 Tryz.ntmps14 rfl rfl ?_
 repeat' (first | (refine h2r (id:=0) ?_) | refine h0p ?_ | refine h0e ?_ | refine h0u ?_ | refine h0h rfl ?_ | (refine gR 0 ?_ <;> (try refine h0f ?_; (refine h5b (t:=36) rfl rfl ?_; intro nb hnb; (try simp only [Value.cells]))) <;> (try refine h0f ?_; (refine h5b (t:=36) rfl rfl ?_; intro nb hnb; (try simp only [Value.cells]))) <;> (try refine p_a (h:=h0d ?_))) | (refine gR 1 (p_e (q_f fo_36_0) (h:=p_e q_l (h:=p_e (q_f fo_36_0) (h:=p_e q_l (h:=p_e (q_b (r:=by exact rb_strne_s)) (h:=p_m (h:=p_y (q_f fo_36_1) (h:=p_y q_l (h:=p_y (q_f fo_36_1) (h:=q_y q_l ?_)))))))))) <;> (try refine q_y (by exact q_b (r:=by refine h3o ?_; first | rfl | (with_reducible assumption) | (decide; done) | omega)) ?_) <;> (try refine p_p (h:=p_m (h:=p_y (q_f h5o) (h:=p_y q_l (h:=p_y (q_f h5o) (h:=q_y q_l ?_)))))) <;> (try refine q_y (by exact q_b (r:=by refine h3o ?_; first | rfl | (with_reducible assumption) | (decide; done) | omega)) ?_) <;> (try refine p_p (h:=p_m (h:=p_y (q_f h3s) (h:=p_y q_l (h:=p_y (by apply h0g; exact rfl; exact (fun _ => BigFrame.builtin_len ..); apply h0k Tryz.underlying30; exact h4y) (h:=p_y (q_f h3s) (h:=p_y q_l (h:=q_y (by apply h0g; exact rfl; exact (fun _ => BigFrame.builtin_len ..); apply h0k Tryz.underlying30; exact h4y) ?_)))))))) <;> (try refine q_y (by exact q_b (r:=by refine h3o ?_; first | rfl | (with_reducible assumption) | (decide; done) | omega)) ?_) <;> (try refine p_p (h:=p_m (h:=p_y (q_f h3u) (h:=p_y q_l (h:=p_y (by apply h0g; exact rfl; exact (fun _ => BigFrame.builtin_len ..); apply h0k Tryz.underlying33; exact h4y) (h:=p_y (q_f h3u) (h:=p_y q_l (h:=q_y (by apply h0g; exact rfl; exact (fun _ => BigFrame.builtin_len ..); apply h0k Tryz.underlying33; exact h4y) ?_)))))))) <;> (try refine q_y (by exact q_b (r:=by refine h3o ?_; first | rfl | (with_reducible assumption) | (decide; done) | omega)) ?_) <;> (try refine p_p (h:=p_m (h:=p_y (q_f h3t) (h:=p_y q_l (h:=p_y (by apply h0g; exact rfl; exact (fun _ => BigFrame.builtin_len ..); apply h0k Tryz.underlying34; exact h4y) (h:=p_y (q_f h3t) (h:=p_y q_l (h:=q_y (by apply h0g; exact rfl; exact (fun _ => BigFrame.builtin_len ..); apply h0k Tryz.underlying34; exact h4y) ?_)))))))) <;> (try refine q_y (by exact q_b (r:=by refine h3o ?_; first | rfl | (with_reducible assumption) | (decide; done) | omega)) ?_) <;> (try refine p_p (h:=h0d ?_))) | (refine gR 3 (p_e (q_f h3s) (h:=p_e q_l (h:=p_e (by apply h0g; exact rfl; exact (fun _ => BigFrame.builtin_len ..); apply h0k Tryz.underlying30; exact h4y) (h:=p_m (h:=h0d ?_)))))))
 refine ⟨?_⟩
 rename_i n1 _
 obtain ⟨n2, rfl⟩ : ∃ x, x = nb := ⟨_, rfl⟩
 refine h0r ?_
 refine h2s (γ:=Nat) (fun k => k ≤ rs.length) (fun k => rs.length - k) (fun k => [(56, .int .i64 (k : Nat))]) [(2, _), (3, _), (54, _), (55, _)] (fun _ => _ :: _ :: L) 0 (.cons rfl (.cons rfl (.cons rfl (.cons rfl .nil)))) (Nat.zero_le _) (by (focus (repeat (first | exact Sub.nil | refine Sub.cons rfl ?_)))) (fun _ H => H) ?_
 intro k hk
 simp only [List.cons_append, List.nil_append]
 by_cases hlt : k < rs.length
 ·obtain ⟨j, q, bb, off, cs, T, fr, rfl, hj, hsz, hx⟩ := r1.elem hlt
  obtain ⟨j2, qb, bb2, off2, cs2, T2, fr2, rfl, hj2, hsz2, hx2⟩ := r2.elem hlt
  obtain ⟨v1, e1, k1⟩ := g1.at_ k hlt
  obtain ⟨v2, e2, k2⟩ := g2.at_ k hlt
  obtain ⟨u1, y1, rfl, m1, o1⟩ := k1
  obtain ⟨u2, y2, rfl, m2, o2⟩ := k2
  rw [e1] at hx
  rw [e2] at hx2
  have hsr := fun (x0 x1 x2 : Blk) => samerule_c (S:=S) (w0:=w0) (L:=[x0, x1, x2] ++ L) rs[k].num rs[k].act rs[k].conds _ _ ⟨u1, y1, rfl, m1.upA _, o1⟩ ⟨u2, y2, rfl, m2.upA _, o2⟩
  simp only [List.cons_append, List.nil_append] at hsr
  clear m1 m2 e1 e2 o1 o2
  generalize rs[k] = r at *
  obtain ⟨rn, ra, rcs⟩ := r
  dsimp only at *
  repeat' (first | refine h0p ?_ | refine h0e ?_ | refine h0t ?_ | refine h0x ?_ | refine h0r ?_ | refine h0u ?_ | refine h0j rfl ?_ | refine h0h rfl ?_ | (refine gR 4 (p_e (q_b (r:=by exact h1d q_o)) (h:=h0d ?_))) | (refine gR 5 (p_m (h:=p_e (by apply h0n; exact rfl; exact rfl; (focus (apply h3e Tryz.underlying30 sz_73; omega; omega; exact c_1))) (h:=q_e (by apply h3p (t:=73); exact rfl; exact c_18; kernel_rfl; kernel_rfl; exact sz_73; (with_reducible assumption); (with_reducible assumption)) ?_))) <;> (try refine h0f ?_; (refine h0i (t:=73) rfl Tryz.zeroValue73 ?_; intro nb hnb; (try simp only [Value.cells]))) <;> (try refine q_a ?_) <;> (try refine h0f ?_; (refine q_W ?_)) <;> (try refine h0d ?_)) | ((refine h2q (id:=6) (m:=8) (by kernel_rfl) rfl (q_u 0 (x:=by exact q_L sz_73) (h:=q_u 1 (x:=by exact q_f h3s) (h:=q_u 2 (x:=by exact q_l) (h:=q_u 3 (x:=by exact h0m rfl) (h:=q_u 4 (x:=by apply h0n; exact rfl; exact rfl; (focus (apply h3e Tryz.underlying30 sz_73; omega; omega; exact c_1))) (h:=q_u 5 (x:=by apply h3p (t:=73); exact rfl; exact c_18; kernel_rfl; kernel_rfl; exact sz_73; (with_reducible assumption); (with_reducible assumption)) (h:=?_)))))))) <;> (try refine q_r 6 ?_; (refine q_c 36 (c:=by apply hsr) (h:=?_); rintro _ _ ⟨rfl, rfl⟩; (try simp only [zzE, zzF])); refine h1g (fun _ H => H) ?_) <;> (try refine q_u 7 (x:=by apply E_un; exact rfl; exact h4a) (h:=h1e (by kernel_rfl) ?_))) | (refine gR 8 ?_ <;> (try refine q_e (q_b (r:=by apply h1r; exact c_5; (focus (refine IntWalk.i64_in _ ?_; omega)))) ?_) <;> (try refine p_m (h:=h0d ?_))))
  exact h0w (k + 1) ⟨by show k + 1 ≤ rs.length; omega, by show rs.length - (k + 1) < rs.length - k; omega⟩ (by (focus (repeat (first | exact Sub.nil | refine Sub.cons rfl ?_)))) (fun _ H => H.tail)
 ·repeat' (first | refine h0p ?_ | refine h0e ?_ | refine h1u ?_ | refine h1n ?_ | refine h1v ?_ | refine h2o ?_ | refine h1h ?_ | refine h0h rfl ?_ | (refine gR 4 (p_e (q_b (r:=by exact h1j q_o)) (h:=h0d ?_))) | (refine gR 9 (p_e (q_f h3u) (h:=p_e q_l (h:=p_e (q_f h3u) (h:=q_e q_l ?_)))) <;> (try refine h0f ?_; (refine q_c 37 (c:=by apply hsp) (h:=?_); rintro _ _ ⟨rfl, rfl⟩; (try simp only [zzE, zzF]))) <;> (try refine p_m (h:=p_y (q_f h3t) (h:=p_y q_l (h:=p_y (q_f h3t) (h:=q_y q_l ?_))))) <;> (try refine h0f ?_; (refine h1x rfl rfl rfl ?_; (refine q_c 38 (c:=by apply hsq) (h:=?_); rintro _ _ ⟨rfl, rfl⟩; (try simp only [zzE, zzF])))) <;> (try refine p_p (h:=p_a (h:=h0d ?_)))))
  (refine h0v Tryz.results14 (.tmp rfl .nil) ?_)
  exact ⟨_, ⟨rfl, rfl⟩, by intro w H; refine H.sub ?_; (try simp only [zzC, zzN]); repeat (first | exact List.Sublist.refl _ | refine List.Sublist.cons _ ?_)⟩
def actT (a : Int) : List UInt8 := spcL (actL a)
def cndT (c : Cnd) : List UInt8 := spcL (cndL c)
def sepT (i : Nat) : List UInt8 := if i = 0 then [32, 105, 102, 32] else [32, 97, 110, 100, 32]
def cnT : Nat → List Cnd → List UInt8
 | _, [] => []
 | i, c :: r => sepT i ++ (cndT c ++ cnT (i + 1) r)
def spS (ws : List W3) : List UInt8 := ws.flatMap fun v => 32 :: v.2.1
theorem spcL_cons (w : W3) (r : List W3) : spcL (w :: r) = w.2.1 ++ spS r := rfl
theorem spS_app (a b : List W3) : spS (a ++ b) = spS a ++ spS b := by simp [spS]
theorem spS_ne {ws : List W3} (h : ws ≠ []) : spS ws = 32 :: spcL ws := by
 cases ws with
 | nil => exact absurd rfl h
 | cons w r => rfl
theorem actL_ne (a : Int) : actL a ≠ [] := by
 unfold actL
 split
 ·simp
 ·split
  ·simp
  ·split <;> simp
theorem spS_cnds (cs : List Cnd) : ∀ i, spS (cndsL (if i = 0 then tIf else tAnd) cs) = cnT i cs := by
 induction cs with
 | nil => intro i; rfl
 | cons c r ih =>
  intro i
  have h1 := ih (i + 1)
  rw [if_neg (by omega)] at h1
  rw [cndsL, cnT, ← h1]
  show 32 :: _ ++ spS (cndL c ++ cndsL tAnd r) = _
  rw [spS_app, spS_ne (ws:=cndL c) (by simp [cndL])]
  unfold cndT sepT
  by_cases h : i = 0
  ·rw [if_pos h, if_pos h]; rfl
  ·rw [if_neg h, if_neg h]; rfl
theorem rulT_eq (r : RulP) : spcL (rulL r) = [99, 97, 108, 108, 32] ++ (h5e r.num ++ ([32] ++ (actT r.act ++ cnT 0 r.conds))) := by
 have h := spS_cnds r.conds 0
 rw [if_pos rfl] at h
 unfold rulL
 rw [spcL_cons]
 show tCall ++ (32 :: h5e r.num ++ spS (actL r.act ++ cndsL tIf r.conds)) = _
 rw [spS_app, h, spS_ne (actL_ne _)]
 unfold actT
 simp [tCall]
theorem cnT_app (a b : List Cnd) : ∀ i, cnT i (a ++ b) = cnT i a ++ cnT (i + a.length) b := by
 induction a with
 | nil => intro i; rfl
 | cons d r ih =>
  intro i
  rw [List.cons_append, cnT, cnT, ih (i + 1), List.length_cons, show i + 1 + r.length = i + (r.length + 1) by omega]
  simp
theorem cnT_take (cs : List Cnd) (j : Nat) (h : j < cs.length) : cnT 0 (cs.take (j + 1)) = cnT 0 (cs.take j) ++ (sepT j ++ cndT cs[j]) := by
 rw [List.take_succ_eq_append_getElem h, cnT_app, List.length_take, Nat.min_eq_left (by omega), Nat.zero_add]
 simp [cnT]
theorem cnT_le (cs : List Cnd) (j : Nat) : (cnT 0 (cs.take j)).length ≤ (cnT 0 cs).length := by
 have h := cnT_app (cs.take j) (cs.drop j) 0
 rw [List.take_append_drop] at h
 rw [h, List.length_append]
 omega
theorem headT_eq (nm : List UInt8) (a : Int) : h4p [[wN tPolicy, wN nm], wN tDefault :: actL a] = [112, 111, 108, 105, 99, 121, 32] ++ (nm ++ ([10, 100, 101, 102, 97, 117, 108, 116, 32] ++ (actT a ++ [10]))) := by
 show spcL [wN tPolicy, wN nm] ++ [10] ++ (spcL (wN tDefault :: actL a) ++ [10] ++ []) = _
 rw [spcL_cons, spcL_cons, spS_ne (actL_ne a)]
 unfold actT
 simp [spS, tPolicy, tDefault]
theorem hanT_eq (n : Nat) : h4p [[wN tHandle, wN (rgT n)]] = [104, 97, 110, 100, 108, 101, 32] ++ (rgT n ++ [10]) := by
 show spcL [wN tHandle, wN (rgT n)] ++ [10] ++ [] = _
 rw [spcL_cons]
 simp [spS, tHandle]
theorem benT_eq (p : List UInt8 × Nat) : spcL (benL p) ++ [10] = [98, 101, 110, 101, 97, 116, 104, 32] ++ (p.1 ++ ([32] ++ (rgT p.2 ++ [10]))) := by
 unfold benL
 rw [spcL_cons]
 simp [spS, tBeneath]
theorem porT_eq (p : Nat × Nat) : spcL (porL p) ++ [10] = [112, 111, 114, 116, 32] ++ (decF p.1 ++ ([32] ++ (rgT p.2 ++ [10]))) := by
 unfold porL
 rw [spcL_cons]
 simp [spS, tPort]
theorem lnsT_snoc (D : List (List W3)) (ws : List W3) : h4p (D ++ [ws]) = h4p D ++ (spcL ws ++ [10]) := by rw [lnsT_app]; simp [h4p]
theorem cndT_eq (c : Cnd) : cndT c = [97, 114, 103] ++ (decF c.arg ++ ([32] ++ (sgnT c.op ++ ([32] ++ ((if c.op = 7 then decF c.mask ++ [32, 61, 61, 32] else []) ++ decF c.val))))) := by
 unfold cndT cndL
 rw [spcL_cons]
 by_cases h : c.op = 7
 ·rw [if_pos h, if_pos h]
  simp [spS, argTx]
 ·rw [if_neg h, if_neg h]
  simp [spS, argTx]
theorem cndC_at (cs : List Cnd) (k : Nat) (h : k < cs.length) : ((cndC cs).drop (k * 4)).take 4 = (cs[k]).cells := by
 have h2 := gcC_at (cs.map Cnd.g) k (by rw [List.length_map]; exact h)
 rw [gcC_map] at h2
 rw [h2, List.getElem_map]
 rfl
theorem cndT_ne (c : Cnd) : 0 < (cndT c).length := by rw [cndT_eq]; simp
theorem and65535_nat (a : Int) : ((iand a 65535).toNat : Int) = iand a 65535 := by have := and_lt a; omega
theorem acttext_c {S w0 L} (a : Int) (h : 0 ≤ a ∧ a < 4294967296) : Fn Tryz.prog 30 #[.int .u32 a] S w0 L fun v L' => v = .string (mB8 (actT a)) ∧ L = L' := by
 have hk := fun (L : List Blk) => akind_c (S:=S) (w0:=w0) (L:=L) a h
 by_cases c1 : kndA a = 327680
 ·have e : actT a = [101, 114, 114, 110, 111, 32] ++ decF (iand a 65535).toNat := by
   unfold actT actL
   rw [if_pos c1]
   simp [spcL, tErrno]
  have hpr := fun (L : List Blk) => printed_c (iand a 65535).toNat (by have := and_lt a; omega) S w0 L
  rw [and65535_nat] at hpr
  have hal := and_lt a
  have hsz : (mB8 (decF (iand a 65535).toNat)).size ≤ 20 := by rw [h1t]; exact d20 (by omega)
  have hcat : (⟨#[101, 114, 114, 110, 111, 32]⟩ : ByteArray) ++ mB8 (decF (iand a 65535).toNat) = mB8 (actT a) := by rw [e]; exact h4s [101, 114, 114, 110, 111, 32] _
  rw [← hcat]
  have h1 : (⟨#[101, 114, 114, 110, 111, 32]⟩ : ByteArray).size = 6 := rfl
  rw [c1] at hk
  clear e hcat
  generalize mB8 (decF (iand a 65535).toNat) = d at *
  refine Fn1 Tryz.func30 Tryz.ntmps30 rfl rfl ?_
  repeat' (first | refine h0p ?_ | refine h0e ?_ | refine h1f ?_ | refine h2p ?_ | refine h0r ?_ | refine h1h ?_ | refine h0j rfl ?_ | (refine gR 0 (p_a (h:=h0d ?_))) | (refine gR 1 (q_m ?_) <;> (try refine h0f ?_; (refine q_c 59 (c:=by apply hk) (h:=?_); rintro _ _ ⟨rfl, rfl⟩; (try simp only [zzE, zzF]))) <;> (try refine h0d ?_)) | (refine gR 2 ?_ <;> (try refine q_e (by exact q_b (r:=by refine h1i ?_; first | rfl | (with_reducible assumption) | (decide; done) | omega)) ?_) <;> (try refine p_a (h:=h0d ?_))) | (refine gR 3 (q_m ?_) <;> (try refine q_e (q_b (r:=by refine rb_and ?_ ?_; (focus (refine ⟨rfl, ⟨?_, ?_⟩⟩; omega; (focus (simp only [IntKind.bits]; omega)))); (focus (refine ⟨rfl, ⟨?_, ?_⟩⟩; omega; (focus (simp only [IntKind.bits]; omega)))))) ?_) <;> (try refine q_e (by apply h4l; exact rfl; (focus (apply h4r Tryz.underlying29 Tryz.underlying97; first | (refine IntWalk.i64_in _ ?_; omega) | (refine IntWalk.u8_in _ ?_; omega) | (refine IntWalk.u16_in _ ?_; omega) | (refine IntWalk.u32_in _ ?_; omega) | (refine IntWalk.u64_in _ ?_; omega) | (refine IntWalk.i32_in _ ?_; omega) | exact rfl))) ?_) <;> (try refine h0f ?_; (refine q_c 32 (c:=by apply hpr) (h:=?_); rintro _ _ ⟨rfl, rfl⟩; (try simp only [zzE, zzF]))) <;> (try refine p_e (q_b (r:=by apply h1q; exact rfl; (focus (omega)))) (h:=p_a (h:=h0d ?_)))))
  (refine h0v Tryz.results30 (.tmp rfl .nil) ?_)
  exact ⟨_, ⟨rfl, rfl⟩, by intro w H; refine H.sub ?_; (try simp only [zzC, zzN]); repeat (exact List.Sublist.refl _)⟩
 by_cases c2 : kndA a = 2147221504
 ·have e : mB8 (actT a) = ⟨#[108, 111, 103]⟩ := by
   unfold actT actL
   rw [if_neg c1, if_pos c2]
   rfl
  rw [e]
  rw [c2] at hk
  clear e c1
  refine Fn1 Tryz.func30 Tryz.ntmps30 rfl rfl ?_
  repeat' (first | refine h0p ?_ | refine h0e ?_ | refine h1f ?_ | refine h2p ?_ | refine h0r ?_ | refine h1h ?_ | refine h0j rfl ?_ | refine h0h rfl ?_ | (refine gR 0 (p_a (h:=h0d ?_))) | (refine gR 1 (q_m ?_) <;> (try refine h0f ?_; (refine q_c 59 (c:=by apply hk) (h:=?_); rintro _ _ ⟨rfl, rfl⟩; (try simp only [zzE, zzF]))) <;> (try refine h0d ?_)) | (refine gR 2 (p_e (q_b (r:=by exact h1o q_o)) (h:=p_a (h:=h0d ?_)))) | (refine gR 4 ?_ <;> (try refine q_e (by exact q_b (r:=by refine h1i ?_; first | rfl | (with_reducible assumption) | (decide; done) | omega)) ?_) <;> (try refine p_a (h:=h0d ?_))) | (refine gR 5 (p_a (h:=h0d ?_))))
  (refine h0v Tryz.results30 (.tmp rfl .nil) ?_)
  exact ⟨_, ⟨rfl, rfl⟩, by intro w H; refine H.sub ?_; (try simp only [zzC, zzN]); repeat (exact List.Sublist.refl _)⟩
 by_cases c3 : kndA a = 2147418112
 ·have e : mB8 (actT a) = ⟨#[97, 108, 108, 111, 119]⟩ := by
   unfold actT actL
   rw [if_neg c1, if_neg c2, if_pos c3]
   rfl
  rw [e]
  rw [c3] at hk
  clear e c1 c2
  refine Fn1 Tryz.func30 Tryz.ntmps30 rfl rfl ?_
  repeat' (first | refine h0p ?_ | refine h0e ?_ | refine h1f ?_ | refine h2p ?_ | refine h0r ?_ | refine h1h ?_ | refine h0j rfl ?_ | refine h0h rfl ?_ | (refine gR 0 (p_a (h:=h0d ?_))) | (refine gR 1 (q_m ?_) <;> (try refine h0f ?_; (refine q_c 59 (c:=by apply hk) (h:=?_); rintro _ _ ⟨rfl, rfl⟩; (try simp only [zzE, zzF]))) <;> (try refine h0d ?_)) | (refine gR 2 (p_e (q_b (r:=by exact h1o q_o)) (h:=p_a (h:=h0d ?_)))) | (refine gR 4 (p_e (q_b (r:=by exact h1o q_o)) (h:=p_a (h:=h0d ?_)))) | (refine gR 6 ?_ <;> (try refine q_e (by exact q_b (r:=by refine h1i ?_; first | rfl | (with_reducible assumption) | (decide; done) | omega)) ?_) <;> (try refine p_a (h:=h0d ?_))) | (refine gR 7 (p_a (h:=h0d ?_))))
  (refine h0v Tryz.results30 (.tmp rfl .nil) ?_)
  exact ⟨_, ⟨rfl, rfl⟩, by intro w H; refine H.sub ?_; (try simp only [zzC, zzN]); repeat (exact List.Sublist.refl _)⟩
 ·have e : mB8 (actT a) = ⟨#[107, 105, 108, 108]⟩ := by
   unfold actT actL
   rw [if_neg c1, if_neg c2, if_neg c3]
   rfl
  rw [e]
  clear e
  generalize kndA a = k at *
  refine Fn1 Tryz.func30 Tryz.ntmps30 rfl rfl ?_
  repeat' (first | refine h0p ?_ | refine h0e ?_ | refine h0x ?_ | refine h0r ?_ | refine h0u ?_ | refine h1h ?_ | refine h0h rfl ?_ | (refine gR 0 (p_a (h:=h0d ?_))) | (refine gR 1 (q_m ?_) <;> (try refine h0f ?_; (refine q_c 59 (c:=by apply hk) (h:=?_); rintro _ _ ⟨rfl, rfl⟩; (try simp only [zzE, zzF]))) <;> (try refine h0d ?_)) | (refine gR 2 (p_e (q_b (r:=by exact h1o q_o)) (h:=p_a (h:=h0d ?_)))) | (refine gR 4 (p_e (q_b (r:=by exact h1o q_o)) (h:=p_a (h:=h0d ?_)))) | (refine gR 6 (p_e (q_b (r:=by exact h1o q_o)) (h:=p_a (h:=h0d ?_)))) | (refine gR 8 (p_a (h:=h0d ?_))))
  (refine h0v Tryz.results30 (.tmp rfl .nil) ?_)
  exact ⟨_, ⟨rfl, rfl⟩, by intro w H; refine H.sub ?_; (try simp only [zzC, zzN]); repeat (exact List.Sublist.refl _)⟩
set_option maxHeartbeats 1000000 in
theorem condtext_c {S w0 L} (c : Cnd) (h : CndOk c) (hm : c.mask ≤ 18446744073709551615) (hv : c.val ≤ 18446744073709551615) : Fn Tryz.prog 33 #[.agg c.cells.toArray] S w0 L fun v L' => v = .string (mB8 (cndT c)) ∧ L = L' := by
 have hsg := fun (L : List Blk) => psign_c (S:=S) (w0:=w0) (L:=L) c.op h.op1 h.op2
 have hpa := fun (L : List Blk) => printed_c c.arg (by have := h.arg; omega) S w0 L
 have hpm := fun (L : List Blk) => printed_c c.mask (by omega) S w0 L
 have hpv := fun (L : List Blk) => printed_c c.val (by omega) S w0 L
 have hmx : max (c.arg : Int) 0 = (c.arg : Int) := by omega
 have hrg := h.arg
 rw [← hmx] at hpa
 have e := cndT_eq c
 have z1 : (mB8 (decF c.arg)).size ≤ 20 := by rw [h1t]; exact d20 (by omega)
 have z2 : (mB8 (decF c.mask)).size ≤ 20 := by rw [h1t]; exact d20 hm
 have z3 : (mB8 (decF c.val)).size ≤ 20 := by rw [h1t]; exact d20 hv
 have z4 : (mB8 (sgns.getD (c.op - 1) [])).size ≤ 2 := by rw [h1t]; exact (sg_ok h.op1 h.op2).2
 have b1 : (⟨#[97, 114, 103]⟩ : ByteArray).size = 3 := rfl
 have b2 : (⟨#[32]⟩ : ByteArray).size = 1 := rfl
 have b3 : (⟨#[32, 61, 61, 32]⟩ : ByteArray).size = 4 := rfl
 obtain ⟨ca, co, cm, cv⟩ := c
 dsimp only at *
 rw [e]
 unfold sgnT
 clear e h hmx
 dsimp only [Cnd.cells] at *
 by_cases h7 : co = 7
 ·rw [if_pos h7]
  have hcat : mB8 ([97, 114, 103] ++ (decF ca ++ ([32] ++ (sgns.getD (co - 1) [] ++ ([32] ++ ((decF cm ++ [32, 61, 61, 32]) ++ decF cv)))))) = (((((⟨#[97, 114, 103]⟩ : ByteArray) ++ mB8 (decF ca)) ++ (⟨#[32]⟩ : ByteArray)) ++ mB8 (sgns.getD (co - 1) [])) ++ (⟨#[32]⟩ : ByteArray)) ++ (mB8 (decF cm) ++ (⟨#[32, 61, 61, 32]⟩ : ByteArray)) ++ mB8 (decF cv) := by
   rw [show (⟨#[97, 114, 103]⟩ : ByteArray) = mB8 [97, 114, 103] from rfl, show (⟨#[32]⟩ : ByteArray) = mB8 [32] from rfl, show (⟨#[32, 61, 61, 32]⟩ : ByteArray) = mB8 [32, 61, 61, 32] from rfl]
   simp only [h4s, List.append_assoc]
  rw [hcat]
  clear hcat
  generalize mB8 (sgns.getD (co - 1) []) = sg at *
  generalize mB8 (decF ca) = da at *
  generalize mB8 (decF cm) = dm at *
  generalize mB8 (decF cv) = dv at *
  refine Fn1 Tryz.func33 Tryz.ntmps33 rfl rfl ?_
  repeat' (first | refine h0p ?_ | refine h0e ?_ | refine h1h ?_ | refine h0j rfl ?_ | (refine gR 0 ?_ <;> (try refine h0f ?_; (refine h5b (t:=99) rfl rfl ?_; intro nb hnb; (try simp only [Value.cells]))) <;> (try refine p_a (h:=h0d ?_))) | ((refine h2q (id:=1) (m:=13) (by kernel_rfl) rfl (q_u 0 (x:=by exact q_f fo_99_0) (h:=q_u 1 (x:=by exact q_l) (h:=q_u 2 (x:=by exact h0g rfl (fun _ => BigFrame.builtin_max ..) r_max) (h:=?_))))) <;> (try refine q_u 3 (x:=by apply h4l; exact rfl; (focus (apply h4r Tryz.underlying3 Tryz.underlying97; first | (refine IntWalk.i64_in _ ?_; omega) | (refine IntWalk.u8_in _ ?_; omega) | (refine IntWalk.u16_in _ ?_; omega) | (refine IntWalk.u32_in _ ?_; omega) | (refine IntWalk.u64_in _ ?_; omega) | (refine IntWalk.i32_in _ ?_; omega) | exact rfl))) (h:=?_)) <;> (try refine q_u 7 (x:=by exact q_f fo_99_1) (h:=q_u 8 (x:=by exact q_l) (h:=?_))) <;> (try refine q_r 4 ?_; (refine q_c 32 (c:=by apply hpa) (h:=?_); rintro _ _ ⟨rfl, rfl⟩; (try simp only [zzE, zzF])); refine h1g (fun _ H => H) ?_) <;> (try refine q_u 5 (x:=by exact q_b (r:=by apply h1q; exact rfl; (focus (omega)))) (h:=q_u 6 (x:=by exact q_b (r:=by apply h1q; exact rfl; (focus (simp only [ByteArray.size_append]; omega)))) (h:=?_))) <;> (try refine q_r 9 ?_; (refine q_c 61 (c:=by apply hsg) (h:=?_); rintro _ _ ⟨rfl, rfl⟩; (try simp only [zzE, zzF])); refine h1g (fun _ H => H) ?_) <;> (try refine q_u 10 (x:=by exact q_b (r:=by apply h1q; exact rfl; (focus (simp only [ByteArray.size_append]; omega)))) (h:=q_u 11 (x:=by exact q_b (r:=by apply h1q; exact rfl; (focus (simp only [ByteArray.size_append]; omega)))) (h:=q_u 12 (x:=by exact h3g rfl) (h:=h1e (by kernel_rfl) ?_))))) | (refine gR 2 (p_e (q_f fo_99_1) (h:=q_e q_l ?_)) <;> (try refine q_e (by exact q_b (r:=by refine h1i ?_; first | rfl | (with_reducible assumption) | (decide; done) | omega)) ?_) <;> (try refine h0d ?_)) | (refine gR 3 (p_m (h:=p_e (q_f fo_99_2) (h:=q_e q_l ?_))) <;> (try refine h0f ?_; (refine q_c 32 (c:=by apply hpm) (h:=?_); rintro _ _ ⟨rfl, rfl⟩; (try simp only [zzE, zzF]))) <;> (try refine p_e (q_b (r:=by apply h1q; exact rfl; (focus (omega)))) (h:=p_e (q_b (r:=by apply h1q; exact rfl; (focus (simp only [ByteArray.size_append]; omega)))) (h:=p_a (h:=h0d ?_))))) | (refine gR 4 (p_m (h:=p_e (q_f fo_99_3) (h:=q_e q_l ?_))) <;> (try refine h0f ?_; (refine q_c 32 (c:=by apply hpv) (h:=?_); rintro _ _ ⟨rfl, rfl⟩; (try simp only [zzE, zzF]))) <;> (try refine p_e (q_b (r:=by apply h1q; exact rfl; (focus (simp only [ByteArray.size_append]; omega)))) (h:=p_a (h:=h0d ?_)))))
  (refine h0v Tryz.results33 (.tmp rfl .nil) ?_)
  exact ⟨_, ⟨rfl, rfl⟩, by intro w H; refine H.sub ?_; (try simp only [zzC, zzN]); repeat (first | exact List.Sublist.refl _ | refine List.Sublist.cons _ ?_)⟩
 ·rw [if_neg h7]
  have hcat : mB8 ([97, 114, 103] ++ (decF ca ++ ([32] ++ (sgns.getD (co - 1) [] ++ ([32] ++ ([] ++ decF cv)))))) = (((((⟨#[97, 114, 103]⟩ : ByteArray) ++ mB8 (decF ca)) ++ (⟨#[32]⟩ : ByteArray)) ++ mB8 (sgns.getD (co - 1) [])) ++ (⟨#[32]⟩ : ByteArray)) ++ mB8 (decF cv) := by
   rw [show (⟨#[97, 114, 103]⟩ : ByteArray) = mB8 [97, 114, 103] from rfl, show (⟨#[32]⟩ : ByteArray) = mB8 [32] from rfl]
   simp only [h4s, List.append_assoc, List.nil_append]
  rw [hcat]
  clear hcat hpm
  generalize mB8 (sgns.getD (co - 1) []) = sg at *
  generalize mB8 (decF ca) = da at *
  generalize mB8 (decF cv) = dv at *
  refine Fn1 Tryz.func33 Tryz.ntmps33 rfl rfl ?_
  repeat' (first | refine h0p ?_ | refine h0e ?_ | refine h0u ?_ | refine h1h ?_ | refine h0h rfl ?_ | (refine gR 0 ?_ <;> (try refine h0f ?_; (refine h5b (t:=99) rfl rfl ?_; intro nb hnb; (try simp only [Value.cells]))) <;> (try refine p_a (h:=h0d ?_))) | ((refine h2q (id:=1) (m:=13) (by kernel_rfl) rfl (q_u 0 (x:=by exact q_f fo_99_0) (h:=q_u 1 (x:=by exact q_l) (h:=q_u 2 (x:=by exact h0g rfl (fun _ => BigFrame.builtin_max ..) r_max) (h:=?_))))) <;> (try refine q_u 3 (x:=by apply h4l; exact rfl; (focus (apply h4r Tryz.underlying3 Tryz.underlying97; first | (refine IntWalk.i64_in _ ?_; omega) | (refine IntWalk.u8_in _ ?_; omega) | (refine IntWalk.u16_in _ ?_; omega) | (refine IntWalk.u32_in _ ?_; omega) | (refine IntWalk.u64_in _ ?_; omega) | (refine IntWalk.i32_in _ ?_; omega) | exact rfl))) (h:=?_)) <;> (try refine q_u 7 (x:=by exact q_f fo_99_1) (h:=q_u 8 (x:=by exact q_l) (h:=?_))) <;> (try refine q_r 4 ?_; (refine q_c 32 (c:=by apply hpa) (h:=?_); rintro _ _ ⟨rfl, rfl⟩; (try simp only [zzE, zzF])); refine h1g (fun _ H => H) ?_) <;> (try refine q_u 5 (x:=by exact q_b (r:=by apply h1q; exact rfl; (focus (omega)))) (h:=q_u 6 (x:=by exact q_b (r:=by apply h1q; exact rfl; (focus (simp only [ByteArray.size_append]; omega)))) (h:=?_))) <;> (try refine q_r 9 ?_; (refine q_c 61 (c:=by apply hsg) (h:=?_); rintro _ _ ⟨rfl, rfl⟩; (try simp only [zzE, zzF])); refine h1g (fun _ H => H) ?_) <;> (try refine q_u 10 (x:=by exact q_b (r:=by apply h1q; exact rfl; (focus (simp only [ByteArray.size_append]; omega)))) (h:=q_u 11 (x:=by exact q_b (r:=by apply h1q; exact rfl; (focus (simp only [ByteArray.size_append]; omega)))) (h:=q_u 12 (x:=by exact h3g rfl) (h:=h1e (by kernel_rfl) ?_))))) | (refine gR 2 (p_e (q_f fo_99_1) (h:=p_e q_l (h:=p_e (q_b (r:=by exact h1o q_o)) (h:=h0d ?_))))) | (refine gR 4 (p_m (h:=p_e (q_f fo_99_3) (h:=q_e q_l ?_))) <;> (try refine h0f ?_; (refine q_c 32 (c:=by apply hpv) (h:=?_); rintro _ _ ⟨rfl, rfl⟩; (try simp only [zzE, zzF]))) <;> (try refine p_e (q_b (r:=by apply h1q; exact rfl; (focus (simp only [ByteArray.size_append]; omega)))) (h:=p_a (h:=h0d ?_)))))
  (refine h0v Tryz.results33 (.tmp rfl .nil) ?_)
  exact ⟨_, ⟨rfl, rfl⟩, by intro w H; refine H.sub ?_; (try simp only [zzC, zzN]); repeat (first | exact List.Sublist.refl _ | refine List.Sublist.cons _ ?_)⟩
section
variable {P : Program} {n : Nat} {l : List (Nat × Value)} {S : List Nat} {w0 : World} {L : List Blk} {K : Act → World → Prop} {k : Kont} {ops : Array Oper} {d : Tmp} {ty : TypeId} {pos : String} {af : Array Edge}
theorem shape_at {w : World} (H : HP S w0 w L) (i : Nat) {q : Bool} {b : Nat} {cs : Array Value} {t : TypeId} {fr : Nat × Nat} (hi : L[i]? = some ⟨q, b, .cells cs t fr⟩) : w.shape? b = some (t, cs.size) := by
 have := H.at_ i hi
 simp only [World.shape?, this]
theorem E_toUnsafe {src dst t e : TypeId} {m : Nat} {x : Operand} {b i : Nat} {q : Bool} {cs : Array Value} {fr : Nat × Nat} (hx : ev l x = some (.pointer (some ⟨b, 0, none⟩))) (hs : P.underlying src = some (.pointer t)) (hd : P.underlying dst = some .unsafePointer) (ht : (P.info? t).map (·.size) = some m) (hj : Nat.blt 0 m = true)
  (hi : L[i]? = some ⟨q, b, .cells cs e fr⟩) (hc : 0 < cs.size) : ValOf P n l S w0 L ⟨some d, .convert src dst x, ty, pos, af, none⟩ (.pointer (some ⟨b, 0, none⟩)) :=
 ⟨fun a w hf H => by
  obtain ⟨inf, hi2, hi3⟩ := Option.map_eq_some_iff.1 ht
  have hj' : inf.size ≠ 0 := by have := Nat.le_of_ble_eq_true hj; omega
  simp only [execOp, hf.eval hx, Sem.run_bind, Lib.run_to_unsafe (P:=P) (w:=w) ⟨b, 0, none⟩ hs hd hi2 hj' (shape_at H i hi) hc, Result.andThen_ok, Sem.run_pure]⟩
theorem E_fromUnsafe {src dst u e : TypeId} {m : Nat} {x : Operand} {b i : Nat} {q : Bool} {cs : Array Value} {fr : Nat × Nat} (hx : ev l x = some (.pointer (some ⟨b, 0, none⟩))) (hs : P.underlying src = some .unsafePointer) (hd : P.underlying dst = some (.pointer u)) (hu : (P.info? u).map (·.size) = some m)
  (hi : L[i]? = some ⟨q, b, .cells cs e fr⟩) (hlies : liesAt P P.depth e (cs.size / P.cellsOf e) 0 u 1 = true) : ValOf P n l S w0 L ⟨some d, .convert src dst x, ty, pos, af, none⟩ (.pointer (some ⟨b, 0, none⟩)) :=
 ⟨fun a w hf H => by
  obtain ⟨inf, hi2, hi3⟩ := Option.map_eq_some_iff.1 hu
  simp only [execOp, hf.eval hx, Sem.run_bind, Lib.run_from_unsafe (P:=P) (w:=w) ⟨b, 0, none⟩ hs hd hi2 (shape_at H i hi) hlies, Result.andThen_ok, Sem.run_pure]⟩
theorem rb_pne_same {t te : TypeId} {m : Nat} {a : Addr} (hp : P.underlying t = some (.pointer te)) (hte : (P.info? te).map (·.size) = some m) : RBin P .neq t (.pointer (some a)) (.pointer (some a)) (.bool false) := .mk fun w => by
 obtain ⟨inf, hi, -⟩ := Option.map_eq_some_iff.1 hte
 exact Lib.run_neq_ptr_same w a hp hi
theorem K1_noEsc {F : FuncId} {fn : Func} {x : Operand} {v : Value} {ats : Array TypeId} (hf : P.funcs[F]? = some fn) (hname : (fn.name == "runtime.NumGoroutine") = false) (hb : fn.body.isNone = true) (hn : Extern.findNext fn = none) (he : Extern.find fn = some Extern.AbiNoEscape.same) (hd : Nat.blt d n = true) (hx : ev l x = some v)
  (h : G n ((d, v) :: l) S w0 L K) : G n l S w0 L (K1 P ops k ⟨some d, .call { callee := .value (.func F), args := #[x], argTypes := ats }, ty, pos, af, none⟩ K) := .mk fun a w hF H => h4n rfl <| by
 unfold Oper.wp
 rw [execOp_call_go, List.map_toArray, hF.evals (xs:=[x]) (vs:=[v]) (by simp [evs, hx]), run_callFunc_extern hf hname hb hn he]
 exact h.out _ _ (hF.put (some d) v hd) H
theorem E_sliceData {x : Operand} {a : Addr} {m c : Nat} {ats : Array TypeId} (hx : ev l x = some (.slice (some a) m c)) (hc : c ≠ 0) : ValOf P n l S w0 L ⟨some d, .call { callee := .builtin .unsafeSliceData, args := #[x], argTypes := ats }, ty, pos, af, none⟩ (.pointer (some a)) :=
 h0g (xs:=[x]) (vs:=[.slice (some a) m c]) (by simp [evs, hx]) (fun cs => BigFrame.builtin_unsafeSliceData ..) ⟨fun w => Lib.run_unsafeSliceData_row _ _ _ _ _ _ hc⟩
theorem K1_unsafeStr {x y : Operand} {i g : Nat} {cur : Array Value} {z : List UInt8} {pt it e : TypeId} {m : Nat} (hd : Nat.blt d n = true) (hx : ev l x = some (.pointer (some ⟨g, 0, none⟩))) (hy : ev l y = some (.int .i64 (m : Nat))) (hi : L[i]? = some ⟨true, g, .cells cur e (0, 0)⟩)
  (hp : P.underlying pt = some (.pointer e)) (hc : P.cellsOf e = 1) (hm : z.length = m) (h0 : 0 < m) (hn : m ≤ cur.size) (h63 : m ≤ 9223372036854775807) (hcell : cur.toList.take m = Lib.byteCells z)
  (h : G n ((d, .string ⟨z.toArray⟩) :: l) S w0 (L.eraseIdx i) K) : G n l S w0 L (K1 P ops k ⟨some d, .call { callee := .builtin .unsafeString, args := #[x, y], argTypes := #[pt, it] }, ty, pos, af, none⟩ K) := .mk fun a w hf H => h4n rfl <| by
 subst hm
 have hgw := H.at_ i hi
 have hr := Lib.run_unsafeString_row (P:=P) w pt it ty e hp hc g cur.size (shape_at H i hi) z (fun h => by rw [h] at h0; simp at h0) hn h63 (fun j u hu => by
  have hadd : (⟨g, 0, none⟩ : Addr).add j = ⟨g, j, none⟩ := by unfold Addr.add; split <;> simp_all
  rw [hadd, cell_at H i hi]
  have hj : j < z.length := by
   rcases Nat.lt_or_ge j z.length with h | h
   ·exact h
   ·rw [List.getElem?_eq_none h] at hu; cases hu
  have h2 := congrArg (fun l => l[j]?) hcell
  simp only [List.getElem?_take, if_pos hj] at h2
  rw [← Array.getElem?_toList, h2]
  simp [Lib.byteCells, hu])
 unfold Oper.wp
 rw [BigFrame.execOp_builtin]
 simp only [List.map_toArray, List.map_cons, List.map_nil, hf.eval hx, hf.eval hy]
 rw [BigFrame.builtin_unsafeString]
 simp only [Sem.run_bind, hr, Result.andThen_ok, Sem.run_pure]
 have hz : z.length ≠ 0 := by omega
 have hgl : g < w.heap.size := H.lt i hi
 have HT := H.turn i (o:=.cells cur e (0, 0)) hi (w.freeze ⟨g, 0, none⟩ z.length) (.cells cur e (0, 0 + z.length)) (by unfold World.freeze; rw [if_neg hz]) (by unfold World.freeze; rw [if_neg hz]) (by unfold World.freeze; rw [if_neg hz])
  (by unfold World.freeze; rw [if_neg hz]; exact Array.size_modify) (by unfold World.freeze; rw [if_neg hz]; dsimp only; rw [Array.getElem?_modify, if_pos rfl]; have hgw' : w.heap[g]? = some (.cells cur e (0, 0)) := hgw; rw [hgw']; rfl) (fun k hk => by unfold World.freeze; rw [if_neg hz]; dsimp only; rw [Array.getElem?_modify, if_neg (fun h => hk h.symm)])
 refine h.out _ _ (hf.put (some d) _ hd) (HT.sub ?_)
 have : ∀ (L : List Blk) (i : Nat) (x : Blk), (L.eraseIdx i).Sublist (L.set i x) := by
  intro L
  induction L with
  | nil => intro i x; simp
  | cons y r ih =>
   intro i x
   cases i with
   | zero => exact List.sublist_cons_self _ _
   | succ i => exact (ih i x).cons_cons y
 exact this L i _
end
def h5p (s : ByteArray) : List Value := s.data.toList.map fun b => .int .u8 (b.toNat : Int)
theorem sBytes_len (s : ByteArray) : (h5p s).length = s.size := by unfold h5p; rw [List.length_map]; cases s; rfl
section
variable {P : Program} {n : Nat} {l : List (Nat × Value)} {S : List Nat} {w0 : World} {L : List Blk} {K : Act → World → Prop} {k : Kont} {ops : Array Oper} {d : Tmp} {ty : TypeId} {pos : String} {af : Array Edge}
theorem firstCells_str (s : ByteArray) (w : World) : (Builtin.firstCells 1 s.size (.string s)).run P w = .ok (h5p s).toArray w := by
 simp only [Builtin.firstCells, Sem.run_pure]
 congr 1
 have hx : s.extract 0 s.size = s := by simp
 rw [hx]
 apply Array.ext'
 simp [h5p]
theorem run_appS_room (w : World) (t u ty e : TypeId) (i : TypeInfo) (ht : P.underlying t = some (.slice e)) (hu : P.underlying u = some .string) (hi : P.info? e = some i) (h1 : i.size = 1)
  (g sLen sCap : Nat) (cur : Array Value) (hg : w.heap[g]? = some (.cells cur e (0, 0))) (s : ByteArray) (hroom : sLen + s.size ≤ sCap) (hfit : sLen + s.size ≤ cur.size) :
  (Builtin.append_ #[t, u] ty #[.slice (some ⟨g, 0, none⟩) sLen sCap, .string s]).run P w =
   .ok (.slice (some ⟨g, 0, none⟩) (sLen + s.size) sCap) (w.setRow g (cur.toList.take sLen ++ h5p s ++ cur.toList.drop (sLen + s.size)).toArray) := by
 have hone : ∀ u ∈ h5p s, u.oneCell' = true := by
  intro u hu
  unfold h5p at hu
  obtain ⟨b, _, rfl⟩ := List.mem_map.1 hu
  exact oc_int
 have hf := firstCells_str (P:=P) s w
 have hst := run_storeCells_at P g sLen e (h5p s) 0 cur w hg (by simpa [sBytes_len] using hfit) hone
 simp only [Nat.add_zero, sBytes_len] at hst
 simp [Builtin.append_, run_underlying ht, run_underlying hu, sizeOf, typeInfo, hi, h1, Builtin.lenOf, hroom, hf, Addr.add_lit, hst]
theorem run_appS_grow (w : World) (t u ty e : TypeId) (i : TypeInfo) (z : Value) (ht : P.underlying t = some (.slice e)) (hu : P.underlying u = some .string) (hi : P.info? e = some i) (hz : i.zero = some z) (h1 : i.size = 1) (hb1 : i.bytes = 1)
  (b : Addr) (sLen sCap : Nat) (olds : List Value) (hlo : olds.length = sLen) (holds : ∀ j v, olds[j]? = some v → w.cell? (b.add j) = some v) (s : ByteArray)
  (hg : sCap < sLen + s.size) (h47 : sLen + s.size ≤ 140737488355328) :
  (Builtin.append_ #[t, u] ty #[.slice (some b) sLen sCap, .string s]).run P w =
   .ok (.slice (some ⟨w.heap.size, 0, none⟩) (sLen + s.size) (grownCap w (sLen + s.size) sCap e))
    (w.drew.alloc (.cells (olds.toArray ++ (h5p s).toArray ++ Builtin.zeroCells z.cells (grownCap w (sLen + s.size) sCap e - (sLen + s.size))) e)) := by
 have hn : ¬ (sLen + s.size ≤ sCap) := by omega
 have h63' : ¬ (9223372036854775807 < ((sLen : Int) + (s.size : Int))) := by omega
 have hfit : Builtin.nextslicecap (sLen + s.size) sCap * 1 ≤ 281474976710656 := growslice_fits hg (by omega)
 have h48' : ¬ (281474976710656 < Builtin.nextslicecap (sLen + s.size) sCap) := by omega
 have hf := firstCells_str (P:=P) s w.drew
 have hfo := run_firstCells_some (P:=P) w.drew 1 sLen b sLen sCap olds (by omega) (by simpa using holds)
 simp [Builtin.append_, run_underlying ht, run_underlying hu, sizeOf, typeInfo, zeroValue, hi, hz, h1, hb1, Builtin.lenOf, hn, h63', h48', Question.forced, hf, hfo, newRow, grownCap]
 congr 2
 apply Array.ext'
 simp [List.append_assoc]
theorem K1_appendStr {E : Nat} {t tt : TypeId} {inf : TypeInfo} {z : Value} {s y : Operand} {v : Value} {m : Nat} {xs : List Value} {e L0 : List Blk} {str : ByteArray}
  (hd : Nat.blt d n = true) (ht : P.underlying t = some (.slice E)) (hu : P.underlying tt = some .string) (hi : P.info? E = some inf) (hz : inf.zero = some z) (hsize : inf.size = 1) (hby : inf.bytes = 1) (hzs : z.cells.size = 1)
  (hs : ev l s = some v) (hy : ev l y = some (.string str)) (hown : Own E 1 v m xs e) (hm : 0 < m) (h47 : m + str.size ≤ 140737488355328) (hL : ∀ w, HP S w0 w L → HP S w0 w (e ++ L0)) {mm : Nat} {xn : List Value} (hmm : m + str.size = mm) (hxn : xs ++ h5p str = xn)
  (h : ∀ v' e', Own E 1 v' mm xn e' → G n ((d, v') :: l) S w0 (e' ++ L0) K) :
  G n l S w0 L (K1 P ops k ⟨some d, .call { callee := .builtin .append, args := #[s, y], argTypes := #[t, tt] }, ty, pos, af, none⟩ K) := .mk fun a w hf H => h4n rfl <| by
 subst hmm hxn
 have H' := hL w H
 obtain ⟨g, cap, cur, rfl, rfl, hnc, hcm, hcs, htake⟩ := hown.some hm
 rw [Nat.mul_one] at hcs htake
 have hlen : (xs ++ h5p str).length = (m + str.size) * 1 := by rw [List.length_append, hown.1, sBytes_len, Nat.mul_one, Nat.mul_one]
 have hgw : w.heap[g]? = some (.cells cur E (0, 0)) := H'.at_ 0 (p:=⟨true, g, .cells cur E (0, 0)⟩) rfl
 have HL : HP S w0 w L0 := H'.sub (List.sublist_append_right _ _)
 unfold Oper.wp execOp
 simp only [resolve, invoke, builtin, Sem.run_bind, Sem.run_pure, Result.andThen_ok, List.map_toArray, List.map_cons, List.map_nil, hf.eval hs, hf.eval hy]
 by_cases hroom : m + str.size ≤ cap
 ·have hr := run_appS_room (P:=P) w t tt ty E inf ht hu hi hsize g m cap cur hgw str hroom (by omega)
  rw [hr]
  have HT := H'.turn 0 (o:=.cells cur E (0, 0)) rfl (w.setRow g (cur.toList.take m ++ h5p str ++ cur.toList.drop (m + str.size)).toArray) _ rfl rfl rfl (size_setRow w g _)
   (setRow_heap w g cur _ E _ hgw) (fun k hk => setRow_other w g k _ hk)
  refine (h _ [⟨true, g, .cells (cur.toList.take m ++ h5p str ++ cur.toList.drop (m + str.size)).toArray E (0, 0)⟩] ⟨hlen, .inr ⟨g, cap, _, rfl, rfl, hroom, hcm, ?_, ?_⟩⟩).out _ _ (hf.put (some d) _ hd) HT
  ·simp only [List.size_toArray, List.length_append, List.length_take, List.length_drop, Array.length_toList, sBytes_len]
   omega
  ·rw [htake, ← hlen]
   exact List.take_left
 ·have holds : ∀ j u, xs[j]? = some u → w.cell? ((⟨g, 0, none⟩ : Addr).add j) = some u := by
   intro j u hj
   have hadd : (⟨g, 0, none⟩ : Addr).add j = ⟨g, j, none⟩ := by unfold Addr.add; split <;> simp_all
   rw [hadd, cell_of_row w g j cur E (0, 0) hgw]
   rw [← htake, List.getElem?_take] at hj
   split at hj
   ·simpa using hj
   ·simp at hj
  have hr := run_appS_grow (P:=P) w t tt ty E inf z ht hu hi hz hsize hby ⟨g, 0, none⟩ m cap xs (by have := hown.1; omega) holds str (by omega) h47
  rw [hr]
  have hge := grownCap_ge w (m + str.size) cap E
  have hcm2 : grownCap w (m + str.size) cap E ≤ maxLen := grownCap_le_maxLen w (m + str.size) cap E h5u
  refine (h _ [⟨true, w.heap.size, .cells (xs.toArray ++ (h5p str).toArray ++ Builtin.zeroCells z.cells (grownCap w (m + str.size) cap E - (m + str.size))) E (0, 0)⟩] ⟨hlen, .inr ⟨w.heap.size, _, _, rfl, rfl, hge, hcm2, ?_, ?_⟩⟩).out _ _ (hf.put (some d) _ hd) (HL.drew.alloc _)
  ·have h9 := hown.1
   simp only [Array.size_append, List.size_toArray, size_zeroCells, hzs, h9, sBytes_len, Nat.mul_one]
   omega
  ·simp only [Array.toList_append, List.append_assoc]
   rw [← List.append_assoc, ← hlen]
   exact List.take_left
theorem K1_appendStrB {E : Nat} {t tt : TypeId} {inf : TypeInfo} {z : Value} {s y : Operand} {g m cp j : Nat} {cur : Array Value} {str : ByteArray}
  (hd : Nat.blt d n = true) (ht : P.underlying t = some (.slice E)) (hu : P.underlying tt = some .string) (hi : P.info? E = some inf) (hz : inf.zero = some z) (hsize : inf.size = 1) (hby : inf.bytes = 1) (hzs : z.cells.size = 1)
  (hs : ev l s = some (.slice (some ⟨g, 0, none⟩) m cp)) (hy : ev l y = some (.string str)) (hown : L[j]? = some ⟨true, g, .cells cur E (0, 0)⟩) (hmc : m ≤ cp) (hcp : cp ≤ maxLen) (hcs : cur.size = cp * 1) (hm : 0 < m) (h47 : m + str.size ≤ 140737488355328)
  {mm : Nat} {xn : List Value} (hmm : m + str.size = mm) (hxn : cur.toList.take (m * 1) ++ h5p str = xn)
  (h : ∀ v' e', Own E 1 v' mm xn e' → G n ((d, v') :: l) S w0 (e' ++ L.eraseIdx j) K) :
  G n l S w0 L (K1 P ops k ⟨some d, .call { callee := .builtin .append, args := #[s, y], argTypes := #[t, tt] }, ty, pos, af, none⟩ K) :=
 K1_appendStr hd ht hu hi hz hsize hby hzs hs hy (Own.of_block hmc hcp hcs) hm h47 (fun _ H => H.pick hown) hmm hxn h
end
section
variable {P : Program} {n : Nat} {l : List (Nat × Value)} {S : List Nat} {w0 : World} {L : List Blk} {K : Act → World → Prop} {k : Kont} {ops : Array Oper} {d : Tmp} {ty : TypeId} {pos : String} {af : Array Edge}
theorem run_appS_nil (w : World) (t u ty e : TypeId) (i : TypeInfo) (z : Value) (ht : P.underlying t = some (.slice e)) (hu : P.underlying u = some .string) (hi : P.info? e = some i) (hz : i.zero = some z) (h1 : i.size = 1) (hb1 : i.bytes = 1) (s : ByteArray)
  (hg : 0 < s.size) (h47 : s.size ≤ 140737488355328) :
  (Builtin.append_ #[t, u] ty #[.slice none 0 0, .string s]).run P w =
   .ok (.slice (some ⟨w.heap.size, 0, none⟩) s.size (grownCap w s.size 0 e))
    (w.drew.alloc (.cells ((h5p s).toArray ++ Builtin.zeroCells z.cells (grownCap w s.size 0 e - s.size)) e)) := by
 have hn : ¬ (s.size = 0) := by omega
 have h63' : ¬ (9223372036854775807 < (s.size : Int)) := by omega
 have hfit : Builtin.nextslicecap s.size 0 * 1 ≤ 281474976710656 := growslice_fits hg (by omega)
 have h48' : ¬ (281474976710656 < Builtin.nextslicecap s.size 0) := by omega
 have hf := firstCells_str (P:=P) s w.drew
 have hf0 : (Builtin.firstCells 1 0 (.slice none 0 0)).run P w.drew = .ok #[] w.drew := by
  simp [Builtin.firstCells, Sem.run_pure]
 simp [Builtin.append_, run_underlying ht, run_underlying hu, sizeOf, typeInfo, zeroValue, hi, hz, h1, hb1, Builtin.lenOf, hn, h63', h48', Question.forced, hf, hf0, newRow, grownCap]
theorem K1_appendStrN {E : Nat} {t tt : TypeId} {inf : TypeInfo} {z : Value} {s y : Operand} {str : ByteArray}
  (hd : Nat.blt d n = true) (ht : P.underlying t = some (.slice E)) (hu : P.underlying tt = some .string) (hi : P.info? E = some inf) (hz : inf.zero = some z) (hsize : inf.size = 1) (hby : inf.bytes = 1) (hzs : z.cells.size = 1)
  (hs : ev l s = some (.slice none 0 0)) (hy : ev l y = some (.string str)) (hm : 0 < str.size) (h47 : str.size ≤ 140737488355328)
  (h : ∀ v' e', Own E 1 v' str.size (h5p str) e' → G n ((d, v') :: l) S w0 (e' ++ L) K) :
  G n l S w0 L (K1 P ops k ⟨some d, .call { callee := .builtin .append, args := #[s, y], argTypes := #[t, tt] }, ty, pos, af, none⟩ K) := .mk fun a w hf H => h4n rfl <| by
 have hlen : (h5p str).length = str.size * 1 := by rw [sBytes_len, Nat.mul_one]
 unfold Oper.wp execOp
 simp only [resolve, invoke, builtin, Sem.run_bind, Sem.run_pure, Result.andThen_ok, List.map_toArray, List.map_cons, List.map_nil, hf.eval hs, hf.eval hy]
 have hr := run_appS_nil (P:=P) w t tt ty E inf z ht hu hi hz hsize hby str hm h47
 rw [hr]
 have hge := grownCap_ge w str.size 0 E
 have hcm2 : grownCap w str.size 0 E ≤ maxLen := grownCap_le_maxLen w str.size 0 E h5u
 refine (h _ [⟨true, w.heap.size, .cells ((h5p str).toArray ++ Builtin.zeroCells z.cells (grownCap w str.size 0 E - str.size)) E (0, 0)⟩] ⟨hlen, .inr ⟨w.heap.size, _, _, rfl, rfl, hge, hcm2, ?_, ?_⟩⟩).out _ _ (hf.put (some d) _ hd) (H.drew.alloc _)
 ·simp only [Array.size_append, List.size_toArray, size_zeroCells, hzs, sBytes_len, Nat.mul_one]
  omega
 ·simp only [Array.toList_append]
  rw [← hlen]
  exact List.take_left
end
abbrev bB (b : Nat) (p v : Value) : Blk := ⟨true, b, .cells #[p, v] 109 (0, 0)⟩
abbrev bP (b : Nat) : Value := .pointer (some ⟨b, 0, none⟩)
theorem ccheck_c {S w0 L} (b : Nat) (p v : Value) (hp : p = .pointer none ∨ p = bP b) : Fn Tryz.prog 58 #[bP b] S w0 (bB b p v :: L) fun r L' => r = h2y [] ∧ bB b (bP b) v :: L = L' := by
 rcases hp with rfl | rfl
 ·refine Fn1 Tryz.func58 Tryz.ntmps58 rfl rfl ?_
  repeat' (first | refine h0p ?_ | refine h0e ?_ | refine h0j rfl ?_ | (refine gR 0 (p_m (h:=p_n (h:=p_e (q_f fo_109_0) (h:=p_e q_l (h:=p_e (q_b (r:=by exact rb_peq_nn Tryz.underlying107)) (h:=h0d ?_))))))) | (refine gR 1 (p_m (h:=p_m (h:=q_e (by apply E_toUnsafe (t:=109) (m:=2); exact rfl; exact Tryz.underlying107; exact Tryz.underlying189; kernel_rfl; exact rfl; exact fd0; exact Nat.le_of_ble_eq_true rfl) ?_))) <;> (try refine h0f ?_; (refine K1_noEsc (F:=85) Tryz.func85 (by kernel_rfl) (by kernel_rfl) (by kernel_rfl) (by kernel_rfl) rfl rfl ?_)) <;> (try refine p_e (by apply E_fromUnsafe (u:=109) (m:=2); exact rfl; exact Tryz.underlying189; exact Tryz.underlying107; kernel_rfl; exact fd0; kernel_rfl) (h:=p_n (h:=q_e (q_f fo_109_0) ?_))) <;> (try refine h0f ?_; (refine q_S ?_)) <;> (try refine h0d ?_)))
  (first | refine h0v Tryz.results58 .nil ?_ | refine h2w Tryz.results58 .nil ?_)
  exact ⟨_, ⟨rfl, rfl⟩, fun _ H => H⟩
 ·refine Fn1 Tryz.func58 Tryz.ntmps58 rfl rfl ?_
  repeat' (first | refine h0p ?_ | refine h0e ?_ | refine h0u ?_ | refine h0h rfl ?_ | (refine gR 0 (p_m (h:=p_n (h:=p_e (q_f fo_109_0) (h:=p_e q_l (h:=p_e (q_b (r:=by exact h6h Tryz.underlying107)) (h:=h0d ?_))))))) | (refine gR 2 (p_m (h:=p_n (h:=p_e (q_f fo_109_0) (h:=p_e q_l (h:=p_m (h:=p_e (q_b (r:=by exact rb_pne_same (m:=2) Tryz.underlying107 (by kernel_rfl))) (h:=h0d ?_)))))))))
  (first | refine h0v Tryz.results58 .nil ?_ | refine h2w Tryz.results58 .nil ?_)
  exact ⟨_, ⟨rfl, rfl⟩, fun _ H => H⟩
set_option maxHeartbeats 1000000 in
theorem bwrite_c {S w0 L} (b : Nat) (p v : Value) (hp : p = .pointer none ∨ p = bP b) (n : Nat) (bs : List Value) (e : List Blk) (hn : n ≤ 1000000) (hown : Own 5 1 v n bs e) (hv : v = .slice none 0 0 ∨ 0 < n) (s : ByteArray) (hs : s.size ≤ 1000000) (hs1 : 0 < s.size) :
  Fn Tryz.prog 29 #[bP b, .string s] S w0 (bB b p v :: (e ++ L)) fun r L' => r = h2y [.int .i64 s.size, .nilIface] ∧ ∃ v' e', Own 5 1 v' (n + s.size) (bs ++ h5p s) e' ∧ bB b (bP b) v' :: (e' ++ L) = L' := by
 have hcc := fun (L : List Blk) => ccheck_c (S:=S) (w0:=w0) (L:=L) b p v hp
 rcases h3i hown with ⟨rfl, rfl, rfl, rfl⟩ | ⟨g, cap, cur, rfl, rfl, h1, h2, h3, h4⟩
 ·clear hown hv
  refine Fn2 Tryz.func29 Tryz.ntmps29 rfl rfl ?_
  simp only [List.nil_append]
  repeat' (first | refine h0p ?_ | refine h0e ?_ | refine h1h ?_ | (refine gR 0 (p_a (h:=p_a (h:=h0d ?_)))) | (refine gR 1 (q_m ?_) <;> (try refine h0f ?_; (refine h1k (F:=58) (by kernel_rfl) rfl rfl (hcc _) ?_; rintro _ _ ⟨rfl, rfl⟩)) <;> (try refine h0d ?_)) | (refine gR 2 (p_m (h:=p_m (h:=p_n (h:=p_e (q_f fo_109_1) (h:=p_e q_l (h:=q_m ?_)))))) <;> (try refine h0f ?_; (apply K1_appendStrN; exact rfl; exact Tryz.underlying45; exact Tryz.underlying9; exact inf_5_i; exact inf_5_z; exact inf_5_s; exact inf_5_b; exact rfl; exact rfl; exact rfl; omega; omega; intro vA eA hownA; obtain ⟨gA, capA, curA, rfl, rfl, hA1, hA2, hA3, hA4⟩ := hownA.some (by omega))) <;> (try refine p_n (h:=q_e (q_f fo_109_1) ?_)) <;> (try refine h0f ?_; (apply h6p (t:=45); exact rfl; exact rfl; (focus (repeat (first | exact fd0 | apply fdA))); exact rfl; exact rfl; kernel_rfl; exact Nat.le_of_ble_eq_true rfl; exact c_28; (try simp only [List.set_cons_succ]); (try simp only [List.set_cons_zero]))) <;> (try refine h0d ?_)) | (refine gR 3 (p_m (h:=p_e (h0g rfl (fun _ => BigFrame.builtin_len ..) (h0q Tryz.underlying9)) (h:=p_a (h:=p_a (h:=h0d ?_)))))))
  (refine h0v Tryz.results29 (.tmp rfl (.tmp rfl .nil)) ?_)
  refine ⟨_, ⟨rfl, .slice (some ⟨gA, 0, none⟩) s.size capA, [⟨true, gA, .cells curA 5 (0, 0)⟩], ?_, rfl⟩, fun _ H => H.perm (.swap _ _ _)⟩
  rw [Nat.zero_add]; exact h4f hA1 hA2 hA3 hA4
 ·have hn0 : 0 < n := by
   rcases hv with h | h
   ·cases h
   ·exact h
  unfold maxLen at h2
  clear hown hv
  simp only [List.cons_append, List.nil_append]
  refine Fn2 Tryz.func29 Tryz.ntmps29 rfl rfl ?_
  repeat' (first | refine h0p ?_ | refine h0e ?_ | refine h1h ?_ | (refine gR 0 (p_a (h:=p_a (h:=h0d ?_)))) | (refine gR 1 (q_m ?_) <;> (try refine h0f ?_; (refine h1k (F:=58) (by kernel_rfl) rfl rfl (hcc _) ?_; rintro _ _ ⟨rfl, rfl⟩)) <;> (try refine h0d ?_)) | (refine gR 2 (p_m (h:=p_m (h:=p_n (h:=p_e (q_f fo_109_1) (h:=p_e q_l (h:=q_m ?_)))))) <;> (try refine h0f ?_; (apply K1_appendStrB; exact rfl; exact Tryz.underlying45; exact Tryz.underlying9; exact inf_5_i; exact inf_5_z; exact inf_5_s; exact inf_5_b; exact rfl; exact rfl; exact rfl; exact h3n; (with_reducible assumption); exact h5u; (with_reducible assumption); omega; omega; exact h6c; exact c_4; (try simp only [zzE, zzF]); intro vA eA hownA; obtain ⟨gA, capA, curA, rfl, rfl, hA1, hA2, hA3, hA4⟩ := hownA.some (by omega))) <;> (try refine p_n (h:=q_e (q_f fo_109_1) ?_)) <;> (try refine h0f ?_; (apply h6p (t:=45); exact rfl; exact rfl; (focus (repeat (first | exact fd0 | apply fdA))); exact rfl; exact rfl; kernel_rfl; exact Nat.le_of_ble_eq_true rfl; exact c_28; (try simp only [List.set_cons_succ]); (try simp only [List.set_cons_zero]))) <;> (try refine h0d ?_)) | (refine gR 3 (p_m (h:=p_e (h0g rfl (fun _ => BigFrame.builtin_len ..) (h0q Tryz.underlying9)) (h:=p_a (h:=p_a (h:=h0d ?_)))))))
  (refine h0v Tryz.results29 (.tmp rfl (.tmp rfl .nil)) ?_)
  refine ⟨_, ⟨rfl, .slice (some ⟨gA, 0, none⟩) (n + s.size) capA, [⟨true, gA, .cells curA 5 (0, 0)⟩], ?_, rfl⟩, fun _ H => H.perm (.swap _ _ _)⟩
  rw [← h4]; exact h4f hA1 hA2 hA3 hA4
set_option maxHeartbeats 1000000 in
theorem bstring_c {S w0 L} (b : Nat) (p v : Value) (z : List UInt8) (e : List Blk) (hz : 0 < z.length) (hl : z.length ≤ 1000000) (hown : Own 5 1 v z.length (Lib.byteCells z) e) :
  Fn Tryz.prog 35 #[bP b] S w0 (bB b p v :: (e ++ L)) fun r L' => r = .string (mB8 z) ∧ L = L' := by
 obtain ⟨g, cap, cur, rfl, rfl, h1, h2, h3, h4⟩ := hown.some hz
 unfold maxLen at h2
 have h4' : cur.toList.take z.length = Lib.byteCells z := by rw [Nat.mul_one] at h4; exact h4
 have hzz : z.length = z.length := rfl
 clear hown h4
 simp only [List.cons_append, List.nil_append]
 refine Fn1 Tryz.func35 Tryz.ntmps35 rfl rfl ?_
 repeat' (first | refine h0p ?_ | refine h0e ?_ | refine h1h ?_ | (refine gR 0 (p_a (h:=h0d ?_))) | ((apply h4c (i:=1) (id:=1) (m:=12); exact c_11; kernel_rfl; exact rfl) <;> (try refine q_t 0 (e:=c_6) (x:=by exact h0m rfl) (h:=q_t 1 (e:=c_6) (x:=by exact h0l rfl) (h:=q_t 2 (e:=c_6) (x:=by exact q_f fo_109_1) (h:=q_t 3 (e:=c_6) (x:=by exact q_l) (h:=q_t 4 (e:=c_6) (x:=by apply E_sliceData; exact rfl; omega) (h:=q_t 5 (e:=c_6) (x:=by exact h0m rfl) (h:=q_t 6 (e:=c_6) (x:=by exact h0l rfl) (h:=q_t 7 (e:=c_6) (x:=by exact q_f fo_109_1) (h:=q_t 8 (e:=c_6) (x:=by exact q_l) (h:=q_t 9 (e:=c_6) (x:=by apply h0g; exact rfl; exact (fun _ => BigFrame.builtin_len ..); apply h0k Tryz.underlying45; exact h4y) (h:=?_))))))))))) <;> (try refine q_r 10 ?_; (apply K1_unsafeStr; exact rfl; exact rfl; exact rfl; exact h3n; exact Tryz.underlying178; kernel_rfl; (with_reducible assumption); omega; omega; omega; (with_reducible assumption); (try simp only [zzE, zzF])); refine h1g c_6 ?_) <;> (try refine q_t 11 (e:=c_6) (x:=by exact h3g rfl) (h:=h1e (by kernel_rfl) ?_))))
 all_goals
  (refine h0v Tryz.results35 (.tmp rfl .nil) ?_)
  exact ⟨_, ⟨rfl, rfl⟩, by intro w H; refine H.sub ?_; (try simp only [zzC, zzN]); repeat (first | exact List.Sublist.refl _ | refine List.Sublist.cons _ ?_)⟩
section
variable {P : Program} {n : Nat} {l : List (Nat × Value)} {S : List Nat} {w0 : World} {L : List Blk} {d : Tmp} {ty : TypeId} {pos : String} {af : Array Edge}
theorem E_sliceDataN {x : Operand} {ats : Array TypeId} (hx : ev l x = some (.slice none 0 0)) : ValOf P n l S w0 L ⟨some d, .call { callee := .builtin .unsafeSliceData, args := #[x], argTypes := ats }, ty, pos, af, none⟩ (.pointer none) :=
 h0g (xs:=[x]) (vs:=[.slice none 0 0]) (by simp [evs, hx]) (fun cs => BigFrame.builtin_unsafeSliceData ..) ⟨fun _ => rfl⟩
theorem E_unsafeStr0 {x y : Operand} {pt it : TypeId} {p : Option Addr} (hx : ev l x = some (.pointer p)) (hy : ev l y = some (.int .i64 0)) : ValOf P n l S w0 L ⟨some d, .call { callee := .builtin .unsafeString, args := #[x, y], argTypes := #[pt, it] }, ty, pos, af, none⟩ (.string .empty) :=
 h0g (xs:=[x, y]) (vs:=[.pointer p, .int .i64 0]) (by simp [evs, hx, hy]) (fun cs => BigFrame.builtin_unsafeString ..) ⟨fun w => Lib.run_unsafeString_none w pt it _ p⟩
end
set_option maxHeartbeats 1000000 in
theorem bstring0_c {S w0 L} (b : Nat) (p : Value) :
  Fn Tryz.prog 35 #[bP b] S w0 (bB b p (.slice none 0 0) :: L) fun r L' => r = .string .empty ∧ L = L' := by
 refine Fn1 Tryz.func35 Tryz.ntmps35 rfl rfl ?_
 repeat' (first | refine h0p ?_ | refine h0d ?_ | refine h0e ?_ | refine h0t ?_ | refine h1u ?_ | refine h4u ?_ | refine h1n ?_ | refine h1f ?_ | refine h0x ?_ | refine h2p ?_ | refine h1v ?_ | refine G_blk_y rfl ?_ | refine h0r ?_ | refine h0u ?_ | refine h2o ?_ | refine h1h ?_ | refine h0j rfl ?_ | refine h0h rfl ?_ | (refine gR 0 ?_ <;> (try refine h0f ?_; (first | (refine q_k (h3g rfl) ?_))) <;> (try refine h0d ?_)) | ((refine h2q (id:=1) (m:=12) (by kernel_rfl) rfl ?_) <;> (try first | (refine q_t 0 (e:=c_13) (x:=by first | exact h0m rfl) (h:=?_)) | (refine G_stuck ?_)) <;> (try first | (refine q_t 1 (e:=c_13) (x:=by first | exact h0l rfl) (h:=?_)) | (refine G_stuck ?_)) <;> (try first | (refine q_t 2 (e:=c_13) (x:=by first | (first | (exact q_f fo_109_1) | (exact q_g fo_109_1))) (h:=?_)) | (refine G_stuck ?_)) <;> (try first | (refine q_t 3 (e:=c_13) (x:=by first | (apply h1l (t:=45); exact rfl; (focus (repeat (first | exact fd0 | (with_reducible assumption) | apply fdA | apply fdS))); kernel_rfl; kernel_rfl; (focus (first | (with_reducible assumption) | exact rfl)))) (h:=?_)) | (refine G_stuck ?_)) <;> (try first | (refine q_t 4 (e:=c_13) (x:=by first | (apply E_sliceDataN; exact rfl)) (h:=?_)) | (refine G_stuck ?_)) <;> (try first | (refine q_t 5 (e:=c_13) (x:=by first | exact h0m rfl) (h:=?_)) | (refine G_stuck ?_)) <;> (try first | (refine q_t 6 (e:=c_13) (x:=by first | exact h0l rfl) (h:=?_)) | (refine G_stuck ?_)) <;> (try first | (refine q_t 7 (e:=c_13) (x:=by first | (first | (exact q_f fo_109_1) | (exact q_g fo_109_1))) (h:=?_)) | (refine G_stuck ?_)) <;> (try first | (refine q_t 8 (e:=c_13) (x:=by first | (apply h1l (t:=45); exact rfl; (focus (repeat (first | exact fd0 | (with_reducible assumption) | apply fdA | apply fdS))); kernel_rfl; kernel_rfl; (focus (first | (with_reducible assumption) | exact rfl)))) (h:=?_)) | (refine G_stuck ?_)) <;> (try first | (refine q_t 9 (e:=c_13) (x:=by first | (apply h0g; exact rfl; exact (fun _ => BigFrame.builtin_len ..); apply h0k Tryz.underlying45; exact h4y)) (h:=?_)) | (refine G_stuck ?_)) <;> (try first | (refine q_t 10 (e:=c_13) (x:=by first | (apply E_unsafeStr0; exact rfl; exact rfl)) (h:=?_)) | (refine G_stuck ?_)) <;> (try first | (refine q_t 11 (e:=c_13) (x:=by first | exact h3g rfl) (h:=?_)) | (refine G_stuck ?_)) <;> (try refine h1e (by kernel_rfl) ?_)) | ((first | (refine G_cond_nd rfl (fun hc => ?_) (fun hc => ?_)) | (refine h5v rfl (fun hc => ?_) (fun hc => ?_)) | (refine G_cond rfl (fun hc => ?_) (fun hc => ?_))) <;> (try subst hc)))
 all_goals
  (refine h0v Tryz.results35 (.tmp rfl .nil) ?_)
  exact ⟨_, ⟨rfl, rfl⟩, by intro w H; refine H.sub ?_; (try simp only [zzC, zzN]); repeat (first | exact List.Sublist.refl _ | refine List.Sublist.cons_cons _ ?_ | refine List.Sublist.cons _ ?_ | refine List.sublist_append_of_sublist_right ?_)⟩
def BldI (b : Nat) (z : List UInt8) (B : List Blk) : Prop := ∃ p v e, B = bB b p v :: e ∧ (p = .pointer none ∨ p = bP b) ∧ Own 5 1 v z.length (Lib.byteCells z) e ∧ (v = .slice none 0 0 ∨ 0 < z.length)
theorem bldi_0 (b : Nat) : BldI b [] [bB b (.pointer none) (.slice none 0 0)] := ⟨_, _, [], rfl, .inl rfl, Own.nil _ _, .inl rfl⟩
theorem bldi_t {S w0 L} {b : Nat} {z : List UInt8} {B : List Blk} (h : BldI b z B) (hz : z.length ≤ 1000000) (s : ByteArray) (hs : s.size ≤ 1000000) (hs1 : 0 < s.size) :
  Fn Tryz.prog 29 #[bP b, .string s] S w0 (B ++ L) fun r L' => r = h2y [.int .i64 s.size, .nilIface] ∧ ∃ B', BldI b (z ++ lB s) B' ∧ B' ++ L = L' := by
 obtain ⟨p, v, e, rfl, hp, hown, hnn⟩ := h
 refine (bwrite_c (S:=S) (w0:=w0) (L:=L) b p v hp _ _ e hz hown hnn s hs hs1).mono ?_
 rintro r L' ⟨rfl, v', e', h', rfl⟩
 refine ⟨_, ⟨rfl, bB b (bP b) v' :: e', ⟨_, v', e', rfl, .inr rfl, ?_, .inr ?_⟩, rfl⟩, fun _ H => H⟩
 ·have e1 : (z ++ lB s).length = z.length + s.size := by rw [List.length_append, h3d]
  have e2 : Lib.byteCells (z ++ lB s) = Lib.byteCells z ++ h5p s := by
   unfold Lib.byteCells
   rw [List.map_append]; rfl
  rw [e1, e2]; exact h'
 ·rw [List.length_append, h3d]; omega
theorem bldi_s {S w0 L} {b : Nat} {z : List UInt8} {B : List Blk} (h : BldI b z B) (hz : z.length ≤ 1000000) :
  Fn Tryz.prog 35 #[bP b] S w0 (B ++ L) fun r L' => r = .string (mB8 z) ∧ L = L' := by
 obtain ⟨p, v, e, rfl, hp, hown, hnn⟩ := h
 by_cases h0 : 0 < z.length
 ·exact bstring_c b p v z e h0 hz hown
 ·have hv : v = .slice none 0 0 := by
   rcases hnn with h | h
   ·exact h
   ·exact absurd h h0
  subst hv
  have hz0 : z = [] := List.eq_nil_of_length_eq_zero (by omega)
  subst hz0
  exact .mk fun w H => (bstring0_c (S:=S) (w0:=w0) (L:=L) b p).out w (H.sub (.cons_cons _ (List.sublist_append_right _ _)))
end Go.Proofs.YtecbgehooembmaaGreatDoor
