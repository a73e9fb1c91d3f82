/- Part 4 of what the last text of this claim leans on: rules of walks, contracts, plain facts. Conditions: those of each statement. -/
import Derived.Test.YtecbgehooembmaaGreatDoorQb3
set_option maxRecDepth 100000
namespace Go.Proofs.YtecbgehooembmaaGreatDoor
open Go Go.RowKit
theorem hasF_nat {n m : Nat} (h : Rg.hasF n m = true) : m &&& n = m := by
 unfold Rg.hasF at h
 rw [decide_eq_true_eq] at h
 unfold h4u at h
 rw [Int.toNat_natCast, Int.toNat_natCast] at h
 have h2 : m ^^^ (m &&& n) = 0 := by omega
 apply Nat.eq_of_testBit_eq
 intro i
 have h3 : (m ^^^ (m &&& n)).testBit i = false := by rw [h2]; exact Nat.zero_testBit i
 rw [Nat.testBit_xor, Nat.testBit_and] at h3
 rw [Nat.testBit_and]
 revert h3
 cases m.testBit i <;> cases n.testBit i <;> simp
theorem nat_hasF {n m : Nat} (h : m &&& n = m) : Rg.hasF n m = true := by
 unfold Rg.hasF
 rw [decide_eq_true_eq]
 unfold h4u
 rw [Int.toNat_natCast, Int.toNat_natCast, h, Nat.xor_self]; rfl
structure RulOk (r : RulP) : Prop where
 num : (h4w r.num clls).isSome = true
 act0 : 0 ≤ r.act
 act : h6d r.act = true
 len : r.conds.length ≤ 6
 conds : ∀ c ∈ r.conds, CndOk c
structure PolOk (P : Pol) : Prop where
 nm : Wd.wordF (mB8 P.nm) = true
 df0 : 0 ≤ P.df
 df : h6d P.df = true
 rules : ∀ r ∈ P.rules, RulOk r
 hd : P.hd &&& 51199 = P.hd
 l1 : P.rules.length ≤ 64
 l2 : P.paths.length ≤ 32
 l3 : P.ports.length ≤ 32
 paths : ∀ p ∈ P.paths, Pt.pathF p.1 = true ∧ p.2 ≠ 0 ∧ p.2 &&& P.hd = p.2 ∧ p.2 &&& 2047 = p.2
 pnd : (P.paths.map (·.1)).Nodup
 ports : ∀ p ∈ P.ports, p.1 < 65536 ∧ p.2 ≠ 0 ∧ p.2 &&& P.hd = p.2 ∧ p.2 &&& 49152 = p.2
 qnd : (P.ports.map (·.1)).Nodup
theorem set_tk (kd n : Nat) (r : List Tk) (h0 : n ≠ 0) (h1 : n &&& 51199 = n) (h2 : n &&& kd = n) : setF kd (tk0 (wN (rgT n)) :: r, w0z) = (n, (r, w0z)) := by
 have hp := (Rg.parse_text n).2 (by rw [h1]; exact h0)
 rw [h1] at hp
 unfold setF
 rw [h6i (wN (rgT n))]
 have e : (tk0 (wN (rgT n))).text = lB (Rg.textF n) := rfl
 dsimp only
 rw [e, hp]
 dsimp only
 rw [if_neg (fun h => h rfl), nat_hasF h2, if_neg (fun h => by cases h)]
theorem and_sub {a b c : Nat} (h1 : a &&& b = a) (h2 : b &&& c = b) : a &&& c = a := by rw [← h1, Nat.and_assoc, h2]
theorem names_n : (clls.all fun m => decide ((h1g 44 (lB m.name)).length ≤ 1)) = true := by decide +kernel
theorem names_back : clls.map (fun m => nameF (mB8 (lB m.name)) clls) = clls.map some := by kernel_rfl
theorem name_tk {n : Int} (h : (h4w n clls).isSome = true) : (h1g 44 (h5j n)).length ≤ 1 ∧ (nameF (mB8 (h5j n)) clls).isSome = true ∧ cnO (nameF (mB8 (h5j n)) clls) = n := by
 cases hc : h4w n clls with
 | none => rw [hc] at h; cases h
 | some c =>
  obtain ⟨h1, h2⟩ := cnumF_mem hc
  have h3 := List.all_eq_true.1 names_n c h1
  have h4 := List.map_inj_left.1 names_back c h1
  rw [decide_eq_true_eq] at h3
  unfold h5j
  rw [hc]
  dsimp only at h4 ⊢
  rw [h4]
  exact ⟨h3, rfl, h2⟩
theorem rule_tk (at_ : Tk) (rs : List RulP) (r : RulP) (h : RulOk r) (hl : rs.length < 64) (tl : List Tk) :
  rulF at_ rs ((rulL r).tail.map tk0 ++ (⟨0, [], 0, 1, 1⟩ :: tl), w0z) = (rs ++ [r], (⟨0, [], 0, 1, 1⟩ :: tl, w0z)) := by
 obtain ⟨num, act, conds⟩ := r
 obtain ⟨h1, h2, h3, h4, h5⟩ := h
 dsimp only at *
 obtain ⟨g1, g2, g3⟩ := name_tk h1
 have e1 : (rulL ⟨num, act, conds⟩).tail.map tk0 ++ (⟨0, [], 0, 1, 1⟩ :: tl) = tk0 (wN (h5j num)) :: ((actL act).map tk0 ++ ((cndsL tIf conds).map tk0 ++ (⟨0, [], 0, 1, 1⟩ :: tl))) := by
  simp [rulL]
 rw [e1]
 have e2 : (tk0 (wN (h5j num))).text = h5j num := rfl
 have hw := word_tk (h5j num) ((actL act).map tk0 ++ ((cndsL tIf conds).map tk0 ++ (⟨0, [], 0, 1, 1⟩ :: tl))) g1
 unfold rulF rul3 rul2 rul1 rulN rulC
 rw [hw]
 dsimp only
 rw [e2, if_pos g2, act_tk act h2 h3, g3]
 dsimp only
 rw [cnds_tk conds h5 tIf [] tl _ (by rw [List.nil_append]; exact h4) (Nat.lt_succ_self _), if_neg (by omega), List.nil_append]
theorem ben_tk (at_ : Tk) (hd : Nat) (ps : List (List UInt8 × Nat)) (p : List UInt8 × Nat) (hl : ps.length < 32) (hh : hd &&& 51199 = hd) (h1 : Pt.pathF p.1 = true) (h2 : p.2 ≠ 0) (h3 : p.2 &&& hd = p.2) (h4 : p.2 &&& 2047 = p.2) (h5 : p.1 ∉ ps.map (·.1)) (tl : List Tk) :
  benF hd at_ ps ((benL p).tail.map tk0 ++ (⟨0, [], 0, 1, 1⟩ :: tl), w0z) = (ps ++ [p], (⟨0, [], 0, 1, 1⟩ :: tl, w0z)) := by
 obtain ⟨s, n⟩ := p
 dsimp only at *
 have e1 : (benL (s, n)).tail.map tk0 ++ (⟨0, [], 0, 1, 1⟩ :: tl) = tk0 (wP s) :: tk0 (wN (rgT n)) :: (⟨0, [], 0, 1, 1⟩ :: tl) := rfl
 rw [e1]
 have e2 : (tk0 (wP s)).text = s := rfl
 have hb1 : ben1 (tk0 (wP s) :: tk0 (wN (rgT n)) :: (⟨0, [], 0, 1, 1⟩ :: tl), w0z) = (tk0 (wN (rgT n)) :: (⟨0, [], 0, 1, 1⟩ :: tl), w0z) := by
  unfold ben1
  rw [h6i (wP s)]
  dsimp only
  rw [e2, if_neg (fun h => by rw [h1] at h; cases h.2)]
 have hb2 : ben2 hd (tk0 (wP s) :: tk0 (wN (rgT n)) :: (⟨0, [], 0, 1, 1⟩ :: tl), w0z) = (n, (⟨0, [], 0, 1, 1⟩ :: tl, w0z)) := by
  unfold ben2
  rw [hb1, set_tk _ n _ h2 (and_sub h3 hh) (by rw [← Nat.and_assoc, h3, h4])]
 unfold benF ben3
 rw [hb2, h6i (wP s)]
 dsimp only
 rw [e2, if_neg h5, if_neg (by omega)]
theorem por_tk (at_ : Tk) (hd : Nat) (ps : List (Nat × Nat)) (p : Nat × Nat) (hl : ps.length < 32) (hh : hd &&& 51199 = hd) (h1 : p.1 < 65536) (h2 : p.2 ≠ 0) (h3 : p.2 &&& hd = p.2) (h4 : p.2 &&& 49152 = p.2) (h5 : p.1 ∉ ps.map (·.1)) (tl : List Tk) :
  porF hd at_ ps ((porL p).tail.map tk0 ++ (⟨0, [], 0, 1, 1⟩ :: tl), w0z) = (ps ++ [p], (⟨0, [], 0, 1, 1⟩ :: tl, w0z)) := by
 obtain ⟨s, n⟩ := p
 dsimp only at *
 have e1 : (porL (s, n)).tail.map tk0 ++ (⟨0, [], 0, 1, 1⟩ :: tl) = tk0 (wD s) :: tk0 (wN (rgT n)) :: (⟨0, [], 0, 1, 1⟩ :: tl) := rfl
 rw [e1]
 have e2 : (tk0 (wD s)).num = s := rfl
 have hb1 : por1 (tk0 (wD s) :: tk0 (wN (rgT n)) :: (⟨0, [], 0, 1, 1⟩ :: tl), w0z) = (tk0 (wN (rgT n)) :: (⟨0, [], 0, 1, 1⟩ :: tl), w0z) := by
  unfold por1
  rw [h6i (wD s)]
  dsimp only
  rw [e2, if_neg (by omega)]
 have hbn : porN (tk0 (wD s) :: tk0 (wN (rgT n)) :: (⟨0, [], 0, 1, 1⟩ :: tl), w0z) = s := by
  unfold porN
  rw [h6i (wD s)]
  dsimp only
  rw [e2]
  exact Nat.mod_eq_of_lt h1
 have hb2 : por2 hd (tk0 (wD s) :: tk0 (wN (rgT n)) :: (⟨0, [], 0, 1, 1⟩ :: tl), w0z) = (n, (⟨0, [], 0, 1, 1⟩ :: tl, w0z)) := by
  unfold por2
  rw [hb1, set_tk _ n _ h2 (and_sub h3 hh) (by rw [← Nat.and_assoc, h3, h4])]
 unfold porF por3
 rw [hb2, hbn]
 dsimp only
 rw [if_neg h5, if_neg (by omega)]
theorem han_tk (at_ : Tk) (n : Nat) (h0 : n ≠ 0) (hh : n &&& 51199 = n) (tl : List Tk) :
  hanF 0 at_ (tk0 (wN (rgT n)) :: (⟨0, [], 0, 1, 1⟩ :: tl), w0z) = (n, (⟨0, [], 0, 1, 1⟩ :: tl, w0z)) := by
 unfold hanF
 dsimp only
 rw [if_neg (fun h => h rfl), set_tk _ n _ h0 hh hh]
theorem line_tk {P P' : Pol} {ws : List W3} {k : List UInt8} {r : List W3} (hw : ws = wN k :: r) (hc : ∀ tl, lineW P (tk0 (wN k)) (r.map tk0 ++ (⟨0, [], 0, 1, 1⟩ :: tl), w0z) = (P', (⟨0, [], 0, 1, 1⟩ :: tl, w0z))) (D : List (List W3)) (f : Nat) :
  h3c (f + 1) (P, (toks (ws :: D), w0z)) = h3c f (P', (toks D, w0z)) := by
 subst hw
 have e1 : toks ((wN k :: r) :: D) = tk0 (wN k) :: (r.map tk0 ++ (⟨0, [], 0, 1, 1⟩ :: toks D)) := by rw [toks_cons]; rfl
 rw [e1, h3c, if_neg (fun h => h.elim (fun h => by cases h) (fun h => h rfl))]
 unfold lineP
 rw [h6i (wN k)]
 dsimp only
 rw [hc (toks D)]
 dsimp only
 rw [take_end]
theorem lines_rules (P : Pol) (D : List (List W3)) (rs : List RulP) : ∀ (P0 : Pol) (f : Nat), (∀ r ∈ rs, RulOk r) → P0.rules.length + rs.length ≤ 64 → h3c (rs.length + f) (P0, (toks (rs.map rulL ++ D), w0z)) = h3c f ({ P0 with rules := P0.rules ++ rs }, (toks D, w0z)) := by
 induction rs with
 | nil => intro P0 f _ _; rw [List.append_nil]; simp
 | cons r rs ih =>
  intro P0 f h hl
  rw [List.length_cons] at hl
  rw [List.map_cons, List.cons_append, List.length_cons, show rs.length + 1 + f = (rs.length + f) + 1 by omega,
   line_tk (P' := { P0 with rules := P0.rules ++ [r] }) (ws:=rulL r) (k:=tCall) (r:=(rulL r).tail) rfl (fun tl => by
    unfold lineW
    rw [if_pos (show (tk0 (wN tCall)).text = tCall from rfl), rule_tk _ _ r (h r (List.mem_cons_self ..)) (by omega)]),
   ih { P0 with rules := P0.rules ++ [r] } f (fun q hq => h q (List.mem_cons_of_mem _ hq)) (by show (P0.rules ++ [r]).length + rs.length ≤ 64; rw [List.length_append, List.length_singleton]; omega)]
  simp
theorem lines_paths (D : List (List W3)) (ps : List (List UInt8 × Nat)) : ∀ (P0 : Pol) (f : Nat), P0.hd &&& 51199 = P0.hd → (∀ p ∈ ps, Pt.pathF p.1 = true ∧ p.2 ≠ 0 ∧ p.2 &&& P0.hd = p.2 ∧ p.2 &&& 2047 = p.2) → ((P0.paths ++ ps).map (·.1)).Nodup → P0.paths.length + ps.length ≤ 32 →
  h3c (ps.length + f) (P0, (toks (ps.map benL ++ D), w0z)) = h3c f ({ P0 with paths := P0.paths ++ ps }, (toks D, w0z)) := by
 induction ps with
 | nil => intro P0 f _ _ _ _; rw [List.append_nil]; simp
 | cons p ps ih =>
  intro P0 f hh h hn hl
  rw [List.length_cons] at hl
  obtain ⟨h1, h2, h3, h4⟩ := h p (List.mem_cons_self ..)
  have h5 : p.1 ∉ P0.paths.map (·.1) := by
   rw [List.map_append, List.nodup_append] at hn
   intro hm
   exact hn.2.2 _ hm _ (List.mem_cons_self ..) rfl
  rw [List.map_cons, List.cons_append, List.length_cons, show ps.length + 1 + f = (ps.length + f) + 1 by omega,
   line_tk (P' := { P0 with paths := P0.paths ++ [p] }) (ws:=benL p) (k:=tBeneath) (r:=(benL p).tail) rfl (fun tl => by
    unfold lineW
    rw [if_neg (by decide), if_neg (by decide), if_pos (show (tk0 (wN tBeneath)).text = tBeneath from rfl), ben_tk _ _ _ p (by omega) hh h1 h2 h3 h4 h5]),
   ih { P0 with paths := P0.paths ++ [p] } f hh (fun q hq => h q (List.mem_cons_of_mem _ hq)) (by simpa using hn) (by show (P0.paths ++ [p]).length + ps.length ≤ 32; rw [List.length_append, List.length_singleton]; omega)]
  simp
theorem lines_ports (D : List (List W3)) (ps : List (Nat × Nat)) : ∀ (P0 : Pol) (f : Nat), P0.hd &&& 51199 = P0.hd → (∀ p ∈ ps, p.1 < 65536 ∧ p.2 ≠ 0 ∧ p.2 &&& P0.hd = p.2 ∧ p.2 &&& 49152 = p.2) → ((P0.ports ++ ps).map (·.1)).Nodup → P0.ports.length + ps.length ≤ 32 →
  h3c (ps.length + f) (P0, (toks (ps.map porL ++ D), w0z)) = h3c f ({ P0 with ports := P0.ports ++ ps }, (toks D, w0z)) := by
 induction ps with
 | nil => intro P0 f _ _ _ _; rw [List.append_nil]; simp
 | cons p ps ih =>
  intro P0 f hh h hn hl
  rw [List.length_cons] at hl
  obtain ⟨h1, h2, h3, h4⟩ := h p (List.mem_cons_self ..)
  have h5 : p.1 ∉ P0.ports.map (·.1) := by
   rw [List.map_append, List.nodup_append] at hn
   intro hm
   exact hn.2.2 _ hm _ (List.mem_cons_self ..) rfl
  rw [List.map_cons, List.cons_append, List.length_cons, show ps.length + 1 + f = (ps.length + f) + 1 by omega,
   line_tk (P' := { P0 with ports := P0.ports ++ [p] }) (ws:=porL p) (k:=tPort) (r:=(porL p).tail) rfl (fun tl => by
    unfold lineW
    rw [if_neg (by decide), if_neg (by decide), if_neg (by decide), if_pos (show (tk0 (wN tPort)).text = tPort from rfl), por_tk _ _ _ p (by omega) hh h1 h2 h3 h4 h5]),
   ih { P0 with ports := P0.ports ++ [p] } f hh (fun q hq => h q (List.mem_cons_of_mem _ hq)) (by simpa using hn) (by show (P0.ports ++ [p]).length + ps.length ≤ 32; rw [List.length_append, List.length_singleton]; omega)]
  simp
theorem toks_len (D : List (List W3)) : D.length ≤ (toks D).length := by
 induction D with
 | nil => exact Nat.le_refl _
 | cons ws D ih => rw [toks_cons, List.length_append, List.length_cons, List.length_cons]; omega
theorem word_nc {s : List UInt8} (h : Wd.wordF (mB8 s) = true) : (h1g 44 s).length ≤ 1 := by
 have hn : (44 : UInt8) ∉ s := by
  intro hm
  have hb : Wd.bI (mB8 s) = s.map fun c => (c.toNat : Int) := by
   unfold Wd.bI
   have e : (mB8 s).data.toList = s := by have := h3y s; exact this
   rw [e]
  unfold Wd.wordF at h
  rw [hb] at h
  have hm2 : (44 : Int) ∈ s.map fun c => (c.toNat : Int) := List.mem_map.2 ⟨44, hm, rfl⟩
  generalize s.map (fun c => (c.toNat : Int)) = l at *
  cases l with
  | nil => cases hm2
  | cons c r =>
   simp only [Bool.and_eq_true] at h
   rcases List.mem_cons.1 hm2 with rfl | h2
   ·exact absurd h.1.1 (by decide)
   ·exact absurd (List.all_eq_true.1 h.1.2 _ h2) (by decide)
 rw [splitC_len, List.count_eq_zero.2 hn]
 exact Nat.le_refl _
theorem all_tk (P : Pol) (h : PolOk P) : allP (toks (polL P), w0z) = (P, ([], w0z)) := by
 have e1 : toks (polL P) = tk0 (wN tPolicy) :: tk0 (wN P.nm) :: ⟨0, [], 0, 1, 1⟩ :: tk0 (wN tDefault) :: ((actL P.df).map tk0 ++ (⟨0, [], 0, 1, 1⟩ :: toks (P.rules.map rulL ++ (hanL P.hd ++ (P.paths.map benL ++ P.ports.map porL))))) := by
  unfold polL
  rw [toks_cons, toks_cons]; simp
 rw [e1]
 generalize hD : toks (P.rules.map rulL ++ (hanL P.hd ++ (P.paths.map benL ++ P.ports.map porL))) = D
 have e2 : ∀ r, h2a (tk0 (wN P.nm) :: r, w0z) = (tk0 (wN P.nm), (r, w0z)) := fun r => word_tk _ r (word_nc h.nm)
 have e3 : (tk0 (wN P.nm)).text = P.nm := rfl
 have hn : nmS (tk0 (wN tPolicy) :: tk0 (wN P.nm) :: ⟨0, [], 0, 1, 1⟩ :: tk0 (wN tDefault) :: ((actL P.df).map tk0 ++ (⟨0, [], 0, 1, 1⟩ :: D)), w0z) = (⟨0, [], 0, 1, 1⟩ :: tk0 (wN tDefault) :: ((actL P.df).map tk0 ++ (⟨0, [], 0, 1, 1⟩ :: D)), w0z) := by
  unfold nmS
  rw [key_tk, e2]
  dsimp only
  rw [e3, h.nm, if_neg (fun h => by cases h.2)]
 have hdf : dfS (tk0 (wN tPolicy) :: tk0 (wN P.nm) :: ⟨0, [], 0, 1, 1⟩ :: tk0 (wN tDefault) :: ((actL P.df).map tk0 ++ (⟨0, [], 0, 1, 1⟩ :: D)), w0z) = (P.df, (⟨0, [], 0, 1, 1⟩ :: D, w0z)) := by
  unfold dfS
  rw [hn, take_end]
  dsimp only
  rw [key_tk, act_tk P.df h.df0 h.df]
 unfold allP polS
 rw [hdf, key_tk, e2]
 dsimp only
 rw [take_end, e3]
 dsimp only
 have hf : ∃ f, D.length + 1 = P.rules.length + ((hanL P.hd).length + (P.paths.length + (P.ports.length + (f + 1)))) := by
  have := toks_len (P.rules.map rulL ++ (hanL P.hd ++ (P.paths.map benL ++ P.ports.map porL)))
  rw [hD] at this
  simp only [List.length_append, List.length_map] at this
  exact ⟨D.length - (P.rules.length + ((hanL P.hd).length + (P.paths.length + P.ports.length))), by omega⟩
 obtain ⟨f, hf⟩ := hf
 rw [hf, ← hD]
 have hh : ∀ (Q : Pol) (E : List (List W3)) (g : Nat), Q.hd = 0 → h3c ((hanL P.hd).length + g) (Q, (toks (hanL P.hd ++ E), w0z)) = h3c g ({ Q with hd := P.hd }, (toks E, w0z)) := by
  intro Q E g hq
  unfold hanL
  by_cases h0 : P.hd ≠ 0
  ·rw [if_pos h0]
   have hk : ∀ tl, lineW Q (tk0 (wN tHandle)) ([wN (rgT P.hd)].map tk0 ++ (⟨0, [], 0, 1, 1⟩ :: tl), w0z) = ({ Q with hd := P.hd }, (⟨0, [], 0, 1, 1⟩ :: tl, w0z)) := by
    intro tl
    unfold lineW
    rw [if_neg (by decide), if_pos (show (tk0 (wN tHandle)).text = tHandle from rfl), hq]
    have e := han_tk (tk0 (wN tHandle)) P.hd h0 h.hd tl
    show (_, (hanF 0 (tk0 (wN tHandle)) (tk0 (wN (rgT P.hd)) :: (⟨0, [], 0, 1, 1⟩ :: tl), w0z)).2) = _
    rw [e]
    show (({ Q with hd := (hanF 0 (tk0 (wN tHandle)) (tk0 (wN (rgT P.hd)) :: (⟨0, [], 0, 1, 1⟩ :: tl), w0z)).1 } : Pol), _) = _
    rw [e]
   show h3c (1 + g) (Q, (toks ([wN tHandle, wN (rgT P.hd)] :: E), w0z)) = _
   rw [Nat.add_comm, line_tk (ws:=[wN tHandle, wN (rgT P.hd)]) (P' := { Q with hd := P.hd }) (k:=tHandle) (r:=[wN (rgT P.hd)]) rfl hk]
  ·rw [if_neg h0]
   have h1 : P.hd = 0 := by omega
   have e : ({ Q with hd := P.hd } : Pol) = Q := by rw [h1, ← hq]
   rw [e]
   show h3c (0 + g) (Q, (toks E, w0z)) = _
   rw [Nat.zero_add]
 rw [lines_rules P _ P.rules ⟨P.nm, P.df, [], 0, [], []⟩ _ h.rules (by simpa using h.l1)]
 dsimp only [List.nil_append]
 rw [hh ⟨P.nm, P.df, P.rules, 0, [], []⟩ _ _ rfl]
 dsimp only
 rw [lines_paths _ P.paths ⟨P.nm, P.df, P.rules, P.hd, [], []⟩ _ h.hd h.paths (by simpa using h.pnd) (by simpa using h.l2)]
 dsimp only [List.nil_append]
 have e5 : P.ports.map porL = P.ports.map porL ++ [] := (List.append_nil _).symm
 rw [e5, lines_ports [] P.ports ⟨P.nm, P.df, P.rules, P.hd, P.paths, []⟩ _ h.hd h.ports (by simpa using h.qnd) (by simpa using h.l3)]
 dsimp only [List.nil_append]
 show h3c (f + 1) (_, ([], w0z)) = _
 rw [h3c, if_pos (Or.inl rfl)]
theorem wl_all {p : UInt8 → Bool} {l : List UInt8} (h : ∀ c ∈ l, p c = true) : wl p l = l.length := by
 induction l with
 | nil => rfl
 | cons c r ih => rw [wl_yes _ (h c (List.mem_cons_self ..)), ih (fun x hx => h x (List.mem_cons_of_mem _ hx)), List.length_cons]
theorem wl_stop {p : UInt8 → Bool} {l r : List UInt8} {c : UInt8} (h : ∀ x ∈ l, p x = true) (hc : p c = false) : wl p (l ++ c :: r) = l.length := by
 induction l with
 | nil => exact wl_no _ hc
 | cons x l ih => rw [List.cons_append, wl_yes _ (h x (List.mem_cons_self ..)), ih (fun y hy => h y (List.mem_cons_of_mem _ hy)), List.length_cons]
theorem splitC_no {c : UInt8} {l : List UInt8} (h : c ∉ l) : h1g c l = [l] := ix_none (List.count_eq_zero.2 h)
structure GTk (t : Tk) : Prop where
 kind : t.kind ≠ 0
 word : ∃ c r, t.text = c :: r ∧ blkF c = false ∧ h2e c = t.kind
 pred : ∀ x ∈ t.text, h5o t.kind x = true
 right : h4c t.kind t.text = (0, t.num)
def Blks (g : List UInt8) : Prop := ∀ x ∈ g, blkF x = true
theorem blk_pred : ∀ c : UInt8, ∀ x : UInt8, blkF x = true → h5o (h2e c) x = false := by
 intro c x hx
 have hk : h2e c = 1 ∨ h2e c = 2 ∨ h2e c = 3 ∨ h2e c = 4 := by
  unfold h2e
  split
  ·left; rfl
  ·split
   ·right; left; rfl
   ·split
    ·right; right; left; rfl
    ·right; right; right; rfl
 have hx3 : x = 32 ∨ x = 9 ∨ x = 13 := by
  unfold blkF at hx
  simp only [Bool.or_eq_true, decide_eq_true_eq] at hx
  rcases hx with (h | h) | h
  ·exact .inl h
  ·exact .inr (.inl h)
  ·exact .inr (.inr h)
 rcases hk with h | h | h | h <;> rw [h] <;> rcases hx3 with rfl | rfl | rfl <;> decide
def pcs (ws : List (List UInt8 × Tk)) : List UInt8 := ws.flatMap fun p => p.1 ++ p.2.text
def tokL (line : Nat) : Nat → List (List UInt8 × Tk) → List Tk
 | _, [] => []
 | a, (g, t) :: r => ⟨t.kind, t.text, t.num, line, a + g.length + 1⟩ :: tokL line (a + g.length + t.text.length) r
def Apart : List (List UInt8 × Tk) → Prop
 | [] => True
 | p :: r => Blks p.1 ∧ GTk p.2 ∧ (∀ q ∈ r.head?, q.1 ≠ []) ∧ Apart r
theorem wl_gap {p : UInt8 → Bool} {w rest : List UInt8} (hw : ∀ x ∈ w, p x = true) (hr : ∀ x ∈ rest.head?, p x = false) : wl p (w ++ rest) = w.length := by
 cases rest with
 | nil => rw [List.append_nil]; exact wl_all hw
 | cons x r => exact wl_stop hw (hr x rfl)
theorem next_gap (line : Nat) {pre g rest : List UInt8} {t : Tk} (hg : Blks g) (ht : GTk t) (hr : ∀ x ∈ rest.head?, blkF x = true) :
  nextF line (pre ++ (g ++ t.text ++ rest)) pre.length = .tok ⟨t.kind, t.text, t.num, line, pre.length + g.length + 1⟩ (pre.length + g.length + t.text.length) := by
 obtain ⟨c, r, hc, hb, hk⟩ := ht.word
 have e1 : (pre ++ (g ++ t.text ++ rest)).drop pre.length = g ++ (t.text ++ rest) := by rw [List.drop_left, List.append_assoc]
 have e2 : wl blkF (g ++ (t.text ++ rest)) = g.length := by
  rw [hc, List.cons_append]
  exact wl_stop hg hb
 have e3 : (pre ++ (g ++ t.text ++ rest)).drop (pre.length + g.length) = t.text ++ rest := by
  rw [← List.drop_drop, e1, List.drop_left]
 have e4 : wl (h5o (h2e c)) (t.text ++ rest) = t.text.length := by
  refine wl_gap (fun x hx => by rw [hk]; exact ht.pred x hx) (fun x hx => blk_pred c x (hr x hx))
 unfold nextF
 rw [e1, e2, e3]
 have e5 : t.text ++ rest = c :: (r ++ rest) := by rw [hc]; rfl
 rw [e5]
 show nextAt line (pre.length + g.length) (c :: (r ++ rest)) c = _
 have hn : nextAt line (pre.length + g.length) (c :: (r ++ rest)) c = (if (h4c (h2e c) ((c :: (r ++ rest)).take (wl (h5o (h2e c)) (c :: (r ++ rest))))).1 = 0 then Nx.tok ⟨h2e c, (c :: (r ++ rest)).take (wl (h5o (h2e c)) (c :: (r ++ rest))), (h4c (h2e c) ((c :: (r ++ rest)).take (wl (h5o (h2e c)) (c :: (r ++ rest))))).2, line, pre.length + g.length + 1⟩ (pre.length + g.length + wl (h5o (h2e c)) (c :: (r ++ rest))) else .wrong (pre.length + g.length + 1) (h4c (h2e c) ((c :: (r ++ rest)).take (wl (h5o (h2e c)) (c :: (r ++ rest))))).1) := rfl
 rw [hn, ← e5, e4, List.take_left, hk, ht.right]
 rw [if_pos rfl]
theorem next_tail (line : Nat) {pre tail : List UInt8} (ht : Blks tail) : nextF line (pre ++ tail) pre.length = .done := by
 unfold nextF
 have e1 : wl blkF ((pre ++ tail).drop pre.length) = tail.length := by rw [List.drop_left]; exact wl_all ht
 rw [e1, ← List.length_append, List.drop_length]
theorem pcs_cons (p : List UInt8 × Tk) (r : List (List UInt8 × Tk)) : pcs (p :: r) = p.1 ++ p.2.text ++ pcs r := by simp [pcs]
theorem apart_head {p : List UInt8 × Tk} {r : List (List UInt8 × Tk)} {tail : List UInt8} (h : Apart (p :: r)) (ht : Blks tail) : ∀ x ∈ (pcs r ++ tail).head?, blkF x = true := by
 intro x hx
 obtain ⟨h1, h2, h3, h4⟩ := h
 cases r with
 | nil =>
  have hx : x ∈ tail.head? := hx
  exact ht x (List.mem_of_mem_head? hx)
 | cons q r =>
  have hq := h3 q rfl
  obtain ⟨k1, k2, k3, k4⟩ := h4
  rw [pcs_cons] at hx
  cases hg : q.1 with
  | nil => exact absurd hg hq
  | cons b g =>
   rw [hg] at hx k1
   have : x = b := by simpa using hx.symm
   rw [this]
   exact k1 b (List.mem_cons_self ..)
theorem lexGo_pcs (line : Nat) (ws : List (List UInt8 × Tk)) (hw : Apart ws) {tail : List UInt8} (ht : Blks tail) : ∀ (pre : List UInt8) (f : Nat), ws.length < f → h6a line (pre ++ (pcs ws ++ tail)) f pre.length [] = (tokL line pre.length ws, none) := by
 induction ws with
 | nil =>
  intro pre f hf
  obtain ⟨f, rfl⟩ : ∃ g, f = g + 1 := ⟨f - 1, by simp at hf; omega⟩
  have : pcs [] ++ tail = tail := rfl
  rw [this, h6a, next_tail line ht]; rfl
 | cons p r ih =>
  intro pre f hf
  obtain ⟨f, rfl⟩ : ∃ g, f = g + 1 := ⟨f - 1, by simp at hf; omega⟩
  obtain ⟨g, t⟩ := p
  have hh := apart_head hw ht
  obtain ⟨h1, h2, h3, h4⟩ := hw
  have e : pre ++ (pcs ((g, t) :: r) ++ tail) = pre ++ (g ++ t.text ++ (pcs r ++ tail)) := by rw [pcs_cons]; simp only [List.append_assoc]
  have hn := next_gap line (pre:=pre) h1 h2 hh
  rw [e, lexGo_tok hn]
  have e2 : pre ++ (g ++ t.text ++ (pcs r ++ tail)) = (pre ++ g ++ t.text) ++ (pcs r ++ tail) := by simp only [List.append_assoc]
  have e3 : pre.length + g.length + t.text.length = (pre ++ g ++ t.text).length := by simp only [List.length_append]
  have hih := ih h4 (pre ++ g ++ t.text) f (by simp at hf; omega)
  dsimp only at hih ⊢
  rw [e2, e3, hih]
  show _ = (tokL line pre.length ((g, t) :: r), none)
  rw [tokL, e3]
theorem gtk_pos {t : Tk} (h : GTk t) : 0 < t.text.length := by
 obtain ⟨c, r, hc, -⟩ := h.word
 rw [hc]; simp
theorem pcs_len (ws : List (List UInt8 × Tk)) (hw : Apart ws) : ws.length ≤ (pcs ws).length := by
 induction ws with
 | nil => simp
 | cons p r ih =>
  obtain ⟨h1, h2, h3, h4⟩ := hw
  have := ih h4
  have := gtk_pos h2
  rw [pcs_cons, List.length_cons, List.length_append, List.length_append]
  omega
theorem lexLn_pcs (line : Nat) (ws : List (List UInt8 × Tk)) (hw : Apart ws) {tail : List UInt8} (ht : Blks tail) : lexLn line (pcs ws ++ tail) = (tokL line 0 ws, none) := by
 have h := lexGo_pcs line ws hw ht [] ((pcs ws ++ tail).length + 1) (by have := pcs_len ws hw; rw [List.length_append]; omega)
 exact h
theorem tokL_ne {line a : Nat} {ws : List (List UInt8 × Tk)} (h : ws ≠ []) : tokL line a ws ≠ [] := by
 cases ws with
 | nil => exact absurd rfl h
 | cons p r => obtain ⟨g, t⟩ := p; rw [tokL]; simp
def kn (t : Tk) : Nat × List UInt8 × Nat := (t.kind, t.text, t.num)
structure GTn (t : Tk) : Prop where
 good : GTk t
 no : ∀ x ∈ t.text, x ≠ 10 ∧ x ≠ 35
theorem apart_snoc {cur : List (List UInt8 × Tk)} {g : List UInt8} {t : Tk} (hc : Apart cur) (hg : Blks g) (hn : g ≠ []) (ht : GTk t) : Apart (cur ++ [(g, t)]) := by
 induction cur with
 | nil => exact ⟨hg, ht, fun q hq => (by cases hq), trivial⟩
 | cons p r ih =>
  obtain ⟨h1, h2, h3, h4⟩ := hc
  refine ⟨h1, h2, fun q hq => ?_, ih h4⟩
  cases r with
  | nil =>
   have : q = (g, t) := by simpa using hq.symm
   rw [this]; exact hn
  | cons y ys => exact h3 q hq
theorem tokL_kn (line a : Nat) (ws : List (List UInt8 × Tk)) : (tokL line a ws).map kn = ws.map fun p => kn p.2 := by
 induction ws generalizing a with
 | nil => rfl
 | cons p r ih => obtain ⟨g, t⟩ := p; rw [tokL, List.map_cons, List.map_cons, ih]; rfl
theorem headF_cut {X y : List UInt8} (h : (35 : UInt8) ∉ X) : h4v 35 (X ++ 35 :: y) = X := by
 unfold h4v
 have : h1g 35 (X ++ 35 :: y) = X :: h1g 35 y := by
  induction X with
  | nil => rw [List.nil_append, h1g, if_pos rfl]
  | cons x r ih =>
   have hx : ¬ x = 35 := fun e => h (e ▸ List.mem_cons_self ..)
   rw [List.cons_append, h1g, if_neg hx, ih (fun hm => h (List.mem_cons_of_mem _ hm))]; rfl
 rw [this]; rfl
theorem headF_id {X : List UInt8} (h : (35 : UInt8) ∉ X) : h4v 35 X = X := by
 unfold h4v
 rw [ix_none (List.count_eq_zero.2 h)]; rfl
theorem splitC_ln {a b : List UInt8} (h : (10 : UInt8) ∉ a) : h1g 10 (a ++ 10 :: b) = a :: h1g 10 b := by
 induction a with
 | nil => rw [List.nil_append, h1g, if_pos rfl]
 | cons x r ih =>
  have hx : ¬ x = 10 := fun e => h (e ▸ List.mem_cons_self ..)
  rw [List.cons_append, h1g, if_neg hx, ih (fun hm => h (List.mem_cons_of_mem _ hm))]; rfl
theorem lexAll_none {n : Nat} {p : List UInt8} {ps : List (List UInt8)} {out : List Tk} (h : ∀ line, lexLn line (h4v 35 p) = ([], none)) : h4y n (p :: ps) out = h4y (n + 1) ps out := by
 rw [h4y, h]
 dsimp only
 rw [if_pos rfl]
theorem ln_blank {X : List UInt8} (h : Blks X) (line : Nat) : lexLn line X = ([], none) := lexLn_pcs line [] trivial h
theorem lexAll_line {n : Nat} {p : List UInt8} {ps : List (List UInt8)} {out : List Tk} {ws : List (List UInt8 × Tk)} {tail : List UInt8} (hw : Apart ws) (hn : ws ≠ []) (ht : Blks tail) (hp : h4v 35 p = pcs ws ++ tail) :
  h4y n (p :: ps) out = h4y (n + 1) ps (out ++ tokL (n + 1) 0 ws ++ [⟨0, [], 0, n + 1, (pcs ws ++ tail).length + 1⟩]) := by
 rw [h4y, hp, lexLn_pcs (n + 1) ws hw ht]
 dsimp only
 rw [if_neg (tokL_ne hn)]
theorem pcs_no {ws : List (List UInt8 × Tk)} (h : ∀ p ∈ ws, (∀ x ∈ p.1, x ≠ 10 ∧ x ≠ 35) ∧ ∀ x ∈ p.2.text, x ≠ 10 ∧ x ≠ 35) : ∀ x ∈ pcs ws, x ≠ 10 ∧ x ≠ 35 := by
 intro x hx
 obtain ⟨p, hp, hx⟩ := List.mem_flatMap.1 hx
 rcases List.mem_append.1 hx with hx | hx
 ·exact (h p hp).1 x hx
 ·exact (h p hp).2 x hx
def accN : Nat → List (List (List UInt8 × Tk)) → List Tk
 | _, [] => []
 | n, ws :: r => tokL (n + 1) 0 ws ++ [⟨0, [], 0, n + 1, (pcs ws).length + 1⟩] ++ accN (n + 1) r
def txtW (D : List (List (List UInt8 × Tk))) (cur : List (List UInt8 × Tk)) (g : List UInt8) : List UInt8 := (D.map pcs).flatMap (fun p => p ++ [10]) ++ (pcs cur ++ g)
def NoW (ws : List (List UInt8 × Tk)) : Prop := ∀ p ∈ ws, (∀ x ∈ p.1, x ≠ 10 ∧ x ≠ 35) ∧ ∀ x ∈ p.2.text, x ≠ 10 ∧ x ≠ 35
structure WdW (D : List (List (List UInt8 × Tk))) (cur : List (List UInt8 × Tk)) (g : List UInt8) : Prop where
 lines : ∀ ws ∈ D, ws ≠ [] ∧ Apart ws ∧ NoW ws
 apart : Apart cur
 no : NoW cur
 blks : Blks g
 gno : ∀ x ∈ g, x ≠ 10 ∧ x ≠ 35
 gnil : cur = [] → g = []
 gne : cur ≠ [] → g ≠ []
theorem apart_snoc' {cur : List (List UInt8 × Tk)} {g : List UInt8} {t : Tk} (hc : Apart cur) (hg : Blks g) (hn : cur ≠ [] → g ≠ []) (ht : GTk t) : Apart (cur ++ [(g, t)]) := by
 cases cur with
 | nil => exact ⟨hg, ht, fun q hq => (by cases hq), trivial⟩
 | cons p r => exact apart_snoc hc hg (hn (by simp)) ht
theorem split_lines (D : List (List (List UInt8 × Tk))) (h : ∀ ws ∈ D, NoW ws) (rest : List UInt8) : h1g 10 ((D.map pcs).flatMap (fun p => p ++ [10]) ++ rest) = D.map pcs ++ h1g 10 rest := by
 induction D with
 | nil => rfl
 | cons ws r ih =>
  have h10 : (10 : UInt8) ∉ pcs ws := fun hm => (pcs_no (h ws (List.mem_cons_self ..)) _ hm).1 rfl
  rw [List.map_cons, List.flatMap_cons, List.append_assoc, List.append_assoc, List.singleton_append, splitC_ln h10, ih (fun w hw => h w (List.mem_cons_of_mem _ hw))]; rfl
theorem lexAll_lines (D : List (List (List UInt8 × Tk))) (h : ∀ ws ∈ D, ws ≠ [] ∧ Apart ws ∧ NoW ws) (rest : List (List UInt8)) : ∀ (n : Nat) (out : List Tk), h4y n (D.map pcs ++ rest) out = h4y (n + D.length) rest (out ++ accN n D) := by
 induction D with
 | nil => intro n out; simp [accN]
 | cons ws r ih =>
  intro n out
  obtain ⟨h1, h2, h3⟩ := h ws (List.mem_cons_self ..)
  have h35 : (35 : UInt8) ∉ pcs ws := fun hm => (pcs_no h3 _ hm).2 rfl
  rw [List.map_cons, List.cons_append, lexAll_line (ws:=ws) (tail:=[]) h2 h1 (fun x hx => by cases hx) (by rw [List.append_nil]; exact headF_id h35), ih (fun w hw => h w (List.mem_cons_of_mem _ hw)), accN, List.length_cons, List.append_nil, show n + 1 + r.length = n + (r.length + 1) by omega]
  simp only [List.append_assoc]
theorem line_no {D : List (List (List UInt8 × Tk))} {cur : List (List UInt8 × Tk)} {g : List UInt8} (h : WdW D cur g) : ∀ x ∈ pcs cur ++ g, x ≠ 10 ∧ x ≠ 35 := fun x hx => (List.mem_append.1 hx).elim (pcs_no h.no x) (h.gno x)
theorem lexF_words {D : List (List (List UInt8 × Tk))} {cur : List (List UInt8 × Tk)} {g : List UInt8} (h : WdW D cur g) (hl : (txtW D cur g).length ≤ 65536) :
  lexF (txtW D cur g) = (accN 0 D ++ tokL (D.length + 1) 0 cur ++ (if cur = [] then [] else [⟨0, [], 0, D.length + 1, (pcs cur).length + g.length + 1⟩]), none) := by
 have hno := line_no h
 unfold lexF
 rw [if_neg (by omega)]
 unfold txtW
 have h10 : (10 : UInt8) ∉ pcs cur ++ g := fun hm => (hno _ hm).1 rfl
 have h35 : (35 : UInt8) ∉ pcs cur ++ g := fun hm => (hno _ hm).2 rfl
 rw [split_lines D (fun ws hw => (h.lines ws hw).2.2), ix_none (List.count_eq_zero.2 h10), lexAll_lines D h.lines, Nat.zero_add, List.nil_append]
 by_cases hc : cur = []
 ·subst hc
  have hg := h.gnil rfl
  subst hg
  rw [if_pos rfl]
  have e : pcs [] ++ [] = ([] : List UInt8) := rfl
  rw [e, lexAll_none (fun line => ln_blank (X:=h4v 35 []) (fun x hx => by cases hx) line), h4y]
  simp [tokL]
 ·rw [if_neg hc, lexAll_line (ws:=cur) (tail:=g) h.apart hc h.blks (headF_id h35), h4y, List.length_append]
theorem WdW.word {D : List (List (List UInt8 × Tk))} {cur : List (List UInt8 × Tk)} {g : List UInt8} (h : WdW D cur g) {t : Tk} (ht : GTn t) : Apart (cur ++ [(g, t)]) ∧ NoW (cur ++ [(g, t)]) :=
 ⟨apart_snoc' h.apart h.blks h.gne ht.good, fun p hp => by
  rcases List.mem_append.1 hp with hp | hp
  ·exact h.no p hp
  ·rw [List.mem_singleton.1 hp]; exact ⟨h.gno, ht.no⟩⟩
theorem WdW.line {D : List (List (List UInt8 × Tk))} {cur : List (List UInt8 × Tk)} {g : List UInt8} (h : WdW D cur g) {t : Tk} (ht : GTn t) : WdW (D ++ [cur ++ [(g, t)]]) [] [] := by
 obtain ⟨w1, w2⟩ := h.word ht
 refine ⟨fun ws hw => ?_, trivial, fun p hp => (by cases hp), fun x hx => (by cases hx), fun x hx => (by cases hx), fun _ => rfl, fun h => absurd rfl h⟩
 rcases List.mem_append.1 hw with hw | hw
 ·exact h.lines ws hw
 ·rw [List.mem_singleton.1 hw]; exact ⟨by simp, w1, w2⟩
def WOk (w : W3) : Prop := GTn (tk0 w)
theorem wit_no : ∀ c : UInt8, witF c = true → c ≠ 10 ∧ c ≠ 35 := by
 intro c h
 refine ⟨fun e => ?_, fun e => ?_⟩ <;> (rw [e] at h; revert h; decide)
theorem let_blk : ∀ c : UInt8, letF c = true → blkF c = false ∧ h2e c = 1 := by
 intro c h
 refine ⟨?_, by unfold h2e; rw [if_pos h]⟩
 cases hb : blkF c with
 | false => rfl
 | true =>
  unfold blkF at hb
  simp only [Bool.or_eq_true, decide_eq_true_eq] at hb
  rcases hb with (rfl | rfl) | rfl <;> exact absurd h (by decide)
theorem wN_ok {s : List UInt8} {c : UInt8} {r : List UInt8} (hs : s = c :: r) (hc : letF c = true) (ha : ∀ x ∈ s, witF x = true) : WOk (wN s) := by
 refine ⟨⟨by show (1 : Nat) ≠ 0; omega, ⟨c, r, hs, (let_blk c hc).1, (let_blk c hc).2⟩, ha, ?_⟩, fun x hx => wit_no x (ha x hx)⟩
 show h4c 1 s = (0, 0)
 unfold h4c
 rw [if_neg (by omega), if_neg (by omega), if_neg (by omega)]
def nmB (s : List UInt8) : Bool := (match s with | [] => false | c :: _ => letF c) && s.all witF
theorem nmB_ok {s : List UInt8} (h : nmB s = true) : WOk (wN s) := by
 unfold nmB at h
 rw [Bool.and_eq_true] at h
 cases s with
 | nil => cases h.1
 | cons c r => exact wN_ok rfl h.1 (fun x hx => List.all_eq_true.1 h.2 x hx)
theorem dig_is : ∀ k : Fin 10, digF (UInt8.ofNat (48 + k.val)) = true := by decide +kernel
theorem decF_digs (n : Nat) : ∀ x ∈ decF n, digF x = true := by
 induction n using Nat.strongRecOn with
 | _ n ih =>
  intro x hx
  rw [decF] at hx
  split at hx
  ·rename_i h
   rw [List.mem_singleton] at hx
   rw [hx]; exact dig_is ⟨n, h⟩
  ·rename_i h
   rcases List.mem_append.1 hx with h1 | h1
   ·exact ih (n / 10) (by omega) x h1
   ·rw [List.mem_singleton] at h1
    rw [h1]; exact dig_is ⟨n % 10, by omega⟩
theorem dig_no : ∀ c : UInt8, digF c = true → letF c = false ∧ blkF c = false ∧ c ≠ 10 ∧ c ≠ 35 := by
 intro c h
 unfold digF at h
 simp only [Bool.and_eq_true, decide_eq_true_eq] at h
 refine ⟨?_, ?_, fun e => ?_, fun e => ?_⟩
 ·unfold letF; simp; omega
 ·unfold blkF
  have h1 : ¬ c = 32 := fun e => by rw [e] at h; exact absurd h.1 (by decide)
  have h2 : ¬ c = 9 := fun e => by rw [e] at h; exact absurd h.1 (by decide)
  have h3 : ¬ c = 13 := fun e => by rw [e] at h; exact absurd h.1 (by decide)
  simp [h1, h2, h3]
 ·rw [e] at h; exact absurd h.1 (by decide)
 ·rw [e] at h; exact absurd h.1 (by decide)
theorem wD_ok {n : Nat} (h : n ≤ 18446744073709551615) : WOk (wD n) := by
 have hd := decF_digs n
 cases hs : decF n with
 | nil => exact absurd hs (decF_ne n)
 | cons c r =>
  have hc := hd c (by rw [hs]; exact List.mem_cons_self ..)
  obtain ⟨c1, c2, c3, c4⟩ := dig_no c hc
  refine ⟨⟨by show (2 : Nat) ≠ 0; omega, ⟨c, r, hs, c2, by show h2e c = 2; unfold h2e; rw [if_neg (by rw [c1]; decide), if_pos hc]⟩, fun x hx => ?_, ?_⟩, fun x hx => (dig_no x (hd x hx)).2.2⟩
  ·show h5o 2 x = true
   have : h5o 2 x = alnF x := rfl
   rw [this]
   unfold alnF
   rw [hd x hx, Bool.or_true]
  ·show h4c 2 (decF n) = (0, n)
   unfold h4c
   rw [if_pos rfl, numF_decF n h]
theorem prn_no : ∀ x : UInt8, prnF x = true → x ≠ 10 ∧ x ≠ 35 := by
 intro x h
 refine ⟨fun e => ?_, fun e => ?_⟩ <;> (rw [e] at h; revert h; decide)
theorem refGo_all (l : List UInt8) : ∀ part, Pt.refGo part l = true → ∀ x ∈ l, Pt.prn x = true := by
 intro part h
 rw [Pt.refGo_split] at h
 simp only [Bool.and_eq_true] at h
 exact fun x hx => List.all_eq_true.1 h.1 x hx
theorem prn_eq (x : UInt8) (h : Pt.prn x = true) : prnF x = true := by
 unfold Pt.prn at h
 unfold prnF
 simp only [decide_eq_true_eq] at h
 have h3 : ¬ x = 35 := fun e => h.2.2 (by rw [e]; rfl)
 simp [h.1, h.2.1, h3]
theorem wP_ok {s : List UInt8} (h : Pt.pathF s = true) : WOk (wP s) ∧ s.length ≤ 120 := by
 have hh : s ≠ [] ∧ s.length ≤ 120 ∧ s.head? = some 47 ∧ ∀ x ∈ s, prnF x = true := by
  unfold Pt.pathF at h
  split at h
  ·rename_i h1
   rw [h1]
   exact ⟨by decide, by decide, rfl, by decide⟩
  ·split at h
   ·cases h
   ·rename_i h1 h2
    have h3 : s.head? = some 47 := by
     cases hx : decide (s.head? = some 47) with
     | true => exact of_decide_eq_true hx
     | false => exact absurd (Or.inr (Or.inr (of_decide_eq_false hx))) h2
    cases s with
    | nil => cases h3
    | cons c r =>
     have h4 := refGo_all r [] h
     have h5 : c = 47 := Option.some.inj h3
     refine ⟨by simp, by omega, h3, fun x hx => ?_⟩
     rcases List.mem_cons.1 hx with rfl | hx
     ·rw [h5]; decide
     ·exact prn_eq x (h4 x hx)
 obtain ⟨h1, h2, h3, h4⟩ := hh
 refine ⟨?_, h2⟩
 cases s with
 | nil => cases h3
 | cons c r =>
  have h5 : c = 47 := Option.some.inj h3
  refine ⟨⟨by show (3 : Nat) ≠ 0; omega, ⟨c, r, rfl, by rw [h5]; decide, show h2e c = 3 by rw [h5]; decide⟩, h4, ?_⟩, fun x hx => prn_no x (h4 x hx)⟩
  show h4c 3 (c :: r) = (0, 0)
  unfold h4c
  rw [if_neg (by omega), if_pos rfl, if_neg (by omega)]
def wgB (s : List UInt8) : Bool := (match s with | [] => false | c :: _ => !blkF c && decide (h2e c = 4)) && (s.all sgnF && (s.all (fun x => decide (x ≠ 10) && decide (x ≠ 35)) && decide (s ∈ sgns)))
theorem wG_ok {s : List UInt8} (h : wgB s = true) : WOk (wG s) := by
 unfold wgB at h
 simp only [Bool.and_eq_true, decide_eq_true_eq, List.all_eq_true] at h
 obtain ⟨h1, h2, h3, h4⟩ := h
 cases s with
 | nil => cases h1
 | cons c r =>
  simp only [Bool.and_eq_true, Bool.not_eq_true', decide_eq_true_eq] at h1
  refine ⟨⟨by show (4 : Nat) ≠ 0; omega, ⟨c, r, rfl, h1.1, h1.2⟩, h2, ?_⟩, h3⟩
  show h4c 4 (c :: r) = (0, 0)
  unfold h4c
  rw [if_neg (by omega), if_neg (by omega), if_pos rfl, if_pos h4]
theorem sg_ok {o : Nat} (h1 : 1 ≤ o) (h2 : o ≤ 7) : WOk (wG (sgnT o)) ∧ (sgnT o).length ≤ 2 := by
 obtain rfl | rfl | rfl | rfl | rfl | rfl | rfl : o = 1 ∨ o = 2 ∨ o = 3 ∨ o = 4 ∨ o = 5 ∨ o = 6 ∨ o = 7 := by omega
 all_goals exact ⟨wG_ok (by decide), by decide⟩
theorem join_mem (l : List (List UInt8)) (x : UInt8) (h : x ∈ Lib.join l [44]) : x = 44 ∨ ∃ w ∈ l, x ∈ w := by
 induction l with
 | nil => cases h
 | cons a r ih =>
  cases r with
  | nil => rw [Lib.join_one] at h; exact Or.inr ⟨a, List.mem_cons_self .., h⟩
  | cons b r =>
   have e : Lib.join (a :: b :: r) [44] = a ++ 44 :: Lib.join (b :: r) [44] := by
    rw [Lib.join_cons, Lib.join_cons]; simp [Lib.joinTail]
   rw [e] at h
   rcases List.mem_append.1 h with h | h
   ·exact Or.inr ⟨a, List.mem_cons_self .., h⟩
   ·rcases List.mem_cons.1 h with h | h
    ·exact Or.inl h
    ·rcases ih h with h | ⟨w, h1, h2⟩
     ·exact Or.inl h
     ·exact Or.inr ⟨w, List.mem_cons_of_mem _ h1, h2⟩
theorem wd_wit : ∀ k : Fin 16, (lB (Rg.wd k.val)).all witF = true := by decide +kernel
theorem wd_let : (Rg.ixs.all fun i => match lB (Rg.wd i) with | [] => false | c :: _ => letF c) = true := by decide +kernel
theorem rg_ok {n : Nat} (h0 : n ≠ 0) (h1 : n &&& 51199 = n) : WOk (wN (rgT n)) ∧ (rgT n).length ≤ 320 := by
 have hne : Rg.tixs n ≠ [] := by
  intro h
  have : n = 0 := by
   apply Nat.eq_of_testBit_eq
   intro j
   rw [← h1, Rg.known_bit, h]; simp
  exact h0 this
 have e : rgT n = Rg.joinT (Rg.tixs n) := by
  unfold rgT Rg.textF
  rw [if_neg hne, h3y]
 have hlt : ∀ i ∈ Rg.tixs n, i < 16 := fun i hi => Rg.ixs_lt i (Rg.tixs_sub n i hi)
 have hll : (Rg.tixs n).length ≤ 16 := by
  have h2 := Rg.txs_len n 16
  rwa [Rg.txs_16] at h2
 refine ⟨?_, by rw [e]; have := Rg.lens_le _ hlt; omega⟩
 have hw : ∀ x ∈ rgT n, witF x = true := by
  intro x hx
  rw [e] at hx
  rcases join_mem _ x hx with rfl | ⟨w, h2, h3⟩
  ·decide
  ·obtain ⟨i, hi, rfl⟩ := List.mem_map.1 h2
   exact List.all_eq_true.1 (wd_wit ⟨i, hlt i hi⟩) x h3
 cases hx : Rg.tixs n with
 | nil => exact absurd hx hne
 | cons i r =>
  have hm : i ∈ Rg.ixs := Rg.tixs_sub n i (by rw [hx]; exact List.mem_cons_self ..)
  have hl := List.all_eq_true.1 wd_let i hm
  cases hc : lB (Rg.wd i) with
  | nil => rw [hc] at hl; cases hl
  | cons c q =>
   rw [hc] at hl
   have e2 : ∃ z, rgT n = c :: z := by
    rw [e, hx]
    show ∃ z, Lib.join (lB (Rg.wd i) :: Rg.namesOf r) [44] = c :: z
    rw [Lib.join_cons, hc]
    exact ⟨_, rfl⟩
   obtain ⟨z, e2⟩ := e2
   exact wN_ok e2 hl hw
theorem bI_map (s : List UInt8) : Wd.bI (mB8 s) = s.map fun c => (c.toNat : Int) := by
 unfold Wd.bI
 have e : (mB8 s).data.toList = s := by have := h3y s; exact this
 rw [e]
theorem nm_ok {s : List UInt8} (h : Wd.wordF (mB8 s) = true) : WOk (wN s) ∧ s.length ≤ 14 := by
 unfold Wd.wordF at h
 rw [bI_map, h2d] at h
 simp only [Bool.and_eq_true, decide_eq_true_eq] at h
 obtain ⟨h1, h2⟩ := h
 refine ⟨?_, h2⟩
 cases s with
 | nil => cases h1
 | cons c r =>
  rw [List.map_cons] at h1
  simp only [Bool.and_eq_true] at h1
  have hc : letF c = true := by
   have := h1.1
   unfold Wd.smallc at this
   simp only [Bool.and_eq_true, decide_eq_true_eq] at this
   unfold letF
   simp only [Bool.and_eq_true, decide_eq_true_eq]
   omega
  refine wN_ok rfl hc (fun x hx => ?_)
  rcases List.mem_cons.1 hx with rfl | hx
  ·unfold witF; rw [hc]; rfl
  ·have := List.all_eq_true.1 h1.2 _ (List.mem_map.2 ⟨x, hx, rfl⟩)
   unfold Wd.okc Wd.smallc at this
   unfold witF letF digF
   simp only [Bool.or_eq_true, Bool.and_eq_true, decide_eq_true_eq] at this ⊢
   rcases this with ((h3 | h3) | h3) | h3
   ·exact Or.inl (Or.inl (Or.inl (Or.inl (by omega))))
   ·exact Or.inl (Or.inl (Or.inl (Or.inr (by omega))))
   ·exact Or.inl (Or.inl (Or.inr (by apply UInt8.toNat_inj.1; show x.toNat = 45; omega)))
   ·exact Or.inl (Or.inr (by apply UInt8.toNat_inj.1; show x.toNat = 95; omega))
def gapG : List W3 → List (List UInt8 × Tk)
 | [] => []
 | w :: r => ([], tk0 w) :: r.map fun v => ([32], tk0 v)
theorem pcs_gapG (ws : List W3) : pcs (gapG ws) = spcL ws := by
 cases ws with
 | nil => rfl
 | cons w r =>
  rw [gapG, pcs_cons]
  show [] ++ w.2.1 ++ pcs (r.map fun v => ([32], tk0 v)) = w.2.1 ++ r.flatMap fun v => 32 :: v.2.1
  rw [List.nil_append]
  congr 1
  induction r with
  | nil => rfl
  | cons v r ih => rw [List.map_cons, pcs_cons, ih, List.flatMap_cons]; rfl
theorem blk32 : Blks [32] := by
 intro x hx
 rw [List.mem_singleton] at hx
 rw [hx]; decide
theorem apart_gapG (ws : List W3) (h : ∀ w ∈ ws, WOk w) : Apart (gapG ws) := by
 cases ws with
 | nil => trivial
 | cons w r =>
  have key : ∀ r : List W3, (∀ w ∈ r, WOk w) → Apart (r.map fun v => ([32], tk0 v)) := by
   intro r
   induction r with
   | nil => intro _; trivial
   | cons v r ih =>
    intro h
    refine ⟨blk32, (h v (List.mem_cons_self ..)).good, ?_, ih (fun w hw => h w (List.mem_cons_of_mem _ hw))⟩
    intro q hq
    cases r with
    | nil => cases hq
    | cons u r =>
     have : q = ([32], tk0 u) := (Option.some.inj hq).symm
     rw [this]; simp
  refine ⟨(fun x hx => by cases hx), (h w (List.mem_cons_self ..)).good, ?_, key r (fun w hw => h w (List.mem_cons_of_mem _ hw))⟩
  intro q hq
  cases r with
  | nil => cases hq
  | cons u r =>
   have : q = ([32], tk0 u) := (Option.some.inj hq).symm
   rw [this]; simp
theorem gapG_mem (ws : List W3) : ∀ p ∈ gapG ws, (p.1 = [] ∨ p.1 = [32]) ∧ ∃ w ∈ ws, p.2 = tk0 w := by
 cases ws with
 | nil => intro p hp; cases hp
 | cons w r =>
  intro p hp
  rcases List.mem_cons.1 hp with rfl | hp
  ·exact ⟨Or.inl rfl, w, List.mem_cons_self .., rfl⟩
  ·obtain ⟨v, hv, rfl⟩ := List.mem_map.1 hp
   exact ⟨Or.inr rfl, v, List.mem_cons_of_mem _ hv, rfl⟩
theorem no_gapG (ws : List W3) (h : ∀ w ∈ ws, WOk w) : NoW (gapG ws) := by
 intro p hp
 obtain ⟨h1, w, hw, h2⟩ := gapG_mem ws p hp
 refine ⟨fun x hx => ?_, fun x hx => ?_⟩
 ·rcases h1 with h1 | h1 <;> rw [h1] at hx
  ·cases hx
  ·rw [List.mem_singleton] at hx
   rw [hx]; decide
 ·rw [h2] at hx
  exact (h w hw).no x hx
theorem gapG_kn (ws : List W3) : (gapG ws).map (fun p => kn p.2) = ws := by
 cases ws with
 | nil => rfl
 | cons w r =>
  rw [gapG, List.map_cons, List.map_map]
  show w :: r.map (fun v => (v.1, v.2.1, v.2.2)) = w :: r
  rw [show (fun v : W3 => (v.1, v.2.1, v.2.2)) = id from rfl, List.map_id]
theorem accN_kn (D : List (List W3)) : ∀ n, (accN n (D.map gapG)).map kn = (toks D).map kn := by
 induction D with
 | nil => intro n; rfl
 | cons ws D ih =>
  intro n
  rw [List.map_cons, accN, toks_cons]
  simp only [List.map_append, List.map_cons, List.map_nil, ih, tokL_kn, gapG_kn, List.append_assoc, List.singleton_append]
  have e : (ws.map tk0).map kn = ws := by
   rw [List.map_map, show (kn ∘ tk0) = id from rfl, List.map_id]
  rw [e]; rfl
structure LinesOk (D : List (List W3)) : Prop where
 ne : ∀ ws ∈ D, ws ≠ []
 ok : ∀ ws ∈ D, ∀ w ∈ ws, WOk w
theorem lex_lines (D : List (List W3)) (h : LinesOk D) (hl : (lnsT D).length ≤ 65536) : ∃ ts, lexF (lnsT D) = (ts, none) ∧ ts.map kn = (toks D).map kn := by
 have e : txtW (D.map gapG) [] [] = lnsT D := by
  unfold txtW lnsT
  rw [List.map_map, show pcs ([] : List (List UInt8 × Tk)) ++ [] = [] from rfl, List.append_nil, List.flatMap_map]
  congr 1
  funext ws
  rw [Function.comp_apply, pcs_gapG]
 have hW : WdW (D.map gapG) [] [] := by
  refine ⟨?_, trivial, (fun p hp => by cases hp), (fun x hx => by cases hx), (fun x hx => by cases hx), fun _ => rfl, fun h => absurd rfl h⟩
  intro g hg
  obtain ⟨ws, hws, rfl⟩ := List.mem_map.1 hg
  refine ⟨?_, apart_gapG ws (h.ok ws hws), no_gapG ws (h.ok ws hws)⟩
  cases hx : ws with
  | nil => exact absurd hx (h.ne ws hws)
  | cons w r => simp [gapG]
 have h1 := lexF_words hW (by rw [e]; exact hl)
 rw [e, if_pos rfl, List.append_nil] at h1
 refine ⟨_, h1, ?_⟩
 rw [List.map_append, accN_kn]
 show _ ++ [] = _
 rw [List.append_nil]
def Rs (s s' : PS) : Prop := s.1.map kn = s'.1.map kn ∧ (s.2 = (0, 0, 0) ↔ s'.2 = (0, 0, 0))
theorem h5r {w w' : Wr} {t t' : Tk} {e e' : Nat} (he : e ≠ 0) (he' : e' ≠ 0) : (h2u w t e = (0, 0, 0) ↔ h2u w' t' e' = (0, 0, 0)) :=
 ⟨fun h => absurd h (failW_ne _ _ _ he), fun h => absurd h (failW_ne _ _ _ he')⟩
theorem head_r {l l' : List Tk} (h : l.map kn = l'.map kn) : kn (l.headD zTk) = kn (l'.headD zTk) ∧ l.tail.map kn = l'.tail.map kn := by
 cases l with
 | nil =>
  cases l' with
  | nil => exact ⟨rfl, rfl⟩
  | cons b r => cases h
 | cons a r =>
  cases l' with
  | nil => cases h
  | cons b r' =>
   injection h with h1 h2
   exact ⟨h1, h2⟩
theorem h5k {t t' : Tk} (h : kn t = kn t') : t.kind = t'.kind ∧ t.text = t'.text ∧ t.num = t'.num := by
 injection h with h1 h2
 injection h2 with h2 h3
 exact ⟨h1, h2, h3⟩
theorem ite_r {c c' : Prop} [Decidable c] [Decidable c'] {a b a' b' : Wr} (hc : c ↔ c') (h1 : a = (0, 0, 0) ↔ a' = (0, 0, 0)) (h2 : b = (0, 0, 0) ↔ b' = (0, 0, 0)) : ((if c then a else b) = (0, 0, 0) ↔ (if c' then a' else b') = (0, 0, 0)) := by
 by_cases h : c
 ·rw [if_pos h, if_pos (hc.1 h)]; exact h1
 ·rw [if_neg h, if_neg (fun h' => h (hc.2 h'))]; exact h2
theorem h6j {k : Nat} {s s' : PS} (h : Rs s s') : kn (h1d k s).1 = kn (h1d k s').1 ∧ Rs (h1d k s).2 (h1d k s').2 := by
 obtain ⟨h1, h2⟩ := head_r h.1
 refine ⟨h1, h2, ?_⟩
 show (if (s.1.headD zTk).kind = k then s.2 else h2u s.2 (s.1.headD zTk) 203) = (0, 0, 0) ↔ (if (s'.1.headD zTk).kind = k then s'.2 else h2u s'.2 (s'.1.headD zTk) 203) = (0, 0, 0)
 exact ite_r (by rw [(h5k h1).1]) h.2 (h5r (by omega) (by omega))
theorem wordT_r {s s' : PS} (h : Rs s s') : kn (h2a s).1 = kn (h2a s').1 ∧ Rs (h2a s).2 (h2a s').2 := by
 obtain ⟨h1, h2, h3⟩ := h6j (k:=1) h
 refine ⟨h1, h2, ite_r ?_ (h5r (by omega) (by omega)) h3⟩
 rw [h3, (h5k h1).2.1]
theorem keyF_r {k : List UInt8} {s s' : PS} (h : Rs s s') : Rs (keyF k s) (keyF k s') := by
 obtain ⟨h1, h2, h3⟩ := h6j (k:=1) h
 refine ⟨h2, ite_r ?_ (h5r (by omega) (by omega)) h3⟩
 rw [h3, (h5k h1).2.1]
theorem actF_r {s s' : PS} (h : Rs s s') : (actF s).1 = (actF s').1 ∧ Rs (actF s).2 (actF s').2 := by
 obtain ⟨h1, h2⟩ := wordT_r h
 obtain ⟨g1, g2⟩ := h6j (k:=2) h2
 have ht := (h5k h1).2.1
 have hn := (h5k g1).2.2
 unfold actF
 rw [ht]
 by_cases c1 : (h2a s').1.text = tKill
 ·rw [if_pos c1, if_pos c1]; exact ⟨rfl, h2⟩
 rw [if_neg c1, if_neg c1]
 by_cases c2 : (h2a s').1.text = tLog
 ·rw [if_pos c2, if_pos c2]; exact ⟨rfl, h2⟩
 rw [if_neg c2, if_neg c2]
 by_cases c3 : (h2a s').1.text = tAllow
 ·rw [if_pos c3, if_pos c3]; exact ⟨rfl, h2⟩
 rw [if_neg c3, if_neg c3]
 by_cases c4 : (h2a s').1.text = tErrno
 ·rw [if_pos c4, if_pos c4]
  by_cases c5 : (h1d 2 (h2a s').2).2.2 = (0, 0, 0) ∧ ((h1d 2 (h2a s').2).1.num < 1 ∨ 4095 < (h1d 2 (h2a s').2).1.num)
  ·rw [if_pos c5, if_pos ⟨g2.2.2 c5.1, by rw [hn]; exact c5.2⟩]
   exact ⟨rfl, g2.1, h5r (by omega) (by omega)⟩
  ·rw [if_neg c5, if_neg (fun c => c5 ⟨g2.2.1 c.1, by rw [← hn]; exact c.2⟩), hn]
   exact ⟨rfl, g2⟩
 ·rw [if_neg c4, if_neg c4]
  exact ⟨rfl, h2.1, h5r (by omega) (by omega)⟩
theorem mskF_r {o : Nat} {s s' : PS} (h : Rs s s') : (mskF o s).1 = (mskF o s').1 ∧ Rs (mskF o s).2 (mskF o s').2 := by
 obtain ⟨h1, h2⟩ := h6j (k:=2) h
 obtain ⟨g1, g2, g3⟩ := h6j (k:=4) h2
 unfold mskF
 by_cases c : o = 7
 ·rw [if_pos c, if_pos c]
  refine ⟨(h5k h1).2.2, g2, ite_r ?_ (h5r (by omega) (by omega)) g3⟩
  rw [(h5k g1).2.1]
 ·rw [if_neg c, if_neg c]; exact ⟨rfl, h⟩
theorem valF_r {a o m : Nat} {s s' : PS} (h : Rs s s') : (valF a o m s).1 = (valF a o m s').1 ∧ Rs (valF a o m s).2 (valF a o m s').2 := by
 obtain ⟨h1, h2, h3⟩ := h6j (k:=2) h
 have hn := (h5k h1).2.2
 unfold valF
 rw [hn]
 exact ⟨rfl, h2, ite_r Iff.rfl (h5r (by omega) (by omega)) h3⟩
theorem cndF_r {s s' : PS} (h : Rs s s') : (cndF s).1 = (cndF s').1 ∧ Rs (cndF s).2 (cndF s').2 := by
 obtain ⟨h1, h2, h3⟩ := wordT_r h
 have ht := (h5k h1).2.1
 unfold cndF argW
 rw [ht]
 have hs : Rs ((h2a s).2.1, if (argOf (h2a s').1.text).isSome then (h2a s).2.2 else h2u (h2a s).2.2 (h2a s).1 202) ((h2a s').2.1, if (argOf (h2a s').1.text).isSome then (h2a s').2.2 else h2u (h2a s').2.2 (h2a s').1 202) := ⟨h2, ite_r Iff.rfl h3 (h5r (by omega) (by omega))⟩
 generalize ((h2a s).2.1, if (argOf (h2a s').1.text).isSome then (h2a s).2.2 else h2u (h2a s).2.2 (h2a s).1 202) = z at *
 generalize ((h2a s').2.1, if (argOf (h2a s').1.text).isSome then (h2a s').2.2 else h2u (h2a s').2.2 (h2a s').1 202) = z' at *
 unfold sgnS
 obtain ⟨g1, g2⟩ := h6j (k:=4) hs
 rw [(h5k g1).2.1]
 obtain ⟨k1, k2⟩ := mskF_r (o:=opOf (h1d 4 z').1.text) g2
 rw [k1]
 exact valF_r k2
theorem cndsGo_r (f : Nat) : ∀ (key : List UInt8) (s s' : PS) (out : List Cnd), Rs s s' → (h4z f key s out).1 = (h4z f key s' out).1 ∧ Rs (h4z f key s out).2 (h4z f key s' out).2 := by
 induction f with
 | zero => intro key s s' out h; exact ⟨rfl, h⟩
 | succ f ih =>
  intro key s s' out h
  obtain ⟨h1, -⟩ := head_r h.1
  have hk := (h5k h1).1
  have hn : s.1 = [] ↔ s'.1 = [] := by
   rw [← List.map_eq_nil_iff (f:=kn), h.1, List.map_eq_nil_iff]
  unfold h4z
  by_cases c : s'.1 = [] ∨ (s'.1.headD zTk).kind = 0 ∨ s'.2 ≠ (0, 0, 0)
  ·rw [if_pos c, if_pos (by rw [hn, hk, ne_eq, h.2]; exact c)]
   exact ⟨rfl, h⟩
  ·rw [if_neg c, if_neg (by rw [hn, hk, ne_eq, h.2]; exact c)]
   obtain ⟨g1, g2, g3⟩ := cndF_r (keyF_r (k:=key) h)
   rw [g1]
   exact ih _ _ _ _ ⟨g2, ite_r Iff.rfl (h5r (by omega) (by omega)) g3⟩
theorem setF_r {k : Nat} {s s' : PS} (h : Rs s s') : (setF k s).1 = (setF k s').1 ∧ Rs (setF k s).2 (setF k s').2 := by
 obtain ⟨h1, h2, h3⟩ := h6j (k:=1) h
 have ht := (h5k h1).2.1
 unfold setF
 rw [ht]
 refine ⟨rfl, h2, ?_⟩
 by_cases c : (Rg.parseF 0 (h1g 44 (h1d 1 s').1.text)).2 ≠ 0
 ·rw [if_pos c, if_pos c]; exact h5r c c
 ·rw [if_neg c, if_neg c]; exact ite_r Iff.rfl (h5r (by omega) (by omega)) h3
theorem rulF_r {t t' : Tk} {rs : List RulP} {s s' : PS} (h : Rs s s') : (rulF t rs s).1 = (rulF t' rs s').1 ∧ Rs (rulF t rs s).2 (rulF t' rs s').2 := by
 obtain ⟨h1, h2, h3⟩ := wordT_r h
 have ht := (h5k h1).2.1
 have hc : rulC s = rulC s' := by unfold rulC; rw [ht]
 have hn : rulN s = rulN s' := by unfold rulN; rw [hc]
 have h4 : Rs (rul1 s) (rul1 s') := ⟨h2, ite_r (by rw [hc]) h3 (h5r (by omega) (by omega))⟩
 obtain ⟨g1, g2⟩ := actF_r h4
 have hl : (rul2 s).2.1.length = (rul2 s').2.1.length := by
  have := congrArg List.length g2.1
  rwa [List.length_map, List.length_map] at this
 obtain ⟨k1, k2, k3⟩ := cndsGo_r ((rul2 s').2.1.length + 1) tIf _ _ [] g2
 have e : rul3 s = h4z ((rul2 s').2.1.length + 1) tIf (rul2 s).2 [] := by unfold rul3; rw [hl]
 unfold rulF
 rw [hn, e]
 refine ⟨?_, k2, ite_r Iff.rfl (h5r (by omega) (by omega)) k3⟩
 show rs ++ [⟨rulN s', (rul2 s).1, _⟩] = rs ++ [⟨rulN s', (rul2 s').1, _⟩]
 rw [show (rul2 s).1 = (rul2 s').1 from g1]
 exact congrArg (fun x => rs ++ [(⟨rulN s', (rul2 s').1, x⟩ : RulP)]) k1
theorem hanF_r {hd : Nat} {t t' : Tk} {s s' : PS} (h : Rs s s') : (hanF hd t s).1 = (hanF hd t' s').1 ∧ Rs (hanF hd t s).2 (hanF hd t' s').2 :=
 setF_r ⟨h.1, ite_r Iff.rfl (h5r (by omega) (by omega)) h.2⟩
theorem benF_r {hd : Nat} {t t' : Tk} {ps : List (List UInt8 × Nat)} {s s' : PS} (h : Rs s s') : (benF hd t ps s).1 = (benF hd t' ps s').1 ∧ Rs (benF hd t ps s).2 (benF hd t' ps s').2 := by
 obtain ⟨h1, h2, h3⟩ := h6j (k:=3) h
 have ht := (h5k h1).2.1
 have h4 : Rs (ben1 s) (ben1 s') := ⟨h2, ite_r (by rw [h3, ht]) (h5r (by omega) (by omega)) h3⟩
 obtain ⟨g1, g2, g3⟩ := setF_r (k:=hd &&& 2047) h4
 refine ⟨?_, g2, ite_r Iff.rfl (h5r (by omega) (by omega)) ?_⟩
 ·show ps ++ [(_, _)] = ps ++ [(_, _)]
  rw [ht]
  exact congrArg (fun x => ps ++ [((h1d 3 s').1.text, x)]) g1
 ·exact ite_r (by rw [ht]) (h5r (by omega) (by omega)) g3
theorem porF_r {hd : Nat} {t t' : Tk} {ps : List (Nat × Nat)} {s s' : PS} (h : Rs s s') : (porF hd t ps s).1 = (porF hd t' ps s').1 ∧ Rs (porF hd t ps s).2 (porF hd t' ps s').2 := by
 obtain ⟨h1, h2, h3⟩ := h6j (k:=2) h
 have ht := (h5k h1).2.2
 have hp : porN s = porN s' := by unfold porN; rw [ht]
 have h4 : Rs (por1 s) (por1 s') := ⟨h2, ite_r (by rw [ht]) (h5r (by omega) (by omega)) h3⟩
 obtain ⟨g1, g2, g3⟩ := setF_r (k:=hd &&& 49152) h4
 refine ⟨?_, g2, ite_r Iff.rfl (h5r (by omega) (by omega)) ?_⟩
 ·show ps ++ [(_, _)] = ps ++ [(_, _)]
  rw [hp]
  exact congrArg (fun x => ps ++ [(porN s', x)]) g1
 ·exact ite_r (by rw [hp]) (h5r (by omega) (by omega)) g3
theorem lineP_r {P : Pol} {s s' : PS} (h : Rs s s') : (lineP P s).1 = (lineP P s').1 ∧ Rs (lineP P s).2 (lineP P s').2 := by
 obtain ⟨h1, h2⟩ := h6j (k:=1) h
 have ht := (h5k h1).2.1
 unfold lineP lineW
 rw [ht]
 by_cases c1 : (h1d 1 s').1.text = tCall
 ·rw [if_pos c1, if_pos c1]
  obtain ⟨g1, g2⟩ := rulF_r (t:=(h1d 1 s).1) (t' := (h1d 1 s').1) (rs:=P.rules) h2
  exact ⟨by rw [g1], g2⟩
 rw [if_neg c1, if_neg c1]
 by_cases c2 : (h1d 1 s').1.text = tHandle
 ·rw [if_pos c2, if_pos c2]
  obtain ⟨g1, g2⟩ := hanF_r (hd:=P.hd) (t:=(h1d 1 s).1) (t' := (h1d 1 s').1) h2
  exact ⟨by rw [g1], g2⟩
 rw [if_neg c2, if_neg c2]
 by_cases c3 : (h1d 1 s').1.text = tBeneath
 ·rw [if_pos c3, if_pos c3]
  obtain ⟨g1, g2⟩ := benF_r (hd:=P.hd) (t:=(h1d 1 s).1) (t' := (h1d 1 s').1) (ps:=P.paths) h2
  exact ⟨by rw [g1], g2⟩
 rw [if_neg c3, if_neg c3]
 by_cases c4 : (h1d 1 s').1.text = tPort
 ·rw [if_pos c4, if_pos c4]
  obtain ⟨g1, g2⟩ := porF_r (hd:=P.hd) (t:=(h1d 1 s).1) (t' := (h1d 1 s').1) (ps:=P.ports) h2
  exact ⟨by rw [g1], g2⟩
 rw [if_neg c4, if_neg c4]
 exact ⟨rfl, h2.1, h5r (by omega) (by omega)⟩
theorem linesGo_r (f : Nat) : ∀ (P : Pol) (s s' : PS), Rs s s' → (h3c f (P, s)).1 = (h3c f (P, s')).1 ∧ Rs (h3c f (P, s)).2 (h3c f (P, s')).2 := by
 induction f with
 | zero => intro P s s' h; exact ⟨rfl, h⟩
 | succ f ih =>
  intro P s s' h
  have hn : s.1 = [] ↔ s'.1 = [] := by
   rw [← List.map_eq_nil_iff (f:=kn), h.1, List.map_eq_nil_iff]
  unfold h3c
  by_cases c : s'.1 = [] ∨ s'.2 ≠ (0, 0, 0)
  ·rw [if_pos c, if_pos (by rw [hn, ne_eq, h.2]; exact c)]
   exact ⟨rfl, h⟩
  ·rw [if_neg c, if_neg (by rw [hn, ne_eq, h.2]; exact c)]
   obtain ⟨g1, g2⟩ := lineP_r (P:=P) h
   rw [g1]
   exact ih _ _ _ (h6j (k:=0) g2).2
theorem allP_r {s s' : PS} (h : Rs s s') : (allP s).1 = (allP s').1 ∧ Rs (allP s).2 (allP s').2 := by
 have h1 := keyF_r (k:=tPolicy) h
 obtain ⟨h2, h3, h4⟩ := wordT_r h1
 have ht := (h5k h2).2.1
 have h5 : Rs (nmS s) (nmS s') := ⟨h3, ite_r (by rw [h4, ht]) (h5r (by omega) (by omega)) h4⟩
 obtain ⟨g1, g2⟩ := actF_r (keyF_r (k:=tDefault) (h6j (k:=0) h5).2)
 have g3 := (h6j (k:=0) g2).2
 have e : (polS s).1 = (polS s').1 := by
  show (⟨_, _, [], 0, [], []⟩ : Pol) = ⟨_, _, [], 0, [], []⟩
  rw [ht, show (dfS s).1 = (dfS s').1 from g1]
 have hl : (polS s).2.1.length = (polS s').2.1.length := by
  have := congrArg List.length g3.1
  rwa [List.length_map, List.length_map] at this
 have e1 : allP s = h3c ((polS s').2.1.length + 1) ((polS s').1, (polS s).2) := by
  unfold allP
  rw [hl, ← e]
 rw [e1]
 exact linesGo_r _ _ _ _ g3
structure PolRn (P : Pol) : Prop where
 c : ∀ r ∈ P.rules, ∀ c ∈ r.conds, c.mask ≤ 18446744073709551615 ∧ c.val ≤ 18446744073709551615
theorem pol_words {l : List UInt8} {ts : List Tk} (P : Pol) (h : PolOk P) (hl : lexF l = (ts, none)) (hk : ts.map kn = (toks (polL P)).map kn) : polF l = (P, (0, 0, 0)) := by
 have h1 := all_tk P h
 obtain ⟨g1, g2, g3⟩ := allP_r (s:=(ts, (0, 0, 0))) (s' := (toks (polL P), (0, 0, 0))) ⟨hk, Iff.rfl⟩
 have h2 : allP (toks (polL P), (0, 0, 0)) = (P, ([], (0, 0, 0))) := h1
 rw [h2] at g1 g3
 unfold polF
 rw [hl]
 dsimp only
 rw [if_pos (g3.2 rfl), g1]
theorem actL_ok {a : Int} (h : h6d a = true) : (∀ w ∈ actL a, WOk w) ∧ actL a ≠ [] ∧ ((actL a).map fun w => w.2.1.length + 1).sum ≤ 27 := by
 unfold actL
 split
 ·refine ⟨fun w hw => ?_, by simp, ?_⟩
  ·rcases List.mem_cons.1 hw with rfl | hw
   ·exact nmB_ok (by decide)
   ·rw [List.mem_singleton.1 hw]
    have := and_lt a
    exact wD_ok (by omega)
  ·have := decF_len 5 (iand a 65535).toNat (by omega) (by have := and_lt a; omega)
   simp only [List.map_cons, List.map_nil, List.sum_cons, List.sum_nil]
   have e : tErrno.length = 5 := rfl
   omega
 ·split
  ·exact ⟨fun w hw => by rw [List.mem_singleton.1 hw]; exact nmB_ok (by decide), by simp, by decide⟩
  ·split
   ·exact ⟨fun w hw => by rw [List.mem_singleton.1 hw]; exact nmB_ok (by decide), by simp, by decide⟩
   ·exact ⟨fun w hw => by rw [List.mem_singleton.1 hw]; exact nmB_ok (by decide), by simp, by decide⟩
theorem d20 {n : Nat} (h : n ≤ 18446744073709551615) : (decF n).length ≤ 20 := decF_len 20 n (by omega) (by omega)
theorem argTx_ok {n : Nat} (h : n ≤ 5) : WOk (wN (argTx n)) ∧ (argTx n).length = 4 := by
 obtain rfl | rfl | rfl | rfl | rfl | rfl : n = 0 ∨ n = 1 ∨ n = 2 ∨ n = 3 ∨ n = 4 ∨ n = 5 := by omega
 all_goals
  unfold argTx
  rw [decF_dig (by omega)]
  exact ⟨nmB_ok (by decide), by decide⟩
theorem cndL_ok {c : Cnd} (h : CndOk c) (hm : c.mask ≤ 18446744073709551615) (hv : c.val ≤ 18446744073709551615) : (∀ w ∈ cndL c, WOk w) ∧ ((cndL c).map fun w => w.2.1.length + 1).sum ≤ 53 := by
 have h1 := argTx_ok h.arg
 have h2 := sg_ok h.op1 h.op2
 have h3 := d20 hm
 have h4 := d20 hv
 unfold cndL
 by_cases c7 : c.op = 7
 ·rw [if_pos c7]
  refine ⟨fun w hw => ?_, ?_⟩
  ·simp only [List.cons_append, List.nil_append, List.mem_cons, List.not_mem_nil, or_false] at hw
   rcases hw with rfl | rfl | rfl | rfl | rfl
   ·exact h1.1
   ·exact h2.1
   ·exact wD_ok hm
   ·exact wG_ok (by decide)
   ·exact wD_ok hv
  ·simp only [List.cons_append, List.nil_append, List.map_cons, List.map_nil, List.sum_cons, List.sum_nil, List.length_cons, List.length_nil]
   omega
 ·rw [if_neg c7]
  refine ⟨fun w hw => ?_, ?_⟩
  ·simp only [List.nil_append, List.mem_cons, List.not_mem_nil, or_false] at hw
   rcases hw with rfl | rfl | rfl
   ·exact h1.1
   ·exact h2.1
   ·exact wD_ok hv
  ·simp only [List.nil_append, List.map_cons, List.map_nil, List.sum_cons, List.sum_nil]
   omega
theorem cndsL_ok (cs : List Cnd) (h : ∀ c ∈ cs, CndOk c ∧ c.mask ≤ 18446744073709551615 ∧ c.val ≤ 18446744073709551615) : ∀ key : List UInt8, nmB key = true → key.length ≤ 3 → (∀ w ∈ cndsL key cs, WOk w) ∧ ((cndsL key cs).map fun w => w.2.1.length + 1).sum ≤ 57 * cs.length := by
 induction cs with
 | nil => intro key _ _; exact ⟨(fun w hw => by cases hw), Nat.le_refl _⟩
 | cons c cs ih =>
  intro key hk hl
  obtain ⟨h1, h2, h3⟩ := h c (List.mem_cons_self ..)
  obtain ⟨g1, g2⟩ := cndL_ok h1 h2 h3
  obtain ⟨k1, k2⟩ := ih (fun c hc => h c (List.mem_cons_of_mem _ hc)) tAnd (by decide) (by decide)
  refine ⟨fun w hw => ?_, ?_⟩
  ·rcases List.mem_cons.1 hw with rfl | hw
   ·exact nmB_ok hk
   ·rcases List.mem_append.1 hw with hw | hw
    ·exact g1 w hw
    ·exact k1 w hw
  ·show ((wN key :: (cndL c ++ cndsL tAnd cs)).map fun w => w.2.1.length + 1).sum ≤ _
   rw [List.map_cons, List.sum_cons, List.map_append, List.sum_append, List.length_cons]
   show key.length + 1 + _ ≤ _
   omega
theorem clls_nm : (clls.all fun m => nmB (lB m.name) && decide ((lB m.name).length ≤ 14)) = true := by decide +kernel
theorem rulL_ok {r : RulP} (h : RulOk r) (hr : ∀ c ∈ r.conds, c.mask ≤ 18446744073709551615 ∧ c.val ≤ 18446744073709551615) : (∀ w ∈ rulL r, WOk w) ∧ rulL r ≠ [] ∧ ((rulL r).map fun w => w.2.1.length + 1).sum ≤ 390 := by
 obtain ⟨a1, a2, a3⟩ := actL_ok h.act
 obtain ⟨c1, c2⟩ := cndsL_ok r.conds (fun c hc => ⟨h.conds c hc, hr c hc⟩) tIf (by decide) (by decide)
 have hn : nmB (h5j r.num) = true ∧ (h5j r.num).length ≤ 14 := by
  cases hc : h4w r.num clls with
  | none => have := h.num; rw [hc] at this; cases this
  | some m =>
   have h2 := List.all_eq_true.1 clls_nm m (cnumF_mem hc).1
   rw [Bool.and_eq_true, decide_eq_true_eq] at h2
   unfold h5j
   rw [hc]; exact h2
 refine ⟨fun w hw => ?_, by simp [rulL], ?_⟩
 ·rcases List.mem_cons.1 hw with rfl | hw
  ·exact nmB_ok (by decide)
  rcases List.mem_cons.1 hw with rfl | hw
  ·exact nmB_ok hn.1
  rcases List.mem_append.1 hw with hw | hw
  ·exact a1 w hw
  ·exact c1 w hw
 ·show ((wN tCall :: wN (h5j r.num) :: (actL r.act ++ cndsL tIf r.conds)).map fun w => w.2.1.length + 1).sum ≤ _
  rw [List.map_cons, List.map_cons, List.sum_cons, List.sum_cons, List.map_append, List.sum_append]
  show tCall.length + 1 + ((h5j r.num).length + 1 + _) ≤ _
  have e : tCall.length = 4 := rfl
  have := h.len
  omega
theorem spcL_len (ws : List W3) : (spcL ws).length ≤ (ws.map fun w => w.2.1.length + 1).sum := by
 cases ws with
 | nil => exact Nat.le_refl _
 | cons w r =>
  rw [List.map_cons, List.sum_cons]
  show (w.2.1 ++ r.flatMap fun v => 32 :: v.2.1).length ≤ _
  have key : ∀ r : List W3, (r.flatMap fun v => 32 :: v.2.1).length ≤ (r.map fun w => w.2.1.length + 1).sum := by
   intro r
   induction r with
   | nil => exact Nat.le_refl _
   | cons v r ih =>
    rw [List.flatMap_cons, List.length_append, List.map_cons, List.sum_cons, List.length_cons]
    omega
  have := key r
  rw [List.length_append]
  omega
theorem lnsT_len (D : List (List W3)) (k : Nat) (h : ∀ ws ∈ D, (ws.map fun w => w.2.1.length + 1).sum ≤ k) : (lnsT D).length ≤ D.length * (k + 1) := by
 induction D with
 | nil => exact Nat.zero_le _
 | cons ws D ih =>
  have h1 := ih (fun w hw => h w (List.mem_cons_of_mem _ hw))
  have h2 := h ws (List.mem_cons_self ..)
  have h3 := spcL_len ws
  show ((ws :: D).flatMap fun ws => spcL ws ++ [10]).length ≤ _
  rw [List.flatMap_cons, List.length_append, List.length_append, List.length_singleton, List.length_cons, Nat.succ_mul]
  have e : (D.flatMap fun ws => spcL ws ++ [10]).length = (lnsT D).length := rfl
  omega
theorem lnsT_app (A B : List (List W3)) : lnsT (A ++ B) = lnsT A ++ lnsT B := by simp [lnsT]
theorem polL_ok (P : Pol) (h : PolOk P) (hr : PolRn P) : LinesOk (polL P) ∧ (polT P).length ≤ 55000 := by
 obtain ⟨n1, n2⟩ := nm_ok h.nm
 obtain ⟨a1, a2, a3⟩ := actL_ok h.df
 have hru : ∀ ws ∈ P.rules.map rulL, (∀ w ∈ ws, WOk w) ∧ ws ≠ [] ∧ (ws.map fun w => w.2.1.length + 1).sum ≤ 390 := by
  intro ws hws
  obtain ⟨r, hr1, rfl⟩ := List.mem_map.1 hws
  exact rulL_ok (h.rules r hr1) (hr.c r hr1)
 have hha : ∀ ws ∈ hanL P.hd, (∀ w ∈ ws, WOk w) ∧ ws ≠ [] ∧ (ws.map fun w => w.2.1.length + 1).sum ≤ 390 := by
  intro ws hws
  unfold hanL at hws
  split at hws
  ·rename_i h0
   obtain ⟨r1, r2⟩ := rg_ok h0 h.hd
   rw [List.mem_singleton.1 hws]
   refine ⟨fun w hw => ?_, by simp, ?_⟩
   ·rcases List.mem_cons.1 hw with rfl | hw
    ·exact nmB_ok (by decide)
    ·rw [List.mem_singleton.1 hw]; exact r1
   ·show tHandle.length + 1 + ((rgT P.hd).length + 1 + 0) ≤ 390
    have e : tHandle.length = 6 := rfl
    omega
  ·cases hws
 have hpa : ∀ ws ∈ P.paths.map benL, (∀ w ∈ ws, WOk w) ∧ ws ≠ [] ∧ (ws.map fun w => w.2.1.length + 1).sum ≤ 450 := by
  intro ws hws
  obtain ⟨p, hp, rfl⟩ := List.mem_map.1 hws
  obtain ⟨g1, g2, g3, g4⟩ := h.paths p hp
  obtain ⟨p1, p2⟩ := wP_ok g1
  obtain ⟨r1, r2⟩ := rg_ok g2 (and_sub g3 h.hd)
  refine ⟨fun w hw => ?_, by simp [benL], ?_⟩
  ·simp only [benL, List.mem_cons, List.not_mem_nil, or_false] at hw
   rcases hw with rfl | rfl | rfl
   ·exact nmB_ok (by decide)
   ·exact p1
   ·exact r1
  ·show tBeneath.length + 1 + (p.1.length + 1 + ((rgT p.2).length + 1 + 0)) ≤ 450
   have e : tBeneath.length = 7 := rfl
   omega
 have hpo : ∀ ws ∈ P.ports.map porL, (∀ w ∈ ws, WOk w) ∧ ws ≠ [] ∧ (ws.map fun w => w.2.1.length + 1).sum ≤ 390 := by
  intro ws hws
  obtain ⟨p, hp, rfl⟩ := List.mem_map.1 hws
  obtain ⟨g1, g2, g3, g4⟩ := h.ports p hp
  obtain ⟨r1, r2⟩ := rg_ok g2 (and_sub g3 h.hd)
  have hd := d20 (n:=p.1) (by omega)
  refine ⟨fun w hw => ?_, by simp [porL], ?_⟩
  ·simp only [porL, List.mem_cons, List.not_mem_nil, or_false] at hw
   rcases hw with rfl | rfl | rfl
   ·exact nmB_ok (by decide)
   ·exact wD_ok (by omega)
   ·exact r1
  ·show tPort.length + 1 + ((decF p.1).length + 1 + ((rgT p.2).length + 1 + 0)) ≤ 390
   have e : tPort.length = 4 := rfl
   omega
 have hh : ∀ ws ∈ [[wN tPolicy, wN P.nm], wN tDefault :: actL P.df], (∀ w ∈ ws, WOk w) ∧ ws ≠ [] ∧ (ws.map fun w => w.2.1.length + 1).sum ≤ 40 := by
  intro ws hws
  rcases List.mem_cons.1 hws with rfl | hws
  ·refine ⟨fun w hw => ?_, by simp, ?_⟩
   ·rcases List.mem_cons.1 hw with rfl | hw
    ·exact nmB_ok (by decide)
    ·rw [List.mem_singleton.1 hw]; exact n1
   ·show tPolicy.length + 1 + (P.nm.length + 1 + 0) ≤ 40
    have e : tPolicy.length = 6 := rfl
    omega
  ·rw [List.mem_singleton.1 hws]
   refine ⟨fun w hw => ?_, by simp, ?_⟩
   ·rcases List.mem_cons.1 hw with rfl | hw
    ·exact nmB_ok (by decide)
    ·exact a1 w hw
   ·rw [List.map_cons, List.sum_cons]
    show tDefault.length + 1 + _ ≤ 40
    have e : tDefault.length = 7 := rfl
    omega
 have e : polL P = [[wN tPolicy, wN P.nm], wN tDefault :: actL P.df] ++ (P.rules.map rulL ++ (hanL P.hd ++ (P.paths.map benL ++ P.ports.map porL))) := rfl
 have all : ∀ ws ∈ polL P, (∀ w ∈ ws, WOk w) ∧ ws ≠ [] := by
  intro ws hws
  rw [e] at hws
  rcases List.mem_append.1 hws with hws | hws
  ·exact ⟨(hh ws hws).1, (hh ws hws).2.1⟩
  rcases List.mem_append.1 hws with hws | hws
  ·exact ⟨(hru ws hws).1, (hru ws hws).2.1⟩
  rcases List.mem_append.1 hws with hws | hws
  ·exact ⟨(hha ws hws).1, (hha ws hws).2.1⟩
  rcases List.mem_append.1 hws with hws | hws
  ·exact ⟨(hpa ws hws).1, (hpa ws hws).2.1⟩
  ·exact ⟨(hpo ws hws).1, (hpo ws hws).2.1⟩
 refine ⟨⟨fun ws hws => (all ws hws).2, fun ws hws => (all ws hws).1⟩, ?_⟩
 unfold polT
 rw [e, lnsT_app, lnsT_app, lnsT_app, lnsT_app]
 have b1 := lnsT_len _ _ (fun ws hws => (hh ws hws).2.2)
 have b2 := lnsT_len _ _ (fun ws hws => (hru ws hws).2.2)
 have b3 := lnsT_len _ _ (fun ws hws => (hha ws hws).2.2)
 have b4 := lnsT_len _ _ (fun ws hws => (hpa ws hws).2.2)
 have b5 := lnsT_len _ _ (fun ws hws => (hpo ws hws).2.2)
 have l3 : (hanL P.hd).length ≤ 1 := by unfold hanL; split <;> simp
 rw [List.length_map] at b2 b4 b5
 simp only [List.length_append]
 have l1 := h.l1
 have l2 := h.l2
 have l4 := h.l3
 simp only [List.length_cons, List.length_nil] at b1
 omega
theorem pol_back (P : Pol) (h : PolOk P) (hr : PolRn P) : polF (polT P) = (P, (0, 0, 0)) := by
 obtain ⟨h1, h2⟩ := polL_ok P h hr
 obtain ⟨ts, h3, h4⟩ := lex_lines (polL P) h1 (by show (polT P).length ≤ 65536; omega)
 exact pol_words P h h3 h4
theorem nd_app {α} {l : List α} {a : α} (h : l.Nodup) (ha : a ∉ l) : (l ++ [a]).Nodup := by
 rw [List.nodup_append]
 refine ⟨h, by simp, fun x hx y hy => ?_⟩
 rw [List.mem_singleton.1 hy]
 exact fun e => ha (e ▸ hx)
theorem mem_app1 {α} {p : α → Prop} {l : List α} {a : α} (h : ∀ x ∈ l, p x) (ha : p a) : ∀ x ∈ l ++ [a], p x := by
 intro x hx
 rcases List.mem_append.1 hx with h1 | h1
 ·exact h x h1
 ·rw [List.mem_singleton.1 h1]; exact ha
theorem firstE_z {l : List Nat} : h5q l = 0 ↔ ∀ e ∈ l, e = 0 := by
 induction l with
 | nil => simp [h5q]
 | cons e r ih =>
  unfold h5q
  split
  ·rename_i h
   exact ⟨fun h2 => absurd h2 h, fun h2 => absurd (h2 e (List.mem_cons_self ..)) h⟩
  ·rename_i h
   rw [ih]
   exact ⟨fun h2 x hx => by
    rcases List.mem_cons.1 hx with rfl | hx
    ·exact Decidable.byContradiction h
    ·exact h2 x hx, fun h2 x hx => h2 x (List.mem_cons_of_mem _ hx)⟩
theorem chkC_z {c : Cnd} : chkC c.g = 0 ↔ CndOk c := by
 obtain ⟨a, o, m, v⟩ := c
 unfold chkC Cnd.g
 dsimp only
 constructor
 ·intro h
  split at h
  ·cases h
  rename_i h1
  split at h
  ·cases h
  rename_i h2
  split at h
  ·cases h
  rename_i h3
  split at h
  ·cases h
  rename_i h4
  refine ⟨?_, ?_, ?_, ?_, ?_⟩
  ·dsimp only; omega
  ·dsimp only; omega
  ·dsimp only; omega
  ·intro h7; dsimp only at *; exact Decidable.byContradiction fun hm => h3 ⟨h7, hm⟩
  ·intro h7; dsimp only at *; exact ⟨fun hm => h4 ⟨h7, .inl hm⟩, Decidable.byContradiction fun hm => h4 ⟨h7, .inr hm⟩⟩
 ·rintro ⟨h1, h2, h3, h4, h5⟩
  dsimp only at *
  rw [if_neg (by omega), if_neg (by omega), if_neg (fun h => h.2 (h4 h.1)), if_neg (fun h => by
   obtain ⟨g1, g2⟩ := h5 h.1
   rcases h.2 with h6 | h6
   ·exact g1 h6
   ·exact h6 g2)]
theorem grant_z {hd r k : Nat} : grantF hd r k = true ↔ r ≠ 0 ∧ r &&& hd = r ∧ r &&& k = r := by
 unfold grantF
 rw [Bool.and_eq_true, Bool.and_eq_true, decide_eq_true_eq]
 exact ⟨fun h => ⟨h.1, hasF_nat h.2.1, hasF_nat h.2.2⟩, fun h => ⟨h.1, nat_hasF h.2.1, nat_hasF h.2.2⟩⟩
theorem chkR_z {r : RulP} (h0 : 0 ≤ r.act) : chkR r.g = 0 ↔ RulOk r := by
 obtain ⟨n, a, cs⟩ := r
 unfold chkR RulP.g
 dsimp only
 rw [List.length_map]
 constructor
 ·intro h
  split at h
  ·cases h
  rename_i h1
  split at h
  ·cases h
  rename_i h2
  split at h
  ·cases h
  rename_i h3
  rw [firstE_z] at h
  refine ⟨?_, h0, ?_, ?_, ?_⟩
  ·dsimp only; cases hc : h4w n clls with
   | none => rw [hc] at h1; exact absurd rfl h1
   | some _ => rfl
  ·dsimp only; simpa using h2
  ·dsimp only; omega
  ·intro c hc
   exact chkC_z.1 (h _ (List.mem_map.2 ⟨c.g, List.mem_map.2 ⟨c, hc, rfl⟩, rfl⟩))
 ·rintro ⟨h1, h2, h3, h4, h5⟩
  dsimp only at *
  rw [if_neg (by cases hc : h4w n clls with
   | none => rw [hc] at h1; cases h1
   | some _ => exact fun h => by cases h), if_neg (by rw [h3]; exact fun h => by cases h), if_neg (by omega), firstE_z]
  intro e he
  obtain ⟨c', hc', rfl⟩ := List.mem_map.1 he
  obtain ⟨c, hc, rfl⟩ := List.mem_map.1 hc'
  exact chkC_z.2 (h5 c hc)
theorem chkPaths_z (hd : Nat) (ps : List (List UInt8 × Nat)) : ∀ seen : List (List UInt8), h4s hd ps seen = 0 ↔ (∀ p ∈ ps, Pt.pathF p.1 = true ∧ grantF hd p.2 2047 = true) ∧ (ps.map (·.1)).Nodup ∧ ∀ p ∈ ps, p.1 ∉ seen := by
 induction ps with
 | nil => intro seen; simp [h4s]
 | cons p r ih =>
  intro seen
  unfold h4s
  cases h1 : Pt.pathF p.1 with
  | false =>
   rw [if_pos rfl]
   exact ⟨fun h => (by cases h), fun h => by have := (h.1 p (List.mem_cons_self ..)).1; rw [h1] at this; cases this⟩
  | true =>
   rw [if_neg (by decide)]
   cases h2 : grantF hd p.2 2047 with
   | false =>
    rw [if_pos rfl]
    exact ⟨fun h => (by cases h), fun h => by have := (h.1 p (List.mem_cons_self ..)).2; rw [h2] at this; cases this⟩
   | true =>
    rw [if_neg (by decide)]
    by_cases h3 : p.1 ∈ seen
    ·rw [if_pos h3]
     exact ⟨fun h => (by cases h), fun h => absurd h3 (h.2.2 p (List.mem_cons_self ..))⟩
    ·rw [if_neg h3, ih]
     constructor
     ·rintro ⟨g1, g2, g3⟩
      refine ⟨?_, ?_, ?_⟩
      ·intro q hq
       rcases List.mem_cons.1 hq with rfl | hq
       ·exact ⟨h1, h2⟩
       ·exact g1 q hq
      ·rw [List.map_cons, List.nodup_cons]
       refine ⟨fun hm => ?_, g2⟩
       obtain ⟨q, hq, he⟩ := List.mem_map.1 hm
       exact g3 q hq (by rw [he]; simp)
      ·intro q hq
       rcases List.mem_cons.1 hq with rfl | hq
       ·exact h3
       ·exact fun hm => g3 q hq (List.mem_append_left _ hm)
     ·rintro ⟨g1, g2, g3⟩
      rw [List.map_cons, List.nodup_cons] at g2
      refine ⟨fun q hq => g1 q (List.mem_cons_of_mem _ hq), g2.2, fun q hq hm => ?_⟩
      rcases List.mem_append.1 hm with hm | hm
      ·exact g3 q (List.mem_cons_of_mem _ hq) hm
      ·exact g2.1 (List.mem_map.2 ⟨q, hq, List.mem_singleton.1 hm⟩)
theorem chkPorts_z (hd : Nat) (ps : List (Nat × Nat)) : ∀ seen : List Nat, h5g hd ps seen = 0 ↔ (∀ p ∈ ps, grantF hd p.2 49152 = true) ∧ (ps.map (·.1)).Nodup ∧ ∀ p ∈ ps, p.1 ∉ seen := by
 induction ps with
 | nil => intro seen; simp [h5g]
 | cons p r ih =>
  intro seen
  unfold h5g
  cases h2 : grantF hd p.2 49152 with
  | false =>
   rw [if_pos rfl]
   exact ⟨fun h => (by cases h), fun h => by have := h.1 p (List.mem_cons_self ..); rw [h2] at this; cases this⟩
  | true =>
   rw [if_neg (by decide)]
   by_cases h3 : p.1 ∈ seen
   ·rw [if_pos h3]
    exact ⟨fun h => (by cases h), fun h => absurd h3 (h.2.2 p (List.mem_cons_self ..))⟩
   ·rw [if_neg h3, ih]
    constructor
    ·rintro ⟨g1, g2, g3⟩
     refine ⟨?_, ?_, ?_⟩
     ·intro q hq
      rcases List.mem_cons.1 hq with rfl | hq
      ·exact h2
      ·exact g1 q hq
     ·rw [List.map_cons, List.nodup_cons]
      refine ⟨fun hm => ?_, g2⟩
      obtain ⟨q, hq, he⟩ := List.mem_map.1 hm
      exact g3 q hq (by rw [he]; simp)
     ·intro q hq
      rcases List.mem_cons.1 hq with rfl | hq
      ·exact h3
      ·exact fun hm => g3 q hq (List.mem_append_left _ hm)
    ·rintro ⟨g1, g2, g3⟩
     rw [List.map_cons, List.nodup_cons] at g2
     refine ⟨fun q hq => g1 q (List.mem_cons_of_mem _ hq), g2.2, fun q hq hm => ?_⟩
     rcases List.mem_append.1 hm with hm | hm
     ·exact g3 q (List.mem_cons_of_mem _ hq) hm
     ·exact g2.1 (List.mem_map.2 ⟨q, hq, List.mem_singleton.1 hm⟩)
theorem hd_z {n : Nat} : h4u (n : Int) 51199 = 0 ↔ n &&& 51199 = n := by
 have e : Rg.hasF 51199 n = true ↔ h4u (n : Int) 51199 = 0 := by
  unfold Rg.hasF
  rw [decide_eq_true_eq]; rfl
 rw [← e]
 exact ⟨hasF_nat, nat_hasF⟩
theorem chkG_z {P : Pol} (h0 : 0 ≤ P.df) (ha : ∀ r ∈ P.rules, 0 ≤ r.act) (hq : ∀ p ∈ P.ports, p.1 < 65536) : chkG P.g = 0 ↔ PolOk P := by
 obtain ⟨nm, df, rs, hd, ps, qs⟩ := P
 unfold chkG Pol.g
 dsimp only at *
 rw [List.length_map]
 constructor
 ·intro h
  split at h
  ·cases h
  rename_i h1
  split at h
  ·cases h
  rename_i h2
  split at h
  ·cases h
  rename_i h3
  split at h
  ·cases h
  rename_i h4
  split at h
  ·rename_i h5; exact absurd h h5
  rename_i h5
  split at h
  ·rename_i h6; exact absurd h h6
  rename_i h6
  have h5 := firstE_z.1 (Decidable.byContradiction h5)
  obtain ⟨p1, p2, -⟩ := (chkPaths_z hd ps []).1 (Decidable.byContradiction h6)
  obtain ⟨q1, q2, -⟩ := (chkPorts_z hd qs []).1 h
  refine ⟨by simpa using h1, h0, by simpa using h2, ?_, hd_z.1 (Decidable.byContradiction h4), by dsimp only; omega, by dsimp only; omega, by dsimp only; omega, ?_, p2, ?_, q2⟩
  ·intro r hr
   exact (chkR_z (ha r hr)).1 (h5 _ (List.mem_map.2 ⟨r.g, List.mem_map.2 ⟨r, hr, rfl⟩, rfl⟩))
  ·intro p hp
   exact ⟨(p1 p hp).1, grant_z.1 (p1 p hp).2⟩
  ·intro p hp
   exact ⟨hq p hp, grant_z.1 (q1 p hp)⟩
 ·rintro ⟨h1, h2, h3, h4, h5, h6, h7, h8, h9, h10, h11, h12⟩
  dsimp only at *
  have e5 : h5q ((rs.map RulP.g).map chkR) = 0 := by
   rw [firstE_z]
   intro e he
   obtain ⟨r', hr', rfl⟩ := List.mem_map.1 he
   obtain ⟨r, hr, rfl⟩ := List.mem_map.1 hr'
   exact (chkR_z (ha r hr)).2 (h4 r hr)
  have e6 : h4s hd ps [] = 0 := (chkPaths_z hd ps []).2 ⟨fun p hp => ⟨(h9 p hp).1, grant_z.2 (h9 p hp).2⟩, h10, fun _ _ h => by cases h⟩
  have e7 : h5g hd qs [] = 0 := (chkPorts_z hd qs []).2 ⟨fun p hp => grant_z.2 (h11 p hp).2, h12, fun _ _ h => by cases h⟩
  rw [if_neg (by rw [h1]; decide), if_neg (by rw [h3]; decide), if_neg (by omega), if_neg (fun h => h (hd_z.2 h5)), if_neg (fun h => h e5), if_neg (fun h => h e6), e7]
section
variable {P : Program} {n : Nat} {l : List (Nat × Value)} {S : List Nat} {w0 : World} {L : List Blk} {k : Kont} {ops : Array Oper}
structure TagC (p : Prop) : Prop where
 out : p
theorem H_run3t {i j m fuel : Nat} {listed : Array Bool} {Lb : List Blk} {o o' o'' : Oper} (hi : ops[i]? = some o) (hj : ops[j]? = some o') (hm : ops[m]? = some o'') (hr : Region.ready .any ops listed = [i, j, m]) (h : TagA (G n l S w0 L (K1 P ops k o (KHS P S w0 Lb ops k fuel (listed.setIfInBounds i true)))))
  (h' : TagB (G n l S w0 L (K1 P ops k o' (KHS P S w0 Lb ops k fuel (listed.setIfInBounds j true))))) (h'' : TagC (G n l S w0 L (K1 P ops k o'' (KHS P S w0 Lb ops k fuel (listed.setIfInBounds m true))))) : G n l S w0 L (KH P S w0 Lb ops k (fuel + 1) listed) := .mk fun a w hF H => by
 refine ⟨wpAnyH_all hr (by simp) fun q hq => ?_⟩
 rcases (show q = i ∨ q = j ∨ q = m by simpa using hq) with rfl | rfl | rfl
 ·have hh := (h.out.out a w hF H).out
  unfold wpOp
  simp only [hi]
  split
  ·rename_i hw; rw [if_pos hw] at hh; exact .inl (Oper.wp_mono (fun _ _ h => ⟨h.out.1, h.out.2.out⟩) hh)
  ·rename_i hw; rw [if_neg hw] at hh; exact ⟨hh.out.1, hh.out.2.out⟩
 ·have hh := (h'.out.out a w hF H).out
  unfold wpOp
  simp only [hj]
  split
  ·rename_i hw; rw [if_pos hw] at hh; exact .inl (Oper.wp_mono (fun _ _ h => ⟨h.out.1, h.out.2.out⟩) hh)
  ·rename_i hw; rw [if_neg hw] at hh; exact ⟨hh.out.1, hh.out.2.out⟩
 ·have hh := (h''.out.out a w hF H).out
  unfold wpOp
  simp only [hm]
  split
  ·rename_i hw; rw [if_pos hw] at hh; exact .inl (Oper.wp_mono (fun _ _ h => ⟨h.out.1, h.out.2.out⟩) hh)
  ·rename_i hw; rw [if_neg hw] at hh; exact ⟨hh.out.1, hh.out.2.out⟩
end
abbrev AT10 : ByteArray := ⟨#[112, 111, 108, 105, 99, 121, 32, 112, 10, 100, 101, 102, 97, 117, 108, 116, 32, 97, 108, 108, 111, 119, 10, 99, 97, 108, 108, 32, 119, 114, 105, 116, 101, 32, 107, 105, 108, 108, 10]⟩
theorem at10_pol : polF (lB AT10) = (⟨[112], 2147418112, [⟨1, 2147483648, []⟩], 0, [], []⟩, (0, 0, 0)) := by kernel_rfl
theorem RulsR.inv {rs : List RulP} {cz : List Value} {ec : List Blk} (h : RulsR rs cz ec) : (rs = [] ∧ cz = [] ∧ ec = []) ∨ ∃ rs' cz' ec' r v e, rs = rs' ++ [r] ∧ cz = cz' ++ [.int .u32 r.num, .int .u32 r.act, v] ∧ ec = e ++ ec' ∧ RulsR rs' cz' ec' ∧ Own 99 4 v r.conds.length (cndC r.conds) e := by
 cases h with
 | nil => exact Or.inl ⟨rfl, rfl, rfl⟩
 | snoc h1 h2 => exact Or.inr ⟨_, _, _, _, _, _, rfl, rfl, rfl, h1, h2⟩
theorem rules_one {r : RulP} {cz : List Value} {ec : List Blk} (h : RulsR [r] cz ec) : ∃ v, cz = [.int .u32 r.num, .int .u32 r.act, v] := by
 rcases h.inv with ⟨h1, -⟩ | ⟨rs', cz', ec', r', v, e, h1, h2, -, h3, -⟩
 ·cases h1
 ·have hl := congrArg List.length h1
  rw [List.length_append] at hl
  obtain rfl : rs' = [] := List.eq_nil_of_length_eq_zero (by simpa using hl)
  injection h1 with h4 h5
  subst h4
  rcases h3.inv with ⟨-, h6, -⟩ | ⟨rs2, cz2, ec2, r2, v2, e2, h6, -⟩
  ·exact ⟨v, by rw [h2, h6]; rfl⟩
  ·have hl := congrArg List.length h6
   rw [List.length_append] at hl
   simp at hl
theorem pw10_c {S w0 L} (pb ct rb : Nat) : Fn Tryz.prog 10 #[.pointer (some ⟨pb, 0, none⟩), .string AT10] S w0 (prB pb ct rb :: tbl0 ct 0 0 :: Rg.wrd0 rb :: L) fun v L' => ∃ g cap cur p1 p2 p3 q1 q2 q3,
  v = h2y [.agg #[.string ⟨#[112]⟩, .int .u32 2147418112, .slice (some ⟨g, 0, none⟩) 1 cap, .int .u16 0, .slice p1 p2 p3, .slice q1 q2 q3], .agg #[.int .i64 0, .int .i64 0, .int .i64 0]] ∧ 3 ≤ cur.size ∧ cur.toList[0]? = some (.int .u32 1) ∧ cur.toList[1]? = some (.int .u32 2147483648) ∧ ⟨true, g, .cells cur 73 (0, 0)⟩ :: L = L' := by
 refine (parse_c (S:=S) (w0:=w0) pb ct rb 0 L (tbl0 ct 0 0 :: Rg.wrd0 rb :: L) (by omega) ⟨0, 0, none, rfl⟩ AT10 (by decide)).mono ?_
 rintro v L' ⟨d, m', T', rfl, hd, -, ⟨m1, m2, o, rfl⟩, rfl⟩
 rw [at10_pol] at hd ⊢
 obtain ⟨r1, r3, p1, p3, q1, q3, e1, e2, e3⟩ := hd.sl
 obtain ⟨vc, hcz⟩ := rules_one hd.rs
 rcases h2z hd.vr with ⟨h1, h0, -, -⟩ | ⟨g, cap, cur, h1, h2, h3, h4, h5, h6⟩
 ·cases h0
 ·rw [hcz] at h6
  have h7 : ∀ i : Nat, i < 3 → cur.toList[i]? = [Value.int .u32 1, .int .u32 2147483648, vc][i]? := by
   intro i hi
   have h8 : (cur.toList.take 3)[i]? = [Value.int .u32 1, .int .u32 2147483648, vc][i]? := by
    show (cur.toList.take (1 * 3))[i]? = _
    rw [show (1 : Nat) = ([⟨1, 2147483648, []⟩] : List RulP).length from rfl, h6]
   rw [← h8, List.getElem?_take_of_lt hi]
  have h9 : ([⟨1, 2147483648, []⟩] : List RulP).length = 1 := rfl
  rw [h9] at h3
  refine ⟨_, ⟨g, cap, cur, p1, _, p3, q1, _, q3, by rw [h1, e2, e3]; rfl, by omega, h7 0 (by omega), h7 1 (by omega), rfl⟩, fun w H => ?_⟩
  unfold PoD.blocks at H
  rw [h2] at H
  refine H.sub (List.Sublist.cons _ ?_)
  simp only [List.cons_append, List.nil_append]
  refine List.Sublist.cons_cons _ ?_
  simp only [← List.append_assoc]
  exact List.sublist_append_right _ _
theorem awake10_c {S w0 L} : Fn Tryz.prog 8 #[] S w0 L fun v L' => v = .bool true ∧ L = L' := by
 have hp := fun (L : List Blk) (pb ct rb : Nat) => pw10_c (S:=S) (w0:=w0) (L:=L) pb ct rb
 refine Fn0 Tryz.func8 Tryz.ntmps8 rfl ?_
 repeat' (first | refine h0i ?_ | refine h0b ?_ | refine h0v ?_ | (refine gR 0 (p_a (h:=h0a ?_))) | (refine gR 1 ?_ <;> (try refine h0c ?_; (refine q_c 9 (c:=by apply new_q) (h:=?_); rintro _ _ ⟨pb, ct, rb, rfl, rfl⟩; (try simp only [zzE, zzF]))) <;> (try refine h0c ?_; (refine q_c 10 (c:=by apply hp) (h:=?_); rintro _ _ ⟨g, cap, cur, p1, p2, p3, q1, q2, q3, rfl, hsz, h0, h1, rfl⟩; (try simp only [zzE, zzF]))) <;> (try refine p_m (h:=p_x (h:=q_x ?_))) <;> (try refine h0c ?_; (refine h0k (t:=36) rfl Tryz.zeroValue36 ?_; intro nb hnb; (try simp only [Value.cells]))) <;> (try refine h0c ?_; (refine h0k (t:=25) rfl Tryz.zeroValue25 ?_; intro nb hnb; (try simp only [Value.cells]))) <;> (try refine h0c ?_; (refine q_W ?_)) <;> (try refine h0c ?_; (refine q_W ?_)) <;> (try refine h0a ?_)) | (refine gR 2 (q_e (q_L h3z) ?_) <;> (try refine q_e (by exact h0q (t:=25) (fun vs => (match vs with | [] => [Value.int .i64 0, Value.int .i64 0, Value.int .i64 0] | _ => [])) rfl (fun w => by kernel_rfl)) ?_; (try simp only [Value.cells]); (try simp only [zzC, zzN])) <;> (try refine p_e (by apply h1l (op:=.eql) (t:=25); exact rfl; exact rfl; kernel_rfl; (apply rb_eql_agg Tryz.underlying25 (by kernel_rfl); apply EqF.int; (focus (simp)); exact Tryz.underlying3; exact rfl; exact rfl; exact rfl; apply EqF.int; (focus (simp)); exact Tryz.underlying3; exact rfl; exact rfl; exact rfl; exact EqF.int1 (by simp) Tryz.underlying23 rfl rfl rfl)) (h:=p_m (h:=p_y (q_f h6b) (h:=p_y q_l (h:=p_y (q_b (r:=by exact h2m)) (h:=p_p (h:=p_m (h:=p_y (q_f fo_36_1) (h:=q_y q_l ?_))))))))) <;> (try refine q_y (by exact q_b (r:=by refine h1e ?_; first | rfl | (with_reducible assumption) | (decide; done) | omega)) ?_) <;> (try refine p_p (h:=p_m (h:=p_y (q_f h2t) (h:=p_y q_l (h:=q_y (by apply h0e; exact rfl; exact (fun _ => BigFrame.builtin_len ..); apply h0d Tryz.underlying30; exact h3m) ?_))))) <;> (try refine q_y (by exact q_b (r:=by refine h1e ?_; first | rfl | (with_reducible assumption) | (decide; done) | omega)) ?_) <;> (try refine p_p (h:=p_m (h:=p_y (q_f h2t) (h:=p_y q_l (h:=p_y (by apply h0n; exact rfl; exact rfl; (focus (apply h2j Tryz.underlying30 sz_73; omega; omega; exact c_1))) (h:=p_y (q_f fo_73_0) (h:=q_y (by apply h1v (t:=28); exact rfl; exact h3i; kernel_rfl; kernel_rfl; (with_reducible assumption)) ?_))))))) <;> (try refine q_y (by exact q_b (r:=by refine h1e ?_; first | rfl | (with_reducible assumption) | (decide; done) | omega)) ?_) <;> (try refine p_p (h:=p_m (h:=p_y (q_f h2t) (h:=p_y q_l (h:=p_y (by apply h0n; exact rfl; exact rfl; (focus (apply h2j Tryz.underlying30 sz_73; omega; omega; exact c_1))) (h:=p_y (q_f fo_73_1) (h:=q_y (by apply h1v (t:=29); exact rfl; exact h3i; kernel_rfl; kernel_rfl; (with_reducible assumption)) ?_))))))) <;> (try refine q_y (by exact q_b (r:=by refine h1e ?_; first | rfl | (with_reducible assumption) | (decide; done) | omega)) ?_) <;> (try refine p_p (h:=p_a (h:=h0a ?_)))))
 (refine h0o Tryz.results8 (.tmp rfl .nil) ?_)
 exact ⟨_, ⟨rfl, rfl⟩, by intro w H; refine H.sub ?_; (try simp only [zzC, zzN]); repeat (first | exact List.Sublist.refl _ | refine List.Sublist.cons _ ?_)⟩
theorem RulsG.snoc {L : List Blk} {v : Value} {r : GRul} : ∀ {rs : List GRul} {cz : List Value}, RulsG L rs cz → CndS L v r.conds → RulsG L (rs ++ [r]) (cz ++ [.int .u32 r.num, .int .u32 r.act, v])
 | [], cz, h, hc => by
  obtain rfl : cz = [] := h
  exact ⟨v, [], rfl, hc, rfl⟩
 | _ :: _, _, ⟨v2, cz', h1, h2, h3⟩, hc => ⟨v2, _, by rw [h1]; rfl, h2, RulsG.snoc h3 hc⟩
theorem RulsR.g {rs : List RulP} {cz : List Value} {ec : List Blk} (h : RulsR rs cz ec) (hl : ∀ r ∈ rs, r.conds.length ≤ maxLen) : RulsG ec (rs.map RulP.g) cz := by
 induction h with
 | nil => rfl
 | @snoc rs cz ec r v e _ ho ih =>
  rw [List.map_append]
  obtain ⟨a, c, hv, hs⟩ := ho.sli ec
  refine RulsG.snoc (RulsG.upA e (ih fun q hq => hl q (List.mem_append_left _ hq))) ?_
  refine ⟨a, c, ?_, ?_, ?_⟩
  ·show v = .slice a (r.conds.map Cnd.g).length c
   rw [List.length_map]; exact hv
  ·show Sli (e ++ ec) a (r.conds.map Cnd.g).length 4 (gcC (r.conds.map Cnd.g))
   rw [List.length_map, gcC_map]; exact hs
  ·show (r.conds.map Cnd.g).length ≤ maxLen
   rw [List.length_map]; exact hl r (List.mem_append_right _ (List.mem_singleton.2 rfl))
theorem PoD.ok.polS {d : PoD} {P : Pol} (h : d.ok P) (hl : ∀ r ∈ P.rules, r.conds.length ≤ maxLen) : PolS d.blocks P.g d.vr d.vp d.vq := by
 obtain ⟨r1, r2, e1, s1⟩ := h.vr.sli (d.ep ++ (d.eq ++ d.ec))
 obtain ⟨p1, p2, e2, s2⟩ := h.vp.sli (d.eq ++ d.ec)
 obtain ⟨q1, q2, e3, s3⟩ := h.vq.sli d.ec
 have g := RulsR.g h.rs hl
 have hm : (1000 : Nat) ≤ maxLen := by unfold maxLen; omega
 have elr : P.g.rules.length = P.rules.length := List.length_map ..
 refine ⟨⟨r1, r2, d.cz, by rw [elr]; exact e1, by rw [elr]; exact s1, ((g.upA d.eq).upA d.ep).upA d.er⟩, ⟨p1, p2, e2, s2.upA d.er⟩, ⟨q1, q2, e3, (s3.upA d.ep).upA d.er⟩, ?_, ?_, ?_⟩
 ·rw [elr]; have := h.l1; omega
 ·show P.paths.length ≤ maxLen
  have := h.l2; omega
 ·show P.ports.length ≤ maxLen
  have := h.l3; omega
theorem condchk_c {S w0 L} (c : GCnd) (h : c.ok) : Fn Tryz.prog 65 #[.agg c.cells.toArray] S w0 L fun v L' => v = .int .i64 (chkC c : Nat) ∧ L = L' := by
 obtain ⟨a, o, m, x⟩ := c
 obtain ⟨h1, h2, h3, h4⟩ := h
 have key : ∀ k : Nat, chkC ⟨a, o, m, x⟩ = k → Fn Tryz.prog 65 #[.agg (GCnd.cells ⟨a, o, m, x⟩).toArray] S w0 L (fun v L' => v = .int .i64 (k : Nat) ∧ L = L') → Fn Tryz.prog 65 #[.agg (GCnd.cells ⟨a, o, m, x⟩).toArray] S w0 L (fun v L' => v = .int .i64 (chkC ⟨a, o, m, x⟩ : Nat) ∧ L = L') := by
  intro k hk hf; rw [hk]; exact hf
 dsimp only [GCnd.cells] at *
 by_cases c1 : a < 0
 ·refine key 204 (by unfold chkC; rw [if_pos (Or.inl c1)]) ?_
  refine Fn1 Tryz.func65 Tryz.ntmps65 rfl rfl ?_
  repeat' (first | refine h0i ?_ | refine h0b ?_ | refine h0t ?_ | refine h1k ?_ | refine h0j ?_ | refine h0v ?_ | refine h0g rfl ?_ | (refine gR 0 ?_ <;> (try refine h0c ?_; (refine h2n (t:=99) rfl rfl ?_; intro nb hnb; (try simp only [Value.cells]))) <;> (try refine p_a (h:=h0a ?_))) | (refine gR 1 (p_e (q_f h4m) (h:=p_e q_l (h:=p_e (q_b (r:=by exact h0u q_o)) (h:=p_m (h:=p_z (h:=p_z (h:=p_z (h:=p_p (h:=p_a (h:=h0a ?_))))))))))) | (refine gR 2 (p_a (h:=h0a ?_))))
  (refine h0o Tryz.results65 (.tmp rfl .nil) ?_)
  exact ⟨_, ⟨rfl, rfl⟩, by intro w H; refine H.sub ?_; (try simp only [zzC, zzN]); repeat (first | exact List.Sublist.refl _ | refine List.Sublist.cons _ ?_)⟩
 by_cases c2 : 5 < a
 ·refine key 204 (by unfold chkC; rw [if_pos (Or.inr c2)]) ?_
  refine Fn1 Tryz.func65 Tryz.ntmps65 rfl rfl ?_
  repeat' (first | refine h0i ?_ | refine h0b ?_ | refine h0t ?_ | refine h1k ?_ | refine h0j ?_ | refine h0v ?_ | refine h0g rfl ?_ | (refine gR 0 ?_ <;> (try refine h0c ?_; (refine h2n (t:=99) rfl rfl ?_; intro nb hnb; (try simp only [Value.cells]))) <;> (try refine p_a (h:=h0a ?_))) | (refine gR 1 (p_e (q_f h4m) (h:=p_e q_l (h:=p_e (q_b (r:=by exact h0y q_o)) (h:=p_m (h:=p_y (q_f h4m) (h:=p_y q_l (h:=p_y (q_b (r:=by exact h1x q_o)) (h:=p_p (h:=p_a (h:=h0a ?_))))))))))) | (refine gR 2 (p_a (h:=h0a ?_))))
  (refine h0o Tryz.results65 (.tmp rfl .nil) ?_)
  exact ⟨_, ⟨rfl, rfl⟩, by intro w H; refine H.sub ?_; (try simp only [zzC, zzN]); repeat (first | exact List.Sublist.refl _ | refine List.Sublist.cons _ ?_)⟩
 have n1 : ¬ (a < 0 ∨ 5 < a) := fun h => h.elim c1 c2
 by_cases c3 : o < 1
 ·refine key 210 (by unfold chkC; rw [if_neg n1, if_pos (Or.inl c3)]) ?_
  refine Fn1 Tryz.func65 Tryz.ntmps65 rfl rfl ?_
  repeat' (first | refine h0i ?_ | refine h0b ?_ | refine h0t ?_ | refine h1k ?_ | refine h0j ?_ | refine h0v ?_ | refine h0g rfl ?_ | refine h0f rfl ?_ | (refine gR 0 ?_ <;> (try refine h0c ?_; (refine h2n (t:=99) rfl rfl ?_; intro nb hnb; (try simp only [Value.cells]))) <;> (try refine p_a (h:=h0a ?_))) | (refine gR 1 (p_e (q_f h4m) (h:=p_e q_l (h:=p_e (q_b (r:=by exact h0y q_o)) (h:=p_m (h:=p_y (q_f h4m) (h:=p_y q_l (h:=p_y (q_b (r:=by exact h1h q_o)) (h:=p_p (h:=p_a (h:=h0a ?_))))))))))) | (refine gR 3 (p_e (q_f h3d) (h:=p_e q_l (h:=p_e (q_b (r:=by exact h0u q_o)) (h:=p_m (h:=p_z (h:=p_z (h:=p_z (h:=p_p (h:=p_a (h:=h0a ?_))))))))))) | (refine gR 4 (p_a (h:=h0a ?_))))
  (refine h0o Tryz.results65 (.tmp rfl .nil) ?_)
  exact ⟨_, ⟨rfl, rfl⟩, by intro w H; refine H.sub ?_; (try simp only [zzC, zzN]); repeat (first | exact List.Sublist.refl _ | refine List.Sublist.cons _ ?_)⟩
 by_cases c4 : 7 < o
 ·refine key 210 (by unfold chkC; rw [if_neg n1, if_pos (Or.inr c4)]) ?_
  refine Fn1 Tryz.func65 Tryz.ntmps65 rfl rfl ?_
  repeat' (first | refine h0i ?_ | refine h0b ?_ | refine h0t ?_ | refine h1k ?_ | refine h0j ?_ | refine h0v ?_ | refine h0g rfl ?_ | refine h0f rfl ?_ | (refine gR 0 ?_ <;> (try refine h0c ?_; (refine h2n (t:=99) rfl rfl ?_; intro nb hnb; (try simp only [Value.cells]))) <;> (try refine p_a (h:=h0a ?_))) | (refine gR 1 (p_e (q_f h4m) (h:=p_e q_l (h:=p_e (q_b (r:=by exact h0y q_o)) (h:=p_m (h:=p_y (q_f h4m) (h:=p_y q_l (h:=p_y (q_b (r:=by exact h1h q_o)) (h:=p_p (h:=p_a (h:=h0a ?_))))))))))) | (refine gR 3 (p_e (q_f h3d) (h:=p_e q_l (h:=p_e (q_b (r:=by exact h0y q_o)) (h:=p_m (h:=p_y (q_f h3d) (h:=p_y q_l (h:=p_y (q_b (r:=by exact h1x q_o)) (h:=p_p (h:=p_a (h:=h0a ?_))))))))))) | (refine gR 4 (p_a (h:=h0a ?_))))
  (refine h0o Tryz.results65 (.tmp rfl .nil) ?_)
  exact ⟨_, ⟨rfl, rfl⟩, by intro w H; refine H.sub ?_; (try simp only [zzC, zzN]); repeat (first | exact List.Sublist.refl _ | refine List.Sublist.cons _ ?_)⟩
 have n2 : ¬ (o < 1 ∨ 7 < o) := fun h => h.elim c3 c4
 by_cases c5 : o = 7
 ·have n3 : ¬ (o ≠ 7 ∧ m ≠ 0) := fun h => h.1 c5
  by_cases c6 : m = 0
  ·refine key 204 (by unfold chkC; dsimp only; rw [if_neg n1, if_neg n2, if_neg n3, if_pos ⟨c5, Or.inl c6⟩]) ?_
   refine Fn1 Tryz.func65 Tryz.ntmps65 rfl rfl ?_
   repeat' (first | refine h0i ?_ | refine h0b ?_ | refine h0t ?_ | refine h1k ?_ | refine h0j ?_ | refine h0v ?_ | refine h0g rfl ?_ | refine h0f rfl ?_ | (refine gR 0 ?_ <;> (try refine h0c ?_; (refine h2n (t:=99) rfl rfl ?_; intro nb hnb; (try simp only [Value.cells]))) <;> (try refine p_a (h:=h0a ?_))) | (refine gR 1 (p_e (q_f h4m) (h:=p_e q_l (h:=p_e (q_b (r:=by exact h0y q_o)) (h:=p_m (h:=p_y (q_f h4m) (h:=p_y q_l (h:=p_y (q_b (r:=by exact h1h q_o)) (h:=p_p (h:=p_a (h:=h0a ?_))))))))))) | (refine gR 3 (p_e (q_f h3d) (h:=p_e q_l (h:=p_e (q_b (r:=by exact h0y q_o)) (h:=p_m (h:=p_y (q_f h3d) (h:=p_y q_l (h:=p_y (q_b (r:=by exact h1h q_o)) (h:=p_p (h:=p_a (h:=h0a ?_))))))))))) | (refine gR 5 (p_e (q_f h3d) (h:=q_e q_l ?_)) <;> (try refine q_e (by exact q_b (r:=by refine h1w ?_; first | rfl | (with_reducible assumption) | (decide; done) | omega)) ?_) <;> (try refine p_m (h:=p_z (h:=p_z (h:=p_z (h:=p_p (h:=p_a (h:=h0a ?_)))))))) | (refine gR 7 (p_e (q_f h3d) (h:=q_e q_l ?_)) <;> (try refine q_e (by exact q_b (r:=by refine h1e ?_; first | rfl | (with_reducible assumption) | (decide; done) | omega)) ?_) <;> (try refine p_m (h:=p_y (q_f h5b) (h:=q_y q_l ?_))) <;> (try refine q_y (by exact q_b (r:=by refine h1e ?_; first | rfl | (with_reducible assumption) | (decide; done) | omega)) ?_) <;> (try refine p_y (h0h rfl) (h:=p_z (h:=p_z (h:=p_z (h:=p_z (h:=p_z (h:=p_z (h:=p_y (h4o rfl rfl) (h:=p_p (h:=p_a (h:=h0a ?_)))))))))))) | (refine gR 8 (p_a (h:=h0a ?_))))
   (refine h0o Tryz.results65 (.tmp rfl .nil) ?_)
   exact ⟨_, ⟨rfl, rfl⟩, by intro w H; refine H.sub ?_; (try simp only [zzC, zzN]); repeat (first | exact List.Sublist.refl _ | refine List.Sublist.cons _ ?_)⟩
  by_cases c7 : h4u (x : Int) (m : Int) = 0
  ·refine key 0 (by unfold chkC; dsimp only; rw [if_neg n1, if_neg n2, if_neg n3, if_neg (fun h => h.2.elim c6 (fun h => h c7))]) ?_
   refine Fn1 Tryz.func65 Tryz.ntmps65 rfl rfl ?_
   repeat' (first | refine h0i ?_ | refine h0b ?_ | refine h0x ?_ | refine h0j ?_ | refine h0r ?_ | refine h0v ?_ | refine h0f rfl ?_ | (refine gR 0 ?_ <;> (try refine h0c ?_; (refine h2n (t:=99) rfl rfl ?_; intro nb hnb; (try simp only [Value.cells]))) <;> (try refine p_a (h:=h0a ?_))) | (refine gR 1 (p_e (q_f h4m) (h:=p_e q_l (h:=p_e (q_b (r:=by exact h0y q_o)) (h:=p_m (h:=p_y (q_f h4m) (h:=p_y q_l (h:=p_y (q_b (r:=by exact h1h q_o)) (h:=p_p (h:=p_a (h:=h0a ?_))))))))))) | (refine gR 3 (p_e (q_f h3d) (h:=p_e q_l (h:=p_e (q_b (r:=by exact h0y q_o)) (h:=p_m (h:=p_y (q_f h3d) (h:=p_y q_l (h:=p_y (q_b (r:=by exact h1h q_o)) (h:=p_p (h:=p_a (h:=h0a ?_))))))))))) | (refine gR 5 (p_e (q_f h3d) (h:=q_e q_l ?_)) <;> (try refine q_e (by exact q_b (r:=by refine h1w ?_; first | rfl | (with_reducible assumption) | (decide; done) | omega)) ?_) <;> (try refine p_m (h:=p_z (h:=p_z (h:=p_z (h:=p_p (h:=p_a (h:=h0a ?_)))))))) | (refine gR 7 (p_e (q_f h3d) (h:=q_e q_l ?_)) <;> (try refine q_e (by exact q_b (r:=by refine h1e ?_; first | rfl | (with_reducible assumption) | (decide; done) | omega)) ?_) <;> (try refine p_m (h:=p_y (q_f h5b) (h:=p_y q_l (h:=p_y (q_b (r:=by exact h1c q_o)) (h:=p_y (h0h rfl) (h:=p_y (q_f fo_99_3) (h:=p_y q_l (h:=p_y (q_f h5b) (h:=q_y q_l ?_))))))))) <;> (try refine q_y (q_b (r:=by refine rb_andn ?_ ?_; (focus (refine ⟨rfl, ⟨?_, ?_⟩⟩; omega; (focus (simp only [IntKind.bits]; omega)))); (focus (refine ⟨rfl, ⟨?_, ?_⟩⟩; omega; (focus (simp only [IntKind.bits]; omega)))))) ?_) <;> (try refine q_y (by exact q_b (r:=by refine h1w ?_; first | rfl | (with_reducible assumption) | (decide; done) | omega)) ?_) <;> (try refine p_y (h4o rfl rfl) (h:=p_p (h:=p_a (h:=h0a ?_))))) | (refine gR 9 (p_a (h:=h0a ?_))))
   (refine h0o Tryz.results65 (.tmp rfl .nil) ?_)
   exact ⟨_, ⟨rfl, rfl⟩, by intro w H; refine H.sub ?_; (try simp only [zzC, zzN]); repeat (first | exact List.Sublist.refl _ | refine List.Sublist.cons _ ?_)⟩
  ·refine key 204 (by unfold chkC; dsimp only; rw [if_neg n1, if_neg n2, if_neg n3, if_pos ⟨c5, Or.inr c7⟩]) ?_
   refine Fn1 Tryz.func65 Tryz.ntmps65 rfl rfl ?_
   repeat' (first | refine h0i ?_ | refine h0b ?_ | refine h0t ?_ | refine h1k ?_ | refine h0j ?_ | refine h0v ?_ | refine h0g rfl ?_ | refine h0f rfl ?_ | (refine gR 0 ?_ <;> (try refine h0c ?_; (refine h2n (t:=99) rfl rfl ?_; intro nb hnb; (try simp only [Value.cells]))) <;> (try refine p_a (h:=h0a ?_))) | (refine gR 1 (p_e (q_f h4m) (h:=p_e q_l (h:=p_e (q_b (r:=by exact h0y q_o)) (h:=p_m (h:=p_y (q_f h4m) (h:=p_y q_l (h:=p_y (q_b (r:=by exact h1h q_o)) (h:=p_p (h:=p_a (h:=h0a ?_))))))))))) | (refine gR 3 (p_e (q_f h3d) (h:=p_e q_l (h:=p_e (q_b (r:=by exact h0y q_o)) (h:=p_m (h:=p_y (q_f h3d) (h:=p_y q_l (h:=p_y (q_b (r:=by exact h1h q_o)) (h:=p_p (h:=p_a (h:=h0a ?_))))))))))) | (refine gR 5 (p_e (q_f h3d) (h:=q_e q_l ?_)) <;> (try refine q_e (by exact q_b (r:=by refine h1w ?_; first | rfl | (with_reducible assumption) | (decide; done) | omega)) ?_) <;> (try refine p_m (h:=p_z (h:=p_z (h:=p_z (h:=p_p (h:=p_a (h:=h0a ?_)))))))) | (refine gR 7 (p_e (q_f h3d) (h:=q_e q_l ?_)) <;> (try refine q_e (by exact q_b (r:=by refine h1e ?_; first | rfl | (with_reducible assumption) | (decide; done) | omega)) ?_) <;> (try refine p_m (h:=p_y (q_f h5b) (h:=p_y q_l (h:=p_y (q_b (r:=by exact h1c q_o)) (h:=p_y (h0h rfl) (h:=p_y (q_f fo_99_3) (h:=p_y q_l (h:=p_y (q_f h5b) (h:=q_y q_l ?_))))))))) <;> (try refine q_y (q_b (r:=by refine rb_andn ?_ ?_; (focus (refine ⟨rfl, ⟨?_, ?_⟩⟩; omega; (focus (simp only [IntKind.bits]; omega)))); (focus (refine ⟨rfl, ⟨?_, ?_⟩⟩; omega; (focus (simp only [IntKind.bits]; omega)))))) ?_) <;> (try refine p_y (q_b (r:=by exact h2p q_o)) (h:=p_y (h4o rfl rfl) (h:=p_p (h:=p_a (h:=h0a ?_)))))) | (refine gR 8 (p_a (h:=h0a ?_))))
   (refine h0o Tryz.results65 (.tmp rfl .nil) ?_)
   exact ⟨_, ⟨rfl, rfl⟩, by intro w H; refine H.sub ?_; (try simp only [zzC, zzN]); repeat (first | exact List.Sublist.refl _ | refine List.Sublist.cons _ ?_)⟩
 ·by_cases c6 : m = 0
  ·refine key 0 (by unfold chkC; dsimp only; rw [if_neg n1, if_neg n2, if_neg (fun h => h.2 c6), if_neg (fun h => c5 h.1)]) ?_
   refine Fn1 Tryz.func65 Tryz.ntmps65 rfl rfl ?_
   repeat' (first | refine h0i ?_ | refine h0b ?_ | refine h0x ?_ | refine h0j ?_ | refine h0r ?_ | refine h0v ?_ | refine h0f rfl ?_ | (refine gR 0 ?_ <;> (try refine h0c ?_; (refine h2n (t:=99) rfl rfl ?_; intro nb hnb; (try simp only [Value.cells]))) <;> (try refine p_a (h:=h0a ?_))) | (refine gR 1 (p_e (q_f h4m) (h:=p_e q_l (h:=p_e (q_b (r:=by exact h0y q_o)) (h:=p_m (h:=p_y (q_f h4m) (h:=p_y q_l (h:=p_y (q_b (r:=by exact h1h q_o)) (h:=p_p (h:=p_a (h:=h0a ?_))))))))))) | (refine gR 3 (p_e (q_f h3d) (h:=p_e q_l (h:=p_e (q_b (r:=by exact h0y q_o)) (h:=p_m (h:=p_y (q_f h3d) (h:=p_y q_l (h:=p_y (q_b (r:=by exact h1h q_o)) (h:=p_p (h:=p_a (h:=h0a ?_))))))))))) | (refine gR 5 (p_e (q_f h3d) (h:=p_e q_l (h:=p_e (q_b (r:=by exact h2p q_o)) (h:=p_m (h:=p_y (q_f h5b) (h:=q_y q_l ?_)))))) <;> (try refine q_y (by exact q_b (r:=by refine h1w ?_; first | rfl | (with_reducible assumption) | (decide; done) | omega)) ?_) <;> (try refine p_p (h:=p_a (h:=h0a ?_)))) | (refine gR 7 (p_e (q_f h3d) (h:=p_e q_l (h:=p_e (q_b (r:=by exact h1c q_o)) (h:=p_m (h:=p_z (h:=p_z (h:=p_z (h:=q_z ?_)))))))) <;> (try refine h0c ?_; (refine h4j rfl rfl rfl ?_)) <;> (try refine h0c ?_; (refine h4j rfl rfl rfl ?_)) <;> (try refine h0c ?_; (refine h4j rfl rfl rfl ?_)) <;> (try refine h0c ?_; (refine h4j rfl rfl rfl ?_)) <;> (try refine h0c ?_; (refine h4j rfl rfl rfl ?_)) <;> (try refine h0c ?_; (refine h4j rfl rfl rfl ?_)) <;> (try refine p_z (h:=p_p (h:=p_a (h:=h0a ?_))))) | (refine gR 9 (p_a (h:=h0a ?_))))
   (refine h0o Tryz.results65 (.tmp rfl .nil) ?_)
   exact ⟨_, ⟨rfl, rfl⟩, by intro w H; refine H.sub ?_; (try simp only [zzC, zzN]); repeat (first | exact List.Sublist.refl _ | refine List.Sublist.cons _ ?_)⟩
  ·refine key 203 (by unfold chkC; dsimp only; rw [if_neg n1, if_neg n2, if_pos ⟨c5, c6⟩]) ?_
   refine Fn1 Tryz.func65 Tryz.ntmps65 rfl rfl ?_
   repeat' (first | refine h0i ?_ | refine h0b ?_ | refine h0t ?_ | refine h1k ?_ | refine h0j ?_ | refine h0v ?_ | refine h0g rfl ?_ | refine h0f rfl ?_ | (refine gR 0 ?_ <;> (try refine h0c ?_; (refine h2n (t:=99) rfl rfl ?_; intro nb hnb; (try simp only [Value.cells]))) <;> (try refine p_a (h:=h0a ?_))) | (refine gR 1 (p_e (q_f h4m) (h:=p_e q_l (h:=p_e (q_b (r:=by exact h0y q_o)) (h:=p_m (h:=p_y (q_f h4m) (h:=p_y q_l (h:=p_y (q_b (r:=by exact h1h q_o)) (h:=p_p (h:=p_a (h:=h0a ?_))))))))))) | (refine gR 3 (p_e (q_f h3d) (h:=p_e q_l (h:=p_e (q_b (r:=by exact h0y q_o)) (h:=p_m (h:=p_y (q_f h3d) (h:=p_y q_l (h:=p_y (q_b (r:=by exact h1h q_o)) (h:=p_p (h:=p_a (h:=h0a ?_))))))))))) | (refine gR 5 (p_e (q_f h3d) (h:=p_e q_l (h:=p_e (q_b (r:=by exact h2p q_o)) (h:=p_m (h:=p_y (q_f h5b) (h:=p_y q_l (h:=p_y (q_b (r:=by exact h2p q_o)) (h:=p_p (h:=p_a (h:=h0a ?_))))))))))) | (refine gR 6 (p_a (h:=h0a ?_))))
   (refine h0o Tryz.results65 (.tmp rfl .nil) ?_)
   exact ⟨_, ⟨rfl, rfl⟩, by intro w H; refine H.sub ?_; (try simp only [zzC, zzN]); repeat (first | exact List.Sublist.refl _ | refine List.Sublist.cons _ ?_)⟩
theorem akind_c {S w0 L} (a : Int) (h : 0 ≤ a ∧ a < 4294967296) : Fn Tryz.prog 59 #[.int .u32 a] S w0 L fun v L' => v = .int .u32 (kndA a) ∧ L = L' := by
 have h8 := iandn_le a 65535 h.1
 have hj : kndA a = if h4u a 65535 = 327680 ∨ h4u a 65535 = 2147221504 ∨ h4u a 65535 = 2147418112 then h4u a 65535 else 2147483648 := rfl
 rw [hj]
 clear hj
 by_cases c1 : h4u a 65535 = 327680
 ·rw [if_pos (Or.inl c1)]
  refine Fn1 Tryz.func59 Tryz.ntmps59 rfl rfl ?_
  repeat' (first | refine h0i ?_ | refine h0b ?_ | refine h0t ?_ | refine h1k ?_ | refine h0j ?_ | refine h0r ?_ | refine h0v ?_ | refine h0g rfl ?_ | (refine gR 0 (p_a (h:=h0a ?_))) | (refine gR 1 (q_m ?_) <;> (try refine q_e (q_b (r:=by refine rb_andn ?_ ?_; (focus (refine ⟨rfl, ⟨?_, ?_⟩⟩; omega; (focus (simp only [IntKind.bits]; omega)))); (focus (refine ⟨rfl, ⟨?_, ?_⟩⟩; omega; (focus (simp only [IntKind.bits]; omega)))))) ?_) <;> (try refine p_a (h:=h0a ?_))) | (refine gR 2 (p_m (h:=h0a ?_))) | (refine gR 3 ?_ <;> (try refine q_e (by exact q_b (r:=by refine h1e ?_; first | rfl | (with_reducible assumption) | (decide; done) | omega)) ?_) <;> (try refine p_a (h:=h0a ?_))) | (refine gR 6 (p_m (h:=p_a (h:=h0a ?_)))))
  (refine h0o Tryz.results59 (.tmp rfl .nil) ?_)
  exact ⟨_, ⟨rfl, rfl⟩, by intro w H; refine H.sub ?_; (try simp only [zzC, zzN]); repeat (exact List.Sublist.refl _)⟩
 by_cases c2 : h4u a 65535 = 2147221504
 ·rw [if_pos (Or.inr (Or.inl c2))]
  refine Fn1 Tryz.func59 Tryz.ntmps59 rfl rfl ?_
  repeat' (first | refine h0i ?_ | refine h0b ?_ | refine h0t ?_ | refine h1k ?_ | refine h0j ?_ | refine h0r ?_ | refine h0v ?_ | refine h0g rfl ?_ | refine h0f rfl ?_ | (refine gR 0 (p_a (h:=h0a ?_))) | (refine gR 1 (q_m ?_) <;> (try refine q_e (q_b (r:=by refine rb_andn ?_ ?_; (focus (refine ⟨rfl, ⟨?_, ?_⟩⟩; omega; (focus (simp only [IntKind.bits]; omega)))); (focus (refine ⟨rfl, ⟨?_, ?_⟩⟩; omega; (focus (simp only [IntKind.bits]; omega)))))) ?_) <;> (try refine p_a (h:=h0a ?_))) | (refine gR 2 (p_m (h:=h0a ?_))) | (refine gR 3 (p_e (q_b (r:=by exact h1c q_o)) (h:=p_a (h:=h0a ?_)))) | (refine gR 4 ?_ <;> (try refine q_e (by exact q_b (r:=by refine h1e ?_; first | rfl | (with_reducible assumption) | (decide; done) | omega)) ?_) <;> (try refine p_a (h:=h0a ?_))) | (refine gR 6 (p_m (h:=p_a (h:=h0a ?_)))))
  (refine h0o Tryz.results59 (.tmp rfl .nil) ?_)
  exact ⟨_, ⟨rfl, rfl⟩, by intro w H; refine H.sub ?_; (try simp only [zzC, zzN]); repeat (exact List.Sublist.refl _)⟩
 by_cases c3 : h4u a 65535 = 2147418112
 ·rw [if_pos (Or.inr (Or.inr c3))]
  refine Fn1 Tryz.func59 Tryz.ntmps59 rfl rfl ?_
  repeat' (first | refine h0i ?_ | refine h0b ?_ | refine h0t ?_ | refine h1k ?_ | refine h0j ?_ | refine h0v ?_ | refine h0g rfl ?_ | refine h0f rfl ?_ | (refine gR 0 (p_a (h:=h0a ?_))) | (refine gR 1 (q_m ?_) <;> (try refine q_e (q_b (r:=by refine rb_andn ?_ ?_; (focus (refine ⟨rfl, ⟨?_, ?_⟩⟩; omega; (focus (simp only [IntKind.bits]; omega)))); (focus (refine ⟨rfl, ⟨?_, ?_⟩⟩; omega; (focus (simp only [IntKind.bits]; omega)))))) ?_) <;> (try refine p_a (h:=h0a ?_))) | (refine gR 2 (p_m (h:=h0a ?_))) | (refine gR 3 (p_e (q_b (r:=by exact h1c q_o)) (h:=p_a (h:=h0a ?_)))) | (refine gR 4 (p_e (q_b (r:=by exact h1c q_o)) (h:=p_a (h:=h0a ?_)))) | (refine gR 5 ?_ <;> (try refine q_e (by exact q_b (r:=by refine h1e ?_; first | rfl | (with_reducible assumption) | (decide; done) | omega)) ?_) <;> (try refine p_a (h:=h0a ?_))) | (refine gR 6 (p_m (h:=p_a (h:=h0a ?_)))))
  (refine h0o Tryz.results59 (.tmp rfl .nil) ?_)
  exact ⟨_, ⟨rfl, rfl⟩, by intro w H; refine H.sub ?_; (try simp only [zzC, zzN]); repeat (exact List.Sublist.refl _)⟩
 rw [if_neg (fun h => h.elim c1 (fun h => h.elim c2 c3))]
 refine Fn1 Tryz.func59 Tryz.ntmps59 rfl rfl ?_
 repeat' (first | refine h0i ?_ | refine h0b ?_ | refine h0x ?_ | refine h0j ?_ | refine h0r ?_ | refine h0v ?_ | refine h0f rfl ?_ | (refine gR 0 (p_a (h:=h0a ?_))) | (refine gR 1 (q_m ?_) <;> (try refine q_e (q_b (r:=by refine rb_andn ?_ ?_; (focus (refine ⟨rfl, ⟨?_, ?_⟩⟩; omega; (focus (simp only [IntKind.bits]; omega)))); (focus (refine ⟨rfl, ⟨?_, ?_⟩⟩; omega; (focus (simp only [IntKind.bits]; omega)))))) ?_) <;> (try refine p_a (h:=h0a ?_))) | (refine gR 2 (p_m (h:=h0a ?_))) | (refine gR 3 (p_e (q_b (r:=by exact h1c q_o)) (h:=p_a (h:=h0a ?_)))) | (refine gR 4 (p_e (q_b (r:=by exact h1c q_o)) (h:=p_a (h:=h0a ?_)))) | (refine gR 5 (p_e (q_b (r:=by exact h1c q_o)) (h:=p_a (h:=h0a ?_)))) | (refine gR 7 (p_a (h:=h0a ?_))))
 (refine h0o Tryz.results59 (.tmp rfl .nil) ?_)
 exact ⟨_, ⟨rfl, rfl⟩, by intro w H; refine H.sub ?_; (try simp only [zzC, zzN]); repeat (exact List.Sublist.refl _)⟩
theorem actok_c {S w0 L} (a : Int) (h : 0 ≤ a ∧ a < 4294967296) : Fn Tryz.prog 40 #[.int .u32 a] S w0 L fun v L' => v = .bool (h6d a) ∧ L = L' := by
 have hk := fun (L : List Blk) => akind_c (S:=S) (w0:=w0) (L:=L) a h
 have hr : ∀ b : Bool, h6d a = b → Fn Tryz.prog 40 #[.int .u32 a] S w0 L (fun v L' => v = .bool b ∧ L = L') → Fn Tryz.prog 40 #[.int .u32 a] S w0 L (fun v L' => v = .bool (h6d a) ∧ L = L') := by
  intro k hk hf; rw [hk]; exact hf
 by_cases c1 : a = 2147483648
 ·refine hr true (by unfold h6d; rw [decide_eq_true (Or.inl c1)]) ?_
  subst c1
  clear hk hr
  refine Fn1 Tryz.func40 Tryz.ntmps40 rfl rfl ?_
  repeat' (first | refine h0i ?_ | refine h0b ?_ | refine h0t ?_ | refine h1k ?_ | refine h0j ?_ | refine h0r ?_ | refine h0v ?_ | refine h0g rfl ?_ | (refine gR 0 (p_a (h:=h0a ?_))) | (refine gR 1 (p_m (h:=h0a ?_))) | (refine gR 2 ?_ <;> (try refine q_e (by exact q_b (r:=by refine h1e ?_; first | rfl | (with_reducible assumption) | (decide; done) | omega)) ?_) <;> (try refine p_a (h:=h0a ?_))) | (refine gR 5 (p_a (h:=h0a ?_))))
  (refine h0o Tryz.results40 (.tmp rfl .nil) ?_)
  exact ⟨_, ⟨rfl, rfl⟩, by intro w H; refine H.sub ?_; (try simp only [zzC, zzN]); repeat (exact List.Sublist.refl _)⟩
 by_cases c2 : a = 2147221504
 ·refine hr true (by unfold h6d; rw [decide_eq_true (Or.inr (Or.inl c2))]) ?_
  subst c2
  clear hk hr
  refine Fn1 Tryz.func40 Tryz.ntmps40 rfl rfl ?_
  repeat' (first | refine h0i ?_ | refine h0b ?_ | refine h0t ?_ | refine h1k ?_ | refine h0j ?_ | refine h0r ?_ | refine h0v ?_ | refine h0g rfl ?_ | refine h0f rfl ?_ | (refine gR 0 (p_a (h:=h0a ?_))) | (refine gR 1 (p_m (h:=h0a ?_))) | (refine gR 2 (p_e (q_b (r:=by exact h1c q_o)) (h:=p_a (h:=h0a ?_)))) | (refine gR 3 ?_ <;> (try refine q_e (by exact q_b (r:=by refine h1e ?_; first | rfl | (with_reducible assumption) | (decide; done) | omega)) ?_) <;> (try refine p_a (h:=h0a ?_))) | (refine gR 5 (p_a (h:=h0a ?_))))
  (refine h0o Tryz.results40 (.tmp rfl .nil) ?_)
  exact ⟨_, ⟨rfl, rfl⟩, by intro w H; refine H.sub ?_; (try simp only [zzC, zzN]); repeat (exact List.Sublist.refl _)⟩
 by_cases c3 : a = 2147418112
 ·refine hr true (by unfold h6d; rw [decide_eq_true (Or.inr (Or.inr (Or.inl c3)))]) ?_
  subst c3
  clear hk hr
  refine Fn1 Tryz.func40 Tryz.ntmps40 rfl rfl ?_
  repeat' (first | refine h0i ?_ | refine h0b ?_ | refine h0t ?_ | refine h1k ?_ | refine h0j ?_ | refine h0v ?_ | refine h0g rfl ?_ | refine h0f rfl ?_ | (refine gR 0 (p_a (h:=h0a ?_))) | (refine gR 1 (p_m (h:=h0a ?_))) | (refine gR 2 (p_e (q_b (r:=by exact h1c q_o)) (h:=p_a (h:=h0a ?_)))) | (refine gR 3 (p_e (q_b (r:=by exact h1c q_o)) (h:=p_a (h:=h0a ?_)))) | (refine gR 4 ?_ <;> (try refine q_e (by exact q_b (r:=by refine h1e ?_; first | rfl | (with_reducible assumption) | (decide; done) | omega)) ?_) <;> (try refine p_a (h:=h0a ?_))) | (refine gR 5 (p_a (h:=h0a ?_))))
  (refine h0o Tryz.results40 (.tmp rfl .nil) ?_)
  exact ⟨_, ⟨rfl, rfl⟩, by intro w H; refine H.sub ?_; (try simp only [zzC, zzN]); repeat (exact List.Sublist.refl _)⟩
 by_cases c4 : kndA a = 327680
 ·by_cases c5 : 1 ≤ iand a 65535
  ·by_cases c6 : iand a 65535 ≤ 4095
   ·refine hr true (by unfold h6d; rw [decide_eq_true (Or.inr (Or.inr (Or.inr ⟨c4, c5, c6⟩)))]) ?_
    clear hr
    rw [c4] at hk
    refine Fn1 Tryz.func40 Tryz.ntmps40 rfl rfl ?_
    repeat' (first | refine h0i ?_ | refine h0b ?_ | refine h0x ?_ | refine h0j ?_ | refine h0r ?_ | refine h0v ?_ | refine h0f rfl ?_ | (refine gR 0 (p_a (h:=h0a ?_))) | (refine gR 1 (p_m (h:=h0a ?_))) | (refine gR 2 (p_e (q_b (r:=by exact h1c q_o)) (h:=p_a (h:=h0a ?_)))) | (refine gR 3 (p_e (q_b (r:=by exact h1c q_o)) (h:=p_a (h:=h0a ?_)))) | (refine gR 4 (p_e (q_b (r:=by exact h1c q_o)) (h:=p_a (h:=h0a ?_)))) | (refine gR 6 (q_m ?_) <;> (try refine q_e (q_b (r:=by refine h5w ?_ ?_; (focus (refine ⟨rfl, ⟨?_, ?_⟩⟩; omega; (focus (simp only [IntKind.bits]; omega)))); (focus (refine ⟨rfl, ⟨?_, ?_⟩⟩; omega; (focus (simp only [IntKind.bits]; omega)))))) ?_) <;> (try refine p_a (h:=h0a ?_))) | (refine gR 7 (q_m ?_) <;> (try refine h0c ?_; (refine q_c 59 (c:=by apply hk) (h:=?_); rintro _ _ ⟨rfl, rfl⟩; (try simp only [zzE, zzF]))) <;> (try refine q_e (by exact q_b (r:=by refine h1e ?_; first | rfl | (with_reducible assumption) | (decide; done) | omega)) ?_) <;> (try refine p_m (h:=p_y (h0h rfl) (h:=p_y (q_b (r:=by exact rb_geq_t q_o)) (h:=p_p (h:=p_m (h:=p_y (h0h rfl) (h:=p_y (q_b (r:=by exact h4p q_o)) (h:=p_p (h:=p_a (h:=h0a ?_))))))))))))
    (refine h0o Tryz.results40 (.tmp rfl .nil) ?_)
    exact ⟨_, ⟨rfl, rfl⟩, by intro w H; refine H.sub ?_; (try simp only [zzC, zzN]); repeat (exact List.Sublist.refl _)⟩
   ·refine hr false (by unfold h6d; rw [decide_eq_false (fun h => h.elim c1 (fun h => h.elim c2 (fun h => h.elim c3 (fun h => c6 h.2.2))))]) ?_
    clear hr
    rw [c4] at hk
    refine Fn1 Tryz.func40 Tryz.ntmps40 rfl rfl ?_
    repeat' (first | refine h0i ?_ | refine h0b ?_ | refine h0x ?_ | refine h0j ?_ | refine h0r ?_ | refine h0v ?_ | refine h0f rfl ?_ | (refine gR 0 (p_a (h:=h0a ?_))) | (refine gR 1 (p_m (h:=h0a ?_))) | (refine gR 2 (p_e (q_b (r:=by exact h1c q_o)) (h:=p_a (h:=h0a ?_)))) | (refine gR 3 (p_e (q_b (r:=by exact h1c q_o)) (h:=p_a (h:=h0a ?_)))) | (refine gR 4 (p_e (q_b (r:=by exact h1c q_o)) (h:=p_a (h:=h0a ?_)))) | (refine gR 6 (q_m ?_) <;> (try refine q_e (q_b (r:=by refine h5w ?_ ?_; (focus (refine ⟨rfl, ⟨?_, ?_⟩⟩; omega; (focus (simp only [IntKind.bits]; omega)))); (focus (refine ⟨rfl, ⟨?_, ?_⟩⟩; omega; (focus (simp only [IntKind.bits]; omega)))))) ?_) <;> (try refine p_a (h:=h0a ?_))) | (refine gR 7 (q_m ?_) <;> (try refine h0c ?_; (refine q_c 59 (c:=by apply hk) (h:=?_); rintro _ _ ⟨rfl, rfl⟩; (try simp only [zzE, zzF]))) <;> (try refine q_e (by exact q_b (r:=by refine h1e ?_; first | rfl | (with_reducible assumption) | (decide; done) | omega)) ?_) <;> (try refine p_m (h:=p_y (h0h rfl) (h:=p_y (q_b (r:=by exact rb_geq_t q_o)) (h:=p_p (h:=p_m (h:=p_y (h0h rfl) (h:=p_y (q_b (r:=by exact rb_leq_f q_o)) (h:=p_p (h:=p_a (h:=h0a ?_))))))))))))
    (refine h0o Tryz.results40 (.tmp rfl .nil) ?_)
    exact ⟨_, ⟨rfl, rfl⟩, by intro w H; refine H.sub ?_; (try simp only [zzC, zzN]); repeat (exact List.Sublist.refl _)⟩
  ·refine hr false (by unfold h6d; rw [decide_eq_false (fun h => h.elim c1 (fun h => h.elim c2 (fun h => h.elim c3 (fun h => c5 h.2.1))))]) ?_
   clear hr
   rw [c4] at hk
   refine Fn1 Tryz.func40 Tryz.ntmps40 rfl rfl ?_
   repeat' (first | refine h0i ?_ | refine h0b ?_ | refine h0x ?_ | refine h0j ?_ | refine h0r ?_ | refine h0v ?_ | refine h0f rfl ?_ | (refine gR 0 (p_a (h:=h0a ?_))) | (refine gR 1 (p_m (h:=h0a ?_))) | (refine gR 2 (p_e (q_b (r:=by exact h1c q_o)) (h:=p_a (h:=h0a ?_)))) | (refine gR 3 (p_e (q_b (r:=by exact h1c q_o)) (h:=p_a (h:=h0a ?_)))) | (refine gR 4 (p_e (q_b (r:=by exact h1c q_o)) (h:=p_a (h:=h0a ?_)))) | (refine gR 6 (q_m ?_) <;> (try refine q_e (q_b (r:=by refine h5w ?_ ?_; (focus (refine ⟨rfl, ⟨?_, ?_⟩⟩; omega; (focus (simp only [IntKind.bits]; omega)))); (focus (refine ⟨rfl, ⟨?_, ?_⟩⟩; omega; (focus (simp only [IntKind.bits]; omega)))))) ?_) <;> (try refine p_a (h:=h0a ?_))) | (refine gR 7 (q_m ?_) <;> (try refine h0c ?_; (refine q_c 59 (c:=by apply hk) (h:=?_); rintro _ _ ⟨rfl, rfl⟩; (try simp only [zzE, zzF]))) <;> (try refine q_e (by exact q_b (r:=by refine h1e ?_; first | rfl | (with_reducible assumption) | (decide; done) | omega)) ?_) <;> (try refine p_m (h:=p_y (h0h rfl) (h:=p_y (q_b (r:=by exact rb_geq_f q_o)) (h:=p_p (h:=p_m (h:=p_z (h:=p_z (h:=p_p (h:=p_a (h:=h0a ?_))))))))))))
   (refine h0o Tryz.results40 (.tmp rfl .nil) ?_)
   exact ⟨_, ⟨rfl, rfl⟩, by intro w H; refine H.sub ?_; (try simp only [zzC, zzN]); repeat (exact List.Sublist.refl _)⟩
 ·refine hr false (by unfold h6d; rw [decide_eq_false (fun h => h.elim c1 (fun h => h.elim c2 (fun h => h.elim c3 (fun h => c4 h.1))))]) ?_
  clear hr
  generalize kndA a = k at *
  refine Fn1 Tryz.func40 Tryz.ntmps40 rfl rfl ?_
  repeat' (first | refine h0i ?_ | refine h0b ?_ | refine h0x ?_ | refine h0j ?_ | refine h0r ?_ | refine h0v ?_ | refine h0f rfl ?_ | (refine gR 0 (p_a (h:=h0a ?_))) | (refine gR 1 (p_m (h:=h0a ?_))) | (refine gR 2 (p_e (q_b (r:=by exact h1c q_o)) (h:=p_a (h:=h0a ?_)))) | (refine gR 3 (p_e (q_b (r:=by exact h1c q_o)) (h:=p_a (h:=h0a ?_)))) | (refine gR 4 (p_e (q_b (r:=by exact h1c q_o)) (h:=p_a (h:=h0a ?_)))) | (refine gR 6 (q_m ?_) <;> (try refine q_e (q_b (r:=by refine h5w ?_ ?_; (focus (refine ⟨rfl, ⟨?_, ?_⟩⟩; omega; (focus (simp only [IntKind.bits]; omega)))); (focus (refine ⟨rfl, ⟨?_, ?_⟩⟩; omega; (focus (simp only [IntKind.bits]; omega)))))) ?_) <;> (try refine p_a (h:=h0a ?_))) | (refine gR 7 (q_m ?_) <;> (try refine h0c ?_; (refine q_c 59 (c:=by apply hk) (h:=?_); rintro _ _ ⟨rfl, rfl⟩; (try simp only [zzE, zzF]))) <;> (try refine p_e (q_b (r:=by exact h1c q_o)) (h:=p_m (h:=p_z (h:=p_z (h:=p_p (h:=p_m (h:=p_z (h:=p_z (h:=p_p (h:=p_a (h:=h0a ?_)))))))))))))
  (refine h0o Tryz.results40 (.tmp rfl .nil) ?_)
  exact ⟨_, ⟨rfl, rfl⟩, by intro w H; refine H.sub ?_; (try simp only [zzC, zzN]); repeat (exact List.Sublist.refl _)⟩
theorem numS_c {S w0} (e L : List Blk) (b m1 m2 n : Nat) (hn : n ≤ 100000) (s : Int) : Fn Tryz.prog 31 #[.pointer (some ⟨b, 0, none⟩), .int .u32 s] S w0 (e ++ (tbS b m1 m2 n ++ L)) fun v L' => ∃ m1' m2', v = gotV (h4w s clls) ∧ e ++ (tbS b m1' m2' (n + 1) ++ L) = L' := by
 have hsw : ∀ (A B : List Blk) w, HP S w0 w (A ++ (B ++ L)) → HP S w0 w (B ++ (A ++ L)) := fun A B w H => H.perm (List.perm_append_comm_assoc A B L)
 cases n with
 | zero =>
  refine Fn.weak (hsw e _) ((numbered0_c (S:=S) (w0:=w0) (L:=e ++ L) b 0 0 (by omega) (by omega) s).mono ?_)
  rintro v L' ⟨x, y, rfl, rfl⟩
  exact ⟨_, ⟨x, y, rfl, rfl⟩, fun w H => hsw (tbS b x y 1) e w H⟩
 | succ n =>
  refine Fn.weak (hsw e _) ?_
  rw [tbS_succ]
  refine (numbered1_c (S:=S) (w0:=w0) (L:=e ++ L) b m1 m2 _ 1 (by omega) s).mono ?_
  rintro v L' ⟨rfl, rfl⟩
  refine ⟨_, ⟨m1, m2, rfl, rfl⟩, fun w H => hsw _ e w ?_⟩
  rw [tbS_succ, Int.natCast_add, Int.natCast_one]
  exact H
theorem firstE_drop {es : List Nat} {k : Nat} (hk : k < es.length) : h5q (es.drop k) = if es[k] ≠ 0 then es[k] else h5q (es.drop (k + 1)) := by
 rw [List.drop_eq_getElem_cons hk]; rfl
theorem firstE_nil {es : List Nat} {k : Nat} (hk : es.length ≤ k) : h5q (es.drop k) = 0 := by
 rw [List.drop_eq_nil_of_le hk]; rfl
set_option maxHeartbeats 1000000 in
theorem rulechk_c {S w0} (e L : List Blk) (r : GRul) (h : r.ok) (v : Value) (hv : CndS (e ++ L) v r.conds) (b m1 m2 n : Nat) (hn : n ≤ 100000) :
  Fn Tryz.prog 42 #[.agg #[.int .u32 r.num, .int .u32 r.act, v], .pointer (some ⟨b, 0, none⟩)] S w0 (e ++ (tbS b m1 m2 n ++ L)) fun v' L' => ∃ m1' m2', v' = .int .i64 (chkR r : Nat) ∧ e ++ (tbS b m1' m2' (n + 1) ++ L) = L' := by
 obtain ⟨a, c, rfl, hsl, hml⟩ := hv
 have hnu := fun (x : Blk) => numS_c (S:=S) (w0:=w0) (x :: e) L b m1 m2 n hn r.num
 obtain ⟨nm, ar, hg⟩ := gotV_num (h4w r.num clls)
 rw [hg] at hnu
 have hac := fun (L : List Blk) => actok_c (S:=S) (w0:=w0) (L:=L) r.act h.act
 obtain ⟨num, act, conds⟩ := r
 have hok := h.conds
 clear h hg
 dsimp only [List.cons_append] at *
 have hR : chkR ⟨num, act, conds⟩ = if (h4w num clls).isSome = false then 38 else if h6d act = false then 210 else if 6 < conds.length then 205 else h5q (conds.map chkC) := by
  unfold chkR
  cases h4w num clls <;> rfl
 rw [hR]
 clear hR
 generalize cnO (h4w num clls) = cn at *
 generalize (h4w num clls).isSome = ok at *
 generalize h6d act = ak at *
 cases ok with
 | false =>
  rw [if_pos rfl]
  refine Fn2 Tryz.func42 Tryz.ntmps42 rfl rfl ?_
  repeat' (first | refine h0i ?_ | refine h0b ?_ | refine h0t ?_ | refine h0v ?_ | refine h0g rfl ?_ | (refine gR 0 ?_ <;> (try refine h0c ?_; (refine h2n (t:=73) rfl rfl ?_; intro nb hnb; (try simp only [Value.cells]))) <;> (try refine p_a (h:=h0a ?_))) | (refine gR 1 (p_m (h:=p_e (q_f fo_73_0) (h:=q_e q_l ?_))) <;> (try refine h0c ?_; (refine q_c 31 (c:=by apply hnu) (h:=?_); rintro _ _ ⟨k1, k2, rfl, rfl⟩; (try simp only [zzE, zzF]))) <;> (try refine p_m (h:=p_x (h:=q_x ?_))) <;> (try refine h0c ?_; (refine h0k (t:=116) rfl Tryz.zeroValue116 ?_; intro nb hnb; (try simp only [Value.cells]))) <;> (try refine h0c ?_; (refine q_W ?_)) <;> (try refine p_a (h:=h0a ?_))) | (refine gR 2 (p_m (h:=p_e (by apply h5m; exact rfl; exact h3o) (h:=h0a ?_)))) | (refine gR 3 (p_a (h:=h0a ?_))))
  (refine h0o Tryz.results42 (.tmp rfl .nil) ?_)
  exact ⟨_, ⟨k1, k2, rfl, rfl⟩, fun _ H => H.tail.tail⟩
 | true =>
  rw [if_neg (fun h => by cases h)]
  cases ak with
  | false =>
   rw [if_pos rfl]
   refine Fn2 Tryz.func42 Tryz.ntmps42 rfl rfl ?_
   repeat' (first | refine h0i ?_ | refine h0b ?_ | refine h0t ?_ | refine h0r ?_ | refine h0v ?_ | refine h0g rfl ?_ | refine h0f rfl ?_ | (refine gR 0 ?_ <;> (try refine h0c ?_; (refine h2n (t:=73) rfl rfl ?_; intro nb hnb; (try simp only [Value.cells]))) <;> (try refine p_a (h:=h0a ?_))) | (refine gR 1 (p_m (h:=p_e (q_f fo_73_0) (h:=q_e q_l ?_))) <;> (try refine h0c ?_; (refine q_c 31 (c:=by apply hnu) (h:=?_); rintro _ _ ⟨k1, k2, rfl, rfl⟩; (try simp only [zzE, zzF]))) <;> (try refine p_m (h:=p_x (h:=q_x ?_))) <;> (try refine h0c ?_; (refine h0k (t:=116) rfl Tryz.zeroValue116 ?_; intro nb hnb; (try simp only [Value.cells]))) <;> (try refine h0c ?_; (refine q_W ?_)) <;> (try refine p_a (h:=h0a ?_))) | (refine gR 2 (p_m (h:=p_e (by apply h5m; exact rfl; exact h1r) (h:=h0a ?_)))) | (refine gR 4 (p_e (q_f fo_73_1) (h:=q_e q_l ?_)) <;> (try refine h0c ?_; (refine q_c 40 (c:=by apply hac) (h:=?_); rintro _ _ ⟨rfl, rfl⟩; (try simp only [zzE, zzF]))) <;> (try refine p_e (by apply h5m; exact rfl; exact h3o) (h:=h0a ?_))) | (refine gR 5 (p_a (h:=h0a ?_))))
   (refine h0o Tryz.results42 (.tmp rfl .nil) ?_)
   exact ⟨_, ⟨k1, k2, rfl, rfl⟩, fun _ H => H.tail.tail⟩
  | true =>
   rw [if_neg (fun h => by cases h)]
   by_cases hl : 6 < conds.length
   ·rw [if_pos hl]
    refine Fn2 Tryz.func42 Tryz.ntmps42 rfl rfl ?_
    repeat' (first | refine h0i ?_ | refine h0b ?_ | refine h0t ?_ | refine h0r ?_ | refine h0v ?_ | refine h0g rfl ?_ | refine h0f rfl ?_ | (refine gR 0 ?_ <;> (try refine h0c ?_; (refine h2n (t:=73) rfl rfl ?_; intro nb hnb; (try simp only [Value.cells]))) <;> (try refine p_a (h:=h0a ?_))) | (refine gR 1 (p_m (h:=p_e (q_f fo_73_0) (h:=q_e q_l ?_))) <;> (try refine h0c ?_; (refine q_c 31 (c:=by apply hnu) (h:=?_); rintro _ _ ⟨k1, k2, rfl, rfl⟩; (try simp only [zzE, zzF]))) <;> (try refine p_m (h:=p_x (h:=q_x ?_))) <;> (try refine h0c ?_; (refine h0k (t:=116) rfl Tryz.zeroValue116 ?_; intro nb hnb; (try simp only [Value.cells]))) <;> (try refine h0c ?_; (refine q_W ?_)) <;> (try refine p_a (h:=h0a ?_))) | (refine gR 2 (p_m (h:=p_e (by apply h5m; exact rfl; exact h1r) (h:=h0a ?_)))) | (refine gR 4 (p_e (q_f fo_73_1) (h:=q_e q_l ?_)) <;> (try refine h0c ?_; (refine q_c 40 (c:=by apply hac) (h:=?_); rintro _ _ ⟨rfl, rfl⟩; (try simp only [zzE, zzF]))) <;> (try refine p_e (by apply h5m; exact rfl; exact h1r) (h:=h0a ?_))) | (refine gR 6 (p_e (q_f h2w) (h:=p_e q_l (h:=p_e (by apply h0e; exact rfl; exact (fun _ => BigFrame.builtin_len ..); apply h0d Tryz.underlying71; exact h3m) (h:=p_e (q_b (r:=by exact h1x q_o)) (h:=h0a ?_)))))) | (refine gR 7 (p_a (h:=h0a ?_))))
    (refine h0o Tryz.results42 (.tmp rfl .nil) ?_)
    exact ⟨_, ⟨k1, k2, rfl, rfl⟩, fun _ H => H.tail.tail⟩
   ·rw [if_neg hl]
    refine Fn2 Tryz.func42 Tryz.ntmps42 rfl rfl ?_
    repeat' (first | (refine h2h (id:=0) ?_) | refine h0i ?_ | refine h0b ?_ | refine h0r ?_ | refine h0f rfl ?_ | (refine gR 0 ?_ <;> (try refine h0c ?_; (refine h2n (t:=73) rfl rfl ?_; intro nb hnb; (try simp only [Value.cells]))) <;> (try refine p_a (h:=h0a ?_))) | (refine gR 1 (p_m (h:=p_e (q_f fo_73_0) (h:=q_e q_l ?_))) <;> (try refine h0c ?_; (refine q_c 31 (c:=by apply hnu) (h:=?_); rintro _ _ ⟨k1, k2, rfl, rfl⟩; (try simp only [zzE, zzF]))) <;> (try refine p_m (h:=p_x (h:=q_x ?_))) <;> (try refine h0c ?_; (refine h0k (t:=116) rfl Tryz.zeroValue116 ?_; intro nb hnb; (try simp only [Value.cells]))) <;> (try refine h0c ?_; (refine q_W ?_)) <;> (try refine p_a (h:=h0a ?_))) | (refine gR 2 (p_m (h:=p_e (by apply h5m; exact rfl; exact h1r) (h:=h0a ?_)))) | (refine gR 4 (p_e (q_f fo_73_1) (h:=q_e q_l ?_)) <;> (try refine h0c ?_; (refine q_c 40 (c:=by apply hac) (h:=?_); rintro _ _ ⟨rfl, rfl⟩; (try simp only [zzE, zzF]))) <;> (try refine p_e (by apply h5m; exact rfl; exact h1r) (h:=h0a ?_))) | (refine gR 6 (p_e (q_f h2w) (h:=p_e q_l (h:=p_e (by apply h0e; exact rfl; exact (fun _ => BigFrame.builtin_len ..); apply h0d Tryz.underlying71; exact h3m) (h:=p_e (q_b (r:=by exact h1h q_o)) (h:=h0a ?_)))))) | (refine gR 8 (p_e (q_f h2w) (h:=p_e q_l (h:=p_e (by apply h0e; exact rfl; exact (fun _ => BigFrame.builtin_len ..); apply h0d Tryz.underlying71; exact h3m) (h:=p_m (h:=h0a ?_)))))))
    refine ⟨?_⟩
    clear hnu hac
    have hs2 : Sli (e ++ (tbS b k1 k2 (n + 1) ++ L)) a conds.length 4 (gcC conds) := by
     rcases hsl with ⟨g1, g2 | ⟨i, q, bb, off, cs, T, fr, g2, g3, g4, g5⟩⟩
     ·exact ⟨g1, Or.inl g2⟩
     ·have : ∃ j : Nat, (e ++ (tbS b k1 k2 (n + 1) ++ L))[j]? = some ⟨q, bb, .cells cs T fr⟩ := by
       have hm : (⟨q, bb, .cells cs T fr⟩ : Blk) ∈ e ++ L := List.mem_of_getElem? g3
       have hm2 : (⟨q, bb, .cells cs T fr⟩ : Blk) ∈ e ++ (tbS b k1 k2 (n + 1) ++ L) := by
        rcases List.mem_append.1 hm with h | h
        ·exact List.mem_append_left _ h
        ·exact List.mem_append_right _ (List.mem_append_right _ h)
       obtain ⟨j, hj⟩ := List.getElem?_of_mem hm2
       exact ⟨j, hj⟩
      obtain ⟨j, hj⟩ := this
      exact ⟨g1, Or.inr ⟨j, q, bb, off, cs, T, fr, g2, hj, g4, g5⟩⟩
    clear hsl
    obtain ⟨n7, rfl⟩ : ∃ x, x = nb := ⟨_, rfl⟩
    generalize hM : e ++ (tbS b k1 k2 (n + 1) ++ L) = M at *
    refine h2q (γ:=Unit) (fun _ => h5q (conds.map chkC) = 0) (fun _ => []) [] (fun _ => M) .nil ?_ ?_
    ·refine h0j ?_
     refine h2i (γ:=Nat) (fun k => k ≤ conds.length ∧ h5q (conds.map chkC) = h5q ((conds.map chkC).drop k)) (fun k => conds.length - k) (fun k => [(30, .int .i64 (k : Nat))]) [(28, _), (29, _)] (fun _ => M) 0 (.cons rfl (.cons rfl .nil)) ⟨Nat.zero_le _, by rw [List.drop_zero]⟩ (by (focus (repeat (first | exact Sub.nil | refine Sub.cons rfl ?_)))) (fun _ H => H.tail.tail) ?_
     rintro k ⟨hk, heq⟩
     simp only [List.cons_append, List.nil_append]
     unfold maxLen at hml
     by_cases hlt : k < conds.length
     ·obtain ⟨j, q, bb, off, cs, T, fr, rfl, hj, hsz, hx⟩ := hs2.elem hlt
      rw [gcC_at _ _ hlt] at hx
      have hch := fun (L : List Blk) => condchk_c (S:=S) (w0:=w0) (L:=L) conds[k] (hok _ (List.getElem_mem hlt))
      rw [firstE_drop (by rw [List.length_map]; exact hlt), List.getElem_map] at heq
      generalize chkC conds[k] = ck at *
      generalize conds[k] = cd at *
      obtain ⟨ca, co, cm, cv⟩ := cd
      dsimp only [GCnd.cells] at *
      by_cases hc : ck = 0
      ·rw [if_neg (fun h => h hc)] at heq
       subst hc
       repeat' (first | refine h0i ?_ | refine h0b ?_ | refine h0s ?_ | refine h0x ?_ | refine h0j ?_ | refine h0r ?_ | refine h0g rfl ?_ | refine h0f rfl ?_ | (refine gR 9 (p_e (q_b (r:=by exact h0u q_o)) (h:=h0a ?_))) | (refine gR 10 (p_e (by apply h0n; exact rfl; exact rfl; (focus (apply h2j Tryz.underlying71 h5n; omega; omega; exact c_1))) (h:=q_e (by apply h1u (t:=99); exact rfl; exact c_21; kernel_rfl; kernel_rfl; exact h5n; (with_reducible assumption); (with_reducible assumption)) ?_)) <;> (try refine h0c ?_; (refine h0k (t:=99) rfl Tryz.zeroValue99 ?_; intro nb hnb; (try simp only [Value.cells]))) <;> (try refine h0c ?_; (refine q_W ?_)) <;> (try refine h0a ?_)) | (refine gR 11 (q_e (q_L h5n) ?_) <;> (try refine h0c ?_; (refine q_c 65 (c:=by apply hch) (h:=?_); rintro _ _ ⟨rfl, rfl⟩; (try simp only [zzE, zzF]))) <;> (try refine p_a (h:=h0a ?_))) | (refine gR 12 (q_m ?_) <;> (try refine q_e (by exact q_b (r:=by refine h1w ?_; first | rfl | (with_reducible assumption) | (decide; done) | omega)) ?_) <;> (try refine h0a ?_)) | (refine gR 14 ?_ <;> (try refine q_e (q_b (r:=by apply h1n; exact c_5; (focus (refine IntWalk.i64_in _ ?_; omega)))) ?_) <;> (try refine p_m (h:=h0a ?_))))
       exact h0w (k + 1) ⟨⟨by omega, heq⟩, by show conds.length - (k + 1) < conds.length - k; omega⟩ (by (focus (repeat (first | exact Sub.nil | refine Sub.cons rfl ?_)))) (fun _ H => H.tail)
      ·rw [if_pos hc] at heq
       have hc' : ¬ (ck : Int) = 0 := by omega
       repeat' (first | refine h0i ?_ | refine h0b ?_ | refine h3q ?_ | refine h0t ?_ | refine h1k ?_ | refine h0j ?_ | refine h0r ?_ | refine h0v ?_ | refine h0g rfl ?_ | (refine gR 9 (p_e (q_b (r:=by exact h0u q_o)) (h:=h0a ?_))) | (refine gR 10 (p_e (by apply h0n; exact rfl; exact rfl; (focus (apply h2j Tryz.underlying71 h5n; omega; omega; exact c_1))) (h:=q_e (by apply h1u (t:=99); exact rfl; exact c_21; kernel_rfl; kernel_rfl; exact h5n; (with_reducible assumption); (with_reducible assumption)) ?_)) <;> (try refine h0c ?_; (refine h0k (t:=99) rfl Tryz.zeroValue99 ?_; intro nb hnb; (try simp only [Value.cells]))) <;> (try refine h0c ?_; (refine q_W ?_)) <;> (try refine h0a ?_)) | (refine gR 11 (q_e (q_L h5n) ?_) <;> (try refine h0c ?_; (refine q_c 65 (c:=by apply hch) (h:=?_); rintro _ _ ⟨rfl, rfl⟩; (try simp only [zzE, zzF]))) <;> (try refine p_a (h:=h0a ?_))) | (refine gR 12 (p_m (h:=p_e (q_b (r:=by exact h2p q_o)) (h:=h0a ?_)))) | (refine gR 13 (p_m (h:=p_a (h:=h0a ?_)))))
       (refine h0o Tryz.results42 (.tmp rfl .nil) ?_)
       refine ⟨_, ⟨k1, k2, ?_, hM⟩, fun _ H => H.tail⟩
       rw [heq]; rfl
     ·have hke : h5q ((conds.map chkC).drop k) = 0 := firstE_nil (by rw [List.length_map]; omega)
      rw [hke] at heq
      repeat' (first | refine h0i ?_ | refine h0b ?_ | refine h0s ?_ | refine h1p ?_ | refine h1f ?_ | refine h1o ?_ | refine h2c ?_ | refine h0f rfl ?_ | (refine gR 9 (p_e (q_b (r:=by exact h0y q_o)) (h:=h0a ?_))))
      exact h0w () heq (by (focus (repeat (exact Sub.nil)))) (fun _ H => H)
    ·rintro - heq
     rw [heq]
     simp only [List.cons_append, List.nil_append]
     repeat' (first | refine h0i ?_ | refine h0b ?_ | refine h0v ?_ | (refine gR 15 (p_a (h:=h0a ?_))))
     (refine h0o Tryz.results42 (.tmp rfl .nil) ?_)
     exact ⟨_, ⟨k1, k2, rfl, hM⟩, fun _ H => H⟩
theorem take_fst {α : Type} (ps : List (α × Nat)) (k : Nat) (h : k < ps.length) : (ps.take (k + 1)).map (·.1) = (ps.take k).map (·.1) ++ [ps[k].1] := by
 rw [List.take_succ_eq_append_getElem h, List.map_append]; rfl
theorem granted_c {S w0 L} (nm : ByteArray) (df : Int) (hd : Nat) (hhd : hd < 65536) (r1 p1 q1 : Option Addr) (r2 r3 p2 p3 q2 q3 : Nat) (r kd : Nat) (h1 : r < 65536) (h2 : kd < 65536) :
  Fn Tryz.prog 67 #[.agg #[.string nm, .int .u32 df, .slice r1 r2 r3, .int .u16 (hd : Nat), .slice p1 p2 p3, .slice q1 q2 q3], .int .u16 (r : Nat), .int .u16 (kd : Nat)] S w0 L fun v L' => v = .bool (grantF hd r kd) ∧ L = L' := by
 have ha := fun (L : List Blk) => Rg.has_c (S:=S) (w0:=w0) (L:=L) hd r hhd h1
 have hb := fun (L : List Blk) => Rg.has_c (S:=S) (w0:=w0) (L:=L) kd r h2 h1
 unfold grantF
 generalize Rg.hasF hd r = x at *
 generalize Rg.hasF kd r = y at *
 by_cases hr : r = 0
 ·subst hr
  refine Fn3 Tryz.func67 Tryz.ntmps67 rfl rfl ?_
  repeat' (first | refine h0i ?_ | refine h0b ?_ | refine h0v ?_ | (refine gR 0 ?_ <;> (try refine h0c ?_; (refine h2n (t:=36) rfl rfl ?_; intro nb hnb; (try simp only [Value.cells]))) <;> (try refine p_a (h:=h0a ?_))) | (refine gR 1 (q_m ?_) <;> (try refine q_e (by exact q_b (r:=by refine h1w ?_; first | rfl | (with_reducible assumption) | (decide; done) | omega)) ?_) <;> (try refine p_m (h:=p_z (h:=p_z (h:=p_z (h:=p_z (h:=p_p (h:=p_m (h:=p_z (h:=p_z (h:=p_z (h:=p_p (h:=p_a (h:=h0a ?_)))))))))))))))
  (refine h0o Tryz.results67 (.tmp rfl .nil) ?_)
  exact ⟨_, ⟨rfl, rfl⟩, by intro w H; refine H.sub ?_; (try simp only [zzC, zzN]); repeat (first | exact List.Sublist.refl _ | refine List.Sublist.cons _ ?_)⟩
 ·rw [decide_eq_true hr, Bool.true_and]
  cases x with
  | false =>
   refine Fn3 Tryz.func67 Tryz.ntmps67 rfl rfl ?_
   repeat' (first | refine h0i ?_ | refine h0b ?_ | refine h0v ?_ | (refine gR 0 ?_ <;> (try refine h0c ?_; (refine h2n (t:=36) rfl rfl ?_; intro nb hnb; (try simp only [Value.cells]))) <;> (try refine p_a (h:=h0a ?_))) | (refine gR 1 (p_m (h:=p_e (q_b (r:=by exact h2p q_o)) (h:=p_m (h:=p_y (q_f h5l) (h:=p_y q_l (h:=q_y (h0h rfl) ?_)))))) <;> (try refine h0c ?_; (refine h1s rfl rfl rfl ?_; (refine q_c 91 (c:=by apply ha) (h:=?_); rintro _ _ ⟨rfl, rfl⟩; (try simp only [zzE, zzF])))) <;> (try refine p_p (h:=p_m (h:=p_z (h:=p_z (h:=p_z (h:=p_p (h:=p_a (h:=h0a ?_))))))))))
   (refine h0o Tryz.results67 (.tmp rfl .nil) ?_)
   exact ⟨_, ⟨rfl, rfl⟩, by intro w H; refine H.sub ?_; (try simp only [zzC, zzN]); repeat (first | exact List.Sublist.refl _ | refine List.Sublist.cons _ ?_)⟩
  | true =>
   rw [Bool.true_and]
   refine Fn3 Tryz.func67 Tryz.ntmps67 rfl rfl ?_
   repeat' (first | refine h0i ?_ | refine h0b ?_ | refine h0v ?_ | (refine gR 0 ?_ <;> (try refine h0c ?_; (refine h2n (t:=36) rfl rfl ?_; intro nb hnb; (try simp only [Value.cells]))) <;> (try refine p_a (h:=h0a ?_))) | (refine gR 1 (p_m (h:=p_e (q_b (r:=by exact h2p q_o)) (h:=p_m (h:=p_y (q_f h5l) (h:=p_y q_l (h:=q_y (h0h rfl) ?_)))))) <;> (try refine h0c ?_; (refine h1s rfl rfl rfl ?_; (refine q_c 91 (c:=by apply ha) (h:=?_); rintro _ _ ⟨rfl, rfl⟩; (try simp only [zzE, zzF])))) <;> (try refine p_p (h:=p_m (h:=p_y (h0h rfl) (h:=q_y (h0h rfl) ?_)))) <;> (try refine h0c ?_; (refine h1s rfl rfl rfl ?_; (refine q_c 91 (c:=by apply hb) (h:=?_); rintro _ _ ⟨rfl, rfl⟩; (try simp only [zzE, zzF])))) <;> (try refine p_p (h:=p_a (h:=h0a ?_)))))
   (refine h0o Tryz.results67 (.tmp rfl .nil) ?_)
   exact ⟨_, ⟨rfl, rfl⟩, by intro w H; refine H.sub ?_; (try simp only [zzC, zzN]); repeat (first | exact List.Sublist.refl _ | refine List.Sublist.cons _ ?_)⟩
theorem pthC_at (ps : List (List UInt8 × Nat)) (k : Nat) (h : k < ps.length) : ((pthC ps).drop (k * 2)).take 2 = [.string (mB8 ps[k].1), .int .u16 (ps[k].2 : Nat)] := by
 induction ps generalizing k with
 | nil => simp at h
 | cons c r ih =>
  cases k with
  | zero => rfl
  | succ k =>
   rw [show (k + 1) * 2 = k * 2 + 2 by omega]
   exact ih k (by simpa using h)
theorem chkPaths_at (hd : Nat) (ps : List (List UInt8 × Nat)) (k : Nat) (h : k < ps.length) : h4s hd (ps.drop k) ((ps.take k).map (·.1)) = if Pt.pathF ps[k].1 = false then 203 else if grantF hd ps[k].2 2047 = false then 204 else if ps[k].1 ∈ (ps.take k).map (·.1) then 206 else h4s hd (ps.drop (k + 1)) ((ps.take (k + 1)).map (·.1)) := by
 rw [take_fst ps k h, List.drop_eq_getElem_cons h]
 rfl
set_option maxHeartbeats 1000000 in
theorem paths_c {S w0 L} (nm : ByteArray) (df : Int) (hd : Nat) (hhd : hd < 65536) (r1 p1 q1 : Option Addr) (r2 r3 p2 p3 q2 q3 : Nat) (ps : List (List UInt8 × Nat)) (hps : ∀ p ∈ ps, p.1.length ≤ 1000000 ∧ p.2 < 65536) (hl : ps.length ≤ maxLen) (hN : p2 = ps.length) (hs : Sli L p1 ps.length 2 (pthC ps)) :
  Fn Tryz.prog 43 #[.agg #[.string nm, .int .u32 df, .slice r1 r2 r3, .int .u16 (hd : Nat), .slice p1 p2 p3, .slice q1 q2 q3]] S w0 L fun v L' => v = .int .i64 (h4s hd ps [] : Nat) ∧ L = L' := by
 subst hN
 refine Fn1 Tryz.func43 Tryz.ntmps43 rfl rfl ?_
 repeat' (first | (refine h2h (id:=0) ?_) | refine h0i ?_ | refine h0b ?_ | (refine gR 0 ?_ <;> (try refine h0c ?_; (refine h2n (t:=36) rfl rfl ?_; intro nb hnb; (try simp only [Value.cells]))) <;> (try refine p_a (h:=h0a ?_))) | (refine gR 1 ?_ <;> (try refine h0c ?_; (refine h5p rfl ?_; intro nb hnb)) <;> (try refine p_a (h:=h0a ?_))) | (refine gR 2 (p_e (q_f h3h) (h:=p_e q_l (h:=p_e (by apply h0e; exact rfl; exact (fun _ => BigFrame.builtin_len ..); apply h0d Tryz.underlying33; exact h3m) (h:=p_m (h:=h0a ?_)))))))
 refine ⟨?_⟩
 rename_i n1 h1
 obtain ⟨n3, rfl⟩ : ∃ x, x = nb := ⟨_, rfl⟩
 refine h0j ?_
 refine h2i (γ:=Nat × List (Value × Value)) (fun g => g.1 ≤ ps.length ∧ MapS keyT g.2 ((ps.take g.1).map (·.1)) ∧ h4s hd ps [] = h4s hd (ps.drop g.1) ((ps.take g.1).map (·.1))) (fun g => ps.length - g.1) (fun g => [(10, .int .i64 (g.1 : Nat))]) [(1, _), (3, _), (8, _), (9, _)]
  (fun g => h3k n3 g.2 :: ⟨true, n1, .cells #[.string nm, .int .u32 df, .slice r1 r2 r3, .int .u16 (hd : Nat), .slice p1 ps.length p3, .slice q1 q2 q3] 36 (0, 0)⟩ :: L) (0, []) (.cons rfl (.cons rfl (.cons rfl (.cons rfl .nil)))) ⟨Nat.zero_le _, MapS.nil _, rfl⟩ (by (focus (repeat (first | exact Sub.nil | refine Sub.cons rfl ?_)))) c_28 ?_
 rintro ⟨k, kvs⟩ ⟨hk, hM, heq⟩
 simp only [List.cons_append, List.nil_append]
 dsimp only at hk hM heq
 unfold maxLen at hl
 by_cases hlt : k < ps.length
 ·obtain ⟨j, q, bb, off, cs, T, fr, rfl, hj, hsz, hx⟩ := hs.elem hlt
  rw [pthC_at _ _ hlt] at hx
  obtain ⟨g1, g2⟩ := hps _ (List.getElem_mem hlt)
  rw [chkPaths_at hd ps k hlt] at heq
  have hpa := fun (L : List Blk) => pathL_c (S:=S) (w0:=w0) (L:=L) (mB8 ps[k].1) (by rw [h2d]; exact g1)
  rw [h3y] at hpa
  have hgr := fun (L : List Blk) => granted_c (S:=S) (w0:=w0) (L:=L) nm df hd hhd r1 (some ⟨bb, off, none⟩) q1 r2 r3 ps.length p3 q2 q3 ps[k].2 2047 g2 (by omega)
  obtain ⟨rr, hl1, hl2, hl3⟩ := hM.look .string keyT keyT_same ps[k].1
  rw [← take_fst ps k hlt] at hl3
  clear hM g1
  generalize (ps.take k).map (·.1) = seen at *
  generalize Pt.pathF ps[k].1 = pf at *
  generalize grantF hd ps[k].2 2047 = gf at *
  generalize ps[k] = p at *
  obtain ⟨pt, pr⟩ := p
  dsimp only at *
  cases pf with
  | false =>
   rw [if_pos rfl] at heq
   repeat' (first | refine h0i ?_ | refine h0b ?_ | refine h3q ?_ | refine h0t ?_ | refine h1k ?_ | refine h0j ?_ | refine h0r ?_ | refine h0v ?_ | refine h0g rfl ?_ | (refine gR 3 (p_e (q_b (r:=by exact h0u q_o)) (h:=h0a ?_))) | (refine gR 4 (p_e (by apply h0n; exact rfl; exact rfl; (focus (apply h2j Tryz.underlying33 h4x; omega; omega; exact c_1))) (h:=q_e (by apply h1u (t:=104); exact rfl; exact c_19; kernel_rfl; kernel_rfl; exact h4x; (with_reducible assumption); (with_reducible assumption)) ?_)) <;> (try refine h0c ?_; (refine h0k (t:=104) rfl Tryz.zeroValue104 ?_; intro nb hnb; (try simp only [Value.cells]))) <;> (try refine h0c ?_; (refine q_W ?_)) <;> (try refine h0a ?_)) | (refine gR 5 (p_e (q_f h5f) (h:=q_e q_l ?_)) <;> (try refine h0c ?_; (refine q_c 66 (c:=by apply hpa) (h:=?_); rintro _ _ ⟨rfl, rfl⟩; (try simp only [zzE, zzF]))) <;> (try refine p_e (by apply h5m; exact rfl; exact h3o) (h:=p_a (h:=h0a ?_)))) | (refine gR 6 (p_a (h:=h0a ?_))))
   (refine h0o Tryz.results43 (.tmp rfl .nil) ?_)
   exact ⟨_, ⟨by rw [heq]; rfl, rfl⟩, fun _ H => H.tail.tail.tail⟩
  | true =>
  rw [if_neg (fun h => by cases h)] at heq
  cases gf with
  | false =>
   rw [if_pos rfl] at heq
   repeat' (first | refine h0i ?_ | refine h0b ?_ | refine h3q ?_ | refine h0t ?_ | refine h1k ?_ | refine h0j ?_ | refine h0r ?_ | refine h0v ?_ | refine h0g rfl ?_ | refine h0f rfl ?_ | (refine gR 3 (p_e (q_b (r:=by exact h0u q_o)) (h:=h0a ?_))) | (refine gR 4 (p_e (by apply h0n; exact rfl; exact rfl; (focus (apply h2j Tryz.underlying33 h4x; omega; omega; exact c_1))) (h:=q_e (by apply h1u (t:=104); exact rfl; exact c_19; kernel_rfl; kernel_rfl; exact h4x; (with_reducible assumption); (with_reducible assumption)) ?_)) <;> (try refine h0c ?_; (refine h0k (t:=104) rfl Tryz.zeroValue104 ?_; intro nb hnb; (try simp only [Value.cells]))) <;> (try refine h0c ?_; (refine q_W ?_)) <;> (try refine h0a ?_)) | (refine gR 5 (p_e (q_f h5f) (h:=q_e q_l ?_)) <;> (try refine h0c ?_; (refine q_c 66 (c:=by apply hpa) (h:=?_); rintro _ _ ⟨rfl, rfl⟩; (try simp only [zzE, zzF]))) <;> (try refine p_e (by apply h5m; exact rfl; exact h1r) (h:=p_a (h:=h0a ?_)))) | (refine gR 7 (p_e (q_L sz_36) (h:=p_e (q_f fo_104_1) (h:=q_e q_l ?_))) <;> (try refine h0c ?_; (refine q_c 67 (c:=by apply hgr) (h:=?_); rintro _ _ ⟨rfl, rfl⟩; (try simp only [zzE, zzF]))) <;> (try refine p_e (by apply h5m; exact rfl; exact h3o) (h:=p_a (h:=h0a ?_)))) | (refine gR 8 (p_a (h:=h0a ?_))))
   (refine h0o Tryz.results43 (.tmp rfl .nil) ?_)
   exact ⟨_, ⟨by rw [heq]; rfl, rfl⟩, fun _ H => H.tail.tail.tail⟩
  | true =>
   rw [if_neg (fun h => by cases h)] at heq
   by_cases hc : pt ∈ seen
   ·rw [if_pos hc] at heq
    replace hl2 := hl2.trans (congrArg Value.bool (@decide_eq_true _ (_) hc))
    repeat' (first | refine h0i ?_ | refine h0b ?_ | refine h3q ?_ | refine h0t ?_ | refine h1k ?_ | refine h0j ?_ | refine h0r ?_ | refine h0v ?_ | refine h0g rfl ?_ | refine h0f rfl ?_ | (refine gR 3 (p_e (q_b (r:=by exact h0u q_o)) (h:=h0a ?_))) | (refine gR 4 (p_e (by apply h0n; exact rfl; exact rfl; (focus (apply h2j Tryz.underlying33 h4x; omega; omega; exact c_1))) (h:=q_e (by apply h1u (t:=104); exact rfl; exact c_19; kernel_rfl; kernel_rfl; exact h4x; (with_reducible assumption); (with_reducible assumption)) ?_)) <;> (try refine h0c ?_; (refine h0k (t:=104) rfl Tryz.zeroValue104 ?_; intro nb hnb; (try simp only [Value.cells]))) <;> (try refine h0c ?_; (refine q_W ?_)) <;> (try refine h0a ?_)) | (refine gR 5 (p_e (q_f h5f) (h:=q_e q_l ?_)) <;> (try refine h0c ?_; (refine q_c 66 (c:=by apply hpa) (h:=?_); rintro _ _ ⟨rfl, rfl⟩; (try simp only [zzE, zzF]))) <;> (try refine p_e (by apply h5m; exact rfl; exact h1r) (h:=p_a (h:=h0a ?_)))) | (refine gR 7 (p_e (q_L sz_36) (h:=p_e (q_f fo_104_1) (h:=q_e q_l ?_))) <;> (try refine h0c ?_; (refine q_c 67 (c:=by apply hgr) (h:=?_); rintro _ _ ⟨rfl, rfl⟩; (try simp only [zzE, zzF]))) <;> (try refine p_e (by apply h5m; exact rfl; exact h1r) (h:=p_a (h:=h0a ?_)))) | (refine gR 9 (p_m (h:=p_e (q_f h5f) (h:=p_e q_l (h:=p_e (by apply h4l; exact rfl; exact rfl; exact h3i; exact Tryz.underlying82; exact Tryz.underlying9; exact trivial; exact Tryz.zeroValue4; (with_reducible assumption); (with_reducible assumption)) (h:=p_a (h:=h0a ?_))))))) | (refine gR 10 (p_a (h:=h0a ?_))))
    (refine h0o Tryz.results43 (.tmp rfl .nil) ?_)
    exact ⟨_, ⟨by rw [heq]; rfl, rfl⟩, fun _ H => H.tail.tail.tail⟩
   ·rw [if_neg hc] at heq
    replace hl2 := hl2.trans (congrArg Value.bool (@decide_eq_false _ (_) hc))
    repeat' (first | refine h0i ?_ | refine h0b ?_ | refine h0s ?_ | refine h0x ?_ | refine h0j ?_ | refine h0r ?_ | refine h0g rfl ?_ | refine h0f rfl ?_ | (refine gR 3 (p_e (q_b (r:=by exact h0u q_o)) (h:=h0a ?_))) | (refine gR 4 (p_e (by apply h0n; exact rfl; exact rfl; (focus (apply h2j Tryz.underlying33 h4x; omega; omega; exact c_1))) (h:=q_e (by apply h1u (t:=104); exact rfl; exact c_19; kernel_rfl; kernel_rfl; exact h4x; (with_reducible assumption); (with_reducible assumption)) ?_)) <;> (try refine h0c ?_; (refine h0k (t:=104) rfl Tryz.zeroValue104 ?_; intro nb hnb; (try simp only [Value.cells]))) <;> (try refine h0c ?_; (refine q_W ?_)) <;> (try refine h0a ?_)) | (refine gR 5 (p_e (q_f h5f) (h:=q_e q_l ?_)) <;> (try refine h0c ?_; (refine q_c 66 (c:=by apply hpa) (h:=?_); rintro _ _ ⟨rfl, rfl⟩; (try simp only [zzE, zzF]))) <;> (try refine p_e (by apply h5m; exact rfl; exact h1r) (h:=p_a (h:=h0a ?_)))) | (refine gR 7 (p_e (q_L sz_36) (h:=p_e (q_f fo_104_1) (h:=q_e q_l ?_))) <;> (try refine h0c ?_; (refine q_c 67 (c:=by apply hgr) (h:=?_); rintro _ _ ⟨rfl, rfl⟩; (try simp only [zzE, zzF]))) <;> (try refine p_e (by apply h5m; exact rfl; exact h1r) (h:=p_a (h:=h0a ?_)))) | (refine gR 9 (p_m (h:=p_e (q_f h5f) (h:=p_e q_l (h:=p_e (by apply h4l; exact rfl; exact rfl; exact h3i; exact Tryz.underlying82; exact Tryz.underlying9; exact trivial; exact Tryz.zeroValue4; (with_reducible assumption); (with_reducible assumption)) (h:=p_a (h:=h0a ?_))))))) | (refine gR 11 (p_m (h:=p_e (q_f h5f) (h:=q_e q_l ?_))) <;> (try refine h0c ?_; (apply h4k; exact rfl; exact rfl; exact rfl; exact h3i; exact Tryz.underlying82; exact Tryz.underlying9; exact trivial; (with_reducible assumption); (try simp only [List.set_cons_succ]); (try simp only [List.set_cons_zero]))) <;> (try refine h0a ?_)) | (refine gR 12 ?_ <;> (try refine q_e (q_b (r:=by apply h1n; exact c_5; (focus (refine IntWalk.i64_in _ ?_; omega)))) ?_) <;> (try refine p_m (h:=h0a ?_))))
    exact h0w (k + 1, _) ⟨⟨by show k + 1 ≤ ps.length; omega, hl3, heq⟩, by show ps.length - (k + 1) < ps.length - k; omega⟩ (by (focus (repeat (first | exact Sub.nil | refine Sub.cons rfl ?_)))) (fun _ H => H.tail)
 ·have hke : h4s hd (ps.drop k) ((ps.take k).map (·.1)) = 0 := by rw [List.drop_eq_nil_of_le (by omega)]; rfl
  rw [hke] at heq
  rw [heq]
  repeat' (first | refine h0i ?_ | refine h0b ?_ | refine h1p ?_ | refine h1f ?_ | refine h1o ?_ | refine h2c ?_ | refine h0v ?_ | refine h0f rfl ?_ | (refine gR 3 (p_e (q_b (r:=by exact h0y q_o)) (h:=h0a ?_))) | (refine gR 13 (p_a (h:=h0a ?_))))
  (refine h0o Tryz.results43 (.tmp rfl .nil) ?_)
  exact ⟨_, ⟨rfl, rfl⟩, fun _ H => H.tail.tail⟩
theorem porC_at (ps : List (Nat × Nat)) (k : Nat) (h : k < ps.length) : ((porC ps).drop (k * 2)).take 2 = [.int .u16 (ps[k].1 : Nat), .int .u16 (ps[k].2 : Nat)] := by
 induction ps generalizing k with
 | nil => simp at h
 | cons c r ih =>
  cases k with
  | zero => rfl
  | succ k =>
   rw [show (k + 1) * 2 = k * 2 + 2 by omega]
   exact ih k (by simpa using h)
theorem chkPorts_at (hd : Nat) (ps : List (Nat × Nat)) (k : Nat) (h : k < ps.length) : h5g hd (ps.drop k) ((ps.take k).map (·.1)) =  if grantF hd ps[k].2 49152 = false then 204 else if ps[k].1 ∈ (ps.take k).map (·.1) then 206 else h5g hd (ps.drop (k + 1)) ((ps.take (k + 1)).map (·.1)) := by
 rw [take_fst ps k h, List.drop_eq_getElem_cons h]
 rfl
set_option maxHeartbeats 1000000 in
theorem ports_c {S w0 L} (nm : ByteArray) (df : Int) (hd : Nat) (hhd : hd < 65536) (r1 p1 q1 : Option Addr) (r2 r3 p2 p3 q2 q3 : Nat) (ps : List (Nat × Nat)) (hps : ∀ p ∈ ps, p.1 < 65536 ∧ p.2 < 65536) (hl : ps.length ≤ maxLen) (hN : q2 = ps.length) (hs : Sli L q1 ps.length 2 (porC ps)) :
  Fn Tryz.prog 44 #[.agg #[.string nm, .int .u32 df, .slice r1 r2 r3, .int .u16 (hd : Nat), .slice p1 p2 p3, .slice q1 q2 q3]] S w0 L fun v L' => v = .int .i64 (h5g hd ps [] : Nat) ∧ L = L' := by
 subst hN
 refine Fn1 Tryz.func44 Tryz.ntmps44 rfl rfl ?_
 repeat' (first | (refine h2h (id:=0) ?_) | refine h0i ?_ | refine h0b ?_ | (refine gR 0 ?_ <;> (try refine h0c ?_; (refine h2n (t:=36) rfl rfl ?_; intro nb hnb; (try simp only [Value.cells]))) <;> (try refine p_a (h:=h0a ?_))) | (refine gR 1 ?_ <;> (try refine h0c ?_; (refine h5p rfl ?_; intro nb hnb)) <;> (try refine p_a (h:=h0a ?_))) | (refine gR 2 (p_e (q_f h3p) (h:=p_e q_l (h:=p_e (by apply h0e; exact rfl; exact (fun _ => BigFrame.builtin_len ..); apply h0d Tryz.underlying34; exact h3m) (h:=p_m (h:=h0a ?_)))))))
 refine ⟨?_⟩
 rename_i n1 h1
 obtain ⟨n3, rfl⟩ : ∃ x, x = nb := ⟨_, rfl⟩
 refine h0j ?_
 refine h2i (γ:=Nat × List (Value × Value)) (fun g => g.1 ≤ ps.length ∧ MapS keyP g.2 ((ps.take g.1).map (·.1)) ∧ h5g hd ps [] = h5g hd (ps.drop g.1) ((ps.take g.1).map (·.1))) (fun g => ps.length - g.1) (fun g => [(10, .int .i64 (g.1 : Nat))]) [(1, _), (3, _), (8, _), (9, _)]
  (fun g => h3k n3 g.2 :: ⟨true, n1, .cells #[.string nm, .int .u32 df, .slice r1 r2 r3, .int .u16 (hd : Nat), .slice p1 p2 p3, .slice q1 ps.length q3] 36 (0, 0)⟩ :: L) (0, []) (.cons rfl (.cons rfl (.cons rfl (.cons rfl .nil)))) ⟨Nat.zero_le _, MapS.nil _, rfl⟩ (by (focus (repeat (first | exact Sub.nil | refine Sub.cons rfl ?_)))) c_28 ?_
 rintro ⟨k, kvs⟩ ⟨hk, hM, heq⟩
 simp only [List.cons_append, List.nil_append]
 dsimp only at hk hM heq
 unfold maxLen at hl
 by_cases hlt : k < ps.length
 ·obtain ⟨j, q, bb, off, cs, T, fr, rfl, hj, hsz, hx⟩ := hs.elem hlt
  rw [porC_at _ _ hlt] at hx
  obtain ⟨g1, g2⟩ := hps _ (List.getElem_mem hlt)
  rw [chkPorts_at hd ps k hlt] at heq
  have hgr := fun (L : List Blk) => granted_c (S:=S) (w0:=w0) (L:=L) nm df hd hhd r1 p1 (some ⟨bb, off, none⟩) r2 r3 p2 p3 ps.length q3 ps[k].2 49152 g2 (by omega)
  obtain ⟨rr, hl1, hl2, hl3⟩ := hM.look (.int .u16) keyP keyP_same ps[k].1
  rw [← take_fst ps k hlt] at hl3
  clear hM g1
  generalize (ps.take k).map (·.1) = seen at *
  generalize grantF hd ps[k].2 49152 = gf at *
  generalize ps[k] = p at *
  obtain ⟨pt, pr⟩ := p
  dsimp only at *
  cases gf with
  | false =>
   rw [if_pos rfl] at heq
   repeat' (first | refine h0i ?_ | refine h0b ?_ | refine h3q ?_ | refine h0t ?_ | refine h1k ?_ | refine h0j ?_ | refine h0r ?_ | refine h0v ?_ | refine h0g rfl ?_ | (refine gR 3 (p_e (q_b (r:=by exact h0u q_o)) (h:=h0a ?_))) | (refine gR 4 (p_e (by apply h0n; exact rfl; exact rfl; (focus (apply h2j Tryz.underlying34 h6e; omega; omega; exact c_1))) (h:=q_e (by apply h1u (t:=106); exact rfl; exact c_19; kernel_rfl; kernel_rfl; exact h6e; (with_reducible assumption); (with_reducible assumption)) ?_)) <;> (try refine h0c ?_; (refine h0k (t:=106) rfl Tryz.zeroValue106 ?_; intro nb hnb; (try simp only [Value.cells]))) <;> (try refine h0c ?_; (refine q_W ?_)) <;> (try refine h0a ?_)) | (refine gR 5 (p_e (q_L sz_36) (h:=p_e (q_f fo_106_1) (h:=q_e q_l ?_))) <;> (try refine h0c ?_; (refine q_c 67 (c:=by apply hgr) (h:=?_); rintro _ _ ⟨rfl, rfl⟩; (try simp only [zzE, zzF]))) <;> (try refine p_e (by apply h5m; exact rfl; exact h3o) (h:=p_a (h:=h0a ?_)))) | (refine gR 6 (p_a (h:=h0a ?_))))
   (refine h0o Tryz.results44 (.tmp rfl .nil) ?_)
   exact ⟨_, ⟨by rw [heq]; rfl, rfl⟩, fun _ H => H.tail.tail.tail⟩
  | true =>
   rw [if_neg (fun h => by cases h)] at heq
   by_cases hc : pt ∈ seen
   ·rw [if_pos hc] at heq
    replace hl2 := hl2.trans (congrArg Value.bool (@decide_eq_true _ (_) hc))
    repeat' (first | refine h0i ?_ | refine h0b ?_ | refine h3q ?_ | refine h0t ?_ | refine h1k ?_ | refine h0j ?_ | refine h0r ?_ | refine h0v ?_ | refine h0g rfl ?_ | refine h0f rfl ?_ | (refine gR 3 (p_e (q_b (r:=by exact h0u q_o)) (h:=h0a ?_))) | (refine gR 4 (p_e (by apply h0n; exact rfl; exact rfl; (focus (apply h2j Tryz.underlying34 h6e; omega; omega; exact c_1))) (h:=q_e (by apply h1u (t:=106); exact rfl; exact c_19; kernel_rfl; kernel_rfl; exact h6e; (with_reducible assumption); (with_reducible assumption)) ?_)) <;> (try refine h0c ?_; (refine h0k (t:=106) rfl Tryz.zeroValue106 ?_; intro nb hnb; (try simp only [Value.cells]))) <;> (try refine h0c ?_; (refine q_W ?_)) <;> (try refine h0a ?_)) | (refine gR 5 (p_e (q_L sz_36) (h:=p_e (q_f fo_106_1) (h:=q_e q_l ?_))) <;> (try refine h0c ?_; (refine q_c 67 (c:=by apply hgr) (h:=?_); rintro _ _ ⟨rfl, rfl⟩; (try simp only [zzE, zzF]))) <;> (try refine p_e (by apply h5m; exact rfl; exact h1r) (h:=p_a (h:=h0a ?_)))) | (refine gR 7 (p_m (h:=p_e (q_f fo_106_0) (h:=p_e q_l (h:=p_e (by apply h4l; exact rfl; exact rfl; exact h3i; exact Tryz.underlying83; exact Tryz.underlying31; exact rfl; exact Tryz.zeroValue4; (with_reducible assumption); (with_reducible assumption)) (h:=p_a (h:=h0a ?_))))))) | (refine gR 8 (p_a (h:=h0a ?_))))
    (refine h0o Tryz.results44 (.tmp rfl .nil) ?_)
    exact ⟨_, ⟨by rw [heq]; rfl, rfl⟩, fun _ H => H.tail.tail.tail⟩
   ·rw [if_neg hc] at heq
    replace hl2 := hl2.trans (congrArg Value.bool (@decide_eq_false _ (_) hc))
    repeat' (first | refine h0i ?_ | refine h0b ?_ | refine h0s ?_ | refine h0x ?_ | refine h0j ?_ | refine h0r ?_ | refine h0g rfl ?_ | refine h0f rfl ?_ | (refine gR 3 (p_e (q_b (r:=by exact h0u q_o)) (h:=h0a ?_))) | (refine gR 4 (p_e (by apply h0n; exact rfl; exact rfl; (focus (apply h2j Tryz.underlying34 h6e; omega; omega; exact c_1))) (h:=q_e (by apply h1u (t:=106); exact rfl; exact c_19; kernel_rfl; kernel_rfl; exact h6e; (with_reducible assumption); (with_reducible assumption)) ?_)) <;> (try refine h0c ?_; (refine h0k (t:=106) rfl Tryz.zeroValue106 ?_; intro nb hnb; (try simp only [Value.cells]))) <;> (try refine h0c ?_; (refine q_W ?_)) <;> (try refine h0a ?_)) | (refine gR 5 (p_e (q_L sz_36) (h:=p_e (q_f fo_106_1) (h:=q_e q_l ?_))) <;> (try refine h0c ?_; (refine q_c 67 (c:=by apply hgr) (h:=?_); rintro _ _ ⟨rfl, rfl⟩; (try simp only [zzE, zzF]))) <;> (try refine p_e (by apply h5m; exact rfl; exact h1r) (h:=p_a (h:=h0a ?_)))) | (refine gR 7 (p_m (h:=p_e (q_f fo_106_0) (h:=p_e q_l (h:=p_e (by apply h4l; exact rfl; exact rfl; exact h3i; exact Tryz.underlying83; exact Tryz.underlying31; exact rfl; exact Tryz.zeroValue4; (with_reducible assumption); (with_reducible assumption)) (h:=p_a (h:=h0a ?_))))))) | (refine gR 9 (p_m (h:=p_e (q_f fo_106_0) (h:=q_e q_l ?_))) <;> (try refine h0c ?_; (apply h4k; exact rfl; exact rfl; exact rfl; exact h3i; exact Tryz.underlying83; exact Tryz.underlying31; exact rfl; (with_reducible assumption); (try simp only [List.set_cons_succ]); (try simp only [List.set_cons_zero]))) <;> (try refine h0a ?_)) | (refine gR 10 ?_ <;> (try refine q_e (q_b (r:=by apply h1n; exact c_5; (focus (refine IntWalk.i64_in _ ?_; omega)))) ?_) <;> (try refine p_m (h:=h0a ?_))))
    exact h0w (k + 1, _) ⟨⟨by show k + 1 ≤ ps.length; omega, hl3, heq⟩, by show ps.length - (k + 1) < ps.length - k; omega⟩ (by (focus (repeat (first | exact Sub.nil | refine Sub.cons rfl ?_)))) (fun _ H => H.tail)
 ·have hke : h5g hd (ps.drop k) ((ps.take k).map (·.1)) = 0 := by rw [List.drop_eq_nil_of_le (by omega)]; rfl
  rw [hke] at heq
  rw [heq]
  repeat' (first | refine h0i ?_ | refine h0b ?_ | refine h1p ?_ | refine h1f ?_ | refine h1o ?_ | refine h2c ?_ | refine h0v ?_ | refine h0f rfl ?_ | (refine gR 3 (p_e (q_b (r:=by exact h0y q_o)) (h:=h0a ?_))) | (refine gR 11 (p_a (h:=h0a ?_))))
  (refine h0o Tryz.results44 (.tmp rfl .nil) ?_)
  exact ⟨_, ⟨rfl, rfl⟩, fun _ H => H.tail.tail⟩
theorem ne_paths (a : ByteArray) (b : Int) : RBin Tryz.prog .neq 104 (.agg #[.string a, .int .u16 b]) (.agg #[.string a, .int .u16 b]) (.bool false) := by
 apply RBin.mk
 intro w
 go_simp
set_option maxHeartbeats 1000000 in
theorem same_paths {S w0 L} (ps : List (List UInt8 × Nat)) (n : Nat) (hn : n = ps.length) (a1 a2 : Option Addr) (c1 c2 : Nat) (hl : ps.length ≤ maxLen) (s1 : Sli L a1 ps.length 2 (pthC ps)) (s2 : Sli L a2 ps.length 2 (pthC ps)) :
  Fn Tryz.prog 37 #[.slice a1 n c1, .slice a2 n c2] S w0 L fun v L' => v = .bool true ∧ L = L' := by
 subst hn
 unfold maxLen at hl
 refine Fn2 Tryz.func37 Tryz.ntmps37 rfl rfl ?_
 repeat' (first | (refine h2h (id:=0) ?_) | refine h0i ?_ | refine h0b ?_ | (refine gR 0 (p_a (h:=h0a ?_))) | (refine gR 1 (p_m (h:=p_e (by apply h0e; exact rfl; exact (fun _ => BigFrame.builtin_len ..); apply h0d Tryz.underlying33; exact h3m) (h:=p_m (h:=h0a ?_))))))
 refine ⟨?_⟩
 refine h0j ?_
 refine h2i (γ:=Nat) (fun k => k ≤ ps.length) (fun k => ps.length - k) (fun k => [(9, .int .i64 (k : Nat))]) [(1, _), (7, _), (8, _)] (fun _ => L) 0 (.cons rfl (.cons rfl (.cons rfl .nil))) (Nat.zero_le _) (by (focus (repeat (first | exact Sub.nil | refine Sub.cons rfl ?_)))) (fun _ H => H) ?_
 intro k hk
 simp only [List.cons_append, List.nil_append]
 by_cases hlt : k < ps.length
 ·obtain ⟨j, q, bb, off, cs, T, fr, rfl, hj, hsz, hx⟩ := s1.elem hlt
  obtain ⟨j2, q2, bb2, off2, cs2, T2, fr2, rfl, hj2, hsz2, hx2⟩ := s2.elem hlt
  rw [pthC_at _ _ hlt] at hx hx2
  generalize ps[k] = p at *
  obtain ⟨pt, pr⟩ := p
  try dsimp only at *
  have hne := ne_paths (mB8 pt) (pr : Nat)
  repeat' (first | refine h0i ?_ | refine h0b ?_ | refine h0s ?_ | refine h0x ?_ | refine h0j ?_ | refine h0r ?_ | refine h0g rfl ?_ | refine h0f rfl ?_ | (refine gR 2 (p_e (q_b (r:=by exact h0u q_o)) (h:=h0a ?_))) | (refine gR 3 (p_m (h:=p_e (by apply h0n; exact rfl; exact rfl; (focus (apply h2j Tryz.underlying33 h4x; omega; omega; exact c_1))) (h:=q_e (by apply h1u (t:=104); exact rfl; exact c_21; kernel_rfl; kernel_rfl; exact h4x; (with_reducible assumption); (with_reducible assumption)) ?_))) <;> (try refine h0c ?_; (refine h0k (t:=104) rfl Tryz.zeroValue104 ?_; intro nb hnb; (try simp only [Value.cells]))) <;> (try refine q_a ?_) <;> (try refine h0c ?_; (refine q_W ?_)) <;> (try refine h0a ?_)) | ((refine h1z (id:=4) (m:=6) (by kernel_rfl) rfl (q_u 0 (x:=by exact q_L h4x) (h:=q_u 1 (x:=by exact h0h rfl) (h:=q_u 2 (x:=by exact h0h rfl) (h:=q_u 3 (x:=by apply h0n; exact rfl; exact rfl; (focus (apply h2j Tryz.underlying33 h4x; omega; omega; exact c_1))) (h:=q_u 4 (x:=by apply h1u (t:=104); exact rfl; exact c_19; kernel_rfl; kernel_rfl; exact h4x; (with_reducible assumption); (with_reducible assumption)) (h:=q_u 5 (x:=by apply h1l (op:=.neq) (t:=104); exact rfl; exact rfl; kernel_rfl; (with_reducible assumption)) (h:=h1a (by kernel_rfl) ?_))))))))) | (refine gR 6 ?_ <;> (try refine q_e (q_b (r:=by apply h1n; exact c_5; (focus (refine IntWalk.i64_in _ ?_; omega)))) ?_) <;> (try refine p_m (h:=h0a ?_))))
  exact h0w (k + 1) ⟨by show k + 1 ≤ ps.length; omega, by show ps.length - (k + 1) < ps.length - k; omega⟩ (by (focus (repeat (first | exact Sub.nil | refine Sub.cons rfl ?_)))) (fun _ H => H.tail)
 ·repeat' (first | refine h0i ?_ | refine h0b ?_ | refine h1p ?_ | refine h1f ?_ | refine h1o ?_ | refine h2c ?_ | refine h0v ?_ | refine h0f rfl ?_ | (refine gR 2 (p_e (q_b (r:=by exact h0y q_o)) (h:=h0a ?_))) | (refine gR 7 (p_a (h:=h0a ?_))))
  (refine h0o Tryz.results37 (.tmp rfl .nil) ?_)
  exact ⟨_, ⟨rfl, rfl⟩, by intro w H; refine H.sub ?_; (try simp only [zzC, zzN]); repeat (exact List.Sublist.refl _)⟩
theorem ne_ports (a : Int) (b : Int) : RBin Tryz.prog .neq 106 (.agg #[.int .u16 a, .int .u16 b]) (.agg #[.int .u16 a, .int .u16 b]) (.bool false) := by
 apply RBin.mk
 intro w
 go_simp
set_option maxHeartbeats 1000000 in
theorem same_ports {S w0 L} (ps : List (Nat × Nat)) (n : Nat) (hn : n = ps.length) (a1 a2 : Option Addr) (c1 c2 : Nat) (hl : ps.length ≤ maxLen) (s1 : Sli L a1 ps.length 2 (porC ps)) (s2 : Sli L a2 ps.length 2 (porC ps)) :
  Fn Tryz.prog 38 #[.slice a1 n c1, .slice a2 n c2] S w0 L fun v L' => v = .bool true ∧ L = L' := by
 subst hn
 unfold maxLen at hl
 refine Fn2 Tryz.func38 Tryz.ntmps38 rfl rfl ?_
 repeat' (first | (refine h2h (id:=0) ?_) | refine h0i ?_ | refine h0b ?_ | (refine gR 0 (p_a (h:=h0a ?_))) | (refine gR 1 (p_m (h:=p_e (by apply h0e; exact rfl; exact (fun _ => BigFrame.builtin_len ..); apply h0d Tryz.underlying34; exact h3m) (h:=p_m (h:=h0a ?_))))))
 refine ⟨?_⟩
 refine h0j ?_
 refine h2i (γ:=Nat) (fun k => k ≤ ps.length) (fun k => ps.length - k) (fun k => [(9, .int .i64 (k : Nat))]) [(1, _), (7, _), (8, _)] (fun _ => L) 0 (.cons rfl (.cons rfl (.cons rfl .nil))) (Nat.zero_le _) (by (focus (repeat (first | exact Sub.nil | refine Sub.cons rfl ?_)))) (fun _ H => H) ?_
 intro k hk
 simp only [List.cons_append, List.nil_append]
 by_cases hlt : k < ps.length
 ·obtain ⟨j, q, bb, off, cs, T, fr, rfl, hj, hsz, hx⟩ := s1.elem hlt
  obtain ⟨j2, q2, bb2, off2, cs2, T2, fr2, rfl, hj2, hsz2, hx2⟩ := s2.elem hlt
  rw [porC_at _ _ hlt] at hx hx2
  generalize ps[k] = p at *
  obtain ⟨pt, pr⟩ := p
  try dsimp only at *
  have hne := ne_ports (pt : Nat) (pr : Nat)
  repeat' (first | refine h0i ?_ | refine h0b ?_ | refine h0s ?_ | refine h0x ?_ | refine h0j ?_ | refine h0r ?_ | refine h0g rfl ?_ | refine h0f rfl ?_ | (refine gR 2 (p_e (q_b (r:=by exact h0u q_o)) (h:=h0a ?_))) | (refine gR 3 (p_m (h:=p_e (by apply h0n; exact rfl; exact rfl; (focus (apply h2j Tryz.underlying34 h6e; omega; omega; exact c_1))) (h:=q_e (by apply h1u (t:=106); exact rfl; exact c_21; kernel_rfl; kernel_rfl; exact h6e; (with_reducible assumption); (with_reducible assumption)) ?_))) <;> (try refine h0c ?_; (refine h0k (t:=106) rfl Tryz.zeroValue106 ?_; intro nb hnb; (try simp only [Value.cells]))) <;> (try refine q_a ?_) <;> (try refine h0c ?_; (refine q_W ?_)) <;> (try refine h0a ?_)) | ((refine h1z (id:=4) (m:=6) (by kernel_rfl) rfl (q_u 0 (x:=by exact q_L h6e) (h:=q_u 1 (x:=by exact h0h rfl) (h:=q_u 2 (x:=by exact h0h rfl) (h:=q_u 3 (x:=by apply h0n; exact rfl; exact rfl; (focus (apply h2j Tryz.underlying34 h6e; omega; omega; exact c_1))) (h:=q_u 4 (x:=by apply h1u (t:=106); exact rfl; exact c_19; kernel_rfl; kernel_rfl; exact h6e; (with_reducible assumption); (with_reducible assumption)) (h:=q_u 5 (x:=by apply h1l (op:=.neq) (t:=106); exact rfl; exact rfl; kernel_rfl; (with_reducible assumption)) (h:=h1a (by kernel_rfl) ?_))))))))) | (refine gR 6 ?_ <;> (try refine q_e (q_b (r:=by apply h1n; exact c_5; (focus (refine IntWalk.i64_in _ ?_; omega)))) ?_) <;> (try refine p_m (h:=h0a ?_))))
  exact h0w (k + 1) ⟨by show k + 1 ≤ ps.length; omega, by show ps.length - (k + 1) < ps.length - k; omega⟩ (by (focus (repeat (first | exact Sub.nil | refine Sub.cons rfl ?_)))) (fun _ H => H.tail)
 ·repeat' (first | refine h0i ?_ | refine h0b ?_ | refine h1p ?_ | refine h1f ?_ | refine h1o ?_ | refine h2c ?_ | refine h0v ?_ | refine h0f rfl ?_ | (refine gR 2 (p_e (q_b (r:=by exact h0y q_o)) (h:=h0a ?_))) | (refine gR 7 (p_a (h:=h0a ?_))))
  (refine h0o Tryz.results38 (.tmp rfl .nil) ?_)
  exact ⟨_, ⟨rfl, rfl⟩, by intro w H; refine H.sub ?_; (try simp only [zzC, zzN]); repeat (exact List.Sublist.refl _)⟩
theorem ne_conds (a b c d : Int) : RBin Tryz.prog .neq 99 (.agg #[.int .i64 a, .int .u8 b, .int .u64 c, .int .u64 d]) (.agg #[.int .i64 a, .int .u8 b, .int .u64 c, .int .u64 d]) (.bool false) := by
 apply RBin.mk
 intro w
 go_simp
set_option maxHeartbeats 1000000 in
theorem same_conds {S w0 L} (ps : List (GCnd)) (n : Nat) (hn : n = ps.length) (a1 a2 : Option Addr) (c1 c2 : Nat) (hl : ps.length ≤ maxLen) (s1 : Sli L a1 ps.length 4 (gcC ps)) (s2 : Sli L a2 ps.length 4 (gcC ps)) :
  Fn Tryz.prog 64 #[.slice a1 n c1, .slice a2 n c2] S w0 L fun v L' => v = .bool true ∧ L = L' := by
 subst hn
 unfold maxLen at hl
 refine Fn2 Tryz.func64 Tryz.ntmps64 rfl rfl ?_
 repeat' (first | (refine h2h (id:=0) ?_) | refine h0i ?_ | refine h0b ?_ | (refine gR 0 (p_a (h:=h0a ?_))) | (refine gR 1 (p_m (h:=p_e (by apply h0e; exact rfl; exact (fun _ => BigFrame.builtin_len ..); apply h0d Tryz.underlying71; exact h3m) (h:=p_m (h:=h0a ?_))))))
 refine ⟨?_⟩
 refine h0j ?_
 refine h2i (γ:=Nat) (fun k => k ≤ ps.length) (fun k => ps.length - k) (fun k => [(9, .int .i64 (k : Nat))]) [(1, _), (7, _), (8, _)] (fun _ => L) 0 (.cons rfl (.cons rfl (.cons rfl .nil))) (Nat.zero_le _) (by (focus (repeat (first | exact Sub.nil | refine Sub.cons rfl ?_)))) (fun _ H => H) ?_
 intro k hk
 simp only [List.cons_append, List.nil_append]
 by_cases hlt : k < ps.length
 ·obtain ⟨j, q, bb, off, cs, T, fr, rfl, hj, hsz, hx⟩ := s1.elem hlt
  obtain ⟨j2, q2, bb2, off2, cs2, T2, fr2, rfl, hj2, hsz2, hx2⟩ := s2.elem hlt
  rw [gcC_at _ _ hlt] at hx hx2
  generalize ps[k] = p at *
  obtain ⟨ca, co, cm, cv⟩ := p
  try dsimp only at *
  have hne := ne_conds ca (co : Nat) (cm : Nat) (cv : Nat)
  repeat' (first | refine h0i ?_ | refine h0b ?_ | refine h0s ?_ | refine h0x ?_ | refine h0j ?_ | refine h0r ?_ | refine h0g rfl ?_ | refine h0f rfl ?_ | (refine gR 2 (p_e (q_b (r:=by exact h0u q_o)) (h:=h0a ?_))) | (refine gR 3 (p_m (h:=p_e (by apply h0n; exact rfl; exact rfl; (focus (apply h2j Tryz.underlying71 h5n; omega; omega; exact c_1))) (h:=q_e (by apply h1u (t:=99); exact rfl; exact c_21; kernel_rfl; kernel_rfl; exact h5n; (with_reducible assumption); (with_reducible assumption)) ?_))) <;> (try refine h0c ?_; (refine h0k (t:=99) rfl Tryz.zeroValue99 ?_; intro nb hnb; (try simp only [Value.cells]))) <;> (try refine q_a ?_) <;> (try refine h0c ?_; (refine q_W ?_)) <;> (try refine h0a ?_)) | ((refine h1z (id:=4) (m:=6) (by kernel_rfl) rfl (q_u 0 (x:=by exact q_L h5n) (h:=q_u 1 (x:=by exact h0h rfl) (h:=q_u 2 (x:=by exact h0h rfl) (h:=q_u 3 (x:=by apply h0n; exact rfl; exact rfl; (focus (apply h2j Tryz.underlying71 h5n; omega; omega; exact c_1))) (h:=q_u 4 (x:=by apply h1u (t:=99); exact rfl; exact c_19; kernel_rfl; kernel_rfl; exact h5n; (with_reducible assumption); (with_reducible assumption)) (h:=q_u 5 (x:=by apply h1l (op:=.neq) (t:=99); exact rfl; exact rfl; kernel_rfl; (with_reducible assumption)) (h:=h1a (by kernel_rfl) ?_))))))))) | (refine gR 6 ?_ <;> (try refine q_e (q_b (r:=by apply h1n; exact c_5; (focus (refine IntWalk.i64_in _ ?_; omega)))) ?_) <;> (try refine p_m (h:=h0a ?_))))
  exact h0w (k + 1) ⟨by show k + 1 ≤ ps.length; omega, by show ps.length - (k + 1) < ps.length - k; omega⟩ (by (focus (repeat (first | exact Sub.nil | refine Sub.cons rfl ?_)))) (fun _ H => H.tail)
 ·repeat' (first | refine h0i ?_ | refine h0b ?_ | refine h1p ?_ | refine h1f ?_ | refine h1o ?_ | refine h2c ?_ | refine h0v ?_ | refine h0f rfl ?_ | (refine gR 2 (p_e (q_b (r:=by exact h0y q_o)) (h:=h0a ?_))) | (refine gR 7 (p_a (h:=h0a ?_))))
  (refine h0o Tryz.results64 (.tmp rfl .nil) ?_)
  exact ⟨_, ⟨rfl, rfl⟩, by intro w H; refine H.sub ?_; (try simp only [zzC, zzN]); repeat (exact List.Sublist.refl _)⟩
theorem samerule_c {S w0 L} (num act : Int) (cs : List GCnd) (v1 v2 : Value) (h1 : CndS L v1 cs) (h2 : CndS L v2 cs) :
  Fn Tryz.prog 36 #[.agg #[.int .u32 num, .int .u32 act, v1], .agg #[.int .u32 num, .int .u32 act, v2]] S w0 L fun v L' => v = .bool true ∧ L = L' := by
 obtain ⟨a1, c1, rfl, s1, l1⟩ := h1
 obtain ⟨a2, c2, rfl, s2, -⟩ := h2
 have hs := fun (e : List Blk) => same_conds (S:=S) (w0:=w0) (L:=e ++ L) cs _ rfl a1 a2 c1 c2 l1 (s1.upA e) (s2.upA e)
 have hs2 := fun (x1 x2 : Blk) => hs [x1, x2]
 simp only [List.cons_append, List.nil_append] at hs2
 refine Fn2 Tryz.func36 Tryz.ntmps36 rfl rfl ?_
 repeat' (first | refine h0i ?_ | refine h0b ?_ | refine h0r ?_ | refine h0v ?_ | refine h0f rfl ?_ | (refine gR 0 ?_ <;> (try refine h0c ?_; (refine h2n (t:=73) rfl rfl ?_; intro nb hnb; (try simp only [Value.cells]))) <;> (try refine h0c ?_; (refine h2n (t:=73) rfl rfl ?_; intro nb hnb; (try simp only [Value.cells]))) <;> (try refine p_a (h:=h0a ?_))) | (refine gR 1 (p_e (q_f fo_73_0) (h:=p_e q_l (h:=p_e (q_f fo_73_0) (h:=q_e q_l ?_)))) <;> (try refine q_e (by exact q_b (r:=by refine h1w ?_; first | rfl | (with_reducible assumption) | (decide; done) | omega)) ?_) <;> (try refine p_m (h:=p_y (q_f fo_73_1) (h:=p_y q_l (h:=p_y (q_f fo_73_1) (h:=q_y q_l ?_))))) <;> (try refine q_y (by exact q_b (r:=by refine h1w ?_; first | rfl | (with_reducible assumption) | (decide; done) | omega)) ?_) <;> (try refine p_p (h:=p_m (h:=p_y (q_f h2w) (h:=p_y q_l (h:=p_y (by apply h0e; exact rfl; exact (fun _ => BigFrame.builtin_len ..); apply h0d Tryz.underlying71; exact h3m) (h:=p_y (q_f h2w) (h:=p_y q_l (h:=q_y (by apply h0e; exact rfl; exact (fun _ => BigFrame.builtin_len ..); apply h0d Tryz.underlying71; exact h3m) ?_)))))))) <;> (try refine q_y (by exact q_b (r:=by refine h1w ?_; first | rfl | (with_reducible assumption) | (decide; done) | omega)) ?_) <;> (try refine p_p (h:=h0a ?_))) | (refine gR 3 (p_e (q_f h2w) (h:=p_e q_l (h:=p_e (q_f h2w) (h:=q_e q_l ?_)))) <;> (try refine h0c ?_; (refine q_c 64 (c:=by apply hs2) (h:=?_); rintro _ _ ⟨rfl, rfl⟩; (try simp only [zzE, zzF]))) <;> (try refine p_a (h:=h0a ?_))))
 (refine h0o Tryz.results36 (.tmp rfl .nil) ?_)
 exact ⟨_, ⟨rfl, rfl⟩, by intro w H; refine H.sub ?_; (try simp only [zzC, zzN]); repeat (first | exact List.Sublist.refl _ | refine List.Sublist.cons _ ?_)⟩
set_option maxHeartbeats 1000000 in
theorem psame_c {S w0 L} (P : GPol) (vr vp vq ur up uq : Value) (h1 : PolS L P vr vp vq) (h2 : PolS L P ur up uq) :
  Fn Tryz.prog 14 #[.agg (polG P vr vp vq).toArray, .agg (polG P ur up uq).toArray] S w0 L fun v L' => v = .bool true ∧ L = L' := by
 obtain ⟨⟨a1, c1, z1, rfl, r1, g1⟩, ⟨a2, c2, rfl, p1⟩, ⟨a3, c3, rfl, q1⟩, l1, l2, l3⟩ := h1
 obtain ⟨⟨b1, d1, z2, rfl, r2, g2⟩, ⟨b2, d2, rfl, p2⟩, ⟨b3, d3, rfl, q2⟩, -, -, -⟩ := h2
 have hsp := fun (x1 x2 : Blk) => same_paths (S:=S) (w0:=w0) (L:=[x1, x2] ++ L) P.paths _ rfl a2 b2 c2 d2 l2 (p1.upA _) (p2.upA _)
 have hsq := fun (x1 x2 : Blk) => same_ports (S:=S) (w0:=w0) (L:=[x1, x2] ++ L) P.ports _ rfl a3 b3 c3 d3 l3 (q1.upA _) (q2.upA _)
 obtain ⟨nm, df, rs, hd, ps, qs⟩ := P
 dsimp only at *
 generalize mB8 nm = nm' at *
 simp only [List.cons_append, List.nil_append] at hsp hsq
 unfold maxLen at l1 l2 l3
 refine Fn2 Tryz.func14 Tryz.ntmps14 rfl rfl ?_
 repeat' (first | (refine h2h (id:=0) ?_) | refine h0i ?_ | refine h0b ?_ | refine h0r ?_ | refine h0f rfl ?_ | (refine gR 0 ?_ <;> (try refine h0c ?_; (refine h2n (t:=36) rfl rfl ?_; intro nb hnb; (try simp only [Value.cells]))) <;> (try refine h0c ?_; (refine h2n (t:=36) rfl rfl ?_; intro nb hnb; (try simp only [Value.cells]))) <;> (try refine p_a (h:=h0a ?_))) | (refine gR 1 (p_e (q_f h6b) (h:=p_e q_l (h:=p_e (q_f h6b) (h:=p_e q_l (h:=p_e (q_b (r:=by exact rb_strne_s)) (h:=p_m (h:=p_y (q_f fo_36_1) (h:=p_y q_l (h:=p_y (q_f fo_36_1) (h:=q_y q_l ?_)))))))))) <;> (try refine q_y (by exact q_b (r:=by refine h1w ?_; first | rfl | (with_reducible assumption) | (decide; done) | omega)) ?_) <;> (try refine p_p (h:=p_m (h:=p_y (q_f h5l) (h:=p_y q_l (h:=p_y (q_f h5l) (h:=q_y q_l ?_)))))) <;> (try refine q_y (by exact q_b (r:=by refine h1w ?_; first | rfl | (with_reducible assumption) | (decide; done) | omega)) ?_) <;> (try refine p_p (h:=p_m (h:=p_y (q_f h2t) (h:=p_y q_l (h:=p_y (by apply h0e; exact rfl; exact (fun _ => BigFrame.builtin_len ..); apply h0d Tryz.underlying30; exact h3m) (h:=p_y (q_f h2t) (h:=p_y q_l (h:=q_y (by apply h0e; exact rfl; exact (fun _ => BigFrame.builtin_len ..); apply h0d Tryz.underlying30; exact h3m) ?_)))))))) <;> (try refine q_y (by exact q_b (r:=by refine h1w ?_; first | rfl | (with_reducible assumption) | (decide; done) | omega)) ?_) <;> (try refine p_p (h:=p_m (h:=p_y (q_f h3h) (h:=p_y q_l (h:=p_y (by apply h0e; exact rfl; exact (fun _ => BigFrame.builtin_len ..); apply h0d Tryz.underlying33; exact h3m) (h:=p_y (q_f h3h) (h:=p_y q_l (h:=q_y (by apply h0e; exact rfl; exact (fun _ => BigFrame.builtin_len ..); apply h0d Tryz.underlying33; exact h3m) ?_)))))))) <;> (try refine q_y (by exact q_b (r:=by refine h1w ?_; first | rfl | (with_reducible assumption) | (decide; done) | omega)) ?_) <;> (try refine p_p (h:=p_m (h:=p_y (q_f h3p) (h:=p_y q_l (h:=p_y (by apply h0e; exact rfl; exact (fun _ => BigFrame.builtin_len ..); apply h0d Tryz.underlying34; exact h3m) (h:=p_y (q_f h3p) (h:=p_y q_l (h:=q_y (by apply h0e; exact rfl; exact (fun _ => BigFrame.builtin_len ..); apply h0d Tryz.underlying34; exact h3m) ?_)))))))) <;> (try refine q_y (by exact q_b (r:=by refine h1w ?_; first | rfl | (with_reducible assumption) | (decide; done) | omega)) ?_) <;> (try refine p_p (h:=h0a ?_))) | (refine gR 3 (p_e (q_f h2t) (h:=p_e q_l (h:=p_e (by apply h0e; exact rfl; exact (fun _ => BigFrame.builtin_len ..); apply h0d Tryz.underlying30; exact h3m) (h:=p_m (h:=h0a ?_)))))))
 refine ⟨?_⟩
 rename_i n1 _
 obtain ⟨n2, rfl⟩ : ∃ x, x = nb := ⟨_, rfl⟩
 refine h0j ?_
 refine h2i (γ:=Nat) (fun k => k ≤ rs.length) (fun k => rs.length - k) (fun k => [(56, .int .i64 (k : Nat))]) [(2, _), (3, _), (54, _), (55, _)] (fun _ => _ :: _ :: L) 0 (.cons rfl (.cons rfl (.cons rfl (.cons rfl .nil)))) (Nat.zero_le _) (by (focus (repeat (first | exact Sub.nil | refine Sub.cons rfl ?_)))) (fun _ H => H) ?_
 intro k hk
 simp only [List.cons_append, List.nil_append]
 by_cases hlt : k < rs.length
 ·obtain ⟨j, q, bb, off, cs, T, fr, rfl, hj, hsz, hx⟩ := r1.elem hlt
  obtain ⟨j2, qb, bb2, off2, cs2, T2, fr2, rfl, hj2, hsz2, hx2⟩ := r2.elem hlt
  obtain ⟨v1, e1, k1⟩ := g1.at_ k hlt
  obtain ⟨v2, e2, k2⟩ := g2.at_ k hlt
  obtain ⟨u1, y1, rfl, m1, o1⟩ := k1
  obtain ⟨u2, y2, rfl, m2, o2⟩ := k2
  rw [e1] at hx
  rw [e2] at hx2
  have hsr := fun (x0 x1 x2 : Blk) => samerule_c (S:=S) (w0:=w0) (L:=[x0, x1, x2] ++ L) rs[k].num rs[k].act rs[k].conds _ _ ⟨u1, y1, rfl, m1.upA _, o1⟩ ⟨u2, y2, rfl, m2.upA _, o2⟩
  simp only [List.cons_append, List.nil_append] at hsr
  clear m1 m2 e1 e2 o1 o2
  generalize rs[k] = r at *
  obtain ⟨rn, ra, rcs⟩ := r
  dsimp only at *
  repeat' (first | refine h0i ?_ | refine h0b ?_ | refine h0s ?_ | refine h0x ?_ | refine h0j ?_ | refine h0r ?_ | refine h0g rfl ?_ | refine h0f rfl ?_ | (refine gR 4 (p_e (q_b (r:=by exact h0u q_o)) (h:=h0a ?_))) | (refine gR 5 (p_m (h:=p_e (by apply h0n; exact rfl; exact rfl; (focus (apply h2j Tryz.underlying30 sz_73; omega; omega; exact c_1))) (h:=q_e (by apply h1u (t:=73); exact rfl; exact c_19; kernel_rfl; kernel_rfl; exact sz_73; (with_reducible assumption); (with_reducible assumption)) ?_))) <;> (try refine h0c ?_; (refine h0k (t:=73) rfl Tryz.zeroValue73 ?_; intro nb hnb; (try simp only [Value.cells]))) <;> (try refine q_a ?_) <;> (try refine h0c ?_; (refine q_W ?_)) <;> (try refine h0a ?_)) | ((refine h1z (id:=6) (m:=8) (by kernel_rfl) rfl (q_u 0 (x:=by exact q_L sz_73) (h:=q_u 1 (x:=by exact q_f h2t) (h:=q_u 2 (x:=by exact q_l) (h:=q_u 3 (x:=by exact h0h rfl) (h:=q_u 4 (x:=by apply h0n; exact rfl; exact rfl; (focus (apply h2j Tryz.underlying30 sz_73; omega; omega; exact c_1))) (h:=q_u 5 (x:=by apply h1u (t:=73); exact rfl; exact c_19; kernel_rfl; kernel_rfl; exact sz_73; (with_reducible assumption); (with_reducible assumption)) (h:=?_)))))))) <;> (try refine q_r 6 ?_; (refine q_c 36 (c:=by apply hsr) (h:=?_); rintro _ _ ⟨rfl, rfl⟩; (try simp only [zzE, zzF])); refine h1b (fun _ H => H) ?_) <;> (try refine q_u 7 (x:=by apply h5m; exact rfl; exact h1r) (h:=h1a (by kernel_rfl) ?_))) | (refine gR 8 ?_ <;> (try refine q_e (q_b (r:=by apply h1n; exact c_5; (focus (refine IntWalk.i64_in _ ?_; omega)))) ?_) <;> (try refine p_m (h:=h0a ?_))))
  exact h0w (k + 1) ⟨by show k + 1 ≤ rs.length; omega, by show rs.length - (k + 1) < rs.length - k; omega⟩ (by (focus (repeat (first | exact Sub.nil | refine Sub.cons rfl ?_)))) (fun _ H => H.tail)
 ·repeat' (first | refine h0i ?_ | refine h0b ?_ | refine h1p ?_ | refine h1f ?_ | refine h1o ?_ | refine h2c ?_ | refine h0v ?_ | refine h0f rfl ?_ | (refine gR 4 (p_e (q_b (r:=by exact h0y q_o)) (h:=h0a ?_))) | (refine gR 9 (p_e (q_f h3h) (h:=p_e q_l (h:=p_e (q_f h3h) (h:=q_e q_l ?_)))) <;> (try refine h0c ?_; (refine q_c 37 (c:=by apply hsp) (h:=?_); rintro _ _ ⟨rfl, rfl⟩; (try simp only [zzE, zzF]))) <;> (try refine p_m (h:=p_y (q_f h3p) (h:=p_y q_l (h:=p_y (q_f h3p) (h:=q_y q_l ?_))))) <;> (try refine h0c ?_; (refine h1s rfl rfl rfl ?_; (refine q_c 38 (c:=by apply hsq) (h:=?_); rintro _ _ ⟨rfl, rfl⟩; (try simp only [zzE, zzF])))) <;> (try refine p_p (h:=p_a (h:=h0a ?_)))))
  (refine h0o Tryz.results14 (.tmp rfl .nil) ?_)
  exact ⟨_, ⟨rfl, rfl⟩, by intro w H; refine H.sub ?_; (try simp only [zzC, zzN]); repeat (first | exact List.Sublist.refl _ | refine List.Sublist.cons _ ?_)⟩
set_option maxHeartbeats 2000000 in
theorem check_c {S w0 L} (P : GPol) (h : P.ok) (vr vp vq : Value) (hS : PolS L P vr vp vq) (hr : P.rules.length ≤ 1000) (ct m1 m2 n : Nat) (hn : n ≤ 90000) :
  Fn Tryz.prog 17 #[.agg (polG P vr vp vq).toArray, .pointer (some ⟨ct, 0, none⟩)] S w0 (tbS ct m1 m2 n ++ L) fun v L' => ∃ m1' m2' n', v = .int .i64 (chkG P : Nat) ∧ n' ≤ n + P.rules.length ∧ tbS ct m1' m2' n' ++ L = L' := by
 obtain ⟨⟨ra, rc, cz, e1, hrs, hrg⟩, ⟨pa, pc, e2, hps⟩, ⟨qa, qc, e3, hqs⟩, -, hl2, hl3⟩ := hS
 subst e1 e2 e3
 have hwo := fun (L : List Blk) => Wd.word_c (S:=S) (w0:=w0) (L:=L) (mB8 P.nm) (by rw [h2d]; exact h.nm)
 have hac := fun (L : List Blk) => actok_c (S:=S) (w0:=w0) (L:=L) P.df h.df
 have hva := fun (L : List Blk) => Rg.valid_c (S:=S) (w0:=w0) (L:=L) P.hd h.hd
 have hpa := fun (L : List Blk) hs => paths_c (S:=S) (w0:=w0) (L:=L) (mB8 P.nm) P.df P.hd h.hd ra pa qa P.rules.length rc P.paths.length pc P.ports.length qc P.paths h.paths hl2 rfl hs
 have hpo := fun (L : List Blk) hs => ports_c (S:=S) (w0:=w0) (L:=L) (mB8 P.nm) P.df P.hd h.hd ra pa qa P.rules.length rc P.paths.length pc P.ports.length qc P.ports h.ports hl3 rfl hs
 have hru := h.rules
 have hG : chkG P = if Wd.wordF (mB8 P.nm) = false then 202 else if h6d P.df = false then 210 else if 64 < P.rules.length ∨ 32 < P.paths.length ∨ 32 < P.ports.length then 205 else if decide (h4u (P.hd : Int) 51199 = 0) = false then 204 else if h5q (P.rules.map chkR) ≠ 0 then h5q (P.rules.map chkR) else if h4s P.hd P.paths [] ≠ 0 then h4s P.hd P.paths [] else h5g P.hd P.ports [] := by
  unfold chkG
  by_cases hx : h4u (P.hd : Int) 51199 = 0 <;> simp [hx]
 rw [hG]
 clear hG h
 obtain ⟨nm, df, rules, hd, paths, ports⟩ := P
 dsimp only [polG] at *
 generalize Wd.wordF (mB8 nm) = wf at *
 generalize h6d df = ak at *
 generalize decide (h4u (hd : Int) 51199 = 0) = vf at *
 unfold maxLen at hl2 hl3
 cases wf with
 | false =>
  rw [if_pos rfl]
  clear hpa hpo
  refine Fn2 Tryz.func17 Tryz.ntmps17 rfl rfl ?_
  repeat' (first | refine h0i ?_ | refine h0b ?_ | refine h0t ?_ | refine h1k ?_ | refine h0j ?_ | refine h0v ?_ | refine h0g rfl ?_ | refine h0f rfl ?_ | (refine gR 0 ?_ <;> (try refine h0c ?_; (refine h2n (t:=36) rfl rfl ?_; intro nb hnb; (try simp only [Value.cells]))) <;> (try refine p_a (h:=h0a ?_))) | (refine gR 1 (p_m (h:=p_e (q_b (r:=by exact h3x Tryz.underlying41)) (h:=p_a (h:=h0a ?_))))) | (refine gR 3 (p_e (q_f h6b) (h:=q_e q_l ?_)) <;> (try refine h0c ?_; (refine q_c 39 (c:=by apply hwo) (h:=?_); rintro _ _ ⟨rfl, rfl⟩; (try simp only [zzE, zzF]))) <;> (try refine p_e (by apply h5m; exact rfl; exact h3o) (h:=p_a (h:=h0a ?_)))) | (refine gR 4 (p_a (h:=h0a ?_))))
  (refine h0o Tryz.results17 (.tmp rfl .nil) ?_)
  exact ⟨_, ⟨m1, m2, n, rfl, by omega, rfl⟩, fun _ H => H.tail⟩
 | true =>
 rw [if_neg (fun h => by cases h)]
 cases ak with
 | false =>
  rw [if_pos rfl]
  clear hpa hpo
  refine Fn2 Tryz.func17 Tryz.ntmps17 rfl rfl ?_
  repeat' (first | refine h0i ?_ | refine h0b ?_ | refine h0t ?_ | refine h1k ?_ | refine h0j ?_ | refine h0v ?_ | refine h0g rfl ?_ | refine h0f rfl ?_ | (refine gR 0 ?_ <;> (try refine h0c ?_; (refine h2n (t:=36) rfl rfl ?_; intro nb hnb; (try simp only [Value.cells]))) <;> (try refine p_a (h:=h0a ?_))) | (refine gR 1 (p_m (h:=p_e (q_b (r:=by exact h3x Tryz.underlying41)) (h:=p_a (h:=h0a ?_))))) | (refine gR 3 (p_e (q_f h6b) (h:=q_e q_l ?_)) <;> (try refine h0c ?_; (refine q_c 39 (c:=by apply hwo) (h:=?_); rintro _ _ ⟨rfl, rfl⟩; (try simp only [zzE, zzF]))) <;> (try refine p_e (by apply h5m; exact rfl; exact h1r) (h:=p_a (h:=h0a ?_)))) | (refine gR 5 (p_e (q_f fo_36_1) (h:=q_e q_l ?_)) <;> (try refine h0c ?_; (refine q_c 40 (c:=by apply hac) (h:=?_); rintro _ _ ⟨rfl, rfl⟩; (try simp only [zzE, zzF]))) <;> (try refine p_e (by apply h5m; exact rfl; exact h3o) (h:=p_a (h:=h0a ?_)))) | (refine gR 6 (p_a (h:=h0a ?_))))
  (refine h0o Tryz.results17 (.tmp rfl .nil) ?_)
  exact ⟨_, ⟨m1, m2, n, rfl, by omega, rfl⟩, fun _ H => H.tail⟩
 | true =>
 rw [if_neg (fun h => by cases h)]
 by_cases hb : 64 < rules.length ∨ 32 < paths.length ∨ 32 < ports.length
 ·rw [if_pos hb]
  clear hpa hpo
  by_cases b1 : 64 < rules.length
  ·refine Fn2 Tryz.func17 Tryz.ntmps17 rfl rfl ?_
   repeat' (first | refine h0i ?_ | refine h0b ?_ | refine h0t ?_ | refine h1k ?_ | refine h0j ?_ | refine h0v ?_ | refine h0g rfl ?_ | refine h0f rfl ?_ | (refine gR 0 ?_ <;> (try refine h0c ?_; (refine h2n (t:=36) rfl rfl ?_; intro nb hnb; (try simp only [Value.cells]))) <;> (try refine p_a (h:=h0a ?_))) | (refine gR 1 (p_m (h:=p_e (q_b (r:=by exact h3x Tryz.underlying41)) (h:=p_a (h:=h0a ?_))))) | (refine gR 3 (p_e (q_f h6b) (h:=q_e q_l ?_)) <;> (try refine h0c ?_; (refine q_c 39 (c:=by apply hwo) (h:=?_); rintro _ _ ⟨rfl, rfl⟩; (try simp only [zzE, zzF]))) <;> (try refine p_e (by apply h5m; exact rfl; exact h1r) (h:=p_a (h:=h0a ?_)))) | (refine gR 5 (p_e (q_f fo_36_1) (h:=q_e q_l ?_)) <;> (try refine h0c ?_; (refine q_c 40 (c:=by apply hac) (h:=?_); rintro _ _ ⟨rfl, rfl⟩; (try simp only [zzE, zzF]))) <;> (try refine p_e (by apply h5m; exact rfl; exact h1r) (h:=p_a (h:=h0a ?_)))) | (refine gR 7 (p_e (q_f h2t) (h:=p_e q_l (h:=p_e (by apply h0e; exact rfl; exact (fun _ => BigFrame.builtin_len ..); apply h0d Tryz.underlying30; exact h3m) (h:=p_e (q_b (r:=by exact h1x q_o)) (h:=p_m (h:=p_z (h:=p_z (h:=p_z (h:=p_z (h:=p_p (h:=p_m (h:=p_z (h:=p_z (h:=p_z (h:=p_z (h:=p_p (h:=p_a (h:=h0a ?_))))))))))))))))))) | (refine gR 8 (p_a (h:=h0a ?_))))
   (refine h0o Tryz.results17 (.tmp rfl .nil) ?_)
   exact ⟨_, ⟨m1, m2, n, rfl, by omega, rfl⟩, fun _ H => H.tail⟩
  by_cases b2 : 32 < paths.length
  ·refine Fn2 Tryz.func17 Tryz.ntmps17 rfl rfl ?_
   repeat' (first | refine h0i ?_ | refine h0b ?_ | refine h0t ?_ | refine h1k ?_ | refine h0j ?_ | refine h0v ?_ | refine h0g rfl ?_ | refine h0f rfl ?_ | (refine gR 0 ?_ <;> (try refine h0c ?_; (refine h2n (t:=36) rfl rfl ?_; intro nb hnb; (try simp only [Value.cells]))) <;> (try refine p_a (h:=h0a ?_))) | (refine gR 1 (p_m (h:=p_e (q_b (r:=by exact h3x Tryz.underlying41)) (h:=p_a (h:=h0a ?_))))) | (refine gR 3 (p_e (q_f h6b) (h:=q_e q_l ?_)) <;> (try refine h0c ?_; (refine q_c 39 (c:=by apply hwo) (h:=?_); rintro _ _ ⟨rfl, rfl⟩; (try simp only [zzE, zzF]))) <;> (try refine p_e (by apply h5m; exact rfl; exact h1r) (h:=p_a (h:=h0a ?_)))) | (refine gR 5 (p_e (q_f fo_36_1) (h:=q_e q_l ?_)) <;> (try refine h0c ?_; (refine q_c 40 (c:=by apply hac) (h:=?_); rintro _ _ ⟨rfl, rfl⟩; (try simp only [zzE, zzF]))) <;> (try refine p_e (by apply h5m; exact rfl; exact h1r) (h:=p_a (h:=h0a ?_)))) | (refine gR 7 (p_e (q_f h2t) (h:=p_e q_l (h:=p_e (by apply h0e; exact rfl; exact (fun _ => BigFrame.builtin_len ..); apply h0d Tryz.underlying30; exact h3m) (h:=p_e (q_b (r:=by exact h1h q_o)) (h:=p_m (h:=p_y (q_f h3h) (h:=p_y q_l (h:=p_y (by apply h0e; exact rfl; exact (fun _ => BigFrame.builtin_len ..); apply h0d Tryz.underlying33; exact h3m) (h:=p_y (q_b (r:=by exact h1x q_o)) (h:=p_p (h:=p_m (h:=p_z (h:=p_z (h:=p_z (h:=p_z (h:=p_p (h:=p_a (h:=h0a ?_))))))))))))))))))) | (refine gR 8 (p_a (h:=h0a ?_))))
   (refine h0o Tryz.results17 (.tmp rfl .nil) ?_)
   exact ⟨_, ⟨m1, m2, n, rfl, by omega, rfl⟩, fun _ H => H.tail⟩
  ·have b3 : 32 < ports.length := by omega
   refine Fn2 Tryz.func17 Tryz.ntmps17 rfl rfl ?_
   repeat' (first | refine h0i ?_ | refine h0b ?_ | refine h0t ?_ | refine h1k ?_ | refine h0j ?_ | refine h0v ?_ | refine h0g rfl ?_ | refine h0f rfl ?_ | (refine gR 0 ?_ <;> (try refine h0c ?_; (refine h2n (t:=36) rfl rfl ?_; intro nb hnb; (try simp only [Value.cells]))) <;> (try refine p_a (h:=h0a ?_))) | (refine gR 1 (p_m (h:=p_e (q_b (r:=by exact h3x Tryz.underlying41)) (h:=p_a (h:=h0a ?_))))) | (refine gR 3 (p_e (q_f h6b) (h:=q_e q_l ?_)) <;> (try refine h0c ?_; (refine q_c 39 (c:=by apply hwo) (h:=?_); rintro _ _ ⟨rfl, rfl⟩; (try simp only [zzE, zzF]))) <;> (try refine p_e (by apply h5m; exact rfl; exact h1r) (h:=p_a (h:=h0a ?_)))) | (refine gR 5 (p_e (q_f fo_36_1) (h:=q_e q_l ?_)) <;> (try refine h0c ?_; (refine q_c 40 (c:=by apply hac) (h:=?_); rintro _ _ ⟨rfl, rfl⟩; (try simp only [zzE, zzF]))) <;> (try refine p_e (by apply h5m; exact rfl; exact h1r) (h:=p_a (h:=h0a ?_)))) | (refine gR 7 (p_e (q_f h2t) (h:=p_e q_l (h:=p_e (by apply h0e; exact rfl; exact (fun _ => BigFrame.builtin_len ..); apply h0d Tryz.underlying30; exact h3m) (h:=p_e (q_b (r:=by exact h1h q_o)) (h:=p_m (h:=p_y (q_f h3h) (h:=p_y q_l (h:=p_y (by apply h0e; exact rfl; exact (fun _ => BigFrame.builtin_len ..); apply h0d Tryz.underlying33; exact h3m) (h:=p_y (q_b (r:=by exact h1h q_o)) (h:=p_p (h:=p_m (h:=p_y (q_f h3p) (h:=p_y q_l (h:=p_y (by apply h0e; exact rfl; exact (fun _ => BigFrame.builtin_len ..); apply h0d Tryz.underlying34; exact h3m) (h:=p_y (q_b (r:=by exact h1x q_o)) (h:=p_p (h:=p_a (h:=h0a ?_))))))))))))))))))) | (refine gR 8 (p_a (h:=h0a ?_))))
   (refine h0o Tryz.results17 (.tmp rfl .nil) ?_)
   exact ⟨_, ⟨m1, m2, n, rfl, by omega, rfl⟩, fun _ H => H.tail⟩
 rw [if_neg hb]
 have b1 : ¬ 64 < rules.length := fun h => hb (Or.inl h)
 have b2 : ¬ 32 < paths.length := fun h => hb (Or.inr (Or.inl h))
 have b3 : ¬ 32 < ports.length := fun h => hb (Or.inr (Or.inr h))
 clear hb
 cases vf with
 | false =>
  rw [if_pos rfl]
  clear hpa hpo
  refine Fn2 Tryz.func17 Tryz.ntmps17 rfl rfl ?_
  repeat' (first | refine h0i ?_ | refine h0b ?_ | refine h0t ?_ | refine h1k ?_ | refine h0j ?_ | refine h0v ?_ | refine h0g rfl ?_ | refine h0f rfl ?_ | (refine gR 0 ?_ <;> (try refine h0c ?_; (refine h2n (t:=36) rfl rfl ?_; intro nb hnb; (try simp only [Value.cells]))) <;> (try refine p_a (h:=h0a ?_))) | (refine gR 1 (p_m (h:=p_e (q_b (r:=by exact h3x Tryz.underlying41)) (h:=p_a (h:=h0a ?_))))) | (refine gR 3 (p_e (q_f h6b) (h:=q_e q_l ?_)) <;> (try refine h0c ?_; (refine q_c 39 (c:=by apply hwo) (h:=?_); rintro _ _ ⟨rfl, rfl⟩; (try simp only [zzE, zzF]))) <;> (try refine p_e (by apply h5m; exact rfl; exact h1r) (h:=p_a (h:=h0a ?_)))) | (refine gR 5 (p_e (q_f fo_36_1) (h:=q_e q_l ?_)) <;> (try refine h0c ?_; (refine q_c 40 (c:=by apply hac) (h:=?_); rintro _ _ ⟨rfl, rfl⟩; (try simp only [zzE, zzF]))) <;> (try refine p_e (by apply h5m; exact rfl; exact h1r) (h:=p_a (h:=h0a ?_)))) | (refine gR 7 (p_e (q_f h2t) (h:=p_e q_l (h:=p_e (by apply h0e; exact rfl; exact (fun _ => BigFrame.builtin_len ..); apply h0d Tryz.underlying30; exact h3m) (h:=p_e (q_b (r:=by exact h1h q_o)) (h:=p_m (h:=p_y (q_f h3h) (h:=p_y q_l (h:=p_y (by apply h0e; exact rfl; exact (fun _ => BigFrame.builtin_len ..); apply h0d Tryz.underlying33; exact h3m) (h:=p_y (q_b (r:=by exact h1h q_o)) (h:=p_p (h:=p_m (h:=p_y (q_f h3p) (h:=p_y q_l (h:=p_y (by apply h0e; exact rfl; exact (fun _ => BigFrame.builtin_len ..); apply h0d Tryz.underlying34; exact h3m) (h:=p_y (q_b (r:=by exact h1h q_o)) (h:=p_p (h:=p_a (h:=h0a ?_))))))))))))))))))) | (refine gR 9 (p_e (q_f h5l) (h:=q_e q_l ?_)) <;> (try refine h0c ?_; (refine q_c 41 (c:=by apply hva) (h:=?_); rintro _ _ ⟨rfl, rfl⟩; (try simp only [zzE, zzF]))) <;> (try refine p_e (by apply h5m; exact rfl; exact h3o) (h:=p_a (h:=h0a ?_)))) | (refine gR 10 (p_a (h:=h0a ?_))))
  (refine h0o Tryz.results17 (.tmp rfl .nil) ?_)
  exact ⟨_, ⟨m1, m2, n, rfl, by omega, rfl⟩, fun _ H => H.tail⟩
 | true =>
 rw [if_neg (fun h => by cases h)]
 refine Fn2 Tryz.func17 Tryz.ntmps17 rfl rfl ?_
 repeat' (first | (refine h2h (id:=1) ?_) | refine h0i ?_ | refine h0b ?_ | refine h0x ?_ | refine h0j ?_ | refine h0r ?_ | refine h0f rfl ?_ | (refine gR 0 ?_ <;> (try refine h0c ?_; (refine h2n (t:=36) rfl rfl ?_; intro nb hnb; (try simp only [Value.cells]))) <;> (try refine p_a (h:=h0a ?_))) | (refine gR 1 (p_m (h:=p_e (q_b (r:=by exact h3x Tryz.underlying41)) (h:=p_a (h:=h0a ?_))))) | (refine gR 3 (p_e (q_f h6b) (h:=q_e q_l ?_)) <;> (try refine h0c ?_; (refine q_c 39 (c:=by apply hwo) (h:=?_); rintro _ _ ⟨rfl, rfl⟩; (try simp only [zzE, zzF]))) <;> (try refine p_e (by apply h5m; exact rfl; exact h1r) (h:=p_a (h:=h0a ?_)))) | (refine gR 5 (p_e (q_f fo_36_1) (h:=q_e q_l ?_)) <;> (try refine h0c ?_; (refine q_c 40 (c:=by apply hac) (h:=?_); rintro _ _ ⟨rfl, rfl⟩; (try simp only [zzE, zzF]))) <;> (try refine p_e (by apply h5m; exact rfl; exact h1r) (h:=p_a (h:=h0a ?_)))) | (refine gR 7 (p_e (q_f h2t) (h:=p_e q_l (h:=p_e (by apply h0e; exact rfl; exact (fun _ => BigFrame.builtin_len ..); apply h0d Tryz.underlying30; exact h3m) (h:=p_e (q_b (r:=by exact h1h q_o)) (h:=p_m (h:=p_y (q_f h3h) (h:=p_y q_l (h:=p_y (by apply h0e; exact rfl; exact (fun _ => BigFrame.builtin_len ..); apply h0d Tryz.underlying33; exact h3m) (h:=p_y (q_b (r:=by exact h1h q_o)) (h:=p_p (h:=p_m (h:=p_y (q_f h3p) (h:=p_y q_l (h:=p_y (by apply h0e; exact rfl; exact (fun _ => BigFrame.builtin_len ..); apply h0d Tryz.underlying34; exact h3m) (h:=p_y (q_b (r:=by exact h1h q_o)) (h:=p_p (h:=p_a (h:=h0a ?_))))))))))))))))))) | (refine gR 9 (p_e (q_f h5l) (h:=q_e q_l ?_)) <;> (try refine h0c ?_; (refine q_c 41 (c:=by apply hva) (h:=?_); rintro _ _ ⟨rfl, rfl⟩; (try simp only [zzE, zzF]))) <;> (try refine p_e (by apply h5m; exact rfl; exact h1r) (h:=p_a (h:=h0a ?_)))) | (refine gR 11 (p_e (q_f h2t) (h:=p_e q_l (h:=p_e (by apply h0e; exact rfl; exact (fun _ => BigFrame.builtin_len ..); apply h0d Tryz.underlying30; exact h3m) (h:=p_m (h:=h0a ?_)))))))
 refine ⟨?_⟩
 clear hwo hac hva
 obtain ⟨n2, rfl⟩ : ∃ x, x = nb := ⟨_, rfl⟩
 refine h2q (γ:=Nat × Nat) (fun _ => h5q (rules.map chkR) = 0) (fun _ => []) [(2, _)] (fun g => ⟨true, n2, .cells #[.string (mB8 nm), .int .u32 df, .slice ra rules.length rc, .int .u16 (hd : Nat), .slice pa paths.length pc, .slice qa ports.length qc] 36 (0, 0)⟩ :: (tbS ct g.1 g.2 (n + rules.length) ++ L)) (.cons rfl .nil) ?_ ?_
 ·refine h0j ?_
  clear hpa hpo
  refine h2i (γ:=Nat × Nat × Nat) (fun g => g.1 ≤ rules.length ∧ h5q (rules.map chkR) = h5q ((rules.map chkR).drop g.1)) (fun g => rules.length - g.1) (fun g => [(47, .int .i64 (g.1 : Nat))]) [(1, _), (2, _), (45, _), (46, _)]
   (fun g => ⟨true, n2, .cells #[.string (mB8 nm), .int .u32 df, .slice ra rules.length rc, .int .u16 (hd : Nat), .slice pa paths.length pc, .slice qa ports.length qc] 36 (0, 0)⟩ :: (tbS ct g.2.1 g.2.2 (n + g.1) ++ L)) (0, m1, m2) (.cons rfl (.cons rfl (.cons rfl (.cons rfl .nil)))) ⟨Nat.zero_le _, by rw [List.drop_zero]⟩ (by (focus (repeat (first | exact Sub.nil | refine Sub.cons rfl ?_)))) (fun _ H => H) ?_
  rintro ⟨k, k1, k2⟩ ⟨hk, heq⟩
  dsimp only at hk heq
  simp only [List.cons_append, List.nil_append]
  by_cases hlt : k < rules.length
  ·obtain ⟨j, q, bb, off, cs, T, fr, rfl, hj, hsz, hx⟩ := (hrs.upA (tbS ct k1 k2 (n + k))).elem hlt
   obtain ⟨v, hv, hcs⟩ := hrg.at_ k hlt
   rw [hv] at hx
   obtain ⟨ca, cc, hcv, -⟩ := id hcs
   subst hcv
   have hrc := fun (x y : Blk) => rulechk_c (S:=S) (w0:=w0) [x, y] L rules[k] (hru _ (List.getElem_mem hlt)) _ (hcs.upA [x, y]) ct k1 k2 (n + k) (by omega)
   rw [firstE_drop (by rw [List.length_map]; exact hlt), List.getElem_map] at heq
   generalize chkR rules[k] = ck at *
   generalize rules[k] = r at *
   obtain ⟨num, act, conds⟩ := r
   dsimp only [List.cons_append, List.nil_append] at *
   clear hv hcs
   by_cases hc : ck = 0
   ·rw [if_neg (fun h => h hc)] at heq
    subst hc
    repeat' (first | refine h0i ?_ | refine h0b ?_ | refine h0s ?_ | refine h0x ?_ | refine h0j ?_ | refine h0r ?_ | refine h0g rfl ?_ | refine h0f rfl ?_ | (refine gR 12 (p_e (q_b (r:=by exact h0u q_o)) (h:=h0a ?_))) | (refine gR 13 (p_e (by apply h0n; exact rfl; exact rfl; (focus (apply h2j Tryz.underlying30 sz_73; omega; omega; exact c_1))) (h:=q_e (by apply h1u (t:=73); exact rfl; exact c_19; kernel_rfl; kernel_rfl; exact sz_73; (with_reducible assumption); (with_reducible assumption)) ?_)) <;> (try refine h0c ?_; (refine h0k (t:=73) rfl Tryz.zeroValue73 ?_; intro nb hnb; (try simp only [Value.cells]))) <;> (try refine h0c ?_; (refine q_W ?_)) <;> (try refine h0a ?_)) | (refine gR 14 (p_e (q_L sz_73) (h:=q_m ?_)) <;> (try refine h0c ?_; (refine q_c 42 (c:=by apply hrc) (h:=?_); rintro _ _ ⟨j1, j2, rfl, rfl⟩; (try simp only [zzE, zzF]))) <;> (try refine p_a (h:=h0a ?_))) | (refine gR 15 (q_m ?_) <;> (try refine q_e (by exact q_b (r:=by refine h1w ?_; first | rfl | (with_reducible assumption) | (decide; done) | omega)) ?_) <;> (try refine h0a ?_)) | (refine gR 17 ?_ <;> (try refine q_e (q_b (r:=by apply h1n; exact c_5; (focus (refine IntWalk.i64_in _ ?_; omega)))) ?_) <;> (try refine p_m (h:=h0a ?_))))
    exact h0w (k + 1, j1, j2) ⟨⟨by show k + 1 ≤ rules.length; omega, heq⟩, by show rules.length - (k + 1) < rules.length - k; omega⟩ (by (focus (repeat (first | exact Sub.nil | refine Sub.cons rfl ?_)))) (fun _ H => H.tail)
   ·rw [if_pos hc] at heq
    have hc' : ¬ (ck : Int) = 0 := by omega
    repeat' (first | refine h0i ?_ | refine h0b ?_ | refine h3q ?_ | refine h0t ?_ | refine h1k ?_ | refine h0j ?_ | refine h0r ?_ | refine h0v ?_ | refine h0g rfl ?_ | (refine gR 12 (p_e (q_b (r:=by exact h0u q_o)) (h:=h0a ?_))) | (refine gR 13 (p_e (by apply h0n; exact rfl; exact rfl; (focus (apply h2j Tryz.underlying30 sz_73; omega; omega; exact c_1))) (h:=q_e (by apply h1u (t:=73); exact rfl; exact c_19; kernel_rfl; kernel_rfl; exact sz_73; (with_reducible assumption); (with_reducible assumption)) ?_)) <;> (try refine h0c ?_; (refine h0k (t:=73) rfl Tryz.zeroValue73 ?_; intro nb hnb; (try simp only [Value.cells]))) <;> (try refine h0c ?_; (refine q_W ?_)) <;> (try refine h0a ?_)) | (refine gR 14 (p_e (q_L sz_73) (h:=q_m ?_)) <;> (try refine h0c ?_; (refine q_c 42 (c:=by apply hrc) (h:=?_); rintro _ _ ⟨j1, j2, rfl, rfl⟩; (try simp only [zzE, zzF]))) <;> (try refine p_a (h:=h0a ?_))) | (refine gR 15 (p_m (h:=p_e (q_b (r:=by exact h2p q_o)) (h:=h0a ?_)))) | (refine gR 16 (p_m (h:=p_a (h:=h0a ?_)))))
    (refine h0o Tryz.results17 (.tmp rfl .nil) ?_)
    refine ⟨_, ⟨j1, j2, n + k + 1, ?_, by omega, rfl⟩, fun _ H => H.tail.tail⟩
    rw [heq, if_pos hc]; rfl
  ·have hke : h5q ((rules.map chkR).drop k) = 0 := firstE_nil (by rw [List.length_map]; omega)
   rw [hke] at heq
   obtain rfl : k = rules.length := by omega
   repeat' (first | refine h0i ?_ | refine h0b ?_ | refine h0s ?_ | refine h1p ?_ | refine h1f ?_ | refine h1o ?_ | refine h2c ?_ | refine h0f rfl ?_ | (refine gR 12 (p_e (q_b (r:=by exact h0y q_o)) (h:=h0a ?_))))
   exact h0w (k1, k2) heq (by (focus (repeat (first | exact Sub.nil | refine Sub.cons rfl ?_)))) (fun _ H => H)
 rintro ⟨k1, k2⟩ heq
 dsimp only
 simp only [List.cons_append, List.nil_append]
 rw [heq, if_neg (fun h => h rfl)]
 have hp1 := fun (x : Blk) => hpa _ ((hps.upA (tbS ct k1 k2 (n + rules.length))).up x)
 have hp2 := fun (x : Blk) => hpo _ ((hqs.upA (tbS ct k1 k2 (n + rules.length))).up x)
 clear hpa hpo
 generalize h5g hd ports [] = cq at *
 generalize h4s hd paths [] = cp at *
 by_cases hc : cp = 0
 ·rw [if_neg (fun h => h hc)]
  subst hc
  repeat' (first | refine h0i ?_ | refine h0b ?_ | refine h0r ?_ | refine h0v ?_ | refine h0f rfl ?_ | (refine gR 18 (q_e (q_L sz_36) ?_) <;> (try refine h0c ?_; (refine q_c 43 (c:=by apply hp1) (h:=?_); rintro _ _ ⟨rfl, rfl⟩; (try simp only [zzE, zzF]))) <;> (try refine p_a (h:=h0a ?_))) | (refine gR 19 (q_m ?_) <;> (try refine q_e (by exact q_b (r:=by refine h1w ?_; first | rfl | (with_reducible assumption) | (decide; done) | omega)) ?_) <;> (try refine h0a ?_)) | (refine gR 21 (q_e (q_L sz_36) ?_) <;> (try refine h0c ?_; (refine q_c 44 (c:=by apply hp2) (h:=?_); rintro _ _ ⟨rfl, rfl⟩; (try simp only [zzE, zzF]))) <;> (try refine p_a (h:=h0a ?_))))
  (refine h0o Tryz.results17 (.tmp rfl .nil) ?_)
  exact ⟨_, ⟨k1, k2, _, rfl, Nat.le_refl _, rfl⟩, fun _ H => H.tail⟩
 ·rw [if_pos hc]
  have hc' : ¬ (cp : Int) = 0 := by omega
  repeat' (first | refine h0i ?_ | refine h0b ?_ | refine h0t ?_ | refine h0v ?_ | refine h0g rfl ?_ | (refine gR 18 (q_e (q_L sz_36) ?_) <;> (try refine h0c ?_; (refine q_c 43 (c:=by apply hp1) (h:=?_); rintro _ _ ⟨rfl, rfl⟩; (try simp only [zzE, zzF]))) <;> (try refine p_a (h:=h0a ?_))) | (refine gR 19 (p_m (h:=p_e (q_b (r:=by exact h2p q_o)) (h:=h0a ?_)))) | (refine gR 20 (p_m (h:=p_a (h:=h0a ?_)))))
  (refine h0o Tryz.results17 (.tmp rfl .nil) ?_)
  exact ⟨_, ⟨k1, k2, _, rfl, Nat.le_refl _, rfl⟩, fun _ H => H.tail⟩
def actT (a : Int) : List UInt8 := spcL (actL a)
def cndT (c : Cnd) : List UInt8 := spcL (cndL c)
def sepT (i : Nat) : List UInt8 := if i = 0 then [32, 105, 102, 32] else [32, 97, 110, 100, 32]
def cnT : Nat → List Cnd → List UInt8
 | _, [] => []
 | i, c :: r => sepT i ++ (cndT c ++ cnT (i + 1) r)
def spS (ws : List W3) : List UInt8 := ws.flatMap fun v => 32 :: v.2.1
theorem spcL_cons (w : W3) (r : List W3) : spcL (w :: r) = w.2.1 ++ spS r := rfl
theorem spS_app (a b : List W3) : spS (a ++ b) = spS a ++ spS b := by simp [spS]
theorem spS_ne {ws : List W3} (h : ws ≠ []) : spS ws = 32 :: spcL ws := by
 cases ws with
 | nil => exact absurd rfl h
 | cons w r => rfl
theorem actL_ne (a : Int) : actL a ≠ [] := by
 unfold actL
 split
 ·simp
 ·split
  ·simp
  ·split <;> simp
theorem spS_cnds (cs : List Cnd) : ∀ i, spS (cndsL (if i = 0 then tIf else tAnd) cs) = cnT i cs := by
 induction cs with
 | nil => intro i; rfl
 | cons c r ih =>
  intro i
  have h1 := ih (i + 1)
  rw [if_neg (by omega)] at h1
  rw [cndsL, cnT, ← h1]
  show 32 :: _ ++ spS (cndL c ++ cndsL tAnd r) = _
  rw [spS_app, spS_ne (ws:=cndL c) (by simp [cndL])]
  unfold cndT sepT
  by_cases h : i = 0
  ·rw [if_pos h, if_pos h]; rfl
  ·rw [if_neg h, if_neg h]; rfl
theorem rulT_eq (r : RulP) : spcL (rulL r) = [99, 97, 108, 108, 32] ++ (h5j r.num ++ ([32] ++ (actT r.act ++ cnT 0 r.conds))) := by
 have h := spS_cnds r.conds 0
 rw [if_pos rfl] at h
 unfold rulL
 rw [spcL_cons]
 show tCall ++ (32 :: h5j r.num ++ spS (actL r.act ++ cndsL tIf r.conds)) = _
 rw [spS_app, h, spS_ne (actL_ne _)]
 unfold actT
 simp [tCall]
theorem cnT_app (a b : List Cnd) : ∀ i, cnT i (a ++ b) = cnT i a ++ cnT (i + a.length) b := by
 induction a with
 | nil => intro i; rfl
 | cons d r ih =>
  intro i
  rw [List.cons_append, cnT, cnT, ih (i + 1), List.length_cons, show i + 1 + r.length = i + (r.length + 1) by omega]
  simp
theorem cnT_take (cs : List Cnd) (j : Nat) (h : j < cs.length) : cnT 0 (cs.take (j + 1)) = cnT 0 (cs.take j) ++ (sepT j ++ cndT cs[j]) := by
 rw [List.take_succ_eq_append_getElem h, cnT_app, List.length_take, Nat.min_eq_left (by omega), Nat.zero_add]
 simp [cnT]
theorem cnT_le (cs : List Cnd) (j : Nat) : (cnT 0 (cs.take j)).length ≤ (cnT 0 cs).length := by
 have h := cnT_app (cs.take j) (cs.drop j) 0
 rw [List.take_append_drop] at h
 rw [h, List.length_append]
 omega
theorem headT_eq (nm : List UInt8) (a : Int) : lnsT [[wN tPolicy, wN nm], wN tDefault :: actL a] = [112, 111, 108, 105, 99, 121, 32] ++ (nm ++ ([10, 100, 101, 102, 97, 117, 108, 116, 32] ++ (actT a ++ [10]))) := by
 show spcL [wN tPolicy, wN nm] ++ [10] ++ (spcL (wN tDefault :: actL a) ++ [10] ++ []) = _
 rw [spcL_cons, spcL_cons, spS_ne (actL_ne a)]
 unfold actT
 simp [spS, tPolicy, tDefault]
theorem hanT_eq (n : Nat) : lnsT [[wN tHandle, wN (rgT n)]] = [104, 97, 110, 100, 108, 101, 32] ++ (rgT n ++ [10]) := by
 show spcL [wN tHandle, wN (rgT n)] ++ [10] ++ [] = _
 rw [spcL_cons]
 simp [spS, tHandle]
theorem benT_eq (p : List UInt8 × Nat) : spcL (benL p) ++ [10] = [98, 101, 110, 101, 97, 116, 104, 32] ++ (p.1 ++ ([32] ++ (rgT p.2 ++ [10]))) := by
 unfold benL
 rw [spcL_cons]
 simp [spS, tBeneath]
theorem porT_eq (p : Nat × Nat) : spcL (porL p) ++ [10] = [112, 111, 114, 116, 32] ++ (decF p.1 ++ ([32] ++ (rgT p.2 ++ [10]))) := by
 unfold porL
 rw [spcL_cons]
 simp [spS, tPort]
theorem lnsT_snoc (D : List (List W3)) (ws : List W3) : lnsT (D ++ [ws]) = lnsT D ++ (spcL ws ++ [10]) := by rw [lnsT_app]; simp [lnsT]
theorem cndT_eq (c : Cnd) : cndT c = [97, 114, 103] ++ (decF c.arg ++ ([32] ++ (sgnT c.op ++ ([32] ++ ((if c.op = 7 then decF c.mask ++ [32, 61, 61, 32] else []) ++ decF c.val))))) := by
 unfold cndT cndL
 rw [spcL_cons]
 by_cases h : c.op = 7
 ·rw [if_pos h, if_pos h]
  simp [spS, argTx]
 ·rw [if_neg h, if_neg h]
  simp [spS, argTx]
theorem cndC_at (cs : List Cnd) (k : Nat) (h : k < cs.length) : ((cndC cs).drop (k * 4)).take 4 = (cs[k]).cells := by
 have h2 := gcC_at (cs.map Cnd.g) k (by rw [List.length_map]; exact h)
 rw [gcC_map] at h2
 rw [h2, List.getElem_map]
 rfl
theorem cndT_ne (c : Cnd) : 0 < (cndT c).length := by rw [cndT_eq]; simp
theorem and65535_nat (a : Int) : ((iand a 65535).toNat : Int) = iand a 65535 := by have := and_lt a; omega
theorem acttext_c {S w0 L} (a : Int) (h : 0 ≤ a ∧ a < 4294967296) : Fn Tryz.prog 30 #[.int .u32 a] S w0 L fun v L' => v = .string (mB8 (actT a)) ∧ L = L' := by
 have hk := fun (L : List Blk) => akind_c (S:=S) (w0:=w0) (L:=L) a h
 by_cases c1 : kndA a = 327680
 ·have e : actT a = [101, 114, 114, 110, 111, 32] ++ decF (iand a 65535).toNat := by
   unfold actT actL
   rw [if_pos c1]
   simp [spcL, tErrno]
  have hpr := fun (L : List Blk) => printed_c (iand a 65535).toNat (by have := and_lt a; omega) S w0 L
  rw [and65535_nat] at hpr
  have hal := and_lt a
  have hsz : (mB8 (decF (iand a 65535).toNat)).size ≤ 20 := by rw [h2d]; exact d20 (by omega)
  have hcat : (⟨#[101, 114, 114, 110, 111, 32]⟩ : ByteArray) ++ mB8 (decF (iand a 65535).toNat) = mB8 (actT a) := by rw [e]; exact h6m [101, 114, 114, 110, 111, 32] _
  rw [← hcat]
  have h1 : (⟨#[101, 114, 114, 110, 111, 32]⟩ : ByteArray).size = 6 := rfl
  rw [c1] at hk
  clear e hcat
  generalize mB8 (decF (iand a 65535).toNat) = d at *
  refine Fn1 Tryz.func30 Tryz.ntmps30 rfl rfl ?_
  repeat' (first | refine h0i ?_ | refine h0b ?_ | refine h0t ?_ | refine h1k ?_ | refine h0j ?_ | refine h0v ?_ | refine h0g rfl ?_ | (refine gR 0 (p_a (h:=h0a ?_))) | (refine gR 1 (q_m ?_) <;> (try refine h0c ?_; (refine q_c 59 (c:=by apply hk) (h:=?_); rintro _ _ ⟨rfl, rfl⟩; (try simp only [zzE, zzF]))) <;> (try refine h0a ?_)) | (refine gR 2 ?_ <;> (try refine q_e (by exact q_b (r:=by refine h1e ?_; first | rfl | (with_reducible assumption) | (decide; done) | omega)) ?_) <;> (try refine p_a (h:=h0a ?_))) | (refine gR 3 (q_m ?_) <;> (try refine q_e (q_b (r:=by refine h5w ?_ ?_; (focus (refine ⟨rfl, ⟨?_, ?_⟩⟩; omega; (focus (simp only [IntKind.bits]; omega)))); (focus (refine ⟨rfl, ⟨?_, ?_⟩⟩; omega; (focus (simp only [IntKind.bits]; omega)))))) ?_) <;> (try refine q_e (by apply h3t; exact rfl; (focus (apply h3u Tryz.underlying29 Tryz.underlying97; first | (refine IntWalk.i64_in _ ?_; omega) | (refine IntWalk.u8_in _ ?_; omega) | (refine IntWalk.u16_in _ ?_; omega) | (refine IntWalk.u32_in _ ?_; omega) | (refine IntWalk.u64_in _ ?_; omega) | (refine IntWalk.i32_in _ ?_; omega) | exact rfl))) ?_) <;> (try refine h0c ?_; (refine q_c 32 (c:=by apply hpr) (h:=?_); rintro _ _ ⟨rfl, rfl⟩; (try simp only [zzE, zzF]))) <;> (try refine p_e (q_b (r:=by apply h1t; exact rfl; (focus (omega)))) (h:=p_a (h:=h0a ?_)))))
  (refine h0o Tryz.results30 (.tmp rfl .nil) ?_)
  exact ⟨_, ⟨rfl, rfl⟩, by intro w H; refine H.sub ?_; (try simp only [zzC, zzN]); repeat (exact List.Sublist.refl _)⟩
 by_cases c2 : kndA a = 2147221504
 ·have e : mB8 (actT a) = ⟨#[108, 111, 103]⟩ := by
   unfold actT actL
   rw [if_neg c1, if_pos c2]
   rfl
  rw [e]
  rw [c2] at hk
  clear e c1
  refine Fn1 Tryz.func30 Tryz.ntmps30 rfl rfl ?_
  repeat' (first | refine h0i ?_ | refine h0b ?_ | refine h0t ?_ | refine h1k ?_ | refine h0j ?_ | refine h0v ?_ | refine h0g rfl ?_ | refine h0f rfl ?_ | (refine gR 0 (p_a (h:=h0a ?_))) | (refine gR 1 (q_m ?_) <;> (try refine h0c ?_; (refine q_c 59 (c:=by apply hk) (h:=?_); rintro _ _ ⟨rfl, rfl⟩; (try simp only [zzE, zzF]))) <;> (try refine h0a ?_)) | (refine gR 2 (p_e (q_b (r:=by exact h1c q_o)) (h:=p_a (h:=h0a ?_)))) | (refine gR 4 ?_ <;> (try refine q_e (by exact q_b (r:=by refine h1e ?_; first | rfl | (with_reducible assumption) | (decide; done) | omega)) ?_) <;> (try refine p_a (h:=h0a ?_))) | (refine gR 5 (p_a (h:=h0a ?_))))
  (refine h0o Tryz.results30 (.tmp rfl .nil) ?_)
  exact ⟨_, ⟨rfl, rfl⟩, by intro w H; refine H.sub ?_; (try simp only [zzC, zzN]); repeat (exact List.Sublist.refl _)⟩
 by_cases c3 : kndA a = 2147418112
 ·have e : mB8 (actT a) = ⟨#[97, 108, 108, 111, 119]⟩ := by
   unfold actT actL
   rw [if_neg c1, if_neg c2, if_pos c3]
   rfl
  rw [e]
  rw [c3] at hk
  clear e c1 c2
  refine Fn1 Tryz.func30 Tryz.ntmps30 rfl rfl ?_
  repeat' (first | refine h0i ?_ | refine h0b ?_ | refine h0t ?_ | refine h1k ?_ | refine h0j ?_ | refine h0v ?_ | refine h0g rfl ?_ | refine h0f rfl ?_ | (refine gR 0 (p_a (h:=h0a ?_))) | (refine gR 1 (q_m ?_) <;> (try refine h0c ?_; (refine q_c 59 (c:=by apply hk) (h:=?_); rintro _ _ ⟨rfl, rfl⟩; (try simp only [zzE, zzF]))) <;> (try refine h0a ?_)) | (refine gR 2 (p_e (q_b (r:=by exact h1c q_o)) (h:=p_a (h:=h0a ?_)))) | (refine gR 4 (p_e (q_b (r:=by exact h1c q_o)) (h:=p_a (h:=h0a ?_)))) | (refine gR 6 ?_ <;> (try refine q_e (by exact q_b (r:=by refine h1e ?_; first | rfl | (with_reducible assumption) | (decide; done) | omega)) ?_) <;> (try refine p_a (h:=h0a ?_))) | (refine gR 7 (p_a (h:=h0a ?_))))
  (refine h0o Tryz.results30 (.tmp rfl .nil) ?_)
  exact ⟨_, ⟨rfl, rfl⟩, by intro w H; refine H.sub ?_; (try simp only [zzC, zzN]); repeat (exact List.Sublist.refl _)⟩
 ·have e : mB8 (actT a) = ⟨#[107, 105, 108, 108]⟩ := by
   unfold actT actL
   rw [if_neg c1, if_neg c2, if_neg c3]
   rfl
  rw [e]
  clear e
  generalize kndA a = k at *
  refine Fn1 Tryz.func30 Tryz.ntmps30 rfl rfl ?_
  repeat' (first | refine h0i ?_ | refine h0b ?_ | refine h0x ?_ | refine h0j ?_ | refine h0r ?_ | refine h0v ?_ | refine h0f rfl ?_ | (refine gR 0 (p_a (h:=h0a ?_))) | (refine gR 1 (q_m ?_) <;> (try refine h0c ?_; (refine q_c 59 (c:=by apply hk) (h:=?_); rintro _ _ ⟨rfl, rfl⟩; (try simp only [zzE, zzF]))) <;> (try refine h0a ?_)) | (refine gR 2 (p_e (q_b (r:=by exact h1c q_o)) (h:=p_a (h:=h0a ?_)))) | (refine gR 4 (p_e (q_b (r:=by exact h1c q_o)) (h:=p_a (h:=h0a ?_)))) | (refine gR 6 (p_e (q_b (r:=by exact h1c q_o)) (h:=p_a (h:=h0a ?_)))) | (refine gR 8 (p_a (h:=h0a ?_))))
  (refine h0o Tryz.results30 (.tmp rfl .nil) ?_)
  exact ⟨_, ⟨rfl, rfl⟩, by intro w H; refine H.sub ?_; (try simp only [zzC, zzN]); repeat (exact List.Sublist.refl _)⟩
set_option maxHeartbeats 1000000 in
theorem condtext_c {S w0 L} (c : Cnd) (h : CndOk c) (hm : c.mask ≤ 18446744073709551615) (hv : c.val ≤ 18446744073709551615) : Fn Tryz.prog 33 #[.agg c.cells.toArray] S w0 L fun v L' => v = .string (mB8 (cndT c)) ∧ L = L' := by
 have hsg := fun (L : List Blk) => psign_c (S:=S) (w0:=w0) (L:=L) c.op h.op1 h.op2
 have hpa := fun (L : List Blk) => printed_c c.arg (by have := h.arg; omega) S w0 L
 have hpm := fun (L : List Blk) => printed_c c.mask (by omega) S w0 L
 have hpv := fun (L : List Blk) => printed_c c.val (by omega) S w0 L
 have hmx : max (c.arg : Int) 0 = (c.arg : Int) := by omega
 have hrg := h.arg
 rw [← hmx] at hpa
 have e := cndT_eq c
 have z1 : (mB8 (decF c.arg)).size ≤ 20 := by rw [h2d]; exact d20 (by omega)
 have z2 : (mB8 (decF c.mask)).size ≤ 20 := by rw [h2d]; exact d20 hm
 have z3 : (mB8 (decF c.val)).size ≤ 20 := by rw [h2d]; exact d20 hv
 have z4 : (mB8 (sgns.getD (c.op - 1) [])).size ≤ 2 := by rw [h2d]; exact (sg_ok h.op1 h.op2).2
 have b1 : (⟨#[97, 114, 103]⟩ : ByteArray).size = 3 := rfl
 have b2 : (⟨#[32]⟩ : ByteArray).size = 1 := rfl
 have b3 : (⟨#[32, 61, 61, 32]⟩ : ByteArray).size = 4 := rfl
 obtain ⟨ca, co, cm, cv⟩ := c
 dsimp only at *
 rw [e]
 unfold sgnT
 clear e h hmx
 dsimp only [Cnd.cells] at *
 by_cases h7 : co = 7
 ·rw [if_pos h7]
  have hcat : mB8 ([97, 114, 103] ++ (decF ca ++ ([32] ++ (sgns.getD (co - 1) [] ++ ([32] ++ ((decF cm ++ [32, 61, 61, 32]) ++ decF cv)))))) = (((((⟨#[97, 114, 103]⟩ : ByteArray) ++ mB8 (decF ca)) ++ (⟨#[32]⟩ : ByteArray)) ++ mB8 (sgns.getD (co - 1) [])) ++ (⟨#[32]⟩ : ByteArray)) ++ (mB8 (decF cm) ++ (⟨#[32, 61, 61, 32]⟩ : ByteArray)) ++ mB8 (decF cv) := by
   rw [show (⟨#[97, 114, 103]⟩ : ByteArray) = mB8 [97, 114, 103] from rfl, show (⟨#[32]⟩ : ByteArray) = mB8 [32] from rfl, show (⟨#[32, 61, 61, 32]⟩ : ByteArray) = mB8 [32, 61, 61, 32] from rfl]
   simp only [h6m, List.append_assoc]
  rw [hcat]
  clear hcat
  generalize mB8 (sgns.getD (co - 1) []) = sg at *
  generalize mB8 (decF ca) = da at *
  generalize mB8 (decF cm) = dm at *
  generalize mB8 (decF cv) = dv at *
  refine Fn1 Tryz.func33 Tryz.ntmps33 rfl rfl ?_
  repeat' (first | refine h0i ?_ | refine h0b ?_ | refine h0v ?_ | refine h0g rfl ?_ | (refine gR 0 ?_ <;> (try refine h0c ?_; (refine h2n (t:=99) rfl rfl ?_; intro nb hnb; (try simp only [Value.cells]))) <;> (try refine p_a (h:=h0a ?_))) | ((refine h1z (id:=1) (m:=13) (by kernel_rfl) rfl (q_u 0 (x:=by exact q_f h4m) (h:=q_u 1 (x:=by exact q_l) (h:=q_u 2 (x:=by exact h0e rfl (fun _ => BigFrame.builtin_max ..) r_max) (h:=?_))))) <;> (try refine q_u 3 (x:=by apply h3t; exact rfl; (focus (apply h3u Tryz.underlying3 Tryz.underlying97; first | (refine IntWalk.i64_in _ ?_; omega) | (refine IntWalk.u8_in _ ?_; omega) | (refine IntWalk.u16_in _ ?_; omega) | (refine IntWalk.u32_in _ ?_; omega) | (refine IntWalk.u64_in _ ?_; omega) | (refine IntWalk.i32_in _ ?_; omega) | exact rfl))) (h:=?_)) <;> (try refine q_u 7 (x:=by exact q_f h3d) (h:=q_u 8 (x:=by exact q_l) (h:=?_))) <;> (try refine q_r 4 ?_; (refine q_c 32 (c:=by apply hpa) (h:=?_); rintro _ _ ⟨rfl, rfl⟩; (try simp only [zzE, zzF])); refine h1b (fun _ H => H) ?_) <;> (try refine q_u 5 (x:=by exact q_b (r:=by apply h1t; exact rfl; (focus (omega)))) (h:=q_u 6 (x:=by exact q_b (r:=by apply h1t; exact rfl; (focus (simp only [ByteArray.size_append]; omega)))) (h:=?_))) <;> (try refine q_r 9 ?_; (refine q_c 61 (c:=by apply hsg) (h:=?_); rintro _ _ ⟨rfl, rfl⟩; (try simp only [zzE, zzF])); refine h1b (fun _ H => H) ?_) <;> (try refine q_u 10 (x:=by exact q_b (r:=by apply h1t; exact rfl; (focus (simp only [ByteArray.size_append]; omega)))) (h:=q_u 11 (x:=by exact q_b (r:=by apply h1t; exact rfl; (focus (simp only [ByteArray.size_append]; omega)))) (h:=q_u 12 (x:=by exact h3f rfl) (h:=h1a (by kernel_rfl) ?_))))) | (refine gR 2 (p_e (q_f h3d) (h:=q_e q_l ?_)) <;> (try refine q_e (by exact q_b (r:=by refine h1e ?_; first | rfl | (with_reducible assumption) | (decide; done) | omega)) ?_) <;> (try refine h0a ?_)) | (refine gR 3 (p_m (h:=p_e (q_f h5b) (h:=q_e q_l ?_))) <;> (try refine h0c ?_; (refine q_c 32 (c:=by apply hpm) (h:=?_); rintro _ _ ⟨rfl, rfl⟩; (try simp only [zzE, zzF]))) <;> (try refine p_e (q_b (r:=by apply h1t; exact rfl; (focus (omega)))) (h:=p_e (q_b (r:=by apply h1t; exact rfl; (focus (simp only [ByteArray.size_append]; omega)))) (h:=p_a (h:=h0a ?_))))) | (refine gR 4 (p_m (h:=p_e (q_f fo_99_3) (h:=q_e q_l ?_))) <;> (try refine h0c ?_; (refine q_c 32 (c:=by apply hpv) (h:=?_); rintro _ _ ⟨rfl, rfl⟩; (try simp only [zzE, zzF]))) <;> (try refine p_e (q_b (r:=by apply h1t; exact rfl; (focus (simp only [ByteArray.size_append]; omega)))) (h:=p_a (h:=h0a ?_)))))
  (refine h0o Tryz.results33 (.tmp rfl .nil) ?_)
  exact ⟨_, ⟨rfl, rfl⟩, by intro w H; refine H.sub ?_; (try simp only [zzC, zzN]); repeat (first | exact List.Sublist.refl _ | refine List.Sublist.cons _ ?_)⟩
 ·rw [if_neg h7]
  have hcat : mB8 ([97, 114, 103] ++ (decF ca ++ ([32] ++ (sgns.getD (co - 1) [] ++ ([32] ++ ([] ++ decF cv)))))) = (((((⟨#[97, 114, 103]⟩ : ByteArray) ++ mB8 (decF ca)) ++ (⟨#[32]⟩ : ByteArray)) ++ mB8 (sgns.getD (co - 1) [])) ++ (⟨#[32]⟩ : ByteArray)) ++ mB8 (decF cv) := by
   rw [show (⟨#[97, 114, 103]⟩ : ByteArray) = mB8 [97, 114, 103] from rfl, show (⟨#[32]⟩ : ByteArray) = mB8 [32] from rfl]
   simp only [h6m, List.append_assoc, List.nil_append]
  rw [hcat]
  clear hcat hpm
  generalize mB8 (sgns.getD (co - 1) []) = sg at *
  generalize mB8 (decF ca) = da at *
  generalize mB8 (decF cv) = dv at *
  refine Fn1 Tryz.func33 Tryz.ntmps33 rfl rfl ?_
  repeat' (first | refine h0i ?_ | refine h0b ?_ | refine h0r ?_ | refine h0v ?_ | refine h0f rfl ?_ | (refine gR 0 ?_ <;> (try refine h0c ?_; (refine h2n (t:=99) rfl rfl ?_; intro nb hnb; (try simp only [Value.cells]))) <;> (try refine p_a (h:=h0a ?_))) | ((refine h1z (id:=1) (m:=13) (by kernel_rfl) rfl (q_u 0 (x:=by exact q_f h4m) (h:=q_u 1 (x:=by exact q_l) (h:=q_u 2 (x:=by exact h0e rfl (fun _ => BigFrame.builtin_max ..) r_max) (h:=?_))))) <;> (try refine q_u 3 (x:=by apply h3t; exact rfl; (focus (apply h3u Tryz.underlying3 Tryz.underlying97; first | (refine IntWalk.i64_in _ ?_; omega) | (refine IntWalk.u8_in _ ?_; omega) | (refine IntWalk.u16_in _ ?_; omega) | (refine IntWalk.u32_in _ ?_; omega) | (refine IntWalk.u64_in _ ?_; omega) | (refine IntWalk.i32_in _ ?_; omega) | exact rfl))) (h:=?_)) <;> (try refine q_u 7 (x:=by exact q_f h3d) (h:=q_u 8 (x:=by exact q_l) (h:=?_))) <;> (try refine q_r 4 ?_; (refine q_c 32 (c:=by apply hpa) (h:=?_); rintro _ _ ⟨rfl, rfl⟩; (try simp only [zzE, zzF])); refine h1b (fun _ H => H) ?_) <;> (try refine q_u 5 (x:=by exact q_b (r:=by apply h1t; exact rfl; (focus (omega)))) (h:=q_u 6 (x:=by exact q_b (r:=by apply h1t; exact rfl; (focus (simp only [ByteArray.size_append]; omega)))) (h:=?_))) <;> (try refine q_r 9 ?_; (refine q_c 61 (c:=by apply hsg) (h:=?_); rintro _ _ ⟨rfl, rfl⟩; (try simp only [zzE, zzF])); refine h1b (fun _ H => H) ?_) <;> (try refine q_u 10 (x:=by exact q_b (r:=by apply h1t; exact rfl; (focus (simp only [ByteArray.size_append]; omega)))) (h:=q_u 11 (x:=by exact q_b (r:=by apply h1t; exact rfl; (focus (simp only [ByteArray.size_append]; omega)))) (h:=q_u 12 (x:=by exact h3f rfl) (h:=h1a (by kernel_rfl) ?_))))) | (refine gR 2 (p_e (q_f h3d) (h:=p_e q_l (h:=p_e (q_b (r:=by exact h1c q_o)) (h:=h0a ?_))))) | (refine gR 4 (p_m (h:=p_e (q_f fo_99_3) (h:=q_e q_l ?_))) <;> (try refine h0c ?_; (refine q_c 32 (c:=by apply hpv) (h:=?_); rintro _ _ ⟨rfl, rfl⟩; (try simp only [zzE, zzF]))) <;> (try refine p_e (q_b (r:=by apply h1t; exact rfl; (focus (simp only [ByteArray.size_append]; omega)))) (h:=p_a (h:=h0a ?_)))))
  (refine h0o Tryz.results33 (.tmp rfl .nil) ?_)
  exact ⟨_, ⟨rfl, rfl⟩, by intro w H; refine H.sub ?_; (try simp only [zzC, zzN]); repeat (first | exact List.Sublist.refl _ | refine List.Sublist.cons _ ?_)⟩
section
variable {P : Program} {n : Nat} {l : List (Nat × Value)} {S : List Nat} {w0 : World} {L : List Blk} {K : Act → World → Prop} {k : Kont} {ops : Array Oper} {d : Tmp} {ty : TypeId} {pos : String} {af : Array Edge}
theorem shape_at {w : World} (H : HP S w0 w L) (i : Nat) {q : Bool} {b : Nat} {cs : Array Value} {t : TypeId} {fr : Nat × Nat} (hi : L[i]? = some ⟨q, b, .cells cs t fr⟩) : w.shape? b = some (t, cs.size) := by
 have := H.at_ i hi
 simp only [World.shape?, this]
theorem E_toUnsafe {src dst t e : TypeId} {m : Nat} {x : Operand} {b i : Nat} {q : Bool} {cs : Array Value} {fr : Nat × Nat} (hx : ev l x = some (.pointer (some ⟨b, 0, none⟩))) (hs : P.underlying src = some (.pointer t)) (hd : P.underlying dst = some .unsafePointer) (ht : (P.info? t).map (·.size) = some m) (hj : Nat.blt 0 m = true)
  (hi : L[i]? = some ⟨q, b, .cells cs e fr⟩) (hc : 0 < cs.size) : ValOf P n l S w0 L ⟨some d, .convert src dst x, ty, pos, af, none⟩ (.pointer (some ⟨b, 0, none⟩)) :=
 ⟨fun a w hf H => by
  obtain ⟨inf, hi2, hi3⟩ := Option.map_eq_some_iff.1 ht
  have hj' : inf.size ≠ 0 := by have := Nat.le_of_ble_eq_true hj; omega
  simp only [execOp, hf.eval hx, Sem.run_bind, Lib.run_to_unsafe (P:=P) (w:=w) ⟨b, 0, none⟩ hs hd hi2 hj' (shape_at H i hi) hc, Result.andThen_ok, Sem.run_pure]⟩
theorem E_fromUnsafe {src dst u e : TypeId} {m : Nat} {x : Operand} {b i : Nat} {q : Bool} {cs : Array Value} {fr : Nat × Nat} (hx : ev l x = some (.pointer (some ⟨b, 0, none⟩))) (hs : P.underlying src = some .unsafePointer) (hd : P.underlying dst = some (.pointer u)) (hu : (P.info? u).map (·.size) = some m)
  (hi : L[i]? = some ⟨q, b, .cells cs e fr⟩) (hlies : liesAt P P.depth e (cs.size / P.cellsOf e) 0 u 1 = true) : ValOf P n l S w0 L ⟨some d, .convert src dst x, ty, pos, af, none⟩ (.pointer (some ⟨b, 0, none⟩)) :=
 ⟨fun a w hf H => by
  obtain ⟨inf, hi2, hi3⟩ := Option.map_eq_some_iff.1 hu
  simp only [execOp, hf.eval hx, Sem.run_bind, Lib.run_from_unsafe (P:=P) (w:=w) ⟨b, 0, none⟩ hs hd hi2 (shape_at H i hi) hlies, Result.andThen_ok, Sem.run_pure]⟩
theorem rb_pne_same {t te : TypeId} {m : Nat} {a : Addr} (hp : P.underlying t = some (.pointer te)) (hte : (P.info? te).map (·.size) = some m) : RBin P .neq t (.pointer (some a)) (.pointer (some a)) (.bool false) := .mk fun w => by
 obtain ⟨inf, hi, -⟩ := Option.map_eq_some_iff.1 hte
 exact Lib.run_neq_ptr_same w a hp hi
theorem K1_noEsc {F : FuncId} {fn : Func} {x : Operand} {v : Value} {ats : Array TypeId} (hf : P.funcs[F]? = some fn) (hname : (fn.name == "runtime.NumGoroutine") = false) (hb : fn.body.isNone = true) (hn : Extern.findNext fn = none) (he : Extern.find fn = some Extern.AbiNoEscape.same) (hd : Nat.blt d n = true) (hx : ev l x = some v)
  (h : G n ((d, v) :: l) S w0 L K) : G n l S w0 L (K1 P ops k ⟨some d, .call { callee := .value (.func F), args := #[x], argTypes := ats }, ty, pos, af, none⟩ K) := .mk fun a w hF H => h5a rfl <| by
 unfold Oper.wp
 rw [execOp_call_go, List.map_toArray, hF.evals (xs:=[x]) (vs:=[v]) (by simp [evs, hx]), run_callFunc_extern hf hname hb hn he]
 exact h.out _ _ (hF.put (some d) v hd) H
theorem E_sliceData {x : Operand} {a : Addr} {m c : Nat} {ats : Array TypeId} (hx : ev l x = some (.slice (some a) m c)) (hc : c ≠ 0) : ValOf P n l S w0 L ⟨some d, .call { callee := .builtin .unsafeSliceData, args := #[x], argTypes := ats }, ty, pos, af, none⟩ (.pointer (some a)) :=
 h0e (xs:=[x]) (vs:=[.slice (some a) m c]) (by simp [evs, hx]) (fun cs => BigFrame.builtin_unsafeSliceData ..) ⟨fun w => Lib.run_unsafeSliceData_row _ _ _ _ _ _ hc⟩
theorem K1_unsafeStr {x y : Operand} {i g : Nat} {cur : Array Value} {z : List UInt8} {pt it e : TypeId} {m : Nat} (hd : Nat.blt d n = true) (hx : ev l x = some (.pointer (some ⟨g, 0, none⟩))) (hy : ev l y = some (.int .i64 (m : Nat))) (hi : L[i]? = some ⟨true, g, .cells cur e (0, 0)⟩)
  (hp : P.underlying pt = some (.pointer e)) (hc : P.cellsOf e = 1) (hm : z.length = m) (h0 : 0 < m) (hn : m ≤ cur.size) (h63 : m ≤ 9223372036854775807) (hcell : cur.toList.take m = Lib.byteCells z)
  (h : G n ((d, .string ⟨z.toArray⟩) :: l) S w0 (L.eraseIdx i) K) : G n l S w0 L (K1 P ops k ⟨some d, .call { callee := .builtin .unsafeString, args := #[x, y], argTypes := #[pt, it] }, ty, pos, af, none⟩ K) := .mk fun a w hf H => h5a rfl <| by
 subst hm
 have hgw := H.at_ i hi
 have hr := Lib.run_unsafeString_row (P:=P) w pt it ty e hp hc g cur.size (shape_at H i hi) z (fun h => by rw [h] at h0; simp at h0) hn h63 (fun j u hu => by
  have hadd : (⟨g, 0, none⟩ : Addr).add j = ⟨g, j, none⟩ := by unfold Addr.add; split <;> simp_all
  rw [hadd, cell_at H i hi]
  have hj : j < z.length := by
   rcases Nat.lt_or_ge j z.length with h | h
   ·exact h
   ·rw [List.getElem?_eq_none h] at hu; cases hu
  have h2 := congrArg (fun l => l[j]?) hcell
  simp only [List.getElem?_take, if_pos hj] at h2
  rw [← Array.getElem?_toList, h2]
  simp [Lib.byteCells, hu])
 unfold Oper.wp
 rw [BigFrame.execOp_builtin]
 simp only [List.map_toArray, List.map_cons, List.map_nil, hf.eval hx, hf.eval hy]
 rw [BigFrame.builtin_unsafeString]
 simp only [Sem.run_bind, hr, Result.andThen_ok, Sem.run_pure]
 have hz : z.length ≠ 0 := by omega
 have hgl : g < w.heap.size := H.lt i hi
 have HT := H.turn i (o:=.cells cur e (0, 0)) hi (w.freeze ⟨g, 0, none⟩ z.length) (.cells cur e (0, 0 + z.length)) (by unfold World.freeze; rw [if_neg hz]) (by unfold World.freeze; rw [if_neg hz]) (by unfold World.freeze; rw [if_neg hz])
  (by unfold World.freeze; rw [if_neg hz]; exact Array.size_modify) (by unfold World.freeze; rw [if_neg hz]; dsimp only; rw [Array.getElem?_modify, if_pos rfl]; have hgw' : w.heap[g]? = some (.cells cur e (0, 0)) := hgw; rw [hgw']; rfl) (fun k hk => by unfold World.freeze; rw [if_neg hz]; dsimp only; rw [Array.getElem?_modify, if_neg (fun h => hk h.symm)])
 refine h.out _ _ (hf.put (some d) _ hd) (HT.sub ?_)
 have : ∀ (L : List Blk) (i : Nat) (x : Blk), (L.eraseIdx i).Sublist (L.set i x) := by
  intro L
  induction L with
  | nil => intro i x; simp
  | cons y r ih =>
   intro i x
   cases i with
   | zero => exact List.sublist_cons_self _ _
   | succ i => exact (ih i x).cons_cons y
 exact this L i _
end
def h5v (s : ByteArray) : List Value := s.data.toList.map fun b => .int .u8 (b.toNat : Int)
theorem sBytes_len (s : ByteArray) : (h5v s).length = s.size := by unfold h5v; rw [List.length_map]; cases s; rfl
section
variable {P : Program} {n : Nat} {l : List (Nat × Value)} {S : List Nat} {w0 : World} {L : List Blk} {K : Act → World → Prop} {k : Kont} {ops : Array Oper} {d : Tmp} {ty : TypeId} {pos : String} {af : Array Edge}
theorem firstCells_str (s : ByteArray) (w : World) : (Builtin.firstCells 1 s.size (.string s)).run P w = .ok (h5v s).toArray w := by
 simp only [Builtin.firstCells, Sem.run_pure]
 congr 1
 have hx : s.extract 0 s.size = s := by simp
 rw [hx]
 apply Array.ext'
 simp [h5v]
theorem run_appS_room (w : World) (t u ty e : TypeId) (i : TypeInfo) (ht : P.underlying t = some (.slice e)) (hu : P.underlying u = some .string) (hi : P.info? e = some i) (h1 : i.size = 1)
  (g sLen sCap : Nat) (cur : Array Value) (hg : w.heap[g]? = some (.cells cur e (0, 0))) (s : ByteArray) (hroom : sLen + s.size ≤ sCap) (hfit : sLen + s.size ≤ cur.size) :
  (Builtin.append_ #[t, u] ty #[.slice (some ⟨g, 0, none⟩) sLen sCap, .string s]).run P w =
   .ok (.slice (some ⟨g, 0, none⟩) (sLen + s.size) sCap) (w.setRow g (cur.toList.take sLen ++ h5v s ++ cur.toList.drop (sLen + s.size)).toArray) := by
 have hone : ∀ u ∈ h5v s, u.oneCell' = true := by
  intro u hu
  unfold h5v at hu
  obtain ⟨b, _, rfl⟩ := List.mem_map.1 hu
  exact oc_int
 have hf := firstCells_str (P:=P) s w
 have hst := run_storeCells_at P g sLen e (h5v s) 0 cur w hg (by simpa [sBytes_len] using hfit) hone
 simp only [Nat.add_zero, sBytes_len] at hst
 simp [Builtin.append_, run_underlying ht, run_underlying hu, sizeOf, typeInfo, hi, h1, Builtin.lenOf, hroom, hf, Addr.add_lit, hst]
theorem run_appS_grow (w : World) (t u ty e : TypeId) (i : TypeInfo) (z : Value) (ht : P.underlying t = some (.slice e)) (hu : P.underlying u = some .string) (hi : P.info? e = some i) (hz : i.zero = some z) (h1 : i.size = 1) (hb1 : i.bytes = 1)
  (b : Addr) (sLen sCap : Nat) (olds : List Value) (hlo : olds.length = sLen) (holds : ∀ j v, olds[j]? = some v → w.cell? (b.add j) = some v) (s : ByteArray)
  (hg : sCap < sLen + s.size) (h47 : sLen + s.size ≤ 140737488355328) :
  (Builtin.append_ #[t, u] ty #[.slice (some b) sLen sCap, .string s]).run P w =
   .ok (.slice (some ⟨w.heap.size, 0, none⟩) (sLen + s.size) (grownCap w (sLen + s.size) sCap e))
    (w.drew.alloc (.cells (olds.toArray ++ (h5v s).toArray ++ Builtin.zeroCells z.cells (grownCap w (sLen + s.size) sCap e - (sLen + s.size))) e)) := by
 have hn : ¬ (sLen + s.size ≤ sCap) := by omega
 have h63' : ¬ (9223372036854775807 < ((sLen : Int) + (s.size : Int))) := by omega
 have hfit : Builtin.nextslicecap (sLen + s.size) sCap * 1 ≤ 281474976710656 := growslice_fits hg (by omega)
 have h48' : ¬ (281474976710656 < Builtin.nextslicecap (sLen + s.size) sCap) := by omega
 have hf := firstCells_str (P:=P) s w.drew
 have hfo := run_firstCells_some (P:=P) w.drew 1 sLen b sLen sCap olds (by omega) (by simpa using holds)
 simp [Builtin.append_, run_underlying ht, run_underlying hu, sizeOf, typeInfo, zeroValue, hi, hz, h1, hb1, Builtin.lenOf, hn, h63', h48', Question.forced, hf, hfo, newRow, grownCap]
 congr 2
 apply Array.ext'
 simp [List.append_assoc]
theorem K1_appendStr {E : Nat} {t tt : TypeId} {inf : TypeInfo} {z : Value} {s y : Operand} {v : Value} {m : Nat} {xs : List Value} {e L0 : List Blk} {str : ByteArray}
  (hd : Nat.blt d n = true) (ht : P.underlying t = some (.slice E)) (hu : P.underlying tt = some .string) (hi : P.info? E = some inf) (hz : inf.zero = some z) (hsize : inf.size = 1) (hby : inf.bytes = 1) (hzs : z.cells.size = 1)
  (hs : ev l s = some v) (hy : ev l y = some (.string str)) (hown : Own E 1 v m xs e) (hm : 0 < m) (h47 : m + str.size ≤ 140737488355328) (hL : ∀ w, HP S w0 w L → HP S w0 w (e ++ L0)) {mm : Nat} {xn : List Value} (hmm : m + str.size = mm) (hxn : xs ++ h5v str = xn)
  (h : ∀ v' e', Own E 1 v' mm xn e' → G n ((d, v') :: l) S w0 (e' ++ L0) K) :
  G n l S w0 L (K1 P ops k ⟨some d, .call { callee := .builtin .append, args := #[s, y], argTypes := #[t, tt] }, ty, pos, af, none⟩ K) := .mk fun a w hf H => h5a rfl <| by
 subst hmm hxn
 have H' := hL w H
 obtain ⟨g, cap, cur, rfl, rfl, hnc, hcm, hcs, htake⟩ := hown.some hm
 rw [Nat.mul_one] at hcs htake
 have hlen : (xs ++ h5v str).length = (m + str.size) * 1 := by rw [List.length_append, hown.1, sBytes_len, Nat.mul_one, Nat.mul_one]
 have hgw : w.heap[g]? = some (.cells cur E (0, 0)) := H'.at_ 0 (p:=⟨true, g, .cells cur E (0, 0)⟩) rfl
 have HL : HP S w0 w L0 := H'.sub (List.sublist_append_right _ _)
 unfold Oper.wp execOp
 simp only [resolve, invoke, builtin, Sem.run_bind, Sem.run_pure, Result.andThen_ok, List.map_toArray, List.map_cons, List.map_nil, hf.eval hs, hf.eval hy]
 by_cases hroom : m + str.size ≤ cap
 ·have hr := run_appS_room (P:=P) w t tt ty E inf ht hu hi hsize g m cap cur hgw str hroom (by omega)
  rw [hr]
  have HT := H'.turn 0 (o:=.cells cur E (0, 0)) rfl (w.setRow g (cur.toList.take m ++ h5v str ++ cur.toList.drop (m + str.size)).toArray) _ rfl rfl rfl (size_setRow w g _)
   (setRow_heap w g cur _ E _ hgw) (fun k hk => setRow_other w g k _ hk)
  refine (h _ [⟨true, g, .cells (cur.toList.take m ++ h5v str ++ cur.toList.drop (m + str.size)).toArray E (0, 0)⟩] ⟨hlen, .inr ⟨g, cap, _, rfl, rfl, hroom, hcm, ?_, ?_⟩⟩).out _ _ (hf.put (some d) _ hd) HT
  ·simp only [List.size_toArray, List.length_append, List.length_take, List.length_drop, Array.length_toList, sBytes_len]
   omega
  ·rw [htake, ← hlen]
   exact List.take_left
 ·have holds : ∀ j u, xs[j]? = some u → w.cell? ((⟨g, 0, none⟩ : Addr).add j) = some u := by
   intro j u hj
   have hadd : (⟨g, 0, none⟩ : Addr).add j = ⟨g, j, none⟩ := by unfold Addr.add; split <;> simp_all
   rw [hadd, cell_of_row w g j cur E (0, 0) hgw]
   rw [← htake, List.getElem?_take] at hj
   split at hj
   ·simpa using hj
   ·simp at hj
  have hr := run_appS_grow (P:=P) w t tt ty E inf z ht hu hi hz hsize hby ⟨g, 0, none⟩ m cap xs (by have := hown.1; omega) holds str (by omega) h47
  rw [hr]
  have hge := grownCap_ge w (m + str.size) cap E
  have hcm2 : grownCap w (m + str.size) cap E ≤ maxLen := grownCap_le_maxLen w (m + str.size) cap E h5t
  refine (h _ [⟨true, w.heap.size, .cells (xs.toArray ++ (h5v str).toArray ++ Builtin.zeroCells z.cells (grownCap w (m + str.size) cap E - (m + str.size))) E (0, 0)⟩] ⟨hlen, .inr ⟨w.heap.size, _, _, rfl, rfl, hge, hcm2, ?_, ?_⟩⟩).out _ _ (hf.put (some d) _ hd) (HL.drew.alloc _)
  ·have h9 := hown.1
   simp only [Array.size_append, List.size_toArray, size_zeroCells, hzs, h9, sBytes_len, Nat.mul_one]
   omega
  ·simp only [Array.toList_append, List.append_assoc]
   rw [← List.append_assoc, ← hlen]
   exact List.take_left
theorem K1_appendStrB {E : Nat} {t tt : TypeId} {inf : TypeInfo} {z : Value} {s y : Operand} {g m cp j : Nat} {cur : Array Value} {str : ByteArray}
  (hd : Nat.blt d n = true) (ht : P.underlying t = some (.slice E)) (hu : P.underlying tt = some .string) (hi : P.info? E = some inf) (hz : inf.zero = some z) (hsize : inf.size = 1) (hby : inf.bytes = 1) (hzs : z.cells.size = 1)
  (hs : ev l s = some (.slice (some ⟨g, 0, none⟩) m cp)) (hy : ev l y = some (.string str)) (hown : L[j]? = some ⟨true, g, .cells cur E (0, 0)⟩) (hmc : m ≤ cp) (hcp : cp ≤ maxLen) (hcs : cur.size = cp * 1) (hm : 0 < m) (h47 : m + str.size ≤ 140737488355328)
  {mm : Nat} {xn : List Value} (hmm : m + str.size = mm) (hxn : cur.toList.take (m * 1) ++ h5v str = xn)
  (h : ∀ v' e', Own E 1 v' mm xn e' → G n ((d, v') :: l) S w0 (e' ++ L.eraseIdx j) K) :
  G n l S w0 L (K1 P ops k ⟨some d, .call { callee := .builtin .append, args := #[s, y], argTypes := #[t, tt] }, ty, pos, af, none⟩ K) :=
 K1_appendStr hd ht hu hi hz hsize hby hzs hs hy (Own.of_block hmc hcp hcs) hm h47 (fun _ H => H.pick hown) hmm hxn h
end
section
variable {P : Program} {n : Nat} {l : List (Nat × Value)} {S : List Nat} {w0 : World} {L : List Blk} {K : Act → World → Prop} {k : Kont} {ops : Array Oper} {d : Tmp} {ty : TypeId} {pos : String} {af : Array Edge}
theorem run_appS_nil (w : World) (t u ty e : TypeId) (i : TypeInfo) (z : Value) (ht : P.underlying t = some (.slice e)) (hu : P.underlying u = some .string) (hi : P.info? e = some i) (hz : i.zero = some z) (h1 : i.size = 1) (hb1 : i.bytes = 1) (s : ByteArray)
  (hg : 0 < s.size) (h47 : s.size ≤ 140737488355328) :
  (Builtin.append_ #[t, u] ty #[.slice none 0 0, .string s]).run P w =
   .ok (.slice (some ⟨w.heap.size, 0, none⟩) s.size (grownCap w s.size 0 e))
    (w.drew.alloc (.cells ((h5v s).toArray ++ Builtin.zeroCells z.cells (grownCap w s.size 0 e - s.size)) e)) := by
 have hn : ¬ (s.size = 0) := by omega
 have h63' : ¬ (9223372036854775807 < (s.size : Int)) := by omega
 have hfit : Builtin.nextslicecap s.size 0 * 1 ≤ 281474976710656 := growslice_fits hg (by omega)
 have h48' : ¬ (281474976710656 < Builtin.nextslicecap s.size 0) := by omega
 have hf := firstCells_str (P:=P) s w.drew
 have hf0 : (Builtin.firstCells 1 0 (.slice none 0 0)).run P w.drew = .ok #[] w.drew := by
  simp [Builtin.firstCells, Sem.run_pure]
 simp [Builtin.append_, run_underlying ht, run_underlying hu, sizeOf, typeInfo, zeroValue, hi, hz, h1, hb1, Builtin.lenOf, hn, h63', h48', Question.forced, hf, hf0, newRow, grownCap]
theorem K1_appendStrN {E : Nat} {t tt : TypeId} {inf : TypeInfo} {z : Value} {s y : Operand} {str : ByteArray}
  (hd : Nat.blt d n = true) (ht : P.underlying t = some (.slice E)) (hu : P.underlying tt = some .string) (hi : P.info? E = some inf) (hz : inf.zero = some z) (hsize : inf.size = 1) (hby : inf.bytes = 1) (hzs : z.cells.size = 1)
  (hs : ev l s = some (.slice none 0 0)) (hy : ev l y = some (.string str)) (hm : 0 < str.size) (h47 : str.size ≤ 140737488355328)
  (h : ∀ v' e', Own E 1 v' str.size (h5v str) e' → G n ((d, v') :: l) S w0 (e' ++ L) K) :
  G n l S w0 L (K1 P ops k ⟨some d, .call { callee := .builtin .append, args := #[s, y], argTypes := #[t, tt] }, ty, pos, af, none⟩ K) := .mk fun a w hf H => h5a rfl <| by
 have hlen : (h5v str).length = str.size * 1 := by rw [sBytes_len, Nat.mul_one]
 unfold Oper.wp execOp
 simp only [resolve, invoke, builtin, Sem.run_bind, Sem.run_pure, Result.andThen_ok, List.map_toArray, List.map_cons, List.map_nil, hf.eval hs, hf.eval hy]
 have hr := run_appS_nil (P:=P) w t tt ty E inf z ht hu hi hz hsize hby str hm h47
 rw [hr]
 have hge := grownCap_ge w str.size 0 E
 have hcm2 : grownCap w str.size 0 E ≤ maxLen := grownCap_le_maxLen w str.size 0 E h5t
 refine (h _ [⟨true, w.heap.size, .cells ((h5v str).toArray ++ Builtin.zeroCells z.cells (grownCap w str.size 0 E - str.size)) E (0, 0)⟩] ⟨hlen, .inr ⟨w.heap.size, _, _, rfl, rfl, hge, hcm2, ?_, ?_⟩⟩).out _ _ (hf.put (some d) _ hd) (H.drew.alloc _)
 ·simp only [Array.size_append, List.size_toArray, size_zeroCells, hzs, sBytes_len, Nat.mul_one]
  omega
 ·simp only [Array.toList_append]
  rw [← hlen]
  exact List.take_left
end
abbrev bB (b : Nat) (p v : Value) : Blk := ⟨true, b, .cells #[p, v] 109 (0, 0)⟩
abbrev bP (b : Nat) : Value := .pointer (some ⟨b, 0, none⟩)
theorem ccheck_c {S w0 L} (b : Nat) (p v : Value) (hp : p = .pointer none ∨ p = bP b) : Fn Tryz.prog 58 #[bP b] S w0 (bB b p v :: L) fun r L' => r = h2y [] ∧ bB b (bP b) v :: L = L' := by
 rcases hp with rfl | rfl
 ·refine Fn1 Tryz.func58 Tryz.ntmps58 rfl rfl ?_
  repeat' (first | refine h0i ?_ | refine h0b ?_ | refine h0g rfl ?_ | (refine gR 0 (p_m (h:=p_n (h:=p_e (q_f fo_109_0) (h:=p_e q_l (h:=p_e (q_b (r:=by exact rb_peq_nn Tryz.underlying107)) (h:=h0a ?_))))))) | (refine gR 1 (p_m (h:=p_m (h:=q_e (by apply E_toUnsafe (t:=109) (m:=2); exact rfl; exact Tryz.underlying107; exact Tryz.underlying189; kernel_rfl; exact rfl; exact fd0; exact Nat.le_of_ble_eq_true rfl) ?_))) <;> (try refine h0c ?_; (refine K1_noEsc (F:=85) Tryz.func85 (by kernel_rfl) (by kernel_rfl) (by kernel_rfl) (by kernel_rfl) rfl rfl ?_)) <;> (try refine p_e (by apply E_fromUnsafe (u:=109) (m:=2); exact rfl; exact Tryz.underlying189; exact Tryz.underlying107; kernel_rfl; exact fd0; kernel_rfl) (h:=p_n (h:=q_e (q_f fo_109_0) ?_))) <;> (try refine h0c ?_; (refine q_S ?_)) <;> (try refine h0a ?_)))
  (first | refine h0o Tryz.results58 .nil ?_ | refine h2v Tryz.results58 .nil ?_)
  exact ⟨_, ⟨rfl, rfl⟩, fun _ H => H⟩
 ·refine Fn1 Tryz.func58 Tryz.ntmps58 rfl rfl ?_
  repeat' (first | refine h0i ?_ | refine h0b ?_ | refine h0r ?_ | refine h0f rfl ?_ | (refine gR 0 (p_m (h:=p_n (h:=p_e (q_f fo_109_0) (h:=p_e q_l (h:=p_e (q_b (r:=by exact h3x Tryz.underlying107)) (h:=h0a ?_))))))) | (refine gR 2 (p_m (h:=p_n (h:=p_e (q_f fo_109_0) (h:=p_e q_l (h:=p_m (h:=p_e (q_b (r:=by exact rb_pne_same (m:=2) Tryz.underlying107 (by kernel_rfl))) (h:=h0a ?_)))))))))
  (first | refine h0o Tryz.results58 .nil ?_ | refine h2v Tryz.results58 .nil ?_)
  exact ⟨_, ⟨rfl, rfl⟩, fun _ H => H⟩
set_option maxHeartbeats 1000000 in
theorem bwrite_c {S w0 L} (b : Nat) (p v : Value) (hp : p = .pointer none ∨ p = bP b) (n : Nat) (bs : List Value) (e : List Blk) (hn : n ≤ 1000000) (hown : Own 5 1 v n bs e) (hv : v = .slice none 0 0 ∨ 0 < n) (s : ByteArray) (hs : s.size ≤ 1000000) (hs1 : 0 < s.size) :
  Fn Tryz.prog 29 #[bP b, .string s] S w0 (bB b p v :: (e ++ L)) fun r L' => r = h2y [.int .i64 s.size, .nilIface] ∧ ∃ v' e', Own 5 1 v' (n + s.size) (bs ++ h5v s) e' ∧ bB b (bP b) v' :: (e' ++ L) = L' := by
 have hcc := fun (L : List Blk) => ccheck_c (S:=S) (w0:=w0) (L:=L) b p v hp
 rcases h2z hown with ⟨rfl, rfl, rfl, rfl⟩ | ⟨g, cap, cur, rfl, rfl, h1, h2, h3, h4⟩
 ·clear hown hv
  refine Fn2 Tryz.func29 Tryz.ntmps29 rfl rfl ?_
  simp only [List.nil_append]
  repeat' (first | refine h0i ?_ | refine h0b ?_ | refine h0v ?_ | (refine gR 0 (p_a (h:=p_a (h:=h0a ?_)))) | (refine gR 1 (q_m ?_) <;> (try refine h0c ?_; (refine h1i (F:=58) (by kernel_rfl) rfl rfl (hcc _) ?_; rintro _ _ ⟨rfl, rfl⟩)) <;> (try refine h0a ?_)) | (refine gR 2 (p_m (h:=p_m (h:=p_n (h:=p_e (q_f fo_109_1) (h:=p_e q_l (h:=q_m ?_)))))) <;> (try refine h0c ?_; (apply K1_appendStrN; exact rfl; exact Tryz.underlying45; exact Tryz.underlying9; exact inf_5_i; exact inf_5_z; exact inf_5_s; exact inf_5_b; exact rfl; exact rfl; exact rfl; omega; omega; intro vA eA hownA; obtain ⟨gA, capA, curA, rfl, rfl, hA1, hA2, hA3, hA4⟩ := hownA.some (by omega))) <;> (try refine p_n (h:=q_e (q_f fo_109_1) ?_)) <;> (try refine h0c ?_; (apply h6o (t:=45); exact rfl; exact rfl; (focus (repeat (first | exact fd0 | apply fdA))); exact rfl; exact rfl; kernel_rfl; exact Nat.le_of_ble_eq_true rfl; exact c_29; (try simp only [List.set_cons_succ]); (try simp only [List.set_cons_zero]))) <;> (try refine h0a ?_)) | (refine gR 3 (p_m (h:=p_e (h0e rfl (fun _ => BigFrame.builtin_len ..) (h0p Tryz.underlying9)) (h:=p_a (h:=p_a (h:=h0a ?_)))))))
  (refine h0o Tryz.results29 (.tmp rfl (.tmp rfl .nil)) ?_)
  refine ⟨_, ⟨rfl, .slice (some ⟨gA, 0, none⟩) s.size capA, [⟨true, gA, .cells curA 5 (0, 0)⟩], ?_, rfl⟩, fun _ H => H.perm (.swap _ _ _)⟩
  rw [Nat.zero_add]; exact h3v hA1 hA2 hA3 hA4
 ·have hn0 : 0 < n := by
   rcases hv with h | h
   ·cases h
   ·exact h
  unfold maxLen at h2
  clear hown hv
  simp only [List.cons_append, List.nil_append]
  refine Fn2 Tryz.func29 Tryz.ntmps29 rfl rfl ?_
  repeat' (first | refine h0i ?_ | refine h0b ?_ | refine h0v ?_ | (refine gR 0 (p_a (h:=p_a (h:=h0a ?_)))) | (refine gR 1 (q_m ?_) <;> (try refine h0c ?_; (refine h1i (F:=58) (by kernel_rfl) rfl rfl (hcc _) ?_; rintro _ _ ⟨rfl, rfl⟩)) <;> (try refine h0a ?_)) | (refine gR 2 (p_m (h:=p_m (h:=p_n (h:=p_e (q_f fo_109_1) (h:=p_e q_l (h:=q_m ?_)))))) <;> (try refine h0c ?_; (apply K1_appendStrB; exact rfl; exact Tryz.underlying45; exact Tryz.underlying9; exact inf_5_i; exact inf_5_z; exact inf_5_s; exact inf_5_b; exact rfl; exact rfl; exact rfl; exact h3i; (with_reducible assumption); exact h5t; (with_reducible assumption); omega; omega; exact h5x; exact c_4; (try simp only [zzE, zzF]); intro vA eA hownA; obtain ⟨gA, capA, curA, rfl, rfl, hA1, hA2, hA3, hA4⟩ := hownA.some (by omega))) <;> (try refine p_n (h:=q_e (q_f fo_109_1) ?_)) <;> (try refine h0c ?_; (apply h6o (t:=45); exact rfl; exact rfl; (focus (repeat (first | exact fd0 | apply fdA))); exact rfl; exact rfl; kernel_rfl; exact Nat.le_of_ble_eq_true rfl; exact c_29; (try simp only [List.set_cons_succ]); (try simp only [List.set_cons_zero]))) <;> (try refine h0a ?_)) | (refine gR 3 (p_m (h:=p_e (h0e rfl (fun _ => BigFrame.builtin_len ..) (h0p Tryz.underlying9)) (h:=p_a (h:=p_a (h:=h0a ?_)))))))
  (refine h0o Tryz.results29 (.tmp rfl (.tmp rfl .nil)) ?_)
  refine ⟨_, ⟨rfl, .slice (some ⟨gA, 0, none⟩) (n + s.size) capA, [⟨true, gA, .cells curA 5 (0, 0)⟩], ?_, rfl⟩, fun _ H => H.perm (.swap _ _ _)⟩
  rw [← h4]; exact h3v hA1 hA2 hA3 hA4
set_option maxHeartbeats 1000000 in
theorem bstring_c {S w0 L} (b : Nat) (p v : Value) (z : List UInt8) (e : List Blk) (hz : 0 < z.length) (hl : z.length ≤ 1000000) (hown : Own 5 1 v z.length (Lib.byteCells z) e) :
  Fn Tryz.prog 35 #[bP b] S w0 (bB b p v :: (e ++ L)) fun r L' => r = .string (mB8 z) ∧ L = L' := by
 obtain ⟨g, cap, cur, rfl, rfl, h1, h2, h3, h4⟩ := hown.some hz
 unfold maxLen at h2
 have h4' : cur.toList.take z.length = Lib.byteCells z := by rw [Nat.mul_one] at h4; exact h4
 have hzz : z.length = z.length := rfl
 clear hown h4
 simp only [List.cons_append, List.nil_append]
 refine Fn1 Tryz.func35 Tryz.ntmps35 rfl rfl ?_
 repeat' (first | refine h0i ?_ | refine h0b ?_ | refine h0v ?_ | (refine gR 0 (p_a (h:=h0a ?_))) | ((apply h4a (i:=1) (id:=1) (m:=12); exact c_11; kernel_rfl; exact rfl) <;> (try refine q_t 0 (e:=c_6) (x:=by exact h0h rfl) (h:=q_t 1 (e:=c_6) (x:=by exact h0l rfl) (h:=q_t 2 (e:=c_6) (x:=by exact q_f fo_109_1) (h:=q_t 3 (e:=c_6) (x:=by exact q_l) (h:=q_t 4 (e:=c_6) (x:=by apply E_sliceData; exact rfl; omega) (h:=q_t 5 (e:=c_6) (x:=by exact h0h rfl) (h:=q_t 6 (e:=c_6) (x:=by exact h0l rfl) (h:=q_t 7 (e:=c_6) (x:=by exact q_f fo_109_1) (h:=q_t 8 (e:=c_6) (x:=by exact q_l) (h:=q_t 9 (e:=c_6) (x:=by apply h0e; exact rfl; exact (fun _ => BigFrame.builtin_len ..); apply h0d Tryz.underlying45; exact h3m) (h:=?_))))))))))) <;> (try refine q_r 10 ?_; (apply K1_unsafeStr; exact rfl; exact rfl; exact rfl; exact h3i; exact Tryz.underlying178; kernel_rfl; (with_reducible assumption); omega; omega; omega; (with_reducible assumption); (try simp only [zzE, zzF])); refine h1b c_6 ?_) <;> (try refine q_t 11 (e:=c_6) (x:=by exact h3f rfl) (h:=h1a (by kernel_rfl) ?_))))
 all_goals
  (refine h0o Tryz.results35 (.tmp rfl .nil) ?_)
  exact ⟨_, ⟨rfl, rfl⟩, by intro w H; refine H.sub ?_; (try simp only [zzC, zzN]); repeat (first | exact List.Sublist.refl _ | refine List.Sublist.cons _ ?_)⟩
section
variable {P : Program} {n : Nat} {l : List (Nat × Value)} {S : List Nat} {w0 : World} {L : List Blk} {d : Tmp} {ty : TypeId} {pos : String} {af : Array Edge}
theorem E_sliceDataN {x : Operand} {ats : Array TypeId} (hx : ev l x = some (.slice none 0 0)) : ValOf P n l S w0 L ⟨some d, .call { callee := .builtin .unsafeSliceData, args := #[x], argTypes := ats }, ty, pos, af, none⟩ (.pointer none) :=
 h0e (xs:=[x]) (vs:=[.slice none 0 0]) (by simp [evs, hx]) (fun cs => BigFrame.builtin_unsafeSliceData ..) ⟨fun _ => rfl⟩
theorem E_unsafeStr0 {x y : Operand} {pt it : TypeId} {p : Option Addr} (hx : ev l x = some (.pointer p)) (hy : ev l y = some (.int .i64 0)) : ValOf P n l S w0 L ⟨some d, .call { callee := .builtin .unsafeString, args := #[x, y], argTypes := #[pt, it] }, ty, pos, af, none⟩ (.string .empty) :=
 h0e (xs:=[x, y]) (vs:=[.pointer p, .int .i64 0]) (by simp [evs, hx, hy]) (fun cs => BigFrame.builtin_unsafeString ..) ⟨fun w => Lib.run_unsafeString_none w pt it _ p⟩
end
set_option maxHeartbeats 1000000 in
theorem bstring0_c {S w0 L} (b : Nat) (p : Value) :
  Fn Tryz.prog 35 #[bP b] S w0 (bB b p (.slice none 0 0) :: L) fun r L' => r = .string .empty ∧ L = L' := by
 refine Fn1 Tryz.func35 Tryz.ntmps35 rfl rfl ?_
 repeat' (first | refine h0i ?_ | refine h0a ?_ | refine h0b ?_ | refine h0s ?_ | refine h1p ?_ | refine h3q ?_ | refine h1f ?_ | refine h0t ?_ | refine h0x ?_ | refine h1k ?_ | refine h1o ?_ | refine G_blk_y rfl ?_ | refine h0j ?_ | refine h0r ?_ | refine h2c ?_ | refine h0v ?_ | refine h0g rfl ?_ | refine h0f rfl ?_ | (refine gR 0 ?_ <;> (try refine h0c ?_; (first | (refine q_k (h3f rfl) ?_))) <;> (try refine h0a ?_)) | ((refine h1z (id:=1) (m:=12) (by kernel_rfl) rfl ?_) <;> (try first | (refine q_t 0 (e:=c_13) (x:=by first | exact h0h rfl) (h:=?_)) | (refine G_stuck ?_)) <;> (try first | (refine q_t 1 (e:=c_13) (x:=by first | exact h0l rfl) (h:=?_)) | (refine G_stuck ?_)) <;> (try first | (refine q_t 2 (e:=c_13) (x:=by first | (first | (exact q_f fo_109_1) | (exact q_g fo_109_1))) (h:=?_)) | (refine G_stuck ?_)) <;> (try first | (refine q_t 3 (e:=c_13) (x:=by first | (apply h1v (t:=45); exact rfl; (focus (repeat (first | exact fd0 | (with_reducible assumption) | apply fdA | apply fdS))); kernel_rfl; kernel_rfl; (focus (first | (with_reducible assumption) | exact rfl)))) (h:=?_)) | (refine G_stuck ?_)) <;> (try first | (refine q_t 4 (e:=c_13) (x:=by first | (apply E_sliceDataN; exact rfl)) (h:=?_)) | (refine G_stuck ?_)) <;> (try first | (refine q_t 5 (e:=c_13) (x:=by first | exact h0h rfl) (h:=?_)) | (refine G_stuck ?_)) <;> (try first | (refine q_t 6 (e:=c_13) (x:=by first | exact h0l rfl) (h:=?_)) | (refine G_stuck ?_)) <;> (try first | (refine q_t 7 (e:=c_13) (x:=by first | (first | (exact q_f fo_109_1) | (exact q_g fo_109_1))) (h:=?_)) | (refine G_stuck ?_)) <;> (try first | (refine q_t 8 (e:=c_13) (x:=by first | (apply h1v (t:=45); exact rfl; (focus (repeat (first | exact fd0 | (with_reducible assumption) | apply fdA | apply fdS))); kernel_rfl; kernel_rfl; (focus (first | (with_reducible assumption) | exact rfl)))) (h:=?_)) | (refine G_stuck ?_)) <;> (try first | (refine q_t 9 (e:=c_13) (x:=by first | (apply h0e; exact rfl; exact (fun _ => BigFrame.builtin_len ..); apply h0d Tryz.underlying45; exact h3m)) (h:=?_)) | (refine G_stuck ?_)) <;> (try first | (refine q_t 10 (e:=c_13) (x:=by first | (apply E_unsafeStr0; exact rfl; exact rfl)) (h:=?_)) | (refine G_stuck ?_)) <;> (try first | (refine q_t 11 (e:=c_13) (x:=by first | exact h3f rfl) (h:=?_)) | (refine G_stuck ?_)) <;> (try refine h1a (by kernel_rfl) ?_)) | ((first | (refine G_cond_nd rfl (fun hc => ?_) (fun hc => ?_)) | (refine h5z rfl (fun hc => ?_) (fun hc => ?_)) | (refine G_cond rfl (fun hc => ?_) (fun hc => ?_))) <;> (try subst hc)))
 all_goals
  (refine h0o Tryz.results35 (.tmp rfl .nil) ?_)
  exact ⟨_, ⟨rfl, rfl⟩, by intro w H; refine H.sub ?_; (try simp only [zzC, zzN]); repeat (first | exact List.Sublist.refl _ | refine List.Sublist.cons_cons _ ?_ | refine List.Sublist.cons _ ?_ | refine List.sublist_append_of_sublist_right ?_)⟩
def BldI (b : Nat) (z : List UInt8) (B : List Blk) : Prop := ∃ p v e, B = bB b p v :: e ∧ (p = .pointer none ∨ p = bP b) ∧ Own 5 1 v z.length (Lib.byteCells z) e ∧ (v = .slice none 0 0 ∨ 0 < z.length)
theorem bldi_0 (b : Nat) : BldI b [] [bB b (.pointer none) (.slice none 0 0)] := ⟨_, _, [], rfl, .inl rfl, Own.nil _ _, .inl rfl⟩
theorem bldi_t {S w0 L} {b : Nat} {z : List UInt8} {B : List Blk} (h : BldI b z B) (hz : z.length ≤ 1000000) (s : ByteArray) (hs : s.size ≤ 1000000) (hs1 : 0 < s.size) :
  Fn Tryz.prog 29 #[bP b, .string s] S w0 (B ++ L) fun r L' => r = h2y [.int .i64 s.size, .nilIface] ∧ ∃ B', BldI b (z ++ lB s) B' ∧ B' ++ L = L' := by
 obtain ⟨p, v, e, rfl, hp, hown, hnn⟩ := h
 refine (bwrite_c (S:=S) (w0:=w0) (L:=L) b p v hp _ _ e hz hown hnn s hs hs1).mono ?_
 rintro r L' ⟨rfl, v', e', h', rfl⟩
 refine ⟨_, ⟨rfl, bB b (bP b) v' :: e', ⟨_, v', e', rfl, .inr rfl, ?_, .inr ?_⟩, rfl⟩, fun _ H => H⟩
 ·have e1 : (z ++ lB s).length = z.length + s.size := by rw [List.length_append, h2x]
  have e2 : Lib.byteCells (z ++ lB s) = Lib.byteCells z ++ h5v s := by
   unfold Lib.byteCells
   rw [List.map_append]; rfl
  rw [e1, e2]; exact h'
 ·rw [List.length_append, h2x]; omega
theorem bldi_s {S w0 L} {b : Nat} {z : List UInt8} {B : List Blk} (h : BldI b z B) (hz : z.length ≤ 1000000) :
  Fn Tryz.prog 35 #[bP b] S w0 (B ++ L) fun r L' => r = .string (mB8 z) ∧ L = L' := by
 obtain ⟨p, v, e, rfl, hp, hown, hnn⟩ := h
 by_cases h0 : 0 < z.length
 ·exact bstring_c b p v z e h0 hz hown
 ·have hv : v = .slice none 0 0 := by
   rcases hnn with h | h
   ·exact h
   ·exact absurd h h0
  subst hv
  have hz0 : z = [] := List.eq_nil_of_length_eq_zero (by omega)
  subst hz0
  exact .mk fun w H => (bstring0_c (S:=S) (w0:=w0) (L:=L) b p).out w (H.sub (.cons_cons _ (List.sublist_append_right _ _)))
theorem actOk_lt {a : Int} (h0 : 0 ≤ a) (h : h6d a = true) : a < 4294967296 := by
 unfold h6d at h
 rw [decide_eq_true_eq] at h
 rcases h with rfl | rfl | rfl | ⟨h1, -, -⟩
 ·omega
 ·omega
 ·omega
 ·have hk : h4u a 65535 = 327680 := by
   unfold kndA at h1
   split at h1
   ·exact h1
   ·cases h1
  have h2 := and_split a h0
  have h3 := and_lt a
  omega
theorem bldi_tp {S w0} {b : Nat} {z : List UInt8} {B : List Blk} (pre M : List Blk) (h : BldI b z B) (hz : z.length ≤ 1000000) (s : ByteArray) (t : List UInt8) (ht : s = mB8 t) (hs : t.length ≤ 1000000) (hs1 : 0 < t.length) :
  Fn Tryz.prog 29 #[bP b, .string s] S w0 (pre ++ (B ++ M)) fun r L' => r = h2y [.int .i64 s.size, .nilIface] ∧ ∃ B', BldI b (z ++ t) B' ∧ pre ++ (B' ++ M) = L' := by
 subst ht
 refine Fn.weak (fun w H => H.perm (List.perm_append_comm_assoc ..)) ((bldi_t (S:=S) (w0:=w0) (L:=pre ++ M) h hz (mB8 t) (by rw [h2d]; exact hs) (by rw [h2d]; exact hs1)).mono ?_)
 rintro r L' ⟨rfl, B', hB, rfl⟩
 rw [h3y] at hB
 exact ⟨_, ⟨rfl, B', hB, rfl⟩, fun w H => H.perm (List.perm_append_comm_assoc ..)⟩
theorem actT_len {a : Int} (h : h6d a = true) : (actT a).length ≤ 27 := Nat.le_trans (spcL_len _) (actL_ok h).2.2
structure T1I (P : Pol) (b : Nat) (g : Nat × Nat × Nat × List Blk) : Prop where
 le : g.1 ≤ P.rules.length
 bld : BldI b (lnsT ([[wN tPolicy, wN P.nm], wN tDefault :: actL P.df] ++ (P.rules.take g.1).map rulL)) g.2.2.2
theorem t1_len {P : Pol} (h : PolOk P) (hr : PolRn P) (k : Nat) : (lnsT ([[wN tPolicy, wN P.nm], wN tDefault :: actL P.df] ++ (P.rules.take k).map rulL)).length ≤ 55000 := by
 have h1 := (polL_ok P h hr).2
 have e : polL P = ([[wN tPolicy, wN P.nm], wN tDefault :: actL P.df] ++ (P.rules.take k).map rulL) ++ ((P.rules.drop k).map rulL ++ (hanL P.hd ++ (P.paths.map benL ++ P.ports.map porL))) := by
  rw [List.append_assoc, ← List.append_assoc ((P.rules.take k).map rulL), ← List.map_append, List.take_append_drop]; rfl
 unfold polT at h1
 rw [e, lnsT_app, List.length_append] at h1
 omega
def linA (P : Pol) : List (List W3) := [[wN tPolicy, wN P.nm], wN tDefault :: actL P.df] ++ P.rules.map rulL
def linB (P : Pol) : List (List W3) := linA P ++ hanL P.hd
def linC (P : Pol) (k : Nat) : List (List W3) := linB P ++ (P.paths.take k).map benL
def linD (P : Pol) (k : Nat) : List (List W3) := linC P P.paths.length ++ (P.ports.take k).map porL
theorem linD_all (P : Pol) : linD P P.ports.length = polL P := by
 unfold linD linC linB linA polL
 rw [List.take_length, List.take_length]
 simp only [List.append_assoc]; rfl
theorem pfx_len {P : Pol} (h : PolOk P) (hr : PolRn P) {A B : List (List W3)} (e : polL P = A ++ B) : (lnsT A).length ≤ 55000 := by
 have h1 := (polL_ok P h hr).2
 unfold polT at h1
 rw [e, lnsT_app, List.length_append] at h1
 omega
theorem linD_len {P : Pol} (h : PolOk P) (hr : PolRn P) (k : Nat) : (lnsT (linD P k)).length ≤ 55000 := by
 refine pfx_len (B:=(P.ports.drop k).map porL) h hr ?_
 rw [← linD_all]
 unfold linD
 rw [List.take_length, List.append_assoc, ← List.map_append, List.take_append_drop]
theorem linC_len {P : Pol} (h : PolOk P) (hr : PolRn P) (k : Nat) : (lnsT (linC P k)).length ≤ 55000 := by
 refine pfx_len (B:=(P.paths.drop k).map benL ++ P.ports.map porL) h hr ?_
 rw [← linD_all]
 unfold linD linC
 rw [List.take_length, List.take_length, List.append_assoc, List.append_assoc, ← List.append_assoc ((P.paths.take k).map benL), ← List.map_append, List.take_append_drop]
set_option maxHeartbeats 2000000 in
theorem ptext_c {S w0 L} (P : Pol) (h : PolOk P) (hr : PolRn P) (vr vp vq : Value) (hS : PolS L P.g vr vp vq) (ct m1 m2 n : Nat) (hn : n ≤ 90000) :
  Fn Tryz.prog 13 #[.agg (polC P vr vp vq).toArray, .pointer (some ⟨ct, 0, none⟩)] S w0 (tbS ct m1 m2 n ++ L) fun v L' => ∃ m1' m2', v = .string (mB8 (polT P)) ∧ tbS ct m1' m2' (n + P.rules.length) ++ L = L' := by
 obtain ⟨⟨ra, rc, cz, e1, hrs, hrg⟩, ⟨pa, pc, e2, hps⟩, ⟨qa, qc, e3, hqs⟩, -, -, -⟩ := hS
 subst e1 e2 e3
 have elr : P.g.rules.length = P.rules.length := List.length_map ..
 have elp : P.g.paths.length = P.paths.length := rfl
 have elq : P.g.ports.length = P.ports.length := rfl
 rw [elr, elp, elq]
 rw [elr] at hrs
 rw [elp] at hps
 rw [elq] at hqs
 have hat := fun (L : List Blk) => acttext_c (S:=S) (w0:=w0) (L:=L) P.df ⟨h.df0, actOk_lt h.df0 h.df⟩
 have hnl := (nm_ok h.nm).2
 have hal := actT_len h.df
 have hz1 : (mB8 P.nm).size ≤ 14 := by rw [h2d]; exact hnl
 have hz2 : (mB8 (actT P.df)).size ≤ 27 := by rw [h2d]; exact hal
 have c1 : (⟨#[112, 111, 108, 105, 99, 121, 32]⟩ : ByteArray).size = 7 := rfl
 have c2 : (⟨#[10, 100, 101, 102, 97, 117, 108, 116, 32]⟩ : ByteArray).size = 9 := rfl
 have c3 : (⟨#[10]⟩ : ByteArray).size = 1 := rfl
 have hhd : ((((⟨#[112, 111, 108, 105, 99, 121, 32]⟩ : ByteArray) ++ mB8 P.nm) ++ (⟨#[10, 100, 101, 102, 97, 117, 108, 116, 32]⟩ : ByteArray)) ++ mB8 (actT P.df)) ++ (⟨#[10]⟩ : ByteArray) = mB8 (lnsT [[wN tPolicy, wN P.nm], wN tDefault :: actL P.df]) := by
  rw [headT_eq, show (⟨#[112, 111, 108, 105, 99, 121, 32]⟩ : ByteArray) = mB8 [112, 111, 108, 105, 99, 121, 32] from rfl, show (⟨#[10, 100, 101, 102, 97, 117, 108, 116, 32]⟩ : ByteArray) = mB8 [10, 100, 101, 102, 97, 117, 108, 116, 32] from rfl, show (⟨#[10]⟩ : ByteArray) = mB8 [10] from rfl]
  simp only [h6m, List.append_assoc]
 have hlh := t1_len h hr 0
 rw [List.take_zero, List.map_nil, List.append_nil] at hlh
 have hlh1 : 0 < (lnsT [[wN tPolicy, wN P.nm], wN tDefault :: actL P.df]).length := by rw [headT_eq]; simp
 dsimp only [polC]
 refine Fn2 Tryz.func13 Tryz.ntmps13 rfl rfl ?_
 repeat' (first | (refine h3s (id:=2) ?_) | refine h0i ?_ | refine h0b ?_ | (refine gR 0 ?_ <;> (try refine h0c ?_; (refine h2n (t:=36) rfl rfl ?_; intro nb hnb; (try simp only [Value.cells]))) <;> (try refine p_a (h:=h0a ?_))) | (refine gR 1 ?_ <;> (try refine h0c ?_; (refine h0k (t:=109) rfl Tryz.zeroValue109 ?_; intro nb hnb; (try simp only [Value.cells]))) <;> (try refine h0a ?_)))
 refine ⟨?_⟩
 rename_i n2 h2
 obtain ⟨n5, rfl⟩ : ∃ x, x = nb := ⟨_, rfl⟩
 have hw := fun (x : Blk) (M : List Blk) => bldi_tp (S:=S) (w0:=w0) [x] M (bldi_0 n5) (Nat.zero_le _) _ _ hhd (by omega) hlh1
 dsimp only [List.cons_append, List.nil_append] at hw
 refine h5h (L' := ⟨true, n2, .cells #[.string (mB8 P.nm), .int .u32 P.df, .slice ra P.rules.length rc, .int .u16 (P.hd : Nat), .slice pa P.paths.length pc, .slice qa P.ports.length qc] 36 (0, 0)⟩ :: bB n5 (.pointer none) (.slice none 0 0) :: (tbS ct m1 m2 n ++ L)) (fun w H => H.perm (List.Perm.swap ..)) ?_
 generalize mB8 (actT P.df) = at_ at *
 repeat' (first | (refine h2h (id:=0) ?_) | refine h0i ?_ | refine h0b ?_ | ((refine h2s (pre:=[_]) (id:=2) (m:=10) rfl (by kernel_rfl) rfl (q_t 0 (e:=h3e) (x:=by exact q_f h6b) (h:=q_t 1 (e:=h3e) (x:=by exact q_l) (h:=q_t 2 (e:=h3e) (x:=by exact q_b (r:=by apply h1t; exact rfl; (focus (omega)))) (h:=q_t 3 (e:=h3e) (x:=by exact q_b (r:=by apply h1t; exact rfl; (focus (simp only [ByteArray.size_append]; omega)))) (h:=q_t 4 (e:=h3e) (x:=by exact q_f fo_36_1) (h:=q_t 5 (e:=h3e) (x:=by exact q_l) (h:=?_)))))))) <;> (try refine q_r 6 ?_; (refine q_c 30 (c:=by apply hat) (h:=?_); rintro _ _ ⟨rfl, rfl⟩; (try simp only [zzE, zzF])); refine h1b h3e ?_) <;> (try refine q_t 7 (e:=h3e) (x:=by exact q_b (r:=by apply h1t; exact rfl; (focus (simp only [ByteArray.size_append]; omega)))) (h:=q_t 8 (e:=h3e) (x:=by exact q_b (r:=by apply h1t; exact rfl; (focus (simp only [ByteArray.size_append]; omega)))) (h:=?_))) <;> (try refine q_r 9 ?_; (refine q_c 29 (c:=by apply hw) (h:=?_); rintro _ _ ⟨rfl, B1, hB1, rfl⟩; (try simp only [zzE, zzF])); refine h1b h3e ?_) <;> (try refine h1a (by kernel_rfl) ?_)) | (refine gR 3 (p_e (q_f h2t) (h:=p_e q_l (h:=p_e (by apply h0e; exact rfl; exact (fun _ => BigFrame.builtin_len ..); apply h0d Tryz.underlying30; exact h3m) (h:=p_m (h:=h0a ?_)))))))
 refine ⟨?_⟩
 clear hat hw hhd hlh1 hal hz1 hz2
 refine h2q (γ:=Nat × Nat × List Blk) (fun g => BldI n5 (lnsT ([[wN tPolicy, wN P.nm], wN tDefault :: actL P.df] ++ P.rules.map rulL)) g.2.2) (fun _ => []) [(2, _), (5, _)]
  (fun g => ⟨true, n2, .cells #[.string (mB8 P.nm), .int .u32 P.df, .slice ra P.rules.length rc, .int .u16 (P.hd : Nat), .slice pa P.paths.length pc, .slice qa P.ports.length qc] 36 (0, 0)⟩ :: (g.2.2 ++ (tbS ct g.1 g.2.1 (n + P.rules.length) ++ L))) (.cons rfl (.cons rfl .nil)) ?_ ?_
 ·refine h0j ?_
  refine h2i (γ:=Nat × Nat × Nat × List Blk) (T1I P n5) (fun g => P.rules.length - g.1) (fun g => [(29, .int .i64 (g.1 : Nat))]) [(1, _), (2, _), (5, _), (27, _), (28, _)]
   (fun g => ⟨true, n2, .cells #[.string (mB8 P.nm), .int .u32 P.df, .slice ra P.rules.length rc, .int .u16 (P.hd : Nat), .slice pa P.paths.length pc, .slice qa P.ports.length qc] 36 (0, 0)⟩ :: (g.2.2.2 ++ (tbS ct g.2.1 g.2.2.1 (n + g.1) ++ L))) (0, m1, m2, B1) (.cons rfl (.cons rfl (.cons rfl (.cons rfl (.cons rfl .nil))))) ⟨Nat.zero_le _, by rw [List.take_zero, List.map_nil, List.append_nil]; exact hB1⟩ (by (focus (repeat (first | exact Sub.nil | refine Sub.cons rfl ?_)))) (fun _ H => H) ?_
  clear hB1 B1 hlh
  rintro ⟨k, k1, k2, B⟩ ⟨hk, hB⟩
  dsimp only at hk hB
  simp only [List.cons_append, List.nil_append]
  have hlk := t1_len h hr k
  have hl1 := h.l1
  by_cases hlt : k < P.rules.length
  case neg =>
   obtain rfl : k = P.rules.length := by omega
   rw [List.take_length] at hB
   repeat' (first | refine h0i ?_ | refine h0b ?_ | refine h0s ?_ | refine h1p ?_ | refine h1f ?_ | refine h1o ?_ | refine h2c ?_ | refine h0f rfl ?_ | (refine gR 4 (p_e (q_b (r:=by exact h0y q_o)) (h:=h0a ?_))))
   exact h0w (k1, k2, B) hB (by (focus (repeat (first | exact Sub.nil | refine Sub.cons rfl ?_)))) (fun _ H => H)
  have hlk2 := t1_len h hr (k + 1)
  have hzz : lnsT ([[wN tPolicy, wN P.nm], wN tDefault :: actL P.df] ++ (P.rules.take (k + 1)).map rulL) = lnsT ([[wN tPolicy, wN P.nm], wN tDefault :: actL P.df] ++ (P.rules.take k).map rulL) ++ (spcL (rulL P.rules[k]) ++ [10]) := by
   rw [List.take_succ_eq_append_getElem hlt, List.map_append, ← List.append_assoc]
   exact lnsT_snoc _ _
  have hzb : BldI n5 (lnsT ([[wN tPolicy, wN P.nm], wN tDefault :: actL P.df] ++ (P.rules.take k).map rulL) ++ (spcL (rulL P.rules[k]) ++ [10])) = BldI n5 (lnsT ([[wN tPolicy, wN P.nm], wN tDefault :: actL P.df] ++ (P.rules.take (k + 1)).map rulL)) := by rw [hzz]
  rw [hzz] at hlk2
  clear hzz
  obtain ⟨j, q, bb, off, cs, T, fr, rfl, hj, hsz, hx⟩ := ((hrs.upA (tbS ct k1 k2 (n + k))).upA B).elem hlt
  obtain ⟨v, hv, hcs⟩ := hrg.at_ k (by rw [elr]; exact hlt)
  have egk : P.g.rules[k]'(by rw [elr]; exact hlt) = (P.rules[k]).g := List.getElem_map ..
  rw [egk] at hv hcs
  rw [hv] at hx
  have hro := h.rules _ (List.getElem_mem hlt)
  have hrr := hr.c _ (List.getElem_mem hlt)
  have hzb' := Lib.hid hzb
  generalize lnsT ([[wN tPolicy, wN P.nm], wN tDefault :: actL P.df] ++ (P.rules.take k).map rulL) = Z at *
  generalize P.rules[k] = r at *
  clear egk hv hzb
  obtain ⟨va, vc, rfl, hcsl, hcml⟩ := hcs
  have elc : (RulP.g r).conds.length = r.conds.length := List.length_map ..
  have ecc : gcC (RulP.g r).conds = cndC r.conds := gcC_map _
  rw [elc] at hcsl hcml hx
  rw [ecc] at hcsl
  clear elc ecc
  have hnu := fun (x y : Blk) => numS_c (S:=S) (w0:=w0) (x :: y :: B) L ct k1 k2 (n + k) (by omega) r.num
  obtain ⟨cl, hcl⟩ : ∃ cl, h4w r.num clls = some cl := Option.isSome_iff_exists.1 hro.num
  have hnmo : mB8 (h5j r.num) = cl.name := by unfold h5j; rw [hcl]; exact mB8_lB _
  have hnml : cl.name.size ≤ 14 := by
   have h2 := List.all_eq_true.1 clls_nm cl (cnumF_mem hcl).1
   rw [Bool.and_eq_true, decide_eq_true_eq, h2x] at h2
   exact h2.2
  have hgv : gotV (h4w r.num clls) = h2y [.agg #[.int .u32 cl.num, .string cl.name, .int .i64 cl.args], .bool true] := by rw [hcl]; rfl
  rw [hgv] at hnu
  have hat := fun (L : List Blk) => acttext_c (S:=S) (w0:=w0) (L:=L) r.act ⟨hro.act0, actOk_lt hro.act0 hro.act⟩
  have hal := actT_len hro.act
  have hz2 : (mB8 (actT r.act)).size ≤ 27 := by rw [h2d]; exact hal
  have d1 : (⟨#[99, 97, 108, 108, 32]⟩ : ByteArray).size = 5 := rfl
  have d2 : (⟨#[32]⟩ : ByteArray).size = 1 := rfl
  have het : (((⟨#[99, 97, 108, 108, 32]⟩ : ByteArray) ++ cl.name) ++ (⟨#[32]⟩ : ByteArray)) ++ mB8 (actT r.act) = mB8 ([99, 97, 108, 108, 32] ++ (h5j r.num ++ ([32] ++ actT r.act))) := by
   rw [← hnmo, show (⟨#[99, 97, 108, 108, 32]⟩ : ByteArray) = mB8 [99, 97, 108, 108, 32] from rfl, show (⟨#[32]⟩ : ByteArray) = mB8 [32] from rfl]
   simp only [h6m, List.append_assoc]
  have hru := rulT_eq r
  rw [show [99, 97, 108, 108, 32] ++ (h5j r.num ++ ([32] ++ (actT r.act ++ cnT 0 r.conds))) = ([99, 97, 108, 108, 32] ++ (h5j r.num ++ ([32] ++ actT r.act))) ++ cnT 0 r.conds by simp only [List.append_assoc]] at hru
  rw [hru] at hlk2 hzb'
  have hpl : 0 < ([99, 97, 108, 108, 32] ++ (h5j r.num ++ ([32] ++ actT r.act))).length := by simp
  generalize [99, 97, 108, 108, 32] ++ (h5j r.num ++ ([32] ++ actT r.act)) = pfx at *
  simp only [List.length_append] at hlk2
  have hw := fun (x y z : Blk) (M : List Blk) => bldi_tp (S:=S) (w0:=w0) [x, y, z] M hB (by omega) _ _ het (by omega) hpl
  dsimp only [List.cons_append, List.nil_append] at hw
  have hcok := hro.conds
  obtain ⟨num, act, conds⟩ := r
  dsimp only [RulP.g, List.cons_append] at *
  clear hgv hcl hnmo hru hro
  generalize mB8 (actT act) = at_ at *
  repeat' (first | (refine h2h (id:=2) ?_) | refine h0i ?_ | refine h0b ?_ | refine h0j ?_ | refine h0r ?_ | refine h0g rfl ?_ | refine h0f rfl ?_ | (refine gR 4 (p_e (q_b (r:=by exact h0u q_o)) (h:=h0a ?_))) | (refine gR 5 (p_e (by apply h0n; exact rfl; exact rfl; (focus (apply h2j Tryz.underlying30 sz_73; omega; omega; exact c_1))) (h:=q_e (by apply h1u (t:=73); exact rfl; exact c_19; kernel_rfl; kernel_rfl; exact sz_73; (with_reducible assumption); (with_reducible assumption)) ?_)) <;> (try refine h0c ?_; (refine h0k (t:=73) rfl Tryz.zeroValue73 ?_; intro nb hnb; (try simp only [Value.cells]))) <;> (try refine h0c ?_; (refine q_W ?_)) <;> (try refine h0a ?_)) | (refine gR 6 (p_m (h:=p_e (q_f fo_73_0) (h:=q_e q_l ?_))) <;> (try refine h0c ?_; (refine q_c 31 (c:=by apply hnu) (h:=?_); rintro _ _ ⟨j1, j2, rfl, rfl⟩; (try simp only [zzE, zzF]))) <;> (try refine p_m (h:=p_x (h:=q_x ?_))) <;> (try refine h0c ?_; (refine h0k (t:=116) rfl Tryz.zeroValue116 ?_; intro nb hnb; (try simp only [Value.cells]))) <;> (try refine h0c ?_; (refine q_W ?_)) <;> (try refine p_a (h:=h0a ?_))) | (refine gR 7 (p_m (h:=p_e (by apply h5m; exact rfl; exact h1r) (h:=h0a ?_)))) | ((refine h2s (pre:=[_, _, _]) (id:=9) (m:=9) rfl (by kernel_rfl) rfl (q_t 0 (e:=h3e) (x:=by exact q_f fo_116_1) (h:=q_t 1 (e:=h3e) (x:=by exact q_l) (h:=q_t 2 (e:=h3e) (x:=by exact q_b (r:=by apply h1t; exact rfl; (focus (omega)))) (h:=q_t 3 (e:=h3e) (x:=by exact q_b (r:=by apply h1t; exact rfl; (focus (simp only [ByteArray.size_append]; omega)))) (h:=q_t 4 (e:=h3e) (x:=by exact q_f fo_73_1) (h:=q_t 5 (e:=h3e) (x:=by exact q_l) (h:=?_)))))))) <;> (try refine q_r 6 ?_; (refine q_c 30 (c:=by apply hat) (h:=?_); rintro _ _ ⟨rfl, rfl⟩; (try simp only [zzE, zzF])); refine h1b h3e ?_) <;> (try refine q_t 7 (e:=h3e) (x:=by exact q_b (r:=by apply h1t; exact rfl; (focus (simp only [ByteArray.size_append]; omega)))) (h:=?_)) <;> (try refine q_r 8 ?_; (refine q_c 29 (c:=by apply hw) (h:=?_); rintro _ _ ⟨rfl, B1, hB1, rfl⟩; (try simp only [zzE, zzF])); refine h1b h3e ?_) <;> (try refine h1a (by kernel_rfl) ?_)) | (refine gR 10 (p_e (q_f h2w) (h:=p_e q_l (h:=p_e (by apply h0e; exact rfl; exact (fun _ => BigFrame.builtin_len ..); apply h0d Tryz.underlying71; exact h3m) (h:=p_m (h:=h0a ?_)))))))
  refine ⟨?_⟩
  clear hnu hat hw hB het
  have hcT := cnT_le conds
  refine h2q (γ:=List Blk) (fun B => BldI n5 (Z ++ (pfx ++ cnT 0 conds)) B) (fun _ => []) [(1, _), (2, _), (5, _), (27, _), (28, _), (29, _)]
   (fun B => ⟨true, n2, .cells #[.string (mB8 P.nm), .int .u32 P.df, .slice (some ⟨bb, off, none⟩) P.rules.length rc, .int .u16 (P.hd : Nat), .slice pa P.paths.length pc, .slice qa P.ports.length qc] 36 (0, 0)⟩ :: (B ++ (tbS ct j1 j2 (n + k + 1) ++ L))) (.cons rfl (.cons rfl (.cons rfl (.cons rfl (.cons rfl (.cons rfl .nil)))))) ?_ ?_
  ·refine h0j ?_
   refine h2i (γ:=Nat × List Blk) (fun g => g.1 ≤ conds.length ∧ BldI n5 (Z ++ (pfx ++ cnT 0 (conds.take g.1))) g.2) (fun g => conds.length - g.1) (fun g => [(59, .int .i64 (g.1 : Nat))]) [(1, _), (2, _), (5, _), (27, _), (28, _), (29, _), (57, _), (58, _)]
    (fun g => ⟨true, n2, .cells #[.string (mB8 P.nm), .int .u32 P.df, .slice (some ⟨bb, off, none⟩) P.rules.length rc, .int .u16 (P.hd : Nat), .slice pa P.paths.length pc, .slice qa P.ports.length qc] 36 (0, 0)⟩ :: (g.2 ++ (tbS ct j1 j2 (n + k + 1) ++ L))) (0, B1) (.cons rfl (.cons rfl (.cons rfl (.cons rfl (.cons rfl (.cons rfl (.cons rfl (.cons rfl .nil)))))))) ⟨Nat.zero_le _, by rw [List.take_zero, cnT, List.append_nil]; exact hB1⟩ (by (focus (repeat (first | exact Sub.nil | refine Sub.cons rfl ?_)))) (fun _ H => H.tail.tail) ?_
   clear hB1 B1 B hj
   rintro ⟨i, B⟩ ⟨hi, hB⟩
   dsimp only at hi hB
   simp only [List.cons_append, List.nil_append]
   unfold maxLen at hcml
   by_cases hit : i < conds.length
   ·obtain ⟨j, q, bc, ofc, cs, T, fr, rfl, hj, hsz, hx⟩ := ((hcsl.upA (tbS ct j1 j2 (n + k + 1))).upA B).elem hit
    rw [cndC_at _ _ hit] at hx
    have hci := hcT i
    have hci2 := hcT (i + 1)
    rw [cnT_take conds i hit] at hci2
    have hzi : BldI n5 ((Z ++ (pfx ++ cnT 0 (conds.take i))) ++ (sepT i ++ cndT conds[i])) = BldI n5 (Z ++ (pfx ++ cnT 0 (conds.take (i + 1)))) := by
     rw [cnT_take conds i hit]
     simp only [List.append_assoc]
    have hct := fun (L : List Blk) => condtext_c (S:=S) (w0:=w0) (L:=L) conds[i] (hcok _ (List.getElem_mem hit)) (hrr _ (List.getElem_mem hit)).1 (hrr _ (List.getElem_mem hit)).2
    have hnl := cndT_ne conds[i]
    generalize conds[i] = cd at *
    simp only [List.length_append] at hci2
    have hw2 := fun (x y : Blk) (M : List Blk) => bldi_tp (S:=S) (w0:=w0) [x, y] M hB c_31 (mB8 (sepT i) ++ mB8 (cndT cd)) _ (h6m _ _) c_31 c_31
    have hw3 := fun (x y z : Blk) (M : List Blk) => bldi_tp (S:=S) (w0:=w0) [x, y, z] M hB c_31 (mB8 (sepT i) ++ mB8 (cndT cd)) _ (h6m _ _) c_31 c_31
    rw [hzi] at hw2 hw3
    have hzs : (mB8 (sepT i)).size ≤ 5 := by rw [h2d]; unfold sepT; split <;> simp
    have hzc : (mB8 (cndT cd)).size ≤ 60000 := by rw [h2d]; omega
    have hsep : (#[Value.string ⟨#[32, 105, 102, 32]⟩, .string ⟨#[32, 97, 110, 100, 32]⟩]).toList[(min (i : Int) 1).toNat]? = some (.string (mB8 (sepT i))) := by
     unfold sepT
     by_cases h0 : i = 0
     ·subst h0; rfl
     ·rw [if_neg h0, show (min (i : Int) 1).toNat = 1 by omega]; rfl
    obtain ⟨ca, co, cm, cv⟩ := cd
    dsimp only [List.cons_append, List.nil_append, Cnd.cells] at *
    generalize mB8 (sepT i) = ts at *
    generalize mB8 (cndT ⟨ca, co, cm, cv⟩) = tc at *
    clear hB hzi
    repeat' (first | refine h0i ?_ | refine h0b ?_ | refine h0s ?_ | refine h0x ?_ | refine h0j ?_ | refine h0r ?_ | refine h0g rfl ?_ | (refine gR 11 (p_e (q_b (r:=by exact h0u q_o)) (h:=h0a ?_))) | (refine gR 12 (p_m (h:=p_e (by apply h0n; exact rfl; exact rfl; (focus (apply h2j Tryz.underlying71 h5n; omega; omega; exact c_1))) (h:=q_e (by apply h1u (t:=99); exact rfl; exact c_19; kernel_rfl; kernel_rfl; exact h5n; (with_reducible assumption); (with_reducible assumption)) ?_))) <;> (try refine h0c ?_; (refine h0k (t:=99) rfl Tryz.zeroValue99 ?_; intro nb hnb; (try simp only [Value.cells]))) <;> (try refine q_a ?_) <;> (try refine h0c ?_; (refine q_W ?_)) <;> (try refine h0a ?_)) | ((refine h2s (pre:=[_, _]) (id:=13) (m:=9) rfl (by kernel_rfl) rfl (q_t 1 (e:=h3e) (x:=by exact h0h rfl) (h:=q_t 2 (e:=h3e) (x:=by exact h0e rfl (fun _ => BigFrame.builtin_min ..) r_min) (h:=q_t 5 (e:=h3e) (x:=by exact q_L h5n) (h:=?_))))) <;> (try refine h2g (i:=0) (j:=6) rfl rfl (by kernel_rfl) ?_ ?_ <;> (first | (refine TagA.mk ?_; (((refine h0m (t:=56) (m:=2) (e:=9) (fun vs => (match vs with | [(_, x0), (_, x1)] => [x0, x1] | _ => [])) rfl rfl (fun w => by kernel_rfl) ?_; intro nb hnb; (try simp only [Value.cells]); (try simp only [zzC, zzN])); refine h1b c_8 ?_) <;> (try refine q_t 3 (e:=c_8) (x:=by apply h0n; exact rfl; exact rfl; (focus (apply h2j Tryz.underlying56 sz_9; omega; omega; exact c_1))) (h:=?_)) <;> (try refine h2g (i:=4) (j:=6) rfl rfl (by kernel_rfl) ?_ ?_ <;> (first | (refine TagA.mk ?_; (((refine q_k (by apply h1v (t:=9); exact rfl; exact fd0; kernel_rfl; kernel_rfl; (with_reducible assumption)) ?_); refine h1b c_8 ?_) <;> (try refine q_r 6 ?_; (refine q_c 33 (c:=by apply hct) (h:=?_); rintro _ _ ⟨rfl, rfl⟩; (try simp only [zzE, zzF])); refine h1b c_8 ?_) <;> (try refine q_t 7 (e:=c_8) (x:=by exact q_b (r:=by apply h1t; exact rfl; (focus (omega)))) (h:=?_)) <;> (try refine q_r 8 ?_; (refine q_c 29 (c:=by apply hw3) (h:=?_); rintro _ _ ⟨rfl, B1, hB1, rfl⟩; (try simp only [zzE, zzF])); refine h1b c_8 ?_) <;> (try refine h1a (by kernel_rfl) ?_))) | (refine TagB.mk ?_; (((refine q_c 33 (c:=by apply hct) (h:=?_); rintro _ _ ⟨rfl, rfl⟩; (try simp only [zzE, zzF])); refine h1b c_8 ?_) <;> (try refine q_r 4 ?_; (refine q_k (by apply h1v (t:=9); exact rfl; exact fd0; kernel_rfl; kernel_rfl; (with_reducible assumption)) ?_); refine h1b c_8 ?_) <;> (try refine q_t 7 (e:=c_8) (x:=by exact q_b (r:=by apply h1t; exact rfl; (focus (omega)))) (h:=?_)) <;> (try refine q_r 8 ?_; (refine q_c 29 (c:=by apply hw3) (h:=?_); rintro _ _ ⟨rfl, B1, hB1, rfl⟩; (try simp only [zzE, zzF])); refine h1b c_8 ?_) <;> (try refine h1a (by kernel_rfl) ?_))))))) | (refine TagB.mk ?_; (((refine q_c 33 (c:=by apply hct) (h:=?_); rintro _ _ ⟨rfl, rfl⟩; (try simp only [zzE, zzF])); refine h1b h3e ?_) <;> (try refine q_r 0 ?_; (refine h0m (t:=56) (m:=2) (e:=9) (fun vs => (match vs with | [(_, x0), (_, x1)] => [x0, x1] | _ => [])) rfl rfl (fun w => by kernel_rfl) ?_; intro nb hnb; (try simp only [Value.cells]); (try simp only [zzC, zzN])); refine h1b c_8 ?_) <;> (try refine q_t 3 (e:=c_8) (x:=by apply h0n; exact rfl; exact rfl; (focus (apply h2j Tryz.underlying56 sz_9; omega; omega; exact c_1))) (h:=?_)) <;> (try refine q_r 4 ?_; (refine q_k (by apply h1v (t:=9); exact rfl; exact fd0; kernel_rfl; kernel_rfl; (with_reducible assumption)) ?_); refine h1b c_8 ?_) <;> (try refine q_t 7 (e:=c_8) (x:=by exact q_b (r:=by apply h1t; exact rfl; (focus (omega)))) (h:=?_)) <;> (try refine q_r 8 ?_; (refine q_c 29 (c:=by apply hw3) (h:=?_); rintro _ _ ⟨rfl, B1, hB1, rfl⟩; (try simp only [zzE, zzF])); refine h1b c_8 ?_) <;> (try refine h1a (by kernel_rfl) ?_)))))) | (refine gR 14 ?_ <;> (try refine q_e (q_b (r:=by apply h1n; exact c_5; (focus (refine IntWalk.i64_in _ ?_; omega)))) ?_) <;> (try refine p_m (h:=h0a ?_))))
    all_goals exact h0w (i + 1, B1) ⟨⟨by show i + 1 ≤ conds.length; omega, hB1⟩, by show conds.length - (i + 1) < conds.length - i; omega⟩ (by (focus (repeat (first | exact Sub.nil | refine Sub.cons rfl ?_)))) (fun _ H => H.tail.tail)
   ·obtain rfl : i = conds.length := by omega
    rw [List.take_length] at hB
    repeat' (first | refine h0i ?_ | refine h0b ?_ | refine h0s ?_ | refine h1p ?_ | refine h1f ?_ | refine h1o ?_ | refine h2c ?_ | refine h0f rfl ?_ | (refine gR 11 (p_e (q_b (r:=by exact h0y q_o)) (h:=h0a ?_))))
    exact h0w B hB (by (focus (repeat (first | exact Sub.nil | refine Sub.cons rfl ?_)))) (fun _ H => H)
  rintro B2 hB2
  simp only [List.cons_append, List.nil_append]
  have hw1 := fun (x : Blk) (M : List Blk) => bldi_tp (S:=S) (w0:=w0) [x] M hB2 c_31 ⟨#[10]⟩ [10] rfl (by decide) (by decide)
  rw [show (Z ++ (pfx ++ cnT 0 conds)) ++ [10] = Z ++ (pfx ++ cnT 0 conds ++ [10]) by simp only [List.append_assoc]] at hw1
  rw [hzb'.out] at hw1
  dsimp only [List.cons_append, List.nil_append] at hw1
  clear hB2
  repeat' (first | refine h0b ?_ | refine h0s ?_ | refine h0x ?_ | (refine gR 15 ?_ <;> (try refine h0c ?_; (refine q_c 29 (c:=by apply hw1) (h:=?_); rintro _ _ ⟨rfl, B3, hB3, rfl⟩; (try simp only [zzE, zzF]))) <;> (try refine h0a ?_)) | (refine gR 16 ?_ <;> (try refine q_e (q_b (r:=by apply h1n; exact c_5; (focus (refine IntWalk.i64_in _ ?_; omega)))) ?_) <;> (try refine p_m (h:=h0a ?_))))
  exact h0w (k + 1, j1, j2, B3) ⟨⟨by show k + 1 ≤ P.rules.length; omega, hB3⟩, by show P.rules.length - (k + 1) < P.rules.length - k; omega⟩ (by (focus (repeat (first | exact Sub.nil | refine Sub.cons rfl ?_)))) (fun _ H => H)
 clear hB1 B1 hrs hrg hlh
 rintro ⟨k1, k2, B⟩ hB
 dsimp only at hB
 simp only [List.cons_append, List.nil_append]
 have hB0 : BldI n5 (lnsT (linA P)) B := hB
 clear hB
 have hlc0 := linC_len h hr 0
 have e0 : linC P 0 = linB P := by unfold linC; rw [List.take_zero, List.map_nil, List.append_nil]
 rw [e0] at hlc0
 repeat' (first | (refine G_markc (t:=78) ?_) | refine h0i ?_ | refine h0b ?_ | (refine gR 17 (p_e (q_f h5l) (h:=p_e q_l (h:=p_e (q_b (r:=by exact rb_neq)) (h:=h0a ?_))))))
 refine ⟨?_⟩
 refine h2q (γ:=List Blk) (fun B => BldI n5 (lnsT (linB P)) B) (fun _ => []) [(2, _), (5, _)]
  (fun B => ⟨true, n2, .cells #[.string (mB8 P.nm), .int .u32 P.df, .slice ra P.rules.length rc, .int .u16 (P.hd : Nat), .slice pa P.paths.length pc, .slice qa P.ports.length qc] 36 (0, 0)⟩ :: (B ++ (tbS ct k1 k2 (n + P.rules.length) ++ L))) (.cons rfl (.cons rfl .nil)) ?_ ?_
 ·by_cases h0 : P.hd ≠ 0
  ·have ehl : lnsT (linB P) = lnsT (linA P) ++ lnsT [[wN tHandle, wN (rgT P.hd)]] := by
    unfold linB hanL
    rw [if_pos h0, lnsT_app]
   rw [ehl, List.length_append] at hlc0
   have hrt := fun (L : List Blk) => Rg.text_c (S:=S) (w0:=w0) (L:=L) P.hd (by have h1 := h.hd; have h2 := Nat.and_le_right (n:=P.hd) (m:=51199); omega)
   have hrl := (rg_ok h0 h.hd).2
   have hzt : (Rg.textF P.hd).size ≤ 320 := by rw [← h2x]; exact hrl
   have d1 : (⟨#[104, 97, 110, 100, 108, 101, 32]⟩ : ByteArray).size = 7 := rfl
   have het : ((⟨#[104, 97, 110, 100, 108, 101, 32]⟩ : ByteArray) ++ Rg.textF P.hd) ++ (⟨#[10]⟩ : ByteArray) = mB8 (lnsT [[wN tHandle, wN (rgT P.hd)]]) := by
    rw [hanT_eq, ← mB8_lB (Rg.textF P.hd), show (⟨#[104, 97, 110, 100, 108, 101, 32]⟩ : ByteArray) = mB8 [104, 97, 110, 100, 108, 101, 32] from rfl, show (⟨#[10]⟩ : ByteArray) = mB8 [10] from rfl]
    simp only [h6m, List.append_assoc]
    rfl
   have hw := fun (x : Blk) (M : List Blk) => bldi_tp (S:=S) (w0:=w0) [x] M hB0 (by omega) _ _ het (by omega) (by rw [hanT_eq]; simp)
   rw [← ehl] at hw
   dsimp only [List.cons_append, List.nil_append] at hw
   clear het ehl hB0
   generalize Rg.textF P.hd = rt at *
   refine h5z rfl (fun _ => ?_) (fun hn => (by omega : False).elim)
   repeat' (first | refine h0s ?_ | (refine gR 18 (p_e (q_f h5l) (h:=q_e q_l ?_)) <;> (try refine h0c ?_; (refine q_c 34 (c:=by apply hrt) (h:=?_); rintro _ _ ⟨rfl, rfl⟩; (try simp only [zzE, zzF]))) <;> (try refine p_e (q_b (r:=by apply h1t; exact rfl; (focus (omega)))) (h:=q_e (q_b (r:=by apply h1t; exact rfl; (focus (simp only [ByteArray.size_append]; omega)))) ?_)) <;> (try refine h0c ?_; (refine q_c 29 (c:=by apply hw) (h:=?_); rintro _ _ ⟨rfl, B1, hB1, rfl⟩; (try simp only [zzE, zzF]))) <;> (try refine h0a ?_)))
   exact h0w B1 hB1 (by (focus (repeat (first | exact Sub.nil | refine Sub.cons rfl ?_)))) (fun _ H => H)
  ·have ehl : linB P = linA P := by
    unfold linB hanL
    rw [if_neg h0, List.append_nil]
   rw [← ehl] at hB0
   refine h5z rfl (fun hn => (by omega : False).elim) (fun _ => ?_)
   repeat' (first | refine h0s ?_ | refine h0r ?_)
   exact h0w B hB0 (by (focus (repeat (first | exact Sub.nil | refine Sub.cons rfl ?_)))) (fun _ H => H)
 clear hB0 hlc0 B
 rintro B hB
 rw [← e0] at hB
 clear e0
 simp only [List.cons_append, List.nil_append]
 repeat' (first | (refine h2h (id:=4) ?_) | refine h0i ?_ | refine h0b ?_ | (refine gR 19 (p_e (q_f h3h) (h:=p_e q_l (h:=p_e (by apply h0e; exact rfl; exact (fun _ => BigFrame.builtin_len ..); apply h0d Tryz.underlying33; exact h3m) (h:=p_m (h:=h0a ?_)))))))
 refine ⟨?_⟩
 have hl2 := h.l2
 have hl3 := h.l3
 refine h2q (γ:=List Blk) (fun B => BldI n5 (lnsT (linC P P.paths.length)) B) (fun _ => []) [(2, _), (5, _)]
  (fun B => ⟨true, n2, .cells #[.string (mB8 P.nm), .int .u32 P.df, .slice ra P.rules.length rc, .int .u16 (P.hd : Nat), .slice pa P.paths.length pc, .slice qa P.ports.length qc] 36 (0, 0)⟩ :: (B ++ (tbS ct k1 k2 (n + P.rules.length) ++ L))) (.cons rfl (.cons rfl .nil)) ?_ ?_
 ·refine h0j ?_
  refine h2i (γ:=Nat × List Blk) (fun g => g.1 ≤ P.paths.length ∧ BldI n5 (lnsT (linC P g.1)) g.2) (fun g => P.paths.length - g.1) (fun g => [(88, .int .i64 (g.1 : Nat))]) [(2, _), (5, _), (86, _), (87, _)]
   (fun g => ⟨true, n2, .cells #[.string (mB8 P.nm), .int .u32 P.df, .slice ra P.rules.length rc, .int .u16 (P.hd : Nat), .slice pa P.paths.length pc, .slice qa P.ports.length qc] 36 (0, 0)⟩ :: (g.2 ++ (tbS ct k1 k2 (n + P.rules.length) ++ L))) (0, B) (.cons rfl (.cons rfl (.cons rfl (.cons rfl .nil)))) ⟨Nat.zero_le _, hB⟩ (by (focus (repeat (first | exact Sub.nil | refine Sub.cons rfl ?_)))) (fun _ H => H) ?_
  clear hB B
  rintro ⟨k, B⟩ ⟨hk, hB⟩
  dsimp only at hk hB
  simp only [List.cons_append, List.nil_append]
  by_cases hlt : k < P.paths.length
  case neg =>
   obtain rfl : k = P.paths.length := by omega
   repeat' (first | refine h0i ?_ | refine h0b ?_ | refine h0s ?_ | refine h1p ?_ | refine h1f ?_ | refine h1o ?_ | refine h2c ?_ | refine h0f rfl ?_ | (refine gR 20 (p_e (q_b (r:=by exact h0y q_o)) (h:=h0a ?_))))
   exact h0w B hB (by (focus (repeat (first | exact Sub.nil | refine Sub.cons rfl ?_)))) (fun _ H => H)
  obtain ⟨j, q, bb, off, cs, T, fr, rfl, hj, hsz, hx⟩ := ((hps.upA (tbS ct k1 k2 (n + P.rules.length))).upA B).elem hlt
  rw [show pthC P.g.paths = pthC P.paths from rfl, pthC_at _ _ hlt] at hx
  obtain ⟨g1, g2, g3, g4⟩ := h.paths _ (List.getElem_mem hlt)
  have hpl := (wP_ok g1).2
  have hrl := (rg_ok g2 (and_sub g3 h.hd)).2
  have hn6 : P.paths[k].2 < 65536 := by have h2 := Nat.and_le_right (n:=P.paths[k].2) (m:=2047); omega
  have hrt := fun (L : List Blk) => Rg.text_c (S:=S) (w0:=w0) (L:=L) P.paths[k].2 hn6
  have hlc := linC_len h hr (k + 1)
  have ehl : lnsT (linC P (k + 1)) = lnsT (linC P k) ++ (spcL (benL P.paths[k]) ++ [10]) := by
   unfold linC
   rw [List.take_succ_eq_append_getElem hlt, List.map_append, ← List.append_assoc]
   exact lnsT_snoc _ _
  rw [ehl, List.length_append] at hlc
  have hzt : (Rg.textF P.paths[k].2).size ≤ 320 := by rw [← h2x]; exact hrl
  have hzp : (mB8 P.paths[k].1).size ≤ 120 := by rw [h2d]; exact hpl
  have d1 : (⟨#[98, 101, 110, 101, 97, 116, 104, 32]⟩ : ByteArray).size = 8 := rfl
  have d2 : (⟨#[32]⟩ : ByteArray).size = 1 := rfl
  have het : ((((⟨#[98, 101, 110, 101, 97, 116, 104, 32]⟩ : ByteArray) ++ mB8 P.paths[k].1) ++ (⟨#[32]⟩ : ByteArray)) ++ Rg.textF P.paths[k].2) ++ (⟨#[10]⟩ : ByteArray) = mB8 (spcL (benL P.paths[k]) ++ [10]) := by
   rw [benT_eq, ← mB8_lB (Rg.textF P.paths[k].2), show (⟨#[98, 101, 110, 101, 97, 116, 104, 32]⟩ : ByteArray) = mB8 [98, 101, 110, 101, 97, 116, 104, 32] from rfl, show (⟨#[32]⟩ : ByteArray) = mB8 [32] from rfl, show (⟨#[10]⟩ : ByteArray) = mB8 [10] from rfl]
   simp only [h6m, List.append_assoc]
   rfl
  have hw := fun (x y : Blk) (M : List Blk) => bldi_tp (S:=S) (w0:=w0) [x, y] M hB (by omega) _ _ het (by omega) (by rw [List.length_append]; simp)
  rw [← ehl] at hw
  dsimp only [List.cons_append, List.nil_append] at hw
  clear het ehl hB hlc g1 g2 g3 g4 hrl hpl
  generalize Rg.textF P.paths[k].2 = rt at *
  generalize P.paths[k] = p at *
  obtain ⟨pt, pr⟩ := p
  dsimp only at *
  generalize mB8 pt = bt at *
  repeat' (first | refine h0i ?_ | refine h0b ?_ | refine h0s ?_ | refine h0x ?_ | refine h0j ?_ | refine h0r ?_ | refine h0g rfl ?_ | (refine gR 20 (p_e (q_b (r:=by exact h0u q_o)) (h:=h0a ?_))) | (refine gR 21 (p_e (by apply h0n; exact rfl; exact rfl; (focus (apply h2j Tryz.underlying33 h4x; omega; omega; exact c_1))) (h:=q_e (by apply h1u (t:=104); exact rfl; exact c_19; kernel_rfl; kernel_rfl; exact h4x; (with_reducible assumption); (with_reducible assumption)) ?_)) <;> (try refine h0c ?_; (refine h0k (t:=104) rfl Tryz.zeroValue104 ?_; intro nb hnb; (try simp only [Value.cells]))) <;> (try refine h0c ?_; (refine q_W ?_)) <;> (try refine h0a ?_)) | ((refine h2s (pre:=[_, _]) (id:=22) (m:=10) rfl (by kernel_rfl) rfl (q_t 0 (e:=h3e) (x:=by exact q_f h5f) (h:=q_t 1 (e:=h3e) (x:=by exact q_l) (h:=q_t 2 (e:=h3e) (x:=by exact q_b (r:=by apply h1t; exact rfl; (focus (omega)))) (h:=q_t 3 (e:=h3e) (x:=by exact q_b (r:=by apply h1t; exact rfl; (focus (simp only [ByteArray.size_append]; omega)))) (h:=q_t 4 (e:=h3e) (x:=by exact q_f fo_104_1) (h:=q_t 5 (e:=h3e) (x:=by exact q_l) (h:=?_)))))))) <;> (try refine q_r 6 ?_; (refine q_c 34 (c:=by apply hrt) (h:=?_); rintro _ _ ⟨rfl, rfl⟩; (try simp only [zzE, zzF])); refine h1b h3e ?_) <;> (try refine q_t 7 (e:=h3e) (x:=by exact q_b (r:=by apply h1t; exact rfl; (focus (simp only [ByteArray.size_append]; omega)))) (h:=q_t 8 (e:=h3e) (x:=by exact q_b (r:=by apply h1t; exact rfl; (focus (simp only [ByteArray.size_append]; omega)))) (h:=?_))) <;> (try refine q_r 9 ?_; (refine q_c 29 (c:=by apply hw) (h:=?_); rintro _ _ ⟨rfl, B1, hB1, rfl⟩; (try simp only [zzE, zzF])); refine h1b h3e ?_) <;> (try refine h1a (by kernel_rfl) ?_)) | (refine gR 23 ?_ <;> (try refine q_e (q_b (r:=by apply h1n; exact c_5; (focus (refine IntWalk.i64_in _ ?_; omega)))) ?_) <;> (try refine p_m (h:=h0a ?_))))
  exact h0w (k + 1, B1) ⟨⟨by show k + 1 ≤ P.paths.length; omega, hB1⟩, by show P.paths.length - (k + 1) < P.paths.length - k; omega⟩ (by (focus (repeat (first | exact Sub.nil | refine Sub.cons rfl ?_)))) (fun _ H => H.tail)
 clear hB B
 rintro B hB
 have e0 : linD P 0 = linC P P.paths.length := by unfold linD; rw [List.take_zero, List.map_nil, List.append_nil]
 rw [← e0] at hB
 clear e0
 simp only [List.cons_append, List.nil_append]
 repeat' (first | (refine h2h (id:=6) ?_) | refine h0i ?_ | refine h0b ?_ | (refine gR 24 (p_e (q_f h3p) (h:=p_e q_l (h:=p_e (by apply h0e; exact rfl; exact (fun _ => BigFrame.builtin_len ..); apply h0d Tryz.underlying34; exact h3m) (h:=p_m (h:=h0a ?_)))))))
 refine ⟨?_⟩
 refine h2q (γ:=List Blk) (fun B => BldI n5 (lnsT (linD P P.ports.length)) B) (fun _ => []) [(5, _)]
  (fun B => B ++ (tbS ct k1 k2 (n + P.rules.length) ++ L)) (.cons rfl .nil) ?_ ?_
 ·refine h0j ?_
  refine h2i (γ:=Nat × List Blk) (fun g => g.1 ≤ P.ports.length ∧ BldI n5 (lnsT (linD P g.1)) g.2) (fun g => P.ports.length - g.1) (fun g => [(106, .int .i64 (g.1 : Nat))]) [(5, _), (104, _), (105, _)]
   (fun g => ⟨true, n2, .cells #[.string (mB8 P.nm), .int .u32 P.df, .slice ra P.rules.length rc, .int .u16 (P.hd : Nat), .slice pa P.paths.length pc, .slice qa P.ports.length qc] 36 (0, 0)⟩ :: (g.2 ++ (tbS ct k1 k2 (n + P.rules.length) ++ L))) (0, B) (.cons rfl (.cons rfl (.cons rfl .nil))) ⟨Nat.zero_le _, hB⟩ (by (focus (repeat (first | exact Sub.nil | refine Sub.cons rfl ?_)))) (fun _ H => H) ?_
  clear hB B
  rintro ⟨k, B⟩ ⟨hk, hB⟩
  dsimp only at hk hB
  simp only [List.cons_append, List.nil_append]
  by_cases hlt : k < P.ports.length
  case neg =>
   obtain rfl : k = P.ports.length := by omega
   repeat' (first | refine h0i ?_ | refine h0b ?_ | refine h0s ?_ | refine h1p ?_ | refine h1f ?_ | refine h1o ?_ | refine h2c ?_ | refine h0f rfl ?_ | (refine gR 25 (p_e (q_b (r:=by exact h0y q_o)) (h:=h0a ?_))))
   exact h0w B hB (by (focus (repeat (first | exact Sub.nil | refine Sub.cons rfl ?_)))) (fun _ H => H.tail)
  obtain ⟨j, q, bb, off, cs, T, fr, rfl, hj, hsz, hx⟩ := ((hqs.upA (tbS ct k1 k2 (n + P.rules.length))).upA B).elem hlt
  rw [show porC P.g.ports = porC P.ports from rfl, porC_at _ _ hlt] at hx
  obtain ⟨g1, g2, g3, g4⟩ := h.ports _ (List.getElem_mem hlt)
  have hpl := d20 (n:=P.ports[k].1) (by omega)
  have hrl := (rg_ok g2 (and_sub g3 h.hd)).2
  have hn6 : P.ports[k].2 < 65536 := by have h2 := Nat.and_le_right (n:=P.ports[k].2) (m:=49152); omega
  have hrt := fun (L : List Blk) => Rg.text_c (S:=S) (w0:=w0) (L:=L) P.ports[k].2 hn6
  have hpr := fun (L : List Blk) => printed_c P.ports[k].1 (by omega) S w0 L
  have hlc := linD_len h hr (k + 1)
  have ehl : lnsT (linD P (k + 1)) = lnsT (linD P k) ++ (spcL (porL P.ports[k]) ++ [10]) := by
   unfold linD
   rw [List.take_succ_eq_append_getElem hlt, List.map_append, ← List.append_assoc]
   exact lnsT_snoc _ _
  rw [ehl, List.length_append] at hlc
  have hzt : (Rg.textF P.ports[k].2).size ≤ 320 := by rw [← h2x]; exact hrl
  have hzp : (mB8 (decF P.ports[k].1)).size ≤ 20 := by rw [h2d]; exact hpl
  have d1 : (⟨#[112, 111, 114, 116, 32]⟩ : ByteArray).size = 5 := rfl
  have d2 : (⟨#[32]⟩ : ByteArray).size = 1 := rfl
  have het : ((((⟨#[112, 111, 114, 116, 32]⟩ : ByteArray) ++ mB8 (decF P.ports[k].1)) ++ (⟨#[32]⟩ : ByteArray)) ++ Rg.textF P.ports[k].2) ++ (⟨#[10]⟩ : ByteArray) = mB8 (spcL (porL P.ports[k]) ++ [10]) := by
   rw [porT_eq, ← mB8_lB (Rg.textF P.ports[k].2), show (⟨#[112, 111, 114, 116, 32]⟩ : ByteArray) = mB8 [112, 111, 114, 116, 32] from rfl, show (⟨#[32]⟩ : ByteArray) = mB8 [32] from rfl, show (⟨#[10]⟩ : ByteArray) = mB8 [10] from rfl]
   simp only [h6m, List.append_assoc]
   rfl
  have hw := fun (x y : Blk) (M : List Blk) => bldi_tp (S:=S) (w0:=w0) [x, y] M hB (by omega) _ _ het (by omega) (by rw [List.length_append]; simp)
  rw [← ehl] at hw
  dsimp only [List.cons_append, List.nil_append] at hw
  clear het ehl hB hlc g2 g3 g4 hrl hpl
  generalize Rg.textF P.ports[k].2 = rt at *
  generalize P.ports[k] = p at *
  obtain ⟨pt, pr⟩ := p
  dsimp only at *
  generalize mB8 (decF pt) = bt at *
  repeat' (first | refine h0i ?_ | refine h0b ?_ | refine h0s ?_ | refine h0x ?_ | refine h0j ?_ | refine h0r ?_ | refine h0g rfl ?_ | (refine gR 25 (p_e (q_b (r:=by exact h0u q_o)) (h:=h0a ?_))) | (refine gR 26 (p_e (by apply h0n; exact rfl; exact rfl; (focus (apply h2j Tryz.underlying34 h6e; omega; omega; exact c_1))) (h:=q_e (by apply h1u (t:=106); exact rfl; exact c_19; kernel_rfl; kernel_rfl; exact h6e; (with_reducible assumption); (with_reducible assumption)) ?_)) <;> (try refine h0c ?_; (refine h0k (t:=106) rfl Tryz.zeroValue106 ?_; intro nb hnb; (try simp only [Value.cells]))) <;> (try refine h0c ?_; (refine q_W ?_)) <;> (try refine h0a ?_)) | ((refine h2s (pre:=[_, _]) (id:=27) (m:=12) rfl (by kernel_rfl) rfl (q_t 0 (e:=h3e) (x:=by exact q_f fo_106_0) (h:=q_t 1 (e:=h3e) (x:=by exact q_l) (h:=?_)))) <;> (try refine q_t 2 (e:=h3e) (x:=by apply h3t; exact rfl; (focus (apply h3u Tryz.underlying31 Tryz.underlying97; first | (refine IntWalk.i64_in _ ?_; omega) | (refine IntWalk.u8_in _ ?_; omega) | (refine IntWalk.u16_in _ ?_; omega) | (refine IntWalk.u32_in _ ?_; omega) | (refine IntWalk.u64_in _ ?_; omega) | (refine IntWalk.i32_in _ ?_; omega) | exact rfl))) (h:=?_)) <;> (try refine q_t 6 (e:=h3e) (x:=by exact q_f fo_106_1) (h:=q_t 7 (e:=h3e) (x:=by exact q_l) (h:=?_))) <;> (try refine q_r 3 ?_; (refine q_c 32 (c:=by apply hpr) (h:=?_); rintro _ _ ⟨rfl, rfl⟩; (try simp only [zzE, zzF])); refine h1b h3e ?_) <;> (try refine q_t 4 (e:=h3e) (x:=by exact q_b (r:=by apply h1t; exact rfl; (focus (omega)))) (h:=q_t 5 (e:=h3e) (x:=by exact q_b (r:=by apply h1t; exact rfl; (focus (simp only [ByteArray.size_append]; omega)))) (h:=?_))) <;> (try refine q_r 8 ?_; (refine q_c 34 (c:=by apply hrt) (h:=?_); rintro _ _ ⟨rfl, rfl⟩; (try simp only [zzE, zzF])); refine h1b h3e ?_) <;> (try refine q_t 9 (e:=h3e) (x:=by exact q_b (r:=by apply h1t; exact rfl; (focus (simp only [ByteArray.size_append]; omega)))) (h:=q_t 10 (e:=h3e) (x:=by exact q_b (r:=by apply h1t; exact rfl; (focus (simp only [ByteArray.size_append]; omega)))) (h:=?_))) <;> (try refine q_r 11 ?_; (refine q_c 29 (c:=by apply hw) (h:=?_); rintro _ _ ⟨rfl, B1, hB1, rfl⟩; (try simp only [zzE, zzF])); refine h1b h3e ?_) <;> (try refine h1a (by kernel_rfl) ?_)) | (refine gR 28 ?_ <;> (try refine q_e (q_b (r:=by apply h1n; exact c_5; (focus (refine IntWalk.i64_in _ ?_; omega)))) ?_) <;> (try refine p_m (h:=h0a ?_))))
  exact h0w (k + 1, B1) ⟨⟨by show k + 1 ≤ P.ports.length; omega, hB1⟩, by show P.ports.length - (k + 1) < P.ports.length - k; omega⟩ (by (focus (repeat (first | exact Sub.nil | refine Sub.cons rfl ?_)))) (fun _ H => H.tail)
 clear hB B
 rintro B hB
 rw [linD_all] at hB
 simp only [List.cons_append, List.nil_append]
 have hst := fun (M : List Blk) => bldi_s (S:=S) (w0:=w0) (L:=M) hB (by have := (polL_ok P h hr).2; unfold polT at this; omega)
 clear hB
 repeat' (first | refine h0i ?_ | refine h0b ?_ | refine h0v ?_ | (refine gR 29 ?_ <;> (try refine h0c ?_; (refine q_c 35 (c:=by apply hst) (h:=?_); rintro _ _ ⟨rfl, rfl⟩; (try simp only [zzE, zzF]))) <;> (try refine p_a (h:=h0a ?_))))
 (refine h0o Tryz.results13 (.tmp rfl .nil) ?_)
 exact ⟨_, ⟨k1, k2, rfl, rfl⟩, fun _ H => H⟩
def PrE (pb ct rb n : Nat) (L0 M : List Blk) : Prop := ∃ m1 m2 o, M = prB pb ct rb :: (tbS ct m1 m2 n ++ (Rg.wst rb o ++ L0))
theorem PrE.up {pb ct rb n : Nat} {L0 M : List Blk} (h : PrE pb ct rb n L0 M) : ∃ T, M = prB pb ct rb :: T ∧ EnS ct rb n L0 T := by
 obtain ⟨m1, m2, o, rfl⟩ := h
 exact ⟨_, rfl, m1, m2, o, rfl⟩
theorem PrE.sub {pb ct rb n : Nat} {L0 M : List Blk} (h : PrE pb ct rb n L0 M) : L0.Sublist M := by
 obtain ⟨m1, m2, o, rfl⟩ := h
 exact List.Sublist.cons _ ((List.sublist_append_right _ _).trans (List.sublist_append_right _ _))
theorem calls_x {S w0} (B : List Blk) {pb ct rb n : Nat} {L0 M : List Blk} (h : PrE pb ct rb n L0 M) : Fn Tryz.prog 11 #[.pointer (some ⟨pb, 0, none⟩)] S w0 (B ++ M) fun v L' => v = .pointer (some ⟨ct, 0, none⟩) ∧ B ++ M = L' := by
 obtain ⟨m1, m2, o, rfl⟩ := h
 refine Fn.weak (fun w H => HP.swapA (e:=B) [_] H) ((calls_p (S:=S) (w0:=w0) (L:=B ++ (tbS ct m1 m2 n ++ (Rg.wst rb o ++ L0))) pb ct rb).mono ?_)
 rintro v L' ⟨rfl, rfl⟩
 exact ⟨_, ⟨rfl, rfl⟩, fun w H => HP.swapA (e:=[_]) B H⟩
theorem parse_x {S w0} (B : List Blk) {pb ct rb n : Nat} {L0 M : List Blk} (h : PrE pb ct rb n L0 M) (hn : n ≤ 90000) (s : ByteArray) (hs : s.size ≤ 1000000) :
  Fn Tryz.prog 10 #[.pointer (some ⟨pb, 0, none⟩), .string s] S w0 (B ++ M) fun v L' => ∃ (d : PoD) (n' : Nat) (M' : List Blk), v = h2y [.agg (polC (polF (lB s)).1 d.vr d.vp d.vq).toArray, .agg (wrA (polF (lB s)).2).toArray] ∧ d.ok (polF (lB s)).1 ∧ n' ≤ n + 65 ∧ PrE pb ct rb n' L0 M' ∧ B ++ (d.blocks ++ M') = L' := by
 obtain ⟨T, rfl, hT⟩ := h.up
 obtain ⟨T2, hT2, hput⟩ := hT.put (S:=S) (w0:=w0) B
 refine Fn.weak (fun w H => hput w [_] (HP.swapA (e:=B) [_] H)) ((parse_c (S:=S) (w0:=w0) pb ct rb n (B ++ L0) T2 hn hT2 s hs).mono ?_)
 rintro v L' ⟨d, n', T', rfl, hd, hn', hT', rfl⟩
 obtain ⟨T3, ⟨m1, m2, o, rfl⟩, hget⟩ := hT'.get (S:=S) (w0:=w0) B
 refine ⟨_, ⟨d, n', _, rfl, hd, hn', ⟨m1, m2, o, rfl⟩, rfl⟩, fun w H => ?_⟩
 have H2 := hget w ([prB pb ct rb] ++ d.blocks) (by rw [List.append_assoc]; exact H)
 exact HP.re2 (env:=[[prB pb ct rb], d.blocks, B, tbS ct m1 m2 n', Rg.wst rb o, L0]) [0, 1, 2, 3, 4, 5] [2, 1, 0, 3, 4, 5] (by decide) (by simp [flatB]) rfl H2
theorem check_x {S w0} (B : List Blk) {pb ct rb n : Nat} {L0 M : List Blk} (h : PrE pb ct rb n L0 M) (hn : n ≤ 90000) (P : GPol) (hP : P.ok) (vr vp vq : Value) (hS : PolS (B ++ L0) P vr vp vq) (hr : P.rules.length ≤ 1000) :
  Fn Tryz.prog 17 #[.agg (polG P vr vp vq).toArray, .pointer (some ⟨ct, 0, none⟩)] S w0 (B ++ M) fun v L' => ∃ n' M', v = .int .i64 (chkG P : Nat) ∧ n' ≤ n + P.rules.length ∧ PrE pb ct rb n' L0 M' ∧ B ++ M' = L' := by
 obtain ⟨m1, m2, o, rfl⟩ := h
 refine Fn.weak (fun w H => HP.re2 (env:=[B, [prB pb ct rb], tbS ct m1 m2 n, Rg.wst rb o, L0]) [0, 1, 2, 3, 4] [2, 1, 3, 0, 4] (by decide) rfl rfl H) ((check_c (S:=S) (w0:=w0) (L:=(prB pb ct rb :: Rg.wst rb o) ++ (B ++ L0)) P hP vr vp vq (hS.upA _) hr ct m1 m2 n hn).mono ?_)
 rintro v L' ⟨k1, k2, n', rfl, hn', rfl⟩
 exact ⟨_, ⟨n', _, rfl, hn', ⟨k1, k2, o, rfl⟩, rfl⟩, fun w H => HP.re2 (env:=[B, [prB pb ct rb], tbS ct k1 k2 n', Rg.wst rb o, L0]) [2, 1, 3, 0, 4] [0, 1, 2, 3, 4] (by decide) rfl rfl H⟩
theorem text_x {S w0} (B : List Blk) {pb ct rb n : Nat} {L0 M : List Blk} (h : PrE pb ct rb n L0 M) (hn : n ≤ 90000) (P : Pol) (hP : PolOk P) (hR : PolRn P) (vr vp vq : Value) (hS : PolS (B ++ L0) P.g vr vp vq) :
  Fn Tryz.prog 13 #[.agg (polC P vr vp vq).toArray, .pointer (some ⟨ct, 0, none⟩)] S w0 (B ++ M) fun v L' => ∃ M', v = .string (mB8 (polT P)) ∧ PrE pb ct rb (n + P.rules.length) L0 M' ∧ B ++ M' = L' := by
 obtain ⟨m1, m2, o, rfl⟩ := h
 refine Fn.weak (fun w H => HP.re2 (env:=[B, [prB pb ct rb], tbS ct m1 m2 n, Rg.wst rb o, L0]) [0, 1, 2, 3, 4] [2, 1, 3, 0, 4] (by decide) rfl rfl H) ((ptext_c (S:=S) (w0:=w0) (L:=(prB pb ct rb :: Rg.wst rb o) ++ (B ++ L0)) P hP hR vr vp vq (hS.upA _) ct m1 m2 n hn).mono ?_)
 rintro v L' ⟨k1, k2, rfl, rfl⟩
 exact ⟨_, ⟨_, rfl, ⟨k1, k2, o, rfl⟩, rfl⟩, fun w H => HP.re2 (env:=[B, [prB pb ct rb], tbS ct k1 k2 (n + P.rules.length), Rg.wst rb o, L0]) [2, 1, 3, 0, 4] [0, 1, 2, 3, 4] (by decide) rfl rfl H⟩
end Go.Proofs.YtecbgehooembmaaGreatDoor
