/- Part 12 of what the last text of this claim leans on: rules of walks, contracts, plain facts. Conditions: those of each statement. -/
import Derived.Test.YtecbgehooembmaaGreatDoorQo11
set_option maxRecDepth 100000
namespace Go.Proofs.YtecbgehooembmaaGreatDoor
open Go Go.RowKit
inductive Pull (e : List Blk) : List Blk → List Blk → Prop
 | here (R : List Blk) : Pull e (e ++ R) R
 | cons {x : Blk} {L L' : List Blk} (h : Pull e L L') : Pull e (x :: L) (x :: L')
 | app {f L L' : List Blk} (h : Pull e L L') : Pull e (f ++ L) (f ++ L')
inductive PullB (e : Blk) : List Blk → List Blk → Prop
 | here (R : List Blk) : PullB e (e :: R) R
 | cons {x : Blk} {L L' : List Blk} (h : PullB e L L') : PullB e (x :: L) (x :: L')
 | app {f L L' : List Blk} (h : PullB e L L') : PullB e (f ++ L) (f ++ L')
theorem Pull.perm {e L L' : List Blk} (h : Pull e L L') : L.Perm (e ++ L') := by
 induction h with
 | here R => exact .refl _
 | cons h ih => exact (ih.cons _).trans List.perm_middle.symm
 | app h ih => exact (ih.append_left _).trans (List.perm_append_comm_assoc _ _ _)
theorem PullB.perm {e : Blk} {L L' : List Blk} (h : PullB e L L') : L.Perm (e :: L') := by
 induction h with
 | here R => exact .refl _
 | cons h ih => exact (ih.cons _).trans (List.Perm.swap ..)
 | app h ih => exact (ih.append_left _).trans List.perm_middle
theorem Sel.appP {e L L1 L' : List Blk} (h : Pull e L L1) (h2 : Sel L1 L') : Sel L (e ++ L') := let ⟨M, h3, h4⟩ := h2; ⟨e ++ M, h.perm.trans (h3.append_left e), h4.append_left e⟩
theorem Sel.consP {e : Blk} {L L1 L' : List Blk} (h : PullB e L L1) (h2 : Sel L1 L') : Sel L (e :: L') := let ⟨M, h3, h4⟩ := h2; ⟨e :: M, h.perm.trans (h3.cons e), h4.cons_cons e⟩
theorem Sel.consS {e : Blk} {L L' : List Blk} (h2 : Sel L L') : Sel (e :: L) (e :: L') := let ⟨M, h3, h4⟩ := h2; ⟨e :: M, h3.cons e, h4.cons_cons e⟩
structure TkR (k : Nat) (R : List Blk) : Prop where
structure EqL (R M : List Blk) : Prop where
 eq : R = M
theorem clone_t {S w0 L X B R} (k : Nat) (P : GPol) (hN : FewN P) {vr vp vq : Value} (hS : PolS X P vr vp vq) (ht : TkR k R) (hX : SubB X R) (hL : Tl L B R) :
  Fn Tryz.prog 15 #[.agg #[.string (mB8 P.nm), .int .u32 P.df, vr, .int .u16 (P.hd : Nat), vp, vq]] S w0 L fun v L' => ∃ (r1 p1 q1 : Option Addr) (r3 p3 q3 : Nat) (E R' : List Blk), v = .agg #[.string (mB8 P.nm), .int .u32 P.df, .slice r1 P.rules.length r3, .int .u16 (P.hd : Nat), .slice p1 P.paths.length p3, .slice q1 P.ports.length q3] ∧ PolS E P (.slice r1 P.rules.length r3) (.slice p1 P.paths.length p3) (.slice q1 P.ports.length q3) ∧ TkR (k + 1) R' ∧ EqL R' (E ++ R) ∧ SubB X R' ∧ B ++ R' = L' := by
 have _ := ht
 rw [hL.eq]
 refine (clone_c (S:=S) (w0:=w0) P hN vr vp vq (hS.mono hX.upA)).mono ?_
 rintro v L' ⟨r1, p1, q1, r3, p3, q3, E, rfl, h, rfl⟩
 exact ⟨_, ⟨r1, p1, q1, r3, p3, q3, E, E ++ R, rfl, h, ⟨⟩, ⟨rfl⟩, hX.upA, rfl⟩, fun _ H => HP.swapA _ H⟩
theorem PolS.onlyA {X L : List Blk} {P : Pol} {vr vp vq : Value} (h : PolS X P.g vr vp vq) (hs : SubB X L) : PolS L (polA P).g vr (.slice none 0 0) (.slice none 0 0) := ⟨(h.mono hs).rs, ⟨none, 0, rfl, Sli.nil _ _⟩, ⟨none, 0, rfl, Sli.nil _ _⟩, h.l1, Nat.zero_le _, Nat.zero_le _⟩
theorem PolS.onlyB {X L : List Blk} {P : Pol} {vr vp vq : Value} (h : PolS X P.g vr vp vq) (hs : SubB X L) : PolS L (polB P).g (.slice none 0 0) vp (.slice none 0 0) := ⟨⟨none, 0, [], rfl, Sli.nil _ _, rfl⟩, (h.mono hs).ps, ⟨none, 0, rfl, Sli.nil _ _⟩, Nat.zero_le _, h.l2, Nat.zero_le _⟩
theorem PolS.onlyC {X L : List Blk} {P : Pol} {vr vp vq : Value} (h : PolS X P.g vr vp vq) (hs : SubB X L) : PolS L (polCq P).g (.slice none 0 0) (.slice none 0 0) vq := ⟨⟨none, 0, [], rfl, Sli.nil _ _, rfl⟩, ⟨none, 0, rfl, Sli.nil _ _⟩, (h.mono hs).qs, Nat.zero_le _, Nat.zero_le _, h.l3⟩
theorem polS_h {L : List Blk} (P : Pol) : PolS L (polH P).g (.slice none 0 0) (.slice none 0 0) (.slice none 0 0) := ⟨⟨none, 0, [], rfl, Sli.nil _ _, rfl⟩, ⟨none, 0, rfl, Sli.nil _ _⟩, ⟨none, 0, rfl, Sli.nil _ _⟩, Nat.zero_le _, Nat.zero_le _, Nat.zero_le _⟩
def strV (l : List (List UInt8)) : List Value := l.map fun x => .string (mB8 x)
theorem strV_snoc (l : List (List UInt8)) (x : List UInt8) : strV l ++ [.string (mB8 x)] = strV (l ++ [x]) := by simp [strV]
theorem cut_cnt (l : List UInt8) : ∀ s : List (List UInt8) × List UInt8, (l.foldl cutS s).1.length ≤ s.1.length + l.length ∧ (l.foldl cutS s).2.length ≤ s.2.length + l.length := by
 induction l with
 | nil => intro s; exact ⟨Nat.le_refl _, Nat.le_refl _⟩
 | cons c r ih =>
  intro s
  have h := ih (cutS s c)
  have h2 : (cutS s c).1.length ≤ s.1.length + 1 ∧ (cutS s c).2.length ≤ s.2.length + 1 := by
   unfold cutS
   split
   ·exact ⟨by simp, by simp⟩
   ·exact ⟨by simp, by simp⟩
  rw [List.foldl_cons, List.length_cons]
  omega
theorem cut_cnt0 (l : List UInt8) : (cutL l).1.length ≤ l.length ∧ (cutL l).2.length ≤ l.length := by
 have := cut_cnt l ([], [])
 simpa [cutL] using this
theorem cut_at {l : List UInt8} {p : Nat} (h : p < l.length) : cutL (l.take (p + 1)) = cutS (cutL (l.take p)) l[p] := by
 rw [List.take_succ_eq_append_getElem h, cutL_snoc]
theorem own_slc' {E size : Nat} {v : Value} {n : Nat} {xs : List Value} {e : List Blk} (h : Own E size v n xs e) (L : List Blk) : ∃ a cap, v = .slice a n cap ∧ n ≤ cap ∧ Sli (e ++ L) a n size xs := by
 obtain ⟨a, cap, h1, h2⟩ := h.sli L
 rcases h3i h with ⟨h3, h4, _, _⟩ | ⟨g, c, cur, h3, _, h5, _, _⟩
 ·rw [h3] at h1; cases h1
  exact ⟨_, _, by rw [h3, h4], by omega, h2⟩
 ·rw [h3] at h1; cases h1
  exact ⟨_, _, h3, h5, h2⟩
theorem own_sla' {E size : Nat} {v : Value} {n : Nat} {xs : List Value} {e : List Blk} (h : Own E size v n xs e) : ∃ a cap, v = .slice a n cap ∧ n ≤ cap ∧ ∀ L, Sli (e ++ L) a n size xs := by
 obtain ⟨a, cap, h1, h2, _⟩ := own_slc' h []
 refine ⟨a, cap, h1, h2, fun L => ?_⟩
 obtain ⟨a', cap', h1', _, h3⟩ := own_slc' h L
 rw [h1] at h1'; cases h1'
 exact h3
theorem polT_h (P : Pol) : polT (polH P) = h4p (ordL P.nm P.df P.hd []) := by simp [polT, polL, polH, ordL]
theorem ord_snoc (nm : List UInt8) (df : Int) (hd : Nat) (X : List It) (it : It) : h4p (ordL nm df hd (X ++ [it])) = h4p (ordL nm df hd X) ++ lnT (itL it) := by
 unfold ordL h4p lnT
 simp
theorem ord_app (nm : List UInt8) (df : Int) (hd : Nat) (X Y : List It) : h4p (ordL nm df hd (X ++ Y)) = h4p (ordL nm df hd X) ++ Y.flatMap fun it => lnT (itL it) := by
 unfold ordL h4p lnT
 simp [List.flatMap_map]
theorem fm_rr (l : List RulP) : (l.map It.r).flatMap itR = l ∧ (l.map It.r).flatMap itP = [] ∧ (l.map It.r).flatMap itQ = [] := by
 induction l with
 | nil => exact ⟨rfl, rfl, rfl⟩
 | cons x r ih => simp [itR, itP, itQ, ih]
theorem fm_pp (l : List (List UInt8 × Nat)) : (l.map It.p).flatMap itR = [] ∧ (l.map It.p).flatMap itP = l ∧ (l.map It.p).flatMap itQ = [] := by
 induction l with
 | nil => exact ⟨rfl, rfl, rfl⟩
 | cons x r ih => simp [itR, itP, itQ, ih]
theorem fm_qq (l : List (Nat × Nat)) : (l.map It.q).flatMap itR = [] ∧ (l.map It.q).flatMap itP = [] ∧ (l.map It.q).flatMap itQ = l := by
 induction l with
 | nil => exact ⟨rfl, rfl, rfl⟩
 | cons x r ih => simp [itR, itP, itQ, ih]
structure OrX (P : Pol) (X : List It) (ja jb jc : Nat) : Prop where
 a : X.flatMap itR = P.rules.take ja
 b : X.flatMap itP = P.paths.take jb
 c : X.flatMap itQ = P.ports.take jc
def restX (P : Pol) (ja jb jc : Nat) : List It := (P.rules.drop ja).map It.r ++ ((P.paths.drop jb).map It.p ++ (P.ports.drop jc).map It.q)
theorem OrX.full {P : Pol} {X : List It} {ja jb jc : Nat} (h : OrX P X ja jb jc) (hok : PolOk P) (hrn : PolRn P) : polF (h4p (ordL P.nm P.df P.hd (X ++ restX P ja jb jc))) = (P, (0, 0, 0)) ∧ (h4p (ordL P.nm P.df P.hd (X ++ restX P ja jb jc))).length ≤ 55000 := by
 refine ord_back P hok hrn _ ?_ ?_ ?_
 ·simp only [restX, List.flatMap_append, h.a, fm_rr, fm_pp, fm_qq, List.append_nil, List.take_append_drop]
 ·simp only [restX, List.flatMap_append, h.b, fm_rr, fm_pp, fm_qq, List.append_nil, List.nil_append, List.take_append_drop]
 ·simp only [restX, List.flatMap_append, h.c, fm_rr, fm_pp, fm_qq, List.append_nil, List.nil_append, List.take_append_drop]
theorem OrX.len {P : Pol} {X : List It} {ja jb jc : Nat} (h : OrX P X ja jb jc) (hok : PolOk P) (hrn : PolRn P) : (h4p (ordL P.nm P.df P.hd X)).length ≤ 55000 := by
 have := (h.full hok hrn).2
 rw [ord_app, List.length_append] at this
 omega
theorem OrX.upA {P : Pol} {X : List It} {ja jb jc : Nat} (h : OrX P X ja jb jc) (hl : ja < P.rules.length) : OrX P (X ++ [.r P.rules[ja]]) (ja + 1) jb jc := ⟨by rw [List.flatMap_append, h.a, List.take_succ_eq_append_getElem hl]; rfl, by rw [List.flatMap_append, h.b]; exact List.append_nil _, by rw [List.flatMap_append, h.c]; exact List.append_nil _⟩
theorem OrX.upB {P : Pol} {X : List It} {ja jb jc : Nat} (h : OrX P X ja jb jc) (hl : jb < P.paths.length) : OrX P (X ++ [.p P.paths[jb]]) ja (jb + 1) jc := ⟨by rw [List.flatMap_append, h.a]; exact List.append_nil _, by rw [List.flatMap_append, h.b, List.take_succ_eq_append_getElem hl]; rfl, by rw [List.flatMap_append, h.c]; exact List.append_nil _⟩
theorem OrX.upC {P : Pol} {X : List It} {ja jb jc : Nat} (h : OrX P X ja jb jc) (hl : jc < P.ports.length) : OrX P (X ++ [.q P.ports[jc]]) ja jb (jc + 1) := ⟨by rw [List.flatMap_append, h.a]; exact List.append_nil _, by rw [List.flatMap_append, h.b]; exact List.append_nil _, by rw [List.flatMap_append, h.c, List.take_succ_eq_append_getElem hl]; rfl⟩
theorem OrX.done {P : Pol} {X : List It} (h : OrX P X P.rules.length P.paths.length P.ports.length) (hok : PolOk P) (hrn : PolRn P) : polF (h4p (ordL P.nm P.df P.hd X)) = (P, (0, 0, 0)) := by
 have := (h.full hok hrn).1
 simpa [restX] using this
structure OrL where
 i : Nat
 X : List It
 ja : Nat
 jb : Nat
 jc : Nat
 aA : Option Addr
 aB : Option Addr
 aC : Option Addr
 cA : Nat
 cB : Nat
 cC : Nat
structure OrI (P : Pol) (R9 : List Blk) (lA lB lC : List (List UInt8)) (lr lp lq N : Nat) (g : OrL) : Prop where
 i : g.i ≤ N
 ja : g.ja ≤ lr
 jb : g.jb ≤ lp
 jc : g.jc ≤ lq
 x : OrX P g.X g.ja g.jb g.jc
 sA : Sli R9 g.aA (lr - g.ja) 1 ((strV lA).drop g.ja)
 sB : Sli R9 g.aB (lp - g.jb) 1 ((strV lB).drop g.jb)
 sC : Sli R9 g.aC (lq - g.jc) 1 ((strV lC).drop g.jc)
 uA : lr - g.ja ≤ g.cA
 uB : lp - g.jb ≤ g.cB
 uC : lq - g.jc ≤ g.cC
theorem sli_next {R : List Blk} {a : Option Addr} {n j cap : Nat} {vs : List Value} (h : Sli R a (n - j) 1 (vs.drop j)) (hj : j < n) (hc : n - j ≤ cap) : Sli R (slO a 1 cap 1) (n - (j + 1)) 1 (vs.drop (j + 1)) := by
 have h2 := h.cut (lo:=1) (hi:=n - j) (by omega) (Nat.le_refl _) hc
 have hl : (vs.drop j).length = (n - j) * 1 := h.1
 have e : ((vs.drop j).drop (1 * 1)).take ((n - j - 1) * 1) = vs.drop (j + 1) := by
  rw [List.drop_drop, List.take_of_length_le]
  rw [List.length_drop] at hl ⊢
  omega
 rw [e] at h2
 rw [show n - (j + 1) = n - j - 1 by omega]
 exact h2
structure OrK where
 k : Nat
 n : Nat
 M : List Blk
 vA : Value
 vB : Value
 vC : Value
 eA : List Blk
 eB : List Blk
 eC : List Blk
section
variable {n : Nat} {l l' : List (Nat × Value)} {S : List Nat} {w0 : World} {L L' : List Blk} {K : Act → World → Prop} {P : Program} {ops : Array Oper} {k : Kont} {fuel : Nat} {listed listed' : Array Bool} {Lb : List Blk}
theorem HP.mv1 {w : World} {x y : Blk} (H : HP S w0 w (x :: y :: L)) : HP S w0 w (y :: x :: L) := H.perm (List.Perm.swap ..)
theorem HP.mv2 {w : World} {x y z : Blk} (H : HP S w0 w (x :: y :: z :: L)) : HP S w0 w (y :: z :: x :: L) := H.perm ((List.Perm.swap ..).trans ((List.Perm.swap ..).cons _))
theorem pre2 (x y : Blk) (R : List Blk) : List.Sublist [x, y] (x :: y :: R) := (List.nil_sublist R).cons_cons _ |>.cons_cons _
theorem G_weak (h : G n l' S w0 L' K) (hs : Sub l l') (hL : ∀ w, HP S w0 w L → HP S w0 w L') : G n l S w0 L K := .mk fun a w hf H => h.out a w (hf.sub hs) (hL w H)
theorem G_mask (e : listed = listed') (h : G n l S w0 L (KH P S w0 Lb ops k fuel listed')) : G n l S w0 L (KH P S w0 Lb ops k fuel listed) := e ▸ h
theorem h1w (h : G n l' S w0 L' (KH P S w0 Lb ops k fuel listed')) (hL : ∀ w, HP S w0 w L → HP S w0 w L' := by exact fun _ H => H) (hB : ∀ w, HP S w0 w L → HP S w0 w Lb := by exact fun _ H => H.sub (by repeat (first | exact pre2 _ _ _ | refine List.Sublist.cons _ ?_))) (e : listed = listed' := by kernel_rfl) (hs : Sub l l' := by repeat (first | exact Sub.nil | refine Sub.cons rfl ?_)) : G n l S w0 L (KHS P S w0 Lb ops k fuel listed) := h1g hB (G_mask e (G_weak h hs hL))
theorem dag_start (h : ∀ (ops' : Array Oper) (k' : Kont), ops' = ops → k' = k → G n l S w0 L (KH P S w0 Lb ops' k' fuel listed)) : G n l S w0 L (KH P S w0 Lb ops k fuel listed) := h ops k rfl rfl
end
abbrev tT : Bool := true
abbrev fF : Bool := false
abbrev poZ (n : Nat) : Blk := ⟨true, n, .cells #[.string ⟨#[]⟩, .int .u32 0, .slice none 0 0, .int .u16 0, .slice none 0 0, .slice none 0 0] 36 (0, 0)⟩
def CV (nmB : ByteArray) (df : Int) (lr hd lp lq : Nat) (GG : GPol) (v : Value) (E : List Blk) : Prop := ∃ (r1 p1 q1 : Option Addr) (r3 p3 q3 : Nat), v = .agg #[.string nmB, .int .u32 df, .slice r1 lr r3, .int .u16 (hd : Nat), .slice p1 lp p3, .slice q1 lq q3] ∧ PolS E GG (.slice r1 lr r3) (.slice p1 lp p3) (.slice q1 lq q3)
structure OrG where
 n8 : Nat
 n9 : Nat
 n10 : Nat
 ra : Option Addr
 ra' : Nat
 pb : Option Addr
 pb' : Nat
 qc : Option Addr
 qc' : Nat
 x1 : Value
 x2 : Value
 x3 : Value
 x4 : Value
 x5 : Value
 x6 : Value
 E1 : List Blk
 E2 : List Blk
 E3 : List Blk
 Rc : List Blk
section
variable {n : Nat} {l : List (Nat × Value)} {S : List Nat} {w0 : World} {L : List Blk}
theorem G_meetOR {R : OrG → Prop} {l' : OrG → List (Nat × Value)} {L' : OrG → List Blk} {n8 n9 n10 : Nat} {ra : Option Addr} {ra' : Nat} {pb : Option Addr} {pb' : Nat} {qc : Option Addr} {qc' : Nat} {x1 x2 x3 x4 x5 x6 : Value} {E1 E2 E3 Rc : List Blk}
  (hR : R ⟨n8, n9, n10, ra, ra', pb, pb', qc, qc', x1, x2, x3, x4, x5, x6, E1, E2, E3, Rc⟩) (hs : Sub l (l' ⟨n8, n9, n10, ra, ra', pb, pb', qc, qc', x1, x2, x3, x4, x5, x6, E1, E2, E3, Rc⟩)) (hL : ∀ w, HP S w0 w L → HP S w0 w (L' ⟨n8, n9, n10, ra, ra', pb, pb', qc, qc', x1, x2, x3, x4, x5, x6, E1, E2, E3, Rc⟩)) :
  G n l S w0 L (At n S w0 R l' L') := h0w _ hR hs hL
end
set_option maxHeartbeats 40000000 in
theorem parseOrder_c {S w0 L} (s : SPol) (hs : s.ok) (svr svp svg svq : Value) (hS : SPolS L s svr svp svg svq) (l : List Int) (hl : ∀ c ∈ l, 0 ≤ c ∧ c < 256) (hm : l.length ≤ 140737488351232) (a : Option Addr) (cap : Nat) (hsl : Sli L a l.length 1 (u8l l)) :
  Fn Tryz.prog 5 #[.agg #[.int .u8 s.nm, .int .u8 s.df, .int .u8 s.en, svr, .int .u16 (s.hd : Nat), svp, svg, svq], .slice a l.length cap] S w0 L fun v L' => v = .bool true ∧ L = L' := by
 obtain ⟨⟨sa, sc, sz, rfl, -, -⟩, ⟨ta, tc, rfl, -⟩, ⟨ua, uc, rfl, -⟩, ⟨xa, xc, rfl, -⟩, -, -, -, -⟩ := id hS
 refine Fn2 Tryz.func5 Tryz.ntmps5 rfl rfl ?_
 have hsp := fun (L' : List Blk) hX => smpol_m (S:=S) (w0:=w0) (L:=L') (X:=L) s hs _ _ _ _ hS hX
 repeat' (first | (refine h2h (id:=5) ?_) | refine h0p ?_ | refine h0e ?_ | refine h0u ?_ | refine h0h rfl ?_ | (refine gR 0 ?_ <;> (try refine h0f ?_; (refine h5b (t:=48) rfl rfl ?_; intro nb hnb; (try simp only [Value.cells]))) <;> (try refine p_a (h:=h0d ?_))) | (refine gR 1 ?_ <;> (try refine h0f ?_; (refine q_c 8 (c:=by apply awake10_c) (h:=?_); rintro _ _ ⟨rfl, rfl⟩; (try simp only [zzE, zzF]))) <;> (try refine p_e (by apply E_un; exact rfl; exact h4a) (h:=h0d ?_))) | (refine gR 3 ?_ <;> (try refine h0f ?_; (refine q_c 9 (c:=by apply new_q) (h:=?_); rintro _ _ ⟨pb, ct, rb, rfl, rfl⟩; (try simp only [zzE, zzF]))) <;> (try refine p_a (h:=h0d ?_))) | (refine gR 4 (q_e (q_L sz_48) ?_) <;> (try refine h0f ?_; (refine q_c 12 (c:=by apply hsp; (focus ((try simp only [zzC, zzN, List.append_assoc]); (repeat' (first | (with_reducible exact SubB.refl _) | (with_reducible apply SubB.up)))))) (h:=?_); rintro _ _ ⟨P, r1, p1, q1, r3, p3, q3, E, rfl, hok, hrn, hPS, hi2, rfl⟩; (try simp only [zzE, zzF]))) <;> (try refine h0f ?_; (refine h0i (t:=36) rfl Tryz.zeroValue36 ?_; intro nb hnb; (try simp only [Value.cells]))) <;> (try refine h0f ?_; (refine q_W ?_)) <;> (try refine h0d ?_)))
 refine ⟨?_⟩
 rename_i n2 _
 obtain ⟨n6, rfl⟩ : ∃ x, x = nb := ⟨_, rfl⟩
 clear hsp
 have elr : P.g.rules.length = P.rules.length := List.length_map ..
 have hcl := fun (L B R : List Blk) (k : Nat) => clone_t (S:=S) (w0:=w0) (L:=L) (X:=E) (B:=B) (R:=R) k P.g (pol_fewN hok) hPS
 rw [elr] at hcl
 simp only [show P.g.nm = P.nm from rfl, show P.g.df = P.df from rfl, show P.g.hd = P.hd from rfl, show P.g.paths = P.paths from rfl, show P.g.ports = P.ports from rfl] at hcl
 have hc0 := fun (L B R : List Blk) => hcl L B R 0
 have hc1 := fun (L B R : List Blk) => hcl L B R 1
 have hc2 := fun (L B R : List Blk) => hcl L B R 2
 clear hcl
 generalize hnB : mB8 P.nm = nmB at *
 generalize hGG : P.g = GG at *
 generalize hlr : P.rules.length = lr at *
 generalize hlp : P.paths.length = lp at *
 generalize hlq : P.ports.length = lq at *
 generalize hdf : P.df = df at *
 generalize hhd : P.hd = hd at *
 repeat' (first | (refine h2h (id:=6) ?_) | refine h0p ?_ | refine h0e ?_ | (refine gR 5 ?_ <;> (try refine q_e (by exact h0s (t:=57) (fun vs => (match vs with | [] => [Value.slice none 0 0, Value.slice none 0 0, Value.slice none 0 0] | _ => [])) rfl (fun w => by kernel_rfl)) ?_; (try simp only [Value.cells]); (try simp only [zzC, zzN])) <;> (try refine h0f ?_; (refine h0i (t:=57) rfl Tryz.zeroValue57 ?_; intro nb hnb; (try simp only [Value.cells]))) <;> (try refine h0f ?_; (refine q_W ?_)) <;> (try refine h0d ?_)))
 refine ⟨?_⟩
 obtain ⟨n7, rfl⟩ : ∃ x, x = nb := ⟨_, rfl⟩
 have hM : PrE pb ct rb 0 (smB n2 s.nm s.df s.en (.slice sa s.rules.length sc) s.hd (.slice ta s.paths.length tc) (.slice ua s.rights.length uc) (.slice xa s.ports.length xc) :: L) (prB pb ct rb :: tbl0 ct 0 0 :: Rg.wrd0 rb :: smB n2 s.nm s.df s.en (.slice sa s.rules.length sc) s.hd (.slice ta s.paths.length tc) (.slice ua s.rights.length uc) (.slice xa s.ports.length xc) :: L) := ⟨0, 0, none, rfl⟩
 obtain ⟨L0, hL0⟩ : ∃ M : List Blk, M = smB n2 s.nm s.df s.en (.slice sa s.rules.length sc) s.hd (.slice ta s.paths.length tc) (.slice ua s.rights.length uc) (.slice xa s.ports.length xc) :: L := ⟨_, rfl⟩
 obtain ⟨M0, hM0⟩ : ∃ M : List Blk, M = prB pb ct rb :: tbl0 ct 0 0 :: Rg.wrd0 rb :: smB n2 s.nm s.df s.en (.slice sa s.rules.length sc) s.hd (.slice ta s.paths.length tc) (.slice ua s.rights.length uc) (.slice xa s.ports.length xc) :: L := ⟨_, rfl⟩
 have hLL : L.Sublist L0 := hL0 ▸ List.sublist_cons_self _ _
 obtain ⟨R2, hR2⟩ : ∃ M : List Blk, M = E ++ M0 := ⟨_, rfl⟩
 have tk0 : TkR 0 R2 := ⟨⟩
 have hER : SubB E R2 := hR2 ▸ SubB.left _ _
 refine h3y (L' := ⟨true, n7, .cells #[.slice none 0 0, .slice none 0 0, .slice none 0 0] 57 (0, 0)⟩ :: ⟨true, n6, .cells #[.string nmB, .int .u32 df, .slice r1 lr r3, .int .u16 (hd : Nat), .slice p1 lp p3, .slice q1 lq q3] 36 (0, 0)⟩ :: R2) (by intro w H; rw [hR2, hM0]; exact H) ?_
 rw [← hM0, ← hL0] at hM
 clear hM0 hL0 hS
 refine h2z (γ:=OrG) (fun g => PolS g.E1 GG (.slice g.ra lr g.ra') g.x1 g.x2 ∧ PolS g.E2 GG g.x3 (.slice g.pb lp g.pb') g.x4 ∧ PolS g.E3 GG g.x5 g.x6 (.slice g.qc lq g.qc') ∧ g.Rc = g.E3 ++ (g.E2 ++ (g.E1 ++ R2))) (fun g => [(8, .pointer (some ⟨g.n8, 0, none⟩)), (9, .pointer (some ⟨g.n9, 0, none⟩)), (10, .pointer (some ⟨g.n10, 0, none⟩))]) [(1, _), (5, _), (6, _), (7, _)]
  (fun g => ⟨true, g.n8, .cells #[.string nmB, .int .u32 df, .slice g.ra lr g.ra', .int .u16 (hd : Nat), g.x1, g.x2] 36 (0, 0)⟩ :: ⟨true, g.n9, .cells #[.string nmB, .int .u32 df, g.x3, .int .u16 (hd : Nat), .slice g.pb lp g.pb', g.x4] 36 (0, 0)⟩ :: ⟨true, g.n10, .cells #[.string nmB, .int .u32 df, g.x5, .int .u16 (hd : Nat), g.x6, .slice g.qc lq g.qc'] 36 (0, 0)⟩ :: ⟨true, n7, .cells #[.slice none 0 0, .slice none 0 0, .slice none 0 0] 57 (0, 0)⟩ :: ⟨true, n6, .cells #[.string nmB, .int .u32 df, .slice r1 lr r3, .int .u16 (hd : Nat), .slice p1 lp p3, .slice q1 lq q3] 36 (0, 0)⟩ :: g.Rc) (.cons rfl (.cons rfl (.cons rfl (.cons rfl .nil)))) ?_ ?_
 ·clear hM hPS hsl hl hm hR2 hLL
  refine h2t (pre:=[_, _]) (id:=6) (m:=12) rfl (by kernel_rfl) rfl ?_
  (refine q_t 0 (e:=h2x) (x:=by exact q_L sz_36) (h:=?_))
  (refine q_t 2 (e:=h2x) (x:=by exact q_L sz_36) (h:=?_))
  (refine q_t 4 (e:=h2x) (x:=by exact q_L sz_36) (h:=?_))
  generalize (⟨true, n7, .cells #[.slice none 0 0, .slice none 0 0, .slice none 0 0] 57 (0, 0)⟩ : Blk) = b7
  generalize (⟨true, n6, .cells #[.string nmB, .int .u32 df, .slice r1 lr r3, .int .u16 (hd : Nat), .slice p1 lp p3, .slice q1 lq q3] 36 (0, 0)⟩ : Blk) = b6
  generalize (.agg #[.string nmB, .int .u32 df, .slice r1 lr r3, .int .u16 (hd : Nat), .slice p1 lp p3, .slice q1 lq q3] : Value) = pv at *
  generalize (.slice a l.length cap : Value) = w1
  generalize (.pointer (some ⟨pb, 0, none⟩) : Value) = w5
  generalize (.pointer (some ⟨n6, 0, none⟩) : Value) = w6
  generalize (.pointer (some ⟨n7, 0, none⟩) : Value) = w7
  refine dag_start ?_
  intro ops kt hops hkt
  have h3abc : ∀ (n8 n9 n10 : Nat) (v1 v2 v3 : Value) (E1 E2 E3 : List Blk) (R : List Blk), CV nmB df lr hd lp lq GG v1 E1 → CV nmB df lr hd lp lq GG v2 E2 → CV nmB df lr hd lp lq GG v3 E3 → TkR 3 R → EqL R (E3 ++ (E2 ++ (E1 ++ R2))) → SubB E R → G 162 [(35, v1), (37, v2), (39, v3), (8, .pointer (some ⟨n8, 0, none⟩)), (9, .pointer (some ⟨n9, 0, none⟩)), (10, .pointer (some ⟨n10, 0, none⟩)), (34, pv), (36, pv), (38, pv), (1, w1), (5, w5), (6, w6), (7, w7)] S w0 (poZ n8 :: poZ n9 :: poZ n10 :: b7 :: b6 :: R) (KH Tryz.prog S w0 [b7, b6] ops kt 3 #[tT, tT, tT, tT, tT, tT, tT, tT, tT, fF, fF, fF]) := by
   intro n8 n9 n10 v1 v2 v3 E1 E2 E3 R hv1 hv2 hv3 tk hR hX
   subst hops hkt
   obtain ⟨a1, a2, a3, a4, a5, a6, rfl, hSa⟩ := hv1
   obtain ⟨b1, b2, b3, b4, b5, b6, rfl, hSb⟩ := hv2
   obtain ⟨c1, c2, c3, c4, c5, c6, rfl, hSc⟩ := hv3
   dsimp only [poZ]
   refine H_run (i:=9) rfl (by kernel_rfl) ?_
   ((refine q_W ?_); refine h1g c_8 ?_)
   refine H_run (i:=10) rfl (by kernel_rfl) ?_
   ((refine q_W ?_); refine h1g c_8 ?_)
   refine H_run (i:=11) rfl (by kernel_rfl) ?_
   ((refine q_W ?_); refine h1g c_8 ?_)
   refine h1e (by kernel_rfl) ?_
   refine h0t ?_
   apply G_meetOR; exact ⟨hSa, hSb, hSc, hR.eq⟩; (focus (focus (repeat (first | exact Sub.nil | refine Sub.cons rfl ?_)))); (focus (intro w H; refine Sel.out ?_ H; (try dsimp only); (try simp only [List.cons_append, List.nil_append, List.append_assoc]); with_reducible repeat (first | exact Sel.refl _ | exact Sel.nil _ | apply Sel.appS | apply Sel.consS | (apply Sel.appP; (focus ((repeat (first | exact Pull.here _ | apply Pull.cons | apply Pull.app)); done))) | (apply Sel.consP; (focus ((repeat (first | exact PullB.here _ | apply PullB.cons | apply PullB.app)); done))) | apply Sel.drop | apply Sel.dropA)))
  have h3ab : ∀ (n8 n9 : Nat) (v1 v2 v3 : Value) (E1 E2 E3 : List Blk) (R : List Blk), CV nmB df lr hd lp lq GG v1 E1 → CV nmB df lr hd lp lq GG v2 E2 → CV nmB df lr hd lp lq GG v3 E3 → TkR 3 R → EqL R (E3 ++ (E2 ++ (E1 ++ R2))) → SubB E R → G 162 [(35, v1), (37, v2), (39, v3), (8, .pointer (some ⟨n8, 0, none⟩)), (9, .pointer (some ⟨n9, 0, none⟩)), (34, pv), (36, pv), (38, pv), (1, w1), (5, w5), (6, w6), (7, w7)] S w0 (poZ n8 :: poZ n9 :: b7 :: b6 :: R) (KH Tryz.prog S w0 [b7, b6] ops kt 4 #[tT, tT, tT, tT, tT, tT, tT, tT, fF, fF, fF, fF]) := by
   intro n8 n9 v1 v2 v3 E1 E2 E3 R hv1 hv2 hv3 tk hR hX
   subst hops
   refine H_run (i:=8) rfl (by kernel_rfl) ?_
   (refine h0i (t:=36) rfl Tryz.zeroValue36 ?_; intro nb hnb; (try simp only [Value.cells]))
   exact h1w (h3abc n8 n9 nb v1 v2 v3 E1 E2 E3 R hv1 hv2 hv3 tk hR hX) (hL:=fun _ H => H.mv2)
  have h3ac : ∀ (n8 n10 : Nat) (v1 v2 v3 : Value) (E1 E2 E3 : List Blk) (R : List Blk), CV nmB df lr hd lp lq GG v1 E1 → CV nmB df lr hd lp lq GG v2 E2 → CV nmB df lr hd lp lq GG v3 E3 → TkR 3 R → EqL R (E3 ++ (E2 ++ (E1 ++ R2))) → SubB E R → G 162 [(35, v1), (37, v2), (39, v3), (8, .pointer (some ⟨n8, 0, none⟩)), (10, .pointer (some ⟨n10, 0, none⟩)), (34, pv), (36, pv), (38, pv), (1, w1), (5, w5), (6, w6), (7, w7)] S w0 (poZ n8 :: poZ n10 :: b7 :: b6 :: R) (KH Tryz.prog S w0 [b7, b6] ops kt 4 #[tT, tT, tT, tT, tT, tT, tT, fF, tT, fF, fF, fF]) := by
   intro n8 n10 v1 v2 v3 E1 E2 E3 R hv1 hv2 hv3 tk hR hX
   subst hops
   refine H_run (i:=7) rfl (by kernel_rfl) ?_
   (refine h0i (t:=36) rfl Tryz.zeroValue36 ?_; intro nb hnb; (try simp only [Value.cells]))
   exact h1w (h3abc n8 nb n10 v1 v2 v3 E1 E2 E3 R hv1 hv2 hv3 tk hR hX) (hL:=fun _ H => H.mv1)
  have h3bc : ∀ (n9 n10 : Nat) (v1 v2 v3 : Value) (E1 E2 E3 : List Blk) (R : List Blk), CV nmB df lr hd lp lq GG v1 E1 → CV nmB df lr hd lp lq GG v2 E2 → CV nmB df lr hd lp lq GG v3 E3 → TkR 3 R → EqL R (E3 ++ (E2 ++ (E1 ++ R2))) → SubB E R → G 162 [(35, v1), (37, v2), (39, v3), (9, .pointer (some ⟨n9, 0, none⟩)), (10, .pointer (some ⟨n10, 0, none⟩)), (34, pv), (36, pv), (38, pv), (1, w1), (5, w5), (6, w6), (7, w7)] S w0 (poZ n9 :: poZ n10 :: b7 :: b6 :: R) (KH Tryz.prog S w0 [b7, b6] ops kt 4 #[tT, tT, tT, tT, tT, tT, fF, tT, tT, fF, fF, fF]) := by
   intro n9 n10 v1 v2 v3 E1 E2 E3 R hv1 hv2 hv3 tk hR hX
   subst hops
   refine H_run (i:=6) rfl (by kernel_rfl) ?_
   (refine h0i (t:=36) rfl Tryz.zeroValue36 ?_; intro nb hnb; (try simp only [Value.cells]))
   exact h1w (h3abc nb n9 n10 v1 v2 v3 E1 E2 E3 R hv1 hv2 hv3 tk hR hX)
  have h3a : ∀ (n8 : Nat) (v1 v2 v3 : Value) (E1 E2 E3 : List Blk) (R : List Blk), CV nmB df lr hd lp lq GG v1 E1 → CV nmB df lr hd lp lq GG v2 E2 → CV nmB df lr hd lp lq GG v3 E3 → TkR 3 R → EqL R (E3 ++ (E2 ++ (E1 ++ R2))) → SubB E R → G 162 [(35, v1), (37, v2), (39, v3), (8, .pointer (some ⟨n8, 0, none⟩)), (34, pv), (36, pv), (38, pv), (1, w1), (5, w5), (6, w6), (7, w7)] S w0 (poZ n8 :: b7 :: b6 :: R) (KH Tryz.prog S w0 [b7, b6] ops kt 5 #[tT, tT, tT, tT, tT, tT, tT, fF, fF, fF, fF, fF]) := by
   intro n8 v1 v2 v3 E1 E2 E3 R hv1 hv2 hv3 tk hR hX
   subst hops
   refine h2d (i:=7) (j:=8) rfl rfl (by kernel_rfl) ?_ ?_
   ·refine TagA.mk ?_
    (refine h0i (t:=36) rfl Tryz.zeroValue36 ?_; intro nb hnb; (try simp only [Value.cells]))
    exact h1w (h3ab n8 nb v1 v2 v3 E1 E2 E3 R hv1 hv2 hv3 tk hR hX) (hL:=fun _ H => H.mv1)
   ·refine TagB.mk ?_
    (refine h0i (t:=36) rfl Tryz.zeroValue36 ?_; intro nb hnb; (try simp only [Value.cells]))
    exact h1w (h3ac n8 nb v1 v2 v3 E1 E2 E3 R hv1 hv2 hv3 tk hR hX) (hL:=fun _ H => H.mv1)
  have h3b : ∀ (n9 : Nat) (v1 v2 v3 : Value) (E1 E2 E3 : List Blk) (R : List Blk), CV nmB df lr hd lp lq GG v1 E1 → CV nmB df lr hd lp lq GG v2 E2 → CV nmB df lr hd lp lq GG v3 E3 → TkR 3 R → EqL R (E3 ++ (E2 ++ (E1 ++ R2))) → SubB E R → G 162 [(35, v1), (37, v2), (39, v3), (9, .pointer (some ⟨n9, 0, none⟩)), (34, pv), (36, pv), (38, pv), (1, w1), (5, w5), (6, w6), (7, w7)] S w0 (poZ n9 :: b7 :: b6 :: R) (KH Tryz.prog S w0 [b7, b6] ops kt 5 #[tT, tT, tT, tT, tT, tT, fF, tT, fF, fF, fF, fF]) := by
   intro n9 v1 v2 v3 E1 E2 E3 R hv1 hv2 hv3 tk hR hX
   subst hops
   refine h2d (i:=6) (j:=8) rfl rfl (by kernel_rfl) ?_ ?_
   ·refine TagA.mk ?_
    (refine h0i (t:=36) rfl Tryz.zeroValue36 ?_; intro nb hnb; (try simp only [Value.cells]))
    exact h1w (h3ab nb n9 v1 v2 v3 E1 E2 E3 R hv1 hv2 hv3 tk hR hX)
   ·refine TagB.mk ?_
    (refine h0i (t:=36) rfl Tryz.zeroValue36 ?_; intro nb hnb; (try simp only [Value.cells]))
    exact h1w (h3bc n9 nb v1 v2 v3 E1 E2 E3 R hv1 hv2 hv3 tk hR hX) (hL:=fun _ H => H.mv1)
  have h3c : ∀ (n10 : Nat) (v1 v2 v3 : Value) (E1 E2 E3 : List Blk) (R : List Blk), CV nmB df lr hd lp lq GG v1 E1 → CV nmB df lr hd lp lq GG v2 E2 → CV nmB df lr hd lp lq GG v3 E3 → TkR 3 R → EqL R (E3 ++ (E2 ++ (E1 ++ R2))) → SubB E R → G 162 [(35, v1), (37, v2), (39, v3), (10, .pointer (some ⟨n10, 0, none⟩)), (34, pv), (36, pv), (38, pv), (1, w1), (5, w5), (6, w6), (7, w7)] S w0 (poZ n10 :: b7 :: b6 :: R) (KH Tryz.prog S w0 [b7, b6] ops kt 5 #[tT, tT, tT, tT, tT, tT, fF, fF, tT, fF, fF, fF]) := by
   intro n10 v1 v2 v3 E1 E2 E3 R hv1 hv2 hv3 tk hR hX
   subst hops
   refine h2d (i:=6) (j:=7) rfl rfl (by kernel_rfl) ?_ ?_
   ·refine TagA.mk ?_
    (refine h0i (t:=36) rfl Tryz.zeroValue36 ?_; intro nb hnb; (try simp only [Value.cells]))
    exact h1w (h3ac nb n10 v1 v2 v3 E1 E2 E3 R hv1 hv2 hv3 tk hR hX)
   ·refine TagB.mk ?_
    (refine h0i (t:=36) rfl Tryz.zeroValue36 ?_; intro nb hnb; (try simp only [Value.cells]))
    exact h1w (h3bc nb n10 v1 v2 v3 E1 E2 E3 R hv1 hv2 hv3 tk hR hX)
  have h3 : ∀ (v1 v2 v3 : Value) (E1 E2 E3 : List Blk) (R : List Blk), CV nmB df lr hd lp lq GG v1 E1 → CV nmB df lr hd lp lq GG v2 E2 → CV nmB df lr hd lp lq GG v3 E3 → TkR 3 R → EqL R (E3 ++ (E2 ++ (E1 ++ R2))) → SubB E R → G 162 [(35, v1), (37, v2), (39, v3), (34, pv), (36, pv), (38, pv), (1, w1), (5, w5), (6, w6), (7, w7)] S w0 (b7 :: b6 :: R) (KH Tryz.prog S w0 [b7, b6] ops kt 6 #[tT, tT, tT, tT, tT, tT, fF, fF, fF, fF, fF, fF]) := by
   intro v1 v2 v3 E1 E2 E3 R hv1 hv2 hv3 tk hR hX
   subst hops
   refine H_run3t (i:=6) (j:=7) (m:=8) rfl rfl rfl (by kernel_rfl) ?_ ?_ ?_
   ·refine TagA.mk ?_
    (refine h0i (t:=36) rfl Tryz.zeroValue36 ?_; intro nb hnb; (try simp only [Value.cells]))
    exact h1w (h3a nb v1 v2 v3 E1 E2 E3 R hv1 hv2 hv3 tk hR hX)
   ·refine TagB.mk ?_
    (refine h0i (t:=36) rfl Tryz.zeroValue36 ?_; intro nb hnb; (try simp only [Value.cells]))
    exact h1w (h3b nb v1 v2 v3 E1 E2 E3 R hv1 hv2 hv3 tk hR hX)
   ·refine TagC.mk ?_
    (refine h0i (t:=36) rfl Tryz.zeroValue36 ?_; intro nb hnb; (try simp only [Value.cells]))
    exact h1w (h3c nb v1 v2 v3 E1 E2 E3 R hv1 hv2 hv3 tk hR hX)
  have h2abc : ∀ (n8 n9 n10 : Nat) (v1 v2 : Value) (E1 E2 : List Blk) (R : List Blk), CV nmB df lr hd lp lq GG v1 E1 → CV nmB df lr hd lp lq GG v2 E2 → TkR 2 R → EqL R (E2 ++ (E1 ++ R2)) → SubB E R → G 162 [(35, v1), (37, v2), (8, .pointer (some ⟨n8, 0, none⟩)), (9, .pointer (some ⟨n9, 0, none⟩)), (10, .pointer (some ⟨n10, 0, none⟩)), (34, pv), (36, pv), (38, pv), (1, w1), (5, w5), (6, w6), (7, w7)] S w0 (poZ n8 :: poZ n9 :: poZ n10 :: b7 :: b6 :: R) (KH Tryz.prog S w0 [b7, b6] ops kt 4 #[tT, tT, tT, tT, tT, fF, tT, tT, tT, fF, fF, fF]) := by
   intro n8 n9 n10 v1 v2 E1 E2 R hv1 hv2 tk hR hX
   subst hops
   refine H_run (i:=5) rfl (by kernel_rfl) ?_
   ((refine q_c 15 (c:=by apply hc2; (with_reducible assumption); (with_reducible assumption); (focus ((try simp only [zzC, zzN]); (repeat' (first | (with_reducible exact Tl.nil _) | (with_reducible apply Tl.cons)))))) (h:=?_); rintro _ _ ⟨_, _, _, _, _, _, En, Rn, rfl, hSn, tkn, hRn, hXn, rfl⟩; (try simp only [zzE, zzF])); (try simp only [zzC, zzN]))
   exact h1w (h3abc n8 n9 n10 v1 v2 _ E1 E2 En Rn hv1 hv2 ⟨_, _, _, _, _, _, rfl, hSn⟩ ⟨⟩ ⟨by rw [hRn.eq, hR.eq]⟩ hXn)
  have h2ab : ∀ (n8 n9 : Nat) (v1 v2 : Value) (E1 E2 : List Blk) (R : List Blk), CV nmB df lr hd lp lq GG v1 E1 → CV nmB df lr hd lp lq GG v2 E2 → TkR 2 R → EqL R (E2 ++ (E1 ++ R2)) → SubB E R → G 162 [(35, v1), (37, v2), (8, .pointer (some ⟨n8, 0, none⟩)), (9, .pointer (some ⟨n9, 0, none⟩)), (34, pv), (36, pv), (38, pv), (1, w1), (5, w5), (6, w6), (7, w7)] S w0 (poZ n8 :: poZ n9 :: b7 :: b6 :: R) (KH Tryz.prog S w0 [b7, b6] ops kt 5 #[tT, tT, tT, tT, tT, fF, tT, tT, fF, fF, fF, fF]) := by
   intro n8 n9 v1 v2 E1 E2 R hv1 hv2 tk hR hX
   subst hops
   refine h2d (i:=5) (j:=8) rfl rfl (by kernel_rfl) ?_ ?_
   ·refine TagA.mk ?_
    ((refine q_c 15 (c:=by apply hc2; (with_reducible assumption); (with_reducible assumption); (focus ((try simp only [zzC, zzN]); (repeat' (first | (with_reducible exact Tl.nil _) | (with_reducible apply Tl.cons)))))) (h:=?_); rintro _ _ ⟨_, _, _, _, _, _, En, Rn, rfl, hSn, tkn, hRn, hXn, rfl⟩; (try simp only [zzE, zzF])); (try simp only [zzC, zzN]))
    exact h1w (h3ab n8 n9 v1 v2 _ E1 E2 En Rn hv1 hv2 ⟨_, _, _, _, _, _, rfl, hSn⟩ ⟨⟩ ⟨by rw [hRn.eq, hR.eq]⟩ hXn)
   ·refine TagB.mk ?_
    (refine h0i (t:=36) rfl Tryz.zeroValue36 ?_; intro nb hnb; (try simp only [Value.cells]))
    exact h1w (h2abc n8 n9 nb v1 v2 E1 E2 R hv1 hv2 tk hR hX) (hL:=fun _ H => H.mv2)
  have h2ac : ∀ (n8 n10 : Nat) (v1 v2 : Value) (E1 E2 : List Blk) (R : List Blk), CV nmB df lr hd lp lq GG v1 E1 → CV nmB df lr hd lp lq GG v2 E2 → TkR 2 R → EqL R (E2 ++ (E1 ++ R2)) → SubB E R → G 162 [(35, v1), (37, v2), (8, .pointer (some ⟨n8, 0, none⟩)), (10, .pointer (some ⟨n10, 0, none⟩)), (34, pv), (36, pv), (38, pv), (1, w1), (5, w5), (6, w6), (7, w7)] S w0 (poZ n8 :: poZ n10 :: b7 :: b6 :: R) (KH Tryz.prog S w0 [b7, b6] ops kt 5 #[tT, tT, tT, tT, tT, fF, tT, fF, tT, fF, fF, fF]) := by
   intro n8 n10 v1 v2 E1 E2 R hv1 hv2 tk hR hX
   subst hops
   refine h2d (i:=5) (j:=7) rfl rfl (by kernel_rfl) ?_ ?_
   ·refine TagA.mk ?_
    ((refine q_c 15 (c:=by apply hc2; (with_reducible assumption); (with_reducible assumption); (focus ((try simp only [zzC, zzN]); (repeat' (first | (with_reducible exact Tl.nil _) | (with_reducible apply Tl.cons)))))) (h:=?_); rintro _ _ ⟨_, _, _, _, _, _, En, Rn, rfl, hSn, tkn, hRn, hXn, rfl⟩; (try simp only [zzE, zzF])); (try simp only [zzC, zzN]))
    exact h1w (h3ac n8 n10 v1 v2 _ E1 E2 En Rn hv1 hv2 ⟨_, _, _, _, _, _, rfl, hSn⟩ ⟨⟩ ⟨by rw [hRn.eq, hR.eq]⟩ hXn)
   ·refine TagB.mk ?_
    (refine h0i (t:=36) rfl Tryz.zeroValue36 ?_; intro nb hnb; (try simp only [Value.cells]))
    exact h1w (h2abc n8 nb n10 v1 v2 E1 E2 R hv1 hv2 tk hR hX) (hL:=fun _ H => H.mv1)
  have h2bc : ∀ (n9 n10 : Nat) (v1 v2 : Value) (E1 E2 : List Blk) (R : List Blk), CV nmB df lr hd lp lq GG v1 E1 → CV nmB df lr hd lp lq GG v2 E2 → TkR 2 R → EqL R (E2 ++ (E1 ++ R2)) → SubB E R → G 162 [(35, v1), (37, v2), (9, .pointer (some ⟨n9, 0, none⟩)), (10, .pointer (some ⟨n10, 0, none⟩)), (34, pv), (36, pv), (38, pv), (1, w1), (5, w5), (6, w6), (7, w7)] S w0 (poZ n9 :: poZ n10 :: b7 :: b6 :: R) (KH Tryz.prog S w0 [b7, b6] ops kt 5 #[tT, tT, tT, tT, tT, fF, fF, tT, tT, fF, fF, fF]) := by
   intro n9 n10 v1 v2 E1 E2 R hv1 hv2 tk hR hX
   subst hops
   refine h2d (i:=5) (j:=6) rfl rfl (by kernel_rfl) ?_ ?_
   ·refine TagA.mk ?_
    ((refine q_c 15 (c:=by apply hc2; (with_reducible assumption); (with_reducible assumption); (focus ((try simp only [zzC, zzN]); (repeat' (first | (with_reducible exact Tl.nil _) | (with_reducible apply Tl.cons)))))) (h:=?_); rintro _ _ ⟨_, _, _, _, _, _, En, Rn, rfl, hSn, tkn, hRn, hXn, rfl⟩; (try simp only [zzE, zzF])); (try simp only [zzC, zzN]))
    exact h1w (h3bc n9 n10 v1 v2 _ E1 E2 En Rn hv1 hv2 ⟨_, _, _, _, _, _, rfl, hSn⟩ ⟨⟩ ⟨by rw [hRn.eq, hR.eq]⟩ hXn)
   ·refine TagB.mk ?_
    (refine h0i (t:=36) rfl Tryz.zeroValue36 ?_; intro nb hnb; (try simp only [Value.cells]))
    exact h1w (h2abc nb n9 n10 v1 v2 E1 E2 R hv1 hv2 tk hR hX)
  have h2a : ∀ (n8 : Nat) (v1 v2 : Value) (E1 E2 : List Blk) (R : List Blk), CV nmB df lr hd lp lq GG v1 E1 → CV nmB df lr hd lp lq GG v2 E2 → TkR 2 R → EqL R (E2 ++ (E1 ++ R2)) → SubB E R → G 162 [(35, v1), (37, v2), (8, .pointer (some ⟨n8, 0, none⟩)), (34, pv), (36, pv), (38, pv), (1, w1), (5, w5), (6, w6), (7, w7)] S w0 (poZ n8 :: b7 :: b6 :: R) (KH Tryz.prog S w0 [b7, b6] ops kt 6 #[tT, tT, tT, tT, tT, fF, tT, fF, fF, fF, fF, fF]) := by
   intro n8 v1 v2 E1 E2 R hv1 hv2 tk hR hX
   subst hops
   refine H_run3t (i:=5) (j:=7) (m:=8) rfl rfl rfl (by kernel_rfl) ?_ ?_ ?_
   ·refine TagA.mk ?_
    ((refine q_c 15 (c:=by apply hc2; (with_reducible assumption); (with_reducible assumption); (focus ((try simp only [zzC, zzN]); (repeat' (first | (with_reducible exact Tl.nil _) | (with_reducible apply Tl.cons)))))) (h:=?_); rintro _ _ ⟨_, _, _, _, _, _, En, Rn, rfl, hSn, tkn, hRn, hXn, rfl⟩; (try simp only [zzE, zzF])); (try simp only [zzC, zzN]))
    exact h1w (h3a n8 v1 v2 _ E1 E2 En Rn hv1 hv2 ⟨_, _, _, _, _, _, rfl, hSn⟩ ⟨⟩ ⟨by rw [hRn.eq, hR.eq]⟩ hXn)
   ·refine TagB.mk ?_
    (refine h0i (t:=36) rfl Tryz.zeroValue36 ?_; intro nb hnb; (try simp only [Value.cells]))
    exact h1w (h2ab n8 nb v1 v2 E1 E2 R hv1 hv2 tk hR hX) (hL:=fun _ H => H.mv1)
   ·refine TagC.mk ?_
    (refine h0i (t:=36) rfl Tryz.zeroValue36 ?_; intro nb hnb; (try simp only [Value.cells]))
    exact h1w (h2ac n8 nb v1 v2 E1 E2 R hv1 hv2 tk hR hX) (hL:=fun _ H => H.mv1)
  have h2b : ∀ (n9 : Nat) (v1 v2 : Value) (E1 E2 : List Blk) (R : List Blk), CV nmB df lr hd lp lq GG v1 E1 → CV nmB df lr hd lp lq GG v2 E2 → TkR 2 R → EqL R (E2 ++ (E1 ++ R2)) → SubB E R → G 162 [(35, v1), (37, v2), (9, .pointer (some ⟨n9, 0, none⟩)), (34, pv), (36, pv), (38, pv), (1, w1), (5, w5), (6, w6), (7, w7)] S w0 (poZ n9 :: b7 :: b6 :: R) (KH Tryz.prog S w0 [b7, b6] ops kt 6 #[tT, tT, tT, tT, tT, fF, fF, tT, fF, fF, fF, fF]) := by
   intro n9 v1 v2 E1 E2 R hv1 hv2 tk hR hX
   subst hops
   refine H_run3t (i:=5) (j:=6) (m:=8) rfl rfl rfl (by kernel_rfl) ?_ ?_ ?_
   ·refine TagA.mk ?_
    ((refine q_c 15 (c:=by apply hc2; (with_reducible assumption); (with_reducible assumption); (focus ((try simp only [zzC, zzN]); (repeat' (first | (with_reducible exact Tl.nil _) | (with_reducible apply Tl.cons)))))) (h:=?_); rintro _ _ ⟨_, _, _, _, _, _, En, Rn, rfl, hSn, tkn, hRn, hXn, rfl⟩; (try simp only [zzE, zzF])); (try simp only [zzC, zzN]))
    exact h1w (h3b n9 v1 v2 _ E1 E2 En Rn hv1 hv2 ⟨_, _, _, _, _, _, rfl, hSn⟩ ⟨⟩ ⟨by rw [hRn.eq, hR.eq]⟩ hXn)
   ·refine TagB.mk ?_
    (refine h0i (t:=36) rfl Tryz.zeroValue36 ?_; intro nb hnb; (try simp only [Value.cells]))
    exact h1w (h2ab nb n9 v1 v2 E1 E2 R hv1 hv2 tk hR hX)
   ·refine TagC.mk ?_
    (refine h0i (t:=36) rfl Tryz.zeroValue36 ?_; intro nb hnb; (try simp only [Value.cells]))
    exact h1w (h2bc n9 nb v1 v2 E1 E2 R hv1 hv2 tk hR hX) (hL:=fun _ H => H.mv1)
  have h2c : ∀ (n10 : Nat) (v1 v2 : Value) (E1 E2 : List Blk) (R : List Blk), CV nmB df lr hd lp lq GG v1 E1 → CV nmB df lr hd lp lq GG v2 E2 → TkR 2 R → EqL R (E2 ++ (E1 ++ R2)) → SubB E R → G 162 [(35, v1), (37, v2), (10, .pointer (some ⟨n10, 0, none⟩)), (34, pv), (36, pv), (38, pv), (1, w1), (5, w5), (6, w6), (7, w7)] S w0 (poZ n10 :: b7 :: b6 :: R) (KH Tryz.prog S w0 [b7, b6] ops kt 6 #[tT, tT, tT, tT, tT, fF, fF, fF, tT, fF, fF, fF]) := by
   intro n10 v1 v2 E1 E2 R hv1 hv2 tk hR hX
   subst hops
   refine H_run3t (i:=5) (j:=6) (m:=7) rfl rfl rfl (by kernel_rfl) ?_ ?_ ?_
   ·refine TagA.mk ?_
    ((refine q_c 15 (c:=by apply hc2; (with_reducible assumption); (with_reducible assumption); (focus ((try simp only [zzC, zzN]); (repeat' (first | (with_reducible exact Tl.nil _) | (with_reducible apply Tl.cons)))))) (h:=?_); rintro _ _ ⟨_, _, _, _, _, _, En, Rn, rfl, hSn, tkn, hRn, hXn, rfl⟩; (try simp only [zzE, zzF])); (try simp only [zzC, zzN]))
    exact h1w (h3c n10 v1 v2 _ E1 E2 En Rn hv1 hv2 ⟨_, _, _, _, _, _, rfl, hSn⟩ ⟨⟩ ⟨by rw [hRn.eq, hR.eq]⟩ hXn)
   ·refine TagB.mk ?_
    (refine h0i (t:=36) rfl Tryz.zeroValue36 ?_; intro nb hnb; (try simp only [Value.cells]))
    exact h1w (h2ac nb n10 v1 v2 E1 E2 R hv1 hv2 tk hR hX)
   ·refine TagC.mk ?_
    (refine h0i (t:=36) rfl Tryz.zeroValue36 ?_; intro nb hnb; (try simp only [Value.cells]))
    exact h1w (h2bc nb n10 v1 v2 E1 E2 R hv1 hv2 tk hR hX)
  have h2 : ∀ (v1 v2 : Value) (E1 E2 : List Blk) (R : List Blk), CV nmB df lr hd lp lq GG v1 E1 → CV nmB df lr hd lp lq GG v2 E2 → TkR 2 R → EqL R (E2 ++ (E1 ++ R2)) → SubB E R → G 162 [(35, v1), (37, v2), (34, pv), (36, pv), (38, pv), (1, w1), (5, w5), (6, w6), (7, w7)] S w0 (b7 :: b6 :: R) (KH Tryz.prog S w0 [b7, b6] ops kt 7 #[tT, tT, tT, tT, tT, fF, fF, fF, fF, fF, fF, fF]) := by
   intro v1 v2 E1 E2 R hv1 hv2 tk hR hX
   subst hops
   refine H_run4t (i:=5) (j:=6) (m:=7) (q4:=8) rfl rfl rfl rfl (by kernel_rfl) ?_ ?_ ?_ ?_
   ·refine TagA.mk ?_
    ((refine q_c 15 (c:=by apply hc2; (with_reducible assumption); (with_reducible assumption); (focus ((try simp only [zzC, zzN]); (repeat' (first | (with_reducible exact Tl.nil _) | (with_reducible apply Tl.cons)))))) (h:=?_); rintro _ _ ⟨_, _, _, _, _, _, En, Rn, rfl, hSn, tkn, hRn, hXn, rfl⟩; (try simp only [zzE, zzF])); (try simp only [zzC, zzN]))
    exact h1w (h3 v1 v2 _ E1 E2 En Rn hv1 hv2 ⟨_, _, _, _, _, _, rfl, hSn⟩ ⟨⟩ ⟨by rw [hRn.eq, hR.eq]⟩ hXn)
   ·refine TagB.mk ?_
    (refine h0i (t:=36) rfl Tryz.zeroValue36 ?_; intro nb hnb; (try simp only [Value.cells]))
    exact h1w (h2a nb v1 v2 E1 E2 R hv1 hv2 tk hR hX)
   ·refine TagC.mk ?_
    (refine h0i (t:=36) rfl Tryz.zeroValue36 ?_; intro nb hnb; (try simp only [Value.cells]))
    exact h1w (h2b nb v1 v2 E1 E2 R hv1 hv2 tk hR hX)
   ·refine TagD.mk ?_
    (refine h0i (t:=36) rfl Tryz.zeroValue36 ?_; intro nb hnb; (try simp only [Value.cells]))
    exact h1w (h2c nb v1 v2 E1 E2 R hv1 hv2 tk hR hX)
  have h1abc : ∀ (n8 n9 n10 : Nat) (v1 : Value) (E1 : List Blk) (R : List Blk), CV nmB df lr hd lp lq GG v1 E1 → TkR 1 R → EqL R (E1 ++ R2) → SubB E R → G 162 [(35, v1), (8, .pointer (some ⟨n8, 0, none⟩)), (9, .pointer (some ⟨n9, 0, none⟩)), (10, .pointer (some ⟨n10, 0, none⟩)), (34, pv), (36, pv), (38, pv), (1, w1), (5, w5), (6, w6), (7, w7)] S w0 (poZ n8 :: poZ n9 :: poZ n10 :: b7 :: b6 :: R) (KH Tryz.prog S w0 [b7, b6] ops kt 5 #[tT, tT, tT, fF, tT, fF, tT, tT, tT, fF, fF, fF]) := by
   intro n8 n9 n10 v1 E1 R hv1 tk hR hX
   subst hops
   refine H_run (i:=3) rfl (by kernel_rfl) ?_
   ((refine q_c 15 (c:=by apply hc1; (with_reducible assumption); (with_reducible assumption); (focus ((try simp only [zzC, zzN]); (repeat' (first | (with_reducible exact Tl.nil _) | (with_reducible apply Tl.cons)))))) (h:=?_); rintro _ _ ⟨_, _, _, _, _, _, En, Rn, rfl, hSn, tkn, hRn, hXn, rfl⟩; (try simp only [zzE, zzF])); (try simp only [zzC, zzN]))
   exact h1w (h2abc n8 n9 n10 v1 _ E1 En Rn hv1 ⟨_, _, _, _, _, _, rfl, hSn⟩ ⟨⟩ ⟨by rw [hRn.eq, hR.eq]⟩ hXn)
  have h1ab : ∀ (n8 n9 : Nat) (v1 : Value) (E1 : List Blk) (R : List Blk), CV nmB df lr hd lp lq GG v1 E1 → TkR 1 R → EqL R (E1 ++ R2) → SubB E R → G 162 [(35, v1), (8, .pointer (some ⟨n8, 0, none⟩)), (9, .pointer (some ⟨n9, 0, none⟩)), (34, pv), (36, pv), (38, pv), (1, w1), (5, w5), (6, w6), (7, w7)] S w0 (poZ n8 :: poZ n9 :: b7 :: b6 :: R) (KH Tryz.prog S w0 [b7, b6] ops kt 6 #[tT, tT, tT, fF, tT, fF, tT, tT, fF, fF, fF, fF]) := by
   intro n8 n9 v1 E1 R hv1 tk hR hX
   subst hops
   refine h2d (i:=3) (j:=8) rfl rfl (by kernel_rfl) ?_ ?_
   ·refine TagA.mk ?_
    ((refine q_c 15 (c:=by apply hc1; (with_reducible assumption); (with_reducible assumption); (focus ((try simp only [zzC, zzN]); (repeat' (first | (with_reducible exact Tl.nil _) | (with_reducible apply Tl.cons)))))) (h:=?_); rintro _ _ ⟨_, _, _, _, _, _, En, Rn, rfl, hSn, tkn, hRn, hXn, rfl⟩; (try simp only [zzE, zzF])); (try simp only [zzC, zzN]))
    exact h1w (h2ab n8 n9 v1 _ E1 En Rn hv1 ⟨_, _, _, _, _, _, rfl, hSn⟩ ⟨⟩ ⟨by rw [hRn.eq, hR.eq]⟩ hXn)
   ·refine TagB.mk ?_
    (refine h0i (t:=36) rfl Tryz.zeroValue36 ?_; intro nb hnb; (try simp only [Value.cells]))
    exact h1w (h1abc n8 n9 nb v1 E1 R hv1 tk hR hX) (hL:=fun _ H => H.mv2)
  have h1ac : ∀ (n8 n10 : Nat) (v1 : Value) (E1 : List Blk) (R : List Blk), CV nmB df lr hd lp lq GG v1 E1 → TkR 1 R → EqL R (E1 ++ R2) → SubB E R → G 162 [(35, v1), (8, .pointer (some ⟨n8, 0, none⟩)), (10, .pointer (some ⟨n10, 0, none⟩)), (34, pv), (36, pv), (38, pv), (1, w1), (5, w5), (6, w6), (7, w7)] S w0 (poZ n8 :: poZ n10 :: b7 :: b6 :: R) (KH Tryz.prog S w0 [b7, b6] ops kt 6 #[tT, tT, tT, fF, tT, fF, tT, fF, tT, fF, fF, fF]) := by
   intro n8 n10 v1 E1 R hv1 tk hR hX
   subst hops
   refine h2d (i:=3) (j:=7) rfl rfl (by kernel_rfl) ?_ ?_
   ·refine TagA.mk ?_
    ((refine q_c 15 (c:=by apply hc1; (with_reducible assumption); (with_reducible assumption); (focus ((try simp only [zzC, zzN]); (repeat' (first | (with_reducible exact Tl.nil _) | (with_reducible apply Tl.cons)))))) (h:=?_); rintro _ _ ⟨_, _, _, _, _, _, En, Rn, rfl, hSn, tkn, hRn, hXn, rfl⟩; (try simp only [zzE, zzF])); (try simp only [zzC, zzN]))
    exact h1w (h2ac n8 n10 v1 _ E1 En Rn hv1 ⟨_, _, _, _, _, _, rfl, hSn⟩ ⟨⟩ ⟨by rw [hRn.eq, hR.eq]⟩ hXn)
   ·refine TagB.mk ?_
    (refine h0i (t:=36) rfl Tryz.zeroValue36 ?_; intro nb hnb; (try simp only [Value.cells]))
    exact h1w (h1abc n8 nb n10 v1 E1 R hv1 tk hR hX) (hL:=fun _ H => H.mv1)
  have h1bc : ∀ (n9 n10 : Nat) (v1 : Value) (E1 : List Blk) (R : List Blk), CV nmB df lr hd lp lq GG v1 E1 → TkR 1 R → EqL R (E1 ++ R2) → SubB E R → G 162 [(35, v1), (9, .pointer (some ⟨n9, 0, none⟩)), (10, .pointer (some ⟨n10, 0, none⟩)), (34, pv), (36, pv), (38, pv), (1, w1), (5, w5), (6, w6), (7, w7)] S w0 (poZ n9 :: poZ n10 :: b7 :: b6 :: R) (KH Tryz.prog S w0 [b7, b6] ops kt 6 #[tT, tT, tT, fF, tT, fF, fF, tT, tT, fF, fF, fF]) := by
   intro n9 n10 v1 E1 R hv1 tk hR hX
   subst hops
   refine h2d (i:=3) (j:=6) rfl rfl (by kernel_rfl) ?_ ?_
   ·refine TagA.mk ?_
    ((refine q_c 15 (c:=by apply hc1; (with_reducible assumption); (with_reducible assumption); (focus ((try simp only [zzC, zzN]); (repeat' (first | (with_reducible exact Tl.nil _) | (with_reducible apply Tl.cons)))))) (h:=?_); rintro _ _ ⟨_, _, _, _, _, _, En, Rn, rfl, hSn, tkn, hRn, hXn, rfl⟩; (try simp only [zzE, zzF])); (try simp only [zzC, zzN]))
    exact h1w (h2bc n9 n10 v1 _ E1 En Rn hv1 ⟨_, _, _, _, _, _, rfl, hSn⟩ ⟨⟩ ⟨by rw [hRn.eq, hR.eq]⟩ hXn)
   ·refine TagB.mk ?_
    (refine h0i (t:=36) rfl Tryz.zeroValue36 ?_; intro nb hnb; (try simp only [Value.cells]))
    exact h1w (h1abc nb n9 n10 v1 E1 R hv1 tk hR hX)
  have h1a : ∀ (n8 : Nat) (v1 : Value) (E1 : List Blk) (R : List Blk), CV nmB df lr hd lp lq GG v1 E1 → TkR 1 R → EqL R (E1 ++ R2) → SubB E R → G 162 [(35, v1), (8, .pointer (some ⟨n8, 0, none⟩)), (34, pv), (36, pv), (38, pv), (1, w1), (5, w5), (6, w6), (7, w7)] S w0 (poZ n8 :: b7 :: b6 :: R) (KH Tryz.prog S w0 [b7, b6] ops kt 7 #[tT, tT, tT, fF, tT, fF, tT, fF, fF, fF, fF, fF]) := by
   intro n8 v1 E1 R hv1 tk hR hX
   subst hops
   refine H_run3t (i:=3) (j:=7) (m:=8) rfl rfl rfl (by kernel_rfl) ?_ ?_ ?_
   ·refine TagA.mk ?_
    ((refine q_c 15 (c:=by apply hc1; (with_reducible assumption); (with_reducible assumption); (focus ((try simp only [zzC, zzN]); (repeat' (first | (with_reducible exact Tl.nil _) | (with_reducible apply Tl.cons)))))) (h:=?_); rintro _ _ ⟨_, _, _, _, _, _, En, Rn, rfl, hSn, tkn, hRn, hXn, rfl⟩; (try simp only [zzE, zzF])); (try simp only [zzC, zzN]))
    exact h1w (h2a n8 v1 _ E1 En Rn hv1 ⟨_, _, _, _, _, _, rfl, hSn⟩ ⟨⟩ ⟨by rw [hRn.eq, hR.eq]⟩ hXn)
   ·refine TagB.mk ?_
    (refine h0i (t:=36) rfl Tryz.zeroValue36 ?_; intro nb hnb; (try simp only [Value.cells]))
    exact h1w (h1ab n8 nb v1 E1 R hv1 tk hR hX) (hL:=fun _ H => H.mv1)
   ·refine TagC.mk ?_
    (refine h0i (t:=36) rfl Tryz.zeroValue36 ?_; intro nb hnb; (try simp only [Value.cells]))
    exact h1w (h1ac n8 nb v1 E1 R hv1 tk hR hX) (hL:=fun _ H => H.mv1)
  have h1b : ∀ (n9 : Nat) (v1 : Value) (E1 : List Blk) (R : List Blk), CV nmB df lr hd lp lq GG v1 E1 → TkR 1 R → EqL R (E1 ++ R2) → SubB E R → G 162 [(35, v1), (9, .pointer (some ⟨n9, 0, none⟩)), (34, pv), (36, pv), (38, pv), (1, w1), (5, w5), (6, w6), (7, w7)] S w0 (poZ n9 :: b7 :: b6 :: R) (KH Tryz.prog S w0 [b7, b6] ops kt 7 #[tT, tT, tT, fF, tT, fF, fF, tT, fF, fF, fF, fF]) := by
   intro n9 v1 E1 R hv1 tk hR hX
   subst hops
   refine H_run3t (i:=3) (j:=6) (m:=8) rfl rfl rfl (by kernel_rfl) ?_ ?_ ?_
   ·refine TagA.mk ?_
    ((refine q_c 15 (c:=by apply hc1; (with_reducible assumption); (with_reducible assumption); (focus ((try simp only [zzC, zzN]); (repeat' (first | (with_reducible exact Tl.nil _) | (with_reducible apply Tl.cons)))))) (h:=?_); rintro _ _ ⟨_, _, _, _, _, _, En, Rn, rfl, hSn, tkn, hRn, hXn, rfl⟩; (try simp only [zzE, zzF])); (try simp only [zzC, zzN]))
    exact h1w (h2b n9 v1 _ E1 En Rn hv1 ⟨_, _, _, _, _, _, rfl, hSn⟩ ⟨⟩ ⟨by rw [hRn.eq, hR.eq]⟩ hXn)
   ·refine TagB.mk ?_
    (refine h0i (t:=36) rfl Tryz.zeroValue36 ?_; intro nb hnb; (try simp only [Value.cells]))
    exact h1w (h1ab nb n9 v1 E1 R hv1 tk hR hX)
   ·refine TagC.mk ?_
    (refine h0i (t:=36) rfl Tryz.zeroValue36 ?_; intro nb hnb; (try simp only [Value.cells]))
    exact h1w (h1bc n9 nb v1 E1 R hv1 tk hR hX) (hL:=fun _ H => H.mv1)
  have h1c : ∀ (n10 : Nat) (v1 : Value) (E1 : List Blk) (R : List Blk), CV nmB df lr hd lp lq GG v1 E1 → TkR 1 R → EqL R (E1 ++ R2) → SubB E R → G 162 [(35, v1), (10, .pointer (some ⟨n10, 0, none⟩)), (34, pv), (36, pv), (38, pv), (1, w1), (5, w5), (6, w6), (7, w7)] S w0 (poZ n10 :: b7 :: b6 :: R) (KH Tryz.prog S w0 [b7, b6] ops kt 7 #[tT, tT, tT, fF, tT, fF, fF, fF, tT, fF, fF, fF]) := by
   intro n10 v1 E1 R hv1 tk hR hX
   subst hops
   refine H_run3t (i:=3) (j:=6) (m:=7) rfl rfl rfl (by kernel_rfl) ?_ ?_ ?_
   ·refine TagA.mk ?_
    ((refine q_c 15 (c:=by apply hc1; (with_reducible assumption); (with_reducible assumption); (focus ((try simp only [zzC, zzN]); (repeat' (first | (with_reducible exact Tl.nil _) | (with_reducible apply Tl.cons)))))) (h:=?_); rintro _ _ ⟨_, _, _, _, _, _, En, Rn, rfl, hSn, tkn, hRn, hXn, rfl⟩; (try simp only [zzE, zzF])); (try simp only [zzC, zzN]))
    exact h1w (h2c n10 v1 _ E1 En Rn hv1 ⟨_, _, _, _, _, _, rfl, hSn⟩ ⟨⟩ ⟨by rw [hRn.eq, hR.eq]⟩ hXn)
   ·refine TagB.mk ?_
    (refine h0i (t:=36) rfl Tryz.zeroValue36 ?_; intro nb hnb; (try simp only [Value.cells]))
    exact h1w (h1ac nb n10 v1 E1 R hv1 tk hR hX)
   ·refine TagC.mk ?_
    (refine h0i (t:=36) rfl Tryz.zeroValue36 ?_; intro nb hnb; (try simp only [Value.cells]))
    exact h1w (h1bc nb n10 v1 E1 R hv1 tk hR hX)
  have h1 : ∀ (v1 : Value) (E1 : List Blk) (R : List Blk), CV nmB df lr hd lp lq GG v1 E1 → TkR 1 R → EqL R (E1 ++ R2) → SubB E R → G 162 [(35, v1), (34, pv), (36, pv), (38, pv), (1, w1), (5, w5), (6, w6), (7, w7)] S w0 (b7 :: b6 :: R) (KH Tryz.prog S w0 [b7, b6] ops kt 8 #[tT, tT, tT, fF, tT, fF, fF, fF, fF, fF, fF, fF]) := by
   intro v1 E1 R hv1 tk hR hX
   subst hops
   refine H_run4t (i:=3) (j:=6) (m:=7) (q4:=8) rfl rfl rfl rfl (by kernel_rfl) ?_ ?_ ?_ ?_
   ·refine TagA.mk ?_
    ((refine q_c 15 (c:=by apply hc1; (with_reducible assumption); (with_reducible assumption); (focus ((try simp only [zzC, zzN]); (repeat' (first | (with_reducible exact Tl.nil _) | (with_reducible apply Tl.cons)))))) (h:=?_); rintro _ _ ⟨_, _, _, _, _, _, En, Rn, rfl, hSn, tkn, hRn, hXn, rfl⟩; (try simp only [zzE, zzF])); (try simp only [zzC, zzN]))
    exact h1w (h2 v1 _ E1 En Rn hv1 ⟨_, _, _, _, _, _, rfl, hSn⟩ ⟨⟩ ⟨by rw [hRn.eq, hR.eq]⟩ hXn)
   ·refine TagB.mk ?_
    (refine h0i (t:=36) rfl Tryz.zeroValue36 ?_; intro nb hnb; (try simp only [Value.cells]))
    exact h1w (h1a nb v1 E1 R hv1 tk hR hX)
   ·refine TagC.mk ?_
    (refine h0i (t:=36) rfl Tryz.zeroValue36 ?_; intro nb hnb; (try simp only [Value.cells]))
    exact h1w (h1b nb v1 E1 R hv1 tk hR hX)
   ·refine TagD.mk ?_
    (refine h0i (t:=36) rfl Tryz.zeroValue36 ?_; intro nb hnb; (try simp only [Value.cells]))
    exact h1w (h1c nb v1 E1 R hv1 tk hR hX)
  have h0abc : ∀ (n8 n9 n10 : Nat) (R : List Blk), TkR 0 R → EqL R (R2) → SubB E R → G 162 [(8, .pointer (some ⟨n8, 0, none⟩)), (9, .pointer (some ⟨n9, 0, none⟩)), (10, .pointer (some ⟨n10, 0, none⟩)), (34, pv), (36, pv), (38, pv), (1, w1), (5, w5), (6, w6), (7, w7)] S w0 (poZ n8 :: poZ n9 :: poZ n10 :: b7 :: b6 :: R) (KH Tryz.prog S w0 [b7, b6] ops kt 6 #[tT, fF, tT, fF, tT, fF, tT, tT, tT, fF, fF, fF]) := by
   intro n8 n9 n10 R tk hR hX
   subst hops
   refine H_run (i:=1) rfl (by kernel_rfl) ?_
   ((refine q_c 15 (c:=by apply hc0; (with_reducible assumption); (with_reducible assumption); (focus ((try simp only [zzC, zzN]); (repeat' (first | (with_reducible exact Tl.nil _) | (with_reducible apply Tl.cons)))))) (h:=?_); rintro _ _ ⟨_, _, _, _, _, _, En, Rn, rfl, hSn, tkn, hRn, hXn, rfl⟩; (try simp only [zzE, zzF])); (try simp only [zzC, zzN]))
   exact h1w (h1abc n8 n9 n10 _ En Rn ⟨_, _, _, _, _, _, rfl, hSn⟩ ⟨⟩ ⟨by rw [hRn.eq, hR.eq]⟩ hXn)
  have h0ab : ∀ (n8 n9 : Nat) (R : List Blk), TkR 0 R → EqL R (R2) → SubB E R → G 162 [(8, .pointer (some ⟨n8, 0, none⟩)), (9, .pointer (some ⟨n9, 0, none⟩)), (34, pv), (36, pv), (38, pv), (1, w1), (5, w5), (6, w6), (7, w7)] S w0 (poZ n8 :: poZ n9 :: b7 :: b6 :: R) (KH Tryz.prog S w0 [b7, b6] ops kt 7 #[tT, fF, tT, fF, tT, fF, tT, tT, fF, fF, fF, fF]) := by
   intro n8 n9 R tk hR hX
   subst hops
   refine h2d (i:=1) (j:=8) rfl rfl (by kernel_rfl) ?_ ?_
   ·refine TagA.mk ?_
    ((refine q_c 15 (c:=by apply hc0; (with_reducible assumption); (with_reducible assumption); (focus ((try simp only [zzC, zzN]); (repeat' (first | (with_reducible exact Tl.nil _) | (with_reducible apply Tl.cons)))))) (h:=?_); rintro _ _ ⟨_, _, _, _, _, _, En, Rn, rfl, hSn, tkn, hRn, hXn, rfl⟩; (try simp only [zzE, zzF])); (try simp only [zzC, zzN]))
    exact h1w (h1ab n8 n9 _ En Rn ⟨_, _, _, _, _, _, rfl, hSn⟩ ⟨⟩ ⟨by rw [hRn.eq, hR.eq]⟩ hXn)
   ·refine TagB.mk ?_
    (refine h0i (t:=36) rfl Tryz.zeroValue36 ?_; intro nb hnb; (try simp only [Value.cells]))
    exact h1w (h0abc n8 n9 nb R tk hR hX) (hL:=fun _ H => H.mv2)
  have h0ac : ∀ (n8 n10 : Nat) (R : List Blk), TkR 0 R → EqL R (R2) → SubB E R → G 162 [(8, .pointer (some ⟨n8, 0, none⟩)), (10, .pointer (some ⟨n10, 0, none⟩)), (34, pv), (36, pv), (38, pv), (1, w1), (5, w5), (6, w6), (7, w7)] S w0 (poZ n8 :: poZ n10 :: b7 :: b6 :: R) (KH Tryz.prog S w0 [b7, b6] ops kt 7 #[tT, fF, tT, fF, tT, fF, tT, fF, tT, fF, fF, fF]) := by
   intro n8 n10 R tk hR hX
   subst hops
   refine h2d (i:=1) (j:=7) rfl rfl (by kernel_rfl) ?_ ?_
   ·refine TagA.mk ?_
    ((refine q_c 15 (c:=by apply hc0; (with_reducible assumption); (with_reducible assumption); (focus ((try simp only [zzC, zzN]); (repeat' (first | (with_reducible exact Tl.nil _) | (with_reducible apply Tl.cons)))))) (h:=?_); rintro _ _ ⟨_, _, _, _, _, _, En, Rn, rfl, hSn, tkn, hRn, hXn, rfl⟩; (try simp only [zzE, zzF])); (try simp only [zzC, zzN]))
    exact h1w (h1ac n8 n10 _ En Rn ⟨_, _, _, _, _, _, rfl, hSn⟩ ⟨⟩ ⟨by rw [hRn.eq, hR.eq]⟩ hXn)
   ·refine TagB.mk ?_
    (refine h0i (t:=36) rfl Tryz.zeroValue36 ?_; intro nb hnb; (try simp only [Value.cells]))
    exact h1w (h0abc n8 nb n10 R tk hR hX) (hL:=fun _ H => H.mv1)
  have h0bc : ∀ (n9 n10 : Nat) (R : List Blk), TkR 0 R → EqL R (R2) → SubB E R → G 162 [(9, .pointer (some ⟨n9, 0, none⟩)), (10, .pointer (some ⟨n10, 0, none⟩)), (34, pv), (36, pv), (38, pv), (1, w1), (5, w5), (6, w6), (7, w7)] S w0 (poZ n9 :: poZ n10 :: b7 :: b6 :: R) (KH Tryz.prog S w0 [b7, b6] ops kt 7 #[tT, fF, tT, fF, tT, fF, fF, tT, tT, fF, fF, fF]) := by
   intro n9 n10 R tk hR hX
   subst hops
   refine h2d (i:=1) (j:=6) rfl rfl (by kernel_rfl) ?_ ?_
   ·refine TagA.mk ?_
    ((refine q_c 15 (c:=by apply hc0; (with_reducible assumption); (with_reducible assumption); (focus ((try simp only [zzC, zzN]); (repeat' (first | (with_reducible exact Tl.nil _) | (with_reducible apply Tl.cons)))))) (h:=?_); rintro _ _ ⟨_, _, _, _, _, _, En, Rn, rfl, hSn, tkn, hRn, hXn, rfl⟩; (try simp only [zzE, zzF])); (try simp only [zzC, zzN]))
    exact h1w (h1bc n9 n10 _ En Rn ⟨_, _, _, _, _, _, rfl, hSn⟩ ⟨⟩ ⟨by rw [hRn.eq, hR.eq]⟩ hXn)
   ·refine TagB.mk ?_
    (refine h0i (t:=36) rfl Tryz.zeroValue36 ?_; intro nb hnb; (try simp only [Value.cells]))
    exact h1w (h0abc nb n9 n10 R tk hR hX)
  have h0a : ∀ (n8 : Nat) (R : List Blk), TkR 0 R → EqL R (R2) → SubB E R → G 162 [(8, .pointer (some ⟨n8, 0, none⟩)), (34, pv), (36, pv), (38, pv), (1, w1), (5, w5), (6, w6), (7, w7)] S w0 (poZ n8 :: b7 :: b6 :: R) (KH Tryz.prog S w0 [b7, b6] ops kt 8 #[tT, fF, tT, fF, tT, fF, tT, fF, fF, fF, fF, fF]) := by
   intro n8 R tk hR hX
   subst hops
   refine H_run3t (i:=1) (j:=7) (m:=8) rfl rfl rfl (by kernel_rfl) ?_ ?_ ?_
   ·refine TagA.mk ?_
    ((refine q_c 15 (c:=by apply hc0; (with_reducible assumption); (with_reducible assumption); (focus ((try simp only [zzC, zzN]); (repeat' (first | (with_reducible exact Tl.nil _) | (with_reducible apply Tl.cons)))))) (h:=?_); rintro _ _ ⟨_, _, _, _, _, _, En, Rn, rfl, hSn, tkn, hRn, hXn, rfl⟩; (try simp only [zzE, zzF])); (try simp only [zzC, zzN]))
    exact h1w (h1a n8 _ En Rn ⟨_, _, _, _, _, _, rfl, hSn⟩ ⟨⟩ ⟨by rw [hRn.eq, hR.eq]⟩ hXn)
   ·refine TagB.mk ?_
    (refine h0i (t:=36) rfl Tryz.zeroValue36 ?_; intro nb hnb; (try simp only [Value.cells]))
    exact h1w (h0ab n8 nb R tk hR hX) (hL:=fun _ H => H.mv1)
   ·refine TagC.mk ?_
    (refine h0i (t:=36) rfl Tryz.zeroValue36 ?_; intro nb hnb; (try simp only [Value.cells]))
    exact h1w (h0ac n8 nb R tk hR hX) (hL:=fun _ H => H.mv1)
  have h0b : ∀ (n9 : Nat) (R : List Blk), TkR 0 R → EqL R (R2) → SubB E R → G 162 [(9, .pointer (some ⟨n9, 0, none⟩)), (34, pv), (36, pv), (38, pv), (1, w1), (5, w5), (6, w6), (7, w7)] S w0 (poZ n9 :: b7 :: b6 :: R) (KH Tryz.prog S w0 [b7, b6] ops kt 8 #[tT, fF, tT, fF, tT, fF, fF, tT, fF, fF, fF, fF]) := by
   intro n9 R tk hR hX
   subst hops
   refine H_run3t (i:=1) (j:=6) (m:=8) rfl rfl rfl (by kernel_rfl) ?_ ?_ ?_
   ·refine TagA.mk ?_
    ((refine q_c 15 (c:=by apply hc0; (with_reducible assumption); (with_reducible assumption); (focus ((try simp only [zzC, zzN]); (repeat' (first | (with_reducible exact Tl.nil _) | (with_reducible apply Tl.cons)))))) (h:=?_); rintro _ _ ⟨_, _, _, _, _, _, En, Rn, rfl, hSn, tkn, hRn, hXn, rfl⟩; (try simp only [zzE, zzF])); (try simp only [zzC, zzN]))
    exact h1w (h1b n9 _ En Rn ⟨_, _, _, _, _, _, rfl, hSn⟩ ⟨⟩ ⟨by rw [hRn.eq, hR.eq]⟩ hXn)
   ·refine TagB.mk ?_
    (refine h0i (t:=36) rfl Tryz.zeroValue36 ?_; intro nb hnb; (try simp only [Value.cells]))
    exact h1w (h0ab nb n9 R tk hR hX)
   ·refine TagC.mk ?_
    (refine h0i (t:=36) rfl Tryz.zeroValue36 ?_; intro nb hnb; (try simp only [Value.cells]))
    exact h1w (h0bc n9 nb R tk hR hX) (hL:=fun _ H => H.mv1)
  have h0c : ∀ (n10 : Nat) (R : List Blk), TkR 0 R → EqL R (R2) → SubB E R → G 162 [(10, .pointer (some ⟨n10, 0, none⟩)), (34, pv), (36, pv), (38, pv), (1, w1), (5, w5), (6, w6), (7, w7)] S w0 (poZ n10 :: b7 :: b6 :: R) (KH Tryz.prog S w0 [b7, b6] ops kt 8 #[tT, fF, tT, fF, tT, fF, fF, fF, tT, fF, fF, fF]) := by
   intro n10 R tk hR hX
   subst hops
   refine H_run3t (i:=1) (j:=6) (m:=7) rfl rfl rfl (by kernel_rfl) ?_ ?_ ?_
   ·refine TagA.mk ?_
    ((refine q_c 15 (c:=by apply hc0; (with_reducible assumption); (with_reducible assumption); (focus ((try simp only [zzC, zzN]); (repeat' (first | (with_reducible exact Tl.nil _) | (with_reducible apply Tl.cons)))))) (h:=?_); rintro _ _ ⟨_, _, _, _, _, _, En, Rn, rfl, hSn, tkn, hRn, hXn, rfl⟩; (try simp only [zzE, zzF])); (try simp only [zzC, zzN]))
    exact h1w (h1c n10 _ En Rn ⟨_, _, _, _, _, _, rfl, hSn⟩ ⟨⟩ ⟨by rw [hRn.eq, hR.eq]⟩ hXn)
   ·refine TagB.mk ?_
    (refine h0i (t:=36) rfl Tryz.zeroValue36 ?_; intro nb hnb; (try simp only [Value.cells]))
    exact h1w (h0ac nb n10 R tk hR hX)
   ·refine TagC.mk ?_
    (refine h0i (t:=36) rfl Tryz.zeroValue36 ?_; intro nb hnb; (try simp only [Value.cells]))
    exact h1w (h0bc nb n10 R tk hR hX)
  have h0 : ∀ (R : List Blk), TkR 0 R → EqL R (R2) → SubB E R → G 162 [(34, pv), (36, pv), (38, pv), (1, w1), (5, w5), (6, w6), (7, w7)] S w0 (b7 :: b6 :: R) (KH Tryz.prog S w0 [b7, b6] ops kt 9 #[tT, fF, tT, fF, tT, fF, fF, fF, fF, fF, fF, fF]) := by
   intro R tk hR hX
   subst hops
   refine H_run4t (i:=1) (j:=6) (m:=7) (q4:=8) rfl rfl rfl rfl (by kernel_rfl) ?_ ?_ ?_ ?_
   ·refine TagA.mk ?_
    ((refine q_c 15 (c:=by apply hc0; (with_reducible assumption); (with_reducible assumption); (focus ((try simp only [zzC, zzN]); (repeat' (first | (with_reducible exact Tl.nil _) | (with_reducible apply Tl.cons)))))) (h:=?_); rintro _ _ ⟨_, _, _, _, _, _, En, Rn, rfl, hSn, tkn, hRn, hXn, rfl⟩; (try simp only [zzE, zzF])); (try simp only [zzC, zzN]))
    exact h1w (h1 _ En Rn ⟨_, _, _, _, _, _, rfl, hSn⟩ ⟨⟩ ⟨by rw [hRn.eq, hR.eq]⟩ hXn)
   ·refine TagB.mk ?_
    (refine h0i (t:=36) rfl Tryz.zeroValue36 ?_; intro nb hnb; (try simp only [Value.cells]))
    exact h1w (h0a nb R tk hR hX)
   ·refine TagC.mk ?_
    (refine h0i (t:=36) rfl Tryz.zeroValue36 ?_; intro nb hnb; (try simp only [Value.cells]))
    exact h1w (h0b nb R tk hR hX)
   ·refine TagD.mk ?_
    (refine h0i (t:=36) rfl Tryz.zeroValue36 ?_; intro nb hnb; (try simp only [Value.cells]))
    exact h1w (h0c nb R tk hR hX)
  exact G_mask (listed' := #[tT, fF, tT, fF, tT, fF, fF, fF, fF, fF, fF, fF]) (by kernel_rfl) (G_weak (h0 R2 tk0 ⟨rfl⟩ hER) (by (focus (repeat (first | exact Sub.nil | refine Sub.cons rfl ?_)))) (fun _ H => H))
 clear hc0 hc1 hc2 tk0
 rintro ⟨n8, n9, n10, ra, ra', rb1, rb', rc, rc', x1, x2, x3, x4, x5, x6, E1, E2, E3, Rc⟩ ⟨hSa, hSb, hSc, hRc⟩
 dsimp only at hSa hSb hSc hRc ⊢
 repeat' (first | (refine h2r (id:=0) ?_) | refine h0p ?_ | refine h0e ?_ | (refine gR 7 (q_e (q_f h3u) ?_) <;> (try refine h0f ?_; (refine q_S ?_)) <;> (try refine q_e (q_f h3t) ?_) <;> (try refine h0f ?_; (refine q_S ?_)) <;> (try refine q_e (q_f h5o) ?_) <;> (try refine h0f ?_; (refine q_S ?_)) <;> (try refine h0d ?_)) | (refine gR 8 (q_e (q_f h3s) ?_) <;> (try refine h0f ?_; (refine q_S ?_)) <;> (try refine q_e (q_f h3t) ?_) <;> (try refine h0f ?_; (refine q_S ?_)) <;> (try refine h0d ?_)) | (refine gR 9 (q_e (q_f h3s) ?_) <;> (try refine h0f ?_; (refine q_S ?_)) <;> (try refine q_e (q_f h3u) ?_) <;> (try refine h0f ?_; (refine q_S ?_)) <;> (try refine h0d ?_)) | (refine gR 10 (p_e (q_L sz_36) (h:=p_e (q_L sz_36) (h:=q_e (q_L sz_36) ?_))) <;> (try refine h0f ?_; (refine h0o (t:=58) (m:=3) (e:=36) (fun vs => (match vs with | [(_, x0), (_, x1), (_, x2)] => x0.cells.toList ++ (x1.cells.toList ++ x2.cells.toList) | _ => [])) rfl rfl (fun w => by kernel_rfl) ?_; intro nb hnb; (try simp only [Value.cells]); (try simp only [zzC, zzN]))) <;> (try refine p_e (by apply h0g; exact rfl; exact (fun _ => BigFrame.builtin_len ..); apply h0k Tryz.underlying58; exact h4y) (h:=p_m (h:=h0d ?_)))))
 refine ⟨?_⟩
 obtain ⟨nbS, rfl⟩ : ∃ x, x = nb := ⟨_, rfl⟩
 rw [← hGG] at hSa hSb hSc hPS
 obtain ⟨EE, hEE⟩ : ∃ M : List Blk, M = E3 ++ (E2 ++ (E1 ++ E)) := ⟨_, rfl⟩
 have hSA := hSa.onlyA (hEE ▸ ((SubB.left E1 E).upA).upA : SubB E1 EE)
 have hSB := hSb.onlyB (hEE ▸ (SubB.left E2 _).upA : SubB E2 EE)
 have hSC := hSc.onlyC (hEE ▸ SubB.left E3 _ : SubB E3 EE)
 have hSP := hPS.mono (hEE ▸ (((SubB.refl E).upA).upA).upA : SubB E EE)
 have hSH : PolS EE (polH P).g _ _ _ := polS_h P
 obtain ⟨cs, hcs⟩ : ∃ c : Array Value, c = #[.string nmB, .int .u32 df, .slice ra lr ra', .int .u16 0, .slice none 0 0, .slice none 0 0, .string nmB, .int .u32 df, .slice none 0 0, .int .u16 (hd : Nat), .slice rb1 lp rb', .slice none 0 0, .string nmB, .int .u32 df, .slice none 0 0, .int .u16 (hd : Nat), .slice none 0 0, .slice rc lq rc'] := ⟨_, rfl⟩
 have hzc : cs.size = 18 := by rw [hcs]; rfl
 have at0 : (cs.toList.drop 0).take 6 = [.string nmB, .int .u32 df, .slice ra lr ra', .int .u16 0, .slice none 0 0, .slice none 0 0] := by rw [hcs]; rfl
 have at1 : (cs.toList.drop 6).take 6 = [.string nmB, .int .u32 df, .slice none 0 0, .int .u16 (hd : Nat), .slice rb1 lp rb', .slice none 0 0] := by rw [hcs]; rfl
 have at2 : (cs.toList.drop 12).take 6 = [.string nmB, .int .u32 df, .slice none 0 0, .int .u16 (hd : Nat), .slice none 0 0, .slice rc lq rc'] := by rw [hcs]; rfl
 have hxA := fun (n : Nat) (M L B : List Blk) => text_t (S:=S) (w0:=w0) (pb:=pb) (ct:=ct) (rb:=rb) (n:=n) (L0:=L0) (M:=M) (L:=L) (B:=B) (E:=EE) (polA P) (polA_ok hok) (polX_rn hrn).1 (r1:=ra) (p1:=none) (q1:=none) (r3:=ra') (p3:=0) (q3:=0)
 have hxB := fun (n : Nat) (M L B : List Blk) => text_t (S:=S) (w0:=w0) (pb:=pb) (ct:=ct) (rb:=rb) (n:=n) (L0:=L0) (M:=M) (L:=L) (B:=B) (E:=EE) (polB P) (polB_ok hok) (polX_rn hrn).2.1 (r1:=none) (p1:=rb1) (q1:=none) (r3:=0) (p3:=rb') (q3:=0)
 have hxC := fun (n : Nat) (M L B : List Blk) => text_t (S:=S) (w0:=w0) (pb:=pb) (ct:=ct) (rb:=rb) (n:=n) (L0:=L0) (M:=M) (L:=L) (B:=B) (E:=EE) (polCq P) (polCq_ok hok) (polX_rn hrn).2.2.1 (r1:=none) (p1:=none) (q1:=rc) (r3:=0) (p3:=0) (q3:=rc')
 have hxH := fun (n : Nat) (M L B : List Blk) => text_t (S:=S) (w0:=w0) (pb:=pb) (ct:=ct) (rb:=rb) (n:=n) (L0:=L0) (M:=M) (L:=L) (B:=B) (E:=EE) (polH P) (polH_ok hok) (polX_rn hrn).2.2.2 (r1:=none) (p1:=none) (q1:=none) (r3:=0) (p3:=0) (q3:=0)
 simp only [show (polA P).rules.length = lr from hlr, show (polA P).paths.length = 0 from rfl, show (polA P).ports.length = 0 from rfl, show mB8 (polA P).nm = nmB from hnB, show (polA P).df = df from hdf, show (((polA P).hd : Nat) : Int) = 0 from rfl, show P.rules.length = lr from hlr] at hxA hSA
 simp only [show (polB P).rules.length = 0 from rfl, show (polB P).paths.length = lp from hlp, show (polB P).ports.length = 0 from rfl, show mB8 (polB P).nm = nmB from hnB, show (polB P).df = df from hdf, show (polB P).hd = hd from hhd, show P.paths.length = lp from hlp] at hxB hSB
 simp only [show (polCq P).rules.length = 0 from rfl, show (polCq P).paths.length = 0 from rfl, show (polCq P).ports.length = lq from hlq, show mB8 (polCq P).nm = nmB from hnB, show (polCq P).df = df from hdf, show (polCq P).hd = hd from hhd, show P.ports.length = lq from hlq] at hxC hSC
 simp only [show (polH P).rules.length = 0 from rfl, show (polH P).paths.length = 0 from rfl, show (polH P).ports.length = 0 from rfl, show mB8 (polH P).nm = nmB from hnB, show (polH P).df = df from hdf, show (polH P).hd = hd from hhd] at hxH
 obtain ⟨lA, hlA⟩ : ∃ l : List (List UInt8), l = P.rules.map fun r => lnT (itL (.r r)) := ⟨_, rfl⟩
 obtain ⟨lB, hlB⟩ : ∃ l : List (List UInt8), l = P.paths.map fun r => lnT (itL (.p r)) := ⟨_, rfl⟩
 obtain ⟨lC, hlC⟩ : ∃ l : List (List UInt8), l = P.ports.map fun r => lnT (itL (.q r)) := ⟨_, rfl⟩
 have hcA : (cutL (polT (polA P))).1.drop 2 = lA := by rw [cutL_pol _ (polA_ok hok) (polX_rn hrn).1, linesA, hlA]
 have hcB : (cutL (polT (polB P))).1.drop (skN P) = lB := by rw [cutL_pol _ (polB_ok hok) (polX_rn hrn).2.1, linesB, hlB]
 have hcC : (cutL (polT (polCq P))).1.drop (skN P) = lC := by rw [cutL_pol _ (polCq_ok hok) (polX_rn hrn).2.2.1, linesC, hlC]
 have hzA := (polL_ok _ (polA_ok hok) (polX_rn hrn).1).2
 have hzB := (polL_ok _ (polB_ok hok) (polX_rn hrn).2.1).2
 have hzC := (polL_ok _ (polCq_ok hok) (polX_rn hrn).2.2.1).2
 have hyA := polT_byte _ (polA_ok hok) (polX_rn hrn).1
 have hyB := polT_byte _ (polB_ok hok) (polX_rn hrn).2.1
 have hyC := polT_byte _ (polCq_ok hok) (polX_rn hrn).2.2.1
 have hsk : skN P = if hd ≠ 0 then 3 else 2 := by rw [← hhd]; rfl
 obtain ⟨hl1, hl2, hl3⟩ : lr ≤ 64 ∧ lp ≤ 32 ∧ lq ≤ 32 := by rw [← hlr, ← hlp, ← hlq]; exact ⟨hok.l1, hok.l2, hok.l3⟩
 subst hR2
 subst hRc
 generalize skN P = sk at *
 have hsk3 : sk ≤ 3 := by rw [hsk]; split <;> omega
 generalize polT (polA P) = bA at *
 generalize polT (polB P) = bB at *
 generalize polT (polCq P) = bC at *
 refine h0r ?_
 refine h2s (γ:=OrK) (fun g => g.k ≤ 3 ∧ g.n ≤ 100 * g.k ∧ PrE pb ct rb g.n L0 g.M ∧ Own 9 1 g.vA (if 0 < g.k then lA else []).length (strV (if 0 < g.k then lA else [])) g.eA ∧ Own 9 1 g.vB (if 1 < g.k then lB else []).length (strV (if 1 < g.k then lB else [])) g.eB ∧ Own 9 1 g.vC (if 2 < g.k then lC else []).length (strV (if 2 < g.k then lC else [])) g.eC) (fun g => 3 - g.k) (fun g => [(52, .int .i64 (g.k : Nat))]) [(1, _), (5, _), (6, _), (7, _), (50, _), (51, _)]
  (fun g => g.eA ++ (g.eB ++ (g.eC ++ ⟨true, n7, .cells #[g.vA, g.vB, g.vC] 57 (0, 0)⟩ :: ⟨true, nbS, .cells cs 36 (0, 0)⟩ :: ⟨true, n6, .cells #[.string nmB, .int .u32 df, .slice r1 lr r3, .int .u16 (hd : Nat), .slice p1 lp p3, .slice q1 lq q3] 36 (0, 0)⟩ :: (EE ++ g.M))))
  ⟨0, 0, M0, .slice none 0 0, .slice none 0 0, .slice none 0 0, [], [], []⟩ (.cons rfl (.cons rfl (.cons rfl (.cons rfl (.cons rfl (.cons rfl .nil)))))) ⟨Nat.zero_le _, Nat.zero_le _, hM, Own.nil _ _, Own.nil _ _, Own.nil _ _⟩ (by (focus (repeat (first | exact Sub.nil | refine Sub.cons rfl ?_)))) (by rw [hcs, hEE]; intro w H; refine Sel.out ?_ H; (try dsimp only); (try simp only [List.cons_append, List.nil_append, List.append_assoc]); with_reducible repeat (first | exact Sel.refl _ | exact Sel.nil _ | apply Sel.appS | apply Sel.consS | (apply Sel.appP; (focus ((repeat (first | exact Pull.here _ | apply Pull.cons | apply Pull.app)); done))) | (apply Sel.consP; (focus ((repeat (first | exact PullB.here _ | apply PullB.cons | apply PullB.app)); done))) | apply Sel.drop | apply Sel.dropA)) ?_
 clear hM hcs hEE hPS hSa hSb hSc hER
 rintro ⟨k, n, M, vA, vB, vC, eA, eB, eC⟩ ⟨hk, hn, hM, hA, hB, hC⟩
 dsimp only at hk hn hM hA hB hC ⊢
 have hcl := fun (n : Nat) (M L B : List Blk) => calls_t (S:=S) (w0:=w0) (pb:=pb) (ct:=ct) (rb:=rb) (n:=n) (L0:=L0) (M:=M) (L:=L) (B:=B)
 by_cases hlt : k < 3
 case neg =>
  obtain rfl : k = 3 := by omega
  obtain ⟨fA, rfl⟩ : ∃ x, x = eA := ⟨_, rfl⟩
  rw [if_pos (by omega)] at hA hB hC
  clear hxA hxB hxC hcA hcB hcC hzA hzB hzC hyA hyB hyC hSA hSB hSC at0 at1 at2 hzc hsk hsk3
  have hlAl : lA.length = lr := by rw [hlA, List.length_map, hlr]
  have hlBl : lB.length = lp := by rw [hlB, List.length_map, hlp]
  have hlCl : lC.length = lq := by rw [hlC, List.length_map, hlq]
  rw [hlAl] at hA
  rw [hlBl] at hB
  rw [hlCl] at hC
  obtain ⟨aA, uA, rfl, hcA, hsA⟩ := own_sla' hA
  obtain ⟨aB, uB, rfl, hcB, hsB⟩ := own_sla' hB
  obtain ⟨aC, uC, rfl, hcC, hsC⟩ := own_sla' hC
  clear hA hB hC
  obtain ⟨B7, hB7⟩ : ∃ M : List Blk, M = fA ++ (eB ++ (eC ++ [⟨true, n7, .cells #[.slice aA lr uA, .slice aB lp uB, .slice aC lq uC] 57 (0, 0)⟩])) := ⟨_, rfl⟩
  repeat' (first | (refine h2h (id:=28) ?_) | refine h0p ?_ | refine h0e ?_ | refine h1u ?_ | refine h1n ?_ | refine h1v ?_ | refine h2o ?_ | refine h0h rfl ?_ | (refine gR 11 (p_e (q_b (r:=by exact h1j q_o)) (h:=h0d ?_))) | (refine gR 27 (p_e (q_f fo_36_0) (h:=p_e (by apply h1l (t:=9); exact rfl; (focus (repeat (first | exact fd0 | apply fdA | apply fdS))); kernel_rfl; kernel_rfl; exact rfl) (h:=p_e (q_f fo_36_1) (h:=p_e (by apply h1l (t:=29); exact rfl; (focus (repeat (first | exact fd0 | apply fdA | apply fdS))); kernel_rfl; kernel_rfl; exact rfl) (h:=p_e (q_f h5o) (h:=q_e (by apply h1l (t:=32); exact rfl; (focus (repeat (first | exact fd0 | apply fdA | apply fdS))); kernel_rfl; kernel_rfl; exact rfl) ?_)))))) <;> (try refine q_e (by exact h0s (t:=36) (fun vs => (match vs with | [(_, x0), (_, x1), (_, x2)] => [x0, x1, Value.slice none 0 0, x2, Value.slice none 0 0, Value.slice none 0 0] | _ => [])) rfl (fun w => by kernel_rfl)) ?_; (try simp only [Value.cells]); (try simp only [zzC, zzN])) <;> (try refine h0f ?_; (refine h0i (t:=36) rfl Tryz.zeroValue36 ?_; intro nb hnb; (try simp only [Value.cells]))) <;> (try refine h0f ?_; (refine q_W ?_)) <;> (try refine h0d ?_)))
  refine ⟨?_⟩
  obtain ⟨n17, rfl⟩ : ∃ x, x = nb := ⟨_, rfl⟩
  refine h3y (L' := ⟨true, n17, .cells #[.string nmB, .int .u32 df, .slice none 0 0, .int .u16 (hd : Nat), .slice none 0 0, .slice none 0 0] 36 (0, 0)⟩ :: (B7 ++ (⟨true, n6, .cells #[.string nmB, .int .u32 df, .slice r1 lr r3, .int .u16 (hd : Nat), .slice p1 lp p3, .slice q1 lq q3] 36 (0, 0)⟩ :: (EE ++ M)))) (by rw [hB7]; intro w H; refine Sel.out ?_ H; (try dsimp only); (try simp only [List.cons_append, List.nil_append, List.append_assoc]); with_reducible repeat (first | exact Sel.refl _ | exact Sel.nil _ | apply Sel.appS | apply Sel.consS | (apply Sel.appP; (focus ((repeat (first | exact Pull.here _ | apply Pull.cons | apply Pull.app)); done))) | (apply Sel.consP; (focus ((repeat (first | exact PullB.here _ | apply PullB.cons | apply PullB.app)); done))) | apply Sel.drop | apply Sel.dropA)) ?_
  repeat' (first | (refine h2h (id:=29) ?_) | refine h0p ?_ | refine h0e ?_ | ((refine h2t (pre:=[_]) (id:=28) (m:=5) rfl (by kernel_rfl) rfl (q_t 0 (e:=h2x) (x:=by exact q_L sz_36) (h:=q_t 1 (e:=h2x) (x:=by exact h0m rfl) (h:=?_)))) <;> (try refine q_r 2 ?_; (refine q_c 11 (c:=by apply hcl; (with_reducible assumption); (focus ((try simp only [zzC, zzN]); (repeat' (first | (with_reducible exact Tl.one _ _) | (with_reducible apply Tl.cons) | (with_reducible apply Tl.app)))))) (h:=?_); rintro _ _ ⟨rfl, rfl⟩; (try simp only [zzE, zzF])); refine h1g h2x ?_) <;> (try refine q_r 3 ?_; ((refine q_c 13 (c:=by apply hxH; (with_reducible assumption); (with_reducible assumption); (focus (omega)); (focus ((try simp only [zzC, zzN]); (repeat' (first | (with_reducible exact Tl.nil _) | (with_reducible apply Tl.cons) | (with_reducible apply Tl.app)))))) (h:=?_); rintro _ _ ⟨M2, rfl, hM2, rfl⟩; (try simp only [zzE, zzF])); (try simp only [zzC, zzN])); refine h1g h2x ?_) <;> (try refine q_t 4 (e:=h2x) (x:=by exact h3g rfl) (h:=h1e (by kernel_rfl) ?_))))
  refine ⟨?_⟩
  obtain ⟨B8, hB8⟩ : ∃ M9 : List Blk, M9 = B7 ++ (⟨true, n6, .cells #[.string nmB, .int .u32 df, .slice r1 lr r3, .int .u16 (hd : Nat), .slice p1 lp p3, .slice q1 lq q3] 36 (0, 0)⟩ :: (EE ++ M2)) := ⟨_, rfl⟩
  have hLM : SubB L M2 := ⟨fun b hb => hM2.subB.mem b (hLL.subset hb)⟩
  have hL8 : SubB L B8 := hB8 ▸ (((hLM.upA).up).upA)
  have hSL := fun (x : Blk) => (hsl.mono hL8).up x
  have hone8 : (u8l l).all (·.oneCell') = true := by simp [u8l, Value.oneCell']
  refine h3y (L' := B8) (by rw [hB8]; intro w H; refine Sel.out ?_ H; (try dsimp only); (try simp only [List.cons_append, List.nil_append, List.append_assoc]); with_reducible repeat (first | exact Sel.refl _ | exact Sel.nil _ | apply Sel.appS | apply Sel.consS | (apply Sel.appP; (focus ((repeat (first | exact Pull.here _ | apply Pull.cons | apply Pull.app)); done))) | (apply Sel.consP; (focus ((repeat (first | exact PullB.here _ | apply PullB.cons | apply PullB.app)); done))) | apply Sel.drop | apply Sel.dropA)) ?_
  repeat' (first | (refine h2r (id:=4) ?_) | refine h0e ?_ | (refine gR 29 ?_ <;> (try refine h0f ?_; (refine h0o (t:=45) (m:=0) (e:=5) (fun vs => (match vs with | [] => [] | _ => [])) rfl rfl (fun w => by kernel_rfl) ?_; intro nb hnb; (try simp only [Value.cells]); (try simp only [zzC, zzN]))) <;> (try refine q_m ?_) <;> (try refine h0f ?_; (apply K1_appendSlB; exact rfl; exact Tryz.underlying45; exact inf_5_i; exact inf_5_z; exact inf_5_s; exact inf_5_b; exact rfl; exact rfl; exact rfl; exact fd0; exact Nat.le_of_ble_eq_true rfl; exact Nat.le_of_ble_eq_true rfl; exact rfl; exact hSL _; (with_reducible assumption); exact h5u; omega; exact rfl; exact h6c; exact c_4; (try simp only [zzE, zzF]); intro vA eA hownA)) <;> (try refine h0f ?_; (apply K1_appendZ (cnt:=200); exact rfl; exact Tryz.underlying45; exact Tryz.underlying3; exact inf_5_i; exact inf_5_z; exact inf_5_s; exact inf_5_b; exact rfl; exact rfl; exact rfl; (with_reducible assumption); exact rfl; exact Nat.le_of_ble_eq_true rfl; exact h5u; omega; (exact fun _ H => H); intro vA eA hownA; obtain ⟨gA, capA, curA, rfl, rfl, hA1, hA2, hA3, hA4⟩ := hownA.some (by omega); (try simp only [zzC, zzN]))) <;> (try refine p_e (by apply h0g; exact rfl; exact (fun _ => BigFrame.builtin_len ..); apply h0k Tryz.underlying45; exact h4y) (h:=p_m (h:=h0d ?_)))))
  refine ⟨?_⟩
  obtain ⟨R9, hR9⟩ : ∃ M9 : List Blk, M9 = fA ++ (eB ++ (eC ++ (⟨true, n6, .cells #[.string nmB, .int .u32 df, .slice r1 lr r3, .int .u16 (hd : Nat), .slice p1 lp p3, .slice q1 lq q3] 36 (0, 0)⟩ :: (EE ++ M2)))) := ⟨_, rfl⟩
  have sA0 : Sli R9 aA lr 1 (strV lA) := hR9 ▸ hsA _
  have sB0 : Sli R9 aB lp 1 (strV lB) := hR9 ▸ (hsB _).upA fA
  have sC0 : Sli R9 aC lq 1 (strV lC) := hR9 ▸ ((hsC _).upA eB).upA fA
  have hks : ∀ i, i < l.length + 200 → ∃ x, curA.toList[i]? = some (.int .u8 x) ∧ 0 ≤ x ∧ x < 256 := by
   intro i hi
   rw [Nat.mul_one] at hA4
   have h1 : curA.toList[i]? = (u8l l ++ List.replicate 200 (Value.int .u8 0))[i]? := by
    rw [← hA4, List.getElem?_take_of_lt hi]
   rw [h1]
   by_cases h : i < l.length
   ·refine ⟨l[i], ?_, hl _ (List.getElem_mem h)⟩
    rw [List.getElem?_append_left (by simpa [u8l] using h), u8l, List.getElem?_map, List.getElem?_eq_getElem h]; rfl
   ·refine ⟨0, ?_, by omega, by omega⟩
    rw [List.getElem?_append_right (by simp [u8l]; omega), List.getElem?_replicate, if_pos (by simp [u8l]; omega)]
  rw [polT_h P]
  have hkz : l.length + 200 ≤ curA.size := by omega
  refine h0r ?_
  refine h2s (γ:=OrL) (OrI P R9 lA lB lC lr lp lq (l.length + 200)) (fun g => l.length + 200 - g.i) (fun g => [(107, .int .i64 (g.i : Nat)), (18, .string (mB8 (h4p (ordL P.nm P.df P.hd g.X))))]) [(5, _), (6, _), (7, _), (105, _), (106, _)]
   (fun g => ⟨true, n7, .cells #[.slice g.aA (lr - g.ja) g.cA, .slice g.aB (lp - g.jb) g.cB, .slice g.aC (lq - g.jc) g.cC] 57 (0, 0)⟩ :: ⟨true, gA, .cells curA 5 (0, 0)⟩ :: R9) ⟨0, [], 0, 0, 0, aA, aB, aC, uA, uB, uC⟩ (.cons rfl (.cons rfl (.cons rfl (.cons rfl (.cons rfl .nil))))) ⟨Nat.zero_le _, Nat.zero_le _, Nat.zero_le _, Nat.zero_le _, ⟨rfl, rfl, rfl⟩, sA0, sB0, sC0, hcA, hcB, hcC⟩ (by (focus (repeat (first | exact Sub.nil | refine Sub.cons rfl ?_)))) (by rw [hR9, hB8, hB7]; dsimp only [Nat.sub_zero]; intro w H; refine Sel.out ?_ H; (try dsimp only); (try simp only [List.cons_append, List.nil_append, List.append_assoc]); with_reducible repeat (first | exact Sel.refl _ | exact Sel.nil _ | apply Sel.appS | apply Sel.consS | (apply Sel.appP; (focus ((repeat (first | exact Pull.here _ | apply Pull.cons | apply Pull.app)); done))) | (apply Sel.consP; (focus ((repeat (first | exact PullB.here _ | apply PullB.cons | apply PullB.app)); done))) | apply Sel.drop | apply Sel.dropA)) ?_
  clear sA0 sB0 sC0 hsA hsB hsC hcA hcB hcC hSL hL8 hone8
  rintro ⟨i, X, ja, jb, jc, aA, aB, aC, cA, cB, cC⟩ ⟨hi, hja, hjb, hjc, hX, sA, sB, sC, uA, uB, uC⟩
  dsimp only at hi hja hjb hjc hX sA sB sC uA uB uC ⊢
  by_cases hlt : i < l.length + 200
  case neg =>
   repeat' (first | (refine h2r (id:=6) ?_) | refine h0p ?_ | refine h0e ?_ | refine h1u ?_ | refine h1n ?_ | refine h1v ?_ | refine h2o ?_ | refine h0h rfl ?_ | (refine gR 30 (p_e (q_b (r:=by exact h1j q_o)) (h:=h0d ?_))) | (refine gR 37 (p_e (q_L sz_57) (h:=p_m (h:=h0d ?_)))))
   refine ⟨?_⟩
   refine h0r ?_
   refine h2s (γ:=Nat × List It) (fun g => g.1 ≤ 3 ∧ OrX P g.2 (if 0 < g.1 then lr else ja) (if 1 < g.1 then lp else jb) (if 2 < g.1 then lq else jc)) (fun g => 3 - g.1) (fun g => [(134, .int .i64 (g.1 : Nat)), (18, .string (mB8 (h4p (ordL P.nm P.df P.hd g.2))))]) [(5, _), (6, _), (133, _)]
    (fun _ => R9) (0, X) (.cons rfl (.cons rfl (.cons rfl .nil))) ⟨Nat.zero_le _, hX⟩ (by (focus (repeat (first | exact Sub.nil | refine Sub.cons rfl ?_)))) (fun w H => H.sub ((List.sublist_cons_self _ _).trans (List.sublist_cons_self _ _))) ?_
   clear hX hks
   rintro ⟨k, Z⟩ ⟨hk, hZ⟩
   dsimp only at hk hZ ⊢
   by_cases hlt3 : k < 3
   case neg =>
    obtain rfl : k = 3 := by omega
    rw [if_pos (by omega), if_pos (by omega), if_pos (by omega), ← hlr, ← hlp, ← hlq] at hZ
    have hdn := hZ.done hok hrn
    have hzl := hZ.len hok hrn
    clear hxH hSH sA sB sC uA uB uC hlA hlB hlC hlAl hlBl hlCl
    have hpr := fun (n : Nat) (M L B : List Blk) => parse_t (S:=S) (w0:=w0) (pb:=pb) (ct:=ct) (rb:=rb) (n:=n) (L0:=L0) (M:=M) (L:=L) (B:=B) (mB8 (h4p (ordL P.nm P.df P.hd Z))) (by rw [h1t]; omega) P 0 0 0 (by rw [h4g]; exact hdn) (pol_cl hok)
    have hsm := fun (L X1 X2 : List Blk) (vr vp vq ur up uq : Value) => same_m (S:=S) (w0:=w0) (L:=L) (X1:=X1) (X2:=X2) P.g (vr:=vr) (vp:=vp) (vq:=vq) (ur:=ur) (up:=up) (uq:=uq)
    have z0 : ((0 : Nat) : Int) = 0 := rfl
    generalize mB8 (h4p (ordL P.nm P.df P.hd Z)) = tx at *
    simp only [hlr, hlp, hlq, hnB, hdf, hhd, z0] at hpr
    simp only [show mB8 P.g.nm = nmB from hnB, show P.g.df = df from hdf, show P.g.hd = hd from hhd] at hsm
    have hq0 := wr_same 0 0 0
    have hSE : PolS EE P.g (.slice r1 lr r3) (.slice p1 lp p3) (.slice q1 lq q3) := hSP
    clear hdn
    rw [hR9]
    repeat' (first | (refine h2h (id:=47) ?_) | refine h0p ?_ | refine h0e ?_ | refine h1u ?_ | refine h1n ?_ | refine h1v ?_ | refine h2o ?_ | refine h0h rfl ?_ | (refine gR 38 (p_e (q_b (r:=by exact h1j q_o)) (h:=h0d ?_))) | (refine gR 46 (p_m (h:=q_m ?_)) <;> (try refine h0f ?_; ((refine q_c 10 (c:=by apply hpr; (with_reducible assumption); (focus (omega)); (focus ((try simp only [zzC, zzN]); (repeat' (first | (with_reducible exact Tl.one _ _) | (with_reducible apply Tl.cons) | (with_reducible apply Tl.app)))))) (h:=?_); rintro _ _ ⟨r5, p5, q5, r6, p6, q6, E6, n9, M9, rfl, hS6, hn9, hM9, rfl⟩; (try simp only [zzE, zzF])); (try simp only [zzC, zzN, List.append_assoc]))) <;> (try refine p_m (h:=p_x (h:=q_x ?_))) <;> (try refine h0f ?_; (refine h0i (t:=36) rfl Tryz.zeroValue36 ?_; intro nb hnb; (try simp only [Value.cells]))) <;> (try refine h0f ?_; (refine h0i (t:=25) rfl Tryz.zeroValue25 ?_; intro nb hnb; (try simp only [Value.cells]))) <;> (try refine h0f ?_; (refine q_W ?_)) <;> (try refine h0f ?_; (refine q_W ?_)) <;> (try refine h0d ?_)))
    refine ⟨?_⟩
    repeat' (first | refine h0e ?_ | refine h1h ?_ | (refine gR 47 (q_e (q_L h3z) ?_) <;> (try refine q_e (by exact h0s (t:=25) (fun vs => (match vs with | [] => [Value.int .i64 0, Value.int .i64 0, Value.int .i64 0] | _ => [])) rfl (fun w => by kernel_rfl)) ?_; (try simp only [Value.cells]); (try simp only [zzC, zzN])) <;> (try refine p_e (by apply h1s (op:=.eql) (t:=25); exact rfl; exact rfl; kernel_rfl; (with_reducible assumption)) (h:=p_m (h:=p_y (q_L sz_36) (h:=q_y (by apply h3p (t:=36); exact rfl; (focus (repeat (first | exact fd0 | apply fdA | apply fdS))); kernel_rfl; kernel_rfl; exact sz_36; exact Nat.le_of_ble_eq_true rfl; exact c_25) ?_)))) <;> (try refine h0f ?_; (refine h1x rfl rfl rfl ?_; (refine q_c 14 (c:=by apply hsm; (with_reducible assumption); (with_reducible assumption); (focus ((try simp only [zzC, zzN, List.append_assoc]); (repeat' (first | (with_reducible exact SubB.left _ _) | (with_reducible apply SubB.up) | (with_reducible apply SubB.upA))))); (focus ((try simp only [zzC, zzN, List.append_assoc]); (repeat' (first | (with_reducible exact SubB.left _ _) | (with_reducible apply SubB.up) | (with_reducible apply SubB.upA)))))) (h:=?_); rintro _ _ ⟨rfl, rfl⟩; (try simp only [zzE, zzF])))) <;> (try refine p_p (h:=p_a (h:=h0d ?_)))))
    (refine h0v Tryz.results5 (.tmp rfl .nil) ?_)
    exact ⟨_, ⟨rfl, rfl⟩, fun w H => H.sub ((hLL.trans hM9.sub).trans (by repeat (first | exact List.Sublist.refl _ | refine List.Sublist.cons _ ?_ | refine List.Sublist.trans ?_ (List.sublist_append_right _ _))))⟩
   obtain rfl | rfl | rfl : k = 0 ∨ k = 1 ∨ k = 2 := by omega
   ·rw [if_neg (by omega)] at hZ
    rw [if_neg (by omega)] at hZ
    rw [if_neg (by omega)] at hZ
    simp only [show ((0 : Nat) : Int) = 0 from rfl]
    repeat' (first | (refine h2r (id:=8) ?_) | refine h0p ?_ | refine h0e ?_ | refine h0r ?_ | refine h0u ?_ | refine h0j rfl ?_ | (refine gR 38 (p_e (q_b (r:=by exact h1d q_o)) (h:=h0d ?_))) | (refine gR 39 (p_e (by apply h2n; exact rfl; exact rfl; (focus (apply r_ixv Tryz.underlying57; kernel_rfl; kernel_rfl; exact sz_56; omega; omega; exact rfl))) (h:=p_a (h:=h0d ?_)))) | (refine gR 40 (p_m (h:=p_e (by apply h0g; exact rfl; exact (fun _ => BigFrame.builtin_len ..); apply h0k Tryz.underlying56; exact h4y) (h:=p_m (h:=h0d ?_))))))
    refine ⟨?_⟩
    refine h0r ?_
    refine h2s (γ:=Nat × List It) (fun g => g.1 ≤ lr - ja ∧ OrX P g.2 (ja + g.1) jb jc) (fun g => lr - ja - g.1) (fun g => [(139, .int .i64 (g.1 : Nat)), (18, .string (mB8 (h4p (ordL P.nm P.df P.hd g.2))))]) [(5, _), (6, _), (133, _), (134, _), (137, _), (138, _)]
     (fun _ => R9) (0, Z) (.cons rfl (.cons rfl (.cons rfl (.cons rfl (.cons rfl (.cons rfl .nil)))))) ⟨Nat.zero_le _, hZ⟩ (by (focus (repeat (first | exact Sub.nil | refine Sub.cons rfl ?_)))) (fun _ H => H) ?_
    rintro ⟨m, Z2⟩ ⟨hm9, hZ2⟩
    dsimp only at hm9 hZ2 ⊢
    by_cases hlm : m < lr - ja
    case neg =>
     obtain rfl : m = lr - ja := by omega
     rw [show ja + (lr - ja) = lr by omega] at hZ2
     repeat' (first | refine h0p ?_ | refine h0e ?_ | refine h0t ?_ | refine h1u ?_ | refine h1n ?_ | refine h0x ?_ | refine h1v ?_ | refine h2o ?_ | refine h0h rfl ?_ | (refine gR 41 (p_e (q_b (r:=by exact h1j q_o)) (h:=h0d ?_))) | (refine gR 45 ?_ <;> (try refine q_e (q_b (r:=by apply h1r; exact c_5; (focus (refine IntWalk.i64_in _ ?_; omega)))) ?_) <;> (try refine p_m (h:=h0d ?_))))
     exact h0w (1, Z2) ⟨⟨by show 1 ≤ 3; omega, by dsimp only; rw [if_pos (by omega)]; rw [if_neg (by omega)]; rw [if_neg (by omega)]; exact hZ2⟩, by show 3 - 1 < 3 - 0; omega⟩ (by (focus (repeat (first | exact Sub.nil | refine Sub.cons rfl ?_)))) (fun _ H => H)
    have hre1 : ja + m < P.rules.length := by omega
    have hX2 := hZ2.upA hre1
    have hz2 := hX2.len hok hrn
    obtain ⟨i0, q, b, off, cs0, T0, fr, rfl, hi0, hsz0, hx9⟩ := sA.elem1 hlm
    have hln : ((strV lA).drop ja)[m]? = some (.string (mB8 (lnT (itL (.r P.rules[ja + m]))))) := by
     rw [List.getElem?_drop, strV, List.getElem?_map, hlA, List.getElem?_map, List.getElem?_eq_getElem hre1]; rfl
    rw [hln] at hx9
    have hsn := ord_snoc P.nm P.df P.hd Z2 (.r P.rules[ja + m])
    rw [hsn, List.length_append] at hz2
    have hadd := h4s (h4p (ordL P.nm P.df P.hd Z2)) (lnT (itL (.r P.rules[ja + m])))
    rw [← hsn] at hadd
    have hq1 := h1t (h4p (ordL P.nm P.df P.hd Z2))
    have hq2 := h1t (lnT (itL (.r P.rules[ja + m])))
    clear hln hsn
    generalize mB8 (lnT (itL (.r P.rules[ja + m]))) = tl at *
    repeat' (first | (refine h2h (id:=44) ?_) | refine h0p ?_ | refine h0e ?_ | refine h0x ?_ | refine h0r ?_ | refine h0u ?_ | refine h0j rfl ?_ | (refine gR 41 (p_e (q_b (r:=by exact h1d q_o)) (h:=h0d ?_))) | (refine gR 42 (p_e (by apply h0n; exact rfl; exact rfl; (focus (apply h3e Tryz.underlying56 sz_9; omega; omega; exact c_1))) (h:=p_e (by apply h1l (t:=9); exact rfl; exact c_20; kernel_rfl; kernel_rfl; (with_reducible assumption)) (h:=p_a (h:=h0d ?_))))) | (refine gR 43 (p_m (h:=p_m (h:=p_e (q_b (r:=by apply h1q; exact rfl; (focus (omega)))) (h:=p_a (h:=h0d ?_)))))))
    refine ⟨?_⟩
    rw [hadd]
    repeat' (first | refine h0t ?_ | (refine gR 44 ?_ <;> (try refine q_e (q_b (r:=by apply h1r; exact c_5; (focus (refine IntWalk.i64_in _ ?_; omega)))) ?_) <;> (try refine p_m (h:=h0d ?_))))
    exact h0w (m + 1, Z2 ++ [.r P.rules[ja + m]]) ⟨⟨by show m + 1 ≤ _; omega, hX2⟩, by show _ - (m + 1) < _ - m; omega⟩ (by (focus (repeat (first | exact Sub.nil | refine Sub.cons rfl ?_)))) (fun _ H => H)
   ·rw [if_pos (by omega)] at hZ
    rw [if_neg (by omega)] at hZ
    rw [if_neg (by omega)] at hZ
    simp only [show ((1 : Nat) : Int) = 1 from rfl]
    repeat' (first | (refine h2r (id:=8) ?_) | refine h0p ?_ | refine h0e ?_ | refine h0r ?_ | refine h0u ?_ | refine h0j rfl ?_ | (refine gR 38 (p_e (q_b (r:=by exact h1d q_o)) (h:=h0d ?_))) | (refine gR 39 (p_e (by apply h2n; exact rfl; exact rfl; (focus (apply r_ixv Tryz.underlying57; kernel_rfl; kernel_rfl; exact sz_56; omega; omega; exact rfl))) (h:=p_a (h:=h0d ?_)))) | (refine gR 40 (p_m (h:=p_e (by apply h0g; exact rfl; exact (fun _ => BigFrame.builtin_len ..); apply h0k Tryz.underlying56; exact h4y) (h:=p_m (h:=h0d ?_))))))
    refine ⟨?_⟩
    refine h0r ?_
    refine h2s (γ:=Nat × List It) (fun g => g.1 ≤ lp - jb ∧ OrX P g.2 lr (jb + g.1) jc) (fun g => lp - jb - g.1) (fun g => [(139, .int .i64 (g.1 : Nat)), (18, .string (mB8 (h4p (ordL P.nm P.df P.hd g.2))))]) [(5, _), (6, _), (133, _), (134, _), (137, _), (138, _)]
     (fun _ => R9) (0, Z) (.cons rfl (.cons rfl (.cons rfl (.cons rfl (.cons rfl (.cons rfl .nil)))))) ⟨Nat.zero_le _, hZ⟩ (by (focus (repeat (first | exact Sub.nil | refine Sub.cons rfl ?_)))) (fun _ H => H) ?_
    rintro ⟨m, Z2⟩ ⟨hm9, hZ2⟩
    dsimp only at hm9 hZ2 ⊢
    by_cases hlm : m < lp - jb
    case neg =>
     obtain rfl : m = lp - jb := by omega
     rw [show jb + (lp - jb) = lp by omega] at hZ2
     repeat' (first | refine h0p ?_ | refine h0e ?_ | refine h0t ?_ | refine h1u ?_ | refine h1n ?_ | refine h0x ?_ | refine h1v ?_ | refine h2o ?_ | refine h0h rfl ?_ | (refine gR 41 (p_e (q_b (r:=by exact h1j q_o)) (h:=h0d ?_))) | (refine gR 45 ?_ <;> (try refine q_e (q_b (r:=by apply h1r; exact c_5; (focus (refine IntWalk.i64_in _ ?_; omega)))) ?_) <;> (try refine p_m (h:=h0d ?_))))
     exact h0w (2, Z2) ⟨⟨by show 2 ≤ 3; omega, by dsimp only; rw [if_pos (by omega)]; rw [if_pos (by omega)]; rw [if_neg (by omega)]; exact hZ2⟩, by show 3 - 2 < 3 - 1; omega⟩ (by (focus (repeat (first | exact Sub.nil | refine Sub.cons rfl ?_)))) (fun _ H => H)
    have hre1 : jb + m < P.paths.length := by omega
    have hX2 := hZ2.upB hre1
    have hz2 := hX2.len hok hrn
    obtain ⟨i0, q, b, off, cs0, T0, fr, rfl, hi0, hsz0, hx9⟩ := sB.elem1 hlm
    have hln : ((strV lB).drop jb)[m]? = some (.string (mB8 (lnT (itL (.p P.paths[jb + m]))))) := by
     rw [List.getElem?_drop, strV, List.getElem?_map, hlB, List.getElem?_map, List.getElem?_eq_getElem hre1]; rfl
    rw [hln] at hx9
    have hsn := ord_snoc P.nm P.df P.hd Z2 (.p P.paths[jb + m])
    rw [hsn, List.length_append] at hz2
    have hadd := h4s (h4p (ordL P.nm P.df P.hd Z2)) (lnT (itL (.p P.paths[jb + m])))
    rw [← hsn] at hadd
    have hq1 := h1t (h4p (ordL P.nm P.df P.hd Z2))
    have hq2 := h1t (lnT (itL (.p P.paths[jb + m])))
    clear hln hsn
    generalize mB8 (lnT (itL (.p P.paths[jb + m]))) = tl at *
    repeat' (first | (refine h2h (id:=44) ?_) | refine h0p ?_ | refine h0e ?_ | refine h0x ?_ | refine h0r ?_ | refine h0u ?_ | refine h0j rfl ?_ | (refine gR 41 (p_e (q_b (r:=by exact h1d q_o)) (h:=h0d ?_))) | (refine gR 42 (p_e (by apply h0n; exact rfl; exact rfl; (focus (apply h3e Tryz.underlying56 sz_9; omega; omega; exact c_1))) (h:=p_e (by apply h1l (t:=9); exact rfl; exact c_20; kernel_rfl; kernel_rfl; (with_reducible assumption)) (h:=p_a (h:=h0d ?_))))) | (refine gR 43 (p_m (h:=p_m (h:=p_e (q_b (r:=by apply h1q; exact rfl; (focus (omega)))) (h:=p_a (h:=h0d ?_)))))))
    refine ⟨?_⟩
    rw [hadd]
    repeat' (first | refine h0t ?_ | (refine gR 44 ?_ <;> (try refine q_e (q_b (r:=by apply h1r; exact c_5; (focus (refine IntWalk.i64_in _ ?_; omega)))) ?_) <;> (try refine p_m (h:=h0d ?_))))
    exact h0w (m + 1, Z2 ++ [.p P.paths[jb + m]]) ⟨⟨by show m + 1 ≤ _; omega, hX2⟩, by show _ - (m + 1) < _ - m; omega⟩ (by (focus (repeat (first | exact Sub.nil | refine Sub.cons rfl ?_)))) (fun _ H => H)
   ·rw [if_pos (by omega)] at hZ
    rw [if_pos (by omega)] at hZ
    rw [if_neg (by omega)] at hZ
    simp only [show ((2 : Nat) : Int) = 2 from rfl]
    repeat' (first | (refine h2r (id:=8) ?_) | refine h0p ?_ | refine h0e ?_ | refine h0r ?_ | refine h0u ?_ | refine h0j rfl ?_ | (refine gR 38 (p_e (q_b (r:=by exact h1d q_o)) (h:=h0d ?_))) | (refine gR 39 (p_e (by apply h2n; exact rfl; exact rfl; (focus (apply r_ixv Tryz.underlying57; kernel_rfl; kernel_rfl; exact sz_56; omega; omega; exact rfl))) (h:=p_a (h:=h0d ?_)))) | (refine gR 40 (p_m (h:=p_e (by apply h0g; exact rfl; exact (fun _ => BigFrame.builtin_len ..); apply h0k Tryz.underlying56; exact h4y) (h:=p_m (h:=h0d ?_))))))
    refine ⟨?_⟩
    refine h0r ?_
    refine h2s (γ:=Nat × List It) (fun g => g.1 ≤ lq - jc ∧ OrX P g.2 lr lp (jc + g.1)) (fun g => lq - jc - g.1) (fun g => [(139, .int .i64 (g.1 : Nat)), (18, .string (mB8 (h4p (ordL P.nm P.df P.hd g.2))))]) [(5, _), (6, _), (133, _), (134, _), (137, _), (138, _)]
     (fun _ => R9) (0, Z) (.cons rfl (.cons rfl (.cons rfl (.cons rfl (.cons rfl (.cons rfl .nil)))))) ⟨Nat.zero_le _, hZ⟩ (by (focus (repeat (first | exact Sub.nil | refine Sub.cons rfl ?_)))) (fun _ H => H) ?_
    rintro ⟨m, Z2⟩ ⟨hm9, hZ2⟩
    dsimp only at hm9 hZ2 ⊢
    by_cases hlm : m < lq - jc
    case neg =>
     obtain rfl : m = lq - jc := by omega
     rw [show jc + (lq - jc) = lq by omega] at hZ2
     repeat' (first | refine h0p ?_ | refine h0e ?_ | refine h0t ?_ | refine h1u ?_ | refine h1n ?_ | refine h0x ?_ | refine h1v ?_ | refine h2o ?_ | refine h0h rfl ?_ | (refine gR 41 (p_e (q_b (r:=by exact h1j q_o)) (h:=h0d ?_))) | (refine gR 45 ?_ <;> (try refine q_e (q_b (r:=by apply h1r; exact c_5; (focus (refine IntWalk.i64_in _ ?_; omega)))) ?_) <;> (try refine p_m (h:=h0d ?_))))
     exact h0w (3, Z2) ⟨⟨by show 3 ≤ 3; omega, by dsimp only; rw [if_pos (by omega)]; rw [if_pos (by omega)]; rw [if_pos (by omega)]; exact hZ2⟩, by show 3 - 3 < 3 - 2; omega⟩ (by (focus (repeat (first | exact Sub.nil | refine Sub.cons rfl ?_)))) (fun _ H => H)
    have hre1 : jc + m < P.ports.length := by omega
    have hX2 := hZ2.upC hre1
    have hz2 := hX2.len hok hrn
    obtain ⟨i0, q, b, off, cs0, T0, fr, rfl, hi0, hsz0, hx9⟩ := sC.elem1 hlm
    have hln : ((strV lC).drop jc)[m]? = some (.string (mB8 (lnT (itL (.q P.ports[jc + m]))))) := by
     rw [List.getElem?_drop, strV, List.getElem?_map, hlC, List.getElem?_map, List.getElem?_eq_getElem hre1]; rfl
    rw [hln] at hx9
    have hsn := ord_snoc P.nm P.df P.hd Z2 (.q P.ports[jc + m])
    rw [hsn, List.length_append] at hz2
    have hadd := h4s (h4p (ordL P.nm P.df P.hd Z2)) (lnT (itL (.q P.ports[jc + m])))
    rw [← hsn] at hadd
    have hq1 := h1t (h4p (ordL P.nm P.df P.hd Z2))
    have hq2 := h1t (lnT (itL (.q P.ports[jc + m])))
    clear hln hsn
    generalize mB8 (lnT (itL (.q P.ports[jc + m]))) = tl at *
    repeat' (first | (refine h2h (id:=44) ?_) | refine h0p ?_ | refine h0e ?_ | refine h0x ?_ | refine h0r ?_ | refine h0u ?_ | refine h0j rfl ?_ | (refine gR 41 (p_e (q_b (r:=by exact h1d q_o)) (h:=h0d ?_))) | (refine gR 42 (p_e (by apply h0n; exact rfl; exact rfl; (focus (apply h3e Tryz.underlying56 sz_9; omega; omega; exact c_1))) (h:=p_e (by apply h1l (t:=9); exact rfl; exact c_20; kernel_rfl; kernel_rfl; (with_reducible assumption)) (h:=p_a (h:=h0d ?_))))) | (refine gR 43 (p_m (h:=p_m (h:=p_e (q_b (r:=by apply h1q; exact rfl; (focus (omega)))) (h:=p_a (h:=h0d ?_)))))))
    refine ⟨?_⟩
    rw [hadd]
    repeat' (first | refine h0t ?_ | (refine gR 44 ?_ <;> (try refine q_e (q_b (r:=by apply h1r; exact c_5; (focus (refine IntWalk.i64_in _ ?_; omega)))) ?_) <;> (try refine p_m (h:=h0d ?_))))
    exact h0w (m + 1, Z2 ++ [.q P.ports[jc + m]]) ⟨⟨by show m + 1 ≤ _; omega, hX2⟩, by show _ - (m + 1) < _ - m; omega⟩ (by (focus (repeat (first | exact Sub.nil | refine Sub.cons rfl ?_)))) (fun _ H => H)
  obtain ⟨x, hx, hx0, hx1⟩ := hks i hlt
  repeat' (first | (refine h2h (id:=33) ?_) | refine h0p ?_ | refine h0e ?_ | refine h0r ?_ | refine h0u ?_ | refine h0j rfl ?_ | (refine gR 30 (p_e (q_b (r:=by exact h1d q_o)) (h:=h0d ?_))) | (refine gR 31 (p_e (by apply h0n; exact rfl; exact rfl; (focus (apply h3e Tryz.underlying45 sz_5; omega; omega; exact c_1))) (h:=p_e (by apply h1l (t:=5); exact rfl; exact h3n; kernel_rfl; kernel_rfl; (with_reducible assumption)) (h:=p_a (h:=h0d ?_))))) | (refine gR 32 (p_m (h:=q_e (q_b (r:=by apply rb_rem; omega; omega; exact c_5)) ?_)) <;> (try refine q_e (by apply h4l; exact rfl; (focus (apply h4r Tryz.underlying5 Tryz.underlying3; first | (refine IntWalk.i64_in _ ?_; omega) | (refine IntWalk.u8_in _ ?_; omega) | (refine IntWalk.u16_in _ ?_; omega) | (refine IntWalk.u32_in _ ?_; omega) | (refine IntWalk.u64_in _ ?_; omega) | (refine IntWalk.i32_in _ ?_; omega) | exact rfl))) ?_) <;> (try refine p_a (h:=h0d ?_))))
  refine ⟨?_⟩
  obtain hj | hj | hj : x % 3 = 0 ∨ x % 3 = 1 ∨ x % 3 = 2 := by omega
  ·rw [hj]
   by_cases hre : ja < lr
   case neg =>
    have hre0 : lr - ja = 0 := by omega
    repeat' (first | refine h0e ?_ | refine h0t ?_ | refine h0x ?_ | refine h0u ?_ | refine h0h rfl ?_ | (refine gR 33 (p_m (h:=p_e (by apply h0n; exact rfl; exact rfl; (focus (apply r_ixa Tryz.underlying57 sz_56; omega; omega; exact c_1))) (h:=p_e q_l (h:=p_e (by apply h0g; exact rfl; exact (fun _ => BigFrame.builtin_len ..); apply h0k Tryz.underlying56; exact h4y) (h:=p_e (q_b (r:=by exact h2f q_o)) (h:=h0d ?_))))))) | (refine gR 36 ?_ <;> (try refine q_e (q_b (r:=by apply h1r; exact c_5; (focus (refine IntWalk.i64_in _ ?_; omega)))) ?_) <;> (try refine p_m (h:=h0d ?_))))
    exact h0w ⟨i + 1, X, ja, jb, jc, aA, aB, aC, cA, cB, cC⟩ ⟨⟨by show i + 1 ≤ _; omega, hja, hjb, hjc, hX, sA, sB, sC, uA, uB, uC⟩, by show _ - (i + 1) < _ - i; omega⟩ (by (focus (repeat (first | exact Sub.nil | refine Sub.cons rfl ?_)))) (fun _ H => H)
   have hre1 : ja < P.rules.length := by omega
   have hX2 := hX.upA hre1
   have hz2 := hX2.len hok hrn
   have s2 := sli_next sA hre uA
   obtain ⟨i0, q, b, off, cs0, T0, fr, rfl, hi0, hsz0, hx9⟩ := ((sA.up ⟨true, gA, .cells curA 5 (0, 0)⟩).up (⟨true, n7, .cells #[.slice aA (lr - ja) cA, .slice aB (lp - jb) cB, .slice aC (lq - jc) cC] 57 (0, 0)⟩)).elem1 (k:=0) (by omega)
   have hln : ((strV lA).drop ja)[0]? = some (.string (mB8 (lnT (itL (.r P.rules[ja]))))) := by
    rw [List.getElem?_drop, Nat.add_zero, strV, List.getElem?_map, hlA, List.getElem?_map, List.getElem?_eq_getElem hre1]; rfl
   rw [hln, Nat.add_zero] at hx9
   have hsn := ord_snoc P.nm P.df P.hd X (.r P.rules[ja])
   rw [hsn, List.length_append] at hz2
   have hadd := h4s (h4p (ordL P.nm P.df P.hd X)) (lnT (itL (.r P.rules[ja])))
   rw [← hsn] at hadd
   have hq1 := h1t (h4p (ordL P.nm P.df P.hd X))
   have hq2 := h1t (lnT (itL (.r P.rules[ja])))
   clear hln hsn
   generalize mB8 (lnT (itL (.r P.rules[ja]))) = tl at *
   repeat' (first | (refine h2h (id:=35) ?_) | refine h0p ?_ | refine h0e ?_ | refine h0j rfl ?_ | (refine gR 33 (p_m (h:=p_e (by apply h0n; exact rfl; exact rfl; (focus (apply r_ixa Tryz.underlying57 sz_56; omega; omega; exact c_1))) (h:=p_e q_l (h:=p_e (by apply h0g; exact rfl; exact (fun _ => BigFrame.builtin_len ..); apply h0k Tryz.underlying56; exact h4y) (h:=p_e (q_b (r:=by exact h1y q_o)) (h:=h0d ?_))))))) | (refine gR 34 (p_m (h:=p_m (h:=p_e (by apply h0n; exact rfl; exact rfl; (focus (apply r_ixa Tryz.underlying57 sz_56; omega; omega; exact c_1))) (h:=p_e q_l (h:=p_e (by apply h0n; exact rfl; exact rfl; (focus (apply h3e Tryz.underlying56 sz_9; omega; omega; exact c_1))) (h:=p_e (by apply h1l (t:=9); exact rfl; exact c_20; kernel_rfl; kernel_rfl; (with_reducible assumption)) (h:=p_e (q_b (r:=by apply h1q; exact rfl; (focus (omega)))) (h:=p_a (h:=h0d ?_)))))))))))
   refine ⟨?_⟩
   rw [hadd]
   repeat' (first | refine h0e ?_ | refine h0t ?_ | refine h0x ?_ | (refine gR 35 (p_m (h:=p_m (h:=p_e (by apply h0n; exact rfl; exact rfl; (focus (apply r_ixa Tryz.underlying57 sz_56; omega; omega; exact c_1))) (h:=p_e q_l (h:=p_e (by apply h4w; exact rfl; exact rfl; exact rfl; exact rfl; (focus (apply r_slg Tryz.underlying56 sz_9; (focus (apply bd_10; omega; omega; exact c_0))))) (h:=q_e (by apply h0n; exact rfl; exact rfl; (focus (apply r_ixa Tryz.underlying57 sz_56; omega; omega; exact c_1))) ?_)))))) <;> (try refine h0f ?_; (refine q_S ?_)) <;> (try refine h0d ?_)) | (refine gR 36 ?_ <;> (try refine q_e (q_b (r:=by apply h1r; exact c_5; (focus (refine IntWalk.i64_in _ ?_; omega)))) ?_) <;> (try refine p_m (h:=h0d ?_))))
   exact h0w ⟨i + 1, X ++ [.r P.rules[ja]], ja + 1, jb, jc, slO (some ⟨b, off, none⟩) 1 cA 1, aB, aC, cA - 1, cB, cC⟩ ⟨⟨by show i + 1 ≤ _; omega, by show ja + 1 ≤ _; omega, hjb, hjc, hX2, s2, sB, sC, by show lr - (ja + 1) ≤ cA - 1; omega, uB, uC⟩, by show _ - (i + 1) < _ - i; omega⟩ (by (focus (repeat (first | exact Sub.nil | refine Sub.cons rfl ?_)))) (by dsimp only; exact fun _ H => H)
  ·rw [hj]
   by_cases hre : jb < lp
   case neg =>
    have hre0 : lp - jb = 0 := by omega
    repeat' (first | refine h0e ?_ | refine h0t ?_ | refine h0x ?_ | refine h0u ?_ | refine h0h rfl ?_ | (refine gR 33 (p_m (h:=p_e (by apply h0n; exact rfl; exact rfl; (focus (apply r_ixa Tryz.underlying57 sz_56; omega; omega; exact c_1))) (h:=p_e q_l (h:=p_e (by apply h0g; exact rfl; exact (fun _ => BigFrame.builtin_len ..); apply h0k Tryz.underlying56; exact h4y) (h:=p_e (q_b (r:=by exact h2f q_o)) (h:=h0d ?_))))))) | (refine gR 36 ?_ <;> (try refine q_e (q_b (r:=by apply h1r; exact c_5; (focus (refine IntWalk.i64_in _ ?_; omega)))) ?_) <;> (try refine p_m (h:=h0d ?_))))
    exact h0w ⟨i + 1, X, ja, jb, jc, aA, aB, aC, cA, cB, cC⟩ ⟨⟨by show i + 1 ≤ _; omega, hja, hjb, hjc, hX, sA, sB, sC, uA, uB, uC⟩, by show _ - (i + 1) < _ - i; omega⟩ (by (focus (repeat (first | exact Sub.nil | refine Sub.cons rfl ?_)))) (fun _ H => H)
   have hre1 : jb < P.paths.length := by omega
   have hX2 := hX.upB hre1
   have hz2 := hX2.len hok hrn
   have s2 := sli_next sB hre uB
   obtain ⟨i0, q, b, off, cs0, T0, fr, rfl, hi0, hsz0, hx9⟩ := ((sB.up ⟨true, gA, .cells curA 5 (0, 0)⟩).up (⟨true, n7, .cells #[.slice aA (lr - ja) cA, .slice aB (lp - jb) cB, .slice aC (lq - jc) cC] 57 (0, 0)⟩)).elem1 (k:=0) (by omega)
   have hln : ((strV lB).drop jb)[0]? = some (.string (mB8 (lnT (itL (.p P.paths[jb]))))) := by
    rw [List.getElem?_drop, Nat.add_zero, strV, List.getElem?_map, hlB, List.getElem?_map, List.getElem?_eq_getElem hre1]; rfl
   rw [hln, Nat.add_zero] at hx9
   have hsn := ord_snoc P.nm P.df P.hd X (.p P.paths[jb])
   rw [hsn, List.length_append] at hz2
   have hadd := h4s (h4p (ordL P.nm P.df P.hd X)) (lnT (itL (.p P.paths[jb])))
   rw [← hsn] at hadd
   have hq1 := h1t (h4p (ordL P.nm P.df P.hd X))
   have hq2 := h1t (lnT (itL (.p P.paths[jb])))
   clear hln hsn
   generalize mB8 (lnT (itL (.p P.paths[jb]))) = tl at *
   repeat' (first | (refine h2h (id:=35) ?_) | refine h0p ?_ | refine h0e ?_ | refine h0j rfl ?_ | (refine gR 33 (p_m (h:=p_e (by apply h0n; exact rfl; exact rfl; (focus (apply r_ixa Tryz.underlying57 sz_56; omega; omega; exact c_1))) (h:=p_e q_l (h:=p_e (by apply h0g; exact rfl; exact (fun _ => BigFrame.builtin_len ..); apply h0k Tryz.underlying56; exact h4y) (h:=p_e (q_b (r:=by exact h1y q_o)) (h:=h0d ?_))))))) | (refine gR 34 (p_m (h:=p_m (h:=p_e (by apply h0n; exact rfl; exact rfl; (focus (apply r_ixa Tryz.underlying57 sz_56; omega; omega; exact c_1))) (h:=p_e q_l (h:=p_e (by apply h0n; exact rfl; exact rfl; (focus (apply h3e Tryz.underlying56 sz_9; omega; omega; exact c_1))) (h:=p_e (by apply h1l (t:=9); exact rfl; exact c_20; kernel_rfl; kernel_rfl; (with_reducible assumption)) (h:=p_e (q_b (r:=by apply h1q; exact rfl; (focus (omega)))) (h:=p_a (h:=h0d ?_)))))))))))
   refine ⟨?_⟩
   rw [hadd]
   repeat' (first | refine h0e ?_ | refine h0t ?_ | refine h0x ?_ | (refine gR 35 (p_m (h:=p_m (h:=p_e (by apply h0n; exact rfl; exact rfl; (focus (apply r_ixa Tryz.underlying57 sz_56; omega; omega; exact c_1))) (h:=p_e q_l (h:=p_e (by apply h4w; exact rfl; exact rfl; exact rfl; exact rfl; (focus (apply r_slg Tryz.underlying56 sz_9; (focus (apply bd_10; omega; omega; exact c_0))))) (h:=q_e (by apply h0n; exact rfl; exact rfl; (focus (apply r_ixa Tryz.underlying57 sz_56; omega; omega; exact c_1))) ?_)))))) <;> (try refine h0f ?_; (refine q_S ?_)) <;> (try refine h0d ?_)) | (refine gR 36 ?_ <;> (try refine q_e (q_b (r:=by apply h1r; exact c_5; (focus (refine IntWalk.i64_in _ ?_; omega)))) ?_) <;> (try refine p_m (h:=h0d ?_))))
   exact h0w ⟨i + 1, X ++ [.p P.paths[jb]], ja, jb + 1, jc, aA, slO (some ⟨b, off, none⟩) 1 cB 1, aC, cA, cB - 1, cC⟩ ⟨⟨by show i + 1 ≤ _; omega, hja, by show jb + 1 ≤ _; omega, hjc, hX2, sA, s2, sC, uA, by show lp - (jb + 1) ≤ cB - 1; omega, uC⟩, by show _ - (i + 1) < _ - i; omega⟩ (by (focus (repeat (first | exact Sub.nil | refine Sub.cons rfl ?_)))) (by dsimp only; exact fun _ H => H)
  ·rw [hj]
   by_cases hre : jc < lq
   case neg =>
    have hre0 : lq - jc = 0 := by omega
    repeat' (first | refine h0e ?_ | refine h0t ?_ | refine h0x ?_ | refine h0u ?_ | refine h0h rfl ?_ | (refine gR 33 (p_m (h:=p_e (by apply h0n; exact rfl; exact rfl; (focus (apply r_ixa Tryz.underlying57 sz_56; omega; omega; exact c_1))) (h:=p_e q_l (h:=p_e (by apply h0g; exact rfl; exact (fun _ => BigFrame.builtin_len ..); apply h0k Tryz.underlying56; exact h4y) (h:=p_e (q_b (r:=by exact h2f q_o)) (h:=h0d ?_))))))) | (refine gR 36 ?_ <;> (try refine q_e (q_b (r:=by apply h1r; exact c_5; (focus (refine IntWalk.i64_in _ ?_; omega)))) ?_) <;> (try refine p_m (h:=h0d ?_))))
    exact h0w ⟨i + 1, X, ja, jb, jc, aA, aB, aC, cA, cB, cC⟩ ⟨⟨by show i + 1 ≤ _; omega, hja, hjb, hjc, hX, sA, sB, sC, uA, uB, uC⟩, by show _ - (i + 1) < _ - i; omega⟩ (by (focus (repeat (first | exact Sub.nil | refine Sub.cons rfl ?_)))) (fun _ H => H)
   have hre1 : jc < P.ports.length := by omega
   have hX2 := hX.upC hre1
   have hz2 := hX2.len hok hrn
   have s2 := sli_next sC hre uC
   obtain ⟨i0, q, b, off, cs0, T0, fr, rfl, hi0, hsz0, hx9⟩ := ((sC.up ⟨true, gA, .cells curA 5 (0, 0)⟩).up (⟨true, n7, .cells #[.slice aA (lr - ja) cA, .slice aB (lp - jb) cB, .slice aC (lq - jc) cC] 57 (0, 0)⟩)).elem1 (k:=0) (by omega)
   have hln : ((strV lC).drop jc)[0]? = some (.string (mB8 (lnT (itL (.q P.ports[jc]))))) := by
    rw [List.getElem?_drop, Nat.add_zero, strV, List.getElem?_map, hlC, List.getElem?_map, List.getElem?_eq_getElem hre1]; rfl
   rw [hln, Nat.add_zero] at hx9
   have hsn := ord_snoc P.nm P.df P.hd X (.q P.ports[jc])
   rw [hsn, List.length_append] at hz2
   have hadd := h4s (h4p (ordL P.nm P.df P.hd X)) (lnT (itL (.q P.ports[jc])))
   rw [← hsn] at hadd
   have hq1 := h1t (h4p (ordL P.nm P.df P.hd X))
   have hq2 := h1t (lnT (itL (.q P.ports[jc])))
   clear hln hsn
   generalize mB8 (lnT (itL (.q P.ports[jc]))) = tl at *
   repeat' (first | (refine h2h (id:=35) ?_) | refine h0p ?_ | refine h0e ?_ | refine h0j rfl ?_ | (refine gR 33 (p_m (h:=p_e (by apply h0n; exact rfl; exact rfl; (focus (apply r_ixa Tryz.underlying57 sz_56; omega; omega; exact c_1))) (h:=p_e q_l (h:=p_e (by apply h0g; exact rfl; exact (fun _ => BigFrame.builtin_len ..); apply h0k Tryz.underlying56; exact h4y) (h:=p_e (q_b (r:=by exact h1y q_o)) (h:=h0d ?_))))))) | (refine gR 34 (p_m (h:=p_m (h:=p_e (by apply h0n; exact rfl; exact rfl; (focus (apply r_ixa Tryz.underlying57 sz_56; omega; omega; exact c_1))) (h:=p_e q_l (h:=p_e (by apply h0n; exact rfl; exact rfl; (focus (apply h3e Tryz.underlying56 sz_9; omega; omega; exact c_1))) (h:=p_e (by apply h1l (t:=9); exact rfl; exact c_20; kernel_rfl; kernel_rfl; (with_reducible assumption)) (h:=p_e (q_b (r:=by apply h1q; exact rfl; (focus (omega)))) (h:=p_a (h:=h0d ?_)))))))))))
   refine ⟨?_⟩
   rw [hadd]
   repeat' (first | refine h0e ?_ | refine h0t ?_ | refine h0x ?_ | (refine gR 35 (p_m (h:=p_m (h:=p_e (by apply h0n; exact rfl; exact rfl; (focus (apply r_ixa Tryz.underlying57 sz_56; omega; omega; exact c_1))) (h:=p_e q_l (h:=p_e (by apply h4w; exact rfl; exact rfl; exact rfl; exact rfl; (focus (apply r_slg Tryz.underlying56 sz_9; (focus (apply bd_10; omega; omega; exact c_0))))) (h:=q_e (by apply h0n; exact rfl; exact rfl; (focus (apply r_ixa Tryz.underlying57 sz_56; omega; omega; exact c_1))) ?_)))))) <;> (try refine h0f ?_; (refine q_S ?_)) <;> (try refine h0d ?_)) | (refine gR 36 ?_ <;> (try refine q_e (q_b (r:=by apply h1r; exact c_5; (focus (refine IntWalk.i64_in _ ?_; omega)))) ?_) <;> (try refine p_m (h:=h0d ?_))))
   exact h0w ⟨i + 1, X ++ [.q P.ports[jc]], ja, jb, jc + 1, aA, aB, slO (some ⟨b, off, none⟩) 1 cC 1, cA, cB, cC - 1⟩ ⟨⟨by show i + 1 ≤ _; omega, hja, hjb, by show jc + 1 ≤ _; omega, hX2, sA, sB, s2, uA, uB, by show lq - (jc + 1) ≤ cC - 1; omega⟩, by show _ - (i + 1) < _ - i; omega⟩ (by (focus (repeat (first | exact Sub.nil | refine Sub.cons rfl ?_)))) (by dsimp only; exact fun _ H => H)
 obtain rfl | rfl | rfl : k = 0 ∨ k = 1 ∨ k = 2 := by omega
 ·rw [if_neg (by omega)] at hA
  rw [if_neg (by omega)] at hB
  rw [if_neg (by omega)] at hC
  obtain ⟨B7, hB7⟩ : ∃ M : List Blk, M = eA ++ (eB ++ (eC ++ [⟨true, n7, .cells #[vA, vB, vC] 57 (0, 0)⟩, ⟨true, nbS, .cells cs 36 (0, 0)⟩, ⟨true, n6, .cells #[.string nmB, .int .u32 df, .slice r1 lr r3, .int .u16 (hd : Nat), .slice p1 lp p3, .slice q1 lq q3] 36 (0, 0)⟩])) := ⟨_, rfl⟩
  simp only [show ((0 : Nat) : Int) = 0 from rfl]
  repeat' (first | (refine G_markc (t:=63) ?_) | refine h0p ?_ | refine h0e ?_ | refine h0r ?_ | refine h0u ?_ | refine h0j rfl ?_ | (refine gR 11 (p_e (q_b (r:=by exact h1d q_o)) (h:=h0d ?_))) | (refine gR 12 (p_m (h:=p_e (by apply h0n; exact rfl; exact rfl; (focus (apply h3e Tryz.underlying58 sz_36; omega; omega; exact c_1))) (h:=q_e (by apply h3p (t:=36); exact rfl; (focus (repeat (first | exact fd0 | apply fdA | apply fdS))); kernel_rfl; kernel_rfl; exact sz_36; (focus (simp; omega)); (with_reducible assumption)) ?_))) <;> (try refine h0f ?_; (refine h0i (t:=36) rfl Tryz.zeroValue36 ?_; intro nb hnb; (try simp only [Value.cells]))) <;> (try refine q_a ?_) <;> (try refine h0f ?_; (refine q_W ?_)) <;> (try refine h0d ?_)) | (refine gR 13 (p_a (h:=h0d ?_))) | (refine gR 14 (p_m (h:=p_e (q_b (r:=by exact h2f q_o)) (h:=p_m (h:=p_z (h:=p_z (h:=p_z (h:=p_p (h:=h0d ?_))))))))))
  refine ⟨?_⟩
  obtain ⟨n12, rfl⟩ : ∃ x, x = nb := ⟨_, rfl⟩
  refine h2z (γ:=Unit) (fun _ => True) (fun _ => [(13, .int .i64 ((2 : Nat) : Int))]) [(1, _), (5, _), (6, _), (7, _), (11, _), (12, _), (50, _), (51, _), (52, _)] (fun _ => ⟨true, n12, .cells #[.string nmB, .int .u32 df, .slice ra lr ra', .int .u16 0, .slice none 0 0, .slice none 0 0] 36 (0, 0)⟩ :: (B7 ++ (EE ++ M))) (.cons rfl (.cons rfl (.cons rfl (.cons rfl (.cons rfl (.cons rfl (.cons rfl (.cons rfl (.cons rfl .nil))))))))) ?_ ?_
  ·by_cases hd0 : hd = 0
   ·rw [if_neg (fun h => h hd0)] at hsk
    repeat' (first | refine h0t ?_ | refine h0u ?_ | refine h0h rfl ?_)
    all_goals first | exact h0w () trivial (by (focus (repeat (first | exact Sub.nil | refine Sub.cons rfl ?_)))) (by rw [hB7]; intro w H; refine Sel.out ?_ H; (try dsimp only); (try simp only [List.cons_append, List.nil_append, List.append_assoc]); with_reducible repeat (first | exact Sel.refl _ | exact Sel.nil _ | apply Sel.appS | apply Sel.consS | (apply Sel.appP; (focus ((repeat (first | exact Pull.here _ | apply Pull.cons | apply Pull.app)); done))) | (apply Sel.consP; (focus ((repeat (first | exact PullB.here _ | apply PullB.cons | apply PullB.app)); done))) | apply Sel.drop | apply Sel.dropA)) | (exfalso; omega)
   ·rw [if_pos hd0] at hsk
    repeat' (first | refine h0t ?_ | refine h0u ?_ | refine h0h rfl ?_)
    all_goals first | exact h0w () trivial (by (focus (repeat (first | exact Sub.nil | refine Sub.cons rfl ?_)))) (by rw [hB7]; intro w H; refine Sel.out ?_ H; (try dsimp only); (try simp only [List.cons_append, List.nil_append, List.append_assoc]); with_reducible repeat (first | exact Sel.refl _ | exact Sel.nil _ | apply Sel.appS | apply Sel.consS | (apply Sel.appP; (focus ((repeat (first | exact Pull.here _ | apply Pull.cons | apply Pull.app)); done))) | (apply Sel.consP; (focus ((repeat (first | exact PullB.here _ | apply PullB.cons | apply PullB.app)); done))) | apply Sel.drop | apply Sel.dropA)) | (exfalso; omega)
  rintro - -
  repeat' (first | (refine h2r (id:=2) ?_) | refine h0p ?_ | refine h0e ?_ | (refine gR 16 (p_a (h:=h0d ?_))) | ((refine h2t (pre:=[_]) (id:=17) (m:=5) rfl (by kernel_rfl) rfl (q_t 0 (e:=h2x) (x:=by exact q_L sz_36) (h:=q_t 1 (e:=h2x) (x:=by exact h0m rfl) (h:=?_)))) <;> (try refine q_r 2 ?_; (refine q_c 11 (c:=by apply hcl; (with_reducible assumption); (focus ((try simp only [zzC, zzN]); (repeat' (first | (with_reducible exact Tl.one _ _) | (with_reducible apply Tl.cons) | (with_reducible apply Tl.app)))))) (h:=?_); rintro _ _ ⟨rfl, rfl⟩; (try simp only [zzE, zzF])); refine h1g h2x ?_) <;> (try refine q_r 3 ?_; ((refine q_c 13 (c:=by apply hxA; (with_reducible assumption); (with_reducible assumption); (focus (omega)); (focus ((try simp only [zzC, zzN]); (repeat' (first | (with_reducible exact Tl.one _ _) | (with_reducible apply Tl.cons)))))) (h:=?_); rintro _ _ ⟨M2, rfl, hM2, rfl⟩; (try simp only [zzE, zzF])); (try simp only [zzC, zzN])); refine h1g h2x ?_) <;> (try refine q_r 4 ?_; (refine K1_rangeStr rfl rfl Tryz.underlying9 ?_; intro nb hnb); refine h1g c_8 ?_) <;> (try refine h1e (by kernel_rfl) ?_)))
  refine ⟨?_⟩
  obtain ⟨nI, rfl⟩ : ∃ x, x = nb := ⟨_, rfl⟩
  obtain ⟨RST, hRST⟩ : ∃ M : List Blk, M = ⟨true, n12, .cells #[.string nmB, .int .u32 df, .slice ra lr ra', .int .u16 0, .slice none 0 0, .slice none 0 0] 36 (0, 0)⟩ :: (eB ++ (eC ++ (⟨true, nbS, .cells cs 36 (0, 0)⟩ :: ⟨true, n6, .cells #[.string nmB, .int .u32 df, .slice r1 lr r3, .int .u16 (hd : Nat), .slice p1 lp p3, .slice q1 lq q3] 36 (0, 0)⟩ :: (EE ++ M2)))) := ⟨_, rfl⟩
  have hbz : (mB8 bA).size = bA.length := h1t _
  refine h0r ?_
  refine h2s (γ:=Nat × Value × List Blk) (fun g => g.1 ≤ bA.length ∧ Own 9 1 g.2.1 ((cutL (bA.take g.1)).1.drop 2).length (strV ((cutL (bA.take g.1)).1.drop 2)) g.2.2) (fun g => bA.length - g.1) (fun g => [(13, .int .i64 ((2 - (cutL (bA.take g.1)).1.length : Nat) : Int)), (14, .string (mB8 (cutL (bA.take g.1)).2))]) [(1, _), (5, _), (6, _), (7, _), (11, _), (50, _), (51, _), (52, _), (68, _)]
   (fun g => iterB nI (mB8 bA) g.1 :: ⟨true, n7, .cells #[g.2.1, vB, vC] 57 (0, 0)⟩ :: (g.2.2 ++ RST)) (0, vA, eA) (.cons rfl (.cons rfl (.cons rfl (.cons rfl (.cons rfl (.cons rfl (.cons rfl (.cons rfl (.cons rfl .nil))))))))) ⟨Nat.zero_le _, by rw [List.take_zero, show (cutL []).1.drop 2 = [] from List.drop_nil]; exact hA⟩ (by (focus (repeat (first | exact Sub.nil | refine Sub.cons rfl ?_)))) (by rw [hRST, hB7]; intro w H; refine Sel.out ?_ H; (try dsimp only); (try simp only [List.cons_append, List.nil_append, List.append_assoc]); with_reducible repeat (first | exact Sel.refl _ | exact Sel.nil _ | apply Sel.appS | apply Sel.consS | (apply Sel.appP; (focus ((repeat (first | exact Pull.here _ | apply Pull.cons | apply Pull.app)); done))) | (apply Sel.consP; (focus ((repeat (first | exact PullB.here _ | apply PullB.cons | apply PullB.app)); done))) | apply Sel.drop | apply Sel.dropA)) ?_
  rintro ⟨p, v, e⟩ ⟨hp, ho⟩
  dsimp only at hp ho ⊢
  by_cases hlp : p < bA.length
  case neg =>
   obtain rfl : p = bA.length := by omega
   rw [List.take_length] at ho ⊢
   rw [hcA] at ho
   repeat' (first | refine h0p ?_ | refine h0e ?_ | refine h0t ?_ | refine h1u ?_ | refine h1n ?_ | refine h0x ?_ | refine h1v ?_ | refine h2o ?_ | refine h0h rfl ?_ | (refine gR 18 ?_ <;> (try refine h0f ?_; (apply K1_nextOver; exact rfl; exact rfl; exact fd0; omega)) <;> (try refine p_x (h:=h0d ?_))) | (refine gR 26 ?_ <;> (try refine q_e (q_b (r:=by apply h1r; exact c_5; (focus (refine IntWalk.i64_in _ ?_; omega)))) ?_) <;> (try refine p_m (h:=h0d ?_))))
   exact h0w ⟨1, n + lr, M2, v, vB, vC, e, eB, eC⟩ ⟨⟨by show 1 ≤ 3; omega, by dsimp only; omega, hM2, by rw [if_pos (by show 0 < 1; omega)]; exact ho, by rw [if_neg (by show ¬ 1 < 1; omega)]; exact hB, by rw [if_neg (by show ¬ 2 < 1; omega)]; exact hC⟩, by show 3 - 1 < 3 - 0; omega⟩ (by (focus (repeat (first | exact Sub.nil | refine Sub.cons rfl ?_)))) (by rw [hRST]; intro w H; refine Sel.out ?_ H; (try dsimp only); (try simp only [List.cons_append, List.nil_append, List.append_assoc]); with_reducible repeat (first | exact Sel.refl _ | exact Sel.nil _ | apply Sel.appS | apply Sel.consS | (apply Sel.appP; (focus ((repeat (first | exact Pull.here _ | apply Pull.cons | apply Pull.app)); done))) | (apply Sel.consP; (focus ((repeat (first | exact PullB.here _ | apply PullB.cons | apply PullB.app)); done))) | apply Sel.drop | apply Sel.dropA))
  have hlt8 : p < (mB8 bA).size := by omega
  have hc8 := hyA _ (List.getElem_mem hlp)
  have hd8 := decode_ascii (mB8 bA) p hlt8 (by rw [mB8_get hlt8 hlp]; exact hc8)
  rw [mB8_get hlt8 hlp] at hd8
  have hct := cut_at hlp
  obtain ⟨hn1, hn2⟩ := cut_cnt0 (bA.take p)
  rw [List.length_take, Nat.min_eq_left hp] at hn1 hn2
  generalize bA[p] = x at *
  have hd1 : ((Utf8.decode (mB8 bA) p).1 : Int) = x.toNat := by rw [hd8]
  have hd2 : (Utf8.decode (mB8 bA) p).2 = 1 := by rw [hd8]
  generalize hWR : cutL (bA.take p) = WR at *
  obtain ⟨Wl, Rl⟩ := WR
  dsimp only at ho hn1 hn2 ⊢
  have hzr : (mB8 Rl).size = Rl.length := h1t _
  have d1 : (⟨#[x]⟩ : ByteArray).size = 1 := rfl
  clear hd8 hWR hcl hxA hxB hxC hA hB hC
  repeat' (first | (refine h2h (id:=20) ?_) | refine h0p ?_ | refine h0e ?_ | refine h0r ?_ | refine h0u ?_ | refine h0j rfl ?_ | (refine gR 18 ?_ <;> (try refine h0f ?_; (apply K1_nextStr; exact rfl; exact rfl; exact fd0; omega; (try simp only [List.set_cons_succ]); (try simp only [List.set_cons_zero]))) <;> (try refine p_x (h:=h0d ?_))) | (refine gR 19 (p_x (h:=p_a (h:=h0d ?_)))))
  refine ⟨?_⟩
  rw [hd1, hd2]
  clear hd1 hd2
  have hw : mB8 Rl ++ ⟨#[x]⟩ = mB8 (Rl ++ [x]) := by rw [show (⟨#[x]⟩ : ByteArray) = mB8 [x] from rfl, h4s]
  generalize hRb : mB8 Rl = Rb at *
  repeat' (first | (refine h2h (id:=21) ?_) | refine h0p ?_ | refine h0e ?_ | (refine gR 20 (p_m (h:=p_m (h:=p_e (by apply h4l; exact rfl; (focus (apply r_convRune Tryz.underlying21 Tryz.underlying9; assumption))) (h:=p_e (q_b (r:=by apply h1q; exact rfl; (focus (omega)))) (h:=p_a (h:=h0d ?_))))))))
  refine ⟨?_⟩
  rw [hw]
  clear hw
  by_cases c10 : x = 10
  case neg =>
   have n10 : ¬ ((x.toNat : Nat) : Int) = 10 := fun h => c10 (UInt8.toNat_inj.1 (by show x.toNat = 10; omega))
   have e2 : cutL (bA.take (p + 1)) = (Wl, Rl ++ [x]) := hct.trans (if_neg c10)
   repeat' (first | refine h0e ?_ | refine h0t ?_ | refine h0x ?_ | refine h0u ?_ | refine h0h rfl ?_ | (refine gR 21 (p_m (h:=p_e (q_b (r:=by exact h1o q_o)) (h:=h0d ?_)))))
   exact h0w (p + 1, v, e) ⟨⟨by show p + 1 ≤ _; omega, by dsimp only; rw [e2]; exact ho⟩, by show _ - (p + 1) < _ - p; omega⟩ (by dsimp only; rw [e2]; dsimp only; (focus (repeat (first | exact Sub.nil | refine Sub.cons rfl ?_)))) (fun _ H => H)
  subst c10
  have e2 : cutL (bA.take (p + 1)) = (Wl ++ [Rl ++ [10]], []) := hct.trans (if_pos rfl)
  have c1 : (((10 : UInt8).toNat : Nat) : Int) = 10 := rfl
  rw [c1]
  have e0 : mB8 ([] : List UInt8) = ⟨#[]⟩ := rfl
  by_cases hwl : Wl.length < 2
  ·rw [List.drop_eq_nil_of_le (by omega)] at ho
   repeat' (first | refine h0p ?_ | refine h0e ?_ | refine h0t ?_ | refine h0x ?_ | refine h0j rfl ?_ | (refine gR 21 (q_m ?_) <;> (try refine q_e (by exact q_b (r:=by refine h1i ?_; first | rfl | (with_reducible assumption) | (decide; done) | omega)) ?_) <;> (try refine h0d ?_)) | (refine gR 22 (p_m (h:=p_e (q_b (r:=by exact h1y q_o)) (h:=h0d ?_)))) | (refine gR 23 (q_m ?_) <;> (try refine q_e (q_b (r:=by apply rb_sub; exact c_5; (focus (refine IntWalk.i64_in _ ?_; omega)))) ?_) <;> (try refine p_a (h:=h0d ?_))) | (refine gR 25 (p_a (h:=h0d ?_))))
   exact h0w (p + 1, v, e) ⟨⟨by show p + 1 ≤ _; omega, by dsimp only; rw [e2]; dsimp only; rw [List.drop_eq_nil_of_le (by rw [List.length_append, List.length_singleton]; omega)]; exact ho⟩, by show _ - (p + 1) < _ - p; omega⟩ (by dsimp only; rw [e2]; dsimp only; rw [e0, List.length_append, List.length_singleton]; (focus (repeat (first | exact Sub.nil | refine Sub.cons rfl ?_ | (refine Sub.cons (congrArg some ?_) ?_; (focus go_num)))))) (fun _ H => H)
  have e3 : (Wl ++ [Rl ++ [10]]).drop 2 = Wl.drop 2 ++ [Rl ++ [10]] := List.drop_append_of_le_length (by omega)
  have hdl : (Wl.drop 2).length ≤ 55000 := by rw [List.length_drop]; omega
  have hbz8 : ((Wl.drop 2).length + 1) * 16 ≤ 140737488355328 := by omega
  have hsv := strV_snoc (Wl.drop 2) (Rl ++ [10])
  generalize Wl.drop 2 = Dl at *
  generalize strV Dl = sv at *
  generalize mB8 (Rl ++ [10]) = Rn at *
  repeat' (first | (refine h2h (id:=24) ?_) | refine h0p ?_ | refine h0e ?_ | refine h0j rfl ?_ | refine h0h rfl ?_ | (refine gR 21 (q_m ?_) <;> (try refine q_e (by exact q_b (r:=by refine h1i ?_; first | rfl | (with_reducible assumption) | (decide; done) | omega)) ?_) <;> (try refine h0d ?_)) | (refine gR 22 (p_m (h:=p_e (q_b (r:=by exact h2f q_o)) (h:=h0d ?_)))))
  refine ⟨?_⟩
  refine h3y (L' := e ++ (iterB nI (mB8 bA) (p + 1) :: ⟨true, n7, .cells #[v, vB, vC] 57 (0, 0)⟩ :: RST)) (by intro w H; refine Sel.out ?_ H; (try dsimp only); (try simp only [List.cons_append, List.nil_append, List.append_assoc]); with_reducible repeat (first | exact Sel.refl _ | exact Sel.nil _ | apply Sel.appS | apply Sel.consS | (apply Sel.appP; (focus ((repeat (first | exact Pull.here _ | apply Pull.cons | apply Pull.app)); done))) | (apply Sel.consP; (focus ((repeat (first | exact PullB.here _ | apply PullB.cons | apply PullB.app)); done))) | apply Sel.drop | apply Sel.dropA)) ?_
  repeat' (first | refine h0e ?_ | refine h0t ?_ | refine h0x ?_ | (refine gR 24 (p_m (h:=p_m (h:=p_e (by apply h0n; exact rfl; exact rfl; (focus (apply r_ixa Tryz.underlying57 sz_56; omega; omega; exact c_1))) (h:=p_e (by apply h1l (t:=56); exact rfl; (focus (repeat (first | exact fd0 | apply fdA | apply fdS))); kernel_rfl; kernel_rfl; exact rfl) (h:=q_m ?_))))) <;> (try refine h0f ?_; (refine h0o (t:=56) (m:=1) (e:=9) (fun vs => (match vs with | [(_, x0)] => [x0] | _ => [])) rfl rfl (fun w => by kernel_rfl) ?_; intro nb hnb; (try simp only [Value.cells]); (try simp only [zzC, zzN]))) <;> (try refine h0f ?_; (apply h2m; exact rfl; exact Tryz.underlying56; exact inf_9_i; exact inf_9_z; exact inf_9_s; exact inf_9_b; exact rfl; exact rfl; exact rfl; (with_reducible assumption); exact fd0; exact Nat.le_of_ble_eq_true rfl; exact c_25; exact rfl; exact h5u; omega; exact h4x; exact rfl; exact h6c; exact c_4; intro vA eA hownA; obtain ⟨gA, capA, curA, rfl, rfl, hA1, hA2, hA3, hA4⟩ := hownA.some (by omega); (try simp only [zzC, zzN]))) <;> (try refine q_e (by apply h0n; exact rfl; exact rfl; (focus (apply r_ixa Tryz.underlying57 sz_56; omega; omega; exact c_1))) ?_) <;> (try refine h0f ?_; (refine q_S ?_)) <;> (try refine h0d ?_)) | (refine gR 25 (p_a (h:=h0d ?_))))
  rw [hsv] at hownA
  have ho2 : Own 9 1 (Value.slice (some ⟨gA, 0, none⟩) (Dl.length + 1) capA) (Dl ++ [Rl ++ [10]]).length (strV (Dl ++ [Rl ++ [10]])) [⟨true, gA, .cells curA 9 (0, 0)⟩] := by rw [List.length_append, List.length_singleton]; exact hownA
  exact h0w (p + 1, _, _) ⟨⟨by show p + 1 ≤ _; omega, by dsimp only; rw [e2]; dsimp only; rw [e3]; exact ho2⟩, by show _ - (p + 1) < _ - p; omega⟩ (by dsimp only; rw [e2]; dsimp only; rw [e0, List.length_append, List.length_singleton]; (focus (repeat (first | exact Sub.nil | refine Sub.cons rfl ?_ | (refine Sub.cons (congrArg some ?_) ?_; (focus go_num)))))) (by intro w H; refine Sel.out ?_ H; (try dsimp only); (try simp only [List.cons_append, List.nil_append, List.append_assoc]); with_reducible repeat (first | exact Sel.refl _ | exact Sel.nil _ | apply Sel.appS | apply Sel.consS | (apply Sel.appP; (focus ((repeat (first | exact Pull.here _ | apply Pull.cons | apply Pull.app)); done))) | (apply Sel.consP; (focus ((repeat (first | exact PullB.here _ | apply PullB.cons | apply PullB.app)); done))) | apply Sel.drop | apply Sel.dropA))
 ·rw [if_pos (by omega)] at hA
  rw [if_neg (by omega)] at hB
  rw [if_neg (by omega)] at hC
  obtain ⟨B7, hB7⟩ : ∃ M : List Blk, M = eA ++ (eB ++ (eC ++ [⟨true, n7, .cells #[vA, vB, vC] 57 (0, 0)⟩, ⟨true, nbS, .cells cs 36 (0, 0)⟩, ⟨true, n6, .cells #[.string nmB, .int .u32 df, .slice r1 lr r3, .int .u16 (hd : Nat), .slice p1 lp p3, .slice q1 lq q3] 36 (0, 0)⟩])) := ⟨_, rfl⟩
  simp only [show ((1 : Nat) : Int) = 1 from rfl]
  repeat' (first | (refine G_markc (t:=63) ?_) | refine h0p ?_ | refine h0e ?_ | refine h0r ?_ | refine h0u ?_ | refine h0j rfl ?_ | (refine gR 11 (p_e (q_b (r:=by exact h1d q_o)) (h:=h0d ?_))) | (refine gR 12 (p_m (h:=p_e (by apply h0n; exact rfl; exact rfl; (focus (apply h3e Tryz.underlying58 sz_36; omega; omega; exact c_1))) (h:=q_e (by apply h3p (t:=36); exact rfl; (focus (repeat (first | exact fd0 | apply fdA | apply fdS))); kernel_rfl; kernel_rfl; exact sz_36; (focus (simp; omega)); (with_reducible assumption)) ?_))) <;> (try refine h0f ?_; (refine h0i (t:=36) rfl Tryz.zeroValue36 ?_; intro nb hnb; (try simp only [Value.cells]))) <;> (try refine q_a ?_) <;> (try refine h0f ?_; (refine q_W ?_)) <;> (try refine h0d ?_)) | (refine gR 13 (p_a (h:=h0d ?_))) | (refine gR 14 (p_m (h:=p_e (q_b (r:=by exact h1y q_o)) (h:=p_m (h:=p_y (q_f h5o) (h:=p_y (by apply h1l (t:=32); exact rfl; (focus (repeat (first | exact fd0 | apply fdA | apply fdS))); kernel_rfl; kernel_rfl; exact rfl) (h:=p_y (q_b (r:=by exact rb_neq)) (h:=p_p (h:=h0d ?_))))))))))
  refine ⟨?_⟩
  obtain ⟨n12, rfl⟩ : ∃ x, x = nb := ⟨_, rfl⟩
  refine h2z (γ:=Unit) (fun _ => True) (fun _ => [(13, .int .i64 ((sk : Nat) : Int))]) [(1, _), (5, _), (6, _), (7, _), (11, _), (12, _), (50, _), (51, _), (52, _)] (fun _ => ⟨true, n12, .cells #[.string nmB, .int .u32 df, .slice none 0 0, .int .u16 (hd : Nat), .slice rb1 lp rb', .slice none 0 0] 36 (0, 0)⟩ :: (B7 ++ (EE ++ M))) (.cons rfl (.cons rfl (.cons rfl (.cons rfl (.cons rfl (.cons rfl (.cons rfl (.cons rfl (.cons rfl .nil))))))))) ?_ ?_
  ·by_cases hd0 : hd = 0
   ·rw [if_neg (fun h => h hd0)] at hsk
    subst hsk
    repeat' (first | refine h0t ?_ | refine h0u ?_ | (refine gR 15 (p_a (h:=h0d ?_))) | ((refine G_cond_nd rfl (fun hc => ?_) (fun hc => ?_)) <;> (try subst hc)))
    all_goals first | exact h0w () trivial (by (focus (repeat (first | exact Sub.nil | refine Sub.cons rfl ?_ | (refine Sub.cons (congrArg some ?_) ?_; (focus go_num)))))) (by rw [hB7]; intro w H; refine Sel.out ?_ H; (try dsimp only); (try simp only [List.cons_append, List.nil_append, List.append_assoc]); with_reducible repeat (first | exact Sel.refl _ | exact Sel.nil _ | apply Sel.appS | apply Sel.consS | (apply Sel.appP; (focus ((repeat (first | exact Pull.here _ | apply Pull.cons | apply Pull.app)); done))) | (apply Sel.consP; (focus ((repeat (first | exact PullB.here _ | apply PullB.cons | apply PullB.app)); done))) | apply Sel.drop | apply Sel.dropA)) | (exfalso; omega)
   ·rw [if_pos hd0] at hsk
    subst hsk
    repeat' (first | refine h0t ?_ | refine h0u ?_ | (refine gR 15 (p_a (h:=h0d ?_))) | ((refine G_cond_nd rfl (fun hc => ?_) (fun hc => ?_)) <;> (try subst hc)))
    all_goals first | exact h0w () trivial (by (focus (repeat (first | exact Sub.nil | refine Sub.cons rfl ?_ | (refine Sub.cons (congrArg some ?_) ?_; (focus go_num)))))) (by rw [hB7]; intro w H; refine Sel.out ?_ H; (try dsimp only); (try simp only [List.cons_append, List.nil_append, List.append_assoc]); with_reducible repeat (first | exact Sel.refl _ | exact Sel.nil _ | apply Sel.appS | apply Sel.consS | (apply Sel.appP; (focus ((repeat (first | exact Pull.here _ | apply Pull.cons | apply Pull.app)); done))) | (apply Sel.consP; (focus ((repeat (first | exact PullB.here _ | apply PullB.cons | apply PullB.app)); done))) | apply Sel.drop | apply Sel.dropA)) | (exfalso; omega)
  rintro - -
  repeat' (first | (refine h2r (id:=2) ?_) | refine h0p ?_ | refine h0e ?_ | (refine gR 16 (p_a (h:=h0d ?_))) | ((refine h2t (pre:=[_]) (id:=17) (m:=5) rfl (by kernel_rfl) rfl (q_t 0 (e:=h2x) (x:=by exact q_L sz_36) (h:=q_t 1 (e:=h2x) (x:=by exact h0m rfl) (h:=?_)))) <;> (try refine q_r 2 ?_; (refine q_c 11 (c:=by apply hcl; (with_reducible assumption); (focus ((try simp only [zzC, zzN]); (repeat' (first | (with_reducible exact Tl.one _ _) | (with_reducible apply Tl.cons) | (with_reducible apply Tl.app)))))) (h:=?_); rintro _ _ ⟨rfl, rfl⟩; (try simp only [zzE, zzF])); refine h1g h2x ?_) <;> (try refine q_r 3 ?_; ((refine q_c 13 (c:=by apply hxB; (with_reducible assumption); (with_reducible assumption); (focus (omega)); (focus ((try simp only [zzC, zzN]); (repeat' (first | (with_reducible exact Tl.one _ _) | (with_reducible apply Tl.cons)))))) (h:=?_); rintro _ _ ⟨M2, rfl, hM2, rfl⟩; (try simp only [zzE, zzF])); (try simp only [zzC, zzN])); refine h1g h2x ?_) <;> (try refine q_r 4 ?_; (refine K1_rangeStr rfl rfl Tryz.underlying9 ?_; intro nb hnb); refine h1g c_8 ?_) <;> (try refine h1e (by kernel_rfl) ?_)))
  refine ⟨?_⟩
  obtain ⟨nI, rfl⟩ : ∃ x, x = nb := ⟨_, rfl⟩
  obtain ⟨RST, hRST⟩ : ∃ M : List Blk, M = ⟨true, n12, .cells #[.string nmB, .int .u32 df, .slice none 0 0, .int .u16 (hd : Nat), .slice rb1 lp rb', .slice none 0 0] 36 (0, 0)⟩ :: (eA ++ (eC ++ (⟨true, nbS, .cells cs 36 (0, 0)⟩ :: ⟨true, n6, .cells #[.string nmB, .int .u32 df, .slice r1 lr r3, .int .u16 (hd : Nat), .slice p1 lp p3, .slice q1 lq q3] 36 (0, 0)⟩ :: (EE ++ M2)))) := ⟨_, rfl⟩
  have hbz : (mB8 bB).size = bB.length := h1t _
  refine h0r ?_
  refine h2s (γ:=Nat × Value × List Blk) (fun g => g.1 ≤ bB.length ∧ Own 9 1 g.2.1 ((cutL (bB.take g.1)).1.drop sk).length (strV ((cutL (bB.take g.1)).1.drop sk)) g.2.2) (fun g => bB.length - g.1) (fun g => [(13, .int .i64 ((sk - (cutL (bB.take g.1)).1.length : Nat) : Int)), (14, .string (mB8 (cutL (bB.take g.1)).2))]) [(1, _), (5, _), (6, _), (7, _), (11, _), (50, _), (51, _), (52, _), (68, _)]
   (fun g => iterB nI (mB8 bB) g.1 :: ⟨true, n7, .cells #[vA, g.2.1, vC] 57 (0, 0)⟩ :: (g.2.2 ++ RST)) (0, vB, eB) (.cons rfl (.cons rfl (.cons rfl (.cons rfl (.cons rfl (.cons rfl (.cons rfl (.cons rfl (.cons rfl .nil))))))))) ⟨Nat.zero_le _, by rw [List.take_zero, show (cutL []).1.drop sk = [] from List.drop_nil]; exact hB⟩ (by (focus (repeat (first | exact Sub.nil | refine Sub.cons rfl ?_)))) (by rw [hRST, hB7]; intro w H; refine Sel.out ?_ H; (try dsimp only); (try simp only [List.cons_append, List.nil_append, List.append_assoc]); with_reducible repeat (first | exact Sel.refl _ | exact Sel.nil _ | apply Sel.appS | apply Sel.consS | (apply Sel.appP; (focus ((repeat (first | exact Pull.here _ | apply Pull.cons | apply Pull.app)); done))) | (apply Sel.consP; (focus ((repeat (first | exact PullB.here _ | apply PullB.cons | apply PullB.app)); done))) | apply Sel.drop | apply Sel.dropA)) ?_
  rintro ⟨p, v, e⟩ ⟨hp, ho⟩
  dsimp only at hp ho ⊢
  by_cases hlp : p < bB.length
  case neg =>
   obtain rfl : p = bB.length := by omega
   rw [List.take_length] at ho ⊢
   rw [hcB] at ho
   repeat' (first | refine h0p ?_ | refine h0e ?_ | refine h0t ?_ | refine h1u ?_ | refine h1n ?_ | refine h0x ?_ | refine h1v ?_ | refine h2o ?_ | refine h0h rfl ?_ | (refine gR 18 ?_ <;> (try refine h0f ?_; (apply K1_nextOver; exact rfl; exact rfl; exact fd0; omega)) <;> (try refine p_x (h:=h0d ?_))) | (refine gR 26 ?_ <;> (try refine q_e (q_b (r:=by apply h1r; exact c_5; (focus (refine IntWalk.i64_in _ ?_; omega)))) ?_) <;> (try refine p_m (h:=h0d ?_))))
   exact h0w ⟨2, n + 0, M2, vA, v, vC, eA, e, eC⟩ ⟨⟨by show 2 ≤ 3; omega, by dsimp only; omega, hM2, by rw [if_pos (by show 0 < 2; omega)]; exact hA, by rw [if_pos (by show 1 < 2; omega)]; exact ho, by rw [if_neg (by show ¬ 2 < 2; omega)]; exact hC⟩, by show 3 - 2 < 3 - 1; omega⟩ (by (focus (repeat (first | exact Sub.nil | refine Sub.cons rfl ?_)))) (by rw [hRST]; intro w H; refine Sel.out ?_ H; (try dsimp only); (try simp only [List.cons_append, List.nil_append, List.append_assoc]); with_reducible repeat (first | exact Sel.refl _ | exact Sel.nil _ | apply Sel.appS | apply Sel.consS | (apply Sel.appP; (focus ((repeat (first | exact Pull.here _ | apply Pull.cons | apply Pull.app)); done))) | (apply Sel.consP; (focus ((repeat (first | exact PullB.here _ | apply PullB.cons | apply PullB.app)); done))) | apply Sel.drop | apply Sel.dropA))
  have hlt8 : p < (mB8 bB).size := by omega
  have hc8 := hyB _ (List.getElem_mem hlp)
  have hd8 := decode_ascii (mB8 bB) p hlt8 (by rw [mB8_get hlt8 hlp]; exact hc8)
  rw [mB8_get hlt8 hlp] at hd8
  have hct := cut_at hlp
  obtain ⟨hn1, hn2⟩ := cut_cnt0 (bB.take p)
  rw [List.length_take, Nat.min_eq_left hp] at hn1 hn2
  generalize bB[p] = x at *
  have hd1 : ((Utf8.decode (mB8 bB) p).1 : Int) = x.toNat := by rw [hd8]
  have hd2 : (Utf8.decode (mB8 bB) p).2 = 1 := by rw [hd8]
  generalize hWR : cutL (bB.take p) = WR at *
  obtain ⟨Wl, Rl⟩ := WR
  dsimp only at ho hn1 hn2 ⊢
  have hzr : (mB8 Rl).size = Rl.length := h1t _
  have d1 : (⟨#[x]⟩ : ByteArray).size = 1 := rfl
  clear hd8 hWR hcl hxA hxB hxC hA hB hC
  repeat' (first | (refine h2h (id:=20) ?_) | refine h0p ?_ | refine h0e ?_ | refine h0r ?_ | refine h0u ?_ | refine h0j rfl ?_ | (refine gR 18 ?_ <;> (try refine h0f ?_; (apply K1_nextStr; exact rfl; exact rfl; exact fd0; omega; (try simp only [List.set_cons_succ]); (try simp only [List.set_cons_zero]))) <;> (try refine p_x (h:=h0d ?_))) | (refine gR 19 (p_x (h:=p_a (h:=h0d ?_)))))
  refine ⟨?_⟩
  rw [hd1, hd2]
  clear hd1 hd2
  have hw : mB8 Rl ++ ⟨#[x]⟩ = mB8 (Rl ++ [x]) := by rw [show (⟨#[x]⟩ : ByteArray) = mB8 [x] from rfl, h4s]
  generalize hRb : mB8 Rl = Rb at *
  repeat' (first | (refine h2h (id:=21) ?_) | refine h0p ?_ | refine h0e ?_ | (refine gR 20 (p_m (h:=p_m (h:=p_e (by apply h4l; exact rfl; (focus (apply r_convRune Tryz.underlying21 Tryz.underlying9; assumption))) (h:=p_e (q_b (r:=by apply h1q; exact rfl; (focus (omega)))) (h:=p_a (h:=h0d ?_))))))))
  refine ⟨?_⟩
  rw [hw]
  clear hw
  by_cases c10 : x = 10
  case neg =>
   have n10 : ¬ ((x.toNat : Nat) : Int) = 10 := fun h => c10 (UInt8.toNat_inj.1 (by show x.toNat = 10; omega))
   have e2 : cutL (bB.take (p + 1)) = (Wl, Rl ++ [x]) := hct.trans (if_neg c10)
   repeat' (first | refine h0e ?_ | refine h0t ?_ | refine h0x ?_ | refine h0u ?_ | refine h0h rfl ?_ | (refine gR 21 (p_m (h:=p_e (q_b (r:=by exact h1o q_o)) (h:=h0d ?_)))))
   exact h0w (p + 1, v, e) ⟨⟨by show p + 1 ≤ _; omega, by dsimp only; rw [e2]; exact ho⟩, by show _ - (p + 1) < _ - p; omega⟩ (by dsimp only; rw [e2]; dsimp only; (focus (repeat (first | exact Sub.nil | refine Sub.cons rfl ?_)))) (fun _ H => H)
  subst c10
  have e2 : cutL (bB.take (p + 1)) = (Wl ++ [Rl ++ [10]], []) := hct.trans (if_pos rfl)
  have c1 : (((10 : UInt8).toNat : Nat) : Int) = 10 := rfl
  rw [c1]
  have e0 : mB8 ([] : List UInt8) = ⟨#[]⟩ := rfl
  by_cases hwl : Wl.length < sk
  ·rw [List.drop_eq_nil_of_le (by omega)] at ho
   repeat' (first | refine h0p ?_ | refine h0e ?_ | refine h0t ?_ | refine h0x ?_ | refine h0j rfl ?_ | (refine gR 21 (q_m ?_) <;> (try refine q_e (by exact q_b (r:=by refine h1i ?_; first | rfl | (with_reducible assumption) | (decide; done) | omega)) ?_) <;> (try refine h0d ?_)) | (refine gR 22 (p_m (h:=p_e (q_b (r:=by exact h1y q_o)) (h:=h0d ?_)))) | (refine gR 23 (q_m ?_) <;> (try refine q_e (q_b (r:=by apply rb_sub; exact c_5; (focus (refine IntWalk.i64_in _ ?_; omega)))) ?_) <;> (try refine p_a (h:=h0d ?_))) | (refine gR 25 (p_a (h:=h0d ?_))))
   exact h0w (p + 1, v, e) ⟨⟨by show p + 1 ≤ _; omega, by dsimp only; rw [e2]; dsimp only; rw [List.drop_eq_nil_of_le (by rw [List.length_append, List.length_singleton]; omega)]; exact ho⟩, by show _ - (p + 1) < _ - p; omega⟩ (by dsimp only; rw [e2]; dsimp only; rw [e0, List.length_append, List.length_singleton]; (focus (repeat (first | exact Sub.nil | refine Sub.cons rfl ?_ | (refine Sub.cons (congrArg some ?_) ?_; (focus go_num)))))) (fun _ H => H)
  have e3 : (Wl ++ [Rl ++ [10]]).drop sk = Wl.drop sk ++ [Rl ++ [10]] := List.drop_append_of_le_length (by omega)
  have hdl : (Wl.drop sk).length ≤ 55000 := by rw [List.length_drop]; omega
  have hbz8 : ((Wl.drop sk).length + 1) * 16 ≤ 140737488355328 := by omega
  have hsv := strV_snoc (Wl.drop sk) (Rl ++ [10])
  generalize Wl.drop sk = Dl at *
  generalize strV Dl = sv at *
  generalize mB8 (Rl ++ [10]) = Rn at *
  repeat' (first | (refine h2h (id:=24) ?_) | refine h0p ?_ | refine h0e ?_ | refine h0j rfl ?_ | refine h0h rfl ?_ | (refine gR 21 (q_m ?_) <;> (try refine q_e (by exact q_b (r:=by refine h1i ?_; first | rfl | (with_reducible assumption) | (decide; done) | omega)) ?_) <;> (try refine h0d ?_)) | (refine gR 22 (p_m (h:=p_e (q_b (r:=by exact h2f q_o)) (h:=h0d ?_)))))
  refine ⟨?_⟩
  refine h3y (L' := e ++ (iterB nI (mB8 bB) (p + 1) :: ⟨true, n7, .cells #[vA, v, vC] 57 (0, 0)⟩ :: RST)) (by intro w H; refine Sel.out ?_ H; (try dsimp only); (try simp only [List.cons_append, List.nil_append, List.append_assoc]); with_reducible repeat (first | exact Sel.refl _ | exact Sel.nil _ | apply Sel.appS | apply Sel.consS | (apply Sel.appP; (focus ((repeat (first | exact Pull.here _ | apply Pull.cons | apply Pull.app)); done))) | (apply Sel.consP; (focus ((repeat (first | exact PullB.here _ | apply PullB.cons | apply PullB.app)); done))) | apply Sel.drop | apply Sel.dropA)) ?_
  repeat' (first | refine h0e ?_ | refine h0t ?_ | refine h0x ?_ | (refine gR 24 (p_m (h:=p_m (h:=p_e (by apply h0n; exact rfl; exact rfl; (focus (apply r_ixa Tryz.underlying57 sz_56; omega; omega; exact c_1))) (h:=p_e (by apply h1l (t:=56); exact rfl; (focus (repeat (first | exact fd0 | apply fdA | apply fdS))); kernel_rfl; kernel_rfl; exact rfl) (h:=q_m ?_))))) <;> (try refine h0f ?_; (refine h0o (t:=56) (m:=1) (e:=9) (fun vs => (match vs with | [(_, x0)] => [x0] | _ => [])) rfl rfl (fun w => by kernel_rfl) ?_; intro nb hnb; (try simp only [Value.cells]); (try simp only [zzC, zzN]))) <;> (try refine h0f ?_; (apply h2m; exact rfl; exact Tryz.underlying56; exact inf_9_i; exact inf_9_z; exact inf_9_s; exact inf_9_b; exact rfl; exact rfl; exact rfl; (with_reducible assumption); exact fd0; exact Nat.le_of_ble_eq_true rfl; exact c_25; exact rfl; exact h5u; omega; exact h4x; exact rfl; exact h6c; exact c_4; intro vA eA hownA; obtain ⟨gA, capA, curA, rfl, rfl, hA1, hA2, hA3, hA4⟩ := hownA.some (by omega); (try simp only [zzC, zzN]))) <;> (try refine q_e (by apply h0n; exact rfl; exact rfl; (focus (apply r_ixa Tryz.underlying57 sz_56; omega; omega; exact c_1))) ?_) <;> (try refine h0f ?_; (refine q_S ?_)) <;> (try refine h0d ?_)) | (refine gR 25 (p_a (h:=h0d ?_))))
  rw [hsv] at hownA
  have ho2 : Own 9 1 (Value.slice (some ⟨gA, 0, none⟩) (Dl.length + 1) capA) (Dl ++ [Rl ++ [10]]).length (strV (Dl ++ [Rl ++ [10]])) [⟨true, gA, .cells curA 9 (0, 0)⟩] := by rw [List.length_append, List.length_singleton]; exact hownA
  exact h0w (p + 1, _, _) ⟨⟨by show p + 1 ≤ _; omega, by dsimp only; rw [e2]; dsimp only; rw [e3]; exact ho2⟩, by show _ - (p + 1) < _ - p; omega⟩ (by dsimp only; rw [e2]; dsimp only; rw [e0, List.length_append, List.length_singleton]; (focus (repeat (first | exact Sub.nil | refine Sub.cons rfl ?_ | (refine Sub.cons (congrArg some ?_) ?_; (focus go_num)))))) (by intro w H; refine Sel.out ?_ H; (try dsimp only); (try simp only [List.cons_append, List.nil_append, List.append_assoc]); with_reducible repeat (first | exact Sel.refl _ | exact Sel.nil _ | apply Sel.appS | apply Sel.consS | (apply Sel.appP; (focus ((repeat (first | exact Pull.here _ | apply Pull.cons | apply Pull.app)); done))) | (apply Sel.consP; (focus ((repeat (first | exact PullB.here _ | apply PullB.cons | apply PullB.app)); done))) | apply Sel.drop | apply Sel.dropA))
 ·rw [if_pos (by omega)] at hA
  rw [if_pos (by omega)] at hB
  rw [if_neg (by omega)] at hC
  obtain ⟨B7, hB7⟩ : ∃ M : List Blk, M = eA ++ (eB ++ (eC ++ [⟨true, n7, .cells #[vA, vB, vC] 57 (0, 0)⟩, ⟨true, nbS, .cells cs 36 (0, 0)⟩, ⟨true, n6, .cells #[.string nmB, .int .u32 df, .slice r1 lr r3, .int .u16 (hd : Nat), .slice p1 lp p3, .slice q1 lq q3] 36 (0, 0)⟩])) := ⟨_, rfl⟩
  simp only [show ((2 : Nat) : Int) = 2 from rfl]
  repeat' (first | (refine G_markc (t:=63) ?_) | refine h0p ?_ | refine h0e ?_ | refine h0r ?_ | refine h0u ?_ | refine h0j rfl ?_ | (refine gR 11 (p_e (q_b (r:=by exact h1d q_o)) (h:=h0d ?_))) | (refine gR 12 (p_m (h:=p_e (by apply h0n; exact rfl; exact rfl; (focus (apply h3e Tryz.underlying58 sz_36; omega; omega; exact c_1))) (h:=q_e (by apply h3p (t:=36); exact rfl; (focus (repeat (first | exact fd0 | apply fdA | apply fdS))); kernel_rfl; kernel_rfl; exact sz_36; (focus (simp; omega)); (with_reducible assumption)) ?_))) <;> (try refine h0f ?_; (refine h0i (t:=36) rfl Tryz.zeroValue36 ?_; intro nb hnb; (try simp only [Value.cells]))) <;> (try refine q_a ?_) <;> (try refine h0f ?_; (refine q_W ?_)) <;> (try refine h0d ?_)) | (refine gR 13 (p_a (h:=h0d ?_))) | (refine gR 14 (p_m (h:=p_e (q_b (r:=by exact h1y q_o)) (h:=p_m (h:=p_y (q_f h5o) (h:=p_y (by apply h1l (t:=32); exact rfl; (focus (repeat (first | exact fd0 | apply fdA | apply fdS))); kernel_rfl; kernel_rfl; exact rfl) (h:=p_y (q_b (r:=by exact rb_neq)) (h:=p_p (h:=h0d ?_))))))))))
  refine ⟨?_⟩
  obtain ⟨n12, rfl⟩ : ∃ x, x = nb := ⟨_, rfl⟩
  refine h2z (γ:=Unit) (fun _ => True) (fun _ => [(13, .int .i64 ((sk : Nat) : Int))]) [(1, _), (5, _), (6, _), (7, _), (11, _), (12, _), (50, _), (51, _), (52, _)] (fun _ => ⟨true, n12, .cells #[.string nmB, .int .u32 df, .slice none 0 0, .int .u16 (hd : Nat), .slice none 0 0, .slice rc lq rc'] 36 (0, 0)⟩ :: (B7 ++ (EE ++ M))) (.cons rfl (.cons rfl (.cons rfl (.cons rfl (.cons rfl (.cons rfl (.cons rfl (.cons rfl (.cons rfl .nil))))))))) ?_ ?_
  ·by_cases hd0 : hd = 0
   ·rw [if_neg (fun h => h hd0)] at hsk
    subst hsk
    repeat' (first | refine h0t ?_ | refine h0u ?_ | (refine gR 15 (p_a (h:=h0d ?_))) | ((refine G_cond_nd rfl (fun hc => ?_) (fun hc => ?_)) <;> (try subst hc)))
    all_goals first | exact h0w () trivial (by (focus (repeat (first | exact Sub.nil | refine Sub.cons rfl ?_ | (refine Sub.cons (congrArg some ?_) ?_; (focus go_num)))))) (by rw [hB7]; intro w H; refine Sel.out ?_ H; (try dsimp only); (try simp only [List.cons_append, List.nil_append, List.append_assoc]); with_reducible repeat (first | exact Sel.refl _ | exact Sel.nil _ | apply Sel.appS | apply Sel.consS | (apply Sel.appP; (focus ((repeat (first | exact Pull.here _ | apply Pull.cons | apply Pull.app)); done))) | (apply Sel.consP; (focus ((repeat (first | exact PullB.here _ | apply PullB.cons | apply PullB.app)); done))) | apply Sel.drop | apply Sel.dropA)) | (exfalso; omega)
   ·rw [if_pos hd0] at hsk
    subst hsk
    repeat' (first | refine h0t ?_ | refine h0u ?_ | (refine gR 15 (p_a (h:=h0d ?_))) | ((refine G_cond_nd rfl (fun hc => ?_) (fun hc => ?_)) <;> (try subst hc)))
    all_goals first | exact h0w () trivial (by (focus (repeat (first | exact Sub.nil | refine Sub.cons rfl ?_ | (refine Sub.cons (congrArg some ?_) ?_; (focus go_num)))))) (by rw [hB7]; intro w H; refine Sel.out ?_ H; (try dsimp only); (try simp only [List.cons_append, List.nil_append, List.append_assoc]); with_reducible repeat (first | exact Sel.refl _ | exact Sel.nil _ | apply Sel.appS | apply Sel.consS | (apply Sel.appP; (focus ((repeat (first | exact Pull.here _ | apply Pull.cons | apply Pull.app)); done))) | (apply Sel.consP; (focus ((repeat (first | exact PullB.here _ | apply PullB.cons | apply PullB.app)); done))) | apply Sel.drop | apply Sel.dropA)) | (exfalso; omega)
  rintro - -
  repeat' (first | (refine h2r (id:=2) ?_) | refine h0p ?_ | refine h0e ?_ | (refine gR 16 (p_a (h:=h0d ?_))) | ((refine h2t (pre:=[_]) (id:=17) (m:=5) rfl (by kernel_rfl) rfl (q_t 0 (e:=h2x) (x:=by exact q_L sz_36) (h:=q_t 1 (e:=h2x) (x:=by exact h0m rfl) (h:=?_)))) <;> (try refine q_r 2 ?_; (refine q_c 11 (c:=by apply hcl; (with_reducible assumption); (focus ((try simp only [zzC, zzN]); (repeat' (first | (with_reducible exact Tl.one _ _) | (with_reducible apply Tl.cons) | (with_reducible apply Tl.app)))))) (h:=?_); rintro _ _ ⟨rfl, rfl⟩; (try simp only [zzE, zzF])); refine h1g h2x ?_) <;> (try refine q_r 3 ?_; ((refine q_c 13 (c:=by apply hxC; (with_reducible assumption); (with_reducible assumption); (focus (omega)); (focus ((try simp only [zzC, zzN]); (repeat' (first | (with_reducible exact Tl.one _ _) | (with_reducible apply Tl.cons)))))) (h:=?_); rintro _ _ ⟨M2, rfl, hM2, rfl⟩; (try simp only [zzE, zzF])); (try simp only [zzC, zzN])); refine h1g h2x ?_) <;> (try refine q_r 4 ?_; (refine K1_rangeStr rfl rfl Tryz.underlying9 ?_; intro nb hnb); refine h1g c_8 ?_) <;> (try refine h1e (by kernel_rfl) ?_)))
  refine ⟨?_⟩
  obtain ⟨nI, rfl⟩ : ∃ x, x = nb := ⟨_, rfl⟩
  obtain ⟨RST, hRST⟩ : ∃ M : List Blk, M = ⟨true, n12, .cells #[.string nmB, .int .u32 df, .slice none 0 0, .int .u16 (hd : Nat), .slice none 0 0, .slice rc lq rc'] 36 (0, 0)⟩ :: (eA ++ (eB ++ (⟨true, nbS, .cells cs 36 (0, 0)⟩ :: ⟨true, n6, .cells #[.string nmB, .int .u32 df, .slice r1 lr r3, .int .u16 (hd : Nat), .slice p1 lp p3, .slice q1 lq q3] 36 (0, 0)⟩ :: (EE ++ M2)))) := ⟨_, rfl⟩
  have hbz : (mB8 bC).size = bC.length := h1t _
  refine h0r ?_
  refine h2s (γ:=Nat × Value × List Blk) (fun g => g.1 ≤ bC.length ∧ Own 9 1 g.2.1 ((cutL (bC.take g.1)).1.drop sk).length (strV ((cutL (bC.take g.1)).1.drop sk)) g.2.2) (fun g => bC.length - g.1) (fun g => [(13, .int .i64 ((sk - (cutL (bC.take g.1)).1.length : Nat) : Int)), (14, .string (mB8 (cutL (bC.take g.1)).2))]) [(1, _), (5, _), (6, _), (7, _), (11, _), (50, _), (51, _), (52, _), (68, _)]
   (fun g => iterB nI (mB8 bC) g.1 :: ⟨true, n7, .cells #[vA, vB, g.2.1] 57 (0, 0)⟩ :: (g.2.2 ++ RST)) (0, vC, eC) (.cons rfl (.cons rfl (.cons rfl (.cons rfl (.cons rfl (.cons rfl (.cons rfl (.cons rfl (.cons rfl .nil))))))))) ⟨Nat.zero_le _, by rw [List.take_zero, show (cutL []).1.drop sk = [] from List.drop_nil]; exact hC⟩ (by (focus (repeat (first | exact Sub.nil | refine Sub.cons rfl ?_)))) (by rw [hRST, hB7]; intro w H; refine Sel.out ?_ H; (try dsimp only); (try simp only [List.cons_append, List.nil_append, List.append_assoc]); with_reducible repeat (first | exact Sel.refl _ | exact Sel.nil _ | apply Sel.appS | apply Sel.consS | (apply Sel.appP; (focus ((repeat (first | exact Pull.here _ | apply Pull.cons | apply Pull.app)); done))) | (apply Sel.consP; (focus ((repeat (first | exact PullB.here _ | apply PullB.cons | apply PullB.app)); done))) | apply Sel.drop | apply Sel.dropA)) ?_
  rintro ⟨p, v, e⟩ ⟨hp, ho⟩
  dsimp only at hp ho ⊢
  by_cases hlp : p < bC.length
  case neg =>
   obtain rfl : p = bC.length := by omega
   rw [List.take_length] at ho ⊢
   rw [hcC] at ho
   repeat' (first | refine h0p ?_ | refine h0e ?_ | refine h0t ?_ | refine h1u ?_ | refine h1n ?_ | refine h0x ?_ | refine h1v ?_ | refine h2o ?_ | refine h0h rfl ?_ | (refine gR 18 ?_ <;> (try refine h0f ?_; (apply K1_nextOver; exact rfl; exact rfl; exact fd0; omega)) <;> (try refine p_x (h:=h0d ?_))) | (refine gR 26 ?_ <;> (try refine q_e (q_b (r:=by apply h1r; exact c_5; (focus (refine IntWalk.i64_in _ ?_; omega)))) ?_) <;> (try refine p_m (h:=h0d ?_))))
   exact h0w ⟨3, n + 0, M2, vA, vB, v, eA, eB, e⟩ ⟨⟨by show 3 ≤ 3; omega, by dsimp only; omega, hM2, by rw [if_pos (by show 0 < 3; omega)]; exact hA, by rw [if_pos (by show 1 < 3; omega)]; exact hB, by rw [if_pos (by show 2 < 3; omega)]; exact ho⟩, by show 3 - 3 < 3 - 2; omega⟩ (by (focus (repeat (first | exact Sub.nil | refine Sub.cons rfl ?_)))) (by rw [hRST]; intro w H; refine Sel.out ?_ H; (try dsimp only); (try simp only [List.cons_append, List.nil_append, List.append_assoc]); with_reducible repeat (first | exact Sel.refl _ | exact Sel.nil _ | apply Sel.appS | apply Sel.consS | (apply Sel.appP; (focus ((repeat (first | exact Pull.here _ | apply Pull.cons | apply Pull.app)); done))) | (apply Sel.consP; (focus ((repeat (first | exact PullB.here _ | apply PullB.cons | apply PullB.app)); done))) | apply Sel.drop | apply Sel.dropA))
  have hlt8 : p < (mB8 bC).size := by omega
  have hc8 := hyC _ (List.getElem_mem hlp)
  have hd8 := decode_ascii (mB8 bC) p hlt8 (by rw [mB8_get hlt8 hlp]; exact hc8)
  rw [mB8_get hlt8 hlp] at hd8
  have hct := cut_at hlp
  obtain ⟨hn1, hn2⟩ := cut_cnt0 (bC.take p)
  rw [List.length_take, Nat.min_eq_left hp] at hn1 hn2
  generalize bC[p] = x at *
  have hd1 : ((Utf8.decode (mB8 bC) p).1 : Int) = x.toNat := by rw [hd8]
  have hd2 : (Utf8.decode (mB8 bC) p).2 = 1 := by rw [hd8]
  generalize hWR : cutL (bC.take p) = WR at *
  obtain ⟨Wl, Rl⟩ := WR
  dsimp only at ho hn1 hn2 ⊢
  have hzr : (mB8 Rl).size = Rl.length := h1t _
  have d1 : (⟨#[x]⟩ : ByteArray).size = 1 := rfl
  clear hd8 hWR hcl hxA hxB hxC hA hB hC
  repeat' (first | (refine h2h (id:=20) ?_) | refine h0p ?_ | refine h0e ?_ | refine h0r ?_ | refine h0u ?_ | refine h0j rfl ?_ | (refine gR 18 ?_ <;> (try refine h0f ?_; (apply K1_nextStr; exact rfl; exact rfl; exact fd0; omega; (try simp only [List.set_cons_succ]); (try simp only [List.set_cons_zero]))) <;> (try refine p_x (h:=h0d ?_))) | (refine gR 19 (p_x (h:=p_a (h:=h0d ?_)))))
  refine ⟨?_⟩
  rw [hd1, hd2]
  clear hd1 hd2
  have hw : mB8 Rl ++ ⟨#[x]⟩ = mB8 (Rl ++ [x]) := by rw [show (⟨#[x]⟩ : ByteArray) = mB8 [x] from rfl, h4s]
  generalize hRb : mB8 Rl = Rb at *
  repeat' (first | (refine h2h (id:=21) ?_) | refine h0p ?_ | refine h0e ?_ | (refine gR 20 (p_m (h:=p_m (h:=p_e (by apply h4l; exact rfl; (focus (apply r_convRune Tryz.underlying21 Tryz.underlying9; assumption))) (h:=p_e (q_b (r:=by apply h1q; exact rfl; (focus (omega)))) (h:=p_a (h:=h0d ?_))))))))
  refine ⟨?_⟩
  rw [hw]
  clear hw
  by_cases c10 : x = 10
  case neg =>
   have n10 : ¬ ((x.toNat : Nat) : Int) = 10 := fun h => c10 (UInt8.toNat_inj.1 (by show x.toNat = 10; omega))
   have e2 : cutL (bC.take (p + 1)) = (Wl, Rl ++ [x]) := hct.trans (if_neg c10)
   repeat' (first | refine h0e ?_ | refine h0t ?_ | refine h0x ?_ | refine h0u ?_ | refine h0h rfl ?_ | (refine gR 21 (p_m (h:=p_e (q_b (r:=by exact h1o q_o)) (h:=h0d ?_)))))
   exact h0w (p + 1, v, e) ⟨⟨by show p + 1 ≤ _; omega, by dsimp only; rw [e2]; exact ho⟩, by show _ - (p + 1) < _ - p; omega⟩ (by dsimp only; rw [e2]; dsimp only; (focus (repeat (first | exact Sub.nil | refine Sub.cons rfl ?_)))) (fun _ H => H)
  subst c10
  have e2 : cutL (bC.take (p + 1)) = (Wl ++ [Rl ++ [10]], []) := hct.trans (if_pos rfl)
  have c1 : (((10 : UInt8).toNat : Nat) : Int) = 10 := rfl
  rw [c1]
  have e0 : mB8 ([] : List UInt8) = ⟨#[]⟩ := rfl
  by_cases hwl : Wl.length < sk
  ·rw [List.drop_eq_nil_of_le (by omega)] at ho
   repeat' (first | refine h0p ?_ | refine h0e ?_ | refine h0t ?_ | refine h0x ?_ | refine h0j rfl ?_ | (refine gR 21 (q_m ?_) <;> (try refine q_e (by exact q_b (r:=by refine h1i ?_; first | rfl | (with_reducible assumption) | (decide; done) | omega)) ?_) <;> (try refine h0d ?_)) | (refine gR 22 (p_m (h:=p_e (q_b (r:=by exact h1y q_o)) (h:=h0d ?_)))) | (refine gR 23 (q_m ?_) <;> (try refine q_e (q_b (r:=by apply rb_sub; exact c_5; (focus (refine IntWalk.i64_in _ ?_; omega)))) ?_) <;> (try refine p_a (h:=h0d ?_))) | (refine gR 25 (p_a (h:=h0d ?_))))
   exact h0w (p + 1, v, e) ⟨⟨by show p + 1 ≤ _; omega, by dsimp only; rw [e2]; dsimp only; rw [List.drop_eq_nil_of_le (by rw [List.length_append, List.length_singleton]; omega)]; exact ho⟩, by show _ - (p + 1) < _ - p; omega⟩ (by dsimp only; rw [e2]; dsimp only; rw [e0, List.length_append, List.length_singleton]; (focus (repeat (first | exact Sub.nil | refine Sub.cons rfl ?_ | (refine Sub.cons (congrArg some ?_) ?_; (focus go_num)))))) (fun _ H => H)
  have e3 : (Wl ++ [Rl ++ [10]]).drop sk = Wl.drop sk ++ [Rl ++ [10]] := List.drop_append_of_le_length (by omega)
  have hdl : (Wl.drop sk).length ≤ 55000 := by rw [List.length_drop]; omega
  have hbz8 : ((Wl.drop sk).length + 1) * 16 ≤ 140737488355328 := by omega
  have hsv := strV_snoc (Wl.drop sk) (Rl ++ [10])
  generalize Wl.drop sk = Dl at *
  generalize strV Dl = sv at *
  generalize mB8 (Rl ++ [10]) = Rn at *
  repeat' (first | (refine h2h (id:=24) ?_) | refine h0p ?_ | refine h0e ?_ | refine h0j rfl ?_ | refine h0h rfl ?_ | (refine gR 21 (q_m ?_) <;> (try refine q_e (by exact q_b (r:=by refine h1i ?_; first | rfl | (with_reducible assumption) | (decide; done) | omega)) ?_) <;> (try refine h0d ?_)) | (refine gR 22 (p_m (h:=p_e (q_b (r:=by exact h2f q_o)) (h:=h0d ?_)))))
  refine ⟨?_⟩
  refine h3y (L' := e ++ (iterB nI (mB8 bC) (p + 1) :: ⟨true, n7, .cells #[vA, vB, v] 57 (0, 0)⟩ :: RST)) (by intro w H; refine Sel.out ?_ H; (try dsimp only); (try simp only [List.cons_append, List.nil_append, List.append_assoc]); with_reducible repeat (first | exact Sel.refl _ | exact Sel.nil _ | apply Sel.appS | apply Sel.consS | (apply Sel.appP; (focus ((repeat (first | exact Pull.here _ | apply Pull.cons | apply Pull.app)); done))) | (apply Sel.consP; (focus ((repeat (first | exact PullB.here _ | apply PullB.cons | apply PullB.app)); done))) | apply Sel.drop | apply Sel.dropA)) ?_
  repeat' (first | refine h0e ?_ | refine h0t ?_ | refine h0x ?_ | (refine gR 24 (p_m (h:=p_m (h:=p_e (by apply h0n; exact rfl; exact rfl; (focus (apply r_ixa Tryz.underlying57 sz_56; omega; omega; exact c_1))) (h:=p_e (by apply h1l (t:=56); exact rfl; (focus (repeat (first | exact fd0 | apply fdA | apply fdS))); kernel_rfl; kernel_rfl; exact rfl) (h:=q_m ?_))))) <;> (try refine h0f ?_; (refine h0o (t:=56) (m:=1) (e:=9) (fun vs => (match vs with | [(_, x0)] => [x0] | _ => [])) rfl rfl (fun w => by kernel_rfl) ?_; intro nb hnb; (try simp only [Value.cells]); (try simp only [zzC, zzN]))) <;> (try refine h0f ?_; (apply h2m; exact rfl; exact Tryz.underlying56; exact inf_9_i; exact inf_9_z; exact inf_9_s; exact inf_9_b; exact rfl; exact rfl; exact rfl; (with_reducible assumption); exact fd0; exact Nat.le_of_ble_eq_true rfl; exact c_25; exact rfl; exact h5u; omega; exact h4x; exact rfl; exact h6c; exact c_4; intro vA eA hownA; obtain ⟨gA, capA, curA, rfl, rfl, hA1, hA2, hA3, hA4⟩ := hownA.some (by omega); (try simp only [zzC, zzN]))) <;> (try refine q_e (by apply h0n; exact rfl; exact rfl; (focus (apply r_ixa Tryz.underlying57 sz_56; omega; omega; exact c_1))) ?_) <;> (try refine h0f ?_; (refine q_S ?_)) <;> (try refine h0d ?_)) | (refine gR 25 (p_a (h:=h0d ?_))))
  rw [hsv] at hownA
  have ho2 : Own 9 1 (Value.slice (some ⟨gA, 0, none⟩) (Dl.length + 1) capA) (Dl ++ [Rl ++ [10]]).length (strV (Dl ++ [Rl ++ [10]])) [⟨true, gA, .cells curA 9 (0, 0)⟩] := by rw [List.length_append, List.length_singleton]; exact hownA
  exact h0w (p + 1, _, _) ⟨⟨by show p + 1 ≤ _; omega, by dsimp only; rw [e2]; dsimp only; rw [e3]; exact ho2⟩, by show _ - (p + 1) < _ - p; omega⟩ (by dsimp only; rw [e2]; dsimp only; rw [e0, List.length_append, List.length_singleton]; (focus (repeat (first | exact Sub.nil | refine Sub.cons rfl ?_ | (refine Sub.cons (congrArg some ?_) ?_; (focus go_num)))))) (by intro w H; refine Sel.out ?_ H; (try dsimp only); (try simp only [List.cons_append, List.nil_append, List.append_assoc]); with_reducible repeat (first | exact Sel.refl _ | exact Sel.nil _ | apply Sel.appS | apply Sel.consS | (apply Sel.appP; (focus ((repeat (first | exact Pull.here _ | apply Pull.cons | apply Pull.app)); done))) | (apply Sel.consP; (focus ((repeat (first | exact PullB.here _ | apply PullB.cons | apply PullB.app)); done))) | apply Sel.drop | apply Sel.dropA))
end Go.Proofs.YtecbgehooembmaaGreatDoor
