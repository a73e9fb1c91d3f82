/- The law PolicyChecks returns true at every input and leaves its arguments as they were. No condition. -/
import Derived.Test.YtecbgehooembmaaDoorQp8
set_option maxRecDepth 100000
namespace Go.Proofs.YtecbgehooembmaaDoor
open Go Go.RowKit
inductive Pull (e : List Blk) : List Blk → List Blk → Prop
 | here (R : List Blk) : Pull e (e ++ R) R
 | cons {x : Blk} {L L' : List Blk} (h : Pull e L L') : Pull e (x :: L) (x :: L')
 | app {f L L' : List Blk} (h : Pull e L L') : Pull e (f ++ L) (f ++ L')
inductive PullB (e : Blk) : List Blk → List Blk → Prop
 | here (R : List Blk) : PullB e (e :: R) R
 | cons {x : Blk} {L L' : List Blk} (h : PullB e L L') : PullB e (x :: L) (x :: L')
 | app {f L L' : List Blk} (h : PullB e L L') : PullB e (f ++ L) (f ++ L')
theorem Pull.perm {e L L' : List Blk} (h : Pull e L L') : L.Perm (e ++ L') := by
 induction h with
 | here R => exact .refl _
 | cons h ih => exact (ih.cons _).trans List.perm_middle.symm
 | app h ih => exact (ih.append_left _).trans (List.perm_append_comm_assoc _ _ _)
theorem PullB.perm {e : Blk} {L L' : List Blk} (h : PullB e L L') : L.Perm (e :: L') := by
 induction h with
 | here R => exact .refl _
 | cons h ih => exact (ih.cons _).trans (List.Perm.swap ..)
 | app h ih => exact (ih.append_left _).trans List.perm_middle
theorem Sel.appP {e L L1 L' : List Blk} (h : Pull e L L1) (h2 : Sel L1 L') : Sel L (e ++ L') := let ⟨M, h3, h4⟩ := h2; ⟨e ++ M, h.perm.trans (h3.append_left e), h4.append_left e⟩
theorem Sel.consP {e : Blk} {L L1 L' : List Blk} (h : PullB e L L1) (h2 : Sel L1 L') : Sel L (e :: L') := let ⟨M, h3, h4⟩ := h2; ⟨e :: M, h.perm.trans (h3.cons e), h4.cons_cons e⟩
theorem Sel.consS {e : Blk} {L L' : List Blk} (h2 : Sel L L') : Sel (e :: L) (e :: L') := let ⟨M, h3, h4⟩ := h2; ⟨e :: M, h3.cons e, h4.cons_cons e⟩
theorem at9 : mB8 (cndT ⟨1, 7, 2, 2⟩) = ⟨#[97, 114, 103, 49, 32, 38, 32, 50, 32, 61, 61, 32, 50]⟩ := by kernel_rfl
theorem awake9_c {S w0 L} : Fn Tryd.prog 4 #[] S w0 L fun v L' => v = .bool true ∧ L = L' := by
 have h1 := fun (L : List Blk) => condchk_c (S:=S) (w0:=w0) (L:=L) ⟨1, 7, 2, 2⟩ ⟨by decide, by decide, by decide, by decide⟩
 have e1 : chkC ⟨1, 7, 2, 2⟩ = 0 := by decide
 rw [e1] at h1
 have h2 := fun (L : List Blk) => condtext_c (S:=S) (w0:=w0) (L:=L) ⟨1, 7, 2, 2⟩ ⟨by decide, by decide, by decide, by decide, by decide⟩ (by decide) (by decide)
 rw [at9] at h2
 dsimp only [GCnd.cells, Cnd.cells] at h1 h2
 simp only [show ((7 : Nat) : Int) = 7 from rfl, show ((2 : Nat) : Int) = 2 from rfl, show ((1 : Nat) : Int) = 1 from rfl, show ((0 : Nat) : Int) = 0 from rfl] at h1 h2
 refine Fn0 Tryd.func4 Tryd.ntmps4 rfl ?_
 repeat' (first | refine h0t ?_ | refine h0e ?_ | refine h1e ?_ | (refine gR 0 (p_a (h:=h0a ?_))) | (refine gR 1 ?_ <;> (try refine q_e (by exact h0v (t:=39) (fun vs => (match vs with | [(_, x0), (_, x1), (_, x2), (_, x3)] => [x0, x1, x2, x3] | _ => [])) rfl (fun w => by kernel_rfl)) ?_; (try simp only [Value.cells]); (try simp only [zzC, zzN])) <;> (try refine h0b ?_; (refine h1b (t:=39) rfl Tryd.zeroValue39 ?_; intro nb hnb; (try simp only [Value.cells]))) <;> (try refine h0b ?_; (refine q_W ?_)) <;> (try refine h0a ?_)) | (refine gR 2 (q_e (q_L sz_39) ?_) <;> (try refine h0b ?_; (refine q_c 11 (c:=by apply h1) (h:=?_); rintro _ _ ⟨rfl, rfl⟩; (try simp only [zzE, zzF]))) <;> (try refine q_e (by exact q_b (r:=by refine h1l ?_; first | rfl | (with_reducible assumption) | (decide; done) | omega)) ?_) <;> (try refine p_m (h:=q_y (q_L sz_39) ?_)) <;> (try refine h0b ?_; (refine h0f rfl rfl rfl ?_; (refine q_c 14 (c:=by apply h2) (h:=?_); rintro _ _ ⟨rfl, rfl⟩; (try simp only [zzE, zzF])))) <;> (try refine p_y (q_b (r:=by exact h3r)) (h:=p_p (h:=p_a (h:=h0a ?_))))))
 (refine h0z Tryd.results4 (.tmp rfl .nil) ?_)
 exact ⟨_, ⟨rfl, rfl⟩, by intro w H; refine H.sub ?_; (try simp only [zzC, zzN]); repeat (first | exact List.Sublist.refl _ | refine List.Sublist.cons _ ?_)⟩
def TbE (ct n : Nat) (L0 M : List Blk) : Prop := ∃ m1 m2, M = tbS ct m1 m2 n ++ L0
theorem check_w {S w0 X L B L0 M} {ct n : Nat} (P : GPol) (hP : P.ok) (hr : P.rules.length ≤ 1000) {vr vp vq : Value} (hS : PolS X P vr vp vq) (hM : TbE ct n L0 M) (hn : n ≤ 90000) (hL : Tl L B M) (hX : SubB X (B ++ L0)) :
  Fn Tryd.prog 8 #[.agg (polG P vr vp vq).toArray, .pointer (some ⟨ct, 0, none⟩)] S w0 L fun v L' => ∃ n' M', v = .int .i64 (chkG P : Nat) ∧ n' ≤ n + P.rules.length ∧ TbE ct n' L0 M' ∧ SubB L0 M' ∧ B ++ M' = L' := by
 obtain ⟨m1, m2, rfl⟩ := hM
 rw [hL.eq]
 refine Fn.weak (L2:=tbS ct m1 m2 n ++ (B ++ L0)) (fun w H => HP.swapA _ H) ((check_c (S:=S) (w0:=w0) (L:=B ++ L0) P hP vr vp vq (hS.mono hX) hr ct m1 m2 n hn).mono ?_)
 rintro v L' ⟨k1, k2, n', rfl, hn', rfl⟩
 exact ⟨_, ⟨n', _, rfl, hn', ⟨k1, k2, rfl⟩, ⟨fun b hb => List.mem_append_right _ hb⟩, rfl⟩, fun w H => HP.swapA B H⟩
theorem smpol_w {S w0 L X} (s : SPol) (h : s.ok) (vr vp vg vq : Value) (hS : SPolS X s vr vp vg vq) (hX : SubB X L) :
  Fn Tryd.prog 7 #[.agg #[.int .u8 s.nm, .int .u8 s.df, .int .u8 s.en, vr, .int .u16 (s.hd : Nat), vp, vg, vq]] S w0 L fun v L' => ∃ (P : Pol) (r1 p1 q1 : Option Addr) (r3 p3 q3 : Nat) (cz : List Value) (er ec ep eq : List Blk), v = .agg #[.string (mB8 P.nm), .int .u32 P.df, .slice r1 P.rules.length r3, .int .u16 (P.hd : Nat), .slice p1 P.paths.length p3, .slice q1 P.ports.length q3] ∧ PolOk P ∧ PolRn P ∧ RulsR P.rules cz ec ∧ Own 47 3 (.slice r1 P.rules.length r3) P.rules.length cz er ∧ Own 49 2 (.slice p1 P.paths.length p3) P.paths.length (pthC P.paths) ep ∧ Own 51 2 (.slice q1 P.ports.length q3) P.ports.length (porC P.ports) eq ∧ P.rules.length ≤ 12 ∧ er ++ (ep ++ (eq ++ (ec ++ L))) = L' := by
 refine (smpol_c (S:=S) (w0:=w0) s h vr vp vg vq (hS.mono hX)).mono ?_
 rintro v L' ⟨d, P, rfl, hd, hok, hrn, hi, rfl⟩
 obtain ⟨r1, r3, p1, p3, q1, q3, e1, e2, e3⟩ := hd.sl
 obtain ⟨hrr, hvr, hvp, hvq, -, -, -, -⟩ := hd
 rw [e1] at hvr
 rw [e2] at hvp
 rw [e3] at hvq
 exact ⟨_, ⟨P, r1, p1, q1, r3, p3, q3, _, _, _, _, _, by rw [e1, e2, e3], hok, hrn, hrr, hvr, hvp, hvq, hi.2.1, rfl⟩, fun w H => by unfold PoD.blocks at H; simp only [List.append_assoc] at H; exact H⟩
theorem polS_own {G : GPol} {vr vp vq : Value} {cz : List Value} {er ep eq X : List Blk} (hr : Own 47 3 vr G.rules.length cz er) (hg : RulsG X G.rules cz) (hp : Own 49 2 vp G.paths.length (pthC G.paths) ep) (hq : Own 51 2 vq G.ports.length (porC G.ports) eq) (l1 : G.rules.length ≤ 1000) (l2 : G.paths.length ≤ 1000) (l3 : G.ports.length ≤ 1000) : PolS (er ++ (ep ++ (eq ++ X))) G vr vp vq := by
 have hm : (1000 : Nat) ≤ maxLen := by unfold maxLen; omega
 obtain ⟨r1, r2, e1, s1⟩ := hr.sli (ep ++ (eq ++ X))
 obtain ⟨p1, p2, e2, s2⟩ := hp.sli (eq ++ X)
 obtain ⟨q1, q2, e3, s3⟩ := hq.sli X
 exact ⟨⟨r1, r2, cz, e1, s1, ((hg.upA eq).upA ep).upA er⟩, ⟨p1, p2, e2, s2.upA er⟩, ⟨q1, q2, e3, (s3.upA ep).upA er⟩, Nat.le_trans l1 hm, Nat.le_trans l2 hm, Nat.le_trans l3 hm⟩
theorem cnd_nil (X : List Blk) : CndS X (.slice none 0 0) [] := ⟨none, 0, rfl, Sli.nil _ _, Nat.zero_le _⟩
structure BnG where
 G : GPol
 r1 : Option Addr
 p1 : Option Addr
 q1 : Option Addr
 r3 : Nat
 p3 : Nat
 q3 : Nat
 E : List Blk
structure BnI (g : BnG) : Prop where
 ok : g.G.ok
 few : FewN g.G
 path : ∀ p ∈ g.G.paths, p.1.length ≤ 1000
 s : PolS g.E g.G (.slice g.r1 g.G.rules.length g.r3) (.slice g.p1 g.G.paths.length g.p3) (.slice g.q1 g.G.ports.length g.q3)
def bent (P : Pol) (rs : List GRul) (hd : Nat) (ps : List (List UInt8 × Nat)) (qs : List (Nat × Nat)) : GPol := ⟨P.nm, P.df, rs, hd, ps, qs⟩
structure BnR (rs : List GRul) (ps : List (List UInt8 × Nat)) (qs : List (Nat × Nat)) : Prop where
 r : ∀ r ∈ rs, r.ok ∧ r.conds.length ≤ 1000
 p : ∀ p ∈ ps, p.1.length ≤ 1000 ∧ p.2 < 65536
 q : ∀ p ∈ qs, p.1 < 65536 ∧ p.2 < 65536
 l1 : rs.length ≤ 1000
 l2 : ps.length ≤ 1000
 l3 : qs.length ≤ 1000
theorem bent_i {P : Pol} {rs : List GRul} {hd : Nat} {ps : List (List UInt8 × Nat)} {qs : List (Nat × Nat)} (hg : P.g.ok) (h : BnR rs ps qs) (hh : hd < 65536) {r1 p1 q1 : Option Addr} {r3 p3 q3 : Nat} {cz : List Value} {er ep eq X : List Blk} {n1 n2 n3 : Nat} (e1 : rs.length = n1) (e2 : ps.length = n2) (e3 : qs.length = n3)
  (hr : Own 47 3 (.slice r1 n1 r3) n1 cz er) (hz : RulsG X rs cz) (hp : Own 49 2 (.slice p1 n2 p3) n2 (pthC ps) ep) (hq : Own 51 2 (.slice q1 n3 q3) n3 (porC qs) eq) : BnI ⟨bent P rs hd ps qs, r1, p1, q1, r3, p3, q3, er ++ (ep ++ (eq ++ X))⟩ := by
 subst e1 e2 e3
 exact ⟨⟨hg.nm, hg.df, fun r hr => (h.r r hr).1, hh, fun p hp => ⟨Nat.le_trans (h.p p hp).1 (by omega), (h.p p hp).2⟩, h.q⟩, ⟨fun r hr => (h.r r hr).2, h.l1, h.l2, h.l3⟩, fun p hp => (h.p p hp).1, polS_own hr hz hp hq h.l1 h.l2 h.l3⟩
theorem pthC_one' (ps : List (List UInt8 × Nat)) : (pthC ps).all (·.oneCell') = true := by
 rw [List.all_eq_true]
 intro v hv
 obtain ⟨p, -, h⟩ := List.mem_flatMap.1 hv
 simp only [List.mem_cons, List.not_mem_nil, or_false] at h
 rcases h with rfl | rfl <;> rfl
theorem own_sla' {E size : Nat} {a : Option Addr} {n cap : Nat} {xs : List Value} {e : List Blk} (h : Own E size (.slice a n cap) n xs e) (L : List Blk) : Sli (e ++ L) a n size xs := by
 obtain ⟨a2, c2, h1, h2⟩ := h.sli L
 injection h1 with h1 h3 h4
 rw [h1]; exact h2
def zcs (m i : Nat) : List Value := (List.replicate i [Value.int .u32 0, .int .u32 2147418112, .slice none 0 0] ++ List.replicate (m - i) [Value.int .u32 0, .int .u32 0, .slice none 0 0]).flatten
theorem rep3_len (k : Nat) (a b c : Value) : (List.replicate k [a, b, c]).flatten.length = k * 3 := by
 induction k with
 | zero => rfl
 | succ k ih => rw [List.replicate_succ, List.flatten_cons, List.length_append, ih]; simp only [List.length_cons, List.length_nil]; omega
theorem zcs_len {m i : Nat} (h : i ≤ m) : (zcs m i).length = m * 3 := by
 unfold zcs
 rw [List.flatten_append, List.length_append, rep3_len, rep3_len]; omega
theorem zcs_set {m i : Nat} (h : i < m) : (zcs m i).set (i * 3 + 1) (.int .u32 2147418112) = zcs m (i + 1) := by
 unfold zcs
 obtain ⟨k, hk⟩ : ∃ k, m - i = k + 1 := ⟨m - i - 1, by omega⟩
 rw [hk, show m - (i + 1) = k by omega, List.flatten_append, List.flatten_append, List.set_append, if_neg (by rw [rep3_len]; omega), rep3_len, show i * 3 + 1 - i * 3 = 1 by omega, List.replicate_succ, List.flatten_cons, List.replicate_succ', List.flatten_append]
 simp
theorem rulsG_rep (X : List Blk) (m : Nat) : RulsG X (List.replicate m ⟨0, 2147418112, []⟩) (zcs m m) := by
 have e : zcs m m = (List.replicate m [Value.int .u32 0, .int .u32 2147418112, .slice none 0 0]).flatten := by
  unfold zcs
  rw [Nat.sub_self, List.replicate_zero, List.append_nil]
 rw [e]
 clear e
 induction m with
 | zero => rfl
 | succ m ih => exact ⟨.slice none 0 0, _, by rw [List.replicate_succ, List.flatten_cons]; rfl, cnd_nil X, ih⟩
structure QuD (X : List Blk) (cs : Array Value) (k : Nat) (G : GPol) (r1 p1 q1 : Option Addr) (r3 p3 q3 : Nat) : Prop where
 at_ : (cs.toList.drop (k * 6)).take 6 = [.string (mB8 G.nm), .int .u32 G.df, .slice r1 G.rules.length r3, .int .u16 (G.hd : Nat), .slice p1 G.paths.length p3, .slice q1 G.ports.length q3]
 ok : G.ok
 few : FewN G
 path : ∀ p ∈ G.paths, p.1.length ≤ 1000
 s : PolS X G (.slice r1 G.rules.length r3) (.slice p1 G.paths.length p3) (.slice q1 G.ports.length q3)
theorem SubB.app' (A B L : List Blk) : SubB B ((A ++ B) ++ L) := ⟨fun _ h => List.mem_append_left _ (List.mem_append_right _ h)⟩
theorem SubB.app3 (A B L : List Blk) : SubB A ((A ++ B) ++ L) := ⟨fun _ h => List.mem_append_left _ (List.mem_append_left _ h)⟩
theorem ref_w {S w0 R} {x : Blk} {X : List Blk} (P : GPol) (hP : P.ok) (hN : FewN P) {vr vp vq : Value} (h : PolS X P vr vp vq) (s : SubB X (x :: R)) :
  Fn Tryd.prog 10 #[.agg (polG P vr vp vq).toArray] S w0 (x :: R) fun v L' => ∃ (r1 p1 q1 : Option Addr) (r3 p3 q3 : Nat) (D : List Blk), v = .agg #[.string (mB8 P.nm), .int .u32 P.df, .slice r1 P.rules.length r3, .int .i64 (P.hd : Nat), .slice p1 P.paths.length p3, .slice q1 P.ports.length q3] ∧ RfS D P (.slice r1 P.rules.length r3) (.slice p1 P.paths.length p3) (.slice q1 P.ports.length q3) ∧ x :: (D ++ R) = L' := by
 refine (ref_c (S:=S) (w0:=w0) P hP hN vr vp vq (h.mono s)).mono ?_
 rintro v L' ⟨d, rfl, hd, rfl⟩
 have hr := hd.rfS hN
 obtain ⟨⟨r1, r2, cz, e1, s1, g1⟩, ⟨p1, p2, e2, s2⟩, ⟨q1, q2, e3, s3⟩, l1, l2, l3⟩ := id hr
 rw [e1, e2, e3] at hr
 exact ⟨_, ⟨r1, p1, q1, r2, p2, q2, d.blocks, by rw [e1, e2, e3], hr, rfl⟩, fun w H => H.perm List.perm_middle⟩
theorem rchk_w {S w0 L X} (P : GPol) (h : P.ok) (hpl : ∀ p ∈ P.paths, p.1.length ≤ 1000) {vr vp vq : Value} (hS : RfS X P vr vp vq) (s : SubB X L) :
  Fn Tryd.prog 9 #[.agg (refC P vr vp vq).toArray] S w0 L fun v L' => v = .int .i64 (chkG P : Nat) ∧ L = L' := rcheck_c P h hpl vr vp vq (hS.mono s)
set_option maxHeartbeats 4000000 in
theorem policyChecks_c {S w0 L} (P : GPol) (hP : GPolR P) (vr vp vq : Value) (hPS : PolS L P vr vp vq) (s : SPol) (hs : s.ok) (svr svp svg svq : Value) (hS : SPolS L s svr svp svg svq) (c : GCnd) (hc : c.ok) (what : Int) (hw : 0 ≤ what ∧ what < 256) (n : Nat) (hn : n < 65536) :
  Fn Tryd.prog 3 #[.agg (polG P vr vp vq).toArray, .agg #[.int .u8 s.nm, .int .u8 s.df, .int .u8 s.en, svr, .int .u16 (s.hd : Nat), svp, svg, svq], .agg c.cells.toArray, .int .u8 what, .int .u16 (n : Nat)] S w0 L fun v L' => v = .bool true ∧ L = L' := by
 obtain ⟨⟨ra, rc, cz, rfl, -, -⟩, ⟨pa, pc, rfl, -⟩, ⟨qa, qc, rfl, -⟩, -, -, -⟩ := id hPS
 obtain ⟨⟨sa, sc, sz, rfl, -, -⟩, ⟨ta, tc, rfl, -⟩, ⟨ua, uc, rfl, -⟩, ⟨xa, xc, rfl, -⟩, -, -, -, -⟩ := id hS
 have hfw := fun (x y z : Blk) => few_c (S:=S) (w0:=w0) (L:=[x, y, z] ++ L) P _ _ _ (hPS.upA [x, y, z]) (fun p hp => (hP.paths p hp).1) hP.nm
 dsimp only [polG, List.cons_append, List.nil_append, GCnd.cells] at hfw ⊢
 refine Fn5 Tryd.func3 Tryd.ntmps3 rfl rfl ?_
 repeat' (first | (refine h4o (id:=5) ?_) | refine h0t ?_ | refine h0e ?_ | refine h0x ?_ | refine h1a ?_ | refine h1e ?_ | refine h0l rfl ?_ | refine h0m rfl ?_ | (refine gR 0 ?_ <;> (try refine h0b ?_; (refine h2c (t:=30) rfl rfl ?_; intro nb hnb; (try simp only [Value.cells]))) <;> (try refine h0b ?_; (refine h2c (t:=35) rfl rfl ?_; intro nb hnb; (try simp only [Value.cells]))) <;> (try refine h0b ?_; (refine h2c (t:=39) rfl rfl ?_; intro nb hnb; (try simp only [Value.cells]))) <;> (try refine p_a (h:=h0a ?_))) | (refine gR 1 ?_ <;> (try refine h0b ?_; (refine q_c 4 (c:=by apply awake9_c) (h:=?_); rintro _ _ ⟨rfl, rfl⟩; (try simp only [zzE, zzF]))) <;> (try refine p_e (by apply h3g; exact rfl; exact h1f) (h:=h0a ?_))) | (refine gR 3 (q_e (q_L sz_30) ?_) <;> (try refine h0b ?_; ((refine q_c 5 (c:=by apply hfw) (h:=?_); rintro _ _ ⟨b, rfl, hb, rfl⟩; (try simp only [zzE, zzF])); cases b)) <;> (try refine p_e (by apply h3g; exact rfl; (focus (first | exact h1f | exact h1y))) (h:=h0a ?_))) | (refine gR 4 (p_a (h:=h0a ?_))))
 ·(refine h0z Tryd.results3 (.tmp rfl .nil) ?_)
  exact ⟨_, ⟨rfl, rfl⟩, by intro w H; refine H.sub ?_; (try simp only [zzC, zzN]); repeat (first | exact List.Sublist.refl _ | refine List.Sublist.cons _ ?_)⟩
 refine ⟨?_⟩
 have hG := hP.ok (hb rfl)
 have hfew := hb rfl
 clear hfw hb hP
 rename_i n5 _ n6 _
 obtain ⟨n7, rfl⟩ : ∃ x, x = nb := ⟨_, rfl⟩
 obtain ⟨L0, hL0⟩ : ∃ M : List Blk, M = ⟨true, n7, .cells #[.int .i64 c.arg, .int .u8 (c.op : Nat), .int .u64 (c.mask : Nat), .int .u64 (c.val : Nat)] 39 (0, 0)⟩ :: smB n6 s.nm s.df s.en (.slice sa s.rules.length sc) s.hd (.slice ta s.paths.length tc) (.slice ua s.rights.length uc) (.slice xa s.ports.length xc) :: ⟨true, n5, .cells #[.string (mB8 P.nm), .int .u32 P.df, .slice ra P.rules.length rc, .int .u16 (P.hd : Nat), .slice pa P.paths.length pc, .slice qa P.ports.length qc] 30 (0, 0)⟩ :: L := ⟨_, rfl⟩
 have hLL : L.Sublist L0 := hL0 ▸ ((List.sublist_cons_self _ _).trans (List.sublist_cons_self _ _)).trans (List.sublist_cons_self _ _)
 have hsp := fun (L' : List Blk) hX => smpol_m (S:=S) (w0:=w0) (L:=L') (X:=L) s hs _ _ _ _ hS hX
 have hsp2 := fun (L' : List Blk) (hX : SubB L L') => smpol_w (S:=S) (w0:=w0) (L:=L') (X:=L) s hs _ _ _ _ hS hX
 repeat' (first | (refine h4o (id:=7) ?_) | refine h0t ?_ | refine h0e ?_ | (refine gR 5 ?_ <;> (try refine h0b ?_; (refine q_c 6 (c:=by apply new_c) (h:=?_); rintro _ _ ⟨ct, rfl, rfl⟩; (try simp only [zzE, zzF]))) <;> (try refine p_a (h:=h0a ?_))) | (refine gR 6 (q_e (q_L sz_35) ?_) <;> (try refine h0b ?_; (refine q_c 7 (c:=by apply hsp; (focus ((try simp only [zzC, zzN, List.append_assoc]); (repeat' (first | (with_reducible exact SubB.refl _) | (with_reducible apply SubB.up)))))) (h:=?_); rintro _ _ ⟨P2, r1, p1, q1, r3, p3, q3, E, rfl, hok2, hrn2, hS2, hi2, rfl⟩; (try simp only [zzE, zzF]))) <;> (try refine h0b ?_; (refine h1b (t:=30) rfl Tryd.zeroValue30 ?_; intro nb hnb; (try simp only [Value.cells]))) <;> (try refine h0b ?_; (refine q_W ?_)) <;> (try refine h0a ?_)))
 refine ⟨?_⟩
 obtain ⟨n12, rfl⟩ : ∃ x, x = nb := ⟨_, rfl⟩
 repeat' (first | (refine h2g (id:=0) ?_) | refine h0t ?_ | refine h0e ?_ | (refine gR 7 (q_e (by apply h1r (t:=35); exact rfl; (focus (repeat (first | exact fd0 | apply fdA | apply fdS))); kernel_rfl; kernel_rfl; exact sz_35; exact Nat.le_of_ble_eq_true rfl; exact c_19) ?_) <;> (try refine h0b ?_; (refine q_c 7 (c:=by apply hsp2; (focus ((try simp only [zzC, zzN, List.append_assoc]); (repeat' (first | (with_reducible exact SubB.refl _) | (with_reducible apply SubB.up) | (with_reducible apply SubB.upA)))))) (h:=?_); rintro _ _ ⟨P3, r4, p4, q4, r5, p5, q5, dz, er, ec, ep, eq, rfl, hok3, hrn3, hrr, hvr, hvp, hvq, hi3, rfl⟩; (try simp only [zzE, zzF]))) <;> (try refine h0b ?_; (refine h1b (t:=30) rfl Tryd.zeroValue30 ?_; intro nb hnb; (try simp only [Value.cells]))) <;> (try refine h0b ?_; (refine q_W ?_)) <;> (try refine h0a ?_)) | (refine gR 8 (p_m (h:=p_e (q_b (r:=by apply h4i; omega; omega; exact c_4)) (h:=h0a ?_)))))
 refine ⟨?_⟩
 obtain ⟨n13, rfl⟩ : ∃ x, x = nb := ⟨_, rfl⟩
 clear hsp hsp2
 have hg3 := pol_gok hok3 hrn3
 have hf3 := pol_fewN hok3
 have hl3 := pol_cl hok3
 have hp3 : ∀ p ∈ P3.paths, p.1.length ≤ 1000 := fun p hp => Nat.le_trans (wP_ok (hok3.paths p hp).1).2 (by omega)
 have hgr := RulsR.g hrr hl3
 have hbr : BnR P3.g.rules P3.paths P3.ports := ⟨fun r hr => ⟨hg3.rules r hr, hf3.conds r hr⟩, fun p hp => ⟨hp3 p hp, (hg3.paths p hp).2⟩, hg3.ports, hf3.l1, hf3.l2, hf3.l3⟩
 obtain ⟨b1, b2, b3⟩ := And.intro hok3.l1 (And.intro hok3.l2 hok3.l3)
 have elr : P3.g.rules.length = P3.rules.length := List.length_map ..
 obtain ⟨L9, hL9⟩ : ∃ M : List Blk, M = smB n6 s.nm s.df s.en (.slice sa s.rules.length sc) s.hd (.slice ta s.paths.length tc) (.slice ua s.rights.length uc) (.slice xa s.ports.length xc) :: ⟨true, n5, .cells #[.string (mB8 P.nm), .int .u32 P.df, .slice ra P.rules.length rc, .int .u16 (P.hd : Nat), .slice pa P.paths.length pc, .slice qa P.ports.length qc] 30 (0, 0)⟩ :: L := ⟨_, rfl⟩
 obtain ⟨R8, hR8⟩ : ∃ M : List Blk, M = ⟨true, n12, .cells #[.string (mB8 P2.nm), .int .u32 P2.df, .slice r1 P2.rules.length r3, .int .u16 (P2.hd : Nat), .slice p1 P2.paths.length p3, .slice q1 P2.ports.length q3] 30 (0, 0)⟩ :: (E ++ (tbl0 ct 0 0 :: L9)) := ⟨_, rfl⟩
 refine h3i (L' := ⟨true, n13, .cells #[.string (mB8 P3.nm), .int .u32 P3.df, .slice r4 P3.rules.length r5, .int .u16 (P3.hd : Nat), .slice p4 P3.paths.length p5, .slice q4 P3.ports.length q5] 30 (0, 0)⟩ :: ⟨true, n7, .cells #[.int .i64 c.arg, .int .u8 (c.op : Nat), .int .u64 (c.mask : Nat), .int .u64 (c.val : Nat)] 39 (0, 0)⟩ :: (er ++ (ep ++ (eq ++ (ec ++ R8))))) (by rw [hR8, hL9]; intro w H; refine Sel.out ?_ H; (try dsimp only); (try simp only [List.cons_append, List.nil_append, List.append_assoc]); with_reducible repeat (first | exact Sel.refl _ | exact Sel.nil _ | apply Sel.appS | apply Sel.consS | (apply Sel.appP; (focus ((repeat (first | exact Pull.here _ | apply Pull.cons | apply Pull.app)); done))) | (apply Sel.consP; (focus ((repeat (first | exact PullB.here _ | apply PullB.cons | apply PullB.app)); done))) | apply Sel.drop | apply Sel.dropA)) ?_
 refine h4e (γ:=BnG) BnI (fun _ => []) [(5, _), (7, _), (11, _), (12, _), (13, _)]
  (fun g => ⟨true, n13, .cells #[.string (mB8 g.G.nm), .int .u32 g.G.df, .slice g.r1 g.G.rules.length g.r3, .int .u16 (g.G.hd : Nat), .slice g.p1 g.G.paths.length g.p3, .slice g.q1 g.G.ports.length g.q3] 30 (0, 0)⟩ :: ⟨true, n7, .cells #[.int .i64 c.arg, .int .u8 (c.op : Nat), .int .u64 (c.mask : Nat), .int .u64 (c.val : Nat)] 39 (0, 0)⟩ :: (g.E ++ R8)) (.cons rfl (.cons rfl (.cons rfl (.cons rfl (.cons rfl .nil))))) ?_ ?_
 ·clear hPS hS hS2 hL0 hL9 hR8 hLL hG hfew
  obtain hq | hq | hq | hq | hq | hq | hq | hq : what % 8 = 0 ∨ what % 8 = 1 ∨ what % 8 = 2 ∨ what % 8 = 3 ∨ what % 8 = 4 ∨ what % 8 = 5 ∨ what % 8 = 6 ∨ what % 8 = 7 := by omega
  all_goals rw [hq]
  ·repeat' (first | (refine h4o (id:=16) ?_) | refine h0t ?_ | refine h0e ?_ | refine h0o ?_ | refine h0l rfl ?_ | (refine gR 15 ?_ <;> (try refine q_e (by exact q_b (r:=by refine h1l ?_; first | rfl | (with_reducible assumption) | (decide; done) | omega)) ?_) <;> (try refine p_a (h:=h0a ?_))))
   refine ⟨?_⟩
   refine h3i (L' := er ++ (⟨true, n13, .cells #[.string (mB8 P3.nm), .int .u32 P3.df, .slice r4 P3.rules.length r5, .int .u16 (P3.hd : Nat), .slice p4 P3.paths.length p5, .slice q4 P3.ports.length q5] 30 (0, 0)⟩ :: ⟨true, n7, .cells #[.int .i64 c.arg, .int .u8 (c.op : Nat), .int .u64 (c.mask : Nat), .int .u64 (c.val : Nat)] 39 (0, 0)⟩ :: (ep ++ (eq ++ (ec ++ R8))))) (by intro w H; refine Sel.out ?_ H; (try dsimp only); (try simp only [List.cons_append, List.nil_append, List.append_assoc]); with_reducible repeat (first | exact Sel.refl _ | exact Sel.nil _ | apply Sel.appS | apply Sel.consS | (apply Sel.appP; (focus ((repeat (first | exact Pull.here _ | apply Pull.cons | apply Pull.app)); done))) | (apply Sel.consP; (focus ((repeat (first | exact PullB.here _ | apply PullB.cons | apply PullB.app)); done))) | apply Sel.drop | apply Sel.dropA)) ?_
   repeat' (first | refine h1d ?_ | refine h1h ?_ | (refine gR 16 (p_e (q_f h2n) (h:=p_e (by apply h2b (t:=24); exact rfl; (focus (repeat (first | exact fd0 | apply fdA))); kernel_rfl; kernel_rfl; exact rfl) (h:=q_m ?_))) <;> (try refine q_e (by apply h3c; exact rfl; (focus (apply h3a Tryd.underlying25 Tryd.underlying22; first | (refine IntWalk.i64_in _ ?_; omega) | (refine IntWalk.u8_in _ ?_; omega) | (refine IntWalk.u16_in _ ?_; omega) | (refine IntWalk.u32_in _ ?_; omega) | (refine IntWalk.u64_in _ ?_; omega) | (refine IntWalk.i32_in _ ?_; omega) | exact rfl))) ?_) <;> (try refine q_e (by exact h0v (t:=47) (fun vs => (match vs with | [(_, x0), (_, x1)] => [x0, x1, Value.slice none 0 0] | _ => [])) rfl (fun w => by kernel_rfl)) ?_; (try simp only [Value.cells]); (try simp only [zzC, zzN])) <;> (try refine h0b ?_; (refine h0w (t:=24) (m:=1) (e:=47) (fun vs => (match vs with | [(_, x0)] => x0.cells.toList | _ => [])) rfl rfl (fun w => by kernel_rfl) ?_; intro nb hnb; (try simp only [Value.cells]); (try simp only [zzC, zzN]))) <;> (try refine h0b ?_; (apply h2k; exact rfl; exact Tryd.underlying24; exact inf_47_i; exact inf_47_z; exact inf_47_s; exact inf_47_b; exact rfl; exact rfl; exact rfl; (with_reducible assumption); exact fd0; exact Nat.le_of_ble_eq_true rfl; exact c_19; exact rfl; exact c_14; omega; exact c_9; exact rfl; exact c_6; exact c_3; intro vA eA hownA; obtain ⟨gA, capA, curA, rfl, rfl, hA1, hA2, hA3, hA4⟩ := hownA.some (by omega); (try simp only [zzC, zzN]))) <;> (try refine q_e (q_f h2n) ?_) <;> (try refine h0b ?_; (refine q_S ?_)) <;> (try refine h0a ?_)))
   have hz := RulsG.snoc (r:=⟨n, 2147483648, []⟩) hgr (cnd_nil ec)
   have hb2 : BnR (P3.g.rules ++ [⟨n, 2147483648, []⟩]) P3.paths P3.ports := ⟨h3y hbr.r ⟨⟨by dsimp only; omega, by dsimp only; omega, (fun c hc => by cases hc)⟩, Nat.zero_le _⟩, hbr.p, hbr.q, by rw [List.length_append, List.length_singleton, elr]; omega, hbr.l2, hbr.l3⟩
   have e1 : (P3.g.rules ++ [(⟨n, 2147483648, []⟩ : GRul)]).length = P3.rules.length + 1 := by rw [List.length_append, List.length_singleton, elr]
   refine h1p ⟨bent P3 (P3.g.rules ++ [⟨n, 2147483648, []⟩]) P3.hd P3.paths P3.ports, some ⟨gA, 0, none⟩, p4, q4, capA, p5, q5, _⟩ (bent_i hg3 hb2 hg3.hd e1 rfl rfl hownA hz hvp hvq) (by (focus (repeat (first | exact Sub.nil | refine Sub.cons rfl ?_)))) (by dsimp only [bent]; rw [e1]; intro w H; refine Sel.out ?_ H; (try dsimp only); (try simp only [List.cons_append, List.nil_append, List.append_assoc]); with_reducible repeat (first | exact Sel.refl _ | exact Sel.nil _ | apply Sel.appS | apply Sel.consS | (apply Sel.appP; (focus ((repeat (first | exact Pull.here _ | apply Pull.cons | apply Pull.app)); done))) | (apply Sel.consP; (focus ((repeat (first | exact PullB.here _ | apply PullB.cons | apply PullB.app)); done))) | apply Sel.drop | apply Sel.dropA))
  ·repeat' (first | (refine h4o (id:=18) ?_) | refine h0t ?_ | refine h0e ?_ | refine h0o ?_ | refine h0l rfl ?_ | refine h0m rfl ?_ | (refine gR 15 (p_e (q_b (r:=by exact h0y q_o)) (h:=p_a (h:=h0a ?_)))) | (refine gR 17 ?_ <;> (try refine q_e (by exact q_b (r:=by refine h1l ?_; first | rfl | (with_reducible assumption) | (decide; done) | omega)) ?_) <;> (try refine p_a (h:=h0a ?_))))
   refine ⟨?_⟩
   refine h3i (L' := er ++ (⟨true, n13, .cells #[.string (mB8 P3.nm), .int .u32 P3.df, .slice r4 P3.rules.length r5, .int .u16 (P3.hd : Nat), .slice p4 P3.paths.length p5, .slice q4 P3.ports.length q5] 30 (0, 0)⟩ :: ⟨true, n7, .cells #[.int .i64 c.arg, .int .u8 (c.op : Nat), .int .u64 (c.mask : Nat), .int .u64 (c.val : Nat)] 39 (0, 0)⟩ :: (ep ++ (eq ++ (ec ++ R8))))) (by intro w H; refine Sel.out ?_ H; (try dsimp only); (try simp only [List.cons_append, List.nil_append, List.append_assoc]); with_reducible repeat (first | exact Sel.refl _ | exact Sel.nil _ | apply Sel.appS | apply Sel.consS | (apply Sel.appP; (focus ((repeat (first | exact Pull.here _ | apply Pull.cons | apply Pull.app)); done))) | (apply Sel.consP; (focus ((repeat (first | exact PullB.here _ | apply PullB.cons | apply PullB.app)); done))) | apply Sel.drop | apply Sel.dropA)) ?_
   repeat' (first | refine h1d ?_ | refine h1h ?_ | (refine gR 18 (p_e (q_f h2n) (h:=p_e (by apply h2b (t:=24); exact rfl; (focus (repeat (first | exact fd0 | apply fdA))); kernel_rfl; kernel_rfl; exact rfl) (h:=q_m ?_))) <;> (try refine q_e (by apply h3c; exact rfl; (focus (apply h3a Tryd.underlying25 Tryd.underlying23; first | (refine IntWalk.i64_in _ ?_; omega) | (refine IntWalk.u8_in _ ?_; omega) | (refine IntWalk.u16_in _ ?_; omega) | (refine IntWalk.u32_in _ ?_; omega) | (refine IntWalk.u64_in _ ?_; omega) | (refine IntWalk.i32_in _ ?_; omega) | exact rfl))) ?_) <;> (try refine q_e (by exact h0v (t:=47) (fun vs => (match vs with | [(_, x0), (_, x1)] => [x0, x1, Value.slice none 0 0] | _ => [])) rfl (fun w => by kernel_rfl)) ?_; (try simp only [Value.cells]); (try simp only [zzC, zzN])) <;> (try refine h0b ?_; (refine h0w (t:=24) (m:=1) (e:=47) (fun vs => (match vs with | [(_, x0)] => x0.cells.toList | _ => [])) rfl rfl (fun w => by kernel_rfl) ?_; intro nb hnb; (try simp only [Value.cells]); (try simp only [zzC, zzN]))) <;> (try refine h0b ?_; (apply h2k; exact rfl; exact Tryd.underlying24; exact inf_47_i; exact inf_47_z; exact inf_47_s; exact inf_47_b; exact rfl; exact rfl; exact rfl; (with_reducible assumption); exact fd0; exact Nat.le_of_ble_eq_true rfl; exact c_19; exact rfl; exact c_14; omega; exact c_9; exact rfl; exact c_6; exact c_3; intro vA eA hownA; obtain ⟨gA, capA, curA, rfl, rfl, hA1, hA2, hA3, hA4⟩ := hownA.some (by omega); (try simp only [zzC, zzN]))) <;> (try refine q_e (q_f h2n) ?_) <;> (try refine h0b ?_; (refine q_S ?_)) <;> (try refine h0a ?_)))
   have hz := RulsG.snoc (r:=⟨2, n, []⟩) hgr (cnd_nil ec)
   have hb2 : BnR (P3.g.rules ++ [⟨2, n, []⟩]) P3.paths P3.ports := ⟨h3y hbr.r ⟨⟨by dsimp only; omega, by dsimp only; omega, (fun c hc => by cases hc)⟩, Nat.zero_le _⟩, hbr.p, hbr.q, by rw [List.length_append, List.length_singleton, elr]; omega, hbr.l2, hbr.l3⟩
   have e1 : (P3.g.rules ++ [(⟨2, n, []⟩ : GRul)]).length = P3.rules.length + 1 := by rw [List.length_append, List.length_singleton, elr]
   refine h1p ⟨bent P3 (P3.g.rules ++ [⟨2, n, []⟩]) P3.hd P3.paths P3.ports, some ⟨gA, 0, none⟩, p4, q4, capA, p5, q5, _⟩ (bent_i hg3 hb2 hg3.hd e1 rfl rfl hownA hz hvp hvq) (by (focus (repeat (first | exact Sub.nil | refine Sub.cons rfl ?_)))) (by dsimp only [bent]; rw [e1]; intro w H; refine Sel.out ?_ H; (try dsimp only); (try simp only [List.cons_append, List.nil_append, List.append_assoc]); with_reducible repeat (first | exact Sel.refl _ | exact Sel.nil _ | apply Sel.appS | apply Sel.consS | (apply Sel.appP; (focus ((repeat (first | exact Pull.here _ | apply Pull.cons | apply Pull.app)); done))) | (apply Sel.consP; (focus ((repeat (first | exact PullB.here _ | apply PullB.cons | apply PullB.app)); done))) | apply Sel.drop | apply Sel.dropA))
  ·have hcc := hc
   have hb2 : BnR (P3.g.rules ++ [⟨2, 2147221504, [c]⟩]) P3.paths P3.ports := ⟨h3y hbr.r ⟨⟨by dsimp only; omega, by dsimp only; omega, (fun x hx => by rw [List.mem_singleton.1 hx]; exact hc)⟩, by show 1 ≤ 1000; omega⟩, hbr.p, hbr.q, by rw [List.length_append, List.length_singleton, elr]; omega, hbr.l2, hbr.l3⟩
   have e1 : (P3.g.rules ++ [(⟨2, 2147221504, [c]⟩ : GRul)]).length = P3.rules.length + 1 := by rw [List.length_append, List.length_singleton, elr]
   rcases h4l hvr with ⟨h1, h2, h3, h4⟩ | ⟨g, cp, cur, h1, h2, h3, h4, h5, h6⟩
   ·injection h1 with a1 a2 a3
    subst a1 a3 h3 h4
    rw [h2] at e1 ⊢
    repeat' (first | refine h0t ?_ | refine h0e ?_ | refine h1d ?_ | refine h1h ?_ | refine h0o ?_ | refine h0l rfl ?_ | refine h0m rfl ?_ | (refine gR 15 (p_e (q_b (r:=by exact h0y q_o)) (h:=p_a (h:=h0a ?_)))) | (refine gR 17 (p_e (q_b (r:=by exact h0y q_o)) (h:=p_a (h:=h0a ?_)))) | (refine gR 19 ?_ <;> (try refine q_e (by exact q_b (r:=by refine h1l ?_; first | rfl | (with_reducible assumption) | (decide; done) | omega)) ?_) <;> (try refine p_a (h:=h0a ?_))) | (refine gR 20 (p_e (q_f h2n) (h:=p_e q_l (h:=q_e (q_L sz_39) ?_))) <;> (try refine h0b ?_; (refine h0w (t:=45) (m:=1) (e:=39) (fun vs => (match vs with | [(_, x0)] => x0.cells.toList | _ => [])) rfl rfl (fun w => by kernel_rfl) ?_; intro nb hnb; (try simp only [Value.cells]); (try simp only [zzC, zzN]))) <;> (try refine q_e (by exact h0v (t:=47) (fun vs => (match vs with | [(_, x0), (_, x1), (_, x2)] => [x0, x1, x2] | _ => [])) rfl (fun w => by kernel_rfl)) ?_; (try simp only [Value.cells]); (try simp only [zzC, zzN])) <;> (try refine h0b ?_; (refine h0w (t:=24) (m:=1) (e:=47) (fun vs => (match vs with | [(_, x0)] => x0.cells.toList | _ => [])) rfl rfl (fun w => by kernel_rfl) ?_; intro nb hnb; (try simp only [Value.cells]); (try simp only [zzC, zzN]))) <;> (try refine h0b ?_; (apply h2k; exact rfl; exact Tryd.underlying24; exact inf_47_i; exact inf_47_z; exact inf_47_s; exact inf_47_b; exact rfl; exact rfl; exact rfl; exact Own.nil _ _; exact fd0; exact Nat.le_of_ble_eq_true rfl; exact c_19; exact rfl; exact c_14; omega; (exact fun _ H => H); exact rfl; exact c_6; exact c_3; intro vA eA hownA; obtain ⟨gA, capA, curA, rfl, rfl, hA1, hA2, hA3, hA4⟩ := hownA.some (by omega); (try simp only [zzC, zzN]))) <;> (try refine q_e (q_f h2n) ?_) <;> (try refine h0b ?_; (refine q_S ?_)) <;> (try refine h0a ?_)))
    rename_i nbc _
    have hz := RulsG.snoc (r:=⟨2, 2147221504, [c]⟩) (RulsG.upA [⟨true, nbc, .cells #[.int .i64 c.arg, .int .u8 (c.op : Nat), .int .u64 (c.mask : Nat), .int .u64 (c.val : Nat)] 39 (0, 0)⟩] hgr) (⟨some ⟨nbc, 0, none⟩, 1, rfl, Sli.of (i:=0) rfl (by show 0 + 1 * 4 ≤ 4; omega) rfl, by show 1 ≤ maxLen; unfold maxLen; omega⟩ : CndS ([⟨true, nbc, .cells #[.int .i64 c.arg, .int .u8 (c.op : Nat), .int .u64 (c.mask : Nat), .int .u64 (c.val : Nat)] 39 (0, 0)⟩] ++ ec) (.slice (some ⟨nbc, 0, none⟩) 1 1) [c])
    refine h1p ⟨bent P3 (P3.g.rules ++ [⟨2, 2147221504, [c]⟩]) P3.hd P3.paths P3.ports, some ⟨gA, 0, none⟩, p4, q4, capA, p5, q5, _⟩ (bent_i hg3 hb2 hg3.hd e1 rfl rfl hownA hz hvp hvq) (by (focus (repeat (first | exact Sub.nil | refine Sub.cons rfl ?_)))) (by dsimp only [bent]; rw [e1]; intro w H; refine Sel.out ?_ H; (try dsimp only); (try simp only [List.cons_append, List.nil_append, List.append_assoc]); with_reducible repeat (first | exact Sel.refl _ | exact Sel.nil _ | apply Sel.appS | apply Sel.consS | (apply Sel.appP; (focus ((repeat (first | exact Pull.here _ | apply Pull.cons | apply Pull.app)); done))) | (apply Sel.consP; (focus ((repeat (first | exact PullB.here _ | apply PullB.cons | apply PullB.app)); done))) | apply Sel.drop | apply Sel.dropA))
   ·injection h1 with a1 a2 a3
    subst a1 a3 h2
    clear hvr
    repeat' (first | refine h0t ?_ | refine h0e ?_ | refine h1d ?_ | refine h1h ?_ | refine h0o ?_ | refine h0l rfl ?_ | refine h0m rfl ?_ | (refine gR 15 (p_e (q_b (r:=by exact h0y q_o)) (h:=p_a (h:=h0a ?_)))) | (refine gR 17 (p_e (q_b (r:=by exact h0y q_o)) (h:=p_a (h:=h0a ?_)))) | (refine gR 19 ?_ <;> (try refine q_e (by exact q_b (r:=by refine h1l ?_; first | rfl | (with_reducible assumption) | (decide; done) | omega)) ?_) <;> (try refine p_a (h:=h0a ?_))) | (refine gR 20 (p_e (q_f h2n) (h:=p_e q_l (h:=q_e (q_L sz_39) ?_))) <;> (try refine h0b ?_; (refine h0w (t:=45) (m:=1) (e:=39) (fun vs => (match vs with | [(_, x0)] => x0.cells.toList | _ => [])) rfl rfl (fun w => by kernel_rfl) ?_; intro nb hnb; (try simp only [Value.cells]); (try simp only [zzC, zzN]))) <;> (try refine q_e (by exact h0v (t:=47) (fun vs => (match vs with | [(_, x0), (_, x1), (_, x2)] => [x0, x1, x2] | _ => [])) rfl (fun w => by kernel_rfl)) ?_; (try simp only [Value.cells]); (try simp only [zzC, zzN])) <;> (try refine h0b ?_; (refine h0w (t:=24) (m:=1) (e:=47) (fun vs => (match vs with | [(_, x0)] => x0.cells.toList | _ => [])) rfl rfl (fun w => by kernel_rfl) ?_; intro nb hnb; (try simp only [Value.cells]); (try simp only [zzC, zzN]))) <;> (try refine h0b ?_; (apply h2t; exact rfl; exact Tryd.underlying24; exact inf_47_i; exact inf_47_z; exact inf_47_s; exact inf_47_b; exact rfl; exact rfl; exact rfl; exact c_23; (with_reducible assumption); (with_reducible assumption); (with_reducible assumption); exact fd0; exact Nat.le_of_ble_eq_true rfl; exact c_19; exact rfl; exact c_14; omega; exact rfl; exact c_6; exact c_3; (try simp only [zzE, zzF]); intro vA eA hownA; obtain ⟨gA, capA, curA, rfl, rfl, hA1, hA2, hA3, hA4⟩ := hownA.some (by omega); (try simp only [zzC, zzN]))) <;> (try refine q_e (q_f h2n) ?_) <;> (try refine h0b ?_; (refine q_S ?_)) <;> (try refine h0a ?_)))
    rename_i nbc _
    have hz := RulsG.snoc (r:=⟨2, 2147221504, [c]⟩) (RulsG.upA [⟨true, nbc, .cells #[.int .i64 c.arg, .int .u8 (c.op : Nat), .int .u64 (c.mask : Nat), .int .u64 (c.val : Nat)] 39 (0, 0)⟩] hgr) (⟨some ⟨nbc, 0, none⟩, 1, rfl, Sli.of (i:=0) rfl (by show 0 + 1 * 4 ≤ 4; omega) rfl, by show 1 ≤ maxLen; unfold maxLen; omega⟩ : CndS ([⟨true, nbc, .cells #[.int .i64 c.arg, .int .u8 (c.op : Nat), .int .u64 (c.mask : Nat), .int .u64 (c.val : Nat)] 39 (0, 0)⟩] ++ ec) (.slice (some ⟨nbc, 0, none⟩) 1 1) [c])
    refine h1p ⟨bent P3 (P3.g.rules ++ [⟨2, 2147221504, [c]⟩]) P3.hd P3.paths P3.ports, some ⟨gA, 0, none⟩, p4, q4, capA, p5, q5, _⟩ (bent_i hg3 hb2 hg3.hd e1 rfl rfl (by rw [← h6]; exact hownA) hz hvp hvq) (by (focus (repeat (first | exact Sub.nil | refine Sub.cons rfl ?_)))) (by dsimp only [bent]; rw [e1]; intro w H; refine Sel.out ?_ H; (try dsimp only); (try simp only [List.cons_append, List.nil_append, List.append_assoc]); with_reducible repeat (first | exact Sel.refl _ | exact Sel.nil _ | apply Sel.appS | apply Sel.consS | (apply Sel.appP; (focus ((repeat (first | exact Pull.here _ | apply Pull.cons | apply Pull.app)); done))) | (apply Sel.consP; (focus ((repeat (first | exact PullB.here _ | apply PullB.cons | apply PullB.app)); done))) | apply Sel.drop | apply Sel.dropA))
  ·repeat' (first | refine h0t ?_ | refine h0e ?_ | refine h1d ?_ | refine h1h ?_ | refine h0o ?_ | refine h0l rfl ?_ | refine h0m rfl ?_ | (refine gR 15 (p_e (q_b (r:=by exact h0y q_o)) (h:=p_a (h:=h0a ?_)))) | (refine gR 17 (p_e (q_b (r:=by exact h0y q_o)) (h:=p_a (h:=h0a ?_)))) | (refine gR 19 (p_e (q_b (r:=by exact h0y q_o)) (h:=p_a (h:=h0a ?_)))) | (refine gR 21 ?_ <;> (try refine q_e (by exact q_b (r:=by refine h1l ?_; first | rfl | (with_reducible assumption) | (decide; done) | omega)) ?_) <;> (try refine p_a (h:=h0a ?_))) | (refine gR 22 (p_m (h:=q_e (q_f fo_30_3) ?_)) <;> (try refine h0b ?_; (refine q_S ?_)) <;> (try refine h0a ?_)))
   refine h1p ⟨bent P3 P3.g.rules n P3.paths P3.ports, r4, p4, q4, r5, p5, q5, _⟩ (bent_i hg3 hbr hn elr rfl rfl hvr hgr hvp hvq) (by (focus (repeat (first | exact Sub.nil | refine Sub.cons rfl ?_)))) (by dsimp only [bent]; rw [elr]; intro w H; refine Sel.out ?_ H; (try dsimp only); (try simp only [List.cons_append, List.nil_append, List.append_assoc]); with_reducible repeat (first | exact Sel.refl _ | exact Sel.nil _ | apply Sel.appS | apply Sel.consS | (apply Sel.appP; (focus ((repeat (first | exact Pull.here _ | apply Pull.cons | apply Pull.app)); done))) | (apply Sel.consP; (focus ((repeat (first | exact PullB.here _ | apply PullB.cons | apply PullB.app)); done))) | apply Sel.drop | apply Sel.dropA))
  ·repeat' (first | (refine h4o (id:=24) ?_) | refine h0t ?_ | refine h0e ?_ | refine h0o ?_ | refine h0l rfl ?_ | refine h0m rfl ?_ | (refine gR 15 (p_e (q_b (r:=by exact h0y q_o)) (h:=p_a (h:=h0a ?_)))) | (refine gR 17 (p_e (q_b (r:=by exact h0y q_o)) (h:=p_a (h:=h0a ?_)))) | (refine gR 19 (p_e (q_b (r:=by exact h0y q_o)) (h:=p_a (h:=h0a ?_)))) | (refine gR 21 (p_e (q_b (r:=by exact h0y q_o)) (h:=p_a (h:=h0a ?_)))) | (refine gR 23 ?_ <;> (try refine q_e (by exact q_b (r:=by refine h1l ?_; first | rfl | (with_reducible assumption) | (decide; done) | omega)) ?_) <;> (try refine p_a (h:=h0a ?_))))
   refine ⟨?_⟩
   refine h3i (L' := ep ++ (⟨true, n13, .cells #[.string (mB8 P3.nm), .int .u32 P3.df, .slice r4 P3.rules.length r5, .int .u16 (P3.hd : Nat), .slice p4 P3.paths.length p5, .slice q4 P3.ports.length q5] 30 (0, 0)⟩ :: ⟨true, n7, .cells #[.int .i64 c.arg, .int .u8 (c.op : Nat), .int .u64 (c.mask : Nat), .int .u64 (c.val : Nat)] 39 (0, 0)⟩ :: (er ++ (eq ++ (ec ++ R8))))) (by intro w H; refine Sel.out ?_ H; (try dsimp only); (try simp only [List.cons_append, List.nil_append, List.append_assoc]); with_reducible repeat (first | exact Sel.refl _ | exact Sel.nil _ | apply Sel.appS | apply Sel.consS | (apply Sel.appP; (focus ((repeat (first | exact Pull.here _ | apply Pull.cons | apply Pull.app)); done))) | (apply Sel.consP; (focus ((repeat (first | exact PullB.here _ | apply PullB.cons | apply PullB.app)); done))) | apply Sel.drop | apply Sel.dropA)) ?_
   repeat' (first | refine h1d ?_ | refine h1h ?_ | (refine gR 24 (p_e (q_f h3k) (h:=p_e (by apply h2b (t:=27); exact rfl; (focus (repeat (first | exact fd0 | apply fdA))); kernel_rfl; kernel_rfl; exact rfl) (h:=q_m ?_))) <;> (try refine q_e (by exact h0v (t:=49) (fun vs => (match vs with | [(_, x0), (_, x1)] => [x0, x1] | _ => [])) rfl (fun w => by kernel_rfl)) ?_; (try simp only [Value.cells]); (try simp only [zzC, zzN])) <;> (try refine h0b ?_; (refine h0w (t:=27) (m:=1) (e:=49) (fun vs => (match vs with | [(_, x0)] => x0.cells.toList | _ => [])) rfl rfl (fun w => by kernel_rfl) ?_; intro nb hnb; (try simp only [Value.cells]); (try simp only [zzC, zzN]))) <;> (try refine h0b ?_; (apply h2k; exact rfl; exact Tryd.underlying27; exact inf_49_i; exact inf_49_z; exact inf_49_s; exact inf_49_b; exact rfl; exact rfl; exact rfl; (with_reducible assumption); exact fd0; exact Nat.le_of_ble_eq_true rfl; exact c_19; exact rfl; exact c_14; omega; exact c_9; exact rfl; exact c_6; exact c_3; intro vA eA hownA; obtain ⟨gA, capA, curA, rfl, rfl, hA1, hA2, hA3, hA4⟩ := hownA.some (by omega); (try simp only [zzC, zzN]))) <;> (try refine q_e (q_f h3k) ?_) <;> (try refine h0b ?_; (refine q_S ?_)) <;> (try refine h0a ?_)))
   have hb2 : BnR P3.g.rules (P3.paths ++ [([47, 113], n)]) P3.ports := ⟨hbr.r, h3y hbr.p ⟨(by show ([47, 113] : List UInt8).length ≤ 1000; decide), hn⟩, hbr.q, hbr.l1, by rw [List.length_append, List.length_singleton]; omega, hbr.l3⟩
   have e1 : (P3.paths ++ [([47, 113], n)]).length = P3.paths.length + 1 := by rw [List.length_append, List.length_singleton]
   have hown2 : Own 49 2 (.slice (some ⟨gA, 0, none⟩) (P3.paths.length + 1) capA) (P3.paths.length + 1) (pthC (P3.paths ++ [([47, 113], n)])) [⟨true, gA, .cells curA 49 (0, 0)⟩] := by rw [pthC_snoc]; exact hownA
   refine h1p ⟨bent P3 P3.g.rules P3.hd (P3.paths ++ [([47, 113], n)]) P3.ports, r4, some ⟨gA, 0, none⟩, q4, r5, capA, q5, _⟩ (bent_i hg3 hb2 hg3.hd elr e1 rfl hvr hgr hown2 hvq) (by (focus (repeat (first | exact Sub.nil | refine Sub.cons rfl ?_)))) (by dsimp only [bent]; rw [e1, elr]; intro w H; refine Sel.out ?_ H; (try dsimp only); (try simp only [List.cons_append, List.nil_append, List.append_assoc]); with_reducible repeat (first | exact Sel.refl _ | exact Sel.nil _ | apply Sel.appS | apply Sel.consS | (apply Sel.appP; (focus ((repeat (first | exact Pull.here _ | apply Pull.cons | apply Pull.app)); done))) | (apply Sel.consP; (focus ((repeat (first | exact PullB.here _ | apply PullB.cons | apply PullB.app)); done))) | apply Sel.drop | apply Sel.dropA))
  ·repeat' (first | (refine h4o (id:=26) ?_) | refine h0t ?_ | refine h0e ?_ | refine h0o ?_ | refine h0l rfl ?_ | refine h0m rfl ?_ | (refine gR 15 (p_e (q_b (r:=by exact h0y q_o)) (h:=p_a (h:=h0a ?_)))) | (refine gR 17 (p_e (q_b (r:=by exact h0y q_o)) (h:=p_a (h:=h0a ?_)))) | (refine gR 19 (p_e (q_b (r:=by exact h0y q_o)) (h:=p_a (h:=h0a ?_)))) | (refine gR 21 (p_e (q_b (r:=by exact h0y q_o)) (h:=p_a (h:=h0a ?_)))) | (refine gR 23 (p_e (q_b (r:=by exact h0y q_o)) (h:=p_a (h:=h0a ?_)))) | (refine gR 25 ?_ <;> (try refine q_e (by exact q_b (r:=by refine h1l ?_; first | rfl | (with_reducible assumption) | (decide; done) | omega)) ?_) <;> (try refine p_a (h:=h0a ?_))))
   refine ⟨?_⟩
   refine h3i (L' := eq ++ (⟨true, n13, .cells #[.string (mB8 P3.nm), .int .u32 P3.df, .slice r4 P3.rules.length r5, .int .u16 (P3.hd : Nat), .slice p4 P3.paths.length p5, .slice q4 P3.ports.length q5] 30 (0, 0)⟩ :: ⟨true, n7, .cells #[.int .i64 c.arg, .int .u8 (c.op : Nat), .int .u64 (c.mask : Nat), .int .u64 (c.val : Nat)] 39 (0, 0)⟩ :: (er ++ (ep ++ (ec ++ R8))))) (by intro w H; refine Sel.out ?_ H; (try dsimp only); (try simp only [List.cons_append, List.nil_append, List.append_assoc]); with_reducible repeat (first | exact Sel.refl _ | exact Sel.nil _ | apply Sel.appS | apply Sel.consS | (apply Sel.appP; (focus ((repeat (first | exact Pull.here _ | apply Pull.cons | apply Pull.app)); done))) | (apply Sel.consP; (focus ((repeat (first | exact PullB.here _ | apply PullB.cons | apply PullB.app)); done))) | apply Sel.drop | apply Sel.dropA)) ?_
   repeat' (first | refine h1d ?_ | refine h1h ?_ | (refine gR 26 (p_e (q_f h4m) (h:=p_e (by apply h2b (t:=28); exact rfl; (focus (repeat (first | exact fd0 | apply fdA))); kernel_rfl; kernel_rfl; exact rfl) (h:=q_m ?_))) <;> (try refine q_e (by exact h0v (t:=51) (fun vs => (match vs with | [(_, x0), (_, x1)] => [x0, x1] | _ => [])) rfl (fun w => by kernel_rfl)) ?_; (try simp only [Value.cells]); (try simp only [zzC, zzN])) <;> (try refine h0b ?_; (refine h0w (t:=28) (m:=1) (e:=51) (fun vs => (match vs with | [(_, x0)] => x0.cells.toList | _ => [])) rfl rfl (fun w => by kernel_rfl) ?_; intro nb hnb; (try simp only [Value.cells]); (try simp only [zzC, zzN]))) <;> (try refine h0b ?_; (apply h2k; exact rfl; exact Tryd.underlying28; exact inf_51_i; exact inf_51_z; exact inf_51_s; exact inf_51_b; exact rfl; exact rfl; exact rfl; (with_reducible assumption); exact fd0; exact Nat.le_of_ble_eq_true rfl; exact c_19; exact rfl; exact c_14; omega; exact c_9; exact rfl; exact c_6; exact c_3; intro vA eA hownA; obtain ⟨gA, capA, curA, rfl, rfl, hA1, hA2, hA3, hA4⟩ := hownA.some (by omega); (try simp only [zzC, zzN]))) <;> (try refine q_e (q_f h4m) ?_) <;> (try refine h0b ?_; (refine q_S ?_)) <;> (try refine h0a ?_)))
   have hb2 : BnR P3.g.rules P3.paths (P3.ports ++ [(80, n)]) := ⟨hbr.r, hbr.p, h3y hbr.q ⟨(by show 80 < 65536; omega), hn⟩, hbr.l1, hbr.l2, by rw [List.length_append, List.length_singleton]; omega⟩
   have e1 : (P3.ports ++ [(80, n)]).length = P3.ports.length + 1 := by rw [List.length_append, List.length_singleton]
   have hown2 : Own 51 2 (.slice (some ⟨gA, 0, none⟩) (P3.ports.length + 1) capA) (P3.ports.length + 1) (porC (P3.ports ++ [(80, n)])) [⟨true, gA, .cells curA 51 (0, 0)⟩] := by rw [porC_snoc]; exact hownA
   refine h1p ⟨bent P3 P3.g.rules P3.hd P3.paths (P3.ports ++ [(80, n)]), r4, p4, some ⟨gA, 0, none⟩, r5, p5, capA, _⟩ (bent_i hg3 hb2 hg3.hd elr rfl e1 hvr hgr hvp hown2) (by (focus (repeat (first | exact Sub.nil | refine Sub.cons rfl ?_)))) (by dsimp only [bent]; rw [e1, elr]; intro w H; refine Sel.out ?_ H; (try dsimp only); (try simp only [List.cons_append, List.nil_append, List.append_assoc]); with_reducible repeat (first | exact Sel.refl _ | exact Sel.nil _ | apply Sel.appS | apply Sel.consS | (apply Sel.appP; (focus ((repeat (first | exact Pull.here _ | apply Pull.cons | apply Pull.app)); done))) | (apply Sel.consP; (focus ((repeat (first | exact PullB.here _ | apply PullB.cons | apply PullB.app)); done))) | apply Sel.drop | apply Sel.dropA))
  ·repeat' (first | (refine h4o (id:=28) ?_) | refine h0t ?_ | refine h0e ?_ | refine h0o ?_ | refine h0l rfl ?_ | refine h0m rfl ?_ | (refine gR 15 (p_e (q_b (r:=by exact h0y q_o)) (h:=p_a (h:=h0a ?_)))) | (refine gR 17 (p_e (q_b (r:=by exact h0y q_o)) (h:=p_a (h:=h0a ?_)))) | (refine gR 19 (p_e (q_b (r:=by exact h0y q_o)) (h:=p_a (h:=h0a ?_)))) | (refine gR 21 (p_e (q_b (r:=by exact h0y q_o)) (h:=p_a (h:=h0a ?_)))) | (refine gR 23 (p_e (q_b (r:=by exact h0y q_o)) (h:=p_a (h:=h0a ?_)))) | (refine gR 25 (p_e (q_b (r:=by exact h0y q_o)) (h:=p_a (h:=h0a ?_)))) | (refine gR 27 ?_ <;> (try refine q_e (by exact q_b (r:=by refine h1l ?_; first | rfl | (with_reducible assumption) | (decide; done) | omega)) ?_) <;> (try refine p_a (h:=h0a ?_))))
   refine ⟨?_⟩
   have hsl : Sli (ep ++ (⟨true, n13, .cells #[.string (mB8 P3.nm), .int .u32 P3.df, .slice r4 P3.rules.length r5, .int .u16 (P3.hd : Nat), .slice p4 P3.paths.length p5, .slice q4 P3.ports.length q5] 30 (0, 0)⟩ :: ⟨true, n7, .cells #[.int .i64 c.arg, .int .u8 (c.op : Nat), .int .u64 (c.mask : Nat), .int .u64 (c.val : Nat)] 39 (0, 0)⟩ :: (er ++ (eq ++ (ec ++ R8))))) p4 P3.paths.length 2 (pthC P3.paths) := own_sla' hvp _
   have hone := pthC_one' P3.paths
   refine h3i (L' := ep ++ (⟨true, n13, .cells #[.string (mB8 P3.nm), .int .u32 P3.df, .slice r4 P3.rules.length r5, .int .u16 (P3.hd : Nat), .slice p4 P3.paths.length p5, .slice q4 P3.ports.length q5] 30 (0, 0)⟩ :: ⟨true, n7, .cells #[.int .i64 c.arg, .int .u8 (c.op : Nat), .int .u64 (c.mask : Nat), .int .u64 (c.val : Nat)] 39 (0, 0)⟩ :: (er ++ (eq ++ (ec ++ R8))))) (by intro w H; refine Sel.out ?_ H; (try dsimp only); (try simp only [List.cons_append, List.nil_append, List.append_assoc]); with_reducible repeat (first | exact Sel.refl _ | exact Sel.nil _ | apply Sel.appS | apply Sel.consS | (apply Sel.appP; (focus ((repeat (first | exact Pull.here _ | apply Pull.cons | apply Pull.app)); done))) | (apply Sel.consP; (focus ((repeat (first | exact PullB.here _ | apply PullB.cons | apply PullB.app)); done))) | apply Sel.drop | apply Sel.dropA)) ?_
   repeat' (refine gR 28 (p_e (q_f h3k) (h:=p_e (by apply h2b (t:=27); exact rfl; (focus (repeat (first | exact fd0 | apply fdA))); kernel_rfl; kernel_rfl; exact rfl) (h:=p_e (q_f h3k) (h:=q_e (by apply h2b (t:=27); exact rfl; (focus (repeat (first | exact fd0 | apply fdA))); kernel_rfl; kernel_rfl; exact rfl) ?_)))) <;> (try refine h0b ?_; (apply K1_appendSl; exact rfl; exact Tryd.underlying27; exact inf_49_i; exact inf_49_z; exact inf_49_s; exact inf_49_b; exact rfl; exact rfl; exact rfl; (with_reducible assumption); (with_reducible assumption); (with_reducible assumption); exact c_14; omega; (exact fun _ H => H); exact rfl; exact c_6; exact c_3; intro vA eA hownA)) <;> (try refine q_e (q_f h3k) ?_) <;> (try refine h0b ?_; fail) <;> (try refine h0a ?_))
   obtain ⟨aB, cB, rfl, -⟩ := hownA.sli []
   refine h3i (L' := ⟨true, n13, .cells #[.string (mB8 P3.nm), .int .u32 P3.df, .slice r4 P3.rules.length r5, .int .u16 (P3.hd : Nat), .slice p4 P3.paths.length p5, .slice q4 P3.ports.length q5] 30 (0, 0)⟩ :: ⟨true, n7, .cells #[.int .i64 c.arg, .int .u8 (c.op : Nat), .int .u64 (c.mask : Nat), .int .u64 (c.val : Nat)] 39 (0, 0)⟩ :: (eA ++ (er ++ (eq ++ (ec ++ R8))))) (by intro w H; refine Sel.out ?_ H; (try dsimp only); (try simp only [List.cons_append, List.nil_append, List.append_assoc]); with_reducible repeat (first | exact Sel.refl _ | exact Sel.nil _ | apply Sel.appS | apply Sel.consS | (apply Sel.appP; (focus ((repeat (first | exact Pull.here _ | apply Pull.cons | apply Pull.app)); done))) | (apply Sel.consP; (focus ((repeat (first | exact PullB.here _ | apply PullB.cons | apply PullB.app)); done))) | apply Sel.drop | apply Sel.dropA)) ?_
   ((try refine h0b ?_; (first | (apply K1_store1 (t:=27); exact rfl; exact rfl; (focus (repeat (first | exact fd0 | (with_reducible assumption) | apply fdA | apply fdS))); exact rfl; exact rfl; kernel_rfl; (focus (first | (with_reducible assumption) | exact Nat.le_of_ble_eq_true rfl | (simp; done) | (simp; omega) | omega)); exact c_22; (try simp only [List.set_cons_succ]); (try simp only [List.set_cons_zero])))) <;> (try refine h0a ?_))
   repeat' (first | refine h1d ?_ | refine h1h ?_)
   have hb2 : BnR P3.g.rules (P3.paths ++ P3.paths) P3.ports := ⟨hbr.r, (fun p hp => (List.mem_append.1 hp).elim (hbr.p p) (hbr.p p)), hbr.q, hbr.l1, by rw [List.length_append]; omega, hbr.l3⟩
   have e1 : (P3.paths ++ P3.paths).length = P3.paths.length + P3.paths.length := List.length_append
   have hown2 : Own 49 2 (.slice aB (P3.paths.length + P3.paths.length) cB) (P3.paths.length + P3.paths.length) (pthC (P3.paths ++ P3.paths)) eA := by rw [show pthC (P3.paths ++ P3.paths) = pthC P3.paths ++ pthC P3.paths from List.flatMap_append]; exact hownA
   refine h1p ⟨bent P3 P3.g.rules P3.hd (P3.paths ++ P3.paths) P3.ports, r4, aB, q4, r5, cB, q5, _⟩ (bent_i hg3 hb2 hg3.hd elr e1 rfl hvr hgr hown2 hvq) (by (focus (repeat (first | exact Sub.nil | refine Sub.cons rfl ?_)))) (by dsimp only [bent]; rw [e1, elr]; intro w H; refine Sel.out ?_ H; (try dsimp only); (try simp only [List.cons_append, List.nil_append, List.append_assoc]); with_reducible repeat (first | exact Sel.refl _ | exact Sel.nil _ | apply Sel.appS | apply Sel.consS | (apply Sel.appP; (focus ((repeat (first | exact Pull.here _ | apply Pull.cons | apply Pull.app)); done))) | (apply Sel.consP; (focus ((repeat (first | exact PullB.here _ | apply PullB.cons | apply PullB.app)); done))) | apply Sel.drop | apply Sel.dropA))
  ·repeat' (first | refine h0t ?_ | refine h0e ?_ | refine h0o ?_ | refine h0m rfl ?_ | (refine gR 15 (p_e (q_b (r:=by exact h0y q_o)) (h:=p_a (h:=h0a ?_)))) | (refine gR 17 (p_e (q_b (r:=by exact h0y q_o)) (h:=p_a (h:=h0a ?_)))) | (refine gR 19 (p_e (q_b (r:=by exact h0y q_o)) (h:=p_a (h:=h0a ?_)))) | (refine gR 21 (p_e (q_b (r:=by exact h0y q_o)) (h:=p_a (h:=h0a ?_)))) | (refine gR 23 (p_e (q_b (r:=by exact h0y q_o)) (h:=p_a (h:=h0a ?_)))) | (refine gR 25 (p_e (q_b (r:=by exact h0y q_o)) (h:=p_a (h:=h0a ?_)))) | (refine gR 27 (p_e (q_b (r:=by exact h0y q_o)) (h:=p_a (h:=h0a ?_)))) | (refine gR 9 (p_m (h:=q_e (q_b (r:=by apply h4i; omega; omega; exact c_4)) ?_)) <;> (try refine q_e (by apply h3c; exact rfl; (focus (apply h3a Tryd.underlying25 Tryd.underlying3; first | (refine IntWalk.i64_in _ ?_; omega) | (refine IntWalk.u8_in _ ?_; omega) | (refine IntWalk.u16_in _ ?_; omega) | (refine IntWalk.u32_in _ ?_; omega) | (refine IntWalk.u64_in _ ?_; omega) | (refine IntWalk.i32_in _ ?_; omega) | exact rfl))) ?_) <;> (try refine q_e (q_b (r:=by apply h1q; exact c_4; (focus (refine IntWalk.i64_in _ ?_; omega)))) ?_) <;> (try refine h0b ?_; fail) <;> (try refine h0b ?_; fail) <;> (try refine h0b ?_; fail) <;> (try refine h0a ?_)))
   obtain ⟨m, hm⟩ : ∃ m : Nat, m = 60 + n % 9 := ⟨_, rfl⟩
   rw [show (60 + (n : Int) % 9) = (m : Int) by omega]
   have hm9 : m ≤ 68 := by omega
   ((try refine h0b ?_; (first | (refine K1_makeSliceN (t:=24) (zc:=[Value.int .u32 0, Value.int .u32 0, Value.slice none 0 0]) rfl rfl rfl Tryd.underlying24 inf_47_i inf_47_z inf_47_s inf_47_b rfl ?_ ?_ ?_; omega; omega; intro nb hnb))) <;> (try refine h0b ?_; (first | (refine q_k (by first | (exact q_f h2n) | (exact q_g h2n)) ?_))) <;> (try refine h0b ?_; (first | (apply K1_store1 (t:=24); exact rfl; exact rfl; (focus (repeat (first | exact fd0 | (with_reducible assumption) | apply fdA | apply fdS))); exact rfl; exact rfl; kernel_rfl; (focus (first | (with_reducible assumption) | exact Nat.le_of_ble_eq_true rfl | (simp; done) | (simp; omega) | omega)); exact c_22; (try simp only [List.set_cons_succ]); (try simp only [List.set_cons_zero])))) <;> (try refine h0a ?_))
   repeat' (first | (refine h2g (id:=1) ?_) | refine h0t ?_ | refine h0e ?_ | (refine gR 10 (p_e (q_f h2n) (h:=p_e q_l (h:=p_e (by apply h0h; exact rfl; exact (fun _ => BigFrame.builtin_len ..); apply h0j Tryd.underlying24; exact h3d) (h:=p_m (h:=h0a ?_)))))))
   refine ⟨?_⟩
   obtain ⟨nbR, rfl⟩ : ∃ x, x = nb := ⟨_, rfl⟩
   have hz0 : (List.replicate m [Value.int .u32 0, .int .u32 0, .slice none 0 0]).flatten = zcs m 0 := by unfold zcs; simp
   rw [hz0]
   refine h0o ?_
   refine h2i (γ:=Nat) (fun i => i ≤ m) (fun i => m - i) (fun i => [(42, .int .i64 (i : Nat))]) [(5, _), (7, _), (11, _), (12, _), (13, _), (41, _)]
    (fun i => ⟨true, nbR, .cells (zcs m i).toArray 47 (0, 0)⟩ :: ⟨true, n13, .cells #[.string (mB8 P3.nm), .int .u32 P3.df, .slice (some ⟨nbR, 0, none⟩) m m, .int .u16 (P3.hd : Nat), .slice p4 P3.paths.length p5, .slice q4 P3.ports.length q5] 30 (0, 0)⟩ :: ⟨true, n7, .cells #[.int .i64 c.arg, .int .u8 (c.op : Nat), .int .u64 (c.mask : Nat), .int .u64 (c.val : Nat)] 39 (0, 0)⟩ :: (er ++ (ep ++ (eq ++ (ec ++ R8))))) 0 (.cons rfl (.cons rfl (.cons rfl (.cons rfl (.cons rfl (.cons rfl .nil)))))) (Nat.zero_le _) (by (focus (repeat (first | exact Sub.nil | refine Sub.cons rfl ?_)))) (by intro w H; refine Sel.out ?_ H; (try dsimp only); (try simp only [List.cons_append, List.nil_append, List.append_assoc]); with_reducible repeat (first | exact Sel.refl _ | exact Sel.nil _ | apply Sel.appS | apply Sel.consS | (apply Sel.appP; (focus ((repeat (first | exact Pull.here _ | apply Pull.cons | apply Pull.app)); done))) | (apply Sel.consP; (focus ((repeat (first | exact PullB.here _ | apply PullB.cons | apply PullB.app)); done))) | apply Sel.drop | apply Sel.dropA)) ?_
   intro i hi
   (try dsimp only)
   by_cases hlt : i < m
   ·have hzl := zcs_len hi
    have hzs := zcs_set hlt
    generalize zcs m i = zi at *
    repeat' (first | refine h0t ?_ | refine h0e ?_ | refine h1d ?_ | refine h1h ?_ | refine h0o ?_ | refine h1a ?_ | refine h0l rfl ?_ | (refine gR 11 (p_e (q_b (r:=by exact h0q q_o)) (h:=h0a ?_))) | (refine gR 12 (p_m (h:=p_a (h:=h0a ?_)))) | (refine gR 13 (p_e (q_f h2n) (h:=p_e q_l (h:=p_m (h:=p_e (by apply h0s; exact rfl; exact rfl; (focus (apply h2h Tryd.underlying24 sz_47; omega; omega; exact c_1))) (h:=q_e (q_g fo_47_1) ?_))))) <;> (try refine h0b ?_; (apply K1_store1 (t:=23); exact rfl; exact rfl; exact fd0; exact rfl; exact rfl; kernel_rfl; (focus (omega)); exact c_22; (try simp only [List.set_cons_succ]); (try simp only [List.set_cons_zero]))) <;> (try refine h0a ?_)) | (refine gR 14 ?_ <;> (try refine q_e (q_b (r:=by apply h1q; exact c_4; (focus (refine IntWalk.i64_in _ ?_; omega)))) ?_) <;> (try refine p_m (h:=h0a ?_))))
    rw [hzs]
    exact h1p (i + 1) ⟨by show i + 1 ≤ m; omega, by show m - (i + 1) < m - i; omega⟩ (by (focus (repeat (first | exact Sub.nil | refine Sub.cons rfl ?_)))) (fun _ H => H)
   obtain rfl : i = m := by omega
   repeat' (first | refine h0t ?_ | refine h0e ?_ | refine h1d ?_ | refine h1w ?_ | refine h1o ?_ | refine h1h ?_ | refine h1v ?_ | refine h2j ?_ | refine h0m rfl ?_ | (refine gR 11 (p_e (q_b (r:=by exact h0r q_o)) (h:=h0a ?_))))
   have hzl := zcs_len (Nat.le_refl i)
   have hb2 : BnR (List.replicate i ⟨0, 2147418112, []⟩) P3.paths P3.ports := ⟨(fun r hr => by rw [List.eq_of_mem_replicate hr]; exact ⟨⟨by dsimp only; omega, by dsimp only; omega, (fun x hx => by cases hx)⟩, Nat.zero_le _⟩), hbr.p, hbr.q, by rw [List.length_replicate]; omega, hbr.l2, hbr.l3⟩
   have e1 : (List.replicate i (⟨0, 2147418112, []⟩ : GRul)).length = i := List.length_replicate
   have hown2 : Own 47 3 (.slice (some ⟨nbR, 0, none⟩) i i) i (zcs i i) [⟨true, nbR, .cells (zcs i i).toArray 47 (0, 0)⟩] := own_mk (Nat.le_refl _) c_14 (by rw [List.size_toArray, hzl]) (by rw [← hzl]; exact List.take_length)
   refine h1p ⟨bent P3 (List.replicate i ⟨0, 2147418112, []⟩) P3.hd P3.paths P3.ports, some ⟨nbR, 0, none⟩, p4, q4, i, p5, q5, _⟩ (bent_i hg3 hb2 hg3.hd e1 rfl rfl hown2 (rulsG_rep ec i) hvp hvq) (by (focus (repeat (first | exact Sub.nil | refine Sub.cons rfl ?_)))) (by dsimp only [bent]; rw [e1]; intro w H; refine Sel.out ?_ H; (try dsimp only); (try simp only [List.cons_append, List.nil_append, List.append_assoc]); with_reducible repeat (first | exact Sel.refl _ | exact Sel.nil _ | apply Sel.appS | apply Sel.consS | (apply Sel.appP; (focus ((repeat (first | exact Pull.here _ | apply Pull.cons | apply Pull.app)); done))) | (apply Sel.consP; (focus ((repeat (first | exact PullB.here _ | apply PullB.cons | apply PullB.app)); done))) | apply Sel.drop | apply Sel.dropA))
 clear hrr hvr hvp hvq hgr hbr hg3 hf3 hl3 hp3 elr b1 b2 b3 hok3 hrn3 hi3 hw
 rintro ⟨G3, y1, y2, y3, z1, z2, z3, E3⟩ ⟨hB1, hB2, hB3, hB4⟩
 dsimp only at hB1 hB2 hB3 hB4 ⊢
 rw [hR8, hL9]
 repeat' (first | (refine h2g (id:=3) ?_) | refine h0t ?_ | refine h0e ?_ | (refine gR 29 (p_e (by apply h1r (t:=30); exact rfl; (focus (repeat (first | exact fd0 | apply fdA | apply fdS))); kernel_rfl; kernel_rfl; exact sz_30; exact Nat.le_of_ble_eq_true rfl; exact c_19) (h:=p_e (by apply h1r (t:=30); exact rfl; (focus (repeat (first | exact fd0 | apply fdA | apply fdS))); kernel_rfl; kernel_rfl; exact sz_30; exact Nat.le_of_ble_eq_true rfl; exact c_19) (h:=q_e (q_L sz_30) ?_))) <;> (try refine h0b ?_; (refine h0w (t:=52) (m:=3) (e:=30) (fun vs => (match vs with | [(_, x0), (_, x1), (_, x2)] => x0.cells.toList ++ (x1.cells.toList ++ x2.cells.toList) | _ => [])) rfl rfl (fun w => by kernel_rfl) ?_; intro nb hnb; (try simp only [Value.cells]); (try simp only [zzC, zzN]))) <;> (try refine p_e (by apply h0h; exact rfl; exact (fun _ => BigFrame.builtin_len ..); apply h0j Tryd.underlying52; exact h3d) (h:=p_m (h:=h0a ?_)))))
 refine ⟨?_⟩
 obtain ⟨nbS, rfl⟩ : ∃ x, x = nb := ⟨_, rfl⟩
 clear hL0 hL9 hR8
 obtain ⟨cs, hcs⟩ : ∃ x : Array Value, x = #[.string (mB8 P.nm), .int .u32 P.df, .slice ra P.rules.length rc, .int .u16 (P.hd : Nat), .slice pa P.paths.length pc, .slice qa P.ports.length qc, .string (mB8 P2.nm), .int .u32 P2.df, .slice r1 P2.rules.length r3, .int .u16 (P2.hd : Nat), .slice p1 P2.paths.length p3, .slice q1 P2.ports.length q3, .string (mB8 G3.nm), .int .u32 G3.df, .slice y1 G3.rules.length z1, .int .u16 (G3.hd : Nat), .slice y2 G3.paths.length z2, .slice y3 G3.ports.length z3] := ⟨_, rfl⟩
 obtain ⟨EB, hEB⟩ : ∃ M : List Blk, M = E3 ++ E := ⟨_, rfl⟩
 have hz3 : cs.size = 18 := by rw [hcs]; rfl
 have hck2 : chkG P2.g = 0 := pol_check hok2
 have el2 : P2.g.rules.length = P2.rules.length := List.length_map ..
 have hel : ∀ k, k < 3 → ∃ G r1 p1 q1 r3 p3 q3, QuD (EB ++ L) cs k G r1 p1 q1 r3 p3 q3 := by
  intro k hk
  obtain rfl | rfl | rfl : k = 0 ∨ k = 1 ∨ k = 2 := by omega
  ·exact ⟨P, ra, pa, qa, rc, pc, qc, ⟨by rw [hcs]; rfl, hG, ⟨fun r hr => Nat.le_trans (hfew.conds r hr) (by omega), Nat.le_trans hfew.l1 (by omega), Nat.le_trans hfew.l2 (by omega), Nat.le_trans hfew.l3 (by omega)⟩, fun p hp => Nat.le_trans (hfew.path p hp) (by omega), hPS.upA EB⟩⟩
  ·refine ⟨P2.g, r1, p1, q1, r3, p3, q3, ⟨by rw [hcs, el2]; rfl, pol_gok hok2 hrn2, pol_fewN hok2, fun p hp => Nat.le_trans (wP_ok (hok2.paths p hp).1).2 (by omega), ?_⟩⟩
   rw [el2]
   exact hS2.mono (hEB ▸ SubB.app' E3 E L)
  ·exact ⟨G3, y1, y2, y3, z1, z2, z3, ⟨by rw [hcs]; rfl, hB1, hB2, hB3, hB4.mono (hEB ▸ SubB.app3 E3 E L)⟩⟩
 have hSq : PolS (EB ++ L) P2.g (.slice r1 P2.rules.length r3) (.slice p1 P2.paths.length p3) (.slice q1 P2.ports.length q3) := hS2.mono (hEB ▸ SubB.app' E3 E L)
 refine h0o ?_
 refine h2i (γ:=Nat × Nat × List Blk) (fun g => g.1 ≤ 3 ∧ g.2.1 ≤ 1000 * g.1 ∧ TbE ct g.2.1 L g.2.2) (fun g => 3 - g.1) (fun g => [(116, .int .i64 (g.1 : Nat))]) [(5, _), (7, _), (11, _), (12, _), (114, _), (115, _)]
  (fun g => ⟨true, nbS, .cells cs 30 (0, 0)⟩ :: ⟨true, n12, .cells #[.string (mB8 P2.nm), .int .u32 P2.df, .slice r1 P2.rules.length r3, .int .u16 (P2.hd : Nat), .slice p1 P2.paths.length p3, .slice q1 P2.ports.length q3] 30 (0, 0)⟩ :: ⟨true, n7, .cells #[.int .i64 c.arg, .int .u8 (c.op : Nat), .int .u64 (c.mask : Nat), .int .u64 (c.val : Nat)] 39 (0, 0)⟩ :: ⟨true, n5, .cells #[.string (mB8 P.nm), .int .u32 P.df, .slice ra P.rules.length rc, .int .u16 (P.hd : Nat), .slice pa P.paths.length pc, .slice qa P.ports.length qc] 30 (0, 0)⟩ :: (EB ++ g.2.2)) (0, 0, tbS ct 0 0 0 ++ L) (.cons rfl (.cons rfl (.cons rfl (.cons rfl (.cons rfl (.cons rfl .nil)))))) ⟨Nat.zero_le _, Nat.zero_le _, ⟨0, 0, rfl⟩⟩ (by (focus (repeat (first | exact Sub.nil | refine Sub.cons rfl ?_)))) (by rw [hcs, hEB]; show ∀ w, HP S w0 w _ → HP S w0 w (_ :: _ :: _ :: _ :: ((E3 ++ E) ++ (tbl0 ct 0 0 :: L))); intro w H; refine Sel.out ?_ H; (try dsimp only); (try simp only [List.cons_append, List.nil_append, List.append_assoc]); with_reducible repeat (first | exact Sel.refl _ | exact Sel.nil _ | apply Sel.appS | apply Sel.consS | (apply Sel.appP; (focus ((repeat (first | exact Pull.here _ | apply Pull.cons | apply Pull.app)); done))) | (apply Sel.consP; (focus ((repeat (first | exact PullB.here _ | apply PullB.cons | apply PullB.app)); done))) | apply Sel.drop | apply Sel.dropA)) ?_
 clear hcs hEB hS2 hB1 hB2 hB3 hB4 hPS hS hfew
 rintro ⟨k, m, M⟩ ⟨hk, hm, hM⟩
 dsimp only at hk hm hM ⊢
 by_cases hlt : k < 3
 case neg =>
  have h1 := fun (L' : List Blk) => condchk_c (S:=S) (w0:=w0) (L:=L') c hc
  have h2 := fun (L' : List Blk) => refcond_c (S:=S) (w0:=w0) (L:=L') c.arg c.op c.mask c.val hc.op
  have h3 := fun (L' : List Blk) => rcond_c (S:=S) (w0:=w0) (L:=L') c hc
  dsimp only [GCnd.cells, GCnd.rc] at h1 h2 h3
  generalize chkC c = ce at *
  have hkc := fun (n : Nat) (M L' B : List Blk) => check_w (S:=S) (w0:=w0) (X:=EB ++ L) (L:=L') (B:=B) (L0:=L) (M:=M) (ct:=ct) (n:=n) P2.g (pol_gok hok2 hrn2) (pol_fewN hok2).l1 hSq
  rw [hck2] at hkc
  dsimp only [polG] at hkc
  simp only [el2, show ((0 : Nat) : Int) = 0 from rfl, show P2.g.nm = P2.nm from rfl, show P2.g.df = P2.df from rfl, show P2.g.hd = P2.hd from rfl, show P2.g.paths = P2.paths from rfl, show P2.g.ports = P2.ports from rfl] at hkc
  have hcn := fun (L' : List Blk) => checkn_c (S:=S) (w0:=w0) (L:=L') (mB8 P.nm) P.df (P.hd : Nat) ra pa qa P.rules.length rc P.paths.length pc P.ports.length qc
  repeat' (first | refine h0t ?_ | refine h0e ?_ | refine h1w ?_ | refine h1o ?_ | refine h1v ?_ | refine h2j ?_ | refine h1e ?_ | refine h0m rfl ?_ | (refine gR 30 (p_e (q_b (r:=by exact h0r q_o)) (h:=h0a ?_))) | ((refine G_regionHp (pre:=[_, _, _, _]) (id:=45) (m:=18) rfl (by kernel_rfl) rfl (q_t 0 (e:=c_5) (x:=by exact q_L sz_30) (h:=q_t 1 (e:=c_5) (x:=by exact h0g rfl) (h:=?_)))) <;> (try refine q_r 2 ?_; ((refine q_c 8 (c:=by apply hkc; (with_reducible assumption); (focus (omega)); (focus ((try simp only [zzC, zzN]); (repeat' (first | (with_reducible exact Tl.one _ _) | (with_reducible apply Tl.cons))))); (focus ((try simp only [zzC, zzN, List.append_assoc]); (repeat' (first | (with_reducible exact SubB.refl _) | (with_reducible apply SubB.up)))))) (h:=?_); rintro _ _ ⟨n4, M4, rfl, hn4, hM4, hLM, rfl⟩; (try simp only [zzE, zzF])); (try simp only [zzC, zzN, List.append_assoc]); (try simp only [List.nil_append])); refine h2a c_5 ?_) <;> (try refine q_t 3 (e:=c_5) (x:=by exact q_b (r:=by refine h1l ?_; first | rfl | (with_reducible assumption) | (decide; done) | omega)) (h:=?_)) <;> (try refine q_t 4 (e:=c_5) (x:=by exact h0g rfl) (h:=q_T 5 (e:=c_5) (x:=by exact q_L sz_39) (h:=q_T 7 (e:=c_5) (x:=by exact q_L sz_39) (h:=?_)))) <;> (try refine q_r 6 ?_; (refine h0f rfl rfl rfl ?_; (refine q_c 11 (c:=by apply h1) (h:=?_); rintro _ _ ⟨rfl, rfl⟩; (try simp only [zzE, zzF]))); refine h2a c_5 ?_) <;> (try refine q_r 8 ?_; (refine h0f rfl rfl rfl ?_; (refine q_c 13 (c:=by apply h2) (h:=?_); rintro _ _ ⟨rfl, rfl⟩; (try simp only [zzE, zzF]))); refine h2a c_5 ?_) <;> (try refine q_r 9 ?_; (refine h0f rfl rfl rfl ?_; (refine q_c 12 (c:=by apply h3) (h:=?_); rintro _ _ ⟨rfl, rfl⟩; (try simp only [zzE, zzF]))); refine h2a c_5 ?_) <;> (try refine q_T 10 (e:=c_5) (x:=by exact q_b (r:=by refine h1l ?_; first | rfl | (with_reducible assumption) | (decide; done) | omega)) (h:=?_)) <;> (try refine q_t 11 (e:=c_5) (x:=by exact h1i rfl rfl) (h:=q_t 12 (e:=c_5) (x:=by exact h0g rfl) (h:=q_T 13 (e:=c_5) (x:=by exact q_L sz_30) (h:=?_)))) <;> (try refine q_r 14 ?_; (refine h0f rfl rfl rfl ?_; (refine q_c 8 (c:=by apply hcn) (h:=?_); rintro _ _ ⟨rfl, rfl⟩; (try simp only [zzE, zzF]))); refine h2a c_5 ?_) <;> (try refine q_T 15 (e:=c_5) (x:=by exact q_b (r:=by refine h1l ?_; first | rfl | (with_reducible assumption) | (decide; done) | omega)) (h:=?_)) <;> (try refine q_t 16 (e:=c_5) (x:=by exact h1i rfl rfl) (h:=q_t 17 (e:=c_5) (x:=by exact h1j rfl) (h:=h2e (by kernel_rfl) ?_)))))
  (refine h0z Tryd.results3 (.tmp rfl .nil) ?_)
  obtain ⟨u1, u2, rfl⟩ := hM4
  exact ⟨_, ⟨rfl, rfl⟩, fun w H => H.sub (by repeat (first | exact List.Sublist.refl _ | refine List.Sublist.cons _ ?_ | refine List.Sublist.trans ?_ (List.sublist_append_right _ _)))⟩
 obtain ⟨G, x1, x2, x3, w1, w2, w3, hat, hGok, hGf, hGp, hGS⟩ := hel k hlt
 have hg1 := hGf.l1
 have hkc := fun (n : Nat) (M L' B : List Blk) => check_w (S:=S) (w0:=w0) (X:=EB ++ L) (L:=L') (B:=B) (L0:=L) (M:=M) (ct:=ct) (n:=n) G hGok hg1 hGS
 have hrf := fun (x : Blk) (R : List Blk) => ref_w (S:=S) (w0:=w0) (x:=x) (R:=R) (X:=EB ++ L) G hGok hGf hGS
 have hrk := fun (L' X : List Blk) (vr vp vq : Value) => rchk_w (S:=S) (w0:=w0) (L:=L') (X:=X) G hGok hGp (vr:=vr) (vp:=vp) (vq:=vq)
 dsimp only [polG, refC] at hkc hrf hrk
 obtain ⟨⟨ga, gc, gz, e1, hrs, hrg⟩, -, -, -, -, -⟩ := id hGS
 injection e1 with e1 e2 e3
 subst e1
 repeat' (first | (refine h4o (id:=32) ?_) | refine h0t ?_ | refine h0e ?_ | refine h0o ?_ | refine h1a ?_ | refine h0l rfl ?_ | (refine gR 30 (p_e (q_b (r:=by exact h0q q_o)) (h:=h0a ?_))) | (refine gR 31 (p_e (by apply h0s; exact rfl; exact rfl; (focus (apply h2h Tryd.underlying52 sz_30; omega; omega; exact c_1))) (h:=q_e (by apply h1r (t:=30); exact rfl; exact fd0; kernel_rfl; kernel_rfl; exact sz_30; (focus (omega)); (with_reducible assumption)) ?_)) <;> (try refine h0b ?_; (refine h1b (t:=30) rfl Tryd.zeroValue30 ?_; intro nb hnb; (try simp only [Value.cells]))) <;> (try refine h0b ?_; (refine q_W ?_)) <;> (try refine h0a ?_)))
 refine ⟨?_⟩
 obtain ⟨n16, rfl⟩ : ∃ x, x = nb := ⟨_, rfl⟩
 clear hel hat
 have hgru := hGok.rules
 generalize chkG G = ck at *
 repeat' (first | (refine h2g (id:=5) ?_) | refine h0t ?_ | refine h0e ?_ | refine h1a ?_ | refine h0m rfl ?_ | ((refine G_regionHp (pre:=[_]) (id:=32) (m:=7) rfl (by kernel_rfl) rfl (q_t 0 (e:=c_5) (x:=by exact q_L sz_30) (h:=q_t 1 (e:=c_5) (x:=by exact h0g rfl) (h:=q_t 3 (e:=c_5) (x:=by exact q_L sz_30) (h:=?_))))) <;> (try refine q_r 2 ?_; ((refine q_c 8 (c:=by apply hkc; (with_reducible assumption); (focus (omega)); (focus ((try simp only [zzC, zzN]); (repeat' (first | (with_reducible exact Tl.one _ _) | (with_reducible apply Tl.cons))))); (focus ((try simp only [zzC, zzN, List.append_assoc]); (repeat' (first | (with_reducible exact SubB.refl _) | (with_reducible apply SubB.up)))))) (h:=?_); rintro _ _ ⟨n4, M4, rfl, hn4, hM4, hLM, rfl⟩; (try simp only [zzE, zzF])); (try simp only [zzC, zzN, List.append_assoc]); (try simp only [List.nil_append])); refine h2a c_5 ?_) <;> (try refine q_r 4 ?_; (refine q_c 10 (c:=by apply hrf; (focus ((try simp only [zzC, zzN, List.append_assoc]); (repeat' (first | (with_reducible assumption) | (with_reducible apply SubB.app) | (with_reducible apply SubB.up)))))) (h:=?_); rintro _ _ ⟨s1, s2, s3, t1, t2, t3, D, rfl, hD, rfl⟩; (try simp only [zzE, zzF])); refine h2a c_5 ?_) <;> (try refine q_r 5 ?_; (refine q_c 9 (c:=by apply hrk; (with_reducible assumption); (focus ((try simp only [zzC, zzN, List.append_assoc]); (repeat' (first | (with_reducible exact SubB.left _ _) | (with_reducible apply SubB.up)))))) (h:=?_); rintro _ _ ⟨rfl, rfl⟩; (try simp only [zzE, zzF])); refine h2a c_5 ?_) <;> (try refine q_t 6 (e:=c_5) (x:=by exact q_b (r:=by refine h1g ?_; first | rfl | (with_reducible assumption) | (decide; done) | omega)) (h:=?_)) <;> (try refine h2e (by kernel_rfl) ?_)) | (refine gR 34 (p_e (q_f h2n) (h:=p_e q_l (h:=p_e (by apply h0h; exact rfl; exact (fun _ => BigFrame.builtin_len ..); apply h0j Tryd.underlying24; exact h3d) (h:=p_m (h:=h0a ?_)))))))
 refine ⟨?_⟩
 clear hkc hrf hrk hD hM hGp hGf
 obtain ⟨B9, hB9⟩ : ∃ x : List Blk, x = ⟨true, nbS, .cells cs 30 (0, 0)⟩ :: ⟨true, n12, .cells #[.string (mB8 P2.nm), .int .u32 P2.df, .slice r1 P2.rules.length r3, .int .u16 (P2.hd : Nat), .slice p1 P2.paths.length p3, .slice q1 P2.ports.length q3] 30 (0, 0)⟩ :: ⟨true, n7, .cells #[.int .i64 c.arg, .int .u8 (c.op : Nat), .int .u64 (c.mask : Nat), .int .u64 (c.val : Nat)] 39 (0, 0)⟩ :: ⟨true, n5, .cells #[.string (mB8 P.nm), .int .u32 P.df, .slice ra P.rules.length rc, .int .u16 (P.hd : Nat), .slice pa P.paths.length pc, .slice qa P.ports.length qc] 30 (0, 0)⟩ :: (EB ++ M4) := ⟨_, rfl⟩
 have hs9 : SubB (EB ++ L) B9 := hB9 ▸ ((((hLM.app).up).up).up).up
 have hrs9 := hrs.mono hs9
 refine h3i (L' := B9) (by rw [hB9]; intro w H; refine Sel.out ?_ H; (try dsimp only); (try simp only [List.cons_append, List.nil_append, List.append_assoc]); with_reducible repeat (first | exact Sel.refl _ | exact Sel.nil _ | apply Sel.appS | apply Sel.consS | (apply Sel.appP; (focus ((repeat (first | exact Pull.here _ | apply Pull.cons | apply Pull.app)); done))) | (apply Sel.consP; (focus ((repeat (first | exact PullB.here _ | apply PullB.cons | apply PullB.app)); done))) | apply Sel.drop | apply Sel.dropA)) ?_
 refine h0o ?_
 refine h2i (γ:=Nat) (fun j => j ≤ G.rules.length) (fun j => G.rules.length - j) (fun j => [(130, .int .i64 (j : Nat))]) [(5, _), (7, _), (11, _), (12, _), (114, _), (115, _), (116, _), (128, _), (129, _)]
  (fun _ => B9) 0 (.cons rfl (.cons rfl (.cons rfl (.cons rfl (.cons rfl (.cons rfl (.cons rfl (.cons rfl (.cons rfl .nil))))))))) (Nat.zero_le _) (by (focus (repeat (first | exact Sub.nil | refine Sub.cons rfl ?_)))) (fun _ H => H) ?_
 intro j hj
 (try dsimp only)
 by_cases hltj : j < G.rules.length
 case neg =>
  obtain rfl : j = G.rules.length := by omega
  repeat' (first | refine h0t ?_ | refine h0e ?_ | refine h1d ?_ | refine h1w ?_ | refine h1o ?_ | refine h1h ?_ | refine h1v ?_ | refine h2j ?_ | refine h0m rfl ?_ | (refine gR 35 (p_e (q_b (r:=by exact h0r q_o)) (h:=h0a ?_))) | (refine gR 44 ?_ <;> (try refine q_e (q_b (r:=by apply h1q; exact c_4; (focus (refine IntWalk.i64_in _ ?_; omega)))) ?_) <;> (try refine p_m (h:=h0a ?_))))
  exact h1p (k + 1, n4, M4) ⟨⟨by show k + 1 ≤ 3; omega, by dsimp only; omega, hM4⟩, by show 3 - (k + 1) < 3 - k; omega⟩ (by (focus (repeat (first | exact Sub.nil | refine Sub.cons rfl ?_)))) (by rw [hB9]; exact fun _ H => H)
 obtain ⟨i5, q5', b5, off5, cs5, T5, fr5, rfl, hi5, hsz5, hx5⟩ := hrs9.elem hltj
 obtain ⟨v5, hv5, hc5⟩ := hrg.at_ j hltj
 rw [hv5] at hx5
 clear hv5
 obtain ⟨ca, cc, rfl, hcl, hcm⟩ := hc5
 unfold maxLen at hcm
 have hrk := hgru _ (List.getElem_mem hltj)
 generalize G.rules[j] = r at *
 obtain ⟨num, act, conds⟩ := r
 obtain ⟨k1, k2, k3⟩ := hrk
 dsimp only at *
 repeat' (first | (refine h2g (id:=7) ?_) | refine h0t ?_ | refine h0e ?_ | refine h0o ?_ | refine h1a ?_ | refine h0l rfl ?_ | (refine gR 35 (p_e (q_b (r:=by exact h0q q_o)) (h:=h0a ?_))) | (refine gR 36 (p_e (by apply h0s; exact rfl; exact rfl; (focus (apply h2h Tryd.underlying24 sz_47; omega; omega; exact c_1))) (h:=q_e (by apply h1r (t:=47); exact rfl; exact c_13; kernel_rfl; kernel_rfl; exact sz_47; (with_reducible assumption); (with_reducible assumption)) ?_)) <;> (try refine h0b ?_; (refine h1b (t:=47) rfl Tryd.zeroValue47 ?_; intro nb hnb; (try simp only [Value.cells]))) <;> (try refine h0b ?_; (refine q_W ?_)) <;> (try refine h0a ?_)) | (refine gR 37 (p_e (q_f h3w) (h:=p_e q_l (h:=p_e (by apply h0h; exact rfl; exact (fun _ => BigFrame.builtin_len ..); apply h0j Tryd.underlying45; exact h3d) (h:=p_m (h:=h0a ?_)))))))
 refine ⟨?_⟩
 have hcl9 := hcl.mono hs9
 refine h0o ?_
 refine h2i (γ:=Nat) (fun i => i ≤ conds.length) (fun i => conds.length - i) (fun i => [(137, .int .i64 (i : Nat))]) [(5, _), (7, _), (11, _), (12, _), (114, _), (115, _), (116, _), (128, _), (129, _), (130, _), (135, _), (136, _)]
  (fun _ => B9) 0 (.cons rfl (.cons rfl (.cons rfl (.cons rfl (.cons rfl (.cons rfl (.cons rfl (.cons rfl (.cons rfl (.cons rfl (.cons rfl (.cons rfl .nil)))))))))))) (Nat.zero_le _) (by (focus (repeat (first | exact Sub.nil | refine Sub.cons rfl ?_)))) (fun _ H => H.tail) ?_
 intro i hi
 (try dsimp only)
 by_cases hlti : i < conds.length
 case neg =>
  obtain rfl : i = conds.length := by omega
  repeat' (first | refine h0t ?_ | refine h0e ?_ | refine h1d ?_ | refine h1w ?_ | refine h1o ?_ | refine h1h ?_ | refine h1v ?_ | refine h2j ?_ | refine h0m rfl ?_ | (refine gR 38 (p_e (q_b (r:=by exact h0r q_o)) (h:=h0a ?_))) | (refine gR 43 ?_ <;> (try refine q_e (q_b (r:=by apply h1q; exact c_4; (focus (refine IntWalk.i64_in _ ?_; omega)))) ?_) <;> (try refine p_m (h:=h0a ?_))))
  exact h1p (j + 1) ⟨by show j + 1 ≤ _; omega, by show _ - (j + 1) < _ - j; omega⟩ (by (focus (repeat (first | exact Sub.nil | refine Sub.cons rfl ?_)))) (fun _ H => H)
 obtain ⟨i6, q6, b6, off6, cs6, T6, fr6, rfl, hi6, hsz6, hx6⟩ := hcl9.elem hlti
 rw [gcC_at _ _ hlti] at hx6
 have hco := k3 _ (List.getElem_mem hlti)
 generalize conds[i] = d at *
 have h1 := fun (L' : List Blk) => condchk_c (S:=S) (w0:=w0) (L:=L') d hco
 have h2 := fun (L' : List Blk) => refcond_c (S:=S) (w0:=w0) (L:=L') d.arg d.op d.mask d.val hco.op
 have h3 := fun (L' : List Blk) => rcond_c (S:=S) (w0:=w0) (L:=L') d hco
 dsimp only [GCnd.cells, GCnd.rc] at h1 h2 h3 hx6
 generalize chkC d = ce at *
 repeat' (first | refine h0t ?_ | refine h0e ?_ | refine h1d ?_ | refine h1h ?_ | refine h0o ?_ | refine h1a ?_ | refine h0l rfl ?_ | refine h0m rfl ?_ | (refine gR 38 (p_e (q_b (r:=by exact h0q q_o)) (h:=h0a ?_))) | (refine gR 39 (p_e (by apply h0s; exact rfl; exact rfl; (focus (apply h2h Tryd.underlying45 sz_39; omega; omega; exact c_1))) (h:=q_e (by apply h1r (t:=39); exact rfl; exact c_13; kernel_rfl; kernel_rfl; exact sz_39; (with_reducible assumption); (with_reducible assumption)) ?_)) <;> (try refine h0b ?_; (refine h1b (t:=39) rfl Tryd.zeroValue39 ?_; intro nb hnb; (try simp only [Value.cells]))) <;> (try refine h0b ?_; (refine q_W ?_)) <;> (try refine h0a ?_)) | ((refine h2s (id:=40) (m:=6) (by kernel_rfl) rfl (q_u 0 (x:=by exact q_L sz_39) (h:=q_u 2 (x:=by exact q_L sz_39) (h:=?_)))) <;> (try refine q_r 1 ?_; (refine q_c 11 (c:=by apply h1) (h:=?_); rintro _ _ ⟨rfl, rfl⟩; (try simp only [zzE, zzF])); refine h2a (fun _ H => H) ?_) <;> (try refine q_r 3 ?_; (refine q_c 13 (c:=by apply h2) (h:=?_); rintro _ _ ⟨rfl, rfl⟩; (try simp only [zzE, zzF])); refine h2a (fun _ H => H) ?_) <;> (try refine q_r 4 ?_; (refine q_c 12 (c:=by apply h3) (h:=?_); rintro _ _ ⟨rfl, rfl⟩; (try simp only [zzE, zzF])); refine h2a (fun _ H => H) ?_) <;> (try refine q_u 5 (x:=by exact q_b (r:=by refine h1g ?_; first | rfl | (with_reducible assumption) | (decide; done) | omega)) (h:=?_)) <;> (try refine h2e (by kernel_rfl) ?_)) | (refine gR 42 ?_ <;> (try refine q_e (q_b (r:=by apply h1q; exact c_4; (focus (refine IntWalk.i64_in _ ?_; omega)))) ?_) <;> (try refine p_m (h:=h0a ?_))))
 exact h1p (i + 1) ⟨by show i + 1 ≤ _; omega, by show _ - (i + 1) < _ - i; omega⟩ (by (focus (repeat (first | exact Sub.nil | refine Sub.cons rfl ?_)))) (by intro w H; refine Sel.out ?_ H; (try dsimp only); (try simp only [List.cons_append, List.nil_append, List.append_assoc]); with_reducible repeat (first | exact Sel.refl _ | exact Sel.nil _ | apply Sel.appS | apply Sel.consS | (apply Sel.appP; (focus ((repeat (first | exact Pull.here _ | apply Pull.cons | apply Pull.app)); done))) | (apply Sel.consP; (focus ((repeat (first | exact PullB.here _ | apply PullB.cons | apply PullB.app)); done))) | apply Sel.drop | apply Sel.dropA))
theorem policyChecks_i {S w0 L} (P : GPol) (hP : GPolR P) (vr vp vq : Value) (hPS : PolS L P vr vp vq) (s : SPol) (hs : s.ok) (svr svp svg svq : Value) (hS : SPolS L s svr svp svg svq) (c : GCnd) (hc : c.ok) (what : Int) (hw : 0 ≤ what ∧ what < 256) (n : Int) (hn : 0 ≤ n ∧ n < 65536) :
  Fn Tryd.prog 3 #[.agg (polG P vr vp vq).toArray, .agg #[.int .u8 s.nm, .int .u8 s.df, .int .u8 s.en, svr, .int .u16 (s.hd : Nat), svp, svg, svq], .agg c.cells.toArray, .int .u8 what, .int .u16 n] S w0 L fun v L' => v = .bool true ∧ L = L' := by
 obtain ⟨m, rfl⟩ := Int.eq_ofNat_of_zero_le hn.1
 exact policyChecks_c P hP vr vp vq hPS s hs svr svp svg svq hS c hc what hw m (by omega)
theorem wf_u8 {a : Int} (h : (Lit.int .u8 a).wf = true) : 0 ≤ a ∧ a < 256 := by
 simp [Lit.wf, IntKind.min, IntKind.max, IntKind.signed, IntKind.bits] at h; omega
theorem wf_u16 {a : Int} (h : (Lit.int .u16 a).wf = true) : 0 ≤ a ∧ a < 65536 := by
 simp [Lit.wf, IntKind.min, IntKind.max, IntKind.signed, IntKind.bits] at h; omega
theorem wf_u32 {a : Int} (h : (Lit.int .u32 a).wf = true) : 0 ≤ a ∧ a < 4294967296 := by
 simp [Lit.wf, IntKind.min, IntKind.max, IntKind.signed, IntKind.bits] at h; omega
theorem wf_u64 {a : Int} (h : (Lit.int .u64 a).wf = true) : 0 ≤ a ∧ a < 18446744073709551616 := by
 simp [Lit.wf, IntKind.min, IntKind.max, IntKind.signed, IntKind.bits] at h; omega
theorem wf_i64 {a : Int} (h : (Lit.int .i64 a).wf = true) : -9223372036854775808 ≤ a ∧ a < 9223372036854775808 := by
 simp [Lit.wf, IntKind.min, IntKind.max, IntKind.signed, IntKind.bits] at h; omega
theorem HP.read {w : World} {L : List Blk} (h : ∀ p ∈ L, p.wr = false ∧ w.heap[p.b]? = some p.o) : HP [] w w L :=
 ⟨rfl, rfl, rfl, Nat.le_refl _, fun _ _ _ => rfl, fun p hp => (h p hp).2, fun p hp hw => by simp [(h p hp).1] at hw,
  List.pairwise_of_forall_mem_list fun p hp q hq hw => by rcases hw with hw | hw <;> simp [(h p hp).1, (h q hq).1] at hw⟩
theorem mapM_some {α β : Type} {f : α → Option β} : ∀ {l : List α} {ys : List β}, l.mapM f = some ys → ∀ (i : Nat) (x : α), l[i]? = some x → ∃ y, f x = some y ∧ ys[i]? = some y
 | [], _, _, i, x, hx => by simp at hx
 | a :: l, ys, h, i, x, hx => by
  simp only [List.mapM_cons, Option.pure_def, Option.bind_eq_bind, Option.bind_eq_some_iff] at h
  obtain ⟨y, hy, ys', hys, e⟩ := h
  obtain rfl := Option.some.inj e
  cases i with
  | zero => simp at hx; subst hx; exact ⟨y, hy, by simp⟩
  | succ i => simp at hx; simpa using mapM_some hys i x hx
theorem mapM_len {α β : Type} {f : α → Option β} : ∀ {l : List α} {ys : List β}, l.mapM f = some ys → ys.length = l.length
 | [], ys, h => by simp at h; simp [h]
 | a :: l, ys, h => by
  simp only [List.mapM_cons, Option.pure_def, Option.bind_eq_bind, Option.bind_eq_some_iff] at h
  obtain ⟨y, hy, ys', hys, e⟩ := h
  obtain rfl := Option.some.inj e
  simp [mapM_len hys]
section
variable {H : Type} {enc : TypeId × Value → H} {P : Program} {w : World} {base : Nat} {spare : Nat → Bool} {held : Bool}
theorem h3t {t : TypeId} {fs : Array Field} {fuel : Nat} {cs : List Value} {x : DataW H × List MemPlace} (ht : P.underlying t = some (.struct fs))
  (h : DataW.trod enc P w base spare held fuel t cs = some x) :
  ∃ n, fuel = n + 1 ∧ cs.length = P.cellsOf t ∧ ∀ (i : Nat) (f : Field), fs.toList[i]? = some f → ∃ y, DataW.trod enc P w base spare held n f.type ((cs.drop f.offset).take (P.cellsOf f.type)) = some y := by
 cases fuel with
 | zero => simp [DataW.trod] at h
 | succ n =>
  refine ⟨n, rfl, ?_⟩
  unfold DataW.trod at h
  simp only [ht] at h
  split at h
  ·rename_i hlen
   simp only [Option.map_eq_some_iff] at h
   obtain ⟨xs, hxs, _⟩ := h
   exact ⟨hlen, fun i f hf => let ⟨y, hy, _⟩ := mapM_some hxs i f hf; ⟨y, hy⟩⟩
  ·simp at h
theorem trod_slice {t e : TypeId} {fuel : Nat} {a : Option Addr} {len cap : Nat} {x : DataW H × List MemPlace} (ht : P.underlying t = some (.slice e))
  (h : DataW.trod enc P w base spare held fuel t [.slice a len cap] = some x) :
  (a = none ∧ len = 0 ∧ cap = 0) ∨
  ∃ p n, a = some p ∧ fuel = n + 1 ∧ len ≤ cap ∧ cap ≤ maxLen ∧ ∀ i, i < len → ∃ cs y, w.cells? base (p.add (i * P.cellsOf e)) (P.cellsOf e) = some cs ∧ DataW.trod enc P w base spare held n e cs = some y := by
 cases fuel with
 | zero => simp [DataW.trod] at h
 | succ n =>
  cases a with
  | none =>
   left
   unfold DataW.trod at h
   simp only [ht] at h
   cases len <;> cases cap <;> simp_all
  | some p =>
   right
   unfold DataW.trod at h
   simp only [ht] at h
   split at h
   ·rename_i hc
    simp only [Option.bind_eq_some_iff] at h
    obtain ⟨elems, hel, _⟩ := h
    refine ⟨p, n, rfl, rfl, hc.2.1, hc.2.2, fun i hi => ?_⟩
    obtain ⟨y, hy, _⟩ := mapM_some hel i i (by simp [hi])
    simp only [Option.bind_eq_some_iff] at hy
    obtain ⟨cs, hcs, hy⟩ := hy
    exact ⟨cs, y, hcs, hy⟩
   ·simp at h
theorem cells?_get {a : Addr} {n : Nat} {cs : List Value} (h : w.cells? base a n = some cs) : base ≤ a.block ∧ cs.length = n ∧ ∀ j, j < n → w.cell? (a.add j) = cs[j]? := by
 unfold World.cells? at h
 split at h
 ·rename_i hb
  refine ⟨hb, by simpa using mapM_len h, fun j hj => ?_⟩
  obtain ⟨y, hy, hy'⟩ := mapM_some h j j (by simp [hj])
  rw [hy, hy']
 ·simp at h
theorem h1n {t : TypeId} {k : IntKind} {fuel : Nat} {c : Value} {y : DataW H × List MemPlace} (ht : P.underlying t = some (.int k)) (h : DataW.trod enc P w base spare held fuel t [c] = some y) :
  ∃ n, c = .int k n ∧ (Lit.int k n).wf = true := by
 cases fuel with
 | zero => simp [DataW.trod] at h
 | succ f =>
  unfold DataW.trod at h
  rw [ht] at h
  cases c <;> simp_all
theorem trod_string_cell {t : TypeId} {fuel : Nat} {c : Value} {y : DataW H × List MemPlace} (ht : P.underlying t = some .string) (h : DataW.trod enc P w base spare held fuel t [c] = some y) :
  ∃ s, c = .string s ∧ s.size ≤ maxLen := by
 cases fuel with
 | zero => simp [DataW.trod] at h
 | succ f =>
  unfold DataW.trod at h
  rw [ht] at h
  cases c <;> simp_all
theorem add_none (b off n : Nat) : (⟨b, off, none⟩ : Addr).add n = ⟨b, off + n, none⟩ := by unfold Addr.add; split <;> simp_all
theorem slice_block {t e : TypeId} {fuel : Nat} {a : Option Addr} {len cap : Nat} {x : DataW H × List MemPlace} (ht : P.underlying t = some (.slice e)) {sz : Nat} (hsz : P.cellsOf e = sz) (h0 : 0 < sz)
  (h : DataW.trod enc P w base spare held fuel t [.slice a len cap] = some x) (hlen : 0 < len) :
  ∃ b off acs T fr n, a = some ⟨b, off, none⟩ ∧ w.heap[b]? = some (.cells acs T fr) ∧ len ≤ cap ∧ cap ≤ maxLen ∧
   ∀ i, i < len → ∃ cs y, cs.length = sz ∧ DataW.trod enc P w base spare held n e cs = some y ∧ off + i * sz + sz ≤ acs.size ∧ acs.extract (off + i * sz) (off + i * sz + sz) = cs.toArray := by
 rcases trod_slice ht h with ⟨_, h1, _⟩ | ⟨p, n, rfl, _, hlc, hcm, hel⟩
 ·omega
 ·rw [hsz] at hel
  obtain ⟨cs0, y0, hc0, _⟩ := hel 0 hlen
  obtain ⟨_, hl0, hg0⟩ := cells?_get hc0
  obtain ⟨v, hv⟩ : ∃ v, cs0[0]? = some v := ⟨_, List.getElem?_eq_getElem (by omega)⟩
  have hcell := hg0 0 h0
  rw [hv] at hcell
  obtain ⟨b, off, spot⟩ := p
  have hsp : spot = none := by simpa [Addr.add] using World.cell?_spot hcell
  subst hsp
  simp only [add_none, Nat.zero_mul, Nat.add_zero] at hcell
  obtain ⟨acs, T, fr, hb⟩ : ∃ acs T fr, w.heap[b]? = some (.cells acs T fr) := by
   unfold World.cell? at hcell
   cases hq : w.heap[b]? with
   | none => simp [hq] at hcell
   | some ob =>
    cases ob with
    | cells acs T fr => exact ⟨acs, T, fr, rfl⟩
    | _ => simp [hq] at hcell
  refine ⟨b, off, acs, T, fr, n, rfl, hb, hlc, hcm, fun i hi => ?_⟩
  obtain ⟨cs, y, hcs, hy⟩ := hel i hi
  obtain ⟨_, hl, hg⟩ := cells?_get hcs
  have hget : ∀ j, j < sz → acs[off + i * sz + j]? = cs[j]? := by
   intro j hj
   have := hg j hj
   simp only [add_none] at this
   rw [cell_of_row w b _ acs T fr hb] at this
   exact this
  have hsize : off + i * sz + sz ≤ acs.size := by
   have := hget (sz - 1) (by omega)
   rw [List.getElem?_eq_getElem (by omega)] at this
   have h3 := Array.getElem?_eq_some_iff.1 this
   obtain ⟨h3, _⟩ := h3
   omega
  refine ⟨cs, y, hl, hy, hsize, ?_⟩
  apply Array.ext_getElem?
  intro j
  by_cases hj : j < sz
  ·rw [Array.getElem?_extract, if_pos (by omega), hget j hj]
   simp
  ·rw [Array.getElem?_extract, if_neg (by omega)]
   simp; omega
end
theorem lst_2 {cs : List Value} (h : cs.length = 2) : ∃ c0 c1, cs = [c0, c1] := by
 match cs, h with
 | [_, _], _ => exact ⟨_, _, rfl⟩
theorem lst_3 {cs : List Value} (h : cs.length = 3) : ∃ c0 c1 c2, cs = [c0, c1, c2] := by
 match cs, h with
 | [_, _, _], _ => exact ⟨_, _, _, rfl⟩
theorem lst_4 {cs : List Value} (h : cs.length = 4) : ∃ c0 c1 c2 c3, cs = [c0, c1, c2, c3] := by
 match cs, h with
 | [_, _, _, _], _ => exact ⟨_, _, _, _, rfl⟩
theorem lst_6 {cs : List Value} (h : cs.length = 6) : ∃ c0 c1 c2 c3 c4 c5, cs = [c0, c1, c2, c3, c4, c5] := by
 match cs, h with
 | [_, _, _, _, _, _], _ => exact ⟨_, _, _, _, _, _, rfl⟩
theorem lst_8 {cs : List Value} (h : cs.length = 8) : ∃ c0 c1 c2 c3 c4 c5 c6 c7, cs = [c0, c1, c2, c3, c4, c5, c6, c7] := by
 match cs, h with
 | [_, _, _, _, _, _, _, _], _ => exact ⟨_, _, _, _, _, _, _, _, rfl⟩
section
variable {H : Type} {enc : TypeId × Value → H} {P : Program} {w : World} {base : Nat} {spare : Nat → Bool} {held : Bool}
theorem h2o {t e : TypeId} {fuel : Nat} {c : Value} {y : DataW H × List MemPlace} (ht : P.underlying t = some (.slice e)) (h : DataW.trod enc P w base spare held fuel t [c] = some y) : ∃ a len cap, c = .slice a len cap := by
 cases fuel with
 | zero => simp [DataW.trod] at h
 | succ f =>
  unfold DataW.trod at h
  rw [ht] at h
  cases c <;> simp_all
theorem trod_int_any {t : TypeId} {k : IntKind} {fuel : Nat} {cs : List Value} {y : DataW H × List MemPlace} (ht : P.underlying t = some (.int k)) (h : DataW.trod enc P w base spare held fuel t cs = some y) : ∃ n, cs = [.int k n] ∧ (Lit.int k n).wf = true := by
 have hc : ∃ c, cs = [c] := by
  cases fuel with
  | zero => simp [DataW.trod] at h
  | succ f =>
   unfold DataW.trod at h
   rw [ht] at h
   match cs, h with
   | [c], _ => exact ⟨c, rfl⟩
   | [], h => simp at h
   | _ :: _ :: _, h => simp at h
 obtain ⟨c, rfl⟩ := hc
 obtain ⟨n, rfl, hw⟩ := h1n ht h
 exact ⟨n, rfl, hw⟩
def ROnly (w : World) (B : List Blk) : Prop := ∀ p ∈ B, p.wr = false ∧ w.heap[p.b]? = some p.o
theorem ROnly.nil {w : World} : ROnly w [] := by simp [ROnly]
theorem ROnly.app {w : World} {B C : List Blk} (h : ROnly w B) (h2 : ROnly w C) : ROnly w (B ++ C) := fun p hp => by
 rcases List.mem_append.1 hp with hp | hp
 ·exact h p hp
 ·exact h2 p hp
theorem HP.ro {w : World} {B : List Blk} (h : ROnly w B) : HP [] w w B := HP.read h
theorem Sli.app {L M : List Blk} {a : Option Addr} {len size : Nat} {cells : List Value} (h : Sli L a len size cells) : Sli (L ++ M) a len size cells := h.left
theorem slice_list {X : Type} {cells : X → List Value} {ok : X → Prop} {t e : TypeId} {sz fuel : Nat} {a : Option Addr} {len cap : Nat} {x : DataW H × List MemPlace} (ht : P.underlying t = some (.slice e)) (hsz : P.cellsOf e = sz) (h0 : 0 < sz)
  (hcl : ∀ x, ok x → (cells x).length = sz) (hel : ∀ n cs y, DataW.trod enc P w base spare held n e cs = some y → ∃ x, cs = cells x ∧ ok x) (h : DataW.trod enc P w base spare held fuel t [.slice a len cap] = some x) :
  ∃ (l : List X) (B : List Blk), l.length = len ∧ (∀ x ∈ l, ok x) ∧ Sli B a len sz (l.flatMap cells) ∧ ROnly w B ∧ len ≤ maxLen ∧ len ≤ cap ∧ cap ≤ maxLen := by
 by_cases hl : 0 < len
 ·obtain ⟨b, off, acs, T, fr, n, rfl, hb, h1, h2, hall⟩ := slice_block ht hsz h0 h hl
  have key : ∀ m, m ≤ len → ∃ l : List X, l.length = m ∧ (∀ x ∈ l, ok x) ∧ (acs.toList.drop off).take (m * sz) = l.flatMap cells := by
   intro m
   induction m with
   | zero => intro _; exact ⟨[], rfl, by simp, by simp⟩
   | succ m ih =>
    intro hm
    obtain ⟨l, e1, e2, e3⟩ := ih (by omega)
    obtain ⟨cs, y, hc1, hc2, hc3, hc4⟩ := hall m (by omega)
    obtain ⟨x, rfl, hx⟩ := hel _ _ _ hc2
    refine ⟨l ++ [x], by simp [e1], ?_, ?_⟩
    ·intro z hz
     rcases List.mem_append.1 hz with hz | hz
     ·exact e2 z hz
     ·rw [List.mem_singleton.1 hz]; exact hx
    ·rw [List.flatMap_append, ← e3, Nat.add_mul, Nat.one_mul, List.take_add, List.drop_drop]
     congr 1
     have := congrArg Array.toList hc4
     simp only [Array.toList_extract, List.extract_eq_take_drop] at this
     rw [Nat.add_sub_cancel_left] at this
     simpa using this
  obtain ⟨l, e1, e2, e3⟩ := key len (Nat.le_refl _)
  obtain ⟨_, _, _, _, hc3, _⟩ := hall (len - 1) (by omega)
  have hmul : (len - 1) * sz + sz = len * sz := by
   obtain ⟨q, rfl⟩ : ∃ q, len = q + 1 := ⟨len - 1, by omega⟩
   rw [Nat.add_sub_cancel, Nat.add_mul, Nat.one_mul]
  refine ⟨l, [⟨false, b, .cells acs T fr⟩], e1, e2, Sli.of (i:=0) rfl (by omega) e3, ?_, by omega, by omega, by omega⟩
  intro p hp
  rw [List.mem_singleton.1 hp]
  exact ⟨rfl, hb⟩
 ·rcases trod_slice ht h with ⟨rfl, rfl, rfl⟩ | ⟨p, n, rfl, _, h2, h3, _⟩
  ·exact ⟨[], [], rfl, by simp, ⟨by simp, .inl rfl⟩, ROnly.nil, by omega, by omega, by omega⟩
  ·obtain rfl : len = 0 := by omega
   exact ⟨[], [], rfl, by simp, ⟨by simp, .inl rfl⟩, ROnly.nil, by omega, by omega, by omega⟩
end
section
variable {H : Type} {enc : TypeId × Value → H} {P : Program} {w : World} {base : Nat} {spare : Nat → Bool} {held : Bool}
theorem slice_listB {X : Type} {cells : X → List Value} {ok : List Blk → X → Prop} {t e : TypeId} {sz fuel : Nat} {a : Option Addr} {len cap : Nat} {x : DataW H × List MemPlace} (ht : P.underlying t = some (.slice e)) (hsz : P.cellsOf e = sz) (h0 : 0 < sz)
  (hl : ∀ B C x, ok B x → ok (B ++ C) x) (hr : ∀ B C x, ok C x → ok (B ++ C) x)
  (hel : ∀ n cs y, DataW.trod enc P w base spare held n e cs = some y → ∃ x B, cs = cells x ∧ ok B x ∧ ROnly w B) (h : DataW.trod enc P w base spare held fuel t [.slice a len cap] = some x) :
  ∃ (l : List X) (B : List Blk), l.length = len ∧ (∀ x ∈ l, ok B x) ∧ Sli B a len sz (l.flatMap cells) ∧ ROnly w B ∧ len ≤ maxLen ∧ len ≤ cap ∧ cap ≤ maxLen := by
 by_cases hln : 0 < len
 ·obtain ⟨b, off, acs, T, fr, n, rfl, hb, h1, h2, hall⟩ := slice_block ht hsz h0 h hln
  have key : ∀ m, m ≤ len → ∃ (l : List X) (B : List Blk), l.length = m ∧ (∀ x ∈ l, ok B x) ∧ (acs.toList.drop off).take (m * sz) = l.flatMap cells ∧ ROnly w B := by
   intro m
   induction m with
   | zero => intro _; exact ⟨[], [], rfl, by simp, by simp, ROnly.nil⟩
   | succ m ih =>
    intro hm
    obtain ⟨l, B, e1, e2, e3, e4⟩ := ih (by omega)
    obtain ⟨cs, y, hc1, hc2, hc3, hc4⟩ := hall m (by omega)
    obtain ⟨x, C, rfl, hx, hC⟩ := hel _ _ _ hc2
    refine ⟨l ++ [x], B ++ C, by simp [e1], ?_, ?_, e4.app hC⟩
    ·intro z hz
     rcases List.mem_append.1 hz with hz | hz
     ·exact hl _ _ _ (e2 z hz)
     ·rw [List.mem_singleton.1 hz]; exact hr _ _ _ hx
    ·rw [List.flatMap_append, ← e3, Nat.add_mul, Nat.one_mul, List.take_add, List.drop_drop]
     congr 1
     have := congrArg Array.toList hc4
     simp only [Array.toList_extract, List.extract_eq_take_drop] at this
     rw [Nat.add_sub_cancel_left] at this
     simpa using this
  obtain ⟨l, B, e1, e2, e3, e4⟩ := key len (Nat.le_refl _)
  obtain ⟨_, _, _, _, hc3, _⟩ := hall (len - 1) (by omega)
  have hmul : (len - 1) * sz + sz = len * sz := by
   obtain ⟨q, rfl⟩ : ∃ q, len = q + 1 := ⟨len - 1, by omega⟩
   rw [Nat.add_sub_cancel, Nat.add_mul, Nat.one_mul]
  refine ⟨l, [⟨false, b, .cells acs T fr⟩] ++ B, e1, fun x hx => hr _ _ _ (e2 x hx), Sli.of (i:=0) rfl (by omega) e3, ROnly.app ?_ e4, by omega, by omega, by omega⟩
  intro p hp
  rw [List.mem_singleton.1 hp]
  exact ⟨rfl, hb⟩
 ·rcases trod_slice ht h with ⟨rfl, rfl, rfl⟩ | ⟨p, n, rfl, _, h2, h3, _⟩
  ·exact ⟨[], [], rfl, by simp, ⟨by simp, .inl rfl⟩, ROnly.nil, by omega, by omega, by omega⟩
  ·obtain rfl : len = 0 := by omega
   exact ⟨[], [], rfl, by simp, ⟨by simp, .inl rfl⟩, ROnly.nil, by omega, by omega, by omega⟩
end
def u8ok (n : Int) : Prop := 0 ≤ n ∧ n < 256
def u8v (n : Int) : List Value := [.int .u8 n]
theorem u8v_flat (l : List Int) : l.flatMap u8v = u8l l := by induction l with | nil => rfl | cons n r ih => simpa [u8v, u8l] using ih
theorem u8_open {H : Type} {enc : TypeId × Value → H} {w : World} {base : Nat} {spare : Nat → Bool} {held : Bool} {fuel : Nat} {cs : List Value} {x : DataW H × List MemPlace} (h : DataW.trod enc Tryd.prog w base spare held fuel 5 cs = some x) : ∃ n : Int, cs = u8v n ∧ (0 ≤ n ∧ n < 256) := by
 obtain ⟨n, rfl, hw⟩ := trod_int_any Tryd.underlying5 h
 exact ⟨n, rfl, wf_u8 hw⟩
theorem i_nat {n : Int} {k : Int} (h : 0 ≤ n ∧ n < k) : ∃ m : Nat, n = (m : Int) := ⟨n.toNat, by omega⟩
set_option linter.unusedVariables false in
theorem open_97 {H : Type} {enc : TypeId × Value → H} {w : World} {base : Nat} {spare : Nat → Bool} {held : Bool} {fuel : Nat} {cs : List Value} {x : DataW H × List MemPlace} (h : DataW.trod enc Tryd.prog w base spare held fuel 97 cs = some x) :
  ∃ (a0 : Int) (a1 : Int) (a2 : Int) (a3 : Int), cs = [Value.int .u8 a0, Value.int .u8 a1, Value.int .u8 a2, Value.int .u8 a3] ∧ (0 ≤ a0 ∧ a0 < 256) ∧ (0 ≤ a1 ∧ a1 < 256) ∧ (0 ≤ a2 ∧ a2 < 256) ∧ (0 ≤ a3 ∧ a3 < 256) := by
 obtain ⟨n, rfl, hlen, hf⟩ := h3t Tryd.underlying97 h
 rw [(by kernel_rfl : Tryd.prog.cellsOf 97 = 4)] at hlen
 obtain ⟨c0, c1, c2, c3, rfl⟩ := lst_4 hlen
 have e5 : Tryd.prog.cellsOf 5 = 1 := by kernel_rfl
 obtain ⟨y0, h0⟩ := hf 0 _ rfl
 (try simp only [e5] at h0); (try simp only [Nat.reduceMul] at h0); (try simp only [List.drop_succ_cons] at h0); (try simp only [List.drop_zero] at h0); (try simp only [List.take_succ_cons] at h0); (try simp only [List.take_zero] at h0)
 obtain ⟨a0, rfl, ba0⟩ := h1n Tryd.underlying5 h0
 replace ba0 := wf_u8 ba0
 obtain ⟨y1, h1⟩ := hf 1 _ rfl
 (try simp only [e5] at h1); (try simp only [Nat.reduceMul] at h1); (try simp only [List.drop_succ_cons] at h1); (try simp only [List.drop_zero] at h1); (try simp only [List.take_succ_cons] at h1); (try simp only [List.take_zero] at h1)
 obtain ⟨a1, rfl, ba1⟩ := h1n Tryd.underlying5 h1
 replace ba1 := wf_u8 ba1
 obtain ⟨y2, h2⟩ := hf 2 _ rfl
 (try simp only [e5] at h2); (try simp only [Nat.reduceMul] at h2); (try simp only [List.drop_succ_cons] at h2); (try simp only [List.drop_zero] at h2); (try simp only [List.take_succ_cons] at h2); (try simp only [List.take_zero] at h2)
 obtain ⟨a2, rfl, ba2⟩ := h1n Tryd.underlying5 h2
 replace ba2 := wf_u8 ba2
 obtain ⟨y3, h3⟩ := hf 3 _ rfl
 (try simp only [e5] at h3); (try simp only [Nat.reduceMul] at h3); (try simp only [List.drop_succ_cons] at h3); (try simp only [List.drop_zero] at h3); (try simp only [List.take_succ_cons] at h3); (try simp only [List.take_zero] at h3)
 obtain ⟨a3, rfl, ba3⟩ := h1n Tryd.underlying5 h3
 replace ba3 := wf_u8 ba3
 exact ⟨a0, a1, a2, a3, rfl, ba0, ba1, ba2, ba3⟩
set_option linter.unusedVariables false in
theorem open_93 {H : Type} {enc : TypeId × Value → H} {w : World} {base : Nat} {spare : Nat → Bool} {held : Bool} {fuel : Nat} {cs : List Value} {x : DataW H × List MemPlace} (h : DataW.trod enc Tryd.prog w base spare held fuel 93 cs = some x) :
  ∃ (a0 : Int) (a1 : Int) (a2 : Int) (a3_a : Option Addr) (a3_l a3_c : Nat), cs = [Value.int .u8 a0, Value.int .u8 a1, Value.int .u8 a2, Value.slice a3_a a3_l a3_c] ∧ (0 ≤ a0 ∧ a0 < 256) ∧ (0 ≤ a1 ∧ a1 < 256) ∧ (0 ≤ a2 ∧ a2 < 256) ∧ (∃ fuel y, DataW.trod enc Tryd.prog w base spare held fuel 91 [Value.slice a3_a a3_l a3_c] = some y) := by
 obtain ⟨n, rfl, hlen, hf⟩ := h3t Tryd.underlying93 h
 rw [(by kernel_rfl : Tryd.prog.cellsOf 93 = 4)] at hlen
 obtain ⟨c0, c1, c2, c3, rfl⟩ := lst_4 hlen
 have e5 : Tryd.prog.cellsOf 5 = 1 := by kernel_rfl
 have e91 : Tryd.prog.cellsOf 91 = 1 := by kernel_rfl
 obtain ⟨y0, h0⟩ := hf 0 _ rfl
 (try simp only [e5] at h0); (try simp only [Nat.reduceMul] at h0); (try simp only [List.drop_succ_cons] at h0); (try simp only [List.drop_zero] at h0); (try simp only [List.take_succ_cons] at h0); (try simp only [List.take_zero] at h0)
 obtain ⟨a0, rfl, ba0⟩ := h1n Tryd.underlying5 h0
 replace ba0 := wf_u8 ba0
 obtain ⟨y1, h1⟩ := hf 1 _ rfl
 (try simp only [e5] at h1); (try simp only [Nat.reduceMul] at h1); (try simp only [List.drop_succ_cons] at h1); (try simp only [List.drop_zero] at h1); (try simp only [List.take_succ_cons] at h1); (try simp only [List.take_zero] at h1)
 obtain ⟨a1, rfl, ba1⟩ := h1n Tryd.underlying5 h1
 replace ba1 := wf_u8 ba1
 obtain ⟨y2, h2⟩ := hf 2 _ rfl
 (try simp only [e5] at h2); (try simp only [Nat.reduceMul] at h2); (try simp only [List.drop_succ_cons] at h2); (try simp only [List.drop_zero] at h2); (try simp only [List.take_succ_cons] at h2); (try simp only [List.take_zero] at h2)
 obtain ⟨a2, rfl, ba2⟩ := h1n Tryd.underlying5 h2
 replace ba2 := wf_u8 ba2
 obtain ⟨y3, h3⟩ := hf 3 _ rfl
 (try simp only [e91] at h3); (try simp only [Nat.reduceMul] at h3); (try simp only [List.drop_succ_cons] at h3); (try simp only [List.drop_zero] at h3); (try simp only [List.take_succ_cons] at h3); (try simp only [List.take_zero] at h3)
 obtain ⟨a3_a, a3_l, a3_c, rfl⟩ := h2o Tryd.underlying91 h3
 have ba3 : ∃ fuel y, DataW.trod enc Tryd.prog w base spare held fuel 91 [Value.slice a3_a a3_l a3_c] = some y := ⟨_, _, h3⟩
 exact ⟨a0, a1, a2, a3_a, a3_l, a3_c, rfl, ba0, ba1, ba2, ba3⟩
set_option linter.unusedVariables false in
theorem open_35 {H : Type} {enc : TypeId × Value → H} {w : World} {base : Nat} {spare : Nat → Bool} {held : Bool} {fuel : Nat} {cs : List Value} {x : DataW H × List MemPlace} (h : DataW.trod enc Tryd.prog w base spare held fuel 35 cs = some x) :
  ∃ (a0 : Int) (a1 : Int) (a2 : Int) (a3_a : Option Addr) (a3_l a3_c : Nat) (a4 : Int) (a5_a : Option Addr) (a5_l a5_c : Nat) (a6_a : Option Addr) (a6_l a6_c : Nat) (a7_a : Option Addr) (a7_l a7_c : Nat), cs = [Value.int .u8 a0, Value.int .u8 a1, Value.int .u8 a2, Value.slice a3_a a3_l a3_c, Value.int .u16 a4, Value.slice a5_a a5_l a5_c, Value.slice a6_a a6_l a6_c, Value.slice a7_a a7_l a7_c] ∧ (0 ≤ a0 ∧ a0 < 256) ∧ (0 ≤ a1 ∧ a1 < 256) ∧ (0 ≤ a2 ∧ a2 < 256) ∧ (∃ fuel y, DataW.trod enc Tryd.prog w base spare held fuel 31 [Value.slice a3_a a3_l a3_c] = some y) ∧ (0 ≤ a4 ∧ a4 < 65536) ∧ (∃ fuel y, DataW.trod enc Tryd.prog w base spare held fuel 32 [Value.slice a5_a a5_l a5_c] = some y) ∧ (∃ fuel y, DataW.trod enc Tryd.prog w base spare held fuel 33 [Value.slice a6_a a6_l a6_c] = some y) ∧ (∃ fuel y, DataW.trod enc Tryd.prog w base spare held fuel 32 [Value.slice a7_a a7_l a7_c] = some y) := by
 obtain ⟨n, rfl, hlen, hf⟩ := h3t Tryd.underlying35 h
 rw [(by kernel_rfl : Tryd.prog.cellsOf 35 = 8)] at hlen
 obtain ⟨c0, c1, c2, c3, c4, c5, c6, c7, rfl⟩ := lst_8 hlen
 have e5 : Tryd.prog.cellsOf 5 = 1 := by kernel_rfl
 have e25 : Tryd.prog.cellsOf 25 = 1 := by kernel_rfl
 have e31 : Tryd.prog.cellsOf 31 = 1 := by kernel_rfl
 have e32 : Tryd.prog.cellsOf 32 = 1 := by kernel_rfl
 have e33 : Tryd.prog.cellsOf 33 = 1 := by kernel_rfl
 obtain ⟨y0, h0⟩ := hf 0 _ rfl
 (try simp only [e5] at h0); (try simp only [Nat.reduceMul] at h0); (try simp only [List.drop_succ_cons] at h0); (try simp only [List.drop_zero] at h0); (try simp only [List.take_succ_cons] at h0); (try simp only [List.take_zero] at h0)
 obtain ⟨a0, rfl, ba0⟩ := h1n Tryd.underlying5 h0
 replace ba0 := wf_u8 ba0
 obtain ⟨y1, h1⟩ := hf 1 _ rfl
 (try simp only [e5] at h1); (try simp only [Nat.reduceMul] at h1); (try simp only [List.drop_succ_cons] at h1); (try simp only [List.drop_zero] at h1); (try simp only [List.take_succ_cons] at h1); (try simp only [List.take_zero] at h1)
 obtain ⟨a1, rfl, ba1⟩ := h1n Tryd.underlying5 h1
 replace ba1 := wf_u8 ba1
 obtain ⟨y2, h2⟩ := hf 2 _ rfl
 (try simp only [e5] at h2); (try simp only [Nat.reduceMul] at h2); (try simp only [List.drop_succ_cons] at h2); (try simp only [List.drop_zero] at h2); (try simp only [List.take_succ_cons] at h2); (try simp only [List.take_zero] at h2)
 obtain ⟨a2, rfl, ba2⟩ := h1n Tryd.underlying5 h2
 replace ba2 := wf_u8 ba2
 obtain ⟨y3, h3⟩ := hf 3 _ rfl
 (try simp only [e31] at h3); (try simp only [Nat.reduceMul] at h3); (try simp only [List.drop_succ_cons] at h3); (try simp only [List.drop_zero] at h3); (try simp only [List.take_succ_cons] at h3); (try simp only [List.take_zero] at h3)
 obtain ⟨a3_a, a3_l, a3_c, rfl⟩ := h2o Tryd.underlying31 h3
 have ba3 : ∃ fuel y, DataW.trod enc Tryd.prog w base spare held fuel 31 [Value.slice a3_a a3_l a3_c] = some y := ⟨_, _, h3⟩
 obtain ⟨y4, h4⟩ := hf 4 _ rfl
 (try simp only [e25] at h4); (try simp only [Nat.reduceMul] at h4); (try simp only [List.drop_succ_cons] at h4); (try simp only [List.drop_zero] at h4); (try simp only [List.take_succ_cons] at h4); (try simp only [List.take_zero] at h4)
 obtain ⟨a4, rfl, ba4⟩ := h1n Tryd.underlying25 h4
 replace ba4 := wf_u16 ba4
 obtain ⟨y5, h5⟩ := hf 5 _ rfl
 (try simp only [e32] at h5); (try simp only [Nat.reduceMul] at h5); (try simp only [List.drop_succ_cons] at h5); (try simp only [List.drop_zero] at h5); (try simp only [List.take_succ_cons] at h5); (try simp only [List.take_zero] at h5)
 obtain ⟨a5_a, a5_l, a5_c, rfl⟩ := h2o Tryd.underlying32 h5
 have ba5 : ∃ fuel y, DataW.trod enc Tryd.prog w base spare held fuel 32 [Value.slice a5_a a5_l a5_c] = some y := ⟨_, _, h5⟩
 obtain ⟨y6, h6⟩ := hf 6 _ rfl
 (try simp only [e33] at h6); (try simp only [Nat.reduceMul] at h6); (try simp only [List.drop_succ_cons] at h6); (try simp only [List.drop_zero] at h6); (try simp only [List.take_succ_cons] at h6); (try simp only [List.take_zero] at h6)
 obtain ⟨a6_a, a6_l, a6_c, rfl⟩ := h2o Tryd.underlying33 h6
 have ba6 : ∃ fuel y, DataW.trod enc Tryd.prog w base spare held fuel 33 [Value.slice a6_a a6_l a6_c] = some y := ⟨_, _, h6⟩
 obtain ⟨y7, h7⟩ := hf 7 _ rfl
 (try simp only [e32] at h7); (try simp only [Nat.reduceMul] at h7); (try simp only [List.drop_succ_cons] at h7); (try simp only [List.drop_zero] at h7); (try simp only [List.take_succ_cons] at h7); (try simp only [List.take_zero] at h7)
 obtain ⟨a7_a, a7_l, a7_c, rfl⟩ := h2o Tryd.underlying32 h7
 have ba7 : ∃ fuel y, DataW.trod enc Tryd.prog w base spare held fuel 32 [Value.slice a7_a a7_l a7_c] = some y := ⟨_, _, h7⟩
 exact ⟨a0, a1, a2, a3_a, a3_l, a3_c, a4, a5_a, a5_l, a5_c, a6_a, a6_l, a6_c, a7_a, a7_l, a7_c, rfl, ba0, ba1, ba2, ba3, ba4, ba5, ba6, ba7⟩
theorem u16_open {H : Type} {enc : TypeId × Value → H} {w : World} {base : Nat} {spare : Nat → Bool} {held : Bool} {fuel : Nat} {cs : List Value} {x : DataW H × List MemPlace} (h : DataW.trod enc Tryd.prog w base spare held fuel 25 cs = some x) : ∃ n : Int, cs = [.int .u16 n] ∧ (0 ≤ n ∧ n < 65536) := by
 obtain ⟨n, rfl, hw⟩ := trod_int_any Tryd.underlying25 h
 exact ⟨n, rfl, wf_u16 hw⟩
def u16v (n : Int) : List Value := [.int .u16 n]
theorem u16v_flat (l : List Int) : l.flatMap u16v = u16g l := by induction l with | nil => rfl | cons n r ih => simpa [u16v, u16g] using ih
theorem scond_open {H : Type} {enc : TypeId × Value → H} {w : World} {base : Nat} {spare : Nat → Bool} {held : Bool} {fuel : Nat} {cs : List Value} {x : DataW H × List MemPlace} (h : DataW.trod enc Tryd.prog w base spare held fuel 97 cs = some x) : ∃ c : SCnd, cs = c.cells ∧ c.ok := by
 obtain ⟨a0, a1, a2, a3, rfl, h0, h1, h2, h3⟩ := open_97 h
 exact ⟨⟨a0, a1, a2, a3⟩, rfl, h0, h1, h2, h3⟩
structure SRulV where
 r : SRul
 v : Value
def SRulV.cells (x : SRulV) : List Value := [.int .u8 x.r.c, .int .u8 x.r.a, .int .u8 x.r.e, x.v]
structure SRulV.ok (B : List Blk) (x : SRulV) : Prop where
 r : x.r.ok
 v : SCndS B x.v x.r.conds
theorem srul_open {H : Type} {enc : TypeId × Value → H} {w : World} {base : Nat} {spare : Nat → Bool} {held : Bool} {fuel : Nat} {cs : List Value} {x : DataW H × List MemPlace} (h : DataW.trod enc Tryd.prog w base spare held fuel 93 cs = some x) : ∃ (r : SRulV) (B : List Blk), cs = r.cells ∧ r.ok B ∧ ROnly w B := by
 obtain ⟨a0, a1, a2, a3a, a3l, a3c, rfl, h0, h1, h2, ⟨f3, y3, h3⟩⟩ := open_93 h
 obtain ⟨l1, B1, rfl, g1, s1, r1, m1, _, _⟩ := slice_list (cells:=SCnd.cells) (ok:=SCnd.ok) Tryd.underlying91 (sz:=4) (by kernel_rfl) (by omega) (fun _ _ => rfl) (fun _ _ _ h => scond_open h) h3
 exact ⟨⟨⟨a0, a1, a2, l1⟩, _⟩, B1, rfl, ⟨⟨h0, h1, h2, g1⟩, ⟨a3a, a3c, rfl, s1, m1⟩⟩, r1⟩
theorem srulG_of {B : List Blk} : ∀ l : List SRulV, (∀ x ∈ l, x.ok B) → SRulG B (l.map SRulV.r) (l.flatMap SRulV.cells)
 | [], _ => rfl
 | x :: r, h => ⟨x.v, r.flatMap SRulV.cells, rfl, (h x (List.mem_cons_self ..)).v, srulG_of r fun y hy => h y (List.mem_cons_of_mem _ hy)⟩
structure SmlV where
 s : SPol
 vr : Value
 vp : Value
 vg : Value
 vq : Value
abbrev SmlV.cells (x : SmlV) : List Value := [.int .u8 x.s.nm, .int .u8 x.s.df, .int .u8 x.s.en, x.vr, .int .u16 (x.s.hd : Nat), x.vp, x.vg, x.vq]
structure SmlV.ok (B : List Blk) (x : SmlV) : Prop where
 s : x.s.ok
 v : SPolS B x.s x.vr x.vp x.vg x.vq
theorem SmlV.ok.mono {B L : List Blk} {x : SmlV} (h : x.ok B) (hs : SubB B L) : x.ok L := ⟨h.s, h.v.mono hs⟩
theorem small_openP {H : Type} {enc : TypeId × Value → H} {w : World} {base : Nat} {spare : Nat → Bool} {held : Bool} {fuel : Nat} {cs : List Value} {x : DataW H × List MemPlace} (h : DataW.trod enc Tryd.prog w base spare held fuel 35 cs = some x) : ∃ (s : SmlV) (B : List Blk), cs = s.cells ∧ s.ok B ∧ ROnly w B := by
 obtain ⟨a0, a1, a2, a3a, a3l, a3c, a4, a5a, a5l, a5c, a6a, a6l, a6c, a7a, a7l, a7c, rfl, h0, h1, h2, ⟨f3, y3, h3⟩, h4, ⟨f5, y5, h5⟩, ⟨f6, y6, h6⟩, ⟨f7, y7, h7⟩⟩ := open_35 h
 obtain ⟨l3, B3, rfl, g3, s3, r3, m3, -, -⟩ := slice_listB (cells:=SRulV.cells) (ok:=SRulV.ok) Tryd.underlying31 (sz:=4) (by kernel_rfl) (by omega) (fun _ _ _ h => ⟨h.r, h.v.left⟩) (fun _ _ _ h => ⟨h.r, h.v.upA _⟩) (fun _ _ _ h => srul_open h) h3
 obtain ⟨l5, B5, rfl, g5, s5, r5, m5, -, -⟩ := slice_list (cells:=u8v) (ok:=u8ok) Tryd.underlying32 (sz:=1) (by kernel_rfl) (by omega) (fun _ _ => rfl) (fun _ _ _ h => u8_open h) h5
 obtain ⟨l6, B6, rfl, g6, s6, r6, m6, -, -⟩ := slice_list (cells:=u16v) (ok:=fun n : Int => 0 ≤ n ∧ n < 65536) Tryd.underlying33 (sz:=1) (by kernel_rfl) (by omega) (fun _ _ => rfl) (fun _ _ _ h => u16_open h) h6
 obtain ⟨l7, B7, rfl, g7, s7, r7, m7, -, -⟩ := slice_list (cells:=u8v) (ok:=u8ok) Tryd.underlying32 (sz:=1) (by kernel_rfl) (by omega) (fun _ _ => rfl) (fun _ _ _ h => u8_open h) h7
 rw [u8v_flat] at s5 s7
 rw [u16v_flat] at s6
 obtain ⟨hd, rfl⟩ := i_nat h4
 have e3 : (l3.map SRulV.r).length = l3.length := List.length_map ..
 refine ⟨⟨⟨a0, a1, a2, l3.map SRulV.r, hd, l5, l6, l7⟩, _, _, _, _⟩, B3 ++ (B5 ++ (B6 ++ B7)), rfl, ⟨⟨h0, h1, h2, ?_, by show hd < 65536; omega, g5, g6, g7⟩, ⟨⟨a3a, a3c, l3.flatMap SRulV.cells, by rw [e3], by rw [e3]; exact s3.left, (srulG_of l3 g3).left⟩, ⟨a5a, a5c, rfl, (s5.left).upA B3⟩, ⟨a6a, a6c, rfl, ((s6.left).upA B5).upA B3⟩, ⟨a7a, a7c, rfl, ((s7.upA B6).upA B5).upA B3⟩, by show (l3.map SRulV.r).length ≤ maxLen; rw [e3]; exact m3, m5, m6, m7⟩⟩, r3.app (r5.app (r6.app r7))⟩
 intro r hr
 obtain ⟨x, hx, rfl⟩ := List.mem_map.1 hr
 exact (g3 x hx).r
set_option linter.unusedVariables false in
theorem open_39 {H : Type} {enc : TypeId × Value → H} {w : World} {base : Nat} {spare : Nat → Bool} {held : Bool} {fuel : Nat} {cs : List Value} {x : DataW H × List MemPlace} (h : DataW.trod enc Tryd.prog w base spare held fuel 39 cs = some x) :
  ∃ (a0 : Int) (a1 : Int) (a2 : Int) (a3 : Int), cs = [Value.int .i64 a0, Value.int .u8 a1, Value.int .u64 a2, Value.int .u64 a3] ∧ (-9223372036854775808 ≤ a0 ∧ a0 < 9223372036854775808) ∧ (0 ≤ a1 ∧ a1 < 256) ∧ (0 ≤ a2 ∧ a2 < 18446744073709551616) ∧ (0 ≤ a3 ∧ a3 < 18446744073709551616) := by
 obtain ⟨n, rfl, hlen, hf⟩ := h3t Tryd.underlying39 h
 rw [(by kernel_rfl : Tryd.prog.cellsOf 39 = 4)] at hlen
 obtain ⟨c0, c1, c2, c3, rfl⟩ := lst_4 hlen
 have e3 : Tryd.prog.cellsOf 3 = 1 := by kernel_rfl
 have e36 : Tryd.prog.cellsOf 36 = 1 := by kernel_rfl
 have e37 : Tryd.prog.cellsOf 37 = 1 := by kernel_rfl
 obtain ⟨y0, h0⟩ := hf 0 _ rfl
 (try simp only [e3] at h0); (try simp only [Nat.reduceMul] at h0); (try simp only [List.drop_succ_cons] at h0); (try simp only [List.drop_zero] at h0); (try simp only [List.take_succ_cons] at h0); (try simp only [List.take_zero] at h0)
 obtain ⟨a0, rfl, ba0⟩ := h1n Tryd.underlying3 h0
 replace ba0 := wf_i64 ba0
 obtain ⟨y1, h1⟩ := hf 1 _ rfl
 (try simp only [e36] at h1); (try simp only [Nat.reduceMul] at h1); (try simp only [List.drop_succ_cons] at h1); (try simp only [List.drop_zero] at h1); (try simp only [List.take_succ_cons] at h1); (try simp only [List.take_zero] at h1)
 obtain ⟨a1, rfl, ba1⟩ := h1n Tryd.underlying36 h1
 replace ba1 := wf_u8 ba1
 obtain ⟨y2, h2⟩ := hf 2 _ rfl
 (try simp only [e37] at h2); (try simp only [Nat.reduceMul] at h2); (try simp only [List.drop_succ_cons] at h2); (try simp only [List.drop_zero] at h2); (try simp only [List.take_succ_cons] at h2); (try simp only [List.take_zero] at h2)
 obtain ⟨a2, rfl, ba2⟩ := h1n Tryd.underlying37 h2
 replace ba2 := wf_u64 ba2
 obtain ⟨y3, h3⟩ := hf 3 _ rfl
 (try simp only [e37] at h3); (try simp only [Nat.reduceMul] at h3); (try simp only [List.drop_succ_cons] at h3); (try simp only [List.drop_zero] at h3); (try simp only [List.take_succ_cons] at h3); (try simp only [List.take_zero] at h3)
 obtain ⟨a3, rfl, ba3⟩ := h1n Tryd.underlying37 h3
 replace ba3 := wf_u64 ba3
 exact ⟨a0, a1, a2, a3, rfl, ba0, ba1, ba2, ba3⟩
set_option linter.unusedVariables false in
theorem open_47 {H : Type} {enc : TypeId × Value → H} {w : World} {base : Nat} {spare : Nat → Bool} {held : Bool} {fuel : Nat} {cs : List Value} {x : DataW H × List MemPlace} (h : DataW.trod enc Tryd.prog w base spare held fuel 47 cs = some x) :
  ∃ (a0 : Int) (a1 : Int) (a2_a : Option Addr) (a2_l a2_c : Nat), cs = [Value.int .u32 a0, Value.int .u32 a1, Value.slice a2_a a2_l a2_c] ∧ (0 ≤ a0 ∧ a0 < 4294967296) ∧ (0 ≤ a1 ∧ a1 < 4294967296) ∧ (∃ fuel y, DataW.trod enc Tryd.prog w base spare held fuel 45 [Value.slice a2_a a2_l a2_c] = some y) := by
 obtain ⟨n, rfl, hlen, hf⟩ := h3t Tryd.underlying47 h
 rw [(by kernel_rfl : Tryd.prog.cellsOf 47 = 3)] at hlen
 obtain ⟨c0, c1, c2, rfl⟩ := lst_3 hlen
 have e22 : Tryd.prog.cellsOf 22 = 1 := by kernel_rfl
 have e23 : Tryd.prog.cellsOf 23 = 1 := by kernel_rfl
 have e45 : Tryd.prog.cellsOf 45 = 1 := by kernel_rfl
 obtain ⟨y0, h0⟩ := hf 0 _ rfl
 (try simp only [e22] at h0); (try simp only [Nat.reduceMul] at h0); (try simp only [List.drop_succ_cons] at h0); (try simp only [List.drop_zero] at h0); (try simp only [List.take_succ_cons] at h0); (try simp only [List.take_zero] at h0)
 obtain ⟨a0, rfl, ba0⟩ := h1n Tryd.underlying22 h0
 replace ba0 := wf_u32 ba0
 obtain ⟨y1, h1⟩ := hf 1 _ rfl
 (try simp only [e23] at h1); (try simp only [Nat.reduceMul] at h1); (try simp only [List.drop_succ_cons] at h1); (try simp only [List.drop_zero] at h1); (try simp only [List.take_succ_cons] at h1); (try simp only [List.take_zero] at h1)
 obtain ⟨a1, rfl, ba1⟩ := h1n Tryd.underlying23 h1
 replace ba1 := wf_u32 ba1
 obtain ⟨y2, h2⟩ := hf 2 _ rfl
 (try simp only [e45] at h2); (try simp only [Nat.reduceMul] at h2); (try simp only [List.drop_succ_cons] at h2); (try simp only [List.drop_zero] at h2); (try simp only [List.take_succ_cons] at h2); (try simp only [List.take_zero] at h2)
 obtain ⟨a2_a, a2_l, a2_c, rfl⟩ := h2o Tryd.underlying45 h2
 have ba2 : ∃ fuel y, DataW.trod enc Tryd.prog w base spare held fuel 45 [Value.slice a2_a a2_l a2_c] = some y := ⟨_, _, h2⟩
 exact ⟨a0, a1, a2_a, a2_l, a2_c, rfl, ba0, ba1, ba2⟩
set_option linter.unusedVariables false in
theorem open_49 {H : Type} {enc : TypeId × Value → H} {w : World} {base : Nat} {spare : Nat → Bool} {held : Bool} {fuel : Nat} {cs : List Value} {x : DataW H × List MemPlace} (h : DataW.trod enc Tryd.prog w base spare held fuel 49 cs = some x) :
  ∃ (a0 : ByteArray) (a1 : Int), cs = [Value.string a0, Value.int .u16 a1] ∧ a0.size ≤ maxLen ∧ (0 ≤ a1 ∧ a1 < 65536) := by
 obtain ⟨n, rfl, hlen, hf⟩ := h3t Tryd.underlying49 h
 rw [(by kernel_rfl : Tryd.prog.cellsOf 49 = 2)] at hlen
 obtain ⟨c0, c1, rfl⟩ := lst_2 hlen
 have e9 : Tryd.prog.cellsOf 9 = 1 := by kernel_rfl
 have e26 : Tryd.prog.cellsOf 26 = 1 := by kernel_rfl
 obtain ⟨y0, h0⟩ := hf 0 _ rfl
 (try simp only [e9] at h0); (try simp only [Nat.reduceMul] at h0); (try simp only [List.drop_succ_cons] at h0); (try simp only [List.drop_zero] at h0); (try simp only [List.take_succ_cons] at h0); (try simp only [List.take_zero] at h0)
 obtain ⟨a0, rfl, ba0⟩ := trod_string_cell Tryd.underlying9 h0
 obtain ⟨y1, h1⟩ := hf 1 _ rfl
 (try simp only [e26] at h1); (try simp only [Nat.reduceMul] at h1); (try simp only [List.drop_succ_cons] at h1); (try simp only [List.drop_zero] at h1); (try simp only [List.take_succ_cons] at h1); (try simp only [List.take_zero] at h1)
 obtain ⟨a1, rfl, ba1⟩ := h1n Tryd.underlying26 h1
 replace ba1 := wf_u16 ba1
 exact ⟨a0, a1, rfl, ba0, ba1⟩
set_option linter.unusedVariables false in
theorem open_51 {H : Type} {enc : TypeId × Value → H} {w : World} {base : Nat} {spare : Nat → Bool} {held : Bool} {fuel : Nat} {cs : List Value} {x : DataW H × List MemPlace} (h : DataW.trod enc Tryd.prog w base spare held fuel 51 cs = some x) :
  ∃ (a0 : Int) (a1 : Int), cs = [Value.int .u16 a0, Value.int .u16 a1] ∧ (0 ≤ a0 ∧ a0 < 65536) ∧ (0 ≤ a1 ∧ a1 < 65536) := by
 obtain ⟨n, rfl, hlen, hf⟩ := h3t Tryd.underlying51 h
 rw [(by kernel_rfl : Tryd.prog.cellsOf 51 = 2)] at hlen
 obtain ⟨c0, c1, rfl⟩ := lst_2 hlen
 have e25 : Tryd.prog.cellsOf 25 = 1 := by kernel_rfl
 have e26 : Tryd.prog.cellsOf 26 = 1 := by kernel_rfl
 obtain ⟨y0, h0⟩ := hf 0 _ rfl
 (try simp only [e25] at h0); (try simp only [Nat.reduceMul] at h0); (try simp only [List.drop_succ_cons] at h0); (try simp only [List.drop_zero] at h0); (try simp only [List.take_succ_cons] at h0); (try simp only [List.take_zero] at h0)
 obtain ⟨a0, rfl, ba0⟩ := h1n Tryd.underlying25 h0
 replace ba0 := wf_u16 ba0
 obtain ⟨y1, h1⟩ := hf 1 _ rfl
 (try simp only [e26] at h1); (try simp only [Nat.reduceMul] at h1); (try simp only [List.drop_succ_cons] at h1); (try simp only [List.drop_zero] at h1); (try simp only [List.take_succ_cons] at h1); (try simp only [List.take_zero] at h1)
 obtain ⟨a1, rfl, ba1⟩ := h1n Tryd.underlying26 h1
 replace ba1 := wf_u16 ba1
 exact ⟨a0, a1, rfl, ba0, ba1⟩
set_option linter.unusedVariables false in
theorem open_30 {H : Type} {enc : TypeId × Value → H} {w : World} {base : Nat} {spare : Nat → Bool} {held : Bool} {fuel : Nat} {cs : List Value} {x : DataW H × List MemPlace} (h : DataW.trod enc Tryd.prog w base spare held fuel 30 cs = some x) :
  ∃ (a0 : ByteArray) (a1 : Int) (a2_a : Option Addr) (a2_l a2_c : Nat) (a3 : Int) (a4_a : Option Addr) (a4_l a4_c : Nat) (a5_a : Option Addr) (a5_l a5_c : Nat), cs = [Value.string a0, Value.int .u32 a1, Value.slice a2_a a2_l a2_c, Value.int .u16 a3, Value.slice a4_a a4_l a4_c, Value.slice a5_a a5_l a5_c] ∧ a0.size ≤ maxLen ∧ (0 ≤ a1 ∧ a1 < 4294967296) ∧ (∃ fuel y, DataW.trod enc Tryd.prog w base spare held fuel 24 [Value.slice a2_a a2_l a2_c] = some y) ∧ (0 ≤ a3 ∧ a3 < 65536) ∧ (∃ fuel y, DataW.trod enc Tryd.prog w base spare held fuel 27 [Value.slice a4_a a4_l a4_c] = some y) ∧ (∃ fuel y, DataW.trod enc Tryd.prog w base spare held fuel 28 [Value.slice a5_a a5_l a5_c] = some y) := by
 obtain ⟨n, rfl, hlen, hf⟩ := h3t Tryd.underlying30 h
 rw [(by kernel_rfl : Tryd.prog.cellsOf 30 = 6)] at hlen
 obtain ⟨c0, c1, c2, c3, c4, c5, rfl⟩ := lst_6 hlen
 have e9 : Tryd.prog.cellsOf 9 = 1 := by kernel_rfl
 have e23 : Tryd.prog.cellsOf 23 = 1 := by kernel_rfl
 have e24 : Tryd.prog.cellsOf 24 = 1 := by kernel_rfl
 have e26 : Tryd.prog.cellsOf 26 = 1 := by kernel_rfl
 have e27 : Tryd.prog.cellsOf 27 = 1 := by kernel_rfl
 have e28 : Tryd.prog.cellsOf 28 = 1 := by kernel_rfl
 obtain ⟨y0, h0⟩ := hf 0 _ rfl
 (try simp only [e9] at h0); (try simp only [Nat.reduceMul] at h0); (try simp only [List.drop_succ_cons] at h0); (try simp only [List.drop_zero] at h0); (try simp only [List.take_succ_cons] at h0); (try simp only [List.take_zero] at h0)
 obtain ⟨a0, rfl, ba0⟩ := trod_string_cell Tryd.underlying9 h0
 obtain ⟨y1, h1⟩ := hf 1 _ rfl
 (try simp only [e23] at h1); (try simp only [Nat.reduceMul] at h1); (try simp only [List.drop_succ_cons] at h1); (try simp only [List.drop_zero] at h1); (try simp only [List.take_succ_cons] at h1); (try simp only [List.take_zero] at h1)
 obtain ⟨a1, rfl, ba1⟩ := h1n Tryd.underlying23 h1
 replace ba1 := wf_u32 ba1
 obtain ⟨y2, h2⟩ := hf 2 _ rfl
 (try simp only [e24] at h2); (try simp only [Nat.reduceMul] at h2); (try simp only [List.drop_succ_cons] at h2); (try simp only [List.drop_zero] at h2); (try simp only [List.take_succ_cons] at h2); (try simp only [List.take_zero] at h2)
 obtain ⟨a2_a, a2_l, a2_c, rfl⟩ := h2o Tryd.underlying24 h2
 have ba2 : ∃ fuel y, DataW.trod enc Tryd.prog w base spare held fuel 24 [Value.slice a2_a a2_l a2_c] = some y := ⟨_, _, h2⟩
 obtain ⟨y3, h3⟩ := hf 3 _ rfl
 (try simp only [e26] at h3); (try simp only [Nat.reduceMul] at h3); (try simp only [List.drop_succ_cons] at h3); (try simp only [List.drop_zero] at h3); (try simp only [List.take_succ_cons] at h3); (try simp only [List.take_zero] at h3)
 obtain ⟨a3, rfl, ba3⟩ := h1n Tryd.underlying26 h3
 replace ba3 := wf_u16 ba3
 obtain ⟨y4, h4⟩ := hf 4 _ rfl
 (try simp only [e27] at h4); (try simp only [Nat.reduceMul] at h4); (try simp only [List.drop_succ_cons] at h4); (try simp only [List.drop_zero] at h4); (try simp only [List.take_succ_cons] at h4); (try simp only [List.take_zero] at h4)
 obtain ⟨a4_a, a4_l, a4_c, rfl⟩ := h2o Tryd.underlying27 h4
 have ba4 : ∃ fuel y, DataW.trod enc Tryd.prog w base spare held fuel 27 [Value.slice a4_a a4_l a4_c] = some y := ⟨_, _, h4⟩
 obtain ⟨y5, h5⟩ := hf 5 _ rfl
 (try simp only [e28] at h5); (try simp only [Nat.reduceMul] at h5); (try simp only [List.drop_succ_cons] at h5); (try simp only [List.drop_zero] at h5); (try simp only [List.take_succ_cons] at h5); (try simp only [List.take_zero] at h5)
 obtain ⟨a5_a, a5_l, a5_c, rfl⟩ := h2o Tryd.underlying28 h5
 have ba5 : ∃ fuel y, DataW.trod enc Tryd.prog w base spare held fuel 28 [Value.slice a5_a a5_l a5_c] = some y := ⟨_, _, h5⟩
 exact ⟨a0, a1, a2_a, a2_l, a2_c, a3, a4_a, a4_l, a4_c, a5_a, a5_l, a5_c, rfl, ba0, ba1, ba2, ba3, ba4, ba5⟩
theorem gcnd_open {H : Type} {enc : TypeId × Value → H} {w : World} {base : Nat} {spare : Nat → Bool} {held : Bool} {fuel : Nat} {cs : List Value} {x : DataW H × List MemPlace} (h : DataW.trod enc Tryd.prog w base spare held fuel 39 cs = some x) : ∃ c : GCnd, cs = c.cells ∧ c.ok := by
 obtain ⟨a0, a1, a2, a3, rfl, h0, h1, h2, h3⟩ := open_39 h
 obtain ⟨o, rfl⟩ := i_nat h1
 obtain ⟨m, rfl⟩ := i_nat h2
 obtain ⟨v, rfl⟩ := i_nat h3
 exact ⟨⟨a0, o, m, v⟩, rfl, h0, by show o < 256; omega, by show m < _; omega, by show v < _; omega⟩
structure GRulV where
 r : GRul
 v : Value
def GRulV.cells (x : GRulV) : List Value := [.int .u32 x.r.num, .int .u32 x.r.act, x.v]
structure GRulV.ok (B : List Blk) (x : GRulV) : Prop where
 r : x.r.ok
 v : CndS B x.v x.r.conds
theorem grul_open {H : Type} {enc : TypeId × Value → H} {w : World} {base : Nat} {spare : Nat → Bool} {held : Bool} {fuel : Nat} {cs : List Value} {x : DataW H × List MemPlace} (h : DataW.trod enc Tryd.prog w base spare held fuel 47 cs = some x) : ∃ (r : GRulV) (B : List Blk), cs = r.cells ∧ r.ok B ∧ ROnly w B := by
 obtain ⟨a0, a1, a2a, a2l, a2c, rfl, h0, h1, ⟨f2, y2, h2⟩⟩ := open_47 h
 obtain ⟨l1, B1, rfl, g1, s1, r1, m1, _, _⟩ := slice_list (cells:=GCnd.cells) (ok:=GCnd.ok) Tryd.underlying45 (sz:=4) (by kernel_rfl) (by omega) (fun _ _ => rfl) (fun _ _ _ h => gcnd_open h) h2
 exact ⟨⟨⟨a0, a1, l1⟩, _⟩, B1, rfl, ⟨⟨h0, h1, g1⟩, ⟨a2a, a2c, rfl, s1, m1⟩⟩, r1⟩
theorem grulG_of {B : List Blk} : ∀ l : List GRulV, (∀ x ∈ l, x.ok B) → RulsG B (l.map GRulV.r) (l.flatMap GRulV.cells)
 | [], _ => rfl
 | x :: r, h => ⟨x.v, r.flatMap GRulV.cells, rfl, (h x (List.mem_cons_self ..)).v, grulG_of r fun y hy => h y (List.mem_cons_of_mem _ hy)⟩
def ptcV (p : List UInt8 × Nat) : List Value := [.string (mB8 p.1), .int .u16 (p.2 : Nat)]
theorem ptc_open {H : Type} {enc : TypeId × Value → H} {w : World} {base : Nat} {spare : Nat → Bool} {held : Bool} {fuel : Nat} {cs : List Value} {x : DataW H × List MemPlace} (h : DataW.trod enc Tryd.prog w base spare held fuel 49 cs = some x) : ∃ p : List UInt8 × Nat, cs = ptcV p ∧ (p.1.length ≤ maxLen ∧ p.2 < 65536) := by
 obtain ⟨a0, a1, rfl, h0, h1⟩ := open_49 h
 obtain ⟨n, rfl⟩ := i_nat h1
 exact ⟨(lB a0, n), by rw [ptcV, mB8_lB], by rw [lB_len]; exact h0, by show n < 65536; omega⟩
def prcV (p : Nat × Nat) : List Value := [.int .u16 (p.1 : Nat), .int .u16 (p.2 : Nat)]
theorem prc_open {H : Type} {enc : TypeId × Value → H} {w : World} {base : Nat} {spare : Nat → Bool} {held : Bool} {fuel : Nat} {cs : List Value} {x : DataW H × List MemPlace} (h : DataW.trod enc Tryd.prog w base spare held fuel 51 cs = some x) : ∃ p : Nat × Nat, cs = prcV p ∧ (p.1 < 65536 ∧ p.2 < 65536) := by
 obtain ⟨a0, a1, rfl, h0, h1⟩ := open_51 h
 obtain ⟨n, rfl⟩ := i_nat h0
 obtain ⟨m, rfl⟩ := i_nat h1
 exact ⟨(n, m), rfl, by show n < 65536; omega, by show m < 65536; omega⟩
structure GplV where
 P : GPol
 vr : Value
 vp : Value
 vq : Value
abbrev GplV.cells (x : GplV) : List Value := polG x.P x.vr x.vp x.vq
structure GplV.ok (B : List Blk) (x : GplV) : Prop where
 r : GPolR x.P
 v : PolS B x.P x.vr x.vp x.vq
theorem GplV.ok.mono {B L : List Blk} {x : GplV} (h : x.ok B) (hs : SubB B L) : x.ok L := ⟨h.r, h.v.mono hs⟩
theorem policy_open {H : Type} {enc : TypeId × Value → H} {w : World} {base : Nat} {spare : Nat → Bool} {held : Bool} {fuel : Nat} {cs : List Value} {x : DataW H × List MemPlace} (h : DataW.trod enc Tryd.prog w base spare held fuel 30 cs = some x) : ∃ (s : GplV) (B : List Blk), cs = s.cells ∧ s.ok B ∧ ROnly w B := by
 obtain ⟨a0, a1, a2a, a2l, a2c, a3, a4a, a4l, a4c, a5a, a5l, a5c, rfl, h0, h1, ⟨f2, y2, h2⟩, h3, ⟨f4, y4, h4⟩, ⟨f5, y5, h5⟩⟩ := open_30 h
 obtain ⟨l2, B2, rfl, g2, s2, r2, m2, -, -⟩ := slice_listB (cells:=GRulV.cells) (ok:=GRulV.ok) Tryd.underlying24 (sz:=3) (by kernel_rfl) (by omega) (fun _ _ _ h => ⟨h.r, h.v.left⟩) (fun _ _ _ h => ⟨h.r, h.v.upA _⟩) (fun _ _ _ h => grul_open h) h2
 obtain ⟨l4, B4, rfl, g4, s4, r4, m4, -, -⟩ := slice_list (cells:=ptcV) (ok:=fun p : List UInt8 × Nat => p.1.length ≤ maxLen ∧ p.2 < 65536) Tryd.underlying27 (sz:=2) (by kernel_rfl) (by omega) (fun _ _ => rfl) (fun _ _ _ h => ptc_open h) h4
 obtain ⟨l5, B5, rfl, g5, s5, r5, m5, -, -⟩ := slice_list (cells:=prcV) (ok:=fun p : Nat × Nat => p.1 < 65536 ∧ p.2 < 65536) Tryd.underlying28 (sz:=2) (by kernel_rfl) (by omega) (fun _ _ => rfl) (fun _ _ _ h => prc_open h) h5
 obtain ⟨hd, rfl⟩ := i_nat h3
 have e2 : (l2.map GRulV.r).length = l2.length := List.length_map ..
 refine ⟨⟨⟨lB a0, a1, l2.map GRulV.r, hd, l4, l5⟩, _, _, _⟩, B2 ++ (B4 ++ B5), by rw [GplV.cells, polG, mB8_lB], ⟨⟨by show (lB a0).length ≤ maxLen; rw [lB_len]; exact h0, h1, ?_, by show hd < 65536; omega, g4, g5⟩, ⟨⟨a2a, a2c, l2.flatMap GRulV.cells, by rw [e2], by rw [e2]; exact s2.left, (grulG_of l2 g2).left⟩, ⟨a4a, a4c, rfl, (s4.left).upA B2⟩, ⟨a5a, a5c, rfl, (s5.upA B4).upA B2⟩, by show (l2.map GRulV.r).length ≤ maxLen; rw [e2]; exact m2, m4, m5⟩⟩, r2.app (r4.app r5)⟩
 intro r hr
 obtain ⟨x, hx, rfl⟩ := List.mem_map.1 hr
 exact (g2 x hx).r
end Go.Proofs.YtecbgehooembmaaDoor
namespace Go.Proofs.YtecbgehooembmaaDoor
open Go.ChangeShapes Go.WideShapes Go.ChangeAt Go.RowKit
theorem ownPolicyChecks : ownKnob Tryd.prog.godebug = none := by kernel_rfl
theorem h3p : laidOutB Tryd.prog = true := by kernel_rfl
theorem policyChecks_lifted (os : Os) (started : os.Started) (H : Type) (enc : TypeId × Value → H) :
  ReturnsInHanded {} Tryd.checked os 3 .any (fun w args => (Rows.policyChecksSpec.pre enc Tryd.prog Tryd.f3 [] false w args ∧ laidMetH Tryd.prog Rows.policyChecksRow.laid w) ∧ sizedMet enc Tryd.prog Tryd.f3 (OpenSpec.ofChange Rows.policyChecksSpec) false w args)
   (Rows.policyChecksSpec.post enc Tryd.prog Tryd.f3 false true false false) := by
 refine returnsInHanded_of_change_and (C:=Tryd.checked) (X:=fun w _ => laidMetH Tryd.prog Rows.policyChecksRow.laid w) (fun _ _ _ hh h => h.of_heap hh) ownPolicyChecks started (by kernel_rfl) Tryd.func3
  (ChangeSpec.witness_shaped (enc:=enc) (C:=Tryd.checked) (os:=os) (X:=fun w _ => laidMetH Tryd.prog Rows.policyChecksRow.laid w) false (World.laidAll Tryd.prog os Rows.policyChecksRow.laid) #[.agg #[.string ⟨#[]⟩, .int .u32 0, .slice none 0 0, .int .u16 0, .slice none 0 0, .slice none 0 0], .agg #[.int .u8 0, .int .u8 0, .int .u8 0, .slice none 0 0, .int .u16 0, .slice none 0 0, .slice none 0 0, .slice none 0 0], .agg #[.int .i64 0, .int .u8 0, .int .u64 0, .int .u64 0], .int .u8 0, .int .u16 0] 8 (World.laidAll_os _ _ _)
   (World.shaped_of_ZipB (by kernel_rfl) (by kernel_rfl)) (by kernel_rfl) (by kernel_rfl) (by kernel_rfl)
   (by rw [MakeChecks.laidMetH_plain _ _ _ (by kernel_rfl)]; exact laidMet_laidAll _ (by kernel_rfl) (by kernel_rfl))) ?_
 intro W base args ds gs before hval0 hW _ _ _ _
 have hval : ∀ (j : Nat) t v, Tryd.f3.params[j]? = some t → args[j]? = some v → Value.okWide Tryd.prog W .any base t v := hval0
 have hW' := hW
 obtain ⟨p, q, hA0, hV, rfl, hfz, hnd⟩ := hW
 have hA : DataW.TrodAll enc Tryd.prog W 0 (fun _ => true) true Tryd.f3.params.toList args.toList ds p := hA0
 rw [Tryd.params3] at hA hval
 obtain ⟨v0, vs0, d0, ds0, p0, q0, hargs, rfl, rfl, h0, r0⟩ := trodAll_cons hA
 obtain ⟨v1, vs1, d1, ds1, p1, q1, rfl, rfl, rfl, h1, r1⟩ := trodAll_cons r0
 obtain ⟨v2, vs2, d2, ds2, p2, q2, rfl, rfl, rfl, h2, r2⟩ := trodAll_cons r1
 obtain ⟨v3, vs3, d3, ds3, p3, q3, rfl, rfl, rfl, h3, r3⟩ := trodAll_cons r2
 obtain ⟨v4, vs4, d4, ds4, p4, q4, rfl, rfl, rfl, h4, r4⟩ := trodAll_cons r3
 obtain ⟨rfl, rfl, rfl⟩ := trodAll_nil r4
 obtain rfl : args = #[v0, v1, v2, v3, v4] := by cases args; simp_all
 obtain ⟨rfl, rfl⟩ := trodVars_none hV
 have k0 := h0
 have lt0 : ∀ x ∈ p0, x.block < W.heap.size := by obtain ⟨m, hm⟩ := k0; exact DataW.trod_lt m _ _ _ hm
 have k1 := h1
 have lt1 : ∀ x ∈ p1, x.block < W.heap.size := by obtain ⟨m, hm⟩ := k1; exact DataW.trod_lt m _ _ _ hm
 have k2 := h2
 have lt2 : ∀ x ∈ p2, x.block < W.heap.size := by obtain ⟨m, hm⟩ := k2; exact DataW.trod_lt m _ _ _ hm
 have k3 := h3
 have lt3 : ∀ x ∈ p3, x.block < W.heap.size := by obtain ⟨m, hm⟩ := k3; exact DataW.trod_lt m _ _ _ hm
 have k4 := h4
 have lt4 : ∀ x ∈ p4, x.block < W.heap.size := by obtain ⟨m, hm⟩ := k4; exact DataW.trod_lt m _ _ _ hm
 obtain ⟨a3, rfl, rfl, rfl, w3⟩ := open_int Tryd.underlying5 (hval 3 5 v3 rfl rfl) h3
 have b3 := wf_u8 w3
 obtain ⟨a4, rfl, rfl, rfl, w4⟩ := open_int Tryd.underlying25 (hval 4 25 v4 rfl rfl) h4
 have b4 := wf_u16 w4
 obtain ⟨cs0, rfl, _⟩ := okWide_struct Tryd.underlying30 (hval 0 30 v0 rfl rfl)
 obtain ⟨f0, hf0⟩ := h0
 obtain ⟨a0, B0, e0, b0, ro0⟩ := policy_open hf0
 obtain rfl : cs0 = a0.cells.toArray := by apply Array.ext'; simpa [Value.cells] using e0
 obtain ⟨cs1, rfl, _⟩ := okWide_struct Tryd.underlying35 (hval 1 35 v1 rfl rfl)
 obtain ⟨f1, hf1⟩ := h1
 obtain ⟨a1, B1, e1, b1, ro1⟩ := small_openP hf1
 obtain rfl : cs1 = a1.cells.toArray := by apply Array.ext'; simpa [Value.cells] using e1
 obtain ⟨cs2, rfl, _⟩ := okWide_struct Tryd.underlying39 (hval 2 39 v2 rfl rfl)
 obtain ⟨f2, hf2⟩ := h2
 obtain ⟨a2, e2, b2⟩ := gcnd_open hf2
 obtain rfl : cs2 = a2.cells.toArray := by apply Array.ext'; simpa [Value.cells] using e2
 have S0 := b0.mono (L:=(B0 ++ B1)) (SubB.left _ _)
 have S1 := b1.mono (L:=(B0 ++ B1)) (SubB.upA (SubB.refl _))
 clear hA0 hval0
 refine ((policyChecks_i (S:=[]) (w0:=W) (L:=(B0 ++ B1)) a0.P S0.r a0.vr a0.vp a0.vq S0.v a1.s S1.s a1.vr a1.vp a1.vg a1.vq S1.v a2 b2 a3 b3 a4 b4).out W (HP.ro (ro0.app ro1))).mono fun e W' ⟨v, L', he, ⟨hv, _⟩, H'⟩ => ?_
 subst he hv
 have bel := H'.below
 exact ⟨_, rfl, _, _, _, [], _, [], hW', trodAll_mk1 (shut_bool Tryd.underlying4 _), (trodAll_cons_mk (Below.trod h3p (by kernel_rfl) (of_decide_eq_true (by kernel_rfl)) k0 bel lt0) (trodAll_cons_mk (Below.trod h3p (by kernel_rfl) (of_decide_eq_true (by kernel_rfl)) k1 bel lt1) (trodAll_cons_mk (Below.trod h3p (by kernel_rfl) (of_decide_eq_true (by kernel_rfl)) k2 bel lt2) (trodAll_cons_mk (Below.trod h3p (by kernel_rfl) (of_decide_eq_true (by kernel_rfl)) k3 bel lt3) (trodAll_cons_mk (Below.trod h3p (by kernel_rfl) (of_decide_eq_true (by kernel_rfl)) k4 bel lt4) trodAll_mk0))))), rfl, bel.frame _, fun h => by cases h⟩
theorem policyChecks_said : Rows.PolicyChecksSaid :=
 OpenClaim.holds_of_wide 3 Tryd.f3 rfl rfl rfl rfl rfl rfl rfl ⟨rfl, rfl, rfl, rfl, rfl⟩ rfl rfl rfl rfl rfl (by kernel_rfl) Tryd.func3 (by kernel_rfl)
  (of_decide_eq_true (by kernel_rfl)) (by unfold Func.isWrapper; first | (rw [if_pos (by decide +kernel)]; kernel_rfl) | (rw [if_neg (by decide +kernel)]; exact ⟨rfl, rfl⟩))
  (fun os started H enc _ => policyChecks_lifted os started H enc)
theorem policyChecks_plain (f : FuncId) (fn : Func) (hf : Tryd.pinned.checked.prog.funcNamed "pinfold/pinfoldlaw09.PolicyChecks" = some f) (hfn : Tryd.pinned.checked.prog.funcs[f]? = some fn) :
  false = Tryd.pinned.checked.prog.looks [] ∧ ∀ (j : Nat) t, fn.params[j]? = some t → Tryd.pinned.checked.prog.wantsStandIn t = false := by
 obtain rfl : f = 3 := Option.some.inj ((show Tryd.prog.funcNamed "pinfold/pinfoldlaw09.PolicyChecks" = some 3 by kernel_rfl).symm.trans hf) |>.symm
 obtain rfl : fn = Tryd.f3 := (Option.some.inj (Tryd.func3.symm.trans hfn)).symm
 refine ⟨by kernel_rfl, fun j t ht => ?_⟩
 rw [Tryd.params3] at ht
 have hm : t ∈ [30, 35, 39, 5, 25] := by simpa using Array.mem_of_getElem? ht
 have hall : ([30, 35, 39, 5, 25].all fun u => !Tryd.prog.wantsStandIn u) = true := by kernel_rfl
 exact (show Tryd.prog.wantsStandIn t = false by simpa using List.all_eq_true.1 hall t hm)
theorem policyChecks_holds : Rows.PolicyChecksCardSaid :=
 Claim7.holds_tied_plain_at .later [] _ _ _ _ policyChecks_said (fun _ h => by cases h) (by kernel_rfl) (fun _ h => by cases h) policyChecks_row_tie rfl ⟨rfl, rfl⟩ (by kernel_rfl) rfl policyChecks_plain (by kernel_rfl)
#print axioms policyChecks_holds
end Go.Proofs.YtecbgehooembmaaDoor
