/- The law ParseBack returns true at every input and leaves its arguments as they were. No condition. -/
import Derived.Test.YtecbgehooembmaaGreatDoorQb11
set_option maxRecDepth 100000
namespace Go.Proofs.YtecbgehooembmaaGreatDoor
open Go Go.RowKit
structure QuO (E L0 : List Blk) (cs : Array Value) (k : Nat) (G : GPol) (r1 p1 q1 : Option Addr) (r3 p3 q3 : Nat) : Prop where
 at_ : (cs.toList.drop (k * 6)).take 6 = [.string (mB8 G.nm), .int .u32 G.df, .slice r1 G.rules.length r3, .int .u16 (G.hd : Nat), .slice p1 G.paths.length p3, .slice q1 G.ports.length q3]
 ok : G.ok
 len : G.rules.length ≤ 1000
 s : PolS (E ++ L0) G (.slice r1 G.rules.length r3) (.slice p1 G.paths.length p3) (.slice q1 G.ports.length q3)
set_option maxHeartbeats 2000000 in
theorem parseBack_c {S w0 L} (s : SPol) (hs : s.ok) (svr svp svg svq : Value) (hS : SPolS L s svr svp svg svq) (P : GPol) (hP : GPolR P) (vr vp vq : Value) (hPS : PolS L P vr vp vq) (g : Bool) :
  Fn Tryz.prog 6 #[.agg #[.int .u8 s.nm, .int .u8 s.df, .int .u8 s.en, svr, .int .u16 (s.hd : Nat), svp, svg, svq], .agg (polG P vr vp vq).toArray, .bool g] S w0 L fun v L' => v = .bool true ∧ L = L' := by
 obtain ⟨⟨ra, rc, cz, rfl, -, -⟩, ⟨pa, pc, rfl, -⟩, ⟨qa, qc, rfl, -⟩, -, -, -⟩ := id hPS
 obtain ⟨⟨sa, sc, sz, rfl, -, -⟩, ⟨ta, tc, rfl, -⟩, ⟨ua, uc, rfl, -⟩, ⟨xa, xc, rfl, -⟩, -, -, -, -⟩ := id hS
 have hfw := fun (x y : Blk) => few_c (S:=S) (w0:=w0) (L:=[x, y] ++ L) P _ _ _ (hPS.upA [x, y]) (fun p hp => (hP.paths p hp).1) hP.nm
 dsimp only [polG, List.cons_append, List.nil_append] at hfw ⊢
 refine Fn3 Tryz.func6 Tryz.ntmps6 rfl rfl ?_
 repeat' (first | (refine h3s (id:=5) ?_) | refine h0i ?_ | refine h0b ?_ | refine h0t ?_ | refine h0r ?_ | refine h0v ?_ | refine h0g rfl ?_ | refine h0f rfl ?_ | (refine gR 0 ?_ <;> (try refine h0c ?_; (refine h2n (t:=48) rfl rfl ?_; intro nb hnb; (try simp only [Value.cells]))) <;> (try refine h0c ?_; (refine h2n (t:=36) rfl rfl ?_; intro nb hnb; (try simp only [Value.cells]))) <;> (try refine p_a (h:=h0a ?_))) | (refine gR 1 ?_ <;> (try refine h0c ?_; (refine q_c 8 (c:=by apply awake10_c) (h:=?_); rintro _ _ ⟨rfl, rfl⟩; (try simp only [zzE, zzF]))) <;> (try refine p_e (by apply h5m; exact rfl; exact h1r) (h:=h0a ?_))) | (refine gR 3 (q_e (q_L sz_36) ?_) <;> (try refine h0c ?_; ((refine q_c 16 (c:=by apply hfw) (h:=?_); rintro _ _ ⟨b, rfl, hb, rfl⟩; (try simp only [zzE, zzF])); cases b)) <;> (try refine p_e (by apply h5m; exact rfl; (focus (first | exact h1r | exact h3o))) (h:=h0a ?_))) | (refine gR 4 (p_a (h:=h0a ?_))))
 ·(refine h0o Tryz.results6 (.tmp rfl .nil) ?_)
  exact ⟨_, ⟨rfl, rfl⟩, by intro w H; refine H.sub ?_; (try simp only [zzC, zzN]); repeat (first | exact List.Sublist.refl _ | refine List.Sublist.cons _ ?_)⟩
 refine ⟨?_⟩
 have hG := hP.ok (hb rfl)
 have hfew := hb rfl
 clear hfw hb hP
 rename_i n3 _
 obtain ⟨n4, rfl⟩ : ∃ x, x = nb := ⟨_, rfl⟩
 have hsp := fun (L' : List Blk) hX => smpol_m (S:=S) (w0:=w0) (L:=L') (X:=L) s hs _ _ _ _ hS hX
 repeat' (first | (refine h2h (id:=0) ?_) | refine h0i ?_ | refine h0b ?_ | (refine gR 5 ?_ <;> (try refine h0c ?_; (refine q_c 9 (c:=by apply new_q) (h:=?_); rintro _ _ ⟨pb, ct, rb, rfl, rfl⟩; (try simp only [zzE, zzF]))) <;> (try refine p_a (h:=h0a ?_))) | ((refine h1z (id:=6) (m:=6) (by kernel_rfl) rfl (q_u 0 (x:=by exact q_L sz_36) (h:=q_u 1 (x:=by exact q_L sz_48) (h:=q_u 5 (x:=by exact h0h rfl) (h:=?_))))) <;> (try refine q_r 2 ?_; (refine q_c 12 (c:=by apply hsp; (focus ((try simp only [zzC, zzN, List.append_assoc]); (repeat' (first | (with_reducible exact SubB.refl _) | (with_reducible apply SubB.up)))))) (h:=?_); rintro _ _ ⟨P2, r1, p1, q1, r3, p3, q3, E, rfl, hok2, hrn2, hS2, hi2, rfl⟩; (try simp only [zzE, zzF])); refine h1b c_17 ?_) <;> (try refine q_r 3 ?_; (refine h0m (t:=58) (m:=2) (e:=36) (fun vs => (match vs with | [(_, x0), (_, x1)] => x0.cells.toList ++ x1.cells.toList | _ => [])) rfl rfl (fun w => by kernel_rfl) ?_; intro nb hnb; (try simp only [Value.cells]); (try simp only [zzC, zzN])); refine h1b (by intro w H; repeat (first | exact H | (replace H := H.tail) | (replace H := H.dropA))) ?_) <;> (try refine q_t 4 (e:=(by intro w H; repeat (first | exact H | (replace H := H.tail) | (replace H := H.dropA)))) (x:=by apply h0e; exact rfl; exact (fun _ => BigFrame.builtin_len ..); apply h0d Tryz.underlying58; exact h3m) (h:=h1a (by kernel_rfl) ?_))))
 refine ⟨?_⟩
 obtain ⟨nbS, rfl⟩ : ∃ x, x = nb := ⟨_, rfl⟩
 obtain ⟨cs2, hcs⟩ : ∃ c : Array Value, c = #[.string (mB8 P.nm), .int .u32 P.df, .slice ra P.rules.length rc, .int .u16 (P.hd : Nat), .slice pa P.paths.length pc, .slice qa P.ports.length qc, .string (mB8 P2.nm), .int .u32 P2.df, .slice r1 P2.rules.length r3, .int .u16 (P2.hd : Nat), .slice p1 P2.paths.length p3, .slice q1 P2.ports.length q3] := ⟨_, rfl⟩
 obtain ⟨L0, hL0⟩ : ∃ M : List Blk, M = ⟨true, n4, .cells #[.string (mB8 P.nm), .int .u32 P.df, .slice ra P.rules.length rc, .int .u16 (P.hd : Nat), .slice pa P.paths.length pc, .slice qa P.ports.length qc] 36 (0, 0)⟩ :: smB n3 s.nm s.df s.en (.slice sa s.rules.length sc) s.hd (.slice ta s.paths.length tc) (.slice ua s.rights.length uc) (.slice xa s.ports.length xc) :: L := ⟨_, rfl⟩
 have hLL : L.Sublist L0 := hL0 ▸ (List.sublist_cons_self _ _).trans (List.sublist_cons_self _ _)
 have hPL : PolS L0 P (.slice ra P.rules.length rc) (.slice pa P.paths.length pc) (.slice qa P.ports.length qc) := hPS.mono ⟨fun _ hb => hLL.subset hb⟩
 have hz2 : cs2.size = 12 := by rw [hcs]; rfl
 have hel : ∀ k, k < 2 → ∃ G r1 p1 q1 r3 p3 q3, QuO E L0 cs2 k G r1 p1 q1 r3 p3 q3 := by
  intro k hk
  obtain rfl | rfl : k = 0 ∨ k = 1 := by omega
  ·refine ⟨P, ra, pa, qa, rc, pc, qc, by rw [hcs]; rfl, hG, by have := hfew.l1; omega, hPL.upA E⟩
  ·exact ⟨P2.g, r1, p1, q1, r3, p3, q3, by rw [hcs]; show _ = ([.string (mB8 P2.nm), .int .u32 P2.df, .slice r1 (P2.rules.map RulP.g).length r3, .int .u16 (P2.hd : Nat), .slice p1 P2.paths.length p3, .slice q1 P2.ports.length q3] : List Value); rw [List.length_map]; rfl, pol_gok hok2 hrn2, (pol_fewN hok2).l1, by
    have e : P2.g.rules.length = P2.rules.length := List.length_map ..
    rw [e]; exact hS2.left⟩
 refine h0j ?_
 refine h2i (γ:=Nat × Nat × List Blk) (fun g => g.1 ≤ 2 ∧ g.2.1 ≤ 2000 * g.1 ∧ PrE pb ct rb g.2.1 L0 g.2.2) (fun g => 2 - g.1) (fun g => [(27, .int .i64 (g.1 : Nat))]) [(2, _), (7, _), (25, _), (26, _)]
  (fun g => ⟨true, nbS, .cells cs2 36 (0, 0)⟩ :: (E ++ g.2.2)) (0, 0, prB pb ct rb :: (tbS ct 0 0 0 ++ (Rg.wst rb none ++ L0))) (.cons rfl (.cons rfl (.cons rfl (.cons rfl .nil)))) ⟨Nat.zero_le _, Nat.zero_le _, ⟨0, 0, none, rfl⟩⟩ (by (focus (repeat (first | exact Sub.nil | refine Sub.cons rfl ?_)))) (by intro w H; rw [hcs, hL0]; exact H) ?_
 clear hcs hL0 hPS hPL hS hG hfew hsp hok2 hrn2 hi2 hS2
 rintro ⟨k, n, M⟩ ⟨hk, hn, hM⟩
 dsimp only at hk hn hM ⊢
 by_cases hlt : k < 2
 case neg =>
  repeat' (first | refine h0i ?_ | refine h0b ?_ | refine h1p ?_ | refine h1f ?_ | refine h1o ?_ | refine h2c ?_ | refine h0v ?_ | refine h0f rfl ?_ | (refine gR 7 (p_e (q_b (r:=by exact h0y q_o)) (h:=h0a ?_))) | (refine gR 27 (p_a (h:=h0a ?_))))
  (refine h0o Tryz.results6 (.tmp rfl .nil) ?_)
  exact ⟨_, ⟨rfl, rfl⟩, fun w H => H.sub (((hLL.trans hM.sub).trans (List.sublist_append_right _ _)).trans (List.sublist_cons_self _ _))⟩
 obtain ⟨G, y1, y2, y3, z1, z2, z3, hat, hGok, hGl, hGS⟩ := hel k hlt
 have hcl := fun (n : Nat) (M L B : List Blk) => calls_t (S:=S) (w0:=w0) (pb:=pb) (ct:=ct) (rb:=rb) (n:=n) (L0:=L0) (M:=M) (L:=L) (B:=B)
 have hck := fun (n : Nat) (M L B : List Blk) => check_m (S:=S) (w0:=w0) (pb:=pb) (ct:=ct) (rb:=rb) (n:=n) (L0:=L0) (M:=M) (L:=L) (B:=B) (E:=E) G hGok hGl hGS
 by_cases hz : chkG G = 0
 case neg =>
  have hzi : ¬ ((chkG G : Nat) : Int) = 0 := by omega
  clear hel
  generalize chkG G = ck at *
  repeat' (first | refine h0i ?_ | refine h0b ?_ | refine h0s ?_ | refine h1f ?_ | refine h1o ?_ | refine h0j ?_ | refine h0r ?_ | refine h2c ?_ | refine h0g rfl ?_ | (refine gR 7 (p_e (q_b (r:=by exact h0u q_o)) (h:=h0a ?_))) | (refine gR 8 (p_e (by apply h0n; exact rfl; exact rfl; (focus (apply h2j Tryz.underlying58 sz_36; omega; omega; exact c_1))) (h:=q_e (by apply h1u (t:=36); exact rfl; exact fd0; kernel_rfl; kernel_rfl; exact sz_36; (focus (omega)); (with_reducible assumption)) ?_)) <;> (try refine h0c ?_; (refine h0k (t:=36) rfl Tryz.zeroValue36 ?_; intro nb hnb; (try simp only [Value.cells]))) <;> (try refine h0c ?_; (refine q_W ?_)) <;> (try refine h0a ?_)) | ((refine h2s (pre:=[_, _]) (id:=9) (m:=5) rfl (by kernel_rfl) rfl (q_t 0 (e:=h3e) (x:=by exact q_L sz_36) (h:=q_t 1 (e:=h3e) (x:=by exact h0h rfl) (h:=?_)))) <;> (try refine q_r 2 ?_; (refine q_c 11 (c:=by apply hcl; (with_reducible assumption); (focus ((try simp only [zzC, zzN]); (repeat' (first | (with_reducible exact Tl.one _ _) | (with_reducible apply Tl.cons)))))) (h:=?_); rintro _ _ ⟨rfl, rfl⟩; (try simp only [zzE, zzF])); refine h1b h3e ?_) <;> (try refine q_r 3 ?_; ((refine q_c 17 (c:=by apply hck; (with_reducible assumption); (focus (omega)); (focus ((try simp only [zzC, zzN]); (repeat' (first | (with_reducible exact Tl.nil _) | (with_reducible apply Tl.cons)))))) (h:=?_); rintro _ _ ⟨n4', M4, rfl, hn4, hM4, rfl⟩; (try simp only [zzE, zzF])); (try simp only [zzC, zzN])); refine h1b h3e ?_) <;> (try refine q_t 4 (e:=h3e) (x:=by exact q_b (r:=by exact h2p q_o)) (h:=h1a (by kernel_rfl) ?_))) | (refine gR 26 ?_ <;> (try refine q_e (q_b (r:=by apply h1n; exact c_5; (focus (refine IntWalk.i64_in _ ?_; omega)))) ?_) <;> (try refine p_m (h:=h0a ?_))))
  exact h0w (k + 1, n4', M4) ⟨⟨by show k + 1 ≤ 2; omega, by dsimp only; omega, hM4⟩, by show 2 - (k + 1) < 2 - k; omega⟩ (by (focus (repeat (first | exact Sub.nil | refine Sub.cons rfl ?_)))) c_23
 rw [hz] at hck
 obtain ⟨hok, hrn⟩ := gpol_ok hz hGok
 obtain ⟨P', hP'⟩ : ∃ P' : Pol, P' = G.p := ⟨_, rfl⟩
 have hPg : P'.g = G := hP' ▸ gpol_pg hz
 rw [← hP'] at hok hrn
 clear hP'
 subst hPg
 have z0 : ((0 : Nat) : Int) = 0 := rfl
 rw [z0] at hck
 have elr : P'.g.rules.length = P'.rules.length := List.length_map ..
 rw [elr] at hck hGS hat
 have hb := (polL_ok P' hok hrn).2
 have hwz : (mB8 (wideT (polT P'))).size ≤ 500000 := by
  rw [h2d]
  unfold wideT
  rw [List.length_append]
  have := wide_le (polT P')
  have : whead.length = 9 := rfl
  omega
 have hP1 : polF (lB (mB8 (polT P'))) = (P', (0, 0, 0)) := by rw [h3y]; exact pol_back P' hok hrn
 have hP2 : polF (lB (mB8 (wideT (polT P')))) = (P', (0, 0, 0)) := by rw [h3y]; exact pol_wide P' hok hrn
 have hby := polT_byte P' hok hrn
 have hxt := fun (n : Nat) (M L B : List Blk) => text_m (S:=S) (w0:=w0) (pb:=pb) (ct:=ct) (rb:=rb) (n:=n) (L0:=L0) (M:=M) (L:=L) (B:=B) (E:=E) P' hok hrn hGS
 have hpr := fun (t : ByteArray) (ht : t.size ≤ 500000) (hp : polF (lB t) = (P', (0, 0, 0))) (n : Nat) (M L B : List Blk) => parse_t (S:=S) (w0:=w0) (pb:=pb) (ct:=ct) (rb:=rb) (n:=n) (L0:=L0) (M:=M) (L:=L) (B:=B) t (by omega) P' 0 0 0 hp (pol_cl hok)
 have hsm := fun (L X1 X2 : List Blk) (vr vp vq ur up uq : Value) => same_m (S:=S) (w0:=w0) (L:=L) (X1:=X1) (X2:=X2) P'.g (vr:=vr) (vp:=vp) (vq:=vq) (ur:=ur) (up:=up) (uq:=uq)
 have hrf := fun (L X : List Blk) (vr vp vq : Value) => ref_m (S:=S) (w0:=w0) (L:=L) (X:=X) P'.g hGok (pol_fewN hok) (vr:=vr) (vp:=vp) (vq:=vq)
 have hrs := fun (L X1 X2 : List Blk) (vr vp vq ur up uq : Value) => rsame_m (S:=S) (w0:=w0) (L:=L) (X1:=X1) (X2:=X2) P'.g (vr:=vr) (vp:=vp) (vq:=vq) (ur:=ur) (up:=up) (uq:=uq)
 rw [elr] at hrf
 simp only [z0] at hpr
 have hlr := hok.l1
 have hq0 : RBin Tryz.prog .neq 25 (.agg #[.int .i64 0, .int .i64 0, .int .i64 0]) (.agg #[.int .i64 0, .int .i64 0, .int .i64 0]) (.bool false) := by
  have := wr_ne 0 0 0
  rw [decide_eq_true (rfl : ((0, 0, 0) : Wr) = (0, 0, 0))] at this
  exact this
 simp only [show P'.g.nm = P'.nm from rfl, show P'.g.df = P'.df from rfl, show P'.g.hd = P'.hd from rfl, show P'.g.paths = P'.paths from rfl, show P'.g.ports = P'.ports from rfl] at hck hat hGS hsm hrf hrs hxt
 clear z0 hok hrn hz hGok hGl elr hel
 generalize polT P' = bs at *
 generalize mB8 P'.nm = nmB at *
 generalize P'.g = G at *
 generalize P'.rules.length = lr at *
 generalize P'.paths.length = lp at *
 generalize P'.ports.length = lq at *
 generalize P'.df = df at *
 generalize P'.hd = hd at *
 repeat' (first | (refine G_markc (t:=40) ?_) | refine h0i ?_ | refine h0b ?_ | refine h0j ?_ | refine h0r ?_ | refine h0g rfl ?_ | refine h0f rfl ?_ | (refine gR 7 (p_e (q_b (r:=by exact h0u q_o)) (h:=h0a ?_))) | (refine gR 8 (p_e (by apply h0n; exact rfl; exact rfl; (focus (apply h2j Tryz.underlying58 sz_36; omega; omega; exact c_1))) (h:=q_e (by apply h1u (t:=36); exact rfl; exact fd0; kernel_rfl; kernel_rfl; exact sz_36; (focus (omega)); (with_reducible assumption)) ?_)) <;> (try refine h0c ?_; (refine h0k (t:=36) rfl Tryz.zeroValue36 ?_; intro nb hnb; (try simp only [Value.cells]))) <;> (try refine h0c ?_; (refine q_W ?_)) <;> (try refine h0a ?_)) | ((refine h2s (pre:=[_, _]) (id:=9) (m:=5) rfl (by kernel_rfl) rfl (q_t 0 (e:=h3e) (x:=by exact q_L sz_36) (h:=q_t 1 (e:=h3e) (x:=by exact h0h rfl) (h:=?_)))) <;> (try refine q_r 2 ?_; (refine q_c 11 (c:=by apply hcl; (with_reducible assumption); (focus ((try simp only [zzC, zzN]); (repeat' (first | (with_reducible exact Tl.one _ _) | (with_reducible apply Tl.cons)))))) (h:=?_); rintro _ _ ⟨rfl, rfl⟩; (try simp only [zzE, zzF])); refine h1b h3e ?_) <;> (try refine q_r 3 ?_; ((refine q_c 17 (c:=by apply hck; (with_reducible assumption); (focus (omega)); (focus ((try simp only [zzC, zzN]); (repeat' (first | (with_reducible exact Tl.nil _) | (with_reducible apply Tl.cons)))))) (h:=?_); rintro _ _ ⟨n4', M4, rfl, hn4, hM4, rfl⟩; (try simp only [zzE, zzF])); (try simp only [zzC, zzN])); refine h1b h3e ?_) <;> (try refine q_t 4 (e:=h3e) (x:=by exact q_b (r:=by refine h1w ?_; first | rfl | (with_reducible assumption) | (decide; done) | omega)) (h:=?_)) <;> (try refine h1a (by kernel_rfl) ?_)) | ((refine h2s (pre:=[_, _]) (id:=10) (m:=5) rfl (by kernel_rfl) rfl (q_t 0 (e:=h3e) (x:=by exact q_L sz_36) (h:=q_t 1 (e:=h3e) (x:=by exact h0h rfl) (h:=?_)))) <;> (try refine q_r 2 ?_; (refine q_c 11 (c:=by apply hcl; (with_reducible assumption); (focus ((try simp only [zzC, zzN]); (repeat' (first | (with_reducible exact Tl.one _ _) | (with_reducible apply Tl.cons)))))) (h:=?_); rintro _ _ ⟨rfl, rfl⟩; (try simp only [zzE, zzF])); refine h1b h3e ?_) <;> (try refine q_r 3 ?_; ((refine q_c 13 (c:=by apply hxt; (with_reducible assumption); (focus (omega)); (focus ((try simp only [zzC, zzN]); (repeat' (first | (with_reducible exact Tl.nil _) | (with_reducible apply Tl.cons)))))) (h:=?_); rintro _ _ ⟨M5, rfl, hM5, rfl⟩; (try simp only [zzE, zzF])); (try simp only [zzC, zzN])); refine h1b h3e ?_) <;> (try refine q_t 4 (e:=h3e) (x:=by exact h3f rfl) (h:=h1a (by kernel_rfl) ?_))) | (refine gR 11 (p_m (h:=h0a ?_))))
 refine ⟨?_⟩
 obtain ⟨n9, rfl⟩ : ∃ x, x = nb := ⟨_, rfl⟩
 refine h2q (γ:=ByteArray) (fun t => t.size ≤ 500000 ∧ polF (lB t) = (P', (0, 0, 0))) (fun t => [(10, .string t)]) [(2, _), (7, _), (9, _), (25, _), (26, _), (27, _)]
  (fun _ => poB n9 nmB df (.slice y1 lr z1) hd (.slice y2 lp z2) (.slice y3 lq z3) :: ⟨true, nbS, .cells cs2 36 (0, 0)⟩ :: (E ++ M5)) (.cons rfl (.cons rfl (.cons rfl (.cons rfl (.cons rfl (.cons rfl .nil)))))) ?_ ?_
 ·clear hpr hsm hrf hrs hxt hck hcl hq0
  cases g with
  | false =>
   repeat' (first | refine h0s ?_ | refine h0r ?_ | refine h0f rfl ?_)
   exact h0w (mB8 bs) ⟨by rw [h2d]; omega, hP1⟩ (by (focus (repeat (first | exact Sub.nil | refine Sub.cons rfl ?_)))) c_28
  | true =>
   repeat' (first | (refine h2h (id:=2) ?_) | refine h0i ?_ | refine h0b ?_ | refine h0g rfl ?_ | (refine gR 12 (p_a (h:=h0a ?_))) | (refine gR 13 (q_m ?_) <;> (try refine h0c ?_; (refine K1_rangeStr rfl rfl Tryz.underlying9 ?_; intro nb hnb)) <;> (try refine h0a ?_)))
   refine ⟨?_⟩
   obtain ⟨nbI, rfl⟩ : ∃ x, x = nb := ⟨_, rfl⟩
   have hbz : (mB8 bs).size = bs.length := h2d bs
   refine h0j ?_
   refine h2i (γ:=Nat) (fun p => p ≤ bs.length) (fun p => bs.length - p) (fun p => [(11, .string (mB8 (whead ++ (bs.take p).flatMap wideB)))]) [(2, _), (7, _), (9, _), (25, _), (26, _), (27, _), (42, _)]
    (fun p => iterB nbI (mB8 bs) p :: poB n9 nmB df (.slice y1 lr z1) hd (.slice y2 lp z2) (.slice y3 lq z3) :: ⟨true, nbS, .cells cs2 36 (0, 0)⟩ :: (E ++ M5)) 0 (.cons rfl (.cons rfl (.cons rfl (.cons rfl (.cons rfl (.cons rfl (.cons rfl .nil))))))) (Nat.zero_le _) (by (focus (repeat (first | exact Sub.nil | refine Sub.cons rfl ?_)))) (fun _ H => H) ?_
   intro p hp
   (try dsimp only)
   by_cases hlp : p < bs.length
   case neg =>
    obtain rfl : p = bs.length := by omega
    rw [List.take_length]
    repeat' (first | refine h0i ?_ | refine h0b ?_ | refine h0s ?_ | refine h1p ?_ | refine h1f ?_ | refine h1o ?_ | refine h2c ?_ | refine h0f rfl ?_ | (refine gR 14 ?_ <;> (try refine h0c ?_; (apply K1_nextOver; exact rfl; exact rfl; exact fd0; omega)) <;> (try refine p_x (h:=h0a ?_))) | (refine gR 22 (p_m (h:=p_a (h:=h0a ?_)))))
    exact h0w (mB8 (wideT bs)) ⟨hwz, hP2⟩ (by (focus (repeat (first | exact Sub.nil | refine Sub.cons rfl ?_)))) c_23
   have hlt8 : p < (mB8 bs).size := by omega
   have hc8 := hby _ (List.getElem_mem hlp)
   have hd := decode_ascii (mB8 bs) p hlt8 (by rw [mB8_get hlt8 hlp]; exact hc8)
   rw [mB8_get hlt8 hlp] at hd
   have hwt := wide_take hlp
   have hsz : (mB8 (whead ++ (bs.take p).flatMap wideB)).size ≤ 495018 := by
    rw [h2d, List.length_append]
    have h1 := wide_le (bs.take p)
    have h2 : (bs.take p).length ≤ bs.length := by rw [List.length_take]; omega
    have : whead.length = 9 := rfl
    omega
   generalize bs[p] = c at *
   have hd1 : ((Utf8.decode (mB8 bs) p).1 : Int) = c.toNat := by rw [hd]
   have hd2 : (Utf8.decode (mB8 bs) p).2 = 1 := by rw [hd]
   clear hd
   repeat' (first | (refine h3s (id:=15) ?_) | refine h0i ?_ | refine h0b ?_ | refine h0j ?_ | refine h0r ?_ | refine h0g rfl ?_ | (refine gR 14 ?_ <;> (try refine h0c ?_; (apply K1_nextStr; exact rfl; exact rfl; exact fd0; omega; (try simp only [List.set_cons_succ]); (try simp only [List.set_cons_zero]))) <;> (try refine p_x (h:=h0a ?_))))
   refine ⟨?_⟩
   rw [hd1, hd2]
   clear hd1 hd2
   have d1 : (⟨#[32, 9, 32]⟩ : ByteArray).size = 3 := rfl
   have d2 : (⟨#[32, 32, 35, 32, 120, 32, 121, 10, 10]⟩ : ByteArray).size = 9 := rfl
   have d3 : (⟨#[c]⟩ : ByteArray).size = 1 := rfl
   by_cases c32 : c = 32
   ·have hw : mB8 (whead ++ (bs.take p).flatMap wideB) ++ ⟨#[32, 9, 32]⟩ = mB8 (whead ++ (bs.take (p + 1)).flatMap wideB) := by
     rw [hwt, c32, show (⟨#[32, 9, 32]⟩ : ByteArray) = mB8 [32, 9, 32] from rfl, h6m]; rfl
    have c1 : ((c.toNat : Nat) : Int) = 32 := by rw [c32]; rfl
    generalize mB8 (whead ++ (bs.take p).flatMap wideB) = W at *
    repeat' (first | refine h0i ?_ | refine h0b ?_ | refine h0s ?_ | refine h0x ?_ | refine h0j ?_ | refine h0g rfl ?_ | (refine gR 15 (p_x (h:=p_a (h:=h0a ?_)))) | (refine gR 16 (p_m (h:=h0a ?_))) | (refine gR 18 ?_ <;> (try refine q_e (by exact q_b (r:=by refine h1e ?_; first | rfl | (with_reducible assumption) | (decide; done) | omega)) ?_) <;> (try refine p_a (h:=h0a ?_))) | (refine gR 19 (p_m (h:=p_e (q_b (r:=by apply h1t; exact rfl; (focus (omega)))) (h:=p_a (h:=h0a ?_))))))
    rw [hw]
    exact h0w (p + 1) ⟨by show p + 1 ≤ bs.length; omega, by show bs.length - (p + 1) < bs.length - p; omega⟩ (by (focus (repeat (first | exact Sub.nil | refine Sub.cons rfl ?_)))) c_28
   have n32 : ¬ ((c.toNat : Nat) : Int) = 32 := fun h => c32 (UInt8.toNat_inj.1 (by show c.toNat = 32; omega))
   by_cases c10 : c = 10
   ·have hw : mB8 (whead ++ (bs.take p).flatMap wideB) ++ ⟨#[32, 32, 35, 32, 120, 32, 121, 10, 10]⟩ = mB8 (whead ++ (bs.take (p + 1)).flatMap wideB) := by
     rw [hwt, c10, show (⟨#[32, 32, 35, 32, 120, 32, 121, 10, 10]⟩ : ByteArray) = mB8 [32, 32, 35, 32, 120, 32, 121, 10, 10] from rfl, h6m]; rfl
    have c1 : ((c.toNat : Nat) : Int) = 10 := by rw [c10]; rfl
    generalize mB8 (whead ++ (bs.take p).flatMap wideB) = W at *
    repeat' (first | refine h0i ?_ | refine h0b ?_ | refine h0s ?_ | refine h0x ?_ | refine h0j ?_ | refine h0g rfl ?_ | refine h0f rfl ?_ | (refine gR 15 (p_x (h:=p_a (h:=h0a ?_)))) | (refine gR 16 (p_m (h:=h0a ?_))) | (refine gR 18 (p_e (q_b (r:=by exact h1c q_o)) (h:=p_a (h:=h0a ?_)))) | (refine gR 20 ?_ <;> (try refine q_e (by exact q_b (r:=by refine h1e ?_; first | rfl | (with_reducible assumption) | (decide; done) | omega)) ?_) <;> (try refine p_a (h:=h0a ?_))) | (refine gR 21 (p_m (h:=p_e (q_b (r:=by apply h1t; exact rfl; (focus (omega)))) (h:=p_a (h:=h0a ?_))))))
    rw [hw]
    exact h0w (p + 1) ⟨by show p + 1 ≤ bs.length; omega, by show bs.length - (p + 1) < bs.length - p; omega⟩ (by (focus (repeat (first | exact Sub.nil | refine Sub.cons rfl ?_)))) c_28
   ·have n10 : ¬ ((c.toNat : Nat) : Int) = 10 := fun h => c10 (UInt8.toNat_inj.1 (by show c.toNat = 10; omega))
    have hw : mB8 (whead ++ (bs.take p).flatMap wideB) ++ ⟨#[c]⟩ = mB8 (whead ++ (bs.take (p + 1)).flatMap wideB) := by
     rw [hwt, show wideB c = [c] by unfold wideB; rw [if_neg c32, if_neg c10], show (⟨#[c]⟩ : ByteArray) = mB8 [c] from rfl, h6m]
    generalize mB8 (whead ++ (bs.take p).flatMap wideB) = W at *
    repeat' (first | refine h0i ?_ | refine h0b ?_ | refine h0s ?_ | refine h0x ?_ | refine h0j ?_ | refine h0f rfl ?_ | (refine gR 15 (p_x (h:=p_a (h:=h0a ?_)))) | (refine gR 16 (p_m (h:=h0a ?_))) | (refine gR 18 (p_e (q_b (r:=by exact h1c q_o)) (h:=p_a (h:=h0a ?_)))) | (refine gR 20 (p_e (q_b (r:=by exact h1c q_o)) (h:=p_a (h:=h0a ?_)))) | (refine gR 17 (p_m (h:=p_m (h:=p_e (by apply h3t; exact rfl; (focus (apply r_convRune Tryz.underlying21 Tryz.underlying9; assumption))) (h:=p_e (q_b (r:=by apply h1t; exact rfl; (focus (omega)))) (h:=p_a (h:=h0a ?_))))))))
    rw [hw]
    exact h0w (p + 1) ⟨by show p + 1 ≤ bs.length; omega, by show bs.length - (p + 1) < bs.length - p; omega⟩ (by (focus (repeat (first | exact Sub.nil | refine Sub.cons rfl ?_)))) c_28
 clear hby hwz hP1 hP2 hxt hck hM hM4 hat
 rintro tx ⟨htx, hpt⟩
 have hp9 := hpr tx htx hpt
 clear hpr hpt
 repeat' (first | (refine h3s (id:=24) ?_) | refine h0i ?_ | refine h0b ?_ | (refine gR 23 (p_m (h:=q_m ?_)) <;> (try refine h0c ?_; ((refine q_c 10 (c:=by apply hp9; (with_reducible assumption); (focus (omega)); (focus ((try simp only [zzC, zzN]); (repeat' (first | (with_reducible exact Tl.one _ _) | (with_reducible apply Tl.cons)))))) (h:=?_); rintro _ _ ⟨r5, p5, q5, r6, p6, q6, E3, n6, M6, rfl, hS3, hn6, hM6, rfl⟩; (try simp only [zzE, zzF])); (try simp only [zzC, zzN, List.append_assoc]))) <;> (try refine p_m (h:=p_x (h:=q_x ?_))) <;> (try refine h0c ?_; (refine h0k (t:=36) rfl Tryz.zeroValue36 ?_; intro nb hnb; (try simp only [Value.cells]))) <;> (try refine h0c ?_; (refine h0k (t:=25) rfl Tryz.zeroValue25 ?_; intro nb hnb; (try simp only [Value.cells]))) <;> (try refine h0c ?_; (refine q_W ?_)) <;> (try refine h0c ?_; (refine q_W ?_)) <;> (try refine h0a ?_)))
 refine ⟨?_⟩
 have hsb : SubB L0 M6 := hM6.subB
 clear hM5 hcl hp9
 repeat' (first | refine h0b ?_ | refine h0s ?_ | refine h0x ?_ | refine h0r ?_ | refine h0f rfl ?_ | ((refine h1z (id:=24) (m:=17) (by kernel_rfl) rfl (q_u 0 (x:=by exact q_L h3z) (h:=?_))) <;> (try refine q_u 1 (x:=by exact h0q (t:=25) (fun vs => (match vs with | [] => [Value.int .i64 0, Value.int .i64 0, Value.int .i64 0] | _ => [])) rfl (fun w => by kernel_rfl)) (h:=?_); (try simp only [Value.cells]); (try simp only [zzC, zzN])) <;> (try refine q_u 2 (x:=by apply h1l (op:=.neq) (t:=25); exact rfl; exact rfl; kernel_rfl; (with_reducible assumption)) (h:=q_u 3 (x:=by exact h0h rfl) (h:=q_T 4 (e:=(fun _ H => H)) (x:=by exact q_L sz_36) (h:=q_T 5 (e:=(fun _ H => H)) (x:=by exact q_L sz_36) (h:=?_))))) <;> (try refine q_r 6 ?_; (refine h1s rfl rfl rfl ?_; (refine q_c 14 (c:=by apply hsm; (with_reducible assumption); (with_reducible assumption); (focus ((try simp only [zzC, zzN, List.append_assoc]); (repeat' (first | (with_reducible exact SubB.left _ _) | (with_reducible apply SubB.up) | (with_reducible apply SubB.upA))))); (focus ((try simp only [zzC, zzN, List.append_assoc]); (repeat' (first | (with_reducible assumption) | (with_reducible apply SubB.app) | (with_reducible apply SubB.up) | (with_reducible apply SubB.upA)))))) (h:=?_); rintro _ _ ⟨rfl, rfl⟩; (try simp only [zzE, zzF]))); refine h1b (fun _ H => H) ?_) <;> (try refine q_T 7 (e:=(fun _ H => H)) (x:=by apply h5m; exact rfl; exact h1r) (h:=q_u 8 (x:=by exact h4o rfl rfl) (h:=q_u 9 (x:=by exact h0h rfl) (h:=q_T 10 (e:=(fun _ H => H)) (x:=by exact q_L sz_36) (h:=q_T 12 (e:=(fun _ H => H)) (x:=by exact q_L sz_36) (h:=?_)))))) <;> (try refine q_r 11 ?_; (refine h1s rfl rfl rfl ?_; (refine q_c 19 (c:=by apply hrf; (with_reducible assumption); (focus ((try simp only [zzC, zzN, List.append_assoc]); (repeat' (first | (with_reducible exact SubB.left _ _) | (with_reducible apply SubB.up) | (with_reducible apply SubB.upA)))))) (h:=?_); rintro _ _ ⟨r7, p7, q7, r8, p8, q8, D, rfl, hD, rfl⟩; (try simp only [zzE, zzF]))); refine h1b c_17 ?_) <;> (try refine q_r 13 ?_; (refine h1s rfl rfl rfl ?_; (refine q_c 19 (c:=by apply hrf; (with_reducible assumption); (focus ((try simp only [zzC, zzN, List.append_assoc]); (repeat' (first | (with_reducible assumption) | (with_reducible apply SubB.app) | (with_reducible apply SubB.up) | (with_reducible apply SubB.upA)))))) (h:=?_); rintro _ _ ⟨r7, p7, q7, r8, p8, q8, D, rfl, hD, rfl⟩; (try simp only [zzE, zzF]))); refine h1b c_17 ?_) <;> (try refine q_r 14 ?_; (refine h1s rfl rfl rfl ?_; (refine q_c 18 (c:=by apply hrs; (with_reducible assumption); (with_reducible assumption); (focus ((try simp only [zzC, zzN, List.append_assoc]); (repeat' (first | (with_reducible exact SubB.left _ _) | (with_reducible apply SubB.upA))))); (focus ((try simp only [zzC, zzN, List.append_assoc]); (repeat' (with_reducible exact SubB.left _ _))))) (h:=?_); rintro _ _ ⟨rfl, rfl⟩; (try simp only [zzE, zzF]))); refine h1b c_17 ?_) <;> (try refine q_T 15 (e:=c_17) (x:=by apply h5m; exact rfl; exact h1r) (h:=q_t 16 (e:=c_17) (x:=by exact h4o rfl rfl) (h:=h1a (by kernel_rfl) ?_)))) | (refine gR 26 ?_ <;> (try refine q_e (q_b (r:=by apply h1n; exact c_5; (focus (refine IntWalk.i64_in _ ?_; omega)))) ?_) <;> (try refine p_m (h:=h0a ?_))))
 exact h0w (k + 1, n6, M6) ⟨⟨by show k + 1 ≤ 2; omega, by dsimp only; omega, hM6⟩, by show 2 - (k + 1) < 2 - k; omega⟩ (by (focus (repeat (first | exact Sub.nil | refine Sub.cons rfl ?_)))) (fun w H => H.sub ((((((List.Sublist.append_left (List.sublist_append_right _ _) _).cons_cons _).cons _).cons _).cons _).trans ((List.sublist_append_right _ _).trans (List.sublist_append_right _ _))))
theorem wf_u8 {a : Int} (h : (Lit.int .u8 a).wf = true) : 0 ≤ a ∧ a < 256 := by
 simp [Lit.wf, IntKind.min, IntKind.max, IntKind.signed, IntKind.bits] at h; omega
theorem wf_u16 {a : Int} (h : (Lit.int .u16 a).wf = true) : 0 ≤ a ∧ a < 65536 := by
 simp [Lit.wf, IntKind.min, IntKind.max, IntKind.signed, IntKind.bits] at h; omega
theorem wf_u32 {a : Int} (h : (Lit.int .u32 a).wf = true) : 0 ≤ a ∧ a < 4294967296 := by
 simp [Lit.wf, IntKind.min, IntKind.max, IntKind.signed, IntKind.bits] at h; omega
theorem wf_u64 {a : Int} (h : (Lit.int .u64 a).wf = true) : 0 ≤ a ∧ a < 18446744073709551616 := by
 simp [Lit.wf, IntKind.min, IntKind.max, IntKind.signed, IntKind.bits] at h; omega
theorem wf_i64 {a : Int} (h : (Lit.int .i64 a).wf = true) : -9223372036854775808 ≤ a ∧ a < 9223372036854775808 := by
 simp [Lit.wf, IntKind.min, IntKind.max, IntKind.signed, IntKind.bits] at h; omega
theorem HP.read {w : World} {L : List Blk} (h : ∀ p ∈ L, p.wr = false ∧ w.heap[p.b]? = some p.o) : HP [] w w L :=
 ⟨rfl, rfl, rfl, Nat.le_refl _, fun _ _ _ => rfl, fun p hp => (h p hp).2, fun p hp hw => by simp [(h p hp).1] at hw,
  List.pairwise_of_forall_mem_list fun p hp q hq hw => by rcases hw with hw | hw <;> simp [(h p hp).1, (h q hq).1] at hw⟩
theorem mapM_some {α β : Type} {f : α → Option β} : ∀ {l : List α} {ys : List β}, l.mapM f = some ys → ∀ (i : Nat) (x : α), l[i]? = some x → ∃ y, f x = some y ∧ ys[i]? = some y
 | [], _, _, i, x, hx => by simp at hx
 | a :: l, ys, h, i, x, hx => by
  simp only [List.mapM_cons, Option.pure_def, Option.bind_eq_bind, Option.bind_eq_some_iff] at h
  obtain ⟨y, hy, ys', hys, e⟩ := h
  obtain rfl := Option.some.inj e
  cases i with
  | zero => simp at hx; subst hx; exact ⟨y, hy, by simp⟩
  | succ i => simp at hx; simpa using mapM_some hys i x hx
theorem mapM_len {α β : Type} {f : α → Option β} : ∀ {l : List α} {ys : List β}, l.mapM f = some ys → ys.length = l.length
 | [], ys, h => by simp at h; simp [h]
 | a :: l, ys, h => by
  simp only [List.mapM_cons, Option.pure_def, Option.bind_eq_bind, Option.bind_eq_some_iff] at h
  obtain ⟨y, hy, ys', hys, e⟩ := h
  obtain rfl := Option.some.inj e
  simp [mapM_len hys]
section
variable {H : Type} {enc : TypeId × Value → H} {P : Program} {w : World} {base : Nat} {spare : Nat → Bool} {held : Bool}
theorem h5i {t : TypeId} {fs : Array Field} {fuel : Nat} {cs : List Value} {x : DataW H × List MemPlace} (ht : P.underlying t = some (.struct fs))
  (h : DataW.trod enc P w base spare held fuel t cs = some x) :
  ∃ n, fuel = n + 1 ∧ cs.length = P.cellsOf t ∧ ∀ (i : Nat) (f : Field), fs.toList[i]? = some f → ∃ y, DataW.trod enc P w base spare held n f.type ((cs.drop f.offset).take (P.cellsOf f.type)) = some y := by
 cases fuel with
 | zero => simp [DataW.trod] at h
 | succ n =>
  refine ⟨n, rfl, ?_⟩
  unfold DataW.trod at h
  simp only [ht] at h
  split at h
  ·rename_i hlen
   simp only [Option.map_eq_some_iff] at h
   obtain ⟨xs, hxs, _⟩ := h
   exact ⟨hlen, fun i f hf => let ⟨y, hy, _⟩ := mapM_some hxs i f hf; ⟨y, hy⟩⟩
  ·simp at h
theorem trod_slice {t e : TypeId} {fuel : Nat} {a : Option Addr} {len cap : Nat} {x : DataW H × List MemPlace} (ht : P.underlying t = some (.slice e))
  (h : DataW.trod enc P w base spare held fuel t [.slice a len cap] = some x) :
  (a = none ∧ len = 0 ∧ cap = 0) ∨
  ∃ p n, a = some p ∧ fuel = n + 1 ∧ len ≤ cap ∧ cap ≤ maxLen ∧ ∀ i, i < len → ∃ cs y, w.cells? base (p.add (i * P.cellsOf e)) (P.cellsOf e) = some cs ∧ DataW.trod enc P w base spare held n e cs = some y := by
 cases fuel with
 | zero => simp [DataW.trod] at h
 | succ n =>
  cases a with
  | none =>
   left
   unfold DataW.trod at h
   simp only [ht] at h
   cases len <;> cases cap <;> simp_all
  | some p =>
   right
   unfold DataW.trod at h
   simp only [ht] at h
   split at h
   ·rename_i hc
    simp only [Option.bind_eq_some_iff] at h
    obtain ⟨elems, hel, _⟩ := h
    refine ⟨p, n, rfl, rfl, hc.2.1, hc.2.2, fun i hi => ?_⟩
    obtain ⟨y, hy, _⟩ := mapM_some hel i i (by simp [hi])
    simp only [Option.bind_eq_some_iff] at hy
    obtain ⟨cs, hcs, hy⟩ := hy
    exact ⟨cs, y, hcs, hy⟩
   ·simp at h
theorem cells?_get {a : Addr} {n : Nat} {cs : List Value} (h : w.cells? base a n = some cs) : base ≤ a.block ∧ cs.length = n ∧ ∀ j, j < n → w.cell? (a.add j) = cs[j]? := by
 unfold World.cells? at h
 split at h
 ·rename_i hb
  refine ⟨hb, by simpa using mapM_len h, fun j hj => ?_⟩
  obtain ⟨y, hy, hy'⟩ := mapM_some h j j (by simp [hj])
  rw [hy, hy']
 ·simp at h
theorem h1q {t : TypeId} {k : IntKind} {fuel : Nat} {c : Value} {y : DataW H × List MemPlace} (ht : P.underlying t = some (.int k)) (h : DataW.trod enc P w base spare held fuel t [c] = some y) :
  ∃ n, c = .int k n ∧ (Lit.int k n).wf = true := by
 cases fuel with
 | zero => simp [DataW.trod] at h
 | succ f =>
  unfold DataW.trod at h
  rw [ht] at h
  cases c <;> simp_all
theorem trod_string_cell {t : TypeId} {fuel : Nat} {c : Value} {y : DataW H × List MemPlace} (ht : P.underlying t = some .string) (h : DataW.trod enc P w base spare held fuel t [c] = some y) :
  ∃ s, c = .string s ∧ s.size ≤ maxLen := by
 cases fuel with
 | zero => simp [DataW.trod] at h
 | succ f =>
  unfold DataW.trod at h
  rw [ht] at h
  cases c <;> simp_all
theorem add_none (b off n : Nat) : (⟨b, off, none⟩ : Addr).add n = ⟨b, off + n, none⟩ := by unfold Addr.add; split <;> simp_all
theorem slice_block {t e : TypeId} {fuel : Nat} {a : Option Addr} {len cap : Nat} {x : DataW H × List MemPlace} (ht : P.underlying t = some (.slice e)) {sz : Nat} (hsz : P.cellsOf e = sz) (h0 : 0 < sz)
  (h : DataW.trod enc P w base spare held fuel t [.slice a len cap] = some x) (hlen : 0 < len) :
  ∃ b off acs T fr n, a = some ⟨b, off, none⟩ ∧ w.heap[b]? = some (.cells acs T fr) ∧ len ≤ cap ∧ cap ≤ maxLen ∧
   ∀ i, i < len → ∃ cs y, cs.length = sz ∧ DataW.trod enc P w base spare held n e cs = some y ∧ off + i * sz + sz ≤ acs.size ∧ acs.extract (off + i * sz) (off + i * sz + sz) = cs.toArray := by
 rcases trod_slice ht h with ⟨_, h1, _⟩ | ⟨p, n, rfl, _, hlc, hcm, hel⟩
 ·omega
 ·rw [hsz] at hel
  obtain ⟨cs0, y0, hc0, _⟩ := hel 0 hlen
  obtain ⟨_, hl0, hg0⟩ := cells?_get hc0
  obtain ⟨v, hv⟩ : ∃ v, cs0[0]? = some v := ⟨_, List.getElem?_eq_getElem (by omega)⟩
  have hcell := hg0 0 h0
  rw [hv] at hcell
  obtain ⟨b, off, spot⟩ := p
  have hsp : spot = none := by simpa [Addr.add] using World.cell?_spot hcell
  subst hsp
  simp only [add_none, Nat.zero_mul, Nat.add_zero] at hcell
  obtain ⟨acs, T, fr, hb⟩ : ∃ acs T fr, w.heap[b]? = some (.cells acs T fr) := by
   unfold World.cell? at hcell
   cases hq : w.heap[b]? with
   | none => simp [hq] at hcell
   | some ob =>
    cases ob with
    | cells acs T fr => exact ⟨acs, T, fr, rfl⟩
    | _ => simp [hq] at hcell
  refine ⟨b, off, acs, T, fr, n, rfl, hb, hlc, hcm, fun i hi => ?_⟩
  obtain ⟨cs, y, hcs, hy⟩ := hel i hi
  obtain ⟨_, hl, hg⟩ := cells?_get hcs
  have hget : ∀ j, j < sz → acs[off + i * sz + j]? = cs[j]? := by
   intro j hj
   have := hg j hj
   simp only [add_none] at this
   rw [cell_of_row w b _ acs T fr hb] at this
   exact this
  have hsize : off + i * sz + sz ≤ acs.size := by
   have := hget (sz - 1) (by omega)
   rw [List.getElem?_eq_getElem (by omega)] at this
   have h3 := Array.getElem?_eq_some_iff.1 this
   obtain ⟨h3, _⟩ := h3
   omega
  refine ⟨cs, y, hl, hy, hsize, ?_⟩
  apply Array.ext_getElem?
  intro j
  by_cases hj : j < sz
  ·rw [Array.getElem?_extract, if_pos (by omega), hget j hj]
   simp
  ·rw [Array.getElem?_extract, if_neg (by omega)]
   simp; omega
end
theorem lst_2 {cs : List Value} (h : cs.length = 2) : ∃ c0 c1, cs = [c0, c1] := by
 match cs, h with
 | [_, _], _ => exact ⟨_, _, rfl⟩
theorem lst_3 {cs : List Value} (h : cs.length = 3) : ∃ c0 c1 c2, cs = [c0, c1, c2] := by
 match cs, h with
 | [_, _, _], _ => exact ⟨_, _, _, rfl⟩
theorem lst_4 {cs : List Value} (h : cs.length = 4) : ∃ c0 c1 c2 c3, cs = [c0, c1, c2, c3] := by
 match cs, h with
 | [_, _, _, _], _ => exact ⟨_, _, _, _, rfl⟩
theorem lst_6 {cs : List Value} (h : cs.length = 6) : ∃ c0 c1 c2 c3 c4 c5, cs = [c0, c1, c2, c3, c4, c5] := by
 match cs, h with
 | [_, _, _, _, _, _], _ => exact ⟨_, _, _, _, _, _, rfl⟩
theorem lst_8 {cs : List Value} (h : cs.length = 8) : ∃ c0 c1 c2 c3 c4 c5 c6 c7, cs = [c0, c1, c2, c3, c4, c5, c6, c7] := by
 match cs, h with
 | [_, _, _, _, _, _, _, _], _ => exact ⟨_, _, _, _, _, _, _, _, rfl⟩
section
variable {H : Type} {enc : TypeId × Value → H} {P : Program} {w : World} {base : Nat} {spare : Nat → Bool} {held : Bool}
theorem h3n {t e : TypeId} {fuel : Nat} {c : Value} {y : DataW H × List MemPlace} (ht : P.underlying t = some (.slice e)) (h : DataW.trod enc P w base spare held fuel t [c] = some y) : ∃ a len cap, c = .slice a len cap := by
 cases fuel with
 | zero => simp [DataW.trod] at h
 | succ f =>
  unfold DataW.trod at h
  rw [ht] at h
  cases c <;> simp_all
theorem trod_int_any {t : TypeId} {k : IntKind} {fuel : Nat} {cs : List Value} {y : DataW H × List MemPlace} (ht : P.underlying t = some (.int k)) (h : DataW.trod enc P w base spare held fuel t cs = some y) : ∃ n, cs = [.int k n] ∧ (Lit.int k n).wf = true := by
 have hc : ∃ c, cs = [c] := by
  cases fuel with
  | zero => simp [DataW.trod] at h
  | succ f =>
   unfold DataW.trod at h
   rw [ht] at h
   match cs, h with
   | [c], _ => exact ⟨c, rfl⟩
   | [], h => simp at h
   | _ :: _ :: _, h => simp at h
 obtain ⟨c, rfl⟩ := hc
 obtain ⟨n, rfl, hw⟩ := h1q ht h
 exact ⟨n, rfl, hw⟩
def ROnly (w : World) (B : List Blk) : Prop := ∀ p ∈ B, p.wr = false ∧ w.heap[p.b]? = some p.o
theorem ROnly.nil {w : World} : ROnly w [] := by simp [ROnly]
theorem ROnly.app {w : World} {B C : List Blk} (h : ROnly w B) (h2 : ROnly w C) : ROnly w (B ++ C) := fun p hp => by
 rcases List.mem_append.1 hp with hp | hp
 ·exact h p hp
 ·exact h2 p hp
theorem HP.ro {w : World} {B : List Blk} (h : ROnly w B) : HP [] w w B := HP.read h
theorem Sli.app {L M : List Blk} {a : Option Addr} {len size : Nat} {cells : List Value} (h : Sli L a len size cells) : Sli (L ++ M) a len size cells := h.left
theorem slice_list {X : Type} {cells : X → List Value} {ok : X → Prop} {t e : TypeId} {sz fuel : Nat} {a : Option Addr} {len cap : Nat} {x : DataW H × List MemPlace} (ht : P.underlying t = some (.slice e)) (hsz : P.cellsOf e = sz) (h0 : 0 < sz)
  (hcl : ∀ x, ok x → (cells x).length = sz) (hel : ∀ n cs y, DataW.trod enc P w base spare held n e cs = some y → ∃ x, cs = cells x ∧ ok x) (h : DataW.trod enc P w base spare held fuel t [.slice a len cap] = some x) :
  ∃ (l : List X) (B : List Blk), l.length = len ∧ (∀ x ∈ l, ok x) ∧ Sli B a len sz (l.flatMap cells) ∧ ROnly w B ∧ len ≤ maxLen ∧ len ≤ cap ∧ cap ≤ maxLen := by
 by_cases hl : 0 < len
 ·obtain ⟨b, off, acs, T, fr, n, rfl, hb, h1, h2, hall⟩ := slice_block ht hsz h0 h hl
  have key : ∀ m, m ≤ len → ∃ l : List X, l.length = m ∧ (∀ x ∈ l, ok x) ∧ (acs.toList.drop off).take (m * sz) = l.flatMap cells := by
   intro m
   induction m with
   | zero => intro _; exact ⟨[], rfl, by simp, by simp⟩
   | succ m ih =>
    intro hm
    obtain ⟨l, e1, e2, e3⟩ := ih (by omega)
    obtain ⟨cs, y, hc1, hc2, hc3, hc4⟩ := hall m (by omega)
    obtain ⟨x, rfl, hx⟩ := hel _ _ _ hc2
    refine ⟨l ++ [x], by simp [e1], ?_, ?_⟩
    ·intro z hz
     rcases List.mem_append.1 hz with hz | hz
     ·exact e2 z hz
     ·rw [List.mem_singleton.1 hz]; exact hx
    ·rw [List.flatMap_append, ← e3, Nat.add_mul, Nat.one_mul, List.take_add, List.drop_drop]
     congr 1
     have := congrArg Array.toList hc4
     simp only [Array.toList_extract, List.extract_eq_take_drop] at this
     rw [Nat.add_sub_cancel_left] at this
     simpa using this
  obtain ⟨l, e1, e2, e3⟩ := key len (Nat.le_refl _)
  obtain ⟨_, _, _, _, hc3, _⟩ := hall (len - 1) (by omega)
  have hmul : (len - 1) * sz + sz = len * sz := by
   obtain ⟨q, rfl⟩ : ∃ q, len = q + 1 := ⟨len - 1, by omega⟩
   rw [Nat.add_sub_cancel, Nat.add_mul, Nat.one_mul]
  refine ⟨l, [⟨false, b, .cells acs T fr⟩], e1, e2, Sli.of (i:=0) rfl (by omega) e3, ?_, by omega, by omega, by omega⟩
  intro p hp
  rw [List.mem_singleton.1 hp]
  exact ⟨rfl, hb⟩
 ·rcases trod_slice ht h with ⟨rfl, rfl, rfl⟩ | ⟨p, n, rfl, _, h2, h3, _⟩
  ·exact ⟨[], [], rfl, by simp, ⟨by simp, .inl rfl⟩, ROnly.nil, by omega, by omega, by omega⟩
  ·obtain rfl : len = 0 := by omega
   exact ⟨[], [], rfl, by simp, ⟨by simp, .inl rfl⟩, ROnly.nil, by omega, by omega, by omega⟩
end
section
variable {H : Type} {enc : TypeId × Value → H} {P : Program} {w : World} {base : Nat} {spare : Nat → Bool} {held : Bool}
theorem slice_listB {X : Type} {cells : X → List Value} {ok : List Blk → X → Prop} {t e : TypeId} {sz fuel : Nat} {a : Option Addr} {len cap : Nat} {x : DataW H × List MemPlace} (ht : P.underlying t = some (.slice e)) (hsz : P.cellsOf e = sz) (h0 : 0 < sz)
  (hl : ∀ B C x, ok B x → ok (B ++ C) x) (hr : ∀ B C x, ok C x → ok (B ++ C) x)
  (hel : ∀ n cs y, DataW.trod enc P w base spare held n e cs = some y → ∃ x B, cs = cells x ∧ ok B x ∧ ROnly w B) (h : DataW.trod enc P w base spare held fuel t [.slice a len cap] = some x) :
  ∃ (l : List X) (B : List Blk), l.length = len ∧ (∀ x ∈ l, ok B x) ∧ Sli B a len sz (l.flatMap cells) ∧ ROnly w B ∧ len ≤ maxLen ∧ len ≤ cap ∧ cap ≤ maxLen := by
 by_cases hln : 0 < len
 ·obtain ⟨b, off, acs, T, fr, n, rfl, hb, h1, h2, hall⟩ := slice_block ht hsz h0 h hln
  have key : ∀ m, m ≤ len → ∃ (l : List X) (B : List Blk), l.length = m ∧ (∀ x ∈ l, ok B x) ∧ (acs.toList.drop off).take (m * sz) = l.flatMap cells ∧ ROnly w B := by
   intro m
   induction m with
   | zero => intro _; exact ⟨[], [], rfl, by simp, by simp, ROnly.nil⟩
   | succ m ih =>
    intro hm
    obtain ⟨l, B, e1, e2, e3, e4⟩ := ih (by omega)
    obtain ⟨cs, y, hc1, hc2, hc3, hc4⟩ := hall m (by omega)
    obtain ⟨x, C, rfl, hx, hC⟩ := hel _ _ _ hc2
    refine ⟨l ++ [x], B ++ C, by simp [e1], ?_, ?_, e4.app hC⟩
    ·intro z hz
     rcases List.mem_append.1 hz with hz | hz
     ·exact hl _ _ _ (e2 z hz)
     ·rw [List.mem_singleton.1 hz]; exact hr _ _ _ hx
    ·rw [List.flatMap_append, ← e3, Nat.add_mul, Nat.one_mul, List.take_add, List.drop_drop]
     congr 1
     have := congrArg Array.toList hc4
     simp only [Array.toList_extract, List.extract_eq_take_drop] at this
     rw [Nat.add_sub_cancel_left] at this
     simpa using this
  obtain ⟨l, B, e1, e2, e3, e4⟩ := key len (Nat.le_refl _)
  obtain ⟨_, _, _, _, hc3, _⟩ := hall (len - 1) (by omega)
  have hmul : (len - 1) * sz + sz = len * sz := by
   obtain ⟨q, rfl⟩ : ∃ q, len = q + 1 := ⟨len - 1, by omega⟩
   rw [Nat.add_sub_cancel, Nat.add_mul, Nat.one_mul]
  refine ⟨l, [⟨false, b, .cells acs T fr⟩] ++ B, e1, fun x hx => hr _ _ _ (e2 x hx), Sli.of (i:=0) rfl (by omega) e3, ROnly.app ?_ e4, by omega, by omega, by omega⟩
  intro p hp
  rw [List.mem_singleton.1 hp]
  exact ⟨rfl, hb⟩
 ·rcases trod_slice ht h with ⟨rfl, rfl, rfl⟩ | ⟨p, n, rfl, _, h2, h3, _⟩
  ·exact ⟨[], [], rfl, by simp, ⟨by simp, .inl rfl⟩, ROnly.nil, by omega, by omega, by omega⟩
  ·obtain rfl : len = 0 := by omega
   exact ⟨[], [], rfl, by simp, ⟨by simp, .inl rfl⟩, ROnly.nil, by omega, by omega, by omega⟩
end
def u8ok (n : Int) : Prop := 0 ≤ n ∧ n < 256
def u8v (n : Int) : List Value := [.int .u8 n]
theorem u8v_flat (l : List Int) : l.flatMap u8v = u8l l := by induction l with | nil => rfl | cons n r ih => simpa [u8v, u8l] using ih
theorem u8_open {H : Type} {enc : TypeId × Value → H} {w : World} {base : Nat} {spare : Nat → Bool} {held : Bool} {fuel : Nat} {cs : List Value} {x : DataW H × List MemPlace} (h : DataW.trod enc Tryz.prog w base spare held fuel 5 cs = some x) : ∃ n : Int, cs = u8v n ∧ (0 ≤ n ∧ n < 256) := by
 obtain ⟨n, rfl, hw⟩ := trod_int_any Tryz.underlying5 h
 exact ⟨n, rfl, wf_u8 hw⟩
theorem i_nat {n : Int} {k : Int} (h : 0 ≤ n ∧ n < k) : ∃ m : Nat, n = (m : Int) := ⟨n.toNat, by omega⟩
set_option linter.unusedVariables false in
theorem open_95 {H : Type} {enc : TypeId × Value → H} {w : World} {base : Nat} {spare : Nat → Bool} {held : Bool} {fuel : Nat} {cs : List Value} {x : DataW H × List MemPlace} (h : DataW.trod enc Tryz.prog w base spare held fuel 95 cs = some x) :
  ∃ (a0 : Int) (a1 : Int) (a2 : Int) (a3 : Int), cs = [Value.int .u8 a0, Value.int .u8 a1, Value.int .u8 a2, Value.int .u8 a3] ∧ (0 ≤ a0 ∧ a0 < 256) ∧ (0 ≤ a1 ∧ a1 < 256) ∧ (0 ≤ a2 ∧ a2 < 256) ∧ (0 ≤ a3 ∧ a3 < 256) := by
 obtain ⟨n, rfl, hlen, hf⟩ := h5i Tryz.underlying95 h
 rw [(by kernel_rfl : Tryz.prog.cellsOf 95 = 4)] at hlen
 obtain ⟨c0, c1, c2, c3, rfl⟩ := lst_4 hlen
 have e5 : Tryz.prog.cellsOf 5 = 1 := by kernel_rfl
 obtain ⟨y0, h0⟩ := hf 0 _ rfl
 (try simp only [e5] at h0); (try simp only [Nat.reduceMul] at h0); (try simp only [List.drop_succ_cons] at h0); (try simp only [List.drop_zero] at h0); (try simp only [List.take_succ_cons] at h0); (try simp only [List.take_zero] at h0)
 obtain ⟨a0, rfl, ba0⟩ := h1q Tryz.underlying5 h0
 replace ba0 := wf_u8 ba0
 obtain ⟨y1, h1⟩ := hf 1 _ rfl
 (try simp only [e5] at h1); (try simp only [Nat.reduceMul] at h1); (try simp only [List.drop_succ_cons] at h1); (try simp only [List.drop_zero] at h1); (try simp only [List.take_succ_cons] at h1); (try simp only [List.take_zero] at h1)
 obtain ⟨a1, rfl, ba1⟩ := h1q Tryz.underlying5 h1
 replace ba1 := wf_u8 ba1
 obtain ⟨y2, h2⟩ := hf 2 _ rfl
 (try simp only [e5] at h2); (try simp only [Nat.reduceMul] at h2); (try simp only [List.drop_succ_cons] at h2); (try simp only [List.drop_zero] at h2); (try simp only [List.take_succ_cons] at h2); (try simp only [List.take_zero] at h2)
 obtain ⟨a2, rfl, ba2⟩ := h1q Tryz.underlying5 h2
 replace ba2 := wf_u8 ba2
 obtain ⟨y3, h3⟩ := hf 3 _ rfl
 (try simp only [e5] at h3); (try simp only [Nat.reduceMul] at h3); (try simp only [List.drop_succ_cons] at h3); (try simp only [List.drop_zero] at h3); (try simp only [List.take_succ_cons] at h3); (try simp only [List.take_zero] at h3)
 obtain ⟨a3, rfl, ba3⟩ := h1q Tryz.underlying5 h3
 replace ba3 := wf_u8 ba3
 exact ⟨a0, a1, a2, a3, rfl, ba0, ba1, ba2, ba3⟩
set_option linter.unusedVariables false in
theorem open_91 {H : Type} {enc : TypeId × Value → H} {w : World} {base : Nat} {spare : Nat → Bool} {held : Bool} {fuel : Nat} {cs : List Value} {x : DataW H × List MemPlace} (h : DataW.trod enc Tryz.prog w base spare held fuel 91 cs = some x) :
  ∃ (a0 : Int) (a1 : Int) (a2 : Int) (a3_a : Option Addr) (a3_l a3_c : Nat), cs = [Value.int .u8 a0, Value.int .u8 a1, Value.int .u8 a2, Value.slice a3_a a3_l a3_c] ∧ (0 ≤ a0 ∧ a0 < 256) ∧ (0 ≤ a1 ∧ a1 < 256) ∧ (0 ≤ a2 ∧ a2 < 256) ∧ (∃ fuel y, DataW.trod enc Tryz.prog w base spare held fuel 89 [Value.slice a3_a a3_l a3_c] = some y) := by
 obtain ⟨n, rfl, hlen, hf⟩ := h5i Tryz.underlying91 h
 rw [(by kernel_rfl : Tryz.prog.cellsOf 91 = 4)] at hlen
 obtain ⟨c0, c1, c2, c3, rfl⟩ := lst_4 hlen
 have e5 : Tryz.prog.cellsOf 5 = 1 := by kernel_rfl
 have e89 : Tryz.prog.cellsOf 89 = 1 := by kernel_rfl
 obtain ⟨y0, h0⟩ := hf 0 _ rfl
 (try simp only [e5] at h0); (try simp only [Nat.reduceMul] at h0); (try simp only [List.drop_succ_cons] at h0); (try simp only [List.drop_zero] at h0); (try simp only [List.take_succ_cons] at h0); (try simp only [List.take_zero] at h0)
 obtain ⟨a0, rfl, ba0⟩ := h1q Tryz.underlying5 h0
 replace ba0 := wf_u8 ba0
 obtain ⟨y1, h1⟩ := hf 1 _ rfl
 (try simp only [e5] at h1); (try simp only [Nat.reduceMul] at h1); (try simp only [List.drop_succ_cons] at h1); (try simp only [List.drop_zero] at h1); (try simp only [List.take_succ_cons] at h1); (try simp only [List.take_zero] at h1)
 obtain ⟨a1, rfl, ba1⟩ := h1q Tryz.underlying5 h1
 replace ba1 := wf_u8 ba1
 obtain ⟨y2, h2⟩ := hf 2 _ rfl
 (try simp only [e5] at h2); (try simp only [Nat.reduceMul] at h2); (try simp only [List.drop_succ_cons] at h2); (try simp only [List.drop_zero] at h2); (try simp only [List.take_succ_cons] at h2); (try simp only [List.take_zero] at h2)
 obtain ⟨a2, rfl, ba2⟩ := h1q Tryz.underlying5 h2
 replace ba2 := wf_u8 ba2
 obtain ⟨y3, h3⟩ := hf 3 _ rfl
 (try simp only [e89] at h3); (try simp only [Nat.reduceMul] at h3); (try simp only [List.drop_succ_cons] at h3); (try simp only [List.drop_zero] at h3); (try simp only [List.take_succ_cons] at h3); (try simp only [List.take_zero] at h3)
 obtain ⟨a3_a, a3_l, a3_c, rfl⟩ := h3n Tryz.underlying89 h3
 have ba3 : ∃ fuel y, DataW.trod enc Tryz.prog w base spare held fuel 89 [Value.slice a3_a a3_l a3_c] = some y := ⟨_, _, h3⟩
 exact ⟨a0, a1, a2, a3_a, a3_l, a3_c, rfl, ba0, ba1, ba2, ba3⟩
set_option linter.unusedVariables false in
theorem open_48 {H : Type} {enc : TypeId × Value → H} {w : World} {base : Nat} {spare : Nat → Bool} {held : Bool} {fuel : Nat} {cs : List Value} {x : DataW H × List MemPlace} (h : DataW.trod enc Tryz.prog w base spare held fuel 48 cs = some x) :
  ∃ (a0 : Int) (a1 : Int) (a2 : Int) (a3_a : Option Addr) (a3_l a3_c : Nat) (a4 : Int) (a5_a : Option Addr) (a5_l a5_c : Nat) (a6_a : Option Addr) (a6_l a6_c : Nat) (a7_a : Option Addr) (a7_l a7_c : Nat), cs = [Value.int .u8 a0, Value.int .u8 a1, Value.int .u8 a2, Value.slice a3_a a3_l a3_c, Value.int .u16 a4, Value.slice a5_a a5_l a5_c, Value.slice a6_a a6_l a6_c, Value.slice a7_a a7_l a7_c] ∧ (0 ≤ a0 ∧ a0 < 256) ∧ (0 ≤ a1 ∧ a1 < 256) ∧ (0 ≤ a2 ∧ a2 < 256) ∧ (∃ fuel y, DataW.trod enc Tryz.prog w base spare held fuel 44 [Value.slice a3_a a3_l a3_c] = some y) ∧ (0 ≤ a4 ∧ a4 < 65536) ∧ (∃ fuel y, DataW.trod enc Tryz.prog w base spare held fuel 45 [Value.slice a5_a a5_l a5_c] = some y) ∧ (∃ fuel y, DataW.trod enc Tryz.prog w base spare held fuel 46 [Value.slice a6_a a6_l a6_c] = some y) ∧ (∃ fuel y, DataW.trod enc Tryz.prog w base spare held fuel 45 [Value.slice a7_a a7_l a7_c] = some y) := by
 obtain ⟨n, rfl, hlen, hf⟩ := h5i Tryz.underlying48 h
 rw [(by kernel_rfl : Tryz.prog.cellsOf 48 = 8)] at hlen
 obtain ⟨c0, c1, c2, c3, c4, c5, c6, c7, rfl⟩ := lst_8 hlen
 have e5 : Tryz.prog.cellsOf 5 = 1 := by kernel_rfl
 have e31 : Tryz.prog.cellsOf 31 = 1 := by kernel_rfl
 have e44 : Tryz.prog.cellsOf 44 = 1 := by kernel_rfl
 have e45 : Tryz.prog.cellsOf 45 = 1 := by kernel_rfl
 have e46 : Tryz.prog.cellsOf 46 = 1 := by kernel_rfl
 obtain ⟨y0, h0⟩ := hf 0 _ rfl
 (try simp only [e5] at h0); (try simp only [Nat.reduceMul] at h0); (try simp only [List.drop_succ_cons] at h0); (try simp only [List.drop_zero] at h0); (try simp only [List.take_succ_cons] at h0); (try simp only [List.take_zero] at h0)
 obtain ⟨a0, rfl, ba0⟩ := h1q Tryz.underlying5 h0
 replace ba0 := wf_u8 ba0
 obtain ⟨y1, h1⟩ := hf 1 _ rfl
 (try simp only [e5] at h1); (try simp only [Nat.reduceMul] at h1); (try simp only [List.drop_succ_cons] at h1); (try simp only [List.drop_zero] at h1); (try simp only [List.take_succ_cons] at h1); (try simp only [List.take_zero] at h1)
 obtain ⟨a1, rfl, ba1⟩ := h1q Tryz.underlying5 h1
 replace ba1 := wf_u8 ba1
 obtain ⟨y2, h2⟩ := hf 2 _ rfl
 (try simp only [e5] at h2); (try simp only [Nat.reduceMul] at h2); (try simp only [List.drop_succ_cons] at h2); (try simp only [List.drop_zero] at h2); (try simp only [List.take_succ_cons] at h2); (try simp only [List.take_zero] at h2)
 obtain ⟨a2, rfl, ba2⟩ := h1q Tryz.underlying5 h2
 replace ba2 := wf_u8 ba2
 obtain ⟨y3, h3⟩ := hf 3 _ rfl
 (try simp only [e44] at h3); (try simp only [Nat.reduceMul] at h3); (try simp only [List.drop_succ_cons] at h3); (try simp only [List.drop_zero] at h3); (try simp only [List.take_succ_cons] at h3); (try simp only [List.take_zero] at h3)
 obtain ⟨a3_a, a3_l, a3_c, rfl⟩ := h3n Tryz.underlying44 h3
 have ba3 : ∃ fuel y, DataW.trod enc Tryz.prog w base spare held fuel 44 [Value.slice a3_a a3_l a3_c] = some y := ⟨_, _, h3⟩
 obtain ⟨y4, h4⟩ := hf 4 _ rfl
 (try simp only [e31] at h4); (try simp only [Nat.reduceMul] at h4); (try simp only [List.drop_succ_cons] at h4); (try simp only [List.drop_zero] at h4); (try simp only [List.take_succ_cons] at h4); (try simp only [List.take_zero] at h4)
 obtain ⟨a4, rfl, ba4⟩ := h1q Tryz.underlying31 h4
 replace ba4 := wf_u16 ba4
 obtain ⟨y5, h5⟩ := hf 5 _ rfl
 (try simp only [e45] at h5); (try simp only [Nat.reduceMul] at h5); (try simp only [List.drop_succ_cons] at h5); (try simp only [List.drop_zero] at h5); (try simp only [List.take_succ_cons] at h5); (try simp only [List.take_zero] at h5)
 obtain ⟨a5_a, a5_l, a5_c, rfl⟩ := h3n Tryz.underlying45 h5
 have ba5 : ∃ fuel y, DataW.trod enc Tryz.prog w base spare held fuel 45 [Value.slice a5_a a5_l a5_c] = some y := ⟨_, _, h5⟩
 obtain ⟨y6, h6⟩ := hf 6 _ rfl
 (try simp only [e46] at h6); (try simp only [Nat.reduceMul] at h6); (try simp only [List.drop_succ_cons] at h6); (try simp only [List.drop_zero] at h6); (try simp only [List.take_succ_cons] at h6); (try simp only [List.take_zero] at h6)
 obtain ⟨a6_a, a6_l, a6_c, rfl⟩ := h3n Tryz.underlying46 h6
 have ba6 : ∃ fuel y, DataW.trod enc Tryz.prog w base spare held fuel 46 [Value.slice a6_a a6_l a6_c] = some y := ⟨_, _, h6⟩
 obtain ⟨y7, h7⟩ := hf 7 _ rfl
 (try simp only [e45] at h7); (try simp only [Nat.reduceMul] at h7); (try simp only [List.drop_succ_cons] at h7); (try simp only [List.drop_zero] at h7); (try simp only [List.take_succ_cons] at h7); (try simp only [List.take_zero] at h7)
 obtain ⟨a7_a, a7_l, a7_c, rfl⟩ := h3n Tryz.underlying45 h7
 have ba7 : ∃ fuel y, DataW.trod enc Tryz.prog w base spare held fuel 45 [Value.slice a7_a a7_l a7_c] = some y := ⟨_, _, h7⟩
 exact ⟨a0, a1, a2, a3_a, a3_l, a3_c, a4, a5_a, a5_l, a5_c, a6_a, a6_l, a6_c, a7_a, a7_l, a7_c, rfl, ba0, ba1, ba2, ba3, ba4, ba5, ba6, ba7⟩
theorem u16_open {H : Type} {enc : TypeId × Value → H} {w : World} {base : Nat} {spare : Nat → Bool} {held : Bool} {fuel : Nat} {cs : List Value} {x : DataW H × List MemPlace} (h : DataW.trod enc Tryz.prog w base spare held fuel 31 cs = some x) : ∃ n : Int, cs = [.int .u16 n] ∧ (0 ≤ n ∧ n < 65536) := by
 obtain ⟨n, rfl, hw⟩ := trod_int_any Tryz.underlying31 h
 exact ⟨n, rfl, wf_u16 hw⟩
def u16v (n : Int) : List Value := [.int .u16 n]
theorem u16v_flat (l : List Int) : l.flatMap u16v = u16g l := by induction l with | nil => rfl | cons n r ih => simpa [u16v, u16g] using ih
theorem scond_open {H : Type} {enc : TypeId × Value → H} {w : World} {base : Nat} {spare : Nat → Bool} {held : Bool} {fuel : Nat} {cs : List Value} {x : DataW H × List MemPlace} (h : DataW.trod enc Tryz.prog w base spare held fuel 95 cs = some x) : ∃ c : SCnd, cs = c.cells ∧ c.ok := by
 obtain ⟨a0, a1, a2, a3, rfl, h0, h1, h2, h3⟩ := open_95 h
 exact ⟨⟨a0, a1, a2, a3⟩, rfl, h0, h1, h2, h3⟩
structure SRulV where
 r : SRul
 v : Value
def SRulV.cells (x : SRulV) : List Value := [.int .u8 x.r.c, .int .u8 x.r.a, .int .u8 x.r.e, x.v]
structure SRulV.ok (B : List Blk) (x : SRulV) : Prop where
 r : x.r.ok
 v : SCndS B x.v x.r.conds
theorem srul_open {H : Type} {enc : TypeId × Value → H} {w : World} {base : Nat} {spare : Nat → Bool} {held : Bool} {fuel : Nat} {cs : List Value} {x : DataW H × List MemPlace} (h : DataW.trod enc Tryz.prog w base spare held fuel 91 cs = some x) : ∃ (r : SRulV) (B : List Blk), cs = r.cells ∧ r.ok B ∧ ROnly w B := by
 obtain ⟨a0, a1, a2, a3a, a3l, a3c, rfl, h0, h1, h2, ⟨f3, y3, h3⟩⟩ := open_91 h
 obtain ⟨l1, B1, rfl, g1, s1, r1, m1, _, _⟩ := slice_list (cells:=SCnd.cells) (ok:=SCnd.ok) Tryz.underlying89 (sz:=4) (by kernel_rfl) (by omega) (fun _ _ => rfl) (fun _ _ _ h => scond_open h) h3
 exact ⟨⟨⟨a0, a1, a2, l1⟩, _⟩, B1, rfl, ⟨⟨h0, h1, h2, g1⟩, ⟨a3a, a3c, rfl, s1, m1⟩⟩, r1⟩
theorem srulG_of {B : List Blk} : ∀ l : List SRulV, (∀ x ∈ l, x.ok B) → SRulG B (l.map SRulV.r) (l.flatMap SRulV.cells)
 | [], _ => rfl
 | x :: r, h => ⟨x.v, r.flatMap SRulV.cells, rfl, (h x (List.mem_cons_self ..)).v, srulG_of r fun y hy => h y (List.mem_cons_of_mem _ hy)⟩
structure SmlV where
 s : SPol
 vr : Value
 vp : Value
 vg : Value
 vq : Value
abbrev SmlV.cells (x : SmlV) : List Value := [.int .u8 x.s.nm, .int .u8 x.s.df, .int .u8 x.s.en, x.vr, .int .u16 (x.s.hd : Nat), x.vp, x.vg, x.vq]
structure SmlV.ok (B : List Blk) (x : SmlV) : Prop where
 s : x.s.ok
 v : SPolS B x.s x.vr x.vp x.vg x.vq
theorem SmlV.ok.mono {B L : List Blk} {x : SmlV} (h : x.ok B) (hs : SubB B L) : x.ok L := ⟨h.s, h.v.mono hs⟩
theorem small_openP {H : Type} {enc : TypeId × Value → H} {w : World} {base : Nat} {spare : Nat → Bool} {held : Bool} {fuel : Nat} {cs : List Value} {x : DataW H × List MemPlace} (h : DataW.trod enc Tryz.prog w base spare held fuel 48 cs = some x) : ∃ (s : SmlV) (B : List Blk), cs = s.cells ∧ s.ok B ∧ ROnly w B := by
 obtain ⟨a0, a1, a2, a3a, a3l, a3c, a4, a5a, a5l, a5c, a6a, a6l, a6c, a7a, a7l, a7c, rfl, h0, h1, h2, ⟨f3, y3, h3⟩, h4, ⟨f5, y5, h5⟩, ⟨f6, y6, h6⟩, ⟨f7, y7, h7⟩⟩ := open_48 h
 obtain ⟨l3, B3, rfl, g3, s3, r3, m3, -, -⟩ := slice_listB (cells:=SRulV.cells) (ok:=SRulV.ok) Tryz.underlying44 (sz:=4) (by kernel_rfl) (by omega) (fun _ _ _ h => ⟨h.r, h.v.left⟩) (fun _ _ _ h => ⟨h.r, h.v.upA _⟩) (fun _ _ _ h => srul_open h) h3
 obtain ⟨l5, B5, rfl, g5, s5, r5, m5, -, -⟩ := slice_list (cells:=u8v) (ok:=u8ok) Tryz.underlying45 (sz:=1) (by kernel_rfl) (by omega) (fun _ _ => rfl) (fun _ _ _ h => u8_open h) h5
 obtain ⟨l6, B6, rfl, g6, s6, r6, m6, -, -⟩ := slice_list (cells:=u16v) (ok:=fun n : Int => 0 ≤ n ∧ n < 65536) Tryz.underlying46 (sz:=1) (by kernel_rfl) (by omega) (fun _ _ => rfl) (fun _ _ _ h => u16_open h) h6
 obtain ⟨l7, B7, rfl, g7, s7, r7, m7, -, -⟩ := slice_list (cells:=u8v) (ok:=u8ok) Tryz.underlying45 (sz:=1) (by kernel_rfl) (by omega) (fun _ _ => rfl) (fun _ _ _ h => u8_open h) h7
 rw [u8v_flat] at s5 s7
 rw [u16v_flat] at s6
 obtain ⟨hd, rfl⟩ := i_nat h4
 have e3 : (l3.map SRulV.r).length = l3.length := List.length_map ..
 refine ⟨⟨⟨a0, a1, a2, l3.map SRulV.r, hd, l5, l6, l7⟩, _, _, _, _⟩, B3 ++ (B5 ++ (B6 ++ B7)), rfl, ⟨⟨h0, h1, h2, ?_, by show hd < 65536; omega, g5, g6, g7⟩, ⟨⟨a3a, a3c, l3.flatMap SRulV.cells, by rw [e3], by rw [e3]; exact s3.left, (srulG_of l3 g3).left⟩, ⟨a5a, a5c, rfl, (s5.left).upA B3⟩, ⟨a6a, a6c, rfl, ((s6.left).upA B5).upA B3⟩, ⟨a7a, a7c, rfl, ((s7.upA B6).upA B5).upA B3⟩, by show (l3.map SRulV.r).length ≤ maxLen; rw [e3]; exact m3, m5, m6, m7⟩⟩, r3.app (r5.app (r6.app r7))⟩
 intro r hr
 obtain ⟨x, hx, rfl⟩ := List.mem_map.1 hr
 exact (g3 x hx).r
set_option linter.unusedVariables false in
theorem open_99 {H : Type} {enc : TypeId × Value → H} {w : World} {base : Nat} {spare : Nat → Bool} {held : Bool} {fuel : Nat} {cs : List Value} {x : DataW H × List MemPlace} (h : DataW.trod enc Tryz.prog w base spare held fuel 99 cs = some x) :
  ∃ (a0 : Int) (a1 : Int) (a2 : Int) (a3 : Int), cs = [Value.int .i64 a0, Value.int .u8 a1, Value.int .u64 a2, Value.int .u64 a3] ∧ (-9223372036854775808 ≤ a0 ∧ a0 < 9223372036854775808) ∧ (0 ≤ a1 ∧ a1 < 256) ∧ (0 ≤ a2 ∧ a2 < 18446744073709551616) ∧ (0 ≤ a3 ∧ a3 < 18446744073709551616) := by
 obtain ⟨n, rfl, hlen, hf⟩ := h5i Tryz.underlying99 h
 rw [(by kernel_rfl : Tryz.prog.cellsOf 99 = 4)] at hlen
 obtain ⟨c0, c1, c2, c3, rfl⟩ := lst_4 hlen
 have e3 : Tryz.prog.cellsOf 3 = 1 := by kernel_rfl
 have e96 : Tryz.prog.cellsOf 96 = 1 := by kernel_rfl
 have e97 : Tryz.prog.cellsOf 97 = 1 := by kernel_rfl
 obtain ⟨y0, h0⟩ := hf 0 _ rfl
 (try simp only [e3] at h0); (try simp only [Nat.reduceMul] at h0); (try simp only [List.drop_succ_cons] at h0); (try simp only [List.drop_zero] at h0); (try simp only [List.take_succ_cons] at h0); (try simp only [List.take_zero] at h0)
 obtain ⟨a0, rfl, ba0⟩ := h1q Tryz.underlying3 h0
 replace ba0 := wf_i64 ba0
 obtain ⟨y1, h1⟩ := hf 1 _ rfl
 (try simp only [e96] at h1); (try simp only [Nat.reduceMul] at h1); (try simp only [List.drop_succ_cons] at h1); (try simp only [List.drop_zero] at h1); (try simp only [List.take_succ_cons] at h1); (try simp only [List.take_zero] at h1)
 obtain ⟨a1, rfl, ba1⟩ := h1q Tryz.underlying96 h1
 replace ba1 := wf_u8 ba1
 obtain ⟨y2, h2⟩ := hf 2 _ rfl
 (try simp only [e97] at h2); (try simp only [Nat.reduceMul] at h2); (try simp only [List.drop_succ_cons] at h2); (try simp only [List.drop_zero] at h2); (try simp only [List.take_succ_cons] at h2); (try simp only [List.take_zero] at h2)
 obtain ⟨a2, rfl, ba2⟩ := h1q Tryz.underlying97 h2
 replace ba2 := wf_u64 ba2
 obtain ⟨y3, h3⟩ := hf 3 _ rfl
 (try simp only [e97] at h3); (try simp only [Nat.reduceMul] at h3); (try simp only [List.drop_succ_cons] at h3); (try simp only [List.drop_zero] at h3); (try simp only [List.take_succ_cons] at h3); (try simp only [List.take_zero] at h3)
 obtain ⟨a3, rfl, ba3⟩ := h1q Tryz.underlying97 h3
 replace ba3 := wf_u64 ba3
 exact ⟨a0, a1, a2, a3, rfl, ba0, ba1, ba2, ba3⟩
set_option linter.unusedVariables false in
theorem open_73 {H : Type} {enc : TypeId × Value → H} {w : World} {base : Nat} {spare : Nat → Bool} {held : Bool} {fuel : Nat} {cs : List Value} {x : DataW H × List MemPlace} (h : DataW.trod enc Tryz.prog w base spare held fuel 73 cs = some x) :
  ∃ (a0 : Int) (a1 : Int) (a2_a : Option Addr) (a2_l a2_c : Nat), cs = [Value.int .u32 a0, Value.int .u32 a1, Value.slice a2_a a2_l a2_c] ∧ (0 ≤ a0 ∧ a0 < 4294967296) ∧ (0 ≤ a1 ∧ a1 < 4294967296) ∧ (∃ fuel y, DataW.trod enc Tryz.prog w base spare held fuel 71 [Value.slice a2_a a2_l a2_c] = some y) := by
 obtain ⟨n, rfl, hlen, hf⟩ := h5i Tryz.underlying73 h
 rw [(by kernel_rfl : Tryz.prog.cellsOf 73 = 3)] at hlen
 obtain ⟨c0, c1, c2, rfl⟩ := lst_3 hlen
 have e28 : Tryz.prog.cellsOf 28 = 1 := by kernel_rfl
 have e29 : Tryz.prog.cellsOf 29 = 1 := by kernel_rfl
 have e71 : Tryz.prog.cellsOf 71 = 1 := by kernel_rfl
 obtain ⟨y0, h0⟩ := hf 0 _ rfl
 (try simp only [e28] at h0); (try simp only [Nat.reduceMul] at h0); (try simp only [List.drop_succ_cons] at h0); (try simp only [List.drop_zero] at h0); (try simp only [List.take_succ_cons] at h0); (try simp only [List.take_zero] at h0)
 obtain ⟨a0, rfl, ba0⟩ := h1q Tryz.underlying28 h0
 replace ba0 := wf_u32 ba0
 obtain ⟨y1, h1⟩ := hf 1 _ rfl
 (try simp only [e29] at h1); (try simp only [Nat.reduceMul] at h1); (try simp only [List.drop_succ_cons] at h1); (try simp only [List.drop_zero] at h1); (try simp only [List.take_succ_cons] at h1); (try simp only [List.take_zero] at h1)
 obtain ⟨a1, rfl, ba1⟩ := h1q Tryz.underlying29 h1
 replace ba1 := wf_u32 ba1
 obtain ⟨y2, h2⟩ := hf 2 _ rfl
 (try simp only [e71] at h2); (try simp only [Nat.reduceMul] at h2); (try simp only [List.drop_succ_cons] at h2); (try simp only [List.drop_zero] at h2); (try simp only [List.take_succ_cons] at h2); (try simp only [List.take_zero] at h2)
 obtain ⟨a2_a, a2_l, a2_c, rfl⟩ := h3n Tryz.underlying71 h2
 have ba2 : ∃ fuel y, DataW.trod enc Tryz.prog w base spare held fuel 71 [Value.slice a2_a a2_l a2_c] = some y := ⟨_, _, h2⟩
 exact ⟨a0, a1, a2_a, a2_l, a2_c, rfl, ba0, ba1, ba2⟩
set_option linter.unusedVariables false in
theorem open_104 {H : Type} {enc : TypeId × Value → H} {w : World} {base : Nat} {spare : Nat → Bool} {held : Bool} {fuel : Nat} {cs : List Value} {x : DataW H × List MemPlace} (h : DataW.trod enc Tryz.prog w base spare held fuel 104 cs = some x) :
  ∃ (a0 : ByteArray) (a1 : Int), cs = [Value.string a0, Value.int .u16 a1] ∧ a0.size ≤ maxLen ∧ (0 ≤ a1 ∧ a1 < 65536) := by
 obtain ⟨n, rfl, hlen, hf⟩ := h5i Tryz.underlying104 h
 rw [(by kernel_rfl : Tryz.prog.cellsOf 104 = 2)] at hlen
 obtain ⟨c0, c1, rfl⟩ := lst_2 hlen
 have e9 : Tryz.prog.cellsOf 9 = 1 := by kernel_rfl
 have e32 : Tryz.prog.cellsOf 32 = 1 := by kernel_rfl
 obtain ⟨y0, h0⟩ := hf 0 _ rfl
 (try simp only [e9] at h0); (try simp only [Nat.reduceMul] at h0); (try simp only [List.drop_succ_cons] at h0); (try simp only [List.drop_zero] at h0); (try simp only [List.take_succ_cons] at h0); (try simp only [List.take_zero] at h0)
 obtain ⟨a0, rfl, ba0⟩ := trod_string_cell Tryz.underlying9 h0
 obtain ⟨y1, h1⟩ := hf 1 _ rfl
 (try simp only [e32] at h1); (try simp only [Nat.reduceMul] at h1); (try simp only [List.drop_succ_cons] at h1); (try simp only [List.drop_zero] at h1); (try simp only [List.take_succ_cons] at h1); (try simp only [List.take_zero] at h1)
 obtain ⟨a1, rfl, ba1⟩ := h1q Tryz.underlying32 h1
 replace ba1 := wf_u16 ba1
 exact ⟨a0, a1, rfl, ba0, ba1⟩
set_option linter.unusedVariables false in
theorem open_106 {H : Type} {enc : TypeId × Value → H} {w : World} {base : Nat} {spare : Nat → Bool} {held : Bool} {fuel : Nat} {cs : List Value} {x : DataW H × List MemPlace} (h : DataW.trod enc Tryz.prog w base spare held fuel 106 cs = some x) :
  ∃ (a0 : Int) (a1 : Int), cs = [Value.int .u16 a0, Value.int .u16 a1] ∧ (0 ≤ a0 ∧ a0 < 65536) ∧ (0 ≤ a1 ∧ a1 < 65536) := by
 obtain ⟨n, rfl, hlen, hf⟩ := h5i Tryz.underlying106 h
 rw [(by kernel_rfl : Tryz.prog.cellsOf 106 = 2)] at hlen
 obtain ⟨c0, c1, rfl⟩ := lst_2 hlen
 have e31 : Tryz.prog.cellsOf 31 = 1 := by kernel_rfl
 have e32 : Tryz.prog.cellsOf 32 = 1 := by kernel_rfl
 obtain ⟨y0, h0⟩ := hf 0 _ rfl
 (try simp only [e31] at h0); (try simp only [Nat.reduceMul] at h0); (try simp only [List.drop_succ_cons] at h0); (try simp only [List.drop_zero] at h0); (try simp only [List.take_succ_cons] at h0); (try simp only [List.take_zero] at h0)
 obtain ⟨a0, rfl, ba0⟩ := h1q Tryz.underlying31 h0
 replace ba0 := wf_u16 ba0
 obtain ⟨y1, h1⟩ := hf 1 _ rfl
 (try simp only [e32] at h1); (try simp only [Nat.reduceMul] at h1); (try simp only [List.drop_succ_cons] at h1); (try simp only [List.drop_zero] at h1); (try simp only [List.take_succ_cons] at h1); (try simp only [List.take_zero] at h1)
 obtain ⟨a1, rfl, ba1⟩ := h1q Tryz.underlying32 h1
 replace ba1 := wf_u16 ba1
 exact ⟨a0, a1, rfl, ba0, ba1⟩
set_option linter.unusedVariables false in
theorem open_36 {H : Type} {enc : TypeId × Value → H} {w : World} {base : Nat} {spare : Nat → Bool} {held : Bool} {fuel : Nat} {cs : List Value} {x : DataW H × List MemPlace} (h : DataW.trod enc Tryz.prog w base spare held fuel 36 cs = some x) :
  ∃ (a0 : ByteArray) (a1 : Int) (a2_a : Option Addr) (a2_l a2_c : Nat) (a3 : Int) (a4_a : Option Addr) (a4_l a4_c : Nat) (a5_a : Option Addr) (a5_l a5_c : Nat), cs = [Value.string a0, Value.int .u32 a1, Value.slice a2_a a2_l a2_c, Value.int .u16 a3, Value.slice a4_a a4_l a4_c, Value.slice a5_a a5_l a5_c] ∧ a0.size ≤ maxLen ∧ (0 ≤ a1 ∧ a1 < 4294967296) ∧ (∃ fuel y, DataW.trod enc Tryz.prog w base spare held fuel 30 [Value.slice a2_a a2_l a2_c] = some y) ∧ (0 ≤ a3 ∧ a3 < 65536) ∧ (∃ fuel y, DataW.trod enc Tryz.prog w base spare held fuel 33 [Value.slice a4_a a4_l a4_c] = some y) ∧ (∃ fuel y, DataW.trod enc Tryz.prog w base spare held fuel 34 [Value.slice a5_a a5_l a5_c] = some y) := by
 obtain ⟨n, rfl, hlen, hf⟩ := h5i Tryz.underlying36 h
 rw [(by kernel_rfl : Tryz.prog.cellsOf 36 = 6)] at hlen
 obtain ⟨c0, c1, c2, c3, c4, c5, rfl⟩ := lst_6 hlen
 have e9 : Tryz.prog.cellsOf 9 = 1 := by kernel_rfl
 have e29 : Tryz.prog.cellsOf 29 = 1 := by kernel_rfl
 have e30 : Tryz.prog.cellsOf 30 = 1 := by kernel_rfl
 have e32 : Tryz.prog.cellsOf 32 = 1 := by kernel_rfl
 have e33 : Tryz.prog.cellsOf 33 = 1 := by kernel_rfl
 have e34 : Tryz.prog.cellsOf 34 = 1 := by kernel_rfl
 obtain ⟨y0, h0⟩ := hf 0 _ rfl
 (try simp only [e9] at h0); (try simp only [Nat.reduceMul] at h0); (try simp only [List.drop_succ_cons] at h0); (try simp only [List.drop_zero] at h0); (try simp only [List.take_succ_cons] at h0); (try simp only [List.take_zero] at h0)
 obtain ⟨a0, rfl, ba0⟩ := trod_string_cell Tryz.underlying9 h0
 obtain ⟨y1, h1⟩ := hf 1 _ rfl
 (try simp only [e29] at h1); (try simp only [Nat.reduceMul] at h1); (try simp only [List.drop_succ_cons] at h1); (try simp only [List.drop_zero] at h1); (try simp only [List.take_succ_cons] at h1); (try simp only [List.take_zero] at h1)
 obtain ⟨a1, rfl, ba1⟩ := h1q Tryz.underlying29 h1
 replace ba1 := wf_u32 ba1
 obtain ⟨y2, h2⟩ := hf 2 _ rfl
 (try simp only [e30] at h2); (try simp only [Nat.reduceMul] at h2); (try simp only [List.drop_succ_cons] at h2); (try simp only [List.drop_zero] at h2); (try simp only [List.take_succ_cons] at h2); (try simp only [List.take_zero] at h2)
 obtain ⟨a2_a, a2_l, a2_c, rfl⟩ := h3n Tryz.underlying30 h2
 have ba2 : ∃ fuel y, DataW.trod enc Tryz.prog w base spare held fuel 30 [Value.slice a2_a a2_l a2_c] = some y := ⟨_, _, h2⟩
 obtain ⟨y3, h3⟩ := hf 3 _ rfl
 (try simp only [e32] at h3); (try simp only [Nat.reduceMul] at h3); (try simp only [List.drop_succ_cons] at h3); (try simp only [List.drop_zero] at h3); (try simp only [List.take_succ_cons] at h3); (try simp only [List.take_zero] at h3)
 obtain ⟨a3, rfl, ba3⟩ := h1q Tryz.underlying32 h3
 replace ba3 := wf_u16 ba3
 obtain ⟨y4, h4⟩ := hf 4 _ rfl
 (try simp only [e33] at h4); (try simp only [Nat.reduceMul] at h4); (try simp only [List.drop_succ_cons] at h4); (try simp only [List.drop_zero] at h4); (try simp only [List.take_succ_cons] at h4); (try simp only [List.take_zero] at h4)
 obtain ⟨a4_a, a4_l, a4_c, rfl⟩ := h3n Tryz.underlying33 h4
 have ba4 : ∃ fuel y, DataW.trod enc Tryz.prog w base spare held fuel 33 [Value.slice a4_a a4_l a4_c] = some y := ⟨_, _, h4⟩
 obtain ⟨y5, h5⟩ := hf 5 _ rfl
 (try simp only [e34] at h5); (try simp only [Nat.reduceMul] at h5); (try simp only [List.drop_succ_cons] at h5); (try simp only [List.drop_zero] at h5); (try simp only [List.take_succ_cons] at h5); (try simp only [List.take_zero] at h5)
 obtain ⟨a5_a, a5_l, a5_c, rfl⟩ := h3n Tryz.underlying34 h5
 have ba5 : ∃ fuel y, DataW.trod enc Tryz.prog w base spare held fuel 34 [Value.slice a5_a a5_l a5_c] = some y := ⟨_, _, h5⟩
 exact ⟨a0, a1, a2_a, a2_l, a2_c, a3, a4_a, a4_l, a4_c, a5_a, a5_l, a5_c, rfl, ba0, ba1, ba2, ba3, ba4, ba5⟩
theorem gcnd_open {H : Type} {enc : TypeId × Value → H} {w : World} {base : Nat} {spare : Nat → Bool} {held : Bool} {fuel : Nat} {cs : List Value} {x : DataW H × List MemPlace} (h : DataW.trod enc Tryz.prog w base spare held fuel 99 cs = some x) : ∃ c : GCnd, cs = c.cells ∧ c.ok := by
 obtain ⟨a0, a1, a2, a3, rfl, h0, h1, h2, h3⟩ := open_99 h
 obtain ⟨o, rfl⟩ := i_nat h1
 obtain ⟨m, rfl⟩ := i_nat h2
 obtain ⟨v, rfl⟩ := i_nat h3
 exact ⟨⟨a0, o, m, v⟩, rfl, h0, by show o < 256; omega, by show m < _; omega, by show v < _; omega⟩
structure GRulV where
 r : GRul
 v : Value
def GRulV.cells (x : GRulV) : List Value := [.int .u32 x.r.num, .int .u32 x.r.act, x.v]
structure GRulV.ok (B : List Blk) (x : GRulV) : Prop where
 r : x.r.ok
 v : CndS B x.v x.r.conds
theorem grul_open {H : Type} {enc : TypeId × Value → H} {w : World} {base : Nat} {spare : Nat → Bool} {held : Bool} {fuel : Nat} {cs : List Value} {x : DataW H × List MemPlace} (h : DataW.trod enc Tryz.prog w base spare held fuel 73 cs = some x) : ∃ (r : GRulV) (B : List Blk), cs = r.cells ∧ r.ok B ∧ ROnly w B := by
 obtain ⟨a0, a1, a2a, a2l, a2c, rfl, h0, h1, ⟨f2, y2, h2⟩⟩ := open_73 h
 obtain ⟨l1, B1, rfl, g1, s1, r1, m1, _, _⟩ := slice_list (cells:=GCnd.cells) (ok:=GCnd.ok) Tryz.underlying71 (sz:=4) (by kernel_rfl) (by omega) (fun _ _ => rfl) (fun _ _ _ h => gcnd_open h) h2
 exact ⟨⟨⟨a0, a1, l1⟩, _⟩, B1, rfl, ⟨⟨h0, h1, g1⟩, ⟨a2a, a2c, rfl, s1, m1⟩⟩, r1⟩
theorem grulG_of {B : List Blk} : ∀ l : List GRulV, (∀ x ∈ l, x.ok B) → RulsG B (l.map GRulV.r) (l.flatMap GRulV.cells)
 | [], _ => rfl
 | x :: r, h => ⟨x.v, r.flatMap GRulV.cells, rfl, (h x (List.mem_cons_self ..)).v, grulG_of r fun y hy => h y (List.mem_cons_of_mem _ hy)⟩
def ptcV (p : List UInt8 × Nat) : List Value := [.string (mB8 p.1), .int .u16 (p.2 : Nat)]
theorem ptc_open {H : Type} {enc : TypeId × Value → H} {w : World} {base : Nat} {spare : Nat → Bool} {held : Bool} {fuel : Nat} {cs : List Value} {x : DataW H × List MemPlace} (h : DataW.trod enc Tryz.prog w base spare held fuel 104 cs = some x) : ∃ p : List UInt8 × Nat, cs = ptcV p ∧ (p.1.length ≤ maxLen ∧ p.2 < 65536) := by
 obtain ⟨a0, a1, rfl, h0, h1⟩ := open_104 h
 obtain ⟨n, rfl⟩ := i_nat h1
 exact ⟨(lB a0, n), by rw [ptcV, mB8_lB], by rw [h2x]; exact h0, by show n < 65536; omega⟩
def prcV (p : Nat × Nat) : List Value := [.int .u16 (p.1 : Nat), .int .u16 (p.2 : Nat)]
theorem prc_open {H : Type} {enc : TypeId × Value → H} {w : World} {base : Nat} {spare : Nat → Bool} {held : Bool} {fuel : Nat} {cs : List Value} {x : DataW H × List MemPlace} (h : DataW.trod enc Tryz.prog w base spare held fuel 106 cs = some x) : ∃ p : Nat × Nat, cs = prcV p ∧ (p.1 < 65536 ∧ p.2 < 65536) := by
 obtain ⟨a0, a1, rfl, h0, h1⟩ := open_106 h
 obtain ⟨n, rfl⟩ := i_nat h0
 obtain ⟨m, rfl⟩ := i_nat h1
 exact ⟨(n, m), rfl, by show n < 65536; omega, by show m < 65536; omega⟩
structure GplV where
 P : GPol
 vr : Value
 vp : Value
 vq : Value
abbrev GplV.cells (x : GplV) : List Value := polG x.P x.vr x.vp x.vq
structure GplV.ok (B : List Blk) (x : GplV) : Prop where
 r : GPolR x.P
 v : PolS B x.P x.vr x.vp x.vq
theorem GplV.ok.mono {B L : List Blk} {x : GplV} (h : x.ok B) (hs : SubB B L) : x.ok L := ⟨h.r, h.v.mono hs⟩
theorem policy_open {H : Type} {enc : TypeId × Value → H} {w : World} {base : Nat} {spare : Nat → Bool} {held : Bool} {fuel : Nat} {cs : List Value} {x : DataW H × List MemPlace} (h : DataW.trod enc Tryz.prog w base spare held fuel 36 cs = some x) : ∃ (s : GplV) (B : List Blk), cs = s.cells ∧ s.ok B ∧ ROnly w B := by
 obtain ⟨a0, a1, a2a, a2l, a2c, a3, a4a, a4l, a4c, a5a, a5l, a5c, rfl, h0, h1, ⟨f2, y2, h2⟩, h3, ⟨f4, y4, h4⟩, ⟨f5, y5, h5⟩⟩ := open_36 h
 obtain ⟨l2, B2, rfl, g2, s2, r2, m2, -, -⟩ := slice_listB (cells:=GRulV.cells) (ok:=GRulV.ok) Tryz.underlying30 (sz:=3) (by kernel_rfl) (by omega) (fun _ _ _ h => ⟨h.r, h.v.left⟩) (fun _ _ _ h => ⟨h.r, h.v.upA _⟩) (fun _ _ _ h => grul_open h) h2
 obtain ⟨l4, B4, rfl, g4, s4, r4, m4, -, -⟩ := slice_list (cells:=ptcV) (ok:=fun p : List UInt8 × Nat => p.1.length ≤ maxLen ∧ p.2 < 65536) Tryz.underlying33 (sz:=2) (by kernel_rfl) (by omega) (fun _ _ => rfl) (fun _ _ _ h => ptc_open h) h4
 obtain ⟨l5, B5, rfl, g5, s5, r5, m5, -, -⟩ := slice_list (cells:=prcV) (ok:=fun p : Nat × Nat => p.1 < 65536 ∧ p.2 < 65536) Tryz.underlying34 (sz:=2) (by kernel_rfl) (by omega) (fun _ _ => rfl) (fun _ _ _ h => prc_open h) h5
 obtain ⟨hd, rfl⟩ := i_nat h3
 have e2 : (l2.map GRulV.r).length = l2.length := List.length_map ..
 refine ⟨⟨⟨lB a0, a1, l2.map GRulV.r, hd, l4, l5⟩, _, _, _⟩, B2 ++ (B4 ++ B5), by rw [GplV.cells, polG, mB8_lB], ⟨⟨by show (lB a0).length ≤ maxLen; rw [h2x]; exact h0, h1, ?_, by show hd < 65536; omega, g4, g5⟩, ⟨⟨a2a, a2c, l2.flatMap GRulV.cells, by rw [e2], by rw [e2]; exact s2.left, (grulG_of l2 g2).left⟩, ⟨a4a, a4c, rfl, (s4.left).upA B2⟩, ⟨a5a, a5c, rfl, (s5.upA B4).upA B2⟩, by show (l2.map GRulV.r).length ≤ maxLen; rw [e2]; exact m2, m4, m5⟩⟩, r2.app (r4.app r5)⟩
 intro r hr
 obtain ⟨x, hx, rfl⟩ := List.mem_map.1 hr
 exact (g2 x hx).r
end Go.Proofs.YtecbgehooembmaaGreatDoor
namespace Go.Proofs.YtecbgehooembmaaGreatDoor
open Go.ChangeShapes Go.WideShapes Go.ChangeAt Go.RowKit
theorem ownParseBack : ownKnob Tryz.prog.godebug = none := by kernel_rfl
theorem laidParseBack : laidOutB Tryz.prog = true := by kernel_rfl
theorem parseBack_lifted (os : Os) (started : os.Started) (H : Type) (enc : TypeId × Value → H) :
  ReturnsInHanded {} Tryz.checked os 6 .any (fun w args => (Rows.parseBackSpec.pre enc Tryz.prog Tryz.f6 [] false w args ∧ laidMetH Tryz.prog Rows.parseBackRow.laid w) ∧ sizedMet enc Tryz.prog Tryz.f6 (OpenSpec.ofChange Rows.parseBackSpec) false w args)
   (Rows.parseBackSpec.post enc Tryz.prog Tryz.f6 false true false false) := by
 refine returnsInHanded_of_change_and (C:=Tryz.checked) (X:=fun w _ => laidMetH Tryz.prog Rows.parseBackRow.laid w) (fun _ _ _ hh h => h.of_heap hh) ownParseBack started (by kernel_rfl) Tryz.func6
  (ChangeSpec.witness_shaped (enc:=enc) (C:=Tryz.checked) (os:=os) (X:=fun w _ => laidMetH Tryz.prog Rows.parseBackRow.laid w) false (World.laidAll Tryz.prog os Rows.parseBackRow.laid) #[.agg #[.int .u8 0, .int .u8 0, .int .u8 0, .slice none 0 0, .int .u16 0, .slice none 0 0, .slice none 0 0, .slice none 0 0], .agg #[.string ⟨#[]⟩, .int .u32 0, .slice none 0 0, .int .u16 0, .slice none 0 0, .slice none 0 0], .bool false] 8 (World.laidAll_os _ _ _)
   (World.shaped_of_ZipB (by kernel_rfl) (by kernel_rfl)) (by kernel_rfl) (by kernel_rfl) (by kernel_rfl)
   (by rw [MakeChecks.laidMetH_plain _ _ _ (by kernel_rfl)]; exact laidMet_laidAll _ (by kernel_rfl) (by kernel_rfl))) ?_
 intro W base args ds gs before hval0 hW _ _ _ _
 have hval : ∀ (j : Nat) t v, Tryz.f6.params[j]? = some t → args[j]? = some v → Value.okWide Tryz.prog W .any base t v := hval0
 have hW' := hW
 obtain ⟨p, q, hA0, hV, rfl, hfz, hnd⟩ := hW
 have hA : DataW.TrodAll enc Tryz.prog W 0 (fun _ => true) true Tryz.f6.params.toList args.toList ds p := hA0
 rw [Tryz.params6] at hA hval
 obtain ⟨v0, vs0, d0, ds0, p0, q0, hargs, rfl, rfl, h0, r0⟩ := trodAll_cons hA
 obtain ⟨v1, vs1, d1, ds1, p1, q1, rfl, rfl, rfl, h1, r1⟩ := trodAll_cons r0
 obtain ⟨v2, vs2, d2, ds2, p2, q2, rfl, rfl, rfl, h2, r2⟩ := trodAll_cons r1
 obtain ⟨rfl, rfl, rfl⟩ := trodAll_nil r2
 obtain rfl : args = #[v0, v1, v2] := by cases args; simp_all
 obtain ⟨rfl, rfl⟩ := trodVars_none hV
 have k0 := h0
 have lt0 : ∀ x ∈ p0, x.block < W.heap.size := by obtain ⟨m, hm⟩ := k0; exact DataW.trod_lt m _ _ _ hm
 have k1 := h1
 have lt1 : ∀ x ∈ p1, x.block < W.heap.size := by obtain ⟨m, hm⟩ := k1; exact DataW.trod_lt m _ _ _ hm
 have k2 := h2
 have lt2 : ∀ x ∈ p2, x.block < W.heap.size := by obtain ⟨m, hm⟩ := k2; exact DataW.trod_lt m _ _ _ hm
 obtain ⟨a2, rfl⟩ := okWide_bool Tryz.underlying4 (hval 2 4 v2 rfl rfl)
 obtain ⟨cs0, rfl, _⟩ := okWide_struct Tryz.underlying48 (hval 0 48 v0 rfl rfl)
 obtain ⟨f0, hf0⟩ := h0
 obtain ⟨a0, B0, e0, b0, ro0⟩ := small_openP hf0
 obtain rfl : cs0 = a0.cells.toArray := by apply Array.ext'; simpa [Value.cells] using e0
 obtain ⟨cs1, rfl, _⟩ := okWide_struct Tryz.underlying36 (hval 1 36 v1 rfl rfl)
 obtain ⟨f1, hf1⟩ := h1
 obtain ⟨a1, B1, e1, b1, ro1⟩ := policy_open hf1
 obtain rfl : cs1 = a1.cells.toArray := by apply Array.ext'; simpa [Value.cells] using e1
 have S0 := b0.mono (L:=(B0 ++ B1)) (SubB.left _ _)
 have S1 := b1.mono (L:=(B0 ++ B1)) (SubB.upA (SubB.refl _))
 clear hA0 hval0
 refine ((parseBack_c (S:=[]) (w0:=W) (L:=(B0 ++ B1)) a0.s S0.s a0.vr a0.vp a0.vg a0.vq S0.v a1.P S1.r a1.vr a1.vp a1.vq S1.v a2).out W (HP.ro (ro0.app ro1))).mono fun e W' ⟨v, L', he, ⟨hv, _⟩, H'⟩ => ?_
 subst he hv
 have bel := H'.below
 exact ⟨_, rfl, _, _, _, [], _, [], hW', trodAll_mk1 (shut_bool Tryz.underlying4 _), (trodAll_cons_mk (Below.trod laidParseBack (by kernel_rfl) (of_decide_eq_true (by kernel_rfl)) k0 bel lt0) (trodAll_cons_mk (Below.trod laidParseBack (by kernel_rfl) (of_decide_eq_true (by kernel_rfl)) k1 bel lt1) (trodAll_cons_mk (Below.trod laidParseBack (by kernel_rfl) (of_decide_eq_true (by kernel_rfl)) k2 bel lt2) trodAll_mk0))), rfl, bel.frame _, fun h => by cases h⟩
theorem parseBack_said : Rows.ParseBackSaid :=
 OpenClaim.holds_of_wide 6 Tryz.f6 rfl rfl rfl rfl rfl rfl rfl ⟨rfl, rfl, rfl, rfl, rfl⟩ rfl rfl rfl rfl rfl (by kernel_rfl) Tryz.func6 (by kernel_rfl)
  (of_decide_eq_true (by kernel_rfl)) (by unfold Func.isWrapper; first | (rw [if_pos (by decide +kernel)]; kernel_rfl) | (rw [if_neg (by decide +kernel)]; exact ⟨rfl, rfl⟩))
  (fun os started H enc _ => parseBack_lifted os started H enc)
theorem parseBack_plain (f : FuncId) (fn : Func) (hf : Tryz.pinned.checked.prog.funcNamed "pinfold/pinfoldlaw10.ParseBack" = some f) (hfn : Tryz.pinned.checked.prog.funcs[f]? = some fn) :
  false = Tryz.pinned.checked.prog.looks [] ∧ ∀ (j : Nat) t, fn.params[j]? = some t → Tryz.pinned.checked.prog.wantsStandIn t = false := by
 obtain rfl : f = 6 := Option.some.inj ((show Tryz.prog.funcNamed "pinfold/pinfoldlaw10.ParseBack" = some 6 by kernel_rfl).symm.trans hf) |>.symm
 obtain rfl : fn = Tryz.f6 := (Option.some.inj (Tryz.func6.symm.trans hfn)).symm
 refine ⟨by kernel_rfl, fun j t ht => ?_⟩
 rw [Tryz.params6] at ht
 have hm : t ∈ [48, 36, 4] := by simpa using Array.mem_of_getElem? ht
 have hall : ([48, 36, 4].all fun u => !Tryz.prog.wantsStandIn u) = true := by kernel_rfl
 exact (show Tryz.prog.wantsStandIn t = false by simpa using List.all_eq_true.1 hall t hm)
theorem parseBack_holds : Rows.ParseBackCardSaid :=
 Claim7.holds_tied_plain_at .later [] _ _ _ _ parseBack_said (fun _ h => by cases h) (by kernel_rfl) (fun _ h => by cases h) parseBack_row_tie rfl ⟨rfl, rfl⟩ (by kernel_rfl) rfl parseBack_plain (by kernel_rfl)
#print axioms parseBack_holds
end Go.Proofs.YtecbgehooembmaaGreatDoor
