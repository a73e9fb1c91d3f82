/- Part 7 of what the last text of this claim leans on: rules of walks, contracts, plain facts. Conditions: those of each statement. -/
import Derived.Test.YtecbgehooembmaaDoorQp6
set_option maxRecDepth 100000
namespace Go.Proofs.YtecbgehooembmaaDoor
open Go Go.RowKit
abbrev GCnd.rc (c : GCnd) : List Value := [.int .i64 c.arg, .int .i64 (c.op : Nat), .int .u64 (c.mask : Nat), .int .u64 (c.val : Nat)]
def rgC (cs : List GCnd) : List Value := cs.flatMap GCnd.rc
theorem rgC_snoc (cs : List GCnd) (c : GCnd) : rgC (cs ++ [c]) = rgC cs ++ c.rc := by simp [rgC]
theorem rgC_at (cs : List GCnd) (k : Nat) (h : k < cs.length) : ((rgC cs).drop (k * 4)).take 4 = (cs[k]).rc := by
 induction cs generalizing k with
 | nil => simp at h
 | cons c r ih =>
  cases k with
  | zero => simp [rgC]
  | succ k =>
   rw [rgC, List.flatMap_cons, ← rgC, show (k + 1) * 4 = c.rc.length + k * 4 by simp only [GCnd.rc, List.length_cons, List.length_nil]; omega, List.drop_append, List.drop_eq_nil_of_le (by omega), List.nil_append, Nat.add_sub_cancel_left]
   exact ih k (by simpa using h)
def rpC (ps : List (List UInt8 × Nat)) : List Value := ps.flatMap fun p => [.string (mB8 p.1), .int .i64 (p.2 : Nat)]
def rqC (ps : List (Nat × Nat)) : List Value := ps.flatMap fun p => [.int .i64 (p.1 : Nat), .int .i64 (p.2 : Nat)]
theorem rpC_snoc (ps : List (List UInt8 × Nat)) (p : List UInt8 × Nat) : rpC (ps ++ [p]) = rpC ps ++ [.string (mB8 p.1), .int .i64 (p.2 : Nat)] := by simp [rpC]
theorem rqC_snoc (ps : List (Nat × Nat)) (p : Nat × Nat) : rqC (ps ++ [p]) = rqC ps ++ [.int .i64 (p.1 : Nat), .int .i64 (p.2 : Nat)] := by simp [rqC]
inductive RefR : List GRul → List Value → List Blk → Prop
 | nil : RefR [] [] []
 | snoc {rs : List GRul} {cz : List Value} {ec : List Blk} {r : GRul} {v : Value} {e : List Blk} (h : RefR rs cz ec) (ho : Own 65 4 v r.conds.length (rgC r.conds) e) : RefR (rs ++ [r]) (cz ++ [.int .u32 r.num, .int .u32 r.act, v]) (e ++ ec)
structure RfD where
 vr : Value
 vp : Value
 vq : Value
 cz : List Value
 er : List Blk
 ec : List Blk
 ep : List Blk
 eq : List Blk
structure RfD.ok (d : RfD) (P : GPol) : Prop where
 rs : RefR P.rules d.cz d.ec
 vr : Own 109 3 d.vr P.rules.length d.cz d.er
 vp : Own 113 2 d.vp P.paths.length (rpC P.paths) d.ep
 vq : Own 116 2 d.vq P.ports.length (rqC P.ports) d.eq
def RfD.blocks (d : RfD) : List Blk := d.er ++ (d.ep ++ (d.eq ++ d.ec))
abbrev refC (P : GPol) (vr vp vq : Value) : List Value := [.string (mB8 P.nm), .int .u32 P.df, vr, .int .i64 (P.hd : Nat), vp, vq]
structure FewN (P : GPol) : Prop where
 conds : ∀ r ∈ P.rules, r.conds.length ≤ 1000
 l1 : P.rules.length ≤ 1000
 l2 : P.paths.length ≤ 1000
 l3 : P.ports.length ≤ 1000
abbrev rfB (b : Nat) (nm : ByteArray) (df : Int) (vr : Value) (hd : Nat) (vp vq : Value) : Blk := ⟨true, b, .cells #[.string nm, .int .u32 df, vr, .int .i64 (hd : Nat), vp, vq] 60 (0, 0)⟩
abbrev poB (b : Nat) (nm : ByteArray) (df : Int) (vr : Value) (hd : Nat) (vp vq : Value) : Blk := ⟨true, b, .cells #[.string nm, .int .u32 df, vr, .int .u16 (hd : Nat), vp, vq] 30 (0, 0)⟩
abbrev rrB (n : Nat) (num act : Int) (v : Value) : Blk := ⟨true, n, .cells #[.int .u32 num, .int .u32 act, v] 109 (0, 0)⟩
abbrev rfZ (b : Nat) : Blk := ⟨true, b, .cells #[.string ⟨#[]⟩, .int .u32 0, .slice none 0 0, .int .i64 0, .slice none 0 0, .slice none 0 0] 60 (0, 0)⟩
theorem refcond_c {S w0 L} (a : Int) (o m v : Nat) (ho : o < 256) : Fn Tryd.prog 13 #[.agg #[.int .i64 a, .int .u8 (o : Nat), .int .u64 (m : Nat), .int .u64 (v : Nat)]] S w0 L fun r L' => r = .agg #[.int .i64 a, .int .i64 (o : Nat), .int .u64 (m : Nat), .int .u64 (v : Nat)] ∧ L = L' := by
 refine Fn1 Tryd.func13 Tryd.ntmps13 rfl rfl ?_
 repeat' (first | refine h0t ?_ | refine h0e ?_ | refine h1e ?_ | (refine gR 0 ?_ <;> (try refine h0b ?_; (refine h2c (t:=39) rfl rfl ?_; intro nb hnb; (try simp only [Value.cells]))) <;> (try refine h0b ?_; (refine h1b (t:=65) rfl Tryd.zeroValue65 ?_; intro nb hnb; (try simp only [Value.cells]))) <;> (try refine h0a ?_)) | (refine gR 1 (p_e (q_f h3j) (h:=p_e q_l (h:=p_e (q_f h2p) (h:=q_e q_l ?_)))) <;> (try refine q_e (by apply h3c; exact rfl; (focus (apply h3a Tryd.underlying36 Tryd.underlying3; first | (refine IntWalk.i64_in _ ?_; omega) | (refine IntWalk.u8_in _ ?_; omega) | (refine IntWalk.u16_in _ ?_; omega) | (refine IntWalk.u32_in _ ?_; omega) | (refine IntWalk.u64_in _ ?_; omega) | (refine IntWalk.i32_in _ ?_; omega) | exact rfl))) ?_) <;> (try refine p_e (q_f fo_39_2) (h:=p_e q_l (h:=p_e (q_f fo_39_3) (h:=q_e q_l ?_)))) <;> (try refine q_e (by exact h0v (t:=65) (fun vs => (match vs with | [(_, x0), (_, x1), (_, x2), (_, x3)] => [x0, x1, x2, x3] | _ => [])) rfl (fun w => by kernel_rfl)) ?_; (try simp only [Value.cells]); (try simp only [zzC, zzN])) <;> (try refine h0b ?_; (refine q_W ?_)) <;> (try refine h0a ?_)))
 (apply G_doneA Tryd.results13; exact rfl; (focus (repeat (first | exact fd0 | (with_reducible assumption) | apply fdA | apply fdS))); kernel_rfl; kernel_rfl; exact sz_65; exact c_8)
 exact ⟨_, ⟨rfl, rfl⟩, by intro w H; refine H.sub ?_; (try simp only [zzC, zzN]); repeat (first | exact List.Sublist.refl _ | refine List.Sublist.cons _ ?_)⟩
structure RfG where
 k : Nat
 cz : List Value
 vr : Value
 er : List Blk
 ec : List Blk
structure RfI (rules : List GRul) (g : RfG) : Prop where
 le : g.k ≤ rules.length
 rs : RefR (rules.take g.k) g.cz g.ec
 own : Own 109 3 g.vr g.k g.cz g.er
set_option maxHeartbeats 2000000 in
theorem ref_c {S w0 L} (P : GPol) (h : P.ok) (hN : FewN P) (vr vp vq : Value) (hS : PolS L P vr vp vq) :
  Fn Tryd.prog 10 #[.agg (polG P vr vp vq).toArray] S w0 L fun v L' => ∃ d : RfD, v = .agg (refC P d.vr d.vp d.vq).toArray ∧ d.ok P ∧ d.blocks ++ L = L' := by
 obtain ⟨⟨ra, rc, zz, rfl, hrs, hrg⟩, ⟨pa, pc, rfl, hps⟩, ⟨qa, qc, rfl, hqs⟩, -, -, -⟩ := hS
 obtain ⟨hcn, hl1, hl2, hl3⟩ := hN
 obtain ⟨-, -, hro, hhd, hpo, hqo⟩ := h
 obtain ⟨nm, df, rules, hd, paths, ports⟩ := P
 dsimp only [polG] at *
 generalize hnmB : mB8 nm = nmB at *
 refine Fn1 Tryd.func10 Tryd.ntmps10 rfl rfl ?_
 repeat' (first | (refine h2g (id:=0) ?_) | refine h0t ?_ | refine h0e ?_ | (refine gR 0 ?_ <;> (try refine h0b ?_; (refine h2c (t:=30) rfl rfl ?_; intro nb hnb; (try simp only [Value.cells]))) <;> (try refine h0b ?_; (refine h1b (t:=60) rfl Tryd.zeroValue60 ?_; intro nb hnb; (try simp only [Value.cells]))) <;> (try refine h0a ?_)) | (refine gR 1 (p_e (q_f fo_30_0) (h:=p_e q_l (h:=p_e (q_f fo_30_1) (h:=p_e q_l (h:=p_e (q_f fo_30_3) (h:=q_e q_l ?_)))))) <;> (try refine q_e (by apply h3c; exact rfl; (focus (apply h3a Tryd.underlying26 Tryd.underlying3; first | (refine IntWalk.i64_in _ ?_; omega) | (refine IntWalk.u8_in _ ?_; omega) | (refine IntWalk.u16_in _ ?_; omega) | (refine IntWalk.u32_in _ ?_; omega) | (refine IntWalk.u64_in _ ?_; omega) | (refine IntWalk.i32_in _ ?_; omega) | exact rfl))) ?_) <;> (try refine q_e (by exact h0v (t:=60) (fun vs => (match vs with | [(_, x0), (_, x1), (_, x2)] => [x0, x1, Value.slice none 0 0, x2, Value.slice none 0 0, Value.slice none 0 0] | _ => [])) rfl (fun w => by kernel_rfl)) ?_; (try simp only [Value.cells]); (try simp only [zzC, zzN])) <;> (try refine h0b ?_; (refine h1b (t:=60) rfl Tryd.zeroValue60 ?_; intro nb hnb; (try simp only [Value.cells]))) <;> (try refine h0b ?_; (refine q_W ?_)) <;> (try refine h0a ?_)) | (refine gR 2 (p_e (q_f h2n) (h:=p_e q_l (h:=p_e (by apply h0h; exact rfl; exact (fun _ => BigFrame.builtin_len ..); apply h0j Tryd.underlying24; exact h3d) (h:=p_m (h:=h0a ?_)))))))
 refine ⟨?_⟩
 rename_i n1 _ n2 _
 obtain ⟨n3, rfl⟩ : ∃ x, x = nb := ⟨_, rfl⟩
 refine h4e (γ:=RfG) (fun g => RefR rules g.cz g.ec ∧ Own 109 3 g.vr rules.length g.cz g.er) (fun _ => []) [(1, _), (2, _), (3, _)]
  (fun g => g.er ++ (rfB n3 nmB df g.vr hd (.slice none 0 0) (.slice none 0 0) :: rfZ n2 :: poB n1 nmB df (.slice ra rules.length rc) hd (.slice pa paths.length pc) (.slice qa ports.length qc) :: (g.ec ++ L))) (.cons rfl (.cons rfl (.cons rfl .nil))) ?_ ?_
 ·refine h0o ?_
  refine h2i (γ:=RfG) (RfI rules) (fun g => rules.length - g.k) (fun g => [(24, .int .i64 (g.k : Nat))]) [(1, _), (2, _), (3, _), (22, _), (23, _)]
   (fun g => g.er ++ (rfB n3 nmB df g.vr hd (.slice none 0 0) (.slice none 0 0) :: rfZ n2 :: poB n1 nmB df (.slice ra rules.length rc) hd (.slice pa paths.length pc) (.slice qa ports.length qc) :: (g.ec ++ L))) ⟨0, [], .slice none 0 0, [], []⟩ (.cons rfl (.cons rfl (.cons rfl (.cons rfl (.cons rfl .nil))))) ⟨Nat.zero_le _, .nil, Own.nil _ _⟩ (by (focus (repeat (first | exact Sub.nil | refine Sub.cons rfl ?_)))) c_21 ?_
  rintro ⟨k, cz, vr, er, ec⟩ ⟨hk, hR, hown⟩
  dsimp only at hk hR hown ⊢
  obtain ⟨va, vc, rfl, -⟩ := hown.sli []
  by_cases hlt : k < rules.length
  case neg =>
   obtain rfl : k = rules.length := by omega
   rw [List.take_length] at hR
   repeat' (first | refine h0t ?_ | refine h0e ?_ | refine h1d ?_ | refine h1w ?_ | refine h1o ?_ | refine h1v ?_ | refine h2j ?_ | refine h0m rfl ?_ | (refine gR 3 (p_e (q_b (r:=by exact h0r q_o)) (h:=h0a ?_))))
   exact h1p ⟨0, cz, _, er, ec⟩ ⟨hR, hown⟩ (by (focus (repeat (first | exact Sub.nil | refine Sub.cons rfl ?_)))) (by intro w H; refine Sel.out ?_ H; (try simp only [List.cons_append, List.nil_append, List.append_assoc]); repeat (first | exact Sel.refl _ | exact Sel.nil _ | (with_reducible apply Sel.appS) | (apply Sel.cons; (focus (repeat (first | exact fd0 | (with_reducible assumption) | apply fdA | apply fdS))); (try simp only [zzE, zzF])) | apply Sel.drop | apply Sel.dropA))
  obtain ⟨j, q, bb, off, cs, T, fr, rfl, hj, hsz, hx⟩ := hrs.elem hlt
  obtain ⟨v, hv, hcs⟩ := hrg.at_ k hlt
  rw [hv] at hx
  have hrk := hro _ (List.getElem_mem hlt)
  have hck := hcn _ (List.getElem_mem hlt)
  obtain ⟨ca, cc, rfl, hsc, hcl⟩ := hcs
  clear hv
  have hRs : ∀ (v : Value) (e : List Blk), Own 65 4 v rules[k].conds.length (rgC rules[k].conds) e → RefR (rules.take (k + 1)) (cz ++ [.int .u32 rules[k].num, .int .u32 rules[k].act, v]) (e ++ ec) := fun v e h => by
   rw [List.take_succ_eq_append_getElem hlt]
   exact .snoc hR h
  generalize rules[k] = r at *
  obtain ⟨num, act, conds⟩ := r
  obtain ⟨-, -, hr4⟩ := hrk
  dsimp only at *
  clear hR
  repeat' (first | (refine h2g (id:=2) ?_) | refine h0t ?_ | refine h0e ?_ | refine h0o ?_ | refine h1a ?_ | refine h0l rfl ?_ | (refine gR 3 (p_e (q_b (r:=by exact h0q q_o)) (h:=h0a ?_))) | (refine gR 4 (p_e (by apply h0s; exact rfl; exact rfl; (focus (apply h2h Tryd.underlying24 sz_47; omega; omega; exact c_1))) (h:=q_e (by apply h1r (t:=47); exact rfl; (focus (repeat (first | (with_reducible assumption) | apply fdA | apply fdS))); kernel_rfl; kernel_rfl; exact sz_47; (with_reducible assumption); (with_reducible assumption)) ?_)) <;> (try refine h0b ?_; (refine h1b (t:=47) rfl Tryd.zeroValue47 ?_; intro nb hnb; (try simp only [Value.cells]))) <;> (try refine h0b ?_; (refine q_W ?_)) <;> (try refine h0a ?_)) | (refine gR 5 (p_e (q_f fo_47_0) (h:=p_e q_l (h:=p_e (q_f fo_47_1) (h:=q_e q_l ?_)))) <;> (try refine q_e (by exact h0v (t:=109) (fun vs => (match vs with | [(_, x0), (_, x1)] => [x0, x1, Value.slice none 0 0] | _ => [])) rfl (fun w => by kernel_rfl)) ?_; (try simp only [Value.cells]); (try simp only [zzC, zzN])) <;> (try refine h0b ?_; (refine h1b (t:=109) rfl Tryd.zeroValue109 ?_; intro nb hnb; (try simp only [Value.cells]))) <;> (try refine h0b ?_; (refine q_W ?_)) <;> (try refine h0a ?_)) | (refine gR 6 (p_e (q_f h3w) (h:=p_e q_l (h:=p_e (by apply h0h; exact rfl; exact (fun _ => BigFrame.builtin_len ..); apply h0j Tryd.underlying45; exact h3d) (h:=p_m (h:=h0a ?_)))))))
  refine ⟨?_⟩
  obtain ⟨n6, rfl⟩ : ∃ x, x = nb := ⟨_, rfl⟩
  refine h4e (γ:=Value × List Blk) (fun g => Own 65 4 g.1 conds.length (rgC conds) g.2) (fun _ => []) [(1, _), (2, _), (3, _), (6, _), (22, _), (23, _), (24, _)]
   (fun g => g.2 ++ (rrB n6 num act g.1 :: (er ++ (rfB n3 nmB df (.slice va k vc) hd (.slice none 0 0) (.slice none 0 0) :: rfZ n2 :: poB n1 nmB df (.slice (some ⟨bb, off, none⟩) rules.length rc) hd (.slice pa paths.length pc) (.slice qa ports.length qc) :: (ec ++ L))))) (.cons rfl (.cons rfl (.cons rfl (.cons rfl (.cons rfl (.cons rfl (.cons rfl .nil))))))) ?_ ?_
  ·refine h0o ?_
   refine h2i (γ:=Nat × Value × List Blk) (fun g => g.1 ≤ conds.length ∧ Own 65 4 g.2.1 g.1 (rgC (conds.take g.1)) g.2.2) (fun g => conds.length - g.1) (fun g => [(36, .int .i64 (g.1 : Nat))]) [(1, _), (2, _), (3, _), (6, _), (22, _), (23, _), (24, _), (34, _), (35, _)]
    (fun g => g.2.2 ++ (rrB n6 num act g.2.1 :: (er ++ (rfB n3 nmB df (.slice va k vc) hd (.slice none 0 0) (.slice none 0 0) :: rfZ n2 :: poB n1 nmB df (.slice (some ⟨bb, off, none⟩) rules.length rc) hd (.slice pa paths.length pc) (.slice qa ports.length qc) :: (ec ++ L))))) (0, .slice none 0 0, []) (.cons rfl (.cons rfl (.cons rfl (.cons rfl (.cons rfl (.cons rfl (.cons rfl (.cons rfl (.cons rfl .nil))))))))) ⟨Nat.zero_le _, Own.nil _ _⟩ (by (focus (repeat (first | exact Sub.nil | refine Sub.cons rfl ?_)))) c_17 ?_
   clear hRs hown
   rintro ⟨j, v, e⟩ ⟨hj2, hown2⟩
   dsimp only at hj2 hown2 ⊢
   by_cases hlt2 : j < conds.length
   case neg =>
    obtain rfl : j = conds.length := by omega
    rw [List.take_length] at hown2
    obtain ⟨sa, sc, rfl, -⟩ := hown2.sli []
    repeat' (first | refine h0t ?_ | refine h0e ?_ | refine h1d ?_ | refine h1w ?_ | refine h1o ?_ | refine h1v ?_ | refine h2j ?_ | refine h0m rfl ?_ | (refine gR 7 (p_e (q_b (r:=by exact h0r q_o)) (h:=h0a ?_))))
    exact h1p (_, e) hown2 (by (focus (repeat (first | exact Sub.nil | refine Sub.cons rfl ?_)))) (by intro w H; refine Sel.out ?_ H; (try simp only [List.cons_append, List.nil_append, List.append_assoc]); repeat (first | exact Sel.refl _ | exact Sel.nil _ | (with_reducible apply Sel.appS) | (apply Sel.cons; (focus (repeat (first | exact fd0 | (with_reducible assumption) | apply fdA | apply fdS))); (try simp only [zzE, zzF])) | apply Sel.drop | apply Sel.dropA))
   obtain ⟨j3, q3, bb3, off3, cs3, T3, fr3, rfl, hj3, hsz3, hx3⟩ := hsc.elem hlt2
   rw [gcC_at _ _ hlt2] at hx3
   have hcj := hr4 _ (List.getElem_mem hlt2)
   have hfi : ∀ v e, Own 65 4 v (j + 1) (rgC (conds.take j) ++ conds[j].rc) e → Own 65 4 v (j + 1) (rgC (conds.take (j + 1))) e := fun v e h => by
    rw [List.take_succ_eq_append_getElem hlt2, rgC_snoc]; exact h
   generalize conds[j] = cd at *
   obtain ⟨xa, xo, xm, xv⟩ := cd
   obtain ⟨y1, y2, y3, y4⟩ := hcj
   dsimp only [GCnd.rc, GCnd.cells] at y1 y2 y3 y4 hx3 hfi
   have hcd := fun (L : List Blk) => refcond_c (S:=S) (w0:=w0) (L:=L) xa xo xm xv y2
   unfold maxLen at hcl
   rcases h4l hown2 with ⟨rfl, h0, hx', rfl⟩ | ⟨g, capg, cur, rfl, rfl, q1, q2, q3, q4⟩
   ·have hfi : ∀ v e, Own 65 4 v (0 + 1) ([] ++ [.int .i64 xa, .int .i64 (xo : Nat), .int .u64 (xm : Nat), .int .u64 (xv : Nat)]) e → Own 65 4 v (j + 1) (rgC (conds.take (j + 1))) e := fun v e h => hfi v e (by rw [hx', h0]; exact h)
    clear hown2 hx'
    (try simp only [zzC, zzN])
    repeat' (first | refine h0t ?_ | refine h0e ?_ | refine h1d ?_ | refine h1h ?_ | refine h0o ?_ | refine h1a ?_ | refine h0l rfl ?_ | (refine gR 7 (p_e (q_b (r:=by exact h0q q_o)) (h:=h0a ?_))) | (refine gR 8 (p_e (by apply h0s; exact rfl; exact rfl; (focus (apply h2h Tryd.underlying45 sz_39; omega; omega; exact c_1))) (h:=q_e (by apply h1r (t:=39); exact rfl; (focus (repeat (first | (with_reducible assumption) | apply fdA | apply fdS))); kernel_rfl; kernel_rfl; exact sz_39; (with_reducible assumption); (with_reducible assumption)) ?_)) <;> (try refine h0b ?_; (refine h1b (t:=39) rfl Tryd.zeroValue39 ?_; intro nb hnb; (try simp only [Value.cells]))) <;> (try refine h0b ?_; (refine q_W ?_)) <;> (try refine h0a ?_)) | ((refine G_regionHp (pre:=[]) (id:=9) (m:=8) rfl (by kernel_rfl) rfl (q_t 0 (e:=c_7) (x:=by exact q_f h3b) (h:=?_))) <;> (try refine h3l (i:=1) (j:=2) rfl rfl (by kernel_rfl) ?_ ?_ <;> (first | (refine TagA.mk ?_; (((refine q_k q_l ?_); refine h2a c_7 ?_) <;> (try refine q_r 2 ?_; (refine q_k (q_L sz_39) ?_); refine h2a c_7 ?_) <;> (try refine q_r 3 ?_; (refine q_c 13 (c:=by apply hcd) (h:=?_); rintro _ _ ⟨rfl, rfl⟩; (try simp only [zzE, zzF])); refine h2a c_7 ?_) <;> (try refine q_r 4 ?_; (refine h0w (t:=107) (m:=1) (e:=65) (fun vs => (match vs with | [(_, x0)] => x0.cells.toList | _ => [])) rfl rfl (fun w => by kernel_rfl) ?_; intro nb hnb; (try simp only [Value.cells]); (try simp only [zzC, zzN])); refine h2a c_7 ?_) <;> (try refine q_r 5 ?_; (apply h2k; exact rfl; exact Tryd.underlying107; exact inf_65_i; exact inf_65_z; exact inf_65_s; exact inf_65_b; exact rfl; exact rfl; exact rfl; exact Own.nil _ _; exact fd0; exact Nat.le_of_ble_eq_true rfl; exact c_19; exact rfl; exact c_14; omega; (exact fun _ H => H); exact rfl; exact c_6; exact c_3; intro vA eA hownA; obtain ⟨gA, capA, curA, rfl, rfl, hA1, hA2, hA3, hA4⟩ := hownA.some (by omega); (try simp only [zzC, zzN])); refine h2a c_7 ?_) <;> (try refine q_t 6 (e:=c_7) (x:=by exact q_f h3b) (h:=?_)) <;> (try refine q_r 7 ?_; (refine q_S ?_); refine h2a c_7 ?_) <;> (try refine h2e (by kernel_rfl) ?_))) | (refine TagB.mk ?_; (((refine q_k (q_L sz_39) ?_); refine h2a c_7 ?_) <;> (try refine h3l (i:=1) (j:=3) rfl rfl (by kernel_rfl) ?_ ?_ <;> (first | (refine TagA.mk ?_; (((refine q_k q_l ?_); refine h2a c_7 ?_) <;> (try refine q_r 3 ?_; (refine q_c 13 (c:=by apply hcd) (h:=?_); rintro _ _ ⟨rfl, rfl⟩; (try simp only [zzE, zzF])); refine h2a c_7 ?_) <;> (try refine q_r 4 ?_; (refine h0w (t:=107) (m:=1) (e:=65) (fun vs => (match vs with | [(_, x0)] => x0.cells.toList | _ => [])) rfl rfl (fun w => by kernel_rfl) ?_; intro nb hnb; (try simp only [Value.cells]); (try simp only [zzC, zzN])); refine h2a c_7 ?_) <;> (try refine q_r 5 ?_; (apply h2k; exact rfl; exact Tryd.underlying107; exact inf_65_i; exact inf_65_z; exact inf_65_s; exact inf_65_b; exact rfl; exact rfl; exact rfl; exact Own.nil _ _; exact fd0; exact Nat.le_of_ble_eq_true rfl; exact c_19; exact rfl; exact c_14; omega; (exact fun _ H => H); exact rfl; exact c_6; exact c_3; intro vA eA hownA; obtain ⟨gA, capA, curA, rfl, rfl, hA1, hA2, hA3, hA4⟩ := hownA.some (by omega); (try simp only [zzC, zzN])); refine h2a c_7 ?_) <;> (try refine q_t 6 (e:=c_7) (x:=by exact q_f h3b) (h:=?_)) <;> (try refine q_r 7 ?_; (refine q_S ?_); refine h2a c_7 ?_) <;> (try refine h2e (by kernel_rfl) ?_))) | (refine TagB.mk ?_; (((refine q_c 13 (c:=by apply hcd) (h:=?_); rintro _ _ ⟨rfl, rfl⟩; (try simp only [zzE, zzF])); refine h2a c_7 ?_) <;> (try refine h3l (i:=1) (j:=4) rfl rfl (by kernel_rfl) ?_ ?_ <;> (first | (refine TagA.mk ?_; (((refine q_k q_l ?_); refine h2a c_7 ?_) <;> (try refine q_r 4 ?_; (refine h0w (t:=107) (m:=1) (e:=65) (fun vs => (match vs with | [(_, x0)] => x0.cells.toList | _ => [])) rfl rfl (fun w => by kernel_rfl) ?_; intro nb hnb; (try simp only [Value.cells]); (try simp only [zzC, zzN])); refine h2a c_7 ?_) <;> (try refine q_r 5 ?_; (apply h2k; exact rfl; exact Tryd.underlying107; exact inf_65_i; exact inf_65_z; exact inf_65_s; exact inf_65_b; exact rfl; exact rfl; exact rfl; exact Own.nil _ _; exact fd0; exact Nat.le_of_ble_eq_true rfl; exact c_19; exact rfl; exact c_14; omega; (exact fun _ H => H); exact rfl; exact c_6; exact c_3; intro vA eA hownA; obtain ⟨gA, capA, curA, rfl, rfl, hA1, hA2, hA3, hA4⟩ := hownA.some (by omega); (try simp only [zzC, zzN])); refine h2a c_7 ?_) <;> (try refine q_t 6 (e:=c_7) (x:=by exact q_f h3b) (h:=?_)) <;> (try refine q_r 7 ?_; (refine q_S ?_); refine h2a c_7 ?_) <;> (try refine h2e (by kernel_rfl) ?_))) | (refine TagB.mk ?_; (((refine h0w (t:=107) (m:=1) (e:=65) (fun vs => (match vs with | [(_, x0)] => x0.cells.toList | _ => [])) rfl rfl (fun w => by kernel_rfl) ?_; intro nb hnb; (try simp only [Value.cells]); (try simp only [zzC, zzN])); refine h2a c_7 ?_) <;> (try refine q_r 1 ?_; (refine q_k q_l ?_); refine h2a c_7 ?_) <;> (try refine q_r 5 ?_; (apply h2k; exact rfl; exact Tryd.underlying107; exact inf_65_i; exact inf_65_z; exact inf_65_s; exact inf_65_b; exact rfl; exact rfl; exact rfl; exact Own.nil _ _; exact fd0; exact Nat.le_of_ble_eq_true rfl; exact c_19; exact rfl; exact c_14; omega; (exact fun _ H => H); exact rfl; exact c_6; exact c_3; intro vA eA hownA; obtain ⟨gA, capA, curA, rfl, rfl, hA1, hA2, hA3, hA4⟩ := hownA.some (by omega); (try simp only [zzC, zzN])); refine h2a c_7 ?_) <;> (try refine q_t 6 (e:=c_7) (x:=by exact q_f h3b) (h:=?_)) <;> (try refine q_r 7 ?_; (refine q_S ?_); refine h2a c_7 ?_) <;> (try refine h2e (by kernel_rfl) ?_)))))))))))))) | (refine gR 10 ?_ <;> (try refine q_e (q_b (r:=by apply h1q; exact c_4; (focus (refine IntWalk.i64_in _ ?_; omega)))) ?_) <;> (try refine p_m (h:=h0a ?_))))
    all_goals exact h1p (j + 1, _, _) ⟨⟨by show j + 1 ≤ _; omega, hfi _ _ (own_mk (g:=gA) hA1 hA2 hA3 hA4)⟩, by show _ - (j + 1) < _ - j; omega⟩ (by (focus (repeat (first | exact Sub.nil | refine Sub.cons rfl ?_)))) c_15
   ·rw [← q4] at hfi
    clear hown2
    (try simp only [zzC, zzN])
    repeat' (first | refine h0t ?_ | refine h0e ?_ | refine h1d ?_ | refine h1h ?_ | refine h0o ?_ | refine h1a ?_ | refine h0l rfl ?_ | (refine gR 7 (p_e (q_b (r:=by exact h0q q_o)) (h:=h0a ?_))) | (refine gR 8 (p_e (by apply h0s; exact rfl; exact rfl; (focus (apply h2h Tryd.underlying45 sz_39; omega; omega; exact c_1))) (h:=q_e (by apply h1r (t:=39); exact rfl; (focus (repeat (first | (with_reducible assumption) | apply fdA | apply fdS))); kernel_rfl; kernel_rfl; exact sz_39; (with_reducible assumption); (with_reducible assumption)) ?_)) <;> (try refine h0b ?_; (refine h1b (t:=39) rfl Tryd.zeroValue39 ?_; intro nb hnb; (try simp only [Value.cells]))) <;> (try refine h0b ?_; (refine q_W ?_)) <;> (try refine h0a ?_)) | ((refine G_regionHp (pre:=[]) (id:=9) (m:=8) rfl (by kernel_rfl) rfl (q_t 0 (e:=c_7) (x:=by exact q_f h3b) (h:=?_))) <;> (try refine h3l (i:=1) (j:=2) rfl rfl (by kernel_rfl) ?_ ?_ <;> (first | (refine TagA.mk ?_; (((refine q_k q_l ?_); refine h2a c_7 ?_) <;> (try refine q_r 2 ?_; (refine q_k (q_L sz_39) ?_); refine h2a c_7 ?_) <;> (try refine q_r 3 ?_; (refine q_c 13 (c:=by apply hcd) (h:=?_); rintro _ _ ⟨rfl, rfl⟩; (try simp only [zzE, zzF])); refine h2a c_7 ?_) <;> (try refine q_r 4 ?_; (refine h0w (t:=107) (m:=1) (e:=65) (fun vs => (match vs with | [(_, x0)] => x0.cells.toList | _ => [])) rfl rfl (fun w => by kernel_rfl) ?_; intro nb hnb; (try simp only [Value.cells]); (try simp only [zzC, zzN])); refine h2a c_7 ?_) <;> (try refine q_r 5 ?_; (apply h2t; exact rfl; exact Tryd.underlying107; exact inf_65_i; exact inf_65_z; exact inf_65_s; exact inf_65_b; exact rfl; exact rfl; exact rfl; exact c_23; (with_reducible assumption); (with_reducible assumption); (with_reducible assumption); exact fd0; exact Nat.le_of_ble_eq_true rfl; exact c_19; exact rfl; exact c_14; omega; exact rfl; exact c_6; exact c_3; (try simp only [zzE, zzF]); intro vA eA hownA; obtain ⟨gA, capA, curA, rfl, rfl, hA1, hA2, hA3, hA4⟩ := hownA.some (by omega); (try simp only [zzC, zzN])); refine h2a c_7 ?_) <;> (try refine q_t 6 (e:=c_7) (x:=by exact q_f h3b) (h:=?_)) <;> (try refine q_r 7 ?_; (refine q_S ?_); refine h2a c_7 ?_) <;> (try refine h2e (by kernel_rfl) ?_))) | (refine TagB.mk ?_; (((refine q_k (q_L sz_39) ?_); refine h2a c_7 ?_) <;> (try refine h3l (i:=1) (j:=3) rfl rfl (by kernel_rfl) ?_ ?_ <;> (first | (refine TagA.mk ?_; (((refine q_k q_l ?_); refine h2a c_7 ?_) <;> (try refine q_r 3 ?_; (refine q_c 13 (c:=by apply hcd) (h:=?_); rintro _ _ ⟨rfl, rfl⟩; (try simp only [zzE, zzF])); refine h2a c_7 ?_) <;> (try refine q_r 4 ?_; (refine h0w (t:=107) (m:=1) (e:=65) (fun vs => (match vs with | [(_, x0)] => x0.cells.toList | _ => [])) rfl rfl (fun w => by kernel_rfl) ?_; intro nb hnb; (try simp only [Value.cells]); (try simp only [zzC, zzN])); refine h2a c_7 ?_) <;> (try refine q_r 5 ?_; (apply h2t; exact rfl; exact Tryd.underlying107; exact inf_65_i; exact inf_65_z; exact inf_65_s; exact inf_65_b; exact rfl; exact rfl; exact rfl; exact c_23; (with_reducible assumption); (with_reducible assumption); (with_reducible assumption); exact fd0; exact Nat.le_of_ble_eq_true rfl; exact c_19; exact rfl; exact c_14; omega; exact rfl; exact c_6; exact c_3; (try simp only [zzE, zzF]); intro vA eA hownA; obtain ⟨gA, capA, curA, rfl, rfl, hA1, hA2, hA3, hA4⟩ := hownA.some (by omega); (try simp only [zzC, zzN])); refine h2a c_7 ?_) <;> (try refine q_t 6 (e:=c_7) (x:=by exact q_f h3b) (h:=?_)) <;> (try refine q_r 7 ?_; (refine q_S ?_); refine h2a c_7 ?_) <;> (try refine h2e (by kernel_rfl) ?_))) | (refine TagB.mk ?_; (((refine q_c 13 (c:=by apply hcd) (h:=?_); rintro _ _ ⟨rfl, rfl⟩; (try simp only [zzE, zzF])); refine h2a c_7 ?_) <;> (try refine h3l (i:=1) (j:=4) rfl rfl (by kernel_rfl) ?_ ?_ <;> (first | (refine TagA.mk ?_; (((refine q_k q_l ?_); refine h2a c_7 ?_) <;> (try refine q_r 4 ?_; (refine h0w (t:=107) (m:=1) (e:=65) (fun vs => (match vs with | [(_, x0)] => x0.cells.toList | _ => [])) rfl rfl (fun w => by kernel_rfl) ?_; intro nb hnb; (try simp only [Value.cells]); (try simp only [zzC, zzN])); refine h2a c_7 ?_) <;> (try refine q_r 5 ?_; (apply h2t; exact rfl; exact Tryd.underlying107; exact inf_65_i; exact inf_65_z; exact inf_65_s; exact inf_65_b; exact rfl; exact rfl; exact rfl; exact c_23; (with_reducible assumption); (with_reducible assumption); (with_reducible assumption); exact fd0; exact Nat.le_of_ble_eq_true rfl; exact c_19; exact rfl; exact c_14; omega; exact rfl; exact c_6; exact c_3; (try simp only [zzE, zzF]); intro vA eA hownA; obtain ⟨gA, capA, curA, rfl, rfl, hA1, hA2, hA3, hA4⟩ := hownA.some (by omega); (try simp only [zzC, zzN])); refine h2a c_7 ?_) <;> (try refine q_t 6 (e:=c_7) (x:=by exact q_f h3b) (h:=?_)) <;> (try refine q_r 7 ?_; (refine q_S ?_); refine h2a c_7 ?_) <;> (try refine h2e (by kernel_rfl) ?_))) | (refine TagB.mk ?_; (((refine h0w (t:=107) (m:=1) (e:=65) (fun vs => (match vs with | [(_, x0)] => x0.cells.toList | _ => [])) rfl rfl (fun w => by kernel_rfl) ?_; intro nb hnb; (try simp only [Value.cells]); (try simp only [zzC, zzN])); refine h2a c_7 ?_) <;> (try refine q_r 1 ?_; (refine q_k q_l ?_); refine h2a c_7 ?_) <;> (try refine q_r 5 ?_; (apply h2t; exact rfl; exact Tryd.underlying107; exact inf_65_i; exact inf_65_z; exact inf_65_s; exact inf_65_b; exact rfl; exact rfl; exact rfl; exact c_23; (with_reducible assumption); (with_reducible assumption); (with_reducible assumption); exact fd0; exact Nat.le_of_ble_eq_true rfl; exact c_19; exact rfl; exact c_14; omega; exact rfl; exact c_6; exact c_3; (try simp only [zzE, zzF]); intro vA eA hownA; obtain ⟨gA, capA, curA, rfl, rfl, hA1, hA2, hA3, hA4⟩ := hownA.some (by omega); (try simp only [zzC, zzN])); refine h2a c_7 ?_) <;> (try refine q_t 6 (e:=c_7) (x:=by exact q_f h3b) (h:=?_)) <;> (try refine q_r 7 ?_; (refine q_S ?_); refine h2a c_7 ?_) <;> (try refine h2e (by kernel_rfl) ?_)))))))))))))) | (refine gR 10 ?_ <;> (try refine q_e (q_b (r:=by apply h1q; exact c_4; (focus (refine IntWalk.i64_in _ ?_; omega)))) ?_) <;> (try refine p_m (h:=h0a ?_))))
    all_goals exact h1p (j + 1, _, _) ⟨⟨by show j + 1 ≤ _; omega, hfi _ _ (own_mk (g:=gA) hA1 hA2 hA3 hA4)⟩, by show _ - (j + 1) < _ - j; omega⟩ (by (focus (repeat (first | exact Sub.nil | refine Sub.cons rfl ?_)))) c_15
  rintro ⟨v, e⟩ hown2
  dsimp only at hown2 ⊢
  obtain ⟨sa, sc, rfl, -⟩ := hown2.sli []
  refine h3i (L' := er ++ (rrB n6 num act (.slice sa conds.length sc) :: rfB n3 nmB df (.slice va k vc) hd (.slice none 0 0) (.slice none 0 0) :: rfZ n2 :: poB n1 nmB df (.slice (some ⟨bb, off, none⟩) rules.length rc) hd (.slice pa paths.length pc) (.slice qa ports.length qc) :: (e ++ (ec ++ L)))) (fun w H => HP.re2 (env:=[e, [_], er, [_, _, _], ec, L]) [0, 1, 2, 3, 4, 5] [2, 1, 3, 0, 4, 5] (by decide) rfl rfl H) ?_
  have hR' := hRs _ _ hown2
  clear hown2 hRs hsc
  have hfi : ∀ v' e', Own 109 3 v' (k + 1) (cz ++ [.int .u32 num, .int .u32 act, .slice sa conds.length sc]) e' → Own 109 3 v' (k + 1) (cz ++ [.int .u32 num, .int .u32 act, .slice sa conds.length sc]) e' := fun _ _ h => h
  rcases h4l hown with ⟨hv0, h0, hx', rfl⟩ | ⟨g, capg, cur, hv0, rfl, q1, q2, q3, q4⟩
  ·injection hv0 with v1 v2 v3
   subst v1 v3
   have hfi : ∀ v' e', Own 109 3 v' (0 + 1) ([] ++ [.int .u32 num, .int .u32 act, .slice sa conds.length sc]) e' → Own 109 3 v' (k + 1) (cz ++ [.int .u32 num, .int .u32 act, .slice sa conds.length sc]) e' := fun v e h => hfi v e (by rw [hx', h0]; exact h)
   rw [show Value.slice none k 0 = .slice none 0 0 by rw [h0]]
   clear hown hx'
   (try simp only [zzC, zzN])
   repeat' (first | refine h0e ?_ | refine h1d ?_ | refine h1h ?_ | (refine gR 11 (p_e (q_f h3s) (h:=p_e q_l (h:=q_e (q_L sz_109) ?_))) <;> (try refine h0b ?_; (refine h0w (t:=56) (m:=1) (e:=109) (fun vs => (match vs with | [(_, x0)] => x0.cells.toList | _ => [])) rfl rfl (fun w => by kernel_rfl) ?_; intro nb hnb; (try simp only [Value.cells]); (try simp only [zzC, zzN]))) <;> (try refine h0b ?_; (apply h2k; exact rfl; exact Tryd.underlying56; exact inf_109_i; exact inf_109_z; exact inf_109_s; exact inf_109_b; exact rfl; exact rfl; exact rfl; exact Own.nil _ _; exact fd0; exact Nat.le_of_ble_eq_true rfl; exact c_19; exact rfl; exact c_14; omega; (exact fun _ H => H); exact rfl; exact c_6; exact c_3; intro vA eA hownA; obtain ⟨gA, capA, curA, rfl, rfl, hA1, hA2, hA3, hA4⟩ := hownA.some (by omega); (try simp only [zzC, zzN]))) <;> (try refine q_e (q_f h3s) ?_) <;> (try refine h0b ?_; (refine q_S ?_)) <;> (try refine h0a ?_)) | (refine gR 12 ?_ <;> (try refine q_e (q_b (r:=by apply h1q; exact c_4; (focus (refine IntWalk.i64_in _ ?_; omega)))) ?_) <;> (try refine p_m (h:=h0a ?_))))
   all_goals exact h1p ⟨k + 1, _, _, _, e ++ ec⟩ ⟨⟨by show k + 1 ≤ _; omega, hR', hfi _ _ (own_mk (g:=gA) hA1 hA2 hA3 hA4)⟩, by show _ - (k + 1) < _ - k; omega⟩ (by (focus (repeat (first | exact Sub.nil | refine Sub.cons rfl ?_)))) (by intro w H; refine Sel.out ?_ H; (try simp only [List.cons_append, List.nil_append, List.append_assoc]); repeat (first | exact Sel.refl _ | exact Sel.nil _ | (with_reducible apply Sel.appS) | (apply Sel.cons; (focus (repeat (first | exact fd0 | (with_reducible assumption) | apply fdA | apply fdS))); (try simp only [zzE, zzF])) | apply Sel.drop | apply Sel.dropA))
  ·injection hv0 with v1 v2 v3
   subst v1 v3
   rw [← q4] at hR'
   clear hown
   (try simp only [zzC, zzN])
   repeat' (first | refine h0e ?_ | refine h1d ?_ | refine h1h ?_ | (refine gR 11 (p_e (q_f h3s) (h:=p_e q_l (h:=q_e (q_L sz_109) ?_))) <;> (try refine h0b ?_; (refine h0w (t:=56) (m:=1) (e:=109) (fun vs => (match vs with | [(_, x0)] => x0.cells.toList | _ => [])) rfl rfl (fun w => by kernel_rfl) ?_; intro nb hnb; (try simp only [Value.cells]); (try simp only [zzC, zzN]))) <;> (try refine h0b ?_; (apply h2t; exact rfl; exact Tryd.underlying56; exact inf_109_i; exact inf_109_z; exact inf_109_s; exact inf_109_b; exact rfl; exact rfl; exact rfl; exact c_23; (with_reducible assumption); (with_reducible assumption); (with_reducible assumption); exact fd0; exact Nat.le_of_ble_eq_true rfl; exact c_19; exact rfl; exact c_14; omega; exact rfl; exact c_6; exact c_3; (try simp only [zzE, zzF]); intro vA eA hownA; obtain ⟨gA, capA, curA, rfl, rfl, hA1, hA2, hA3, hA4⟩ := hownA.some (by omega); (try simp only [zzC, zzN]))) <;> (try refine q_e (q_f h3s) ?_) <;> (try refine h0b ?_; (refine q_S ?_)) <;> (try refine h0a ?_)) | (refine gR 12 ?_ <;> (try refine q_e (q_b (r:=by apply h1q; exact c_4; (focus (refine IntWalk.i64_in _ ?_; omega)))) ?_) <;> (try refine p_m (h:=h0a ?_))))
   all_goals exact h1p ⟨k + 1, _, _, _, e ++ ec⟩ ⟨⟨by show k + 1 ≤ _; omega, hR', own_mk (g:=gA) hA1 hA2 hA3 hA4⟩, by show _ - (k + 1) < _ - k; omega⟩ (by (focus (repeat (first | exact Sub.nil | refine Sub.cons rfl ?_)))) (by intro w H; refine Sel.out ?_ H; (try simp only [List.cons_append, List.nil_append, List.append_assoc]); repeat (first | exact Sel.refl _ | exact Sel.nil _ | (with_reducible apply Sel.appS) | (apply Sel.cons; (focus (repeat (first | exact fd0 | (with_reducible assumption) | apply fdA | apply fdS))); (try simp only [zzE, zzF])) | apply Sel.drop | apply Sel.dropA))
 -- PATHS
 rintro ⟨k1, cz, vr, er, ec⟩ ⟨hR, hownR⟩
 dsimp only at hR hownR ⊢
 obtain ⟨va, vc, rfl, -⟩ := hownR.sli []
 refine h3i (L' := rfB n3 nmB df (.slice va rules.length vc) hd (.slice none 0 0) (.slice none 0 0) :: rfZ n2 :: poB n1 nmB df (.slice ra rules.length rc) hd (.slice pa paths.length pc) (.slice qa ports.length qc) :: (er ++ (ec ++ L))) (fun w H => HP.re2 (env:=[er, [_, _, _], ec, L]) [0, 1, 2, 3] [1, 0, 2, 3] (by decide) rfl rfl H) ?_
 have hps2 : Sli (er ++ (ec ++ L)) pa paths.length 2 (pthC paths) := (hps.upA ec).upA er
 have hqs2 : Sli (er ++ (ec ++ L)) qa ports.length 2 (porC ports) := (hqs.upA ec).upA er
 clear hrg hrs hps hqs hro hcn
 generalize hL2 : er ++ (ec ++ L) = L2 at hps2 hqs2 ⊢
 repeat' (first | (refine h2g (id:=4) ?_) | refine h0t ?_ | refine h0e ?_ | (refine gR 13 (p_e (q_f h3k) (h:=p_e q_l (h:=p_e (by apply h0h; exact rfl; exact (fun _ => BigFrame.builtin_len ..); apply h0j Tryd.underlying27; exact h3d) (h:=p_m (h:=h0a ?_)))))))
 refine ⟨?_⟩
 refine h4e (γ:=Value × List Blk) (fun g => Own 113 2 g.1 paths.length (rpC paths) g.2) (fun _ => []) [(1, _), (2, _), (3, _)]
  (fun g => g.2 ++ (rfB n3 nmB df (.slice va rules.length vc) hd g.1 (.slice none 0 0) :: rfZ n2 :: poB n1 nmB df (.slice ra rules.length rc) hd (.slice pa paths.length pc) (.slice qa ports.length qc) :: L2)) (.cons rfl (.cons rfl (.cons rfl .nil))) ?_ ?_
 ·refine h0o ?_
  refine h2i (γ:=Nat × Value × List Blk) (fun g => g.1 ≤ paths.length ∧ Own 113 2 g.2.1 g.1 (rpC (paths.take g.1)) g.2.2) (fun g => paths.length - g.1) (fun g => [(58, .int .i64 (g.1 : Nat))]) [(1, _), (2, _), (3, _), (56, _), (57, _)]
   (fun g => g.2.2 ++ (rfB n3 nmB df (.slice va rules.length vc) hd g.2.1 (.slice none 0 0) :: rfZ n2 :: poB n1 nmB df (.slice ra rules.length rc) hd (.slice pa paths.length pc) (.slice qa ports.length qc) :: L2)) (0, .slice none 0 0, []) (.cons rfl (.cons rfl (.cons rfl (.cons rfl (.cons rfl .nil))))) ⟨Nat.zero_le _, Own.nil _ _⟩ (by (focus (repeat (first | exact Sub.nil | refine Sub.cons rfl ?_)))) c_21 ?_
  rintro ⟨k, v, e⟩ ⟨hk, hown⟩
  dsimp only at hk hown ⊢
  by_cases hlt : k < paths.length
  case neg =>
   obtain rfl : k = paths.length := by omega
   rw [List.take_length] at hown
   obtain ⟨sa, sc, rfl, -⟩ := hown.sli []
   repeat' (first | refine h0t ?_ | refine h0e ?_ | refine h1d ?_ | refine h1w ?_ | refine h1o ?_ | refine h1v ?_ | refine h2j ?_ | refine h0m rfl ?_ | (refine gR 14 (p_e (q_b (r:=by exact h0r q_o)) (h:=h0a ?_))))
   exact h1p (_, e) hown (by (focus (repeat (first | exact Sub.nil | refine Sub.cons rfl ?_)))) (by intro w H; refine Sel.out ?_ H; (try simp only [List.cons_append, List.nil_append, List.append_assoc]); repeat (first | exact Sel.refl _ | exact Sel.nil _ | (with_reducible apply Sel.appS) | (apply Sel.cons; (focus (repeat (first | exact fd0 | (with_reducible assumption) | apply fdA | apply fdS))); (try simp only [zzE, zzF])) | apply Sel.drop | apply Sel.dropA))
  obtain ⟨j, q, bb, off, cs, T, fr, rfl, hj, hsz, hx⟩ := hps2.elem hlt
  rw [pthC_at _ _ hlt] at hx
  have hpk := hpo _ (List.getElem_mem hlt)
  have hfi : ∀ v e, Own 113 2 v (k + 1) (rpC (paths.take k) ++ [.string (mB8 (paths[k]).1), .int .i64 ((paths[k]).2 : Nat)]) e → Own 113 2 v (k + 1) (rpC (paths.take (k + 1))) e := fun v e h => by
   rw [List.take_succ_eq_append_getElem hlt, rpC_snoc]; exact h
  generalize paths[k] = p at *
  obtain ⟨pt, pr⟩ := p
  dsimp only at *
  generalize mB8 pt = ptB at *
  rcases h4l hown with ⟨rfl, h0, hx', rfl⟩ | ⟨g, capg, cur, rfl, rfl, q1, q2, q3, q4⟩
  ·have hfi : ∀ v e, Own 113 2 v (0 + 1) ([] ++ [.string ptB, .int .i64 (pr : Nat)]) e → Own 113 2 v (k + 1) (rpC (paths.take (k + 1))) e := fun v e h => hfi v e (by rw [hx', h0]; exact h)
   clear hown hx'
   (try simp only [zzC, zzN])
   repeat' (first | refine h0t ?_ | refine h0e ?_ | refine h1d ?_ | refine h1h ?_ | refine h0o ?_ | refine h1a ?_ | refine h0l rfl ?_ | (refine gR 14 (p_e (q_b (r:=by exact h0q q_o)) (h:=h0a ?_))) | (refine gR 15 (p_e (by apply h0s; exact rfl; exact rfl; (focus (apply h2h Tryd.underlying27 sz_49; omega; omega; exact c_1))) (h:=q_e (by apply h1r (t:=49); exact rfl; exact c_10; kernel_rfl; kernel_rfl; exact sz_49; (with_reducible assumption); (with_reducible assumption)) ?_)) <;> (try refine h0b ?_; (refine h1b (t:=49) rfl Tryd.zeroValue49 ?_; intro nb hnb; (try simp only [Value.cells]))) <;> (try refine h0b ?_; (refine q_W ?_)) <;> (try refine h0a ?_)) | (refine gR 16 (p_e (q_f h3o) (h:=p_e q_l (h:=p_e (q_f fo_49_0) (h:=p_e q_l (h:=p_e (q_f fo_49_1) (h:=q_e q_l ?_)))))) <;> (try refine q_e (by apply h3c; exact rfl; (focus (apply h3a Tryd.underlying26 Tryd.underlying3; first | (refine IntWalk.i64_in _ ?_; omega) | (refine IntWalk.u8_in _ ?_; omega) | (refine IntWalk.u16_in _ ?_; omega) | (refine IntWalk.u32_in _ ?_; omega) | (refine IntWalk.u64_in _ ?_; omega) | (refine IntWalk.i32_in _ ?_; omega) | exact rfl))) ?_) <;> (try refine q_e (by exact h0v (t:=113) (fun vs => (match vs with | [(_, x0), (_, x1)] => [x0, x1] | _ => [])) rfl (fun w => by kernel_rfl)) ?_; (try simp only [Value.cells]); (try simp only [zzC, zzN])) <;> (try refine h0b ?_; (refine h0w (t:=57) (m:=1) (e:=113) (fun vs => (match vs with | [(_, x0)] => x0.cells.toList | _ => [])) rfl rfl (fun w => by kernel_rfl) ?_; intro nb hnb; (try simp only [Value.cells]); (try simp only [zzC, zzN]))) <;> (try refine h0b ?_; (apply h2k; exact rfl; exact Tryd.underlying57; exact inf_113_i; exact inf_113_z; exact inf_113_s; exact inf_113_b; exact rfl; exact rfl; exact rfl; exact Own.nil _ _; exact fd0; exact Nat.le_of_ble_eq_true rfl; exact c_19; exact rfl; exact c_14; omega; (exact fun _ H => H); exact rfl; exact c_6; exact c_3; intro vA eA hownA; obtain ⟨gA, capA, curA, rfl, rfl, hA1, hA2, hA3, hA4⟩ := hownA.some (by omega); (try simp only [zzC, zzN]))) <;> (try refine q_e (q_f h3o) ?_) <;> (try refine h0b ?_; (refine q_S ?_)) <;> (try refine h0a ?_)) | (refine gR 17 ?_ <;> (try refine q_e (q_b (r:=by apply h1q; exact c_4; (focus (refine IntWalk.i64_in _ ?_; omega)))) ?_) <;> (try refine p_m (h:=h0a ?_))))
   all_goals exact h1p (k + 1, _, _) ⟨⟨by show k + 1 ≤ _; omega, hfi _ _ (own_mk (g:=gA) hA1 hA2 hA3 hA4)⟩, by show _ - (k + 1) < _ - k; omega⟩ (by (focus (repeat (first | exact Sub.nil | refine Sub.cons rfl ?_)))) c_15
  ·rw [← q4] at hfi
   clear hown
   (try simp only [zzC, zzN])
   repeat' (first | refine h0t ?_ | refine h0e ?_ | refine h1d ?_ | refine h1h ?_ | refine h0o ?_ | refine h1a ?_ | refine h0l rfl ?_ | (refine gR 14 (p_e (q_b (r:=by exact h0q q_o)) (h:=h0a ?_))) | (refine gR 15 (p_e (by apply h0s; exact rfl; exact rfl; (focus (apply h2h Tryd.underlying27 sz_49; omega; omega; exact c_1))) (h:=q_e (by apply h1r (t:=49); exact rfl; exact c_10; kernel_rfl; kernel_rfl; exact sz_49; (with_reducible assumption); (with_reducible assumption)) ?_)) <;> (try refine h0b ?_; (refine h1b (t:=49) rfl Tryd.zeroValue49 ?_; intro nb hnb; (try simp only [Value.cells]))) <;> (try refine h0b ?_; (refine q_W ?_)) <;> (try refine h0a ?_)) | (refine gR 16 (p_e (q_f h3o) (h:=p_e q_l (h:=p_e (q_f fo_49_0) (h:=p_e q_l (h:=p_e (q_f fo_49_1) (h:=q_e q_l ?_)))))) <;> (try refine q_e (by apply h3c; exact rfl; (focus (apply h3a Tryd.underlying26 Tryd.underlying3; first | (refine IntWalk.i64_in _ ?_; omega) | (refine IntWalk.u8_in _ ?_; omega) | (refine IntWalk.u16_in _ ?_; omega) | (refine IntWalk.u32_in _ ?_; omega) | (refine IntWalk.u64_in _ ?_; omega) | (refine IntWalk.i32_in _ ?_; omega) | exact rfl))) ?_) <;> (try refine q_e (by exact h0v (t:=113) (fun vs => (match vs with | [(_, x0), (_, x1)] => [x0, x1] | _ => [])) rfl (fun w => by kernel_rfl)) ?_; (try simp only [Value.cells]); (try simp only [zzC, zzN])) <;> (try refine h0b ?_; (refine h0w (t:=57) (m:=1) (e:=113) (fun vs => (match vs with | [(_, x0)] => x0.cells.toList | _ => [])) rfl rfl (fun w => by kernel_rfl) ?_; intro nb hnb; (try simp only [Value.cells]); (try simp only [zzC, zzN]))) <;> (try refine h0b ?_; (apply h2t; exact rfl; exact Tryd.underlying57; exact inf_113_i; exact inf_113_z; exact inf_113_s; exact inf_113_b; exact rfl; exact rfl; exact rfl; exact c_23; (with_reducible assumption); (with_reducible assumption); (with_reducible assumption); exact fd0; exact Nat.le_of_ble_eq_true rfl; exact c_19; exact rfl; exact c_14; omega; exact rfl; exact c_6; exact c_3; (try simp only [zzE, zzF]); intro vA eA hownA; obtain ⟨gA, capA, curA, rfl, rfl, hA1, hA2, hA3, hA4⟩ := hownA.some (by omega); (try simp only [zzC, zzN]))) <;> (try refine q_e (q_f h3o) ?_) <;> (try refine h0b ?_; (refine q_S ?_)) <;> (try refine h0a ?_)) | (refine gR 17 ?_ <;> (try refine q_e (q_b (r:=by apply h1q; exact c_4; (focus (refine IntWalk.i64_in _ ?_; omega)))) ?_) <;> (try refine p_m (h:=h0a ?_))))
   all_goals exact h1p (k + 1, _, _) ⟨⟨by show k + 1 ≤ _; omega, hfi _ _ (own_mk (g:=gA) hA1 hA2 hA3 hA4)⟩, by show _ - (k + 1) < _ - k; omega⟩ (by (focus (repeat (first | exact Sub.nil | refine Sub.cons rfl ?_)))) c_15
 -- PORTS
 rintro ⟨vp, ep⟩ hownP
 dsimp only at hownP ⊢
 obtain ⟨wa, wc, rfl, -⟩ := hownP.sli []
 refine h3i (L' := rfB n3 nmB df (.slice va rules.length vc) hd (.slice wa paths.length wc) (.slice none 0 0) :: rfZ n2 :: poB n1 nmB df (.slice ra rules.length rc) hd (.slice pa paths.length pc) (.slice qa ports.length qc) :: (ep ++ L2)) (fun w H => HP.re2 (env:=[ep, [_, _, _], L2]) [0, 1, 2] [1, 0, 2] (by decide) rfl rfl H) ?_
 have hqs3 : Sli (ep ++ L2) qa ports.length 2 (porC ports) := hqs2.upA ep
 clear hps2 hqs2 hpo
 generalize hL3 : ep ++ L2 = L3 at hqs3 ⊢
 repeat' (first | (refine h2g (id:=6) ?_) | refine h0t ?_ | refine h0e ?_ | (refine gR 18 (p_e (q_f h4m) (h:=p_e q_l (h:=p_e (by apply h0h; exact rfl; exact (fun _ => BigFrame.builtin_len ..); apply h0j Tryd.underlying28; exact h3d) (h:=p_m (h:=h0a ?_)))))))
 refine ⟨?_⟩
 refine h4e (γ:=Value × List Blk) (fun g => Own 116 2 g.1 ports.length (rqC ports) g.2) (fun _ => []) [(2, _), (3, _)]
  (fun g => rfB n3 nmB df (.slice va rules.length vc) hd (.slice wa paths.length wc) g.1 :: rfZ n2 :: (g.2 ++ L3)) (.cons rfl (.cons rfl .nil)) ?_ ?_
 ·refine h0o ?_
  refine h2i (γ:=Nat × Value × List Blk) (fun g => g.1 ≤ ports.length ∧ Own 116 2 g.2.1 g.1 (rqC (ports.take g.1)) g.2.2) (fun g => ports.length - g.1) (fun g => [(77, .int .i64 (g.1 : Nat))]) [(2, _), (3, _), (75, _), (76, _)]
   (fun g => g.2.2 ++ (rfB n3 nmB df (.slice va rules.length vc) hd (.slice wa paths.length wc) g.2.1 :: rfZ n2 :: L3)) (0, .slice none 0 0, []) (.cons rfl (.cons rfl (.cons rfl (.cons rfl .nil)))) ⟨Nat.zero_le _, Own.nil _ _⟩ (by (focus (repeat (first | exact Sub.nil | refine Sub.cons rfl ?_)))) c_17 ?_
  rintro ⟨k, v, e⟩ ⟨hk, hown⟩
  dsimp only at hk hown ⊢
  by_cases hlt : k < ports.length
  case neg =>
   obtain rfl : k = ports.length := by omega
   rw [List.take_length] at hown
   obtain ⟨sa, sc, rfl, -⟩ := hown.sli []
   repeat' (first | refine h0t ?_ | refine h0e ?_ | refine h1d ?_ | refine h1w ?_ | refine h1o ?_ | refine h1v ?_ | refine h2j ?_ | refine h0m rfl ?_ | (refine gR 19 (p_e (q_b (r:=by exact h0r q_o)) (h:=h0a ?_))))
   exact h1p (_, e) hown (by (focus (repeat (first | exact Sub.nil | refine Sub.cons rfl ?_)))) (fun w H => HP.re2 (env:=[e, [_, _], L3]) [0, 1, 2] [1, 0, 2] (by decide) rfl rfl H)
  obtain ⟨j, q, bb, off, cs, T, fr, rfl, hj, hsz, hx⟩ := hqs3.elem hlt
  rw [porC_at _ _ hlt] at hx
  have hpk := hqo _ (List.getElem_mem hlt)
  have hfi : ∀ v e, Own 116 2 v (k + 1) (rqC (ports.take k) ++ [.int .i64 ((ports[k]).1 : Nat), .int .i64 ((ports[k]).2 : Nat)]) e → Own 116 2 v (k + 1) (rqC (ports.take (k + 1))) e := fun v e h => by
   rw [List.take_succ_eq_append_getElem hlt, rqC_snoc]; exact h
  generalize ports[k] = p at *
  obtain ⟨pt, pr⟩ := p
  dsimp only at *
  rcases h4l hown with ⟨rfl, h0, hx', rfl⟩ | ⟨g, capg, cur, rfl, rfl, q1, q2, q3, q4⟩
  ·have hfi : ∀ v e, Own 116 2 v (0 + 1) ([] ++ [.int .i64 (pt : Nat), .int .i64 (pr : Nat)]) e → Own 116 2 v (k + 1) (rqC (ports.take (k + 1))) e := fun v e h => hfi v e (by rw [hx', h0]; exact h)
   clear hown hx'
   (try simp only [zzC, zzN])
   repeat' (first | refine h0t ?_ | refine h0e ?_ | refine h1d ?_ | refine h1h ?_ | refine h0o ?_ | refine h1a ?_ | refine h0l rfl ?_ | (refine gR 19 (p_e (q_b (r:=by exact h0q q_o)) (h:=h0a ?_))) | (refine gR 20 (p_e (by apply h0s; exact rfl; exact rfl; (focus (apply h2h Tryd.underlying28 sz_51; omega; omega; exact c_1))) (h:=q_e (by apply h1r (t:=51); exact rfl; exact c_10; kernel_rfl; kernel_rfl; exact sz_51; (with_reducible assumption); (with_reducible assumption)) ?_)) <;> (try refine h0b ?_; (refine h1b (t:=51) rfl Tryd.zeroValue51 ?_; intro nb hnb; (try simp only [Value.cells]))) <;> (try refine h0b ?_; (refine q_W ?_)) <;> (try refine h0a ?_)) | (refine gR 21 (p_e (q_f h3z) (h:=p_e q_l (h:=p_e (q_f fo_51_0) (h:=q_e q_l ?_)))) <;> (try refine q_e (by apply h3c; exact rfl; (focus (apply h3a Tryd.underlying25 Tryd.underlying3; first | (refine IntWalk.i64_in _ ?_; omega) | (refine IntWalk.u8_in _ ?_; omega) | (refine IntWalk.u16_in _ ?_; omega) | (refine IntWalk.u32_in _ ?_; omega) | (refine IntWalk.u64_in _ ?_; omega) | (refine IntWalk.i32_in _ ?_; omega) | exact rfl))) ?_) <;> (try refine p_e (q_f fo_51_1) (h:=q_e q_l ?_)) <;> (try refine q_e (by apply h3c; exact rfl; (focus (apply h3a Tryd.underlying26 Tryd.underlying3; first | (refine IntWalk.i64_in _ ?_; omega) | (refine IntWalk.u8_in _ ?_; omega) | (refine IntWalk.u16_in _ ?_; omega) | (refine IntWalk.u32_in _ ?_; omega) | (refine IntWalk.u64_in _ ?_; omega) | (refine IntWalk.i32_in _ ?_; omega) | exact rfl))) ?_) <;> (try refine q_e (by exact h0v (t:=116) (fun vs => (match vs with | [(_, x0), (_, x1)] => [x0, x1] | _ => [])) rfl (fun w => by kernel_rfl)) ?_; (try simp only [Value.cells]); (try simp only [zzC, zzN])) <;> (try refine h0b ?_; (refine h0w (t:=58) (m:=1) (e:=116) (fun vs => (match vs with | [(_, x0)] => x0.cells.toList | _ => [])) rfl rfl (fun w => by kernel_rfl) ?_; intro nb hnb; (try simp only [Value.cells]); (try simp only [zzC, zzN]))) <;> (try refine h0b ?_; (apply h2k; exact rfl; exact Tryd.underlying58; exact inf_116_i; exact inf_116_z; exact inf_116_s; exact inf_116_b; exact rfl; exact rfl; exact rfl; exact Own.nil _ _; exact fd0; exact Nat.le_of_ble_eq_true rfl; exact c_19; exact rfl; exact c_14; omega; (exact fun _ H => H); exact rfl; exact c_6; exact c_3; intro vA eA hownA; obtain ⟨gA, capA, curA, rfl, rfl, hA1, hA2, hA3, hA4⟩ := hownA.some (by omega); (try simp only [zzC, zzN]))) <;> (try refine q_e (q_f h3z) ?_) <;> (try refine h0b ?_; (refine q_S ?_)) <;> (try refine h0a ?_)) | (refine gR 22 ?_ <;> (try refine q_e (q_b (r:=by apply h1q; exact c_4; (focus (refine IntWalk.i64_in _ ?_; omega)))) ?_) <;> (try refine p_m (h:=h0a ?_))))
   all_goals exact h1p (k + 1, _, _) ⟨⟨by show k + 1 ≤ _; omega, hfi _ _ (own_mk (g:=gA) hA1 hA2 hA3 hA4)⟩, by show _ - (k + 1) < _ - k; omega⟩ (by (focus (repeat (first | exact Sub.nil | refine Sub.cons rfl ?_)))) c_15
  ·rw [← q4] at hfi
   clear hown
   (try simp only [zzC, zzN])
   repeat' (first | refine h0t ?_ | refine h0e ?_ | refine h1d ?_ | refine h1h ?_ | refine h0o ?_ | refine h1a ?_ | refine h0l rfl ?_ | (refine gR 19 (p_e (q_b (r:=by exact h0q q_o)) (h:=h0a ?_))) | (refine gR 20 (p_e (by apply h0s; exact rfl; exact rfl; (focus (apply h2h Tryd.underlying28 sz_51; omega; omega; exact c_1))) (h:=q_e (by apply h1r (t:=51); exact rfl; exact c_10; kernel_rfl; kernel_rfl; exact sz_51; (with_reducible assumption); (with_reducible assumption)) ?_)) <;> (try refine h0b ?_; (refine h1b (t:=51) rfl Tryd.zeroValue51 ?_; intro nb hnb; (try simp only [Value.cells]))) <;> (try refine h0b ?_; (refine q_W ?_)) <;> (try refine h0a ?_)) | (refine gR 21 (p_e (q_f h3z) (h:=p_e q_l (h:=p_e (q_f fo_51_0) (h:=q_e q_l ?_)))) <;> (try refine q_e (by apply h3c; exact rfl; (focus (apply h3a Tryd.underlying25 Tryd.underlying3; first | (refine IntWalk.i64_in _ ?_; omega) | (refine IntWalk.u8_in _ ?_; omega) | (refine IntWalk.u16_in _ ?_; omega) | (refine IntWalk.u32_in _ ?_; omega) | (refine IntWalk.u64_in _ ?_; omega) | (refine IntWalk.i32_in _ ?_; omega) | exact rfl))) ?_) <;> (try refine p_e (q_f fo_51_1) (h:=q_e q_l ?_)) <;> (try refine q_e (by apply h3c; exact rfl; (focus (apply h3a Tryd.underlying26 Tryd.underlying3; first | (refine IntWalk.i64_in _ ?_; omega) | (refine IntWalk.u8_in _ ?_; omega) | (refine IntWalk.u16_in _ ?_; omega) | (refine IntWalk.u32_in _ ?_; omega) | (refine IntWalk.u64_in _ ?_; omega) | (refine IntWalk.i32_in _ ?_; omega) | exact rfl))) ?_) <;> (try refine q_e (by exact h0v (t:=116) (fun vs => (match vs with | [(_, x0), (_, x1)] => [x0, x1] | _ => [])) rfl (fun w => by kernel_rfl)) ?_; (try simp only [Value.cells]); (try simp only [zzC, zzN])) <;> (try refine h0b ?_; (refine h0w (t:=58) (m:=1) (e:=116) (fun vs => (match vs with | [(_, x0)] => x0.cells.toList | _ => [])) rfl rfl (fun w => by kernel_rfl) ?_; intro nb hnb; (try simp only [Value.cells]); (try simp only [zzC, zzN]))) <;> (try refine h0b ?_; (apply h2t; exact rfl; exact Tryd.underlying58; exact inf_116_i; exact inf_116_z; exact inf_116_s; exact inf_116_b; exact rfl; exact rfl; exact rfl; exact c_23; (with_reducible assumption); (with_reducible assumption); (with_reducible assumption); exact fd0; exact Nat.le_of_ble_eq_true rfl; exact c_19; exact rfl; exact c_14; omega; exact rfl; exact c_6; exact c_3; (try simp only [zzE, zzF]); intro vA eA hownA; obtain ⟨gA, capA, curA, rfl, rfl, hA1, hA2, hA3, hA4⟩ := hownA.some (by omega); (try simp only [zzC, zzN]))) <;> (try refine q_e (q_f h3z) ?_) <;> (try refine h0b ?_; (refine q_S ?_)) <;> (try refine h0a ?_)) | (refine gR 22 ?_ <;> (try refine q_e (q_b (r:=by apply h1q; exact c_4; (focus (refine IntWalk.i64_in _ ?_; omega)))) ?_) <;> (try refine p_m (h:=h0a ?_))))
   all_goals exact h1p (k + 1, _, _) ⟨⟨by show k + 1 ≤ _; omega, hfi _ _ (own_mk (g:=gA) hA1 hA2 hA3 hA4)⟩, by show _ - (k + 1) < _ - k; omega⟩ (by (focus (repeat (first | exact Sub.nil | refine Sub.cons rfl ?_)))) c_15
 rintro ⟨vq, eq⟩ hownQ
 dsimp only at hownQ ⊢
 obtain ⟨xa, xc, rfl, -⟩ := hownQ.sli []
 repeat' (first | refine h0t ?_ | refine h0e ?_ | refine h1e ?_ | (refine gR 23 (q_e (q_L sz_60) ?_) <;> (try refine h0b ?_; (refine q_W ?_)) <;> (try refine h0a ?_)))
 (apply G_doneA Tryd.results10; exact rfl; (focus (repeat (first | exact fd0 | (with_reducible assumption) | apply fdA | apply fdS))); kernel_rfl; kernel_rfl; exact sz_60; exact c_8)
 refine ⟨_, ⟨⟨.slice va rules.length vc, .slice wa paths.length wc, .slice xa ports.length xc, cz, er, ec, ep, eq⟩, by dsimp only [refC]; rw [hnmB], ⟨hR, hownR, hownP, hownQ⟩, rfl⟩, fun w H => ?_⟩
 subst hL3 hL2
 have H2 : HP S w0 w (eq ++ (ep ++ (er ++ (ec ++ L)))) := by
  revert w
  intro w H; refine H.sub ?_; (try simp only [zzC, zzN]); repeat (first | exact List.Sublist.refl _ | refine List.Sublist.cons _ ?_)
 exact HP.re2 (env:=[eq, ep, er, ec, L]) [0, 1, 2, 3, 4] [2, 1, 0, 3, 4] (by decide) rfl (by unfold RfD.blocks; simp [flatB]) H2
def RCnS (L : List Blk) (v : Value) (cs : List GCnd) : Prop := ∃ a c, v = .slice a cs.length c ∧ Sli L a cs.length 4 (rgC cs) ∧ cs.length ≤ maxLen
def RRlG (L : List Blk) : List GRul → List Value → Prop
 | [], cz => cz = []
 | r :: rs, cz => ∃ v cz', cz = .int .u32 r.num :: .int .u32 r.act :: v :: cz' ∧ RCnS L v r.conds ∧ RRlG L rs cz'
structure RfS (L : List Blk) (P : GPol) (vr vp vq : Value) : Prop where
 rs : ∃ a c cz, vr = .slice a P.rules.length c ∧ Sli L a P.rules.length 3 cz ∧ RRlG L P.rules cz
 ps : ∃ a c, vp = .slice a P.paths.length c ∧ Sli L a P.paths.length 2 (rpC P.paths)
 qs : ∃ a c, vq = .slice a P.ports.length c ∧ Sli L a P.ports.length 2 (rqC P.ports)
 l1 : P.rules.length ≤ maxLen
 l2 : P.paths.length ≤ maxLen
 l3 : P.ports.length ≤ maxLen
theorem RCnS.upA {L : List Blk} {v : Value} {cs : List GCnd} (h : RCnS L v cs) (e : List Blk) : RCnS (e ++ L) v cs := let ⟨a, c, h1, h2, h3⟩ := h; ⟨a, c, h1, h2.upA e, h3⟩
theorem RCnS.left {L e : List Blk} {v : Value} {cs : List GCnd} (h : RCnS e v cs) : RCnS (e ++ L) v cs := let ⟨a, c, h1, h2, h3⟩ := h; ⟨a, c, h1, h2.left, h3⟩
theorem RRlG.upA {L : List Blk} (e : List Blk) : ∀ {rs : List GRul} {cz : List Value}, RRlG L rs cz → RRlG (e ++ L) rs cz
 | [], _, h => h
 | _ :: _, _, ⟨v, cz', h1, h2, h3⟩ => ⟨v, cz', h1, h2.upA e, RRlG.upA e h3⟩
theorem RRlG.left {L e : List Blk} : ∀ {rs : List GRul} {cz : List Value}, RRlG e rs cz → RRlG (e ++ L) rs cz
 | [], _, h => h
 | _ :: _, _, ⟨v, cz', h1, h2, h3⟩ => ⟨v, cz', h1, h2.left, RRlG.left h3⟩
theorem RfS.upA {L : List Blk} {P : GPol} {vr vp vq : Value} (h : RfS L P vr vp vq) (e : List Blk) : RfS (e ++ L) P vr vp vq := by
 obtain ⟨⟨a, c, cz, h1, h2, h3⟩, ⟨a2, c2, h4, h5⟩, ⟨a3, c3, h6, h7⟩, l1, l2, l3⟩ := h
 exact ⟨⟨a, c, cz, h1, h2.upA e, h3.upA e⟩, ⟨a2, c2, h4, h5.upA e⟩, ⟨a3, c3, h6, h7.upA e⟩, l1, l2, l3⟩
theorem RfS.left {L e : List Blk} {P : GPol} {vr vp vq : Value} (h : RfS e P vr vp vq) : RfS (e ++ L) P vr vp vq := by
 obtain ⟨⟨a, c, cz, h1, h2, h3⟩, ⟨a2, c2, h4, h5⟩, ⟨a3, c3, h6, h7⟩, l1, l2, l3⟩ := h
 exact ⟨⟨a, c, cz, h1, h2.left, h3.left⟩, ⟨a2, c2, h4, h5.left⟩, ⟨a3, c3, h6, h7.left⟩, l1, l2, l3⟩
theorem RRlG.at_ {L : List Blk} : ∀ {rs : List GRul} {cz : List Value} (_ : RRlG L rs cz) (k : Nat) (hk : k < rs.length), ∃ v, (cz.drop (k * 3)).take 3 = [.int .u32 (rs[k]).num, .int .u32 (rs[k]).act, v] ∧ RCnS L v (rs[k]).conds
 | r :: rs, cz, ⟨v, cz', h1, h2, h3⟩, 0, _ => ⟨v, by rw [h1]; rfl, h2⟩
 | r :: rs, cz, ⟨v, cz', h1, h2, h3⟩, k + 1, hk => by
  obtain ⟨v', e1, e2⟩ := RRlG.at_ h3 k (by simpa using hk)
  exact ⟨v', by rw [h1, show (k + 1) * 3 = 3 + k * 3 by omega, ← List.drop_drop]; exact e1, e2⟩
theorem RRlG.snoc {L : List Blk} {v : Value} {r : GRul} : ∀ {rs : List GRul} {cz : List Value}, RRlG L rs cz → RCnS L v r.conds → RRlG L (rs ++ [r]) (cz ++ [.int .u32 r.num, .int .u32 r.act, v])
 | [], cz, h, hc => by
  obtain rfl : cz = [] := h
  exact ⟨v, [], rfl, hc, rfl⟩
 | _ :: _, _, ⟨v2, cz', h1, h2, h3⟩, hc => ⟨v2, _, by rw [h1]; rfl, h2, RRlG.snoc h3 hc⟩
theorem RefR.g {rs : List GRul} {cz : List Value} {ec : List Blk} (h : RefR rs cz ec) (hl : ∀ r ∈ rs, r.conds.length ≤ maxLen) : RRlG ec rs cz := by
 induction h with
 | nil => rfl
 | @snoc rs cz ec r v e _ ho ih =>
  obtain ⟨a, c, hv, hs⟩ := ho.sli ec
  exact RRlG.snoc (RRlG.upA e (ih fun q hq => hl q (List.mem_append_left _ hq))) ⟨a, c, hv, hs, hl r (List.mem_append_right _ (List.mem_singleton.2 rfl))⟩
theorem RfD.ok.rfS {d : RfD} {P : GPol} (h : d.ok P) (hN : FewN P) : RfS d.blocks P d.vr d.vp d.vq := by
 obtain ⟨r1, r2, e1, s1⟩ := h.vr.sli (d.ep ++ (d.eq ++ d.ec))
 obtain ⟨p1, p2, e2, s2⟩ := h.vp.sli (d.eq ++ d.ec)
 obtain ⟨q1, q2, e3, s3⟩ := h.vq.sli d.ec
 have hm : (1000 : Nat) ≤ maxLen := by unfold maxLen; omega
 have g := RefR.g h.rs (fun r hr => Nat.le_trans (hN.conds r hr) hm)
 exact ⟨⟨r1, r2, d.cz, e1, s1, ((g.upA d.eq).upA d.ep).upA d.er⟩, ⟨p1, p2, e2, s2.upA d.er⟩, ⟨q1, q2, e3, (s3.upA d.ep).upA d.er⟩, Nat.le_trans hN.l1 hm, Nat.le_trans hN.l2 hm, Nat.le_trans hN.l3 hm⟩
theorem rpC_at (ps : List (List UInt8 × Nat)) (k : Nat) (h : k < ps.length) : ((rpC ps).drop (k * 2)).take 2 = [.string (mB8 (ps[k]).1), .int .i64 ((ps[k]).2 : Nat)] := by
 induction ps generalizing k with
 | nil => simp at h
 | cons c r ih =>
  cases k with
  | zero => simp [rpC]
  | succ k =>
   rw [rpC, List.flatMap_cons, ← rpC, show (k + 1) * 2 = 2 + k * 2 by omega, ← List.drop_drop]
   exact ih k (by simpa using h)
theorem rqC_at (ps : List (Nat × Nat)) (k : Nat) (h : k < ps.length) : ((rqC ps).drop (k * 2)).take 2 = [.int .i64 ((ps[k]).1 : Nat), .int .i64 ((ps[k]).2 : Nat)] := by
 induction ps generalizing k with
 | nil => simp at h
 | cons c r ih =>
  cases k with
  | zero => simp [rqC]
  | succ k =>
   rw [rqC, List.flatMap_cons, ← rqC, show (k + 1) * 2 = 2 + k * 2 by omega, ← List.drop_drop]
   exact ih k (by simpa using h)
structure FewG (P : GPol) : Prop where
 conds : ∀ r ∈ P.rules, r.conds.length ≤ 20
 path : ∀ p ∈ P.paths, p.1.length ≤ 200
 l1 : P.rules.length ≤ 80
 l2 : P.paths.length ≤ 50
 l3 : P.ports.length ≤ 50
 nm : P.nm.length ≤ 100
theorem take_all {α : Type} {p : α → Prop} {l : List α} {k : Nat} (h : ∀ x ∈ l.take k, p x) (hk : k < l.length) (h2 : p l[k]) : ∀ x ∈ l.take (k + 1), p x := by
 rw [List.take_succ_eq_append_getElem hk]
 exact h3y h h2
set_option maxHeartbeats 1000000 in
theorem few_c {S w0 L} (P : GPol) (vr vp vq : Value) (hS : PolS L P vr vp vq) (hpp : ∀ p ∈ P.paths, p.1.length ≤ maxLen) (hnm : P.nm.length ≤ maxLen) : Fn Tryd.prog 5 #[.agg (polG P vr vp vq).toArray] S w0 L fun v L' => ∃ b : Bool, v = .bool b ∧ (b = true → FewG P) ∧ L = L' := by
 obtain ⟨⟨ra, rc, cz, rfl, hrs, hrg⟩, ⟨pa, pc, rfl, hps⟩, ⟨qa, qc, rfl, hqs⟩, hl1, hl2, hl3⟩ := hS
 obtain ⟨nm, df, rules, hd, paths, ports⟩ := P
 dsimp only [polG] at *
 have hnz : (mB8 nm).size = nm.length := h4c nm
 generalize mB8 nm = nmB at *
 unfold maxLen at hl1 hl2 hl3 hpp hnm
 refine Fn1 Tryd.func5 Tryd.ntmps5 rfl rfl ?_
 repeat' (first | (refine h2g (id:=0) ?_) | refine h0t ?_ | refine h0e ?_ | (refine gR 0 ?_ <;> (try refine h0b ?_; (refine h2c (t:=30) rfl rfl ?_; intro nb hnb; (try simp only [Value.cells]))) <;> (try refine p_a (h:=h0a ?_))) | (refine gR 1 (p_e (q_f h2n) (h:=p_e q_l (h:=p_e (by apply h0h; exact rfl; exact (fun _ => BigFrame.builtin_len ..); apply h0j Tryd.underlying24; exact h3d) (h:=p_m (h:=h0a ?_)))))))
 refine ⟨?_⟩
 obtain ⟨n1, rfl⟩ : ∃ x, x = nb := ⟨_, rfl⟩
 refine h4e (γ:=Unit) (fun _ => ∀ r ∈ rules, r.conds.length ≤ 20) (fun _ => []) [(1, _)]
  (fun _ => ⟨true, n1, .cells #[.string nmB, .int .u32 df, .slice ra rules.length rc, .int .u16 (hd : Nat), .slice pa paths.length pc, .slice qa ports.length qc] 30 (0, 0)⟩ :: L) (.cons rfl .nil) ?_ ?_
 ·refine h0o ?_
  refine h2i (γ:=Nat) (fun k => k ≤ rules.length ∧ ∀ r ∈ rules.take k, r.conds.length ≤ 20) (fun k => rules.length - k) (fun k => [(10, .int .i64 (k : Nat))]) [(1, _), (8, _), (9, _)]
   (fun _ => ⟨true, n1, .cells #[.string nmB, .int .u32 df, .slice ra rules.length rc, .int .u16 (hd : Nat), .slice pa paths.length pc, .slice qa ports.length qc] 30 (0, 0)⟩ :: L) 0 (.cons rfl (.cons rfl (.cons rfl .nil))) ⟨Nat.zero_le _, fun _ h => by cases h⟩ (by (focus (repeat (first | exact Sub.nil | refine Sub.cons rfl ?_)))) (fun _ H => H) ?_
  rintro k ⟨hk, hc⟩
  (try dsimp only at hk hc ⊢)
  by_cases hlt : k < rules.length
  case neg =>
   obtain rfl : k = rules.length := by omega
   rw [List.take_length] at hc
   repeat' (first | refine h0t ?_ | refine h0e ?_ | refine h1d ?_ | refine h1w ?_ | refine h1o ?_ | refine h1v ?_ | refine h2j ?_ | refine h0m rfl ?_ | (refine gR 2 (p_e (q_b (r:=by exact h0r q_o)) (h:=h0a ?_))))
   exact h1p () hc (by (focus (repeat (first | exact Sub.nil | refine Sub.cons rfl ?_)))) (fun _ H => H)
  obtain ⟨j, q, bb, off, cs, T, fr, rfl, hj, hsz, hx⟩ := hrs.elem hlt
  obtain ⟨v, hv, hcs⟩ := hrg.at_ k hlt
  rw [hv] at hx
  obtain ⟨ca, cc, rfl, -, hcl⟩ := hcs
  unfold maxLen at hcl
  have hc2 := take_all (p:=fun r : GRul => r.conds.length ≤ 20) hc hlt
  clear hv
  generalize rules[k] = r at *
  obtain ⟨num, act, conds⟩ := r
  dsimp only at *
  by_cases h20 : 20 < conds.length
  ·repeat' (first | refine h0t ?_ | refine h0e ?_ | refine h1x ?_ | refine h0x ?_ | refine h1m ?_ | refine h0o ?_ | refine h1a ?_ | refine h1e ?_ | refine h0l rfl ?_ | (refine gR 2 (p_e (q_b (r:=by exact h0q q_o)) (h:=h0a ?_))) | (refine gR 3 (p_e (by apply h0s; exact rfl; exact rfl; (focus (apply h2h Tryd.underlying24 sz_47; omega; omega; exact c_1))) (h:=q_e (by apply h1r (t:=47); exact rfl; exact c_10; kernel_rfl; kernel_rfl; exact sz_47; (with_reducible assumption); (with_reducible assumption)) ?_)) <;> (try refine h0b ?_; (refine h1b (t:=47) rfl Tryd.zeroValue47 ?_; intro nb hnb; (try simp only [Value.cells]))) <;> (try refine h0b ?_; (refine q_W ?_)) <;> (try refine h0a ?_)) | (refine gR 4 (p_e (q_f h3w) (h:=p_e q_l (h:=p_e (by apply h0h; exact rfl; exact (fun _ => BigFrame.builtin_len ..); apply h0j Tryd.underlying45; exact h3d) (h:=p_e (q_b (r:=by exact h1c q_o)) (h:=h0a ?_)))))) | (refine gR 5 (p_a (h:=h0a ?_))))
   (refine h0z Tryd.results5 (.tmp rfl .nil) ?_)
   exact ⟨_, ⟨_, rfl, (fun h => by cases h), rfl⟩, by intro w H; refine H.sub ?_; (try simp only [zzC, zzN]); repeat (first | exact List.Sublist.refl _ | refine List.Sublist.cons _ ?_)⟩
  ·repeat' (first | refine h0t ?_ | refine h0e ?_ | refine h1d ?_ | refine h1h ?_ | refine h0o ?_ | refine h1a ?_ | refine h0l rfl ?_ | refine h0m rfl ?_ | (refine gR 2 (p_e (q_b (r:=by exact h0q q_o)) (h:=h0a ?_))) | (refine gR 3 (p_e (by apply h0s; exact rfl; exact rfl; (focus (apply h2h Tryd.underlying24 sz_47; omega; omega; exact c_1))) (h:=q_e (by apply h1r (t:=47); exact rfl; exact c_10; kernel_rfl; kernel_rfl; exact sz_47; (with_reducible assumption); (with_reducible assumption)) ?_)) <;> (try refine h0b ?_; (refine h1b (t:=47) rfl Tryd.zeroValue47 ?_; intro nb hnb; (try simp only [Value.cells]))) <;> (try refine h0b ?_; (refine q_W ?_)) <;> (try refine h0a ?_)) | (refine gR 4 (p_e (q_f h3w) (h:=p_e q_l (h:=p_e (by apply h0h; exact rfl; exact (fun _ => BigFrame.builtin_len ..); apply h0j Tryd.underlying45; exact h3d) (h:=p_e (q_b (r:=by exact h0u q_o)) (h:=h0a ?_)))))) | (refine gR 6 ?_ <;> (try refine q_e (q_b (r:=by apply h1q; exact c_4; (focus (refine IntWalk.i64_in _ ?_; omega)))) ?_) <;> (try refine p_m (h:=h0a ?_))))
   exact h1p (k + 1) ⟨⟨by show k + 1 ≤ _; omega, hc2 (by omega)⟩, by show _ - (k + 1) < _ - k; omega⟩ (by (focus (repeat (first | exact Sub.nil | refine Sub.cons rfl ?_)))) (fun _ H => H.tail)
 rintro - hcc
 (try dsimp only)
 repeat' (first | (refine h2g (id:=2) ?_) | refine h0t ?_ | refine h0e ?_ | (refine gR 7 (p_e (q_f h3k) (h:=p_e q_l (h:=p_e (by apply h0h; exact rfl; exact (fun _ => BigFrame.builtin_len ..); apply h0j Tryd.underlying27; exact h3d) (h:=p_m (h:=h0a ?_)))))))
 refine ⟨?_⟩
 refine h4e (γ:=Unit) (fun _ => ∀ p ∈ paths, p.1.length ≤ 200) (fun _ => []) [(1, _)]
  (fun _ => ⟨true, n1, .cells #[.string nmB, .int .u32 df, .slice ra rules.length rc, .int .u16 (hd : Nat), .slice pa paths.length pc, .slice qa ports.length qc] 30 (0, 0)⟩ :: L) (.cons rfl .nil) ?_ ?_
 ·refine h0o ?_
  refine h2i (γ:=Nat) (fun k => k ≤ paths.length ∧ ∀ r ∈ paths.take k, r.1.length ≤ 200) (fun k => paths.length - k) (fun k => [(22, .int .i64 (k : Nat))]) [(1, _), (20, _), (21, _)]
   (fun _ => ⟨true, n1, .cells #[.string nmB, .int .u32 df, .slice ra rules.length rc, .int .u16 (hd : Nat), .slice pa paths.length pc, .slice qa ports.length qc] 30 (0, 0)⟩ :: L) 0 (.cons rfl (.cons rfl (.cons rfl .nil))) ⟨Nat.zero_le _, fun _ h => by cases h⟩ (by (focus (repeat (first | exact Sub.nil | refine Sub.cons rfl ?_)))) (fun _ H => H) ?_
  rintro k ⟨hk, hc⟩
  (try dsimp only at hk hc ⊢)
  by_cases hlt : k < paths.length
  case neg =>
   obtain rfl : k = paths.length := by omega
   rw [List.take_length] at hc
   repeat' (first | refine h0t ?_ | refine h0e ?_ | refine h1d ?_ | refine h1w ?_ | refine h1o ?_ | refine h1v ?_ | refine h2j ?_ | refine h0m rfl ?_ | (refine gR 8 (p_e (q_b (r:=by exact h0r q_o)) (h:=h0a ?_))))
   exact h1p () hc (by (focus (repeat (first | exact Sub.nil | refine Sub.cons rfl ?_)))) (fun _ H => H)
  obtain ⟨j, q, bb, off, cs, T, fr, rfl, hj, hsz, hx⟩ := hps.elem hlt
  rw [pthC_at _ _ hlt] at hx
  have hc2 := take_all (p:=fun r : List UInt8 × Nat => r.1.length ≤ 200) hc hlt
  have hp1 := hpp _ (List.getElem_mem hlt)
  generalize paths[k] = p at *
  obtain ⟨pt, pr⟩ := p
  dsimp only at *
  have hpz : (mB8 pt).size = pt.length := h4c pt
  generalize mB8 pt = ptB at *
  by_cases h20 : 200 < pt.length
  ·repeat' (first | refine h0t ?_ | refine h0e ?_ | refine h1x ?_ | refine h0x ?_ | refine h1m ?_ | refine h0o ?_ | refine h1a ?_ | refine h1e ?_ | refine h0l rfl ?_ | (refine gR 8 (p_e (q_b (r:=by exact h0q q_o)) (h:=h0a ?_))) | (refine gR 9 (p_e (by apply h0s; exact rfl; exact rfl; (focus (apply h2h Tryd.underlying27 sz_49; omega; omega; exact c_1))) (h:=q_e (by apply h1r (t:=49); exact rfl; exact c_10; kernel_rfl; kernel_rfl; exact sz_49; (with_reducible assumption); (with_reducible assumption)) ?_)) <;> (try refine h0b ?_; (refine h1b (t:=49) rfl Tryd.zeroValue49 ?_; intro nb hnb; (try simp only [Value.cells]))) <;> (try refine h0b ?_; (refine q_W ?_)) <;> (try refine h0a ?_)) | (refine gR 10 (p_e (q_f fo_49_0) (h:=p_e q_l (h:=p_e (h0h rfl (fun _ => BigFrame.builtin_len ..) (h0n Tryd.underlying9)) (h:=p_e (q_b (r:=by exact h1c q_o)) (h:=h0a ?_)))))) | (refine gR 11 (p_a (h:=h0a ?_))))
   (refine h0z Tryd.results5 (.tmp rfl .nil) ?_)
   exact ⟨_, ⟨_, rfl, (fun h => by cases h), rfl⟩, by intro w H; refine H.sub ?_; (try simp only [zzC, zzN]); repeat (first | exact List.Sublist.refl _ | refine List.Sublist.cons _ ?_)⟩
  ·repeat' (first | refine h0t ?_ | refine h0e ?_ | refine h1d ?_ | refine h1h ?_ | refine h0o ?_ | refine h1a ?_ | refine h0l rfl ?_ | refine h0m rfl ?_ | (refine gR 8 (p_e (q_b (r:=by exact h0q q_o)) (h:=h0a ?_))) | (refine gR 9 (p_e (by apply h0s; exact rfl; exact rfl; (focus (apply h2h Tryd.underlying27 sz_49; omega; omega; exact c_1))) (h:=q_e (by apply h1r (t:=49); exact rfl; exact c_10; kernel_rfl; kernel_rfl; exact sz_49; (with_reducible assumption); (with_reducible assumption)) ?_)) <;> (try refine h0b ?_; (refine h1b (t:=49) rfl Tryd.zeroValue49 ?_; intro nb hnb; (try simp only [Value.cells]))) <;> (try refine h0b ?_; (refine q_W ?_)) <;> (try refine h0a ?_)) | (refine gR 10 (p_e (q_f fo_49_0) (h:=p_e q_l (h:=p_e (h0h rfl (fun _ => BigFrame.builtin_len ..) (h0n Tryd.underlying9)) (h:=p_e (q_b (r:=by exact h0u q_o)) (h:=h0a ?_)))))) | (refine gR 12 ?_ <;> (try refine q_e (q_b (r:=by apply h1q; exact c_4; (focus (refine IntWalk.i64_in _ ?_; omega)))) ?_) <;> (try refine p_m (h:=h0a ?_))))
   exact h1p (k + 1) ⟨⟨by show k + 1 ≤ _; omega, hc2 (by omega)⟩, by show _ - (k + 1) < _ - k; omega⟩ (by (focus (repeat (first | exact Sub.nil | refine Sub.cons rfl ?_)))) (fun _ H => H.tail)
 rintro - hpc
 (try dsimp only)
 by_cases c1 : rules.length ≤ 80
 ·by_cases c2 : paths.length ≤ 50
  ·by_cases c3 : ports.length ≤ 50
   ·by_cases c4 : nm.length ≤ 100
    ·repeat' (first | refine h0t ?_ | refine h0e ?_ | refine h1e ?_ | (refine gR 13 (p_e (q_f h2n) (h:=p_e q_l (h:=p_e (by apply h0h; exact rfl; exact (fun _ => BigFrame.builtin_len ..); apply h0j Tryd.underlying24; exact h3d) (h:=p_e (q_b (r:=by exact h1u q_o)) (h:=p_m (h:=p_y (q_f h3k) (h:=p_y q_l (h:=p_y (by apply h0h; exact rfl; exact (fun _ => BigFrame.builtin_len ..); apply h0j Tryd.underlying27; exact h3d) (h:=p_y (q_b (r:=by exact h1u q_o)) (h:=p_p (h:=p_m (h:=p_y (q_f h4m) (h:=p_y q_l (h:=p_y (by apply h0h; exact rfl; exact (fun _ => BigFrame.builtin_len ..); apply h0j Tryd.underlying28; exact h3d) (h:=p_y (q_b (r:=by exact h1u q_o)) (h:=p_p (h:=p_m (h:=p_y (q_f fo_30_0) (h:=p_y q_l (h:=p_y (h0h rfl (fun _ => BigFrame.builtin_len ..) (h0n Tryd.underlying9)) (h:=p_y (q_b (r:=by exact h1u q_o)) (h:=p_p (h:=p_a (h:=h0a ?_))))))))))))))))))))))))))
     (refine h0z Tryd.results5 (.tmp rfl .nil) ?_)
     exact ⟨_, ⟨true, rfl, (fun _ => ⟨hcc, hpc, c1, c2, c3, c4⟩), rfl⟩, by intro w H; refine H.sub ?_; (try simp only [zzC, zzN]); repeat (first | exact List.Sublist.refl _ | refine List.Sublist.cons _ ?_)⟩
    ·repeat' (first | refine h0t ?_ | refine h0e ?_ | refine h1e ?_ | (refine gR 13 (p_e (q_f h2n) (h:=p_e q_l (h:=p_e (by apply h0h; exact rfl; exact (fun _ => BigFrame.builtin_len ..); apply h0j Tryd.underlying24; exact h3d) (h:=p_e (q_b (r:=by exact h1u q_o)) (h:=p_m (h:=p_y (q_f h3k) (h:=p_y q_l (h:=p_y (by apply h0h; exact rfl; exact (fun _ => BigFrame.builtin_len ..); apply h0j Tryd.underlying27; exact h3d) (h:=p_y (q_b (r:=by exact h1u q_o)) (h:=p_p (h:=p_m (h:=p_y (q_f h4m) (h:=p_y q_l (h:=p_y (by apply h0h; exact rfl; exact (fun _ => BigFrame.builtin_len ..); apply h0j Tryd.underlying28; exact h3d) (h:=p_y (q_b (r:=by exact h1u q_o)) (h:=p_p (h:=p_m (h:=p_y (q_f fo_30_0) (h:=p_y q_l (h:=p_y (h0h rfl (fun _ => BigFrame.builtin_len ..) (h0n Tryd.underlying9)) (h:=p_y (q_b (r:=by exact h2l q_o)) (h:=p_p (h:=p_a (h:=h0a ?_))))))))))))))))))))))))))
     (refine h0z Tryd.results5 (.tmp rfl .nil) ?_)
     exact ⟨_, ⟨false, rfl, (fun h => by cases h), rfl⟩, by intro w H; refine H.sub ?_; (try simp only [zzC, zzN]); repeat (first | exact List.Sublist.refl _ | refine List.Sublist.cons _ ?_)⟩
   ·repeat' (first | refine h0t ?_ | refine h0e ?_ | refine h1e ?_ | (refine gR 13 (p_e (q_f h2n) (h:=p_e q_l (h:=p_e (by apply h0h; exact rfl; exact (fun _ => BigFrame.builtin_len ..); apply h0j Tryd.underlying24; exact h3d) (h:=p_e (q_b (r:=by exact h1u q_o)) (h:=p_m (h:=p_y (q_f h3k) (h:=p_y q_l (h:=p_y (by apply h0h; exact rfl; exact (fun _ => BigFrame.builtin_len ..); apply h0j Tryd.underlying27; exact h3d) (h:=p_y (q_b (r:=by exact h1u q_o)) (h:=p_p (h:=p_m (h:=p_y (q_f h4m) (h:=p_y q_l (h:=p_y (by apply h0h; exact rfl; exact (fun _ => BigFrame.builtin_len ..); apply h0j Tryd.underlying28; exact h3d) (h:=p_y (q_b (r:=by exact h2l q_o)) (h:=p_p (h:=p_m (h:=p_z (h:=p_z (h:=p_z (h:=p_z (h:=p_p (h:=p_a (h:=h0a ?_))))))))))))))))))))))))))
    (refine h0z Tryd.results5 (.tmp rfl .nil) ?_)
    exact ⟨_, ⟨false, rfl, (fun h => by cases h), rfl⟩, by intro w H; refine H.sub ?_; (try simp only [zzC, zzN]); repeat (first | exact List.Sublist.refl _ | refine List.Sublist.cons _ ?_)⟩
  ·repeat' (first | refine h0t ?_ | refine h0e ?_ | refine h1e ?_ | (refine gR 13 (p_e (q_f h2n) (h:=p_e q_l (h:=p_e (by apply h0h; exact rfl; exact (fun _ => BigFrame.builtin_len ..); apply h0j Tryd.underlying24; exact h3d) (h:=p_e (q_b (r:=by exact h1u q_o)) (h:=p_m (h:=p_y (q_f h3k) (h:=p_y q_l (h:=p_y (by apply h0h; exact rfl; exact (fun _ => BigFrame.builtin_len ..); apply h0j Tryd.underlying27; exact h3d) (h:=p_y (q_b (r:=by exact h2l q_o)) (h:=p_p (h:=p_m (h:=p_z (h:=p_z (h:=p_z (h:=p_z (h:=p_p (h:=p_m (h:=p_z (h:=p_z (h:=p_z (h:=p_z (h:=p_p (h:=p_a (h:=h0a ?_))))))))))))))))))))))))))
   (refine h0z Tryd.results5 (.tmp rfl .nil) ?_)
   exact ⟨_, ⟨false, rfl, (fun h => by cases h), rfl⟩, by intro w H; refine H.sub ?_; (try simp only [zzC, zzN]); repeat (first | exact List.Sublist.refl _ | refine List.Sublist.cons _ ?_)⟩
 ·repeat' (first | refine h0t ?_ | refine h0e ?_ | refine h1e ?_ | (refine gR 13 (p_e (q_f h2n) (h:=p_e q_l (h:=p_e (by apply h0h; exact rfl; exact (fun _ => BigFrame.builtin_len ..); apply h0j Tryd.underlying24; exact h3d) (h:=p_e (q_b (r:=by exact h2l q_o)) (h:=p_m (h:=p_z (h:=p_z (h:=p_z (h:=p_z (h:=p_p (h:=p_m (h:=p_z (h:=p_z (h:=p_z (h:=p_z (h:=p_p (h:=p_m (h:=p_z (h:=p_z (h:=p_z (h:=p_z (h:=p_p (h:=p_a (h:=h0a ?_))))))))))))))))))))))))))
  (refine h0z Tryd.results5 (.tmp rfl .nil) ?_)
  exact ⟨_, ⟨false, rfl, (fun h => by cases h), rfl⟩, by intro w H; refine H.sub ?_; (try simp only [zzC, zzN]); repeat (first | exact List.Sublist.refl _ | refine List.Sublist.cons _ ?_)⟩
structure SubB (X L : List Blk) : Prop where
 mem : ∀ b ∈ X, b ∈ L
theorem SubB.refl (X : List Blk) : SubB X X := ⟨fun _ h => h⟩
theorem SubB.left (X R : List Blk) : SubB X (X ++ R) := ⟨fun _ h => List.mem_append_left _ h⟩
theorem SubB.app {X R Y : List Blk} (h : SubB X R) : SubB (Y ++ X) (Y ++ R) := ⟨fun b hb => (List.mem_append.1 hb).elim (fun h => List.mem_append_left _ h) (fun hx => List.mem_append_right _ (h.mem b hx))⟩
theorem SubB.up {X L : List Blk} {x : Blk} (h : SubB X L) : SubB X (x :: L) := ⟨fun b hb => List.mem_cons_of_mem _ (h.mem b hb)⟩
theorem SubB.upA {X L e : List Blk} (h : SubB X L) : SubB X (e ++ L) := ⟨fun b hb => List.mem_append_right _ (h.mem b hb)⟩
theorem Sli.mono {X L : List Blk} {a : Option Addr} {n size : Nat} {xs : List Value} (h : Sli X a n size xs) (hs : SubB X L) : Sli L a n size xs := by
 refine ⟨h.1, ?_⟩
 rcases h.2 with h1 | ⟨i, q, b, off, cs, T, fr, h1, h2, h3⟩
 ·exact Or.inl h1
 ·obtain ⟨j, hj⟩ := List.mem_iff_getElem?.1 (hs.mem _ (List.mem_iff_getElem?.2 ⟨i, h2⟩))
  exact Or.inr ⟨j, q, b, off, cs, T, fr, h1, hj, h3⟩
theorem CndS.mono {X L : List Blk} {v : Value} {cs : List GCnd} (h : CndS X v cs) (hs : SubB X L) : CndS L v cs := let ⟨a, c, h1, h2, h3⟩ := h; ⟨a, c, h1, h2.mono hs, h3⟩
theorem RulsG.mono {X L : List Blk} (hs : SubB X L) : ∀ {rs : List GRul} {cz : List Value}, RulsG X rs cz → RulsG L rs cz
 | [], _, h => h
 | _ :: _, _, ⟨v, cz', h1, h2, h3⟩ => ⟨v, cz', h1, h2.mono hs, RulsG.mono hs h3⟩
theorem PolS.mono {X L : List Blk} {P : GPol} {vr vp vq : Value} (h : PolS X P vr vp vq) (hs : SubB X L) : PolS L P vr vp vq := by
 obtain ⟨⟨a, c, cz, h1, h2, h3⟩, ⟨a2, c2, h4, h5⟩, ⟨a3, c3, h6, h7⟩, l1, l2, l3⟩ := h
 exact ⟨⟨a, c, cz, h1, h2.mono hs, h3.mono hs⟩, ⟨a2, c2, h4, h5.mono hs⟩, ⟨a3, c3, h6, h7.mono hs⟩, l1, l2, l3⟩
theorem RCnS.mono {X L : List Blk} {v : Value} {cs : List GCnd} (h : RCnS X v cs) (hs : SubB X L) : RCnS L v cs := let ⟨a, c, h1, h2, h3⟩ := h; ⟨a, c, h1, h2.mono hs, h3⟩
theorem RRlG.mono {X L : List Blk} (hs : SubB X L) : ∀ {rs : List GRul} {cz : List Value}, RRlG X rs cz → RRlG L rs cz
 | [], _, h => h
 | _ :: _, _, ⟨v, cz', h1, h2, h3⟩ => ⟨v, cz', h1, h2.mono hs, RRlG.mono hs h3⟩
theorem RfS.mono {X L : List Blk} {P : GPol} {vr vp vq : Value} (h : RfS X P vr vp vq) (hs : SubB X L) : RfS L P vr vp vq := by
 obtain ⟨⟨a, c, cz, h1, h2, h3⟩, ⟨a2, c2, h4, h5⟩, ⟨a3, c3, h6, h7⟩, l1, l2, l3⟩ := h
 exact ⟨⟨a, c, cz, h1, h2.mono hs, h3.mono hs⟩, ⟨a2, c2, h4, h5.mono hs⟩, ⟨a3, c3, h6, h7.mono hs⟩, l1, l2, l3⟩
def GCnd.c (c : GCnd) : Cnd := ⟨c.arg.toNat, c.op, c.mask, c.val⟩
def GRul.r (r : GRul) : RulP := ⟨r.num, r.act, r.conds.map GCnd.c⟩
def GPol.p (P : GPol) : Pol := ⟨P.nm, P.df, P.rules.map GRul.r, P.hd, P.paths, P.ports⟩
theorem pol_fewN {P : Pol} (h : PolOk P) : FewN P.g := by
 refine ⟨?_, ?_, ?_, ?_⟩
 ·intro r hr
  obtain ⟨q, hq, rfl⟩ := List.mem_map.1 hr
  have := (h.rules q hq).len
  show (q.conds.map Cnd.g).length ≤ 1000
  rw [List.length_map]; omega
 ·show (P.rules.map RulP.g).length ≤ 1000
  rw [List.length_map]; have := h.l1; omega
 ·show P.paths.length ≤ 1000
  have := h.l2; omega
 ·show P.ports.length ≤ 1000
  have := h.l3; omega
theorem SCndS.mono {X L : List Blk} {v : Value} {cs : List SCnd} (h : SCndS X v cs) (hs : SubB X L) : SCndS L v cs := let ⟨a, c, h1, h2, h3⟩ := h; ⟨a, c, h1, h2.mono hs, h3⟩
theorem SRulG.mono {X L : List Blk} (hs : SubB X L) : ∀ {rs : List SRul} {cz : List Value}, SRulG X rs cz → SRulG L rs cz
 | [], _, h => h
 | _ :: _, _, ⟨v, cz', h1, h2, h3⟩ => ⟨v, cz', h1, h2.mono hs, SRulG.mono hs h3⟩
theorem SPolS.mono {X L : List Blk} {s : SPol} {vr vp vg vq : Value} (h : SPolS X s vr vp vg vq) (hs : SubB X L) : SPolS L s vr vp vg vq := by
 obtain ⟨⟨a, c, cz, h1, h2, h3⟩, ⟨a2, c2, h4, h5⟩, ⟨a3, c3, h6, h7⟩, ⟨a4, c4, h8, h9⟩, l1, l2, l3, l4⟩ := h
 exact ⟨⟨a, c, cz, h1, h2.mono hs, h3.mono hs⟩, ⟨a2, c2, h4, h5.mono hs⟩, ⟨a3, c3, h6, h7.mono hs⟩, ⟨a4, c4, h8, h9.mono hs⟩, l1, l2, l3, l4⟩
theorem smpol_m {S w0 L X} (s : SPol) (h : s.ok) (vr vp vg vq : Value) (hS : SPolS X s vr vp vg vq) (hX : SubB X L) :
  Fn Tryd.prog 7 #[.agg #[.int .u8 s.nm, .int .u8 s.df, .int .u8 s.en, vr, .int .u16 (s.hd : Nat), vp, vg, vq]] S w0 L fun v L' => ∃ (P : Pol) (r1 p1 q1 : Option Addr) (r3 p3 q3 : Nat) (E : List Blk), v = .agg #[.string (mB8 P.nm), .int .u32 P.df, .slice r1 P.rules.length r3, .int .u16 (P.hd : Nat), .slice p1 P.paths.length p3, .slice q1 P.ports.length q3] ∧ PolOk P ∧ PolRn P ∧ PolS E P.g (.slice r1 P.rules.length r3) (.slice p1 P.paths.length p3) (.slice q1 P.ports.length q3) ∧ (P.hd = s.hd &&& 51199 ∧ P.rules.length ≤ 12 ∧ P.paths.length ≤ s.paths.length ∧ P.ports.length ≤ s.ports.length) ∧ E ++ L = L' := by
 refine (smpol_c (S:=S) (w0:=w0) s h vr vp vg vq (hS.mono hX)).mono ?_
 rintro v L' ⟨d, P, rfl, hd, hok, hrn, hi, rfl⟩
 have hS := hd.polS (pol_cl hok)
 obtain ⟨r1, r3, p1, p3, q1, q3, e1, e2, e3⟩ := hd.sl
 rw [e1, e2, e3] at hS
 exact ⟨_, ⟨P, r1, p1, q1, r3, p3, q3, _, by rw [e1, e2, e3], hok, hrn, hS, hi, rfl⟩, fun _ H => H⟩
structure GPolR (P : GPol) : Prop where
 nm : P.nm.length ≤ maxLen
 df : 0 ≤ P.df ∧ P.df < 4294967296
 rules : ∀ r ∈ P.rules, r.ok
 hd : P.hd < 65536
 paths : ∀ p ∈ P.paths, p.1.length ≤ maxLen ∧ p.2 < 65536
 ports : ∀ p ∈ P.ports, p.1 < 65536 ∧ p.2 < 65536
theorem GPolR.ok {P : GPol} (h : GPolR P) (hf : FewG P) : P.ok := by
 refine ⟨?_, h.df, h.rules, h.hd, ?_, h.ports⟩
 ·have := hf.nm; omega
 ·intro p hp
  have := hf.path p hp
  exact ⟨by omega, (h.paths p hp).2⟩
theorem rwit_c {S w0 L} (a b : Nat) (ha : a < 65536) (hb : b < 65536) : Fn Tryd.prog 28 #[.int .i64 (a : Nat), .int .i64 (b : Nat)] S w0 L fun v L' => v = .bool (decide (a &&& b = a)) ∧ L = L' := by
 refine Fn2 Tryd.func28 Tryd.ntmps28 rfl rfl ?_
 repeat' (first | (refine h2g (id:=0) ?_) | refine h0t ?_ | refine h0e ?_ | (refine gR 0 (p_a (h:=h0a ?_))) | (refine gR 1 (p_a (h:=h0a ?_))))
 refine ⟨?_⟩
 refine h0o ?_
 refine h2i (γ:=Nat) (fun i => i ≤ 16 ∧ ∀ j, j < i → a.testBit j = true → b.testBit j = true) (fun i => 16 - i) (fun i => [(5, .int .i64 (i : Nat))]) [(0, _), (1, _)]
  (fun _ => L) 0 (.cons rfl (.cons rfl .nil)) ⟨Nat.zero_le _, (fun j h => by omega)⟩ (by (focus (repeat (first | exact Sub.nil | refine Sub.cons rfl ?_)))) c_20 ?_
 rintro i ⟨hi, hj⟩
 (try dsimp only)
 by_cases hlt : i < 16
 ·have h1 := fun (L : List Blk) => Rg.rhas_c (S:=S) (w0:=w0) (L:=L) a i ha (by omega)
  have h2 := fun (L : List Blk) => Rg.rhas_c (S:=S) (w0:=w0) (L:=L) b i hb (by omega)
  cases hta : a.testBit i with
  | false =>
   rw [hta] at h1
   repeat' (first | refine h0t ?_ | refine h0e ?_ | refine h1d ?_ | refine h1h ?_ | refine h0o ?_ | refine h1a ?_ | refine h0l rfl ?_ | refine h0m rfl ?_ | (refine gR 2 (p_m (h:=p_e (q_b (r:=by exact h0q q_o)) (h:=h0a ?_)))) | (refine gR 4 (p_m (h:=q_m ?_)) <;> (try refine h0b ?_; (refine q_c 40 (c:=by apply h1) (h:=?_); rintro _ _ ⟨rfl, rfl⟩; (try simp only [zzE, zzF]))) <;> (try refine p_m (h:=p_z (h:=p_z (h:=p_z (h:=p_z (h:=p_p (h:=h0a ?_)))))))) | (refine gR 3 (q_m ?_) <;> (try refine q_e (q_b (r:=by apply h1q; exact c_4; (focus (refine IntWalk.i64_in _ ?_; omega)))) ?_) <;> (try refine p_a (h:=h0a ?_))))
   refine h1p (i + 1) ⟨⟨by omega, fun j hji ht => ?_⟩, by omega⟩ (by (focus (repeat (first | exact Sub.nil | refine Sub.cons rfl ?_)))) c_20
   rcases Nat.lt_or_ge j i with h | h
   ·exact hj j h ht
   ·obtain rfl : j = i := by omega
    rw [hta] at ht; cases ht
  | true =>
   rw [hta] at h1
   cases htb : b.testBit i with
   | true =>
    rw [htb] at h2
    repeat' (first | refine h0t ?_ | refine h0e ?_ | refine h1d ?_ | refine h1h ?_ | refine h0o ?_ | refine h1a ?_ | refine h0l rfl ?_ | refine h0m rfl ?_ | (refine gR 2 (p_m (h:=p_e (q_b (r:=by exact h0q q_o)) (h:=h0a ?_)))) | (refine gR 4 (p_m (h:=q_m ?_)) <;> (try refine h0b ?_; (refine q_c 40 (c:=by apply h1) (h:=?_); rintro _ _ ⟨rfl, rfl⟩; (try simp only [zzE, zzF]))) <;> (try refine p_m (h:=p_y (h0g rfl) (h:=q_y (h0g rfl) ?_))) <;> (try refine h0b ?_; (refine h0f rfl rfl rfl ?_; (refine q_c 40 (c:=by apply h2) (h:=?_); rintro _ _ ⟨rfl, rfl⟩; (try simp only [zzE, zzF])))) <;> (try refine p_y (by apply h3g; exact rfl; exact h1f) (h:=p_p (h:=h0a ?_)))) | (refine gR 3 (q_m ?_) <;> (try refine q_e (q_b (r:=by apply h1q; exact c_4; (focus (refine IntWalk.i64_in _ ?_; omega)))) ?_) <;> (try refine p_a (h:=h0a ?_))))
    refine h1p (i + 1) ⟨⟨by omega, fun j hji ht => ?_⟩, by omega⟩ (by (focus (repeat (first | exact Sub.nil | refine Sub.cons rfl ?_)))) c_20
    rcases Nat.lt_or_ge j i with h | h
    ·exact hj j h ht
    ·have e : j = i := by omega
     rw [e]; exact htb
   | false =>
    rw [htb] at h2
    have e : decide (a &&& b = a) = false := decide_eq_false fun h => by
     have := congrArg (fun n => n.testBit i) h
     simp only [Nat.testBit_and, hta, htb] at this
     cases this
    rw [e]
    repeat' (first | refine h0t ?_ | refine h0e ?_ | refine h1x ?_ | refine h0x ?_ | refine h1m ?_ | refine h0o ?_ | refine h1a ?_ | refine h1e ?_ | refine h0l rfl ?_ | (refine gR 2 (p_m (h:=p_e (q_b (r:=by exact h0q q_o)) (h:=h0a ?_)))) | (refine gR 4 (p_m (h:=q_m ?_)) <;> (try refine h0b ?_; (refine q_c 40 (c:=by apply h1) (h:=?_); rintro _ _ ⟨rfl, rfl⟩; (try simp only [zzE, zzF]))) <;> (try refine p_m (h:=p_y (h0g rfl) (h:=q_y (h0g rfl) ?_))) <;> (try refine h0b ?_; (refine h0f rfl rfl rfl ?_; (refine q_c 40 (c:=by apply h2) (h:=?_); rintro _ _ ⟨rfl, rfl⟩; (try simp only [zzE, zzF])))) <;> (try refine p_y (by apply h3g; exact rfl; exact h1y) (h:=p_p (h:=h0a ?_)))) | (refine gR 5 (p_a (h:=h0a ?_))))
    (refine h0z Tryd.results28 (.tmp rfl .nil) ?_)
    exact ⟨_, ⟨rfl, rfl⟩, by intro w H; refine H.sub ?_; (try simp only [zzC, zzN]); repeat (exact List.Sublist.refl _)⟩
 ·obtain rfl : i = 16 := by omega
  have e : decide (a &&& b = a) = true := decide_eq_true (by
   apply Nat.eq_of_testBit_eq
   intro j
   rw [Nat.testBit_and]
   rcases Nat.lt_or_ge j 16 with h | h
   ·cases hq : a.testBit j with
    | false => rfl
    | true => rw [hj j h hq]; rfl
   ·rw [Nat.testBit_lt_two_pow (Nat.lt_of_lt_of_le ha (Nat.pow_le_pow_right (by omega) h : 2 ^ 16 ≤ 2 ^ j))]; rfl)
  rw [e]
  repeat' (first | refine h0t ?_ | refine h0e ?_ | refine h1w ?_ | refine h1o ?_ | refine h1v ?_ | refine h2j ?_ | refine h1e ?_ | refine h0m rfl ?_ | (refine gR 2 (p_m (h:=p_e (q_b (r:=by exact h0r q_o)) (h:=h0a ?_)))) | (refine gR 6 (p_a (h:=h0a ?_))))
  (refine h0z Tryd.results28 (.tmp rfl .nil) ?_)
  exact ⟨_, ⟨rfl, rfl⟩, by intro w H; refine H.sub ?_; (try simp only [zzC, zzN]); repeat (exact List.Sublist.refl _)⟩
theorem mod_bit (x i : Nat) : x % 2 ^ (i + 1) = x % 2 ^ i + if x.testBit i then 2 ^ i else 0 := by
 rw [Nat.mod_pow_succ, Nat.testBit_eq_decide_div_mod_eq]
 have h : x / 2 ^ i % 2 = 0 ∨ x / 2 ^ i % 2 = 1 := by omega
 rcases h with h | h
 ·rw [h]; simp
 ·rw [h]; simp
theorem rbot_c {S w0 L} (a b : Nat) (ha : a < 65536) (hb : b < 65536) : Fn Tryd.prog 31 #[.int .i64 (a : Nat), .int .i64 (b : Nat)] S w0 L fun v L' => v = .int .i64 ((a &&& b : Nat) : Int) ∧ L = L' := by
 refine Fn2 Tryd.func31 Tryd.ntmps31 rfl rfl ?_
 repeat' (first | (refine h2g (id:=0) ?_) | refine h0t ?_ | refine h0e ?_ | (refine gR 0 (p_a (h:=h0a ?_))) | (refine gR 1 (p_a (h:=h0a ?_))) | (refine gR 2 (p_a (h:=h0a ?_))))
 refine ⟨?_⟩
 refine h0o ?_
 have hab : a &&& b < 65536 := Nat.lt_of_le_of_lt Nat.and_le_left ha
 refine h2i (γ:=Nat) (fun i => i ≤ 16) (fun i => 16 - i) (fun i => [(6, .int .i64 (i : Nat)), (5, .int .i64 (((a &&& b) % 2 ^ i : Nat) : Int))]) [(0, _), (1, _)]
  (fun _ => L) 0 (.cons rfl (.cons rfl .nil)) (Nat.zero_le _) (by (focus (repeat (first | exact Sub.nil | refine Sub.cons rfl ?_ | (refine Sub.cons (congrArg some ?_) ?_; (focus go_num)))))) c_20 ?_
 intro i hi
 (try dsimp only)
 by_cases hlt : i < 16
 ·have h1 := fun (L : List Blk) => Rg.rhas_c (S:=S) (w0:=w0) (L:=L) a i ha (by omega)
  have h2 := fun (L : List Blk) => Rg.rhas_c (S:=S) (w0:=w0) (L:=L) b i hb (by omega)
  have h3 := fun (L : List Blk) => Rg.power_c (S:=S) (w0:=w0) (L:=L) i (by omega)
  have hm := mod_bit (a &&& b) i
  have hl := Nat.mod_le (a &&& b) (2 ^ i)
  have hle : 2 ^ i ≤ 2 ^ 16 := Nat.pow_le_pow_right (by omega) (by omega)
  rw [Nat.testBit_and] at hm
  cases hta : a.testBit i with
  | false =>
   rw [hta] at h1 hm
   repeat' (first | refine h0t ?_ | refine h0e ?_ | refine h1d ?_ | refine h1h ?_ | refine h0o ?_ | refine h1a ?_ | refine h0l rfl ?_ | refine h0m rfl ?_ | (refine gR 3 (p_m (h:=p_e (q_b (r:=by exact h0q q_o)) (h:=h0a ?_)))) | (refine gR 5 (p_m (h:=q_m ?_)) <;> (try refine h0b ?_; (refine q_c 40 (c:=by apply h1) (h:=?_); rintro _ _ ⟨rfl, rfl⟩; (try simp only [zzE, zzF]))) <;> (try refine p_m (h:=p_z (h:=p_z (h:=p_z (h:=p_p (h:=h0a ?_))))))) | (refine gR 4 (q_m ?_) <;> (try refine q_e (q_b (r:=by apply h1q; exact c_4; (focus (refine IntWalk.i64_in _ ?_; omega)))) ?_) <;> (try refine p_a (h:=h0a ?_))))
   exact h1p (i + 1) ⟨by show i + 1 ≤ 16; omega, by show 16 - (i + 1) < 16 - i; omega⟩ (by (try dsimp only); rw [hm]; simp only [Bool.false_and, Bool.false_eq_true, if_false, Nat.add_zero]; (focus (repeat (first | exact Sub.nil | refine Sub.cons rfl ?_)))) c_20
  | true =>
   rw [hta] at h1 hm
   cases htb : b.testBit i with
   | false =>
    rw [htb] at h2 hm
    repeat' (first | refine h0t ?_ | refine h0e ?_ | refine h1d ?_ | refine h1h ?_ | refine h0o ?_ | refine h1a ?_ | refine h0l rfl ?_ | refine h0m rfl ?_ | (refine gR 3 (p_m (h:=p_e (q_b (r:=by exact h0q q_o)) (h:=h0a ?_)))) | (refine gR 5 (p_m (h:=q_m ?_)) <;> (try refine h0b ?_; (refine q_c 40 (c:=by apply h1) (h:=?_); rintro _ _ ⟨rfl, rfl⟩; (try simp only [zzE, zzF]))) <;> (try refine p_m (h:=p_y (h0g rfl) (h:=q_y (h0g rfl) ?_))) <;> (try refine h0b ?_; (refine h0f rfl rfl rfl ?_; (refine q_c 40 (c:=by apply h2) (h:=?_); rintro _ _ ⟨rfl, rfl⟩; (try simp only [zzE, zzF])))) <;> (try refine p_p (h:=h0a ?_))) | (refine gR 4 (q_m ?_) <;> (try refine q_e (q_b (r:=by apply h1q; exact c_4; (focus (refine IntWalk.i64_in _ ?_; omega)))) ?_) <;> (try refine p_a (h:=h0a ?_))))
    all_goals (exact h1p (i + 1) ⟨by show i + 1 ≤ 16; omega, by show 16 - (i + 1) < 16 - i; omega⟩ (by (try dsimp only); rw [hm]; simp only [Bool.true_and, Bool.false_eq_true, if_false, Nat.add_zero]; (focus (repeat (first | exact Sub.nil | refine Sub.cons rfl ?_)))) c_20)
   | true =>
    rw [htb] at h2 hm
    simp only [Bool.true_and, if_true] at hm
    have hm2 := Lib.hid hm
    clear hm
    generalize 2 ^ i = p at *
    repeat' (first | refine h0t ?_ | refine h0e ?_ | refine h1d ?_ | refine h1h ?_ | refine h0o ?_ | refine h1a ?_ | refine h0l rfl ?_ | (refine gR 3 (p_m (h:=p_e (q_b (r:=by exact h0q q_o)) (h:=h0a ?_)))) | (refine gR 5 (p_m (h:=q_m ?_)) <;> (try refine h0b ?_; (refine q_c 40 (c:=by apply h1) (h:=?_); rintro _ _ ⟨rfl, rfl⟩; (try simp only [zzE, zzF]))) <;> (try refine p_m (h:=p_y (h0g rfl) (h:=q_y (h0g rfl) ?_))) <;> (try refine h0b ?_; (refine h0f rfl rfl rfl ?_; (refine q_c 40 (c:=by apply h2) (h:=?_); rintro _ _ ⟨rfl, rfl⟩; (try simp only [zzE, zzF])))) <;> (try refine p_p (h:=h0a ?_))) | (refine gR 6 (p_m (h:=q_m ?_)) <;> (try refine h0b ?_; (refine q_c 41 (c:=by apply h3) (h:=?_); rintro _ _ ⟨rfl, rfl⟩; (try simp only [zzE, zzF]))) <;> (try refine q_e (q_b (r:=by apply h1q; exact c_4; (focus (refine IntWalk.i64_in _ ?_; omega)))) ?_) <;> (try refine p_a (h:=h0a ?_))) | (refine gR 4 (q_m ?_) <;> (try refine q_e (q_b (r:=by apply h1q; exact c_4; (focus (refine IntWalk.i64_in _ ?_; omega)))) ?_) <;> (try refine p_a (h:=h0a ?_))))
    exact h1p (i + 1) ⟨by show i + 1 ≤ 16; omega, by show 16 - (i + 1) < 16 - i; omega⟩ (by (try dsimp only); rw [hm2.out]; (focus (repeat (first | exact Sub.nil | refine Sub.cons rfl ?_)))) c_20
 ·obtain rfl : i = 16 := by omega
  have e : (a &&& b) % 2 ^ 16 = a &&& b := Nat.mod_eq_of_lt hab
  rw [e]
  repeat' (first | refine h0t ?_ | refine h0e ?_ | refine h1w ?_ | refine h1o ?_ | refine h1v ?_ | refine h2j ?_ | refine h1e ?_ | refine h0m rfl ?_ | (refine gR 3 (p_m (h:=p_e (q_b (r:=by exact h0r q_o)) (h:=h0a ?_)))) | (refine gR 7 (p_m (h:=p_a (h:=h0a ?_)))))
  (refine h0z Tryd.results31 (.tmp rfl .nil) ?_)
  exact ⟨_, ⟨rfl, rfl⟩, by intro w H; refine H.sub ?_; (try simp only [zzC, zzN]); repeat (exact List.Sublist.refl _)⟩
theorem iandn_mod (a : Int) (h : 0 ≤ a) : h3e a 65535 = a / 65536 * 65536 ∧ iand a 65535 = a % 65536 := by
 obtain ⟨n, rfl⟩ := Int.eq_ofNat_of_zero_le h
 unfold h3e iand
 rw [Int.toNat_natCast, show (65535 : Int).toNat = 65535 from rfl]
 have e1 : n &&& 65535 = n % 65536 := Nat.and_two_pow_sub_one_eq_mod n 16
 rw [e1, xor_mod]
 omega
theorem actOk_iff (a : Int) (h : 0 ≤ a ∧ a < 4294967296) : h4b a = decide (a = 2147483648 ∨ a = 2147221504 ∨ a = 2147418112 ∨ (327680 < a ∧ a ≤ 331775)) := by
 obtain ⟨h1, h2⟩ := iandn_mod a h.1
 unfold h4b
 apply decide_eq_decide.2
 unfold kndA
 rw [h1, h2]
 constructor
 ·rintro (h | h | h | ⟨h3, h4, h5⟩)
  ·exact .inl h
  ·exact .inr (.inl h)
  ·exact .inr (.inr (.inl h))
  ·split at h3
   ·exact .inr (.inr (.inr (by omega)))
   ·omega
 ·rintro (h | h | h | ⟨h3, h4⟩)
  ·exact .inl h
  ·exact .inr (.inl h)
  ·exact .inr (.inr (.inl h))
  ·have e : a / 65536 * 65536 = 327680 := by omega
   refine .inr (.inr (.inr ⟨?_, by omega, by omega⟩))
   rw [if_pos (.inl e), e]
theorem ract_c {S w0 L} (a : Int) (h : 0 ≤ a ∧ a < 4294967296) : Fn Tryd.prog 27 #[.int .u32 a] S w0 L fun v L' => v = .bool (h4b a) ∧ L = L' := by
 rw [actOk_iff a h]
 have key : ∀ (b : Bool), decide (a = 2147483648 ∨ a = 2147221504 ∨ a = 2147418112 ∨ (327680 < a ∧ a ≤ 331775)) = b → Fn Tryd.prog 27 #[.int .u32 a] S w0 L (fun v L' => v = .bool b ∧ L = L') → Fn Tryd.prog 27 #[.int .u32 a] S w0 L (fun v L' => v = .bool (decide (a = 2147483648 ∨ a = 2147221504 ∨ a = 2147418112 ∨ (327680 < a ∧ a ≤ 331775))) ∧ L = L') := by
  intro b hb hf; rw [hb]; exact hf
 by_cases c1 : a = 2147483648
 ·refine key true (decide_eq_true (by omega)) ?_
  subst c1
  refine Fn1 Tryd.func27 Tryd.ntmps27 rfl rfl ?_
  repeat' (first | refine h0t ?_ | refine h0e ?_ | refine h0x ?_ | refine h1e ?_ | refine h0l rfl ?_ | (refine gR 0 (p_a (h:=h0a ?_))) | (refine gR 1 (q_m ?_) <;> (try refine q_e (by exact q_b (r:=by refine h1l ?_; first | rfl | (with_reducible assumption) | (decide; done) | omega)) ?_) <;> (try refine p_m (h:=p_z (h:=p_z (h:=p_p (h:=p_m (h:=p_z (h:=p_z (h:=p_p (h:=h0a ?_)))))))))) | (refine gR 2 (p_a (h:=h0a ?_))))
  (refine h0z Tryd.results27 (.tmp rfl .nil) ?_)
  exact ⟨_, ⟨rfl, rfl⟩, by intro w H; refine H.sub ?_; (try simp only [zzC, zzN]); repeat (exact List.Sublist.refl _)⟩
 by_cases c2 : a = 2147221504
 ·refine key true (decide_eq_true (by omega)) ?_
  subst c2
  refine Fn1 Tryd.func27 Tryd.ntmps27 rfl rfl ?_
  repeat' (first | refine h0t ?_ | refine h0e ?_ | refine h0x ?_ | refine h1e ?_ | refine h0l rfl ?_ | (refine gR 0 (p_a (h:=h0a ?_))) | (refine gR 1 (p_m (h:=p_e (q_b (r:=by exact h0y q_o)) (h:=p_m (h:=q_y (h0g rfl) ?_)))) <;> (try refine q_y (by exact q_b (r:=by refine h1l ?_; first | rfl | (with_reducible assumption) | (decide; done) | omega)) ?_) <;> (try refine p_p (h:=p_m (h:=p_z (h:=p_z (h:=p_p (h:=h0a ?_))))))) | (refine gR 2 (p_a (h:=h0a ?_))))
  (refine h0z Tryd.results27 (.tmp rfl .nil) ?_)
  exact ⟨_, ⟨rfl, rfl⟩, by intro w H; refine H.sub ?_; (try simp only [zzC, zzN]); repeat (exact List.Sublist.refl _)⟩
 by_cases c3 : a = 2147418112
 ·refine key true (decide_eq_true (by omega)) ?_
  subst c3
  refine Fn1 Tryd.func27 Tryd.ntmps27 rfl rfl ?_
  repeat' (first | refine h0t ?_ | refine h0e ?_ | refine h0x ?_ | refine h1e ?_ | refine h0l rfl ?_ | (refine gR 0 (p_a (h:=h0a ?_))) | (refine gR 1 (p_m (h:=p_e (q_b (r:=by exact h0y q_o)) (h:=p_m (h:=p_y (h0g rfl) (h:=p_y (q_b (r:=by exact h0y q_o)) (h:=p_p (h:=p_m (h:=q_y (h0g rfl) ?_)))))))) <;> (try refine q_y (by exact q_b (r:=by refine h1l ?_; first | rfl | (with_reducible assumption) | (decide; done) | omega)) ?_) <;> (try refine p_p (h:=h0a ?_))) | (refine gR 2 (p_a (h:=h0a ?_))))
  (refine h0z Tryd.results27 (.tmp rfl .nil) ?_)
  exact ⟨_, ⟨rfl, rfl⟩, by intro w H; refine H.sub ?_; (try simp only [zzC, zzN]); repeat (exact List.Sublist.refl _)⟩
 by_cases c4 : 327680 < a
 ·by_cases c5 : a ≤ 331775
  ·refine key true (decide_eq_true (by omega)) ?_
   refine Fn1 Tryd.func27 Tryd.ntmps27 rfl rfl ?_
   repeat' (first | refine h0t ?_ | refine h0e ?_ | refine h1a ?_ | refine h1e ?_ | refine h0m rfl ?_ | (refine gR 0 (p_a (h:=h0a ?_))) | (refine gR 1 (p_m (h:=p_e (q_b (r:=by exact h0y q_o)) (h:=p_m (h:=p_y (h0g rfl) (h:=p_y (q_b (r:=by exact h0y q_o)) (h:=p_p (h:=p_m (h:=p_y (h0g rfl) (h:=p_y (q_b (r:=by exact h0y q_o)) (h:=p_p (h:=h0a ?_)))))))))))) | (refine gR 3 (p_m (h:=p_e (q_b (r:=by exact h1c q_o)) (h:=p_m (h:=p_y (h0g rfl) (h:=p_y (q_b (r:=by exact h1u q_o)) (h:=p_p (h:=p_a (h:=h0a ?_))))))))))
   (refine h0z Tryd.results27 (.tmp rfl .nil) ?_)
   exact ⟨_, ⟨rfl, rfl⟩, by intro w H; refine H.sub ?_; (try simp only [zzC, zzN]); repeat (exact List.Sublist.refl _)⟩
  ·refine key false (decide_eq_false (by omega)) ?_
   refine Fn1 Tryd.func27 Tryd.ntmps27 rfl rfl ?_
   repeat' (first | refine h0t ?_ | refine h0e ?_ | refine h1a ?_ | refine h1e ?_ | refine h0m rfl ?_ | (refine gR 0 (p_a (h:=h0a ?_))) | (refine gR 1 (p_m (h:=p_e (q_b (r:=by exact h0y q_o)) (h:=p_m (h:=p_y (h0g rfl) (h:=p_y (q_b (r:=by exact h0y q_o)) (h:=p_p (h:=p_m (h:=p_y (h0g rfl) (h:=p_y (q_b (r:=by exact h0y q_o)) (h:=p_p (h:=h0a ?_)))))))))))) | (refine gR 3 (p_m (h:=p_e (q_b (r:=by exact h1c q_o)) (h:=p_m (h:=p_y (h0g rfl) (h:=p_y (q_b (r:=by exact h2l q_o)) (h:=p_p (h:=p_a (h:=h0a ?_))))))))))
   (refine h0z Tryd.results27 (.tmp rfl .nil) ?_)
   exact ⟨_, ⟨rfl, rfl⟩, by intro w H; refine H.sub ?_; (try simp only [zzC, zzN]); repeat (exact List.Sublist.refl _)⟩
 ·refine key false (decide_eq_false (by omega)) ?_
  refine Fn1 Tryd.func27 Tryd.ntmps27 rfl rfl ?_
  repeat' (first | refine h0t ?_ | refine h0e ?_ | refine h1a ?_ | refine h1e ?_ | refine h0m rfl ?_ | (refine gR 0 (p_a (h:=h0a ?_))) | (refine gR 1 (p_m (h:=p_e (q_b (r:=by exact h0y q_o)) (h:=p_m (h:=p_y (h0g rfl) (h:=p_y (q_b (r:=by exact h0y q_o)) (h:=p_p (h:=p_m (h:=p_y (h0g rfl) (h:=p_y (q_b (r:=by exact h0y q_o)) (h:=p_p (h:=h0a ?_)))))))))))) | (refine gR 3 (p_m (h:=p_e (q_b (r:=by exact h0u q_o)) (h:=p_m (h:=p_z (h:=p_z (h:=p_p (h:=p_a (h:=h0a ?_))))))))))
  (refine h0z Tryd.results27 (.tmp rfl .nil) ?_)
  exact ⟨_, ⟨rfl, rfl⟩, by intro w H; refine H.sub ?_; (try simp only [zzC, zzN]); repeat (exact List.Sublist.refl _)⟩
theorem xor_zero {a b : Nat} (h : a ^^^ b = 0) : a = b := by
 apply Nat.eq_of_testBit_eq
 intro i
 have := congrArg (fun n => n.testBit i) h
 simp only [Nat.testBit_xor, Nat.zero_testBit] at this
 revert this
 cases a.testBit i <;> cases b.testBit i <;> simp
theorem iandn_zero (n m : Nat) : h3e (n : Int) (m : Int) = 0 ↔ iand (n : Int) (m : Int) = (n : Int) := by
 unfold h3e iand
 rw [Int.toNat_natCast, Int.toNat_natCast]
 constructor
 ·intro h
  have h2 : n ^^^ (n &&& m) = 0 := by omega
  rw [← xor_zero h2]
 ·intro h
  have h2 : n &&& m = n := by omega
  rw [h2, Nat.xor_self]; rfl
theorem rcond_c {S w0 L} (c : GCnd) (h : c.ok) : Fn Tryd.prog 12 #[.agg c.rc.toArray] S w0 L fun v L' => v = .int .i64 (chkC c : Nat) ∧ L = L' := by
 obtain ⟨a, o, m, x⟩ := c
 obtain ⟨h1, h2, h3, h4⟩ := h
 have key : ∀ k : Nat, chkC ⟨a, o, m, x⟩ = k → Fn Tryd.prog 12 #[.agg (GCnd.rc ⟨a, o, m, x⟩).toArray] S w0 L (fun v L' => v = .int .i64 (k : Nat) ∧ L = L') → Fn Tryd.prog 12 #[.agg (GCnd.rc ⟨a, o, m, x⟩).toArray] S w0 L fun v L' => v = .int .i64 (chkC ⟨a, o, m, x⟩ : Nat) ∧ L = L' := by
  intro k hk hf; rw [hk]; exact hf
 dsimp only [GCnd.rc] at *
 by_cases c1 : a < 0
 ·refine key 204 (by unfold chkC; rw [if_pos (Or.inl c1)]) ?_
  refine Fn1 Tryd.func12 Tryd.ntmps12 rfl rfl ?_
  repeat' (first | refine h0t ?_ | refine h0e ?_ | refine h0x ?_ | refine h1e ?_ | refine h0l rfl ?_ | (refine gR 0 ?_ <;> (try refine h0b ?_; (refine h2c (t:=65) rfl rfl ?_; intro nb hnb; (try simp only [Value.cells]))) <;> (try refine p_a (h:=h0a ?_))) | (refine gR 1 (p_e (q_f h3v) (h:=p_e q_l (h:=p_e (q_b (r:=by exact h0q q_o)) (h:=p_m (h:=p_z (h:=p_z (h:=p_z (h:=p_p (h:=h0a ?_)))))))))) | (refine gR 2 (p_a (h:=h0a ?_))))
  (refine h0z Tryd.results12 (.tmp rfl .nil) ?_)
  exact ⟨_, ⟨rfl, rfl⟩, by intro w H; refine H.sub ?_; (try simp only [zzC, zzN]); repeat (first | exact List.Sublist.refl _ | refine List.Sublist.cons _ ?_)⟩
 by_cases c2 : 5 < a
 ·refine key 204 (by unfold chkC; rw [if_pos (Or.inr c2)]) ?_
  refine Fn1 Tryd.func12 Tryd.ntmps12 rfl rfl ?_
  repeat' (first | refine h0t ?_ | refine h0e ?_ | refine h0x ?_ | refine h1e ?_ | refine h0l rfl ?_ | (refine gR 0 ?_ <;> (try refine h0b ?_; (refine h2c (t:=65) rfl rfl ?_; intro nb hnb; (try simp only [Value.cells]))) <;> (try refine p_a (h:=h0a ?_))) | (refine gR 1 (p_e (q_f h3v) (h:=p_e q_l (h:=p_e (q_b (r:=by exact h0r q_o)) (h:=p_m (h:=p_y (q_f h3v) (h:=p_y q_l (h:=p_y (q_b (r:=by exact h1c q_o)) (h:=p_p (h:=h0a ?_)))))))))) | (refine gR 2 (p_a (h:=h0a ?_))))
  (refine h0z Tryd.results12 (.tmp rfl .nil) ?_)
  exact ⟨_, ⟨rfl, rfl⟩, by intro w H; refine H.sub ?_; (try simp only [zzC, zzN]); repeat (first | exact List.Sublist.refl _ | refine List.Sublist.cons _ ?_)⟩
 have n1 : ¬ (a < 0 ∨ 5 < a) := fun h => h.elim c1 c2
 by_cases c3 : o < 1
 ·refine key 210 (by unfold chkC; rw [if_neg n1, if_pos (Or.inl c3)]) ?_
  refine Fn1 Tryd.func12 Tryd.ntmps12 rfl rfl ?_
  repeat' (first | refine h0t ?_ | refine h0e ?_ | refine h0x ?_ | refine h1a ?_ | refine h1e ?_ | refine h0l rfl ?_ | refine h0m rfl ?_ | (refine gR 0 ?_ <;> (try refine h0b ?_; (refine h2c (t:=65) rfl rfl ?_; intro nb hnb; (try simp only [Value.cells]))) <;> (try refine p_a (h:=h0a ?_))) | (refine gR 1 (p_e (q_f h3v) (h:=p_e q_l (h:=p_e (q_b (r:=by exact h0r q_o)) (h:=p_m (h:=p_y (q_f h3v) (h:=p_y q_l (h:=p_y (q_b (r:=by exact h0u q_o)) (h:=p_p (h:=h0a ?_)))))))))) | (refine gR 3 (p_e (q_f h2y) (h:=p_e q_l (h:=p_e (q_b (r:=by exact h0q q_o)) (h:=p_m (h:=p_z (h:=p_z (h:=p_z (h:=p_p (h:=h0a ?_)))))))))) | (refine gR 4 (p_a (h:=h0a ?_))))
  (refine h0z Tryd.results12 (.tmp rfl .nil) ?_)
  exact ⟨_, ⟨rfl, rfl⟩, by intro w H; refine H.sub ?_; (try simp only [zzC, zzN]); repeat (first | exact List.Sublist.refl _ | refine List.Sublist.cons _ ?_)⟩
 by_cases c4 : 7 < o
 ·refine key 210 (by unfold chkC; rw [if_neg n1, if_pos (Or.inr c4)]) ?_
  refine Fn1 Tryd.func12 Tryd.ntmps12 rfl rfl ?_
  repeat' (first | refine h0t ?_ | refine h0e ?_ | refine h0x ?_ | refine h1a ?_ | refine h1e ?_ | refine h0l rfl ?_ | refine h0m rfl ?_ | (refine gR 0 ?_ <;> (try refine h0b ?_; (refine h2c (t:=65) rfl rfl ?_; intro nb hnb; (try simp only [Value.cells]))) <;> (try refine p_a (h:=h0a ?_))) | (refine gR 1 (p_e (q_f h3v) (h:=p_e q_l (h:=p_e (q_b (r:=by exact h0r q_o)) (h:=p_m (h:=p_y (q_f h3v) (h:=p_y q_l (h:=p_y (q_b (r:=by exact h0u q_o)) (h:=p_p (h:=h0a ?_)))))))))) | (refine gR 3 (p_e (q_f h2y) (h:=p_e q_l (h:=p_e (q_b (r:=by exact h0r q_o)) (h:=p_m (h:=p_y (q_f h2y) (h:=p_y q_l (h:=p_y (q_b (r:=by exact h1c q_o)) (h:=p_p (h:=h0a ?_)))))))))) | (refine gR 4 (p_a (h:=h0a ?_))))
  (refine h0z Tryd.results12 (.tmp rfl .nil) ?_)
  exact ⟨_, ⟨rfl, rfl⟩, by intro w H; refine H.sub ?_; (try simp only [zzC, zzN]); repeat (first | exact List.Sublist.refl _ | refine List.Sublist.cons _ ?_)⟩
 have n2 : ¬ (o < 1 ∨ 7 < o) := fun h => h.elim c3 c4
 by_cases c5 : o = 7
 ·subst c5
  by_cases c6 : m = 0
  ·refine key 204 (by unfold chkC; rw [if_neg n1, if_neg n2, if_neg (fun h => h.1 rfl), if_pos ⟨rfl, .inl c6⟩]) ?_
   subst c6
   refine Fn1 Tryd.func12 Tryd.ntmps12 rfl rfl ?_
   repeat' (first | refine h0t ?_ | refine h0e ?_ | refine h0x ?_ | refine h1a ?_ | refine h1e ?_ | refine h0l rfl ?_ | refine h0m rfl ?_ | (refine gR 0 ?_ <;> (try refine h0b ?_; (refine h2c (t:=65) rfl rfl ?_; intro nb hnb; (try simp only [Value.cells]))) <;> (try refine p_a (h:=h0a ?_))) | (refine gR 1 (p_e (q_f h3v) (h:=p_e q_l (h:=p_e (q_b (r:=by exact h0r q_o)) (h:=p_m (h:=p_y (q_f h3v) (h:=p_y q_l (h:=p_y (q_b (r:=by exact h0u q_o)) (h:=p_p (h:=h0a ?_)))))))))) | (refine gR 3 (p_e (q_f h2y) (h:=p_e q_l (h:=p_e (q_b (r:=by exact h0r q_o)) (h:=p_m (h:=p_y (q_f h2y) (h:=p_y q_l (h:=p_y (q_b (r:=by exact h0u q_o)) (h:=p_p (h:=h0a ?_)))))))))) | (refine gR 5 (p_e (q_f h2y) (h:=q_e q_l ?_)) <;> (try refine q_e (by exact q_b (r:=by refine h1g ?_; first | rfl | (with_reducible assumption) | (decide; done) | omega)) ?_) <;> (try refine p_m (h:=p_z (h:=p_z (h:=p_z (h:=p_p (h:=h0a ?_))))))) | (refine gR 7 (p_e (q_f h2y) (h:=q_e q_l ?_)) <;> (try refine q_e (by exact q_b (r:=by refine h1l ?_; first | rfl | (with_reducible assumption) | (decide; done) | omega)) ?_) <;> (try refine p_m (h:=p_y (q_f fo_65_2) (h:=q_y q_l ?_))) <;> (try refine q_y (by exact q_b (r:=by refine h1l ?_; first | rfl | (with_reducible assumption) | (decide; done) | omega)) ?_) <;> (try refine p_y (h0g rfl) (h:=p_z (h:=p_z (h:=p_z (h:=p_z (h:=p_z (h:=p_z (h:=p_z (h:=p_z (h:=p_y (h1i rfl rfl) (h:=p_p (h:=h0a ?_))))))))))))) | (refine gR 8 (p_a (h:=h0a ?_))))
   (refine h0z Tryd.results12 (.tmp rfl .nil) ?_)
   exact ⟨_, ⟨rfl, rfl⟩, by intro w H; refine H.sub ?_; (try simp only [zzC, zzN]); repeat (first | exact List.Sublist.refl _ | refine List.Sublist.cons _ ?_)⟩
  have hz := iandn_zero x m
  by_cases c7 : h3e (x : Int) (m : Int) = 0
  ·refine key 0 (by unfold chkC; rw [if_neg n1, if_neg n2, if_neg (fun h => h.1 rfl), if_neg (fun h => h.2.elim c6 (fun h => h c7))]) ?_
   have c8 := hz.1 c7
   clear hz c7
   refine Fn1 Tryd.func12 Tryd.ntmps12 rfl rfl ?_
   repeat' (first | refine h0t ?_ | refine h0e ?_ | refine h1a ?_ | refine h1e ?_ | refine h0m rfl ?_ | (refine gR 0 ?_ <;> (try refine h0b ?_; (refine h2c (t:=65) rfl rfl ?_; intro nb hnb; (try simp only [Value.cells]))) <;> (try refine p_a (h:=h0a ?_))) | (refine gR 1 (p_e (q_f h3v) (h:=p_e q_l (h:=p_e (q_b (r:=by exact h0r q_o)) (h:=p_m (h:=p_y (q_f h3v) (h:=p_y q_l (h:=p_y (q_b (r:=by exact h0u q_o)) (h:=p_p (h:=h0a ?_)))))))))) | (refine gR 3 (p_e (q_f h2y) (h:=p_e q_l (h:=p_e (q_b (r:=by exact h0r q_o)) (h:=p_m (h:=p_y (q_f h2y) (h:=p_y q_l (h:=p_y (q_b (r:=by exact h0u q_o)) (h:=p_p (h:=h0a ?_)))))))))) | (refine gR 5 (p_e (q_f h2y) (h:=q_e q_l ?_)) <;> (try refine q_e (by exact q_b (r:=by refine h1g ?_; first | rfl | (with_reducible assumption) | (decide; done) | omega)) ?_) <;> (try refine p_m (h:=p_z (h:=p_z (h:=p_z (h:=p_p (h:=h0a ?_))))))) | (refine gR 7 (p_e (q_f h2y) (h:=q_e q_l ?_)) <;> (try refine q_e (by exact q_b (r:=by refine h1l ?_; first | rfl | (with_reducible assumption) | (decide; done) | omega)) ?_) <;> (try refine p_m (h:=p_y (q_f fo_65_2) (h:=p_y q_l (h:=p_y (q_b (r:=by exact h0y q_o)) (h:=p_y (h0g rfl) (h:=p_y (q_f fo_65_3) (h:=p_y q_l (h:=p_y (q_f fo_65_2) (h:=q_y q_l ?_))))))))) <;> (try refine q_y (q_b (r:=by refine rb_and ?_ ?_; (focus (refine ⟨rfl, ⟨?_, ?_⟩⟩; omega; (focus (simp only [IntKind.bits]; omega)))); (focus (refine ⟨rfl, ⟨?_, ?_⟩⟩; omega; (focus (simp only [IntKind.bits]; omega)))))) ?_) <;> (try refine p_y (q_f fo_65_3) (h:=q_y q_l ?_)) <;> (try refine q_y (by exact q_b (r:=by refine h1g ?_; first | rfl | (with_reducible assumption) | (decide; done) | omega)) ?_) <;> (try refine p_y (h1i rfl rfl) (h:=p_p (h:=h0a ?_)))) | (refine gR 9 (p_a (h:=h0a ?_))))
   all_goals (refine h0z Tryd.results12 (.tmp rfl .nil) ?_)
   all_goals (exact ⟨_, ⟨rfl, rfl⟩, by intro w H; refine H.sub ?_; (try simp only [zzC, zzN]); repeat (first | exact List.Sublist.refl _ | refine List.Sublist.cons _ ?_)⟩)
  ·refine key 204 (by unfold chkC; rw [if_neg n1, if_neg n2, if_neg (fun h => h.1 rfl), if_pos ⟨rfl, .inr c7⟩]) ?_
   have c8 : ¬ iand (x : Int) (m : Int) = (x : Int) := fun h => c7 (hz.2 h)
   clear hz c7
   refine Fn1 Tryd.func12 Tryd.ntmps12 rfl rfl ?_
   repeat' (first | refine h0t ?_ | refine h0e ?_ | refine h0x ?_ | refine h1a ?_ | refine h1e ?_ | refine h0l rfl ?_ | refine h0m rfl ?_ | (refine gR 0 ?_ <;> (try refine h0b ?_; (refine h2c (t:=65) rfl rfl ?_; intro nb hnb; (try simp only [Value.cells]))) <;> (try refine p_a (h:=h0a ?_))) | (refine gR 1 (p_e (q_f h3v) (h:=p_e q_l (h:=p_e (q_b (r:=by exact h0r q_o)) (h:=p_m (h:=p_y (q_f h3v) (h:=p_y q_l (h:=p_y (q_b (r:=by exact h0u q_o)) (h:=p_p (h:=h0a ?_)))))))))) | (refine gR 3 (p_e (q_f h2y) (h:=p_e q_l (h:=p_e (q_b (r:=by exact h0r q_o)) (h:=p_m (h:=p_y (q_f h2y) (h:=p_y q_l (h:=p_y (q_b (r:=by exact h0u q_o)) (h:=p_p (h:=h0a ?_)))))))))) | (refine gR 5 (p_e (q_f h2y) (h:=q_e q_l ?_)) <;> (try refine q_e (by exact q_b (r:=by refine h1g ?_; first | rfl | (with_reducible assumption) | (decide; done) | omega)) ?_) <;> (try refine p_m (h:=p_z (h:=p_z (h:=p_z (h:=p_p (h:=h0a ?_))))))) | (refine gR 7 (p_e (q_f h2y) (h:=q_e q_l ?_)) <;> (try refine q_e (by exact q_b (r:=by refine h1l ?_; first | rfl | (with_reducible assumption) | (decide; done) | omega)) ?_) <;> (try refine p_m (h:=p_y (q_f fo_65_2) (h:=p_y q_l (h:=p_y (q_b (r:=by exact h0y q_o)) (h:=p_y (h0g rfl) (h:=p_y (q_f fo_65_3) (h:=p_y q_l (h:=p_y (q_f fo_65_2) (h:=q_y q_l ?_))))))))) <;> (try refine q_y (q_b (r:=by refine rb_and ?_ ?_; (focus (refine ⟨rfl, ⟨?_, ?_⟩⟩; omega; (focus (simp only [IntKind.bits]; omega)))); (focus (refine ⟨rfl, ⟨?_, ?_⟩⟩; omega; (focus (simp only [IntKind.bits]; omega)))))) ?_) <;> (try refine p_y (q_f fo_65_3) (h:=p_y q_l (h:=p_y (q_b (r:=by exact h1k q_o)) (h:=p_y (h1i rfl rfl) (h:=p_p (h:=h0a ?_))))))) | (refine gR 8 (p_a (h:=h0a ?_))))
   all_goals (refine h0z Tryd.results12 (.tmp rfl .nil) ?_)
   all_goals (exact ⟨_, ⟨rfl, rfl⟩, by intro w H; refine H.sub ?_; (try simp only [zzC, zzN]); repeat (first | exact List.Sublist.refl _ | refine List.Sublist.cons _ ?_)⟩)
 by_cases c6 : m = 0
 ·refine key 0 (by unfold chkC; rw [if_neg n1, if_neg n2, if_neg (fun h => h.2 c6), if_neg (fun h => c5 h.1)]) ?_
  subst c6
  refine Fn1 Tryd.func12 Tryd.ntmps12 rfl rfl ?_
  repeat' (first | refine h0t ?_ | refine h0e ?_ | refine h1a ?_ | refine h1e ?_ | refine h0m rfl ?_ | (refine gR 0 ?_ <;> (try refine h0b ?_; (refine h2c (t:=65) rfl rfl ?_; intro nb hnb; (try simp only [Value.cells]))) <;> (try refine p_a (h:=h0a ?_))) | (refine gR 1 (p_e (q_f h3v) (h:=p_e q_l (h:=p_e (q_b (r:=by exact h0r q_o)) (h:=p_m (h:=p_y (q_f h3v) (h:=p_y q_l (h:=p_y (q_b (r:=by exact h0u q_o)) (h:=p_p (h:=h0a ?_)))))))))) | (refine gR 3 (p_e (q_f h2y) (h:=p_e q_l (h:=p_e (q_b (r:=by exact h0r q_o)) (h:=p_m (h:=p_y (q_f h2y) (h:=p_y q_l (h:=p_y (q_b (r:=by exact h0u q_o)) (h:=p_p (h:=h0a ?_)))))))))) | (refine gR 5 (p_e (q_f h2y) (h:=p_e q_l (h:=p_e (q_b (r:=by exact h1k q_o)) (h:=p_m (h:=p_y (q_f fo_65_2) (h:=q_y q_l ?_)))))) <;> (try refine q_y (by exact q_b (r:=by refine h1g ?_; first | rfl | (with_reducible assumption) | (decide; done) | omega)) ?_) <;> (try refine p_p (h:=h0a ?_))) | (refine gR 7 (p_e (q_f h2y) (h:=p_e q_l (h:=p_e (q_b (r:=by exact h0y q_o)) (h:=p_m (h:=p_z (h:=p_z (h:=p_z (h:=q_z ?_)))))))) <;> (try refine h0b ?_; (refine h0p rfl rfl rfl ?_)) <;> (try refine h0b ?_; (refine h0p rfl rfl rfl ?_)) <;> (try refine h0b ?_; (refine h0p rfl rfl rfl ?_)) <;> (try refine h0b ?_; (refine h0p rfl rfl rfl ?_)) <;> (try refine h0b ?_; (refine h0p rfl rfl rfl ?_)) <;> (try refine h0b ?_; (refine h0p rfl rfl rfl ?_)) <;> (try refine h0b ?_; (refine h0p rfl rfl rfl ?_)) <;> (try refine h0b ?_; (refine h0p rfl rfl rfl ?_)) <;> (try refine p_z (h:=p_p (h:=h0a ?_)))) | (refine gR 9 (p_a (h:=h0a ?_))))
  (refine h0z Tryd.results12 (.tmp rfl .nil) ?_)
  exact ⟨_, ⟨rfl, rfl⟩, by intro w H; refine H.sub ?_; (try simp only [zzC, zzN]); repeat (first | exact List.Sublist.refl _ | refine List.Sublist.cons _ ?_)⟩
 ·refine key 203 (by unfold chkC; rw [if_neg n1, if_neg n2, if_pos ⟨c5, c6⟩]) ?_
  refine Fn1 Tryd.func12 Tryd.ntmps12 rfl rfl ?_
  repeat' (first | refine h0t ?_ | refine h0e ?_ | refine h0x ?_ | refine h1a ?_ | refine h1e ?_ | refine h0l rfl ?_ | refine h0m rfl ?_ | (refine gR 0 ?_ <;> (try refine h0b ?_; (refine h2c (t:=65) rfl rfl ?_; intro nb hnb; (try simp only [Value.cells]))) <;> (try refine p_a (h:=h0a ?_))) | (refine gR 1 (p_e (q_f h3v) (h:=p_e q_l (h:=p_e (q_b (r:=by exact h0r q_o)) (h:=p_m (h:=p_y (q_f h3v) (h:=p_y q_l (h:=p_y (q_b (r:=by exact h0u q_o)) (h:=p_p (h:=h0a ?_)))))))))) | (refine gR 3 (p_e (q_f h2y) (h:=p_e q_l (h:=p_e (q_b (r:=by exact h0r q_o)) (h:=p_m (h:=p_y (q_f h2y) (h:=p_y q_l (h:=p_y (q_b (r:=by exact h0u q_o)) (h:=p_p (h:=h0a ?_)))))))))) | (refine gR 5 (p_e (q_f h2y) (h:=p_e q_l (h:=p_e (q_b (r:=by exact h1k q_o)) (h:=p_m (h:=p_y (q_f fo_65_2) (h:=p_y q_l (h:=p_y (q_b (r:=by exact h1k q_o)) (h:=p_p (h:=h0a ?_)))))))))) | (refine gR 6 (p_a (h:=h0a ?_))))
  (refine h0z Tryd.results12 (.tmp rfl .nil) ?_)
  exact ⟨_, ⟨rfl, rfl⟩, by intro w H; refine H.sub ?_; (try simp only [zzC, zzN]); repeat (first | exact List.Sublist.refl _ | refine List.Sublist.cons _ ?_)⟩
end Go.Proofs.YtecbgehooembmaaDoor
