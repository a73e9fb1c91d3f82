/- Part 11 of what the last text of this claim leans on: rules of walks, contracts, plain facts. Conditions: those of each statement. -/
import Derived.Test.YtecbgehooembmaaGreatDoorQb10
set_option maxRecDepth 100000
namespace Go.Proofs.YtecbgehooembmaaGreatDoor
open Go Go.RowKit
abbrev GCnd.rc (c : GCnd) : List Value := [.int .i64 c.arg, .int .i64 (c.op : Nat), .int .u64 (c.mask : Nat), .int .u64 (c.val : Nat)]
def rgC (cs : List GCnd) : List Value := cs.flatMap GCnd.rc
theorem rgC_snoc (cs : List GCnd) (c : GCnd) : rgC (cs ++ [c]) = rgC cs ++ c.rc := by simp [rgC]
theorem rgC_at (cs : List GCnd) (k : Nat) (h : k < cs.length) : ((rgC cs).drop (k * 4)).take 4 = (cs[k]).rc := by
 induction cs generalizing k with
 | nil => simp at h
 | cons c r ih =>
  cases k with
  | zero => simp [rgC]
  | succ k =>
   rw [rgC, List.flatMap_cons, ← rgC, show (k + 1) * 4 = c.rc.length + k * 4 by simp only [GCnd.rc, List.length_cons, List.length_nil]; omega, List.drop_append, List.drop_eq_nil_of_le (by omega), List.nil_append, Nat.add_sub_cancel_left]
   exact ih k (by simpa using h)
def rpC (ps : List (List UInt8 × Nat)) : List Value := ps.flatMap fun p => [.string (mB8 p.1), .int .i64 (p.2 : Nat)]
def rqC (ps : List (Nat × Nat)) : List Value := ps.flatMap fun p => [.int .i64 (p.1 : Nat), .int .i64 (p.2 : Nat)]
theorem rpC_snoc (ps : List (List UInt8 × Nat)) (p : List UInt8 × Nat) : rpC (ps ++ [p]) = rpC ps ++ [.string (mB8 p.1), .int .i64 (p.2 : Nat)] := by simp [rpC]
theorem rqC_snoc (ps : List (Nat × Nat)) (p : Nat × Nat) : rqC (ps ++ [p]) = rqC ps ++ [.int .i64 (p.1 : Nat), .int .i64 (p.2 : Nat)] := by simp [rqC]
inductive RefR : List GRul → List Value → List Blk → Prop
 | nil : RefR [] [] []
 | snoc {rs : List GRul} {cz : List Value} {ec : List Blk} {r : GRul} {v : Value} {e : List Blk} (h : RefR rs cz ec) (ho : Own 136 4 v r.conds.length (rgC r.conds) e) : RefR (rs ++ [r]) (cz ++ [.int .u32 r.num, .int .u32 r.act, v]) (e ++ ec)
structure RfD where
 vr : Value
 vp : Value
 vq : Value
 cz : List Value
 er : List Blk
 ec : List Blk
 ep : List Blk
 eq : List Blk
structure RfD.ok (d : RfD) (P : GPol) : Prop where
 rs : RefR P.rules d.cz d.ec
 vr : Own 130 3 d.vr P.rules.length d.cz d.er
 vp : Own 132 2 d.vp P.paths.length (rpC P.paths) d.ep
 vq : Own 134 2 d.vq P.ports.length (rqC P.ports) d.eq
def RfD.blocks (d : RfD) : List Blk := d.er ++ (d.ep ++ (d.eq ++ d.ec))
abbrev refC (P : GPol) (vr vp vq : Value) : List Value := [.string (mB8 P.nm), .int .u32 P.df, vr, .int .i64 (P.hd : Nat), vp, vq]
structure FewN (P : GPol) : Prop where
 conds : ∀ r ∈ P.rules, r.conds.length ≤ 1000
 l1 : P.rules.length ≤ 1000
 l2 : P.paths.length ≤ 1000
 l3 : P.ports.length ≤ 1000
abbrev rfB (b : Nat) (nm : ByteArray) (df : Int) (vr : Value) (hd : Nat) (vp vq : Value) : Blk := ⟨true, b, .cells #[.string nm, .int .u32 df, vr, .int .i64 (hd : Nat), vp, vq] 67 (0, 0)⟩
abbrev poB (b : Nat) (nm : ByteArray) (df : Int) (vr : Value) (hd : Nat) (vp vq : Value) : Blk := ⟨true, b, .cells #[.string nm, .int .u32 df, vr, .int .u16 (hd : Nat), vp, vq] 36 (0, 0)⟩
abbrev rrB (n : Nat) (num act : Int) (v : Value) : Blk := ⟨true, n, .cells #[.int .u32 num, .int .u32 act, v] 130 (0, 0)⟩
abbrev rfZ (b : Nat) : Blk := ⟨true, b, .cells #[.string ⟨#[]⟩, .int .u32 0, .slice none 0 0, .int .i64 0, .slice none 0 0, .slice none 0 0] 67 (0, 0)⟩
theorem refcond_c {S w0 L} (a : Int) (o m v : Nat) (ho : o < 256) : Fn Tryz.prog 46 #[.agg #[.int .i64 a, .int .u8 (o : Nat), .int .u64 (m : Nat), .int .u64 (v : Nat)]] S w0 L fun r L' => r = .agg #[.int .i64 a, .int .i64 (o : Nat), .int .u64 (m : Nat), .int .u64 (v : Nat)] ∧ L = L' := by
 refine Fn1 Tryz.func46 Tryz.ntmps46 rfl rfl ?_
 repeat' (first | refine h0i ?_ | refine h0b ?_ | refine h0v ?_ | (refine gR 0 ?_ <;> (try refine h0c ?_; (refine h2n (t:=99) rfl rfl ?_; intro nb hnb; (try simp only [Value.cells]))) <;> (try refine h0c ?_; (refine h0k (t:=136) rfl Tryz.zeroValue136 ?_; intro nb hnb; (try simp only [Value.cells]))) <;> (try refine h0a ?_)) | (refine gR 1 (p_e (q_f h4m) (h:=p_e q_l (h:=p_e (q_f h3d) (h:=q_e q_l ?_)))) <;> (try refine q_e (by apply h3t; exact rfl; (focus (apply h3u Tryz.underlying96 Tryz.underlying3; first | (refine IntWalk.i64_in _ ?_; omega) | (refine IntWalk.u8_in _ ?_; omega) | (refine IntWalk.u16_in _ ?_; omega) | (refine IntWalk.u32_in _ ?_; omega) | (refine IntWalk.u64_in _ ?_; omega) | (refine IntWalk.i32_in _ ?_; omega) | exact rfl))) ?_) <;> (try refine p_e (q_f h5b) (h:=p_e q_l (h:=p_e (q_f fo_99_3) (h:=q_e q_l ?_)))) <;> (try refine q_e (by exact h0q (t:=136) (fun vs => (match vs with | [(_, x0), (_, x1), (_, x2), (_, x3)] => [x0, x1, x2, x3] | _ => [])) rfl (fun w => by kernel_rfl)) ?_; (try simp only [Value.cells]); (try simp only [zzC, zzN])) <;> (try refine h0c ?_; (refine q_W ?_)) <;> (try refine h0a ?_)))
 (apply h5d Tryz.results46; exact rfl; (focus (repeat (first | exact fd0 | (with_reducible assumption) | apply fdA | apply fdS))); kernel_rfl; kernel_rfl; exact sz_136; exact c_16)
 exact ⟨_, ⟨rfl, rfl⟩, by intro w H; refine H.sub ?_; (try simp only [zzC, zzN]); repeat (first | exact List.Sublist.refl _ | refine List.Sublist.cons _ ?_)⟩
structure RfG where
 k : Nat
 cz : List Value
 vr : Value
 er : List Blk
 ec : List Blk
structure RfI (rules : List GRul) (g : RfG) : Prop where
 le : g.k ≤ rules.length
 rs : RefR (rules.take g.k) g.cz g.ec
 own : Own 130 3 g.vr g.k g.cz g.er
set_option maxHeartbeats 2000000 in
theorem ref_c {S w0 L} (P : GPol) (h : P.ok) (hN : FewN P) (vr vp vq : Value) (hS : PolS L P vr vp vq) :
  Fn Tryz.prog 19 #[.agg (polG P vr vp vq).toArray] S w0 L fun v L' => ∃ d : RfD, v = .agg (refC P d.vr d.vp d.vq).toArray ∧ d.ok P ∧ d.blocks ++ L = L' := by
 obtain ⟨⟨ra, rc, zz, rfl, hrs, hrg⟩, ⟨pa, pc, rfl, hps⟩, ⟨qa, qc, rfl, hqs⟩, -, -, -⟩ := hS
 obtain ⟨hcn, hl1, hl2, hl3⟩ := hN
 obtain ⟨-, -, hro, hhd, hpo, hqo⟩ := h
 obtain ⟨nm, df, rules, hd, paths, ports⟩ := P
 dsimp only [polG] at *
 generalize hnmB : mB8 nm = nmB at *
 refine Fn1 Tryz.func19 Tryz.ntmps19 rfl rfl ?_
 repeat' (first | (refine h2h (id:=0) ?_) | refine h0i ?_ | refine h0b ?_ | (refine gR 0 ?_ <;> (try refine h0c ?_; (refine h2n (t:=36) rfl rfl ?_; intro nb hnb; (try simp only [Value.cells]))) <;> (try refine h0c ?_; (refine h0k (t:=67) rfl Tryz.zeroValue67 ?_; intro nb hnb; (try simp only [Value.cells]))) <;> (try refine h0a ?_)) | (refine gR 1 (p_e (q_f h6b) (h:=p_e q_l (h:=p_e (q_f fo_36_1) (h:=p_e q_l (h:=p_e (q_f h5l) (h:=q_e q_l ?_)))))) <;> (try refine q_e (by apply h3t; exact rfl; (focus (apply h3u Tryz.underlying32 Tryz.underlying3; first | (refine IntWalk.i64_in _ ?_; omega) | (refine IntWalk.u8_in _ ?_; omega) | (refine IntWalk.u16_in _ ?_; omega) | (refine IntWalk.u32_in _ ?_; omega) | (refine IntWalk.u64_in _ ?_; omega) | (refine IntWalk.i32_in _ ?_; omega) | exact rfl))) ?_) <;> (try refine q_e (by exact h0q (t:=67) (fun vs => (match vs with | [(_, x0), (_, x1), (_, x2)] => [x0, x1, Value.slice none 0 0, x2, Value.slice none 0 0, Value.slice none 0 0] | _ => [])) rfl (fun w => by kernel_rfl)) ?_; (try simp only [Value.cells]); (try simp only [zzC, zzN])) <;> (try refine h0c ?_; (refine h0k (t:=67) rfl Tryz.zeroValue67 ?_; intro nb hnb; (try simp only [Value.cells]))) <;> (try refine h0c ?_; (refine q_W ?_)) <;> (try refine h0a ?_)) | (refine gR 2 (p_e (q_f h2t) (h:=p_e q_l (h:=p_e (by apply h0e; exact rfl; exact (fun _ => BigFrame.builtin_len ..); apply h0d Tryz.underlying30; exact h3m) (h:=p_m (h:=h0a ?_)))))))
 refine ⟨?_⟩
 rename_i n1 _ n2 _
 obtain ⟨n3, rfl⟩ : ∃ x, x = nb := ⟨_, rfl⟩
 refine h2q (γ:=RfG) (fun g => RefR rules g.cz g.ec ∧ Own 130 3 g.vr rules.length g.cz g.er) (fun _ => []) [(1, _), (2, _), (3, _)]
  (fun g => g.er ++ (rfB n3 nmB df g.vr hd (.slice none 0 0) (.slice none 0 0) :: rfZ n2 :: poB n1 nmB df (.slice ra rules.length rc) hd (.slice pa paths.length pc) (.slice qa ports.length qc) :: (g.ec ++ L))) (.cons rfl (.cons rfl (.cons rfl .nil))) ?_ ?_
 ·refine h0j ?_
  refine h2i (γ:=RfG) (RfI rules) (fun g => rules.length - g.k) (fun g => [(24, .int .i64 (g.k : Nat))]) [(1, _), (2, _), (3, _), (22, _), (23, _)]
   (fun g => g.er ++ (rfB n3 nmB df g.vr hd (.slice none 0 0) (.slice none 0 0) :: rfZ n2 :: poB n1 nmB df (.slice ra rules.length rc) hd (.slice pa paths.length pc) (.slice qa ports.length qc) :: (g.ec ++ L))) ⟨0, [], .slice none 0 0, [], []⟩ (.cons rfl (.cons rfl (.cons rfl (.cons rfl (.cons rfl .nil))))) ⟨Nat.zero_le _, .nil, Own.nil _ _⟩ (by (focus (repeat (first | exact Sub.nil | refine Sub.cons rfl ?_)))) c_28 ?_
  rintro ⟨k, cz, vr, er, ec⟩ ⟨hk, hR, hown⟩
  dsimp only at hk hR hown ⊢
  obtain ⟨va, vc, rfl, -⟩ := hown.sli []
  by_cases hlt : k < rules.length
  case neg =>
   obtain rfl : k = rules.length := by omega
   rw [List.take_length] at hR
   repeat' (first | refine h0i ?_ | refine h0b ?_ | refine h0s ?_ | refine h1p ?_ | refine h1f ?_ | refine h1o ?_ | refine h2c ?_ | refine h0f rfl ?_ | (refine gR 3 (p_e (q_b (r:=by exact h0y q_o)) (h:=h0a ?_))))
   exact h0w ⟨0, cz, _, er, ec⟩ ⟨hR, hown⟩ (by (focus (repeat (first | exact Sub.nil | refine Sub.cons rfl ?_)))) (by intro w H; refine Sel.out ?_ H; (try simp only [List.cons_append, List.nil_append, List.append_assoc]); repeat (first | exact Sel.refl _ | exact Sel.nil _ | (with_reducible apply Sel.appS) | (apply Sel.cons; (focus (repeat (first | exact fd0 | (with_reducible assumption) | apply fdA | apply fdS))); (try simp only [zzE, zzF])) | apply Sel.drop | apply Sel.dropA))
  obtain ⟨j, q, bb, off, cs, T, fr, rfl, hj, hsz, hx⟩ := hrs.elem hlt
  obtain ⟨v, hv, hcs⟩ := hrg.at_ k hlt
  rw [hv] at hx
  have hrk := hro _ (List.getElem_mem hlt)
  have hck := hcn _ (List.getElem_mem hlt)
  obtain ⟨ca, cc, rfl, hsc, hcl⟩ := hcs
  clear hv
  have hRs : ∀ (v : Value) (e : List Blk), Own 136 4 v rules[k].conds.length (rgC rules[k].conds) e → RefR (rules.take (k + 1)) (cz ++ [.int .u32 rules[k].num, .int .u32 rules[k].act, v]) (e ++ ec) := fun v e h => by
   rw [List.take_succ_eq_append_getElem hlt]
   exact .snoc hR h
  generalize rules[k] = r at *
  obtain ⟨num, act, conds⟩ := r
  obtain ⟨-, -, hr4⟩ := hrk
  dsimp only at *
  clear hR
  repeat' (first | (refine h2h (id:=2) ?_) | refine h0i ?_ | refine h0b ?_ | refine h0j ?_ | refine h0r ?_ | refine h0g rfl ?_ | (refine gR 3 (p_e (q_b (r:=by exact h0u q_o)) (h:=h0a ?_))) | (refine gR 4 (p_e (by apply h0n; exact rfl; exact rfl; (focus (apply h2j Tryz.underlying30 sz_73; omega; omega; exact c_1))) (h:=q_e (by apply h1u (t:=73); exact rfl; (focus (repeat (first | (with_reducible assumption) | apply fdA | apply fdS))); kernel_rfl; kernel_rfl; exact sz_73; (with_reducible assumption); (with_reducible assumption)) ?_)) <;> (try refine h0c ?_; (refine h0k (t:=73) rfl Tryz.zeroValue73 ?_; intro nb hnb; (try simp only [Value.cells]))) <;> (try refine h0c ?_; (refine q_W ?_)) <;> (try refine h0a ?_)) | (refine gR 5 (p_e (q_f fo_73_0) (h:=p_e q_l (h:=p_e (q_f fo_73_1) (h:=q_e q_l ?_)))) <;> (try refine q_e (by exact h0q (t:=130) (fun vs => (match vs with | [(_, x0), (_, x1)] => [x0, x1, Value.slice none 0 0] | _ => [])) rfl (fun w => by kernel_rfl)) ?_; (try simp only [Value.cells]); (try simp only [zzC, zzN])) <;> (try refine h0c ?_; (refine h0k (t:=130) rfl Tryz.zeroValue130 ?_; intro nb hnb; (try simp only [Value.cells]))) <;> (try refine h0c ?_; (refine q_W ?_)) <;> (try refine h0a ?_)) | (refine gR 6 (p_e (q_f h2w) (h:=p_e q_l (h:=p_e (by apply h0e; exact rfl; exact (fun _ => BigFrame.builtin_len ..); apply h0d Tryz.underlying71; exact h3m) (h:=p_m (h:=h0a ?_)))))))
  refine ⟨?_⟩
  obtain ⟨n6, rfl⟩ : ∃ x, x = nb := ⟨_, rfl⟩
  refine h2q (γ:=Value × List Blk) (fun g => Own 136 4 g.1 conds.length (rgC conds) g.2) (fun _ => []) [(1, _), (2, _), (3, _), (6, _), (22, _), (23, _), (24, _)]
   (fun g => g.2 ++ (rrB n6 num act g.1 :: (er ++ (rfB n3 nmB df (.slice va k vc) hd (.slice none 0 0) (.slice none 0 0) :: rfZ n2 :: poB n1 nmB df (.slice (some ⟨bb, off, none⟩) rules.length rc) hd (.slice pa paths.length pc) (.slice qa ports.length qc) :: (ec ++ L))))) (.cons rfl (.cons rfl (.cons rfl (.cons rfl (.cons rfl (.cons rfl (.cons rfl .nil))))))) ?_ ?_
  ·refine h0j ?_
   refine h2i (γ:=Nat × Value × List Blk) (fun g => g.1 ≤ conds.length ∧ Own 136 4 g.2.1 g.1 (rgC (conds.take g.1)) g.2.2) (fun g => conds.length - g.1) (fun g => [(36, .int .i64 (g.1 : Nat))]) [(1, _), (2, _), (3, _), (6, _), (22, _), (23, _), (24, _), (34, _), (35, _)]
    (fun g => g.2.2 ++ (rrB n6 num act g.2.1 :: (er ++ (rfB n3 nmB df (.slice va k vc) hd (.slice none 0 0) (.slice none 0 0) :: rfZ n2 :: poB n1 nmB df (.slice (some ⟨bb, off, none⟩) rules.length rc) hd (.slice pa paths.length pc) (.slice qa ports.length qc) :: (ec ++ L))))) (0, .slice none 0 0, []) (.cons rfl (.cons rfl (.cons rfl (.cons rfl (.cons rfl (.cons rfl (.cons rfl (.cons rfl (.cons rfl .nil))))))))) ⟨Nat.zero_le _, Own.nil _ _⟩ (by (focus (repeat (first | exact Sub.nil | refine Sub.cons rfl ?_)))) c_25 ?_
   clear hRs hown
   rintro ⟨j, v, e⟩ ⟨hj2, hown2⟩
   dsimp only at hj2 hown2 ⊢
   by_cases hlt2 : j < conds.length
   case neg =>
    obtain rfl : j = conds.length := by omega
    rw [List.take_length] at hown2
    obtain ⟨sa, sc, rfl, -⟩ := hown2.sli []
    repeat' (first | refine h0i ?_ | refine h0b ?_ | refine h0s ?_ | refine h1p ?_ | refine h1f ?_ | refine h1o ?_ | refine h2c ?_ | refine h0f rfl ?_ | (refine gR 7 (p_e (q_b (r:=by exact h0y q_o)) (h:=h0a ?_))))
    exact h0w (_, e) hown2 (by (focus (repeat (first | exact Sub.nil | refine Sub.cons rfl ?_)))) (by intro w H; refine Sel.out ?_ H; (try simp only [List.cons_append, List.nil_append, List.append_assoc]); repeat (first | exact Sel.refl _ | exact Sel.nil _ | (with_reducible apply Sel.appS) | (apply Sel.cons; (focus (repeat (first | exact fd0 | (with_reducible assumption) | apply fdA | apply fdS))); (try simp only [zzE, zzF])) | apply Sel.drop | apply Sel.dropA))
   obtain ⟨j3, q3, bb3, off3, cs3, T3, fr3, rfl, hj3, hsz3, hx3⟩ := hsc.elem hlt2
   rw [gcC_at _ _ hlt2] at hx3
   have hcj := hr4 _ (List.getElem_mem hlt2)
   have hfi : ∀ v e, Own 136 4 v (j + 1) (rgC (conds.take j) ++ conds[j].rc) e → Own 136 4 v (j + 1) (rgC (conds.take (j + 1))) e := fun v e h => by
    rw [List.take_succ_eq_append_getElem hlt2, rgC_snoc]; exact h
   generalize conds[j] = cd at *
   obtain ⟨xa, xo, xm, xv⟩ := cd
   obtain ⟨y1, y2, y3, y4⟩ := hcj
   dsimp only [GCnd.rc, GCnd.cells] at y1 y2 y3 y4 hx3 hfi
   have hcd := fun (L : List Blk) => refcond_c (S:=S) (w0:=w0) (L:=L) xa xo xm xv y2
   unfold maxLen at hcl
   rcases h2z hown2 with ⟨rfl, h0, hx', rfl⟩ | ⟨g, capg, cur, rfl, rfl, q1, q2, q3, q4⟩
   ·have hfi : ∀ v e, Own 136 4 v (0 + 1) ([] ++ [.int .i64 xa, .int .i64 (xo : Nat), .int .u64 (xm : Nat), .int .u64 (xv : Nat)]) e → Own 136 4 v (j + 1) (rgC (conds.take (j + 1))) e := fun v e h => hfi v e (by rw [hx', h0]; exact h)
    clear hown2 hx'
    (try simp only [zzC, zzN])
    repeat' (first | refine h0i ?_ | refine h0b ?_ | refine h0s ?_ | refine h0x ?_ | refine h0j ?_ | refine h0r ?_ | refine h0g rfl ?_ | (refine gR 7 (p_e (q_b (r:=by exact h0u q_o)) (h:=h0a ?_))) | (refine gR 8 (p_e (by apply h0n; exact rfl; exact rfl; (focus (apply h2j Tryz.underlying71 h5n; omega; omega; exact c_1))) (h:=q_e (by apply h1u (t:=99); exact rfl; (focus (repeat (first | (with_reducible assumption) | apply fdA | apply fdS))); kernel_rfl; kernel_rfl; exact h5n; (with_reducible assumption); (with_reducible assumption)) ?_)) <;> (try refine h0c ?_; (refine h0k (t:=99) rfl Tryz.zeroValue99 ?_; intro nb hnb; (try simp only [Value.cells]))) <;> (try refine h0c ?_; (refine q_W ?_)) <;> (try refine h0a ?_)) | ((refine h2s (pre:=[]) (id:=9) (m:=8) rfl (by kernel_rfl) rfl (q_t 0 (e:=h2o) (x:=by exact q_f h4r) (h:=?_))) <;> (try refine h2g (i:=1) (j:=2) rfl rfl (by kernel_rfl) ?_ ?_ <;> (first | (refine TagA.mk ?_; (((refine q_k q_l ?_); refine h1b h2o ?_) <;> (try refine q_r 2 ?_; (refine q_k (q_L h5n) ?_); refine h1b h2o ?_) <;> (try refine q_r 3 ?_; (refine q_c 46 (c:=by apply hcd) (h:=?_); rintro _ _ ⟨rfl, rfl⟩; (try simp only [zzE, zzF])); refine h1b h2o ?_) <;> (try refine q_r 4 ?_; (refine h0m (t:=128) (m:=1) (e:=136) (fun vs => (match vs with | [(_, x0)] => x0.cells.toList | _ => [])) rfl rfl (fun w => by kernel_rfl) ?_; intro nb hnb; (try simp only [Value.cells]); (try simp only [zzC, zzN])); refine h1b h2o ?_) <;> (try refine q_r 5 ?_; (apply h2b; exact rfl; exact Tryz.underlying128; exact inf_136_i; exact inf_136_z; exact inf_136_s; exact inf_136_b; exact rfl; exact rfl; exact rfl; exact Own.nil _ _; exact fd0; exact Nat.le_of_ble_eq_true rfl; exact h6c; exact rfl; exact h5t; omega; (exact fun _ H => H); exact rfl; exact h5x; exact c_4; intro vA eA hownA; obtain ⟨gA, capA, curA, rfl, rfl, hA1, hA2, hA3, hA4⟩ := hownA.some (by omega); (try simp only [zzC, zzN])); refine h1b h2o ?_) <;> (try refine q_t 6 (e:=h2o) (x:=by exact q_f h4r) (h:=?_)) <;> (try refine q_r 7 ?_; (refine q_S ?_); refine h1b h2o ?_) <;> (try refine h1a (by kernel_rfl) ?_))) | (refine TagB.mk ?_; (((refine q_k (q_L h5n) ?_); refine h1b h2o ?_) <;> (try refine h2g (i:=1) (j:=3) rfl rfl (by kernel_rfl) ?_ ?_ <;> (first | (refine TagA.mk ?_; (((refine q_k q_l ?_); refine h1b h2o ?_) <;> (try refine q_r 3 ?_; (refine q_c 46 (c:=by apply hcd) (h:=?_); rintro _ _ ⟨rfl, rfl⟩; (try simp only [zzE, zzF])); refine h1b h2o ?_) <;> (try refine q_r 4 ?_; (refine h0m (t:=128) (m:=1) (e:=136) (fun vs => (match vs with | [(_, x0)] => x0.cells.toList | _ => [])) rfl rfl (fun w => by kernel_rfl) ?_; intro nb hnb; (try simp only [Value.cells]); (try simp only [zzC, zzN])); refine h1b h2o ?_) <;> (try refine q_r 5 ?_; (apply h2b; exact rfl; exact Tryz.underlying128; exact inf_136_i; exact inf_136_z; exact inf_136_s; exact inf_136_b; exact rfl; exact rfl; exact rfl; exact Own.nil _ _; exact fd0; exact Nat.le_of_ble_eq_true rfl; exact h6c; exact rfl; exact h5t; omega; (exact fun _ H => H); exact rfl; exact h5x; exact c_4; intro vA eA hownA; obtain ⟨gA, capA, curA, rfl, rfl, hA1, hA2, hA3, hA4⟩ := hownA.some (by omega); (try simp only [zzC, zzN])); refine h1b h2o ?_) <;> (try refine q_t 6 (e:=h2o) (x:=by exact q_f h4r) (h:=?_)) <;> (try refine q_r 7 ?_; (refine q_S ?_); refine h1b h2o ?_) <;> (try refine h1a (by kernel_rfl) ?_))) | (refine TagB.mk ?_; (((refine q_c 46 (c:=by apply hcd) (h:=?_); rintro _ _ ⟨rfl, rfl⟩; (try simp only [zzE, zzF])); refine h1b h2o ?_) <;> (try refine h2g (i:=1) (j:=4) rfl rfl (by kernel_rfl) ?_ ?_ <;> (first | (refine TagA.mk ?_; (((refine q_k q_l ?_); refine h1b h2o ?_) <;> (try refine q_r 4 ?_; (refine h0m (t:=128) (m:=1) (e:=136) (fun vs => (match vs with | [(_, x0)] => x0.cells.toList | _ => [])) rfl rfl (fun w => by kernel_rfl) ?_; intro nb hnb; (try simp only [Value.cells]); (try simp only [zzC, zzN])); refine h1b h2o ?_) <;> (try refine q_r 5 ?_; (apply h2b; exact rfl; exact Tryz.underlying128; exact inf_136_i; exact inf_136_z; exact inf_136_s; exact inf_136_b; exact rfl; exact rfl; exact rfl; exact Own.nil _ _; exact fd0; exact Nat.le_of_ble_eq_true rfl; exact h6c; exact rfl; exact h5t; omega; (exact fun _ H => H); exact rfl; exact h5x; exact c_4; intro vA eA hownA; obtain ⟨gA, capA, curA, rfl, rfl, hA1, hA2, hA3, hA4⟩ := hownA.some (by omega); (try simp only [zzC, zzN])); refine h1b h2o ?_) <;> (try refine q_t 6 (e:=h2o) (x:=by exact q_f h4r) (h:=?_)) <;> (try refine q_r 7 ?_; (refine q_S ?_); refine h1b h2o ?_) <;> (try refine h1a (by kernel_rfl) ?_))) | (refine TagB.mk ?_; (((refine h0m (t:=128) (m:=1) (e:=136) (fun vs => (match vs with | [(_, x0)] => x0.cells.toList | _ => [])) rfl rfl (fun w => by kernel_rfl) ?_; intro nb hnb; (try simp only [Value.cells]); (try simp only [zzC, zzN])); refine h1b h2o ?_) <;> (try refine q_r 1 ?_; (refine q_k q_l ?_); refine h1b h2o ?_) <;> (try refine q_r 5 ?_; (apply h2b; exact rfl; exact Tryz.underlying128; exact inf_136_i; exact inf_136_z; exact inf_136_s; exact inf_136_b; exact rfl; exact rfl; exact rfl; exact Own.nil _ _; exact fd0; exact Nat.le_of_ble_eq_true rfl; exact h6c; exact rfl; exact h5t; omega; (exact fun _ H => H); exact rfl; exact h5x; exact c_4; intro vA eA hownA; obtain ⟨gA, capA, curA, rfl, rfl, hA1, hA2, hA3, hA4⟩ := hownA.some (by omega); (try simp only [zzC, zzN])); refine h1b h2o ?_) <;> (try refine q_t 6 (e:=h2o) (x:=by exact q_f h4r) (h:=?_)) <;> (try refine q_r 7 ?_; (refine q_S ?_); refine h1b h2o ?_) <;> (try refine h1a (by kernel_rfl) ?_)))))))))))))) | (refine gR 10 ?_ <;> (try refine q_e (q_b (r:=by apply h1n; exact c_5; (focus (refine IntWalk.i64_in _ ?_; omega)))) ?_) <;> (try refine p_m (h:=h0a ?_))))
    all_goals exact h0w (j + 1, _, _) ⟨⟨by show j + 1 ≤ _; omega, hfi _ _ (h3v (g:=gA) hA1 hA2 hA3 hA4)⟩, by show _ - (j + 1) < _ - j; omega⟩ (by (focus (repeat (first | exact Sub.nil | refine Sub.cons rfl ?_)))) c_23
   ·rw [← q4] at hfi
    clear hown2
    (try simp only [zzC, zzN])
    repeat' (first | refine h0i ?_ | refine h0b ?_ | refine h0s ?_ | refine h0x ?_ | refine h0j ?_ | refine h0r ?_ | refine h0g rfl ?_ | (refine gR 7 (p_e (q_b (r:=by exact h0u q_o)) (h:=h0a ?_))) | (refine gR 8 (p_e (by apply h0n; exact rfl; exact rfl; (focus (apply h2j Tryz.underlying71 h5n; omega; omega; exact c_1))) (h:=q_e (by apply h1u (t:=99); exact rfl; (focus (repeat (first | (with_reducible assumption) | apply fdA | apply fdS))); kernel_rfl; kernel_rfl; exact h5n; (with_reducible assumption); (with_reducible assumption)) ?_)) <;> (try refine h0c ?_; (refine h0k (t:=99) rfl Tryz.zeroValue99 ?_; intro nb hnb; (try simp only [Value.cells]))) <;> (try refine h0c ?_; (refine q_W ?_)) <;> (try refine h0a ?_)) | ((refine h2s (pre:=[]) (id:=9) (m:=8) rfl (by kernel_rfl) rfl (q_t 0 (e:=h2o) (x:=by exact q_f h4r) (h:=?_))) <;> (try refine h2g (i:=1) (j:=2) rfl rfl (by kernel_rfl) ?_ ?_ <;> (first | (refine TagA.mk ?_; (((refine q_k q_l ?_); refine h1b h2o ?_) <;> (try refine q_r 2 ?_; (refine q_k (q_L h5n) ?_); refine h1b h2o ?_) <;> (try refine q_r 3 ?_; (refine q_c 46 (c:=by apply hcd) (h:=?_); rintro _ _ ⟨rfl, rfl⟩; (try simp only [zzE, zzF])); refine h1b h2o ?_) <;> (try refine q_r 4 ?_; (refine h0m (t:=128) (m:=1) (e:=136) (fun vs => (match vs with | [(_, x0)] => x0.cells.toList | _ => [])) rfl rfl (fun w => by kernel_rfl) ?_; intro nb hnb; (try simp only [Value.cells]); (try simp only [zzC, zzN])); refine h1b h2o ?_) <;> (try refine q_r 5 ?_; (apply h1m; exact rfl; exact Tryz.underlying128; exact inf_136_i; exact inf_136_z; exact inf_136_s; exact inf_136_b; exact rfl; exact rfl; exact rfl; exact h3i; (with_reducible assumption); (with_reducible assumption); (with_reducible assumption); exact fd0; exact Nat.le_of_ble_eq_true rfl; exact h6c; exact rfl; exact h5t; omega; exact rfl; exact h5x; exact c_4; (try simp only [zzE, zzF]); intro vA eA hownA; obtain ⟨gA, capA, curA, rfl, rfl, hA1, hA2, hA3, hA4⟩ := hownA.some (by omega); (try simp only [zzC, zzN])); refine h1b h2o ?_) <;> (try refine q_t 6 (e:=h2o) (x:=by exact q_f h4r) (h:=?_)) <;> (try refine q_r 7 ?_; (refine q_S ?_); refine h1b h2o ?_) <;> (try refine h1a (by kernel_rfl) ?_))) | (refine TagB.mk ?_; (((refine q_k (q_L h5n) ?_); refine h1b h2o ?_) <;> (try refine h2g (i:=1) (j:=3) rfl rfl (by kernel_rfl) ?_ ?_ <;> (first | (refine TagA.mk ?_; (((refine q_k q_l ?_); refine h1b h2o ?_) <;> (try refine q_r 3 ?_; (refine q_c 46 (c:=by apply hcd) (h:=?_); rintro _ _ ⟨rfl, rfl⟩; (try simp only [zzE, zzF])); refine h1b h2o ?_) <;> (try refine q_r 4 ?_; (refine h0m (t:=128) (m:=1) (e:=136) (fun vs => (match vs with | [(_, x0)] => x0.cells.toList | _ => [])) rfl rfl (fun w => by kernel_rfl) ?_; intro nb hnb; (try simp only [Value.cells]); (try simp only [zzC, zzN])); refine h1b h2o ?_) <;> (try refine q_r 5 ?_; (apply h1m; exact rfl; exact Tryz.underlying128; exact inf_136_i; exact inf_136_z; exact inf_136_s; exact inf_136_b; exact rfl; exact rfl; exact rfl; exact h3i; (with_reducible assumption); (with_reducible assumption); (with_reducible assumption); exact fd0; exact Nat.le_of_ble_eq_true rfl; exact h6c; exact rfl; exact h5t; omega; exact rfl; exact h5x; exact c_4; (try simp only [zzE, zzF]); intro vA eA hownA; obtain ⟨gA, capA, curA, rfl, rfl, hA1, hA2, hA3, hA4⟩ := hownA.some (by omega); (try simp only [zzC, zzN])); refine h1b h2o ?_) <;> (try refine q_t 6 (e:=h2o) (x:=by exact q_f h4r) (h:=?_)) <;> (try refine q_r 7 ?_; (refine q_S ?_); refine h1b h2o ?_) <;> (try refine h1a (by kernel_rfl) ?_))) | (refine TagB.mk ?_; (((refine q_c 46 (c:=by apply hcd) (h:=?_); rintro _ _ ⟨rfl, rfl⟩; (try simp only [zzE, zzF])); refine h1b h2o ?_) <;> (try refine h2g (i:=1) (j:=4) rfl rfl (by kernel_rfl) ?_ ?_ <;> (first | (refine TagA.mk ?_; (((refine q_k q_l ?_); refine h1b h2o ?_) <;> (try refine q_r 4 ?_; (refine h0m (t:=128) (m:=1) (e:=136) (fun vs => (match vs with | [(_, x0)] => x0.cells.toList | _ => [])) rfl rfl (fun w => by kernel_rfl) ?_; intro nb hnb; (try simp only [Value.cells]); (try simp only [zzC, zzN])); refine h1b h2o ?_) <;> (try refine q_r 5 ?_; (apply h1m; exact rfl; exact Tryz.underlying128; exact inf_136_i; exact inf_136_z; exact inf_136_s; exact inf_136_b; exact rfl; exact rfl; exact rfl; exact h3i; (with_reducible assumption); (with_reducible assumption); (with_reducible assumption); exact fd0; exact Nat.le_of_ble_eq_true rfl; exact h6c; exact rfl; exact h5t; omega; exact rfl; exact h5x; exact c_4; (try simp only [zzE, zzF]); intro vA eA hownA; obtain ⟨gA, capA, curA, rfl, rfl, hA1, hA2, hA3, hA4⟩ := hownA.some (by omega); (try simp only [zzC, zzN])); refine h1b h2o ?_) <;> (try refine q_t 6 (e:=h2o) (x:=by exact q_f h4r) (h:=?_)) <;> (try refine q_r 7 ?_; (refine q_S ?_); refine h1b h2o ?_) <;> (try refine h1a (by kernel_rfl) ?_))) | (refine TagB.mk ?_; (((refine h0m (t:=128) (m:=1) (e:=136) (fun vs => (match vs with | [(_, x0)] => x0.cells.toList | _ => [])) rfl rfl (fun w => by kernel_rfl) ?_; intro nb hnb; (try simp only [Value.cells]); (try simp only [zzC, zzN])); refine h1b h2o ?_) <;> (try refine q_r 1 ?_; (refine q_k q_l ?_); refine h1b h2o ?_) <;> (try refine q_r 5 ?_; (apply h1m; exact rfl; exact Tryz.underlying128; exact inf_136_i; exact inf_136_z; exact inf_136_s; exact inf_136_b; exact rfl; exact rfl; exact rfl; exact h3i; (with_reducible assumption); (with_reducible assumption); (with_reducible assumption); exact fd0; exact Nat.le_of_ble_eq_true rfl; exact h6c; exact rfl; exact h5t; omega; exact rfl; exact h5x; exact c_4; (try simp only [zzE, zzF]); intro vA eA hownA; obtain ⟨gA, capA, curA, rfl, rfl, hA1, hA2, hA3, hA4⟩ := hownA.some (by omega); (try simp only [zzC, zzN])); refine h1b h2o ?_) <;> (try refine q_t 6 (e:=h2o) (x:=by exact q_f h4r) (h:=?_)) <;> (try refine q_r 7 ?_; (refine q_S ?_); refine h1b h2o ?_) <;> (try refine h1a (by kernel_rfl) ?_)))))))))))))) | (refine gR 10 ?_ <;> (try refine q_e (q_b (r:=by apply h1n; exact c_5; (focus (refine IntWalk.i64_in _ ?_; omega)))) ?_) <;> (try refine p_m (h:=h0a ?_))))
    all_goals exact h0w (j + 1, _, _) ⟨⟨by show j + 1 ≤ _; omega, hfi _ _ (h3v (g:=gA) hA1 hA2 hA3 hA4)⟩, by show _ - (j + 1) < _ - j; omega⟩ (by (focus (repeat (first | exact Sub.nil | refine Sub.cons rfl ?_)))) c_23
  rintro ⟨v, e⟩ hown2
  dsimp only at hown2 ⊢
  obtain ⟨sa, sc, rfl, -⟩ := hown2.sli []
  refine h5h (L' := er ++ (rrB n6 num act (.slice sa conds.length sc) :: rfB n3 nmB df (.slice va k vc) hd (.slice none 0 0) (.slice none 0 0) :: rfZ n2 :: poB n1 nmB df (.slice (some ⟨bb, off, none⟩) rules.length rc) hd (.slice pa paths.length pc) (.slice qa ports.length qc) :: (e ++ (ec ++ L)))) (fun w H => HP.re2 (env:=[e, [_], er, [_, _, _], ec, L]) [0, 1, 2, 3, 4, 5] [2, 1, 3, 0, 4, 5] (by decide) rfl rfl H) ?_
  have hR' := hRs _ _ hown2
  clear hown2 hRs hsc
  have hfi : ∀ v' e', Own 130 3 v' (k + 1) (cz ++ [.int .u32 num, .int .u32 act, .slice sa conds.length sc]) e' → Own 130 3 v' (k + 1) (cz ++ [.int .u32 num, .int .u32 act, .slice sa conds.length sc]) e' := fun _ _ h => h
  rcases h2z hown with ⟨hv0, h0, hx', rfl⟩ | ⟨g, capg, cur, hv0, rfl, q1, q2, q3, q4⟩
  ·injection hv0 with v1 v2 v3
   subst v1 v3
   have hfi : ∀ v' e', Own 130 3 v' (0 + 1) ([] ++ [.int .u32 num, .int .u32 act, .slice sa conds.length sc]) e' → Own 130 3 v' (k + 1) (cz ++ [.int .u32 num, .int .u32 act, .slice sa conds.length sc]) e' := fun v e h => hfi v e (by rw [hx', h0]; exact h)
   rw [show Value.slice none k 0 = .slice none 0 0 by rw [h0]]
   clear hown hx'
   (try simp only [zzC, zzN])
   repeat' (first | refine h0b ?_ | refine h0s ?_ | refine h0x ?_ | (refine gR 11 (p_e (q_f fo_67_2) (h:=p_e q_l (h:=q_e (q_L sz_130) ?_))) <;> (try refine h0c ?_; (refine h0m (t:=63) (m:=1) (e:=130) (fun vs => (match vs with | [(_, x0)] => x0.cells.toList | _ => [])) rfl rfl (fun w => by kernel_rfl) ?_; intro nb hnb; (try simp only [Value.cells]); (try simp only [zzC, zzN]))) <;> (try refine h0c ?_; (apply h2b; exact rfl; exact Tryz.underlying63; exact inf_130_i; exact inf_130_z; exact inf_130_s; exact inf_130_b; exact rfl; exact rfl; exact rfl; exact Own.nil _ _; exact fd0; exact Nat.le_of_ble_eq_true rfl; exact h6c; exact rfl; exact h5t; omega; (exact fun _ H => H); exact rfl; exact h5x; exact c_4; intro vA eA hownA; obtain ⟨gA, capA, curA, rfl, rfl, hA1, hA2, hA3, hA4⟩ := hownA.some (by omega); (try simp only [zzC, zzN]))) <;> (try refine q_e (q_f fo_67_2) ?_) <;> (try refine h0c ?_; (refine q_S ?_)) <;> (try refine h0a ?_)) | (refine gR 12 ?_ <;> (try refine q_e (q_b (r:=by apply h1n; exact c_5; (focus (refine IntWalk.i64_in _ ?_; omega)))) ?_) <;> (try refine p_m (h:=h0a ?_))))
   all_goals exact h0w ⟨k + 1, _, _, _, e ++ ec⟩ ⟨⟨by show k + 1 ≤ _; omega, hR', hfi _ _ (h3v (g:=gA) hA1 hA2 hA3 hA4)⟩, by show _ - (k + 1) < _ - k; omega⟩ (by (focus (repeat (first | exact Sub.nil | refine Sub.cons rfl ?_)))) (by intro w H; refine Sel.out ?_ H; (try simp only [List.cons_append, List.nil_append, List.append_assoc]); repeat (first | exact Sel.refl _ | exact Sel.nil _ | (with_reducible apply Sel.appS) | (apply Sel.cons; (focus (repeat (first | exact fd0 | (with_reducible assumption) | apply fdA | apply fdS))); (try simp only [zzE, zzF])) | apply Sel.drop | apply Sel.dropA))
  ·injection hv0 with v1 v2 v3
   subst v1 v3
   rw [← q4] at hR'
   clear hown
   (try simp only [zzC, zzN])
   repeat' (first | refine h0b ?_ | refine h0s ?_ | refine h0x ?_ | (refine gR 11 (p_e (q_f fo_67_2) (h:=p_e q_l (h:=q_e (q_L sz_130) ?_))) <;> (try refine h0c ?_; (refine h0m (t:=63) (m:=1) (e:=130) (fun vs => (match vs with | [(_, x0)] => x0.cells.toList | _ => [])) rfl rfl (fun w => by kernel_rfl) ?_; intro nb hnb; (try simp only [Value.cells]); (try simp only [zzC, zzN]))) <;> (try refine h0c ?_; (apply h1m; exact rfl; exact Tryz.underlying63; exact inf_130_i; exact inf_130_z; exact inf_130_s; exact inf_130_b; exact rfl; exact rfl; exact rfl; exact h3i; (with_reducible assumption); (with_reducible assumption); (with_reducible assumption); exact fd0; exact Nat.le_of_ble_eq_true rfl; exact h6c; exact rfl; exact h5t; omega; exact rfl; exact h5x; exact c_4; (try simp only [zzE, zzF]); intro vA eA hownA; obtain ⟨gA, capA, curA, rfl, rfl, hA1, hA2, hA3, hA4⟩ := hownA.some (by omega); (try simp only [zzC, zzN]))) <;> (try refine q_e (q_f fo_67_2) ?_) <;> (try refine h0c ?_; (refine q_S ?_)) <;> (try refine h0a ?_)) | (refine gR 12 ?_ <;> (try refine q_e (q_b (r:=by apply h1n; exact c_5; (focus (refine IntWalk.i64_in _ ?_; omega)))) ?_) <;> (try refine p_m (h:=h0a ?_))))
   all_goals exact h0w ⟨k + 1, _, _, _, e ++ ec⟩ ⟨⟨by show k + 1 ≤ _; omega, hR', h3v (g:=gA) hA1 hA2 hA3 hA4⟩, by show _ - (k + 1) < _ - k; omega⟩ (by (focus (repeat (first | exact Sub.nil | refine Sub.cons rfl ?_)))) (by intro w H; refine Sel.out ?_ H; (try simp only [List.cons_append, List.nil_append, List.append_assoc]); repeat (first | exact Sel.refl _ | exact Sel.nil _ | (with_reducible apply Sel.appS) | (apply Sel.cons; (focus (repeat (first | exact fd0 | (with_reducible assumption) | apply fdA | apply fdS))); (try simp only [zzE, zzF])) | apply Sel.drop | apply Sel.dropA))
 -- PATHS
 rintro ⟨k1, cz, vr, er, ec⟩ ⟨hR, hownR⟩
 dsimp only at hR hownR ⊢
 obtain ⟨va, vc, rfl, -⟩ := hownR.sli []
 refine h5h (L' := rfB n3 nmB df (.slice va rules.length vc) hd (.slice none 0 0) (.slice none 0 0) :: rfZ n2 :: poB n1 nmB df (.slice ra rules.length rc) hd (.slice pa paths.length pc) (.slice qa ports.length qc) :: (er ++ (ec ++ L))) (fun w H => HP.re2 (env:=[er, [_, _, _], ec, L]) [0, 1, 2, 3] [1, 0, 2, 3] (by decide) rfl rfl H) ?_
 have hps2 : Sli (er ++ (ec ++ L)) pa paths.length 2 (pthC paths) := (hps.upA ec).upA er
 have hqs2 : Sli (er ++ (ec ++ L)) qa ports.length 2 (porC ports) := (hqs.upA ec).upA er
 clear hrg hrs hps hqs hro hcn
 generalize hL2 : er ++ (ec ++ L) = L2 at hps2 hqs2 ⊢
 repeat' (first | (refine h2h (id:=4) ?_) | refine h0i ?_ | refine h0b ?_ | (refine gR 13 (p_e (q_f h3h) (h:=p_e q_l (h:=p_e (by apply h0e; exact rfl; exact (fun _ => BigFrame.builtin_len ..); apply h0d Tryz.underlying33; exact h3m) (h:=p_m (h:=h0a ?_)))))))
 refine ⟨?_⟩
 refine h2q (γ:=Value × List Blk) (fun g => Own 132 2 g.1 paths.length (rpC paths) g.2) (fun _ => []) [(1, _), (2, _), (3, _)]
  (fun g => g.2 ++ (rfB n3 nmB df (.slice va rules.length vc) hd g.1 (.slice none 0 0) :: rfZ n2 :: poB n1 nmB df (.slice ra rules.length rc) hd (.slice pa paths.length pc) (.slice qa ports.length qc) :: L2)) (.cons rfl (.cons rfl (.cons rfl .nil))) ?_ ?_
 ·refine h0j ?_
  refine h2i (γ:=Nat × Value × List Blk) (fun g => g.1 ≤ paths.length ∧ Own 132 2 g.2.1 g.1 (rpC (paths.take g.1)) g.2.2) (fun g => paths.length - g.1) (fun g => [(58, .int .i64 (g.1 : Nat))]) [(1, _), (2, _), (3, _), (56, _), (57, _)]
   (fun g => g.2.2 ++ (rfB n3 nmB df (.slice va rules.length vc) hd g.2.1 (.slice none 0 0) :: rfZ n2 :: poB n1 nmB df (.slice ra rules.length rc) hd (.slice pa paths.length pc) (.slice qa ports.length qc) :: L2)) (0, .slice none 0 0, []) (.cons rfl (.cons rfl (.cons rfl (.cons rfl (.cons rfl .nil))))) ⟨Nat.zero_le _, Own.nil _ _⟩ (by (focus (repeat (first | exact Sub.nil | refine Sub.cons rfl ?_)))) c_28 ?_
  rintro ⟨k, v, e⟩ ⟨hk, hown⟩
  dsimp only at hk hown ⊢
  by_cases hlt : k < paths.length
  case neg =>
   obtain rfl : k = paths.length := by omega
   rw [List.take_length] at hown
   obtain ⟨sa, sc, rfl, -⟩ := hown.sli []
   repeat' (first | refine h0i ?_ | refine h0b ?_ | refine h0s ?_ | refine h1p ?_ | refine h1f ?_ | refine h1o ?_ | refine h2c ?_ | refine h0f rfl ?_ | (refine gR 14 (p_e (q_b (r:=by exact h0y q_o)) (h:=h0a ?_))))
   exact h0w (_, e) hown (by (focus (repeat (first | exact Sub.nil | refine Sub.cons rfl ?_)))) (by intro w H; refine Sel.out ?_ H; (try simp only [List.cons_append, List.nil_append, List.append_assoc]); repeat (first | exact Sel.refl _ | exact Sel.nil _ | (with_reducible apply Sel.appS) | (apply Sel.cons; (focus (repeat (first | exact fd0 | (with_reducible assumption) | apply fdA | apply fdS))); (try simp only [zzE, zzF])) | apply Sel.drop | apply Sel.dropA))
  obtain ⟨j, q, bb, off, cs, T, fr, rfl, hj, hsz, hx⟩ := hps2.elem hlt
  rw [pthC_at _ _ hlt] at hx
  have hpk := hpo _ (List.getElem_mem hlt)
  have hfi : ∀ v e, Own 132 2 v (k + 1) (rpC (paths.take k) ++ [.string (mB8 (paths[k]).1), .int .i64 ((paths[k]).2 : Nat)]) e → Own 132 2 v (k + 1) (rpC (paths.take (k + 1))) e := fun v e h => by
   rw [List.take_succ_eq_append_getElem hlt, rpC_snoc]; exact h
  generalize paths[k] = p at *
  obtain ⟨pt, pr⟩ := p
  dsimp only at *
  generalize mB8 pt = ptB at *
  rcases h2z hown with ⟨rfl, h0, hx', rfl⟩ | ⟨g, capg, cur, rfl, rfl, q1, q2, q3, q4⟩
  ·have hfi : ∀ v e, Own 132 2 v (0 + 1) ([] ++ [.string ptB, .int .i64 (pr : Nat)]) e → Own 132 2 v (k + 1) (rpC (paths.take (k + 1))) e := fun v e h => hfi v e (by rw [hx', h0]; exact h)
   clear hown hx'
   (try simp only [zzC, zzN])
   repeat' (first | refine h0i ?_ | refine h0b ?_ | refine h0s ?_ | refine h0x ?_ | refine h0j ?_ | refine h0r ?_ | refine h0g rfl ?_ | (refine gR 14 (p_e (q_b (r:=by exact h0u q_o)) (h:=h0a ?_))) | (refine gR 15 (p_e (by apply h0n; exact rfl; exact rfl; (focus (apply h2j Tryz.underlying33 h4x; omega; omega; exact c_1))) (h:=q_e (by apply h1u (t:=104); exact rfl; exact c_19; kernel_rfl; kernel_rfl; exact h4x; (with_reducible assumption); (with_reducible assumption)) ?_)) <;> (try refine h0c ?_; (refine h0k (t:=104) rfl Tryz.zeroValue104 ?_; intro nb hnb; (try simp only [Value.cells]))) <;> (try refine h0c ?_; (refine q_W ?_)) <;> (try refine h0a ?_)) | (refine gR 16 (p_e (q_f fo_67_4) (h:=p_e q_l (h:=p_e (q_f h5f) (h:=p_e q_l (h:=p_e (q_f fo_104_1) (h:=q_e q_l ?_)))))) <;> (try refine q_e (by apply h3t; exact rfl; (focus (apply h3u Tryz.underlying32 Tryz.underlying3; first | (refine IntWalk.i64_in _ ?_; omega) | (refine IntWalk.u8_in _ ?_; omega) | (refine IntWalk.u16_in _ ?_; omega) | (refine IntWalk.u32_in _ ?_; omega) | (refine IntWalk.u64_in _ ?_; omega) | (refine IntWalk.i32_in _ ?_; omega) | exact rfl))) ?_) <;> (try refine q_e (by exact h0q (t:=132) (fun vs => (match vs with | [(_, x0), (_, x1)] => [x0, x1] | _ => [])) rfl (fun w => by kernel_rfl)) ?_; (try simp only [Value.cells]); (try simp only [zzC, zzN])) <;> (try refine h0c ?_; (refine h0m (t:=64) (m:=1) (e:=132) (fun vs => (match vs with | [(_, x0)] => x0.cells.toList | _ => [])) rfl rfl (fun w => by kernel_rfl) ?_; intro nb hnb; (try simp only [Value.cells]); (try simp only [zzC, zzN]))) <;> (try refine h0c ?_; (apply h2b; exact rfl; exact Tryz.underlying64; exact inf_132_i; exact inf_132_z; exact inf_132_s; exact inf_132_b; exact rfl; exact rfl; exact rfl; exact Own.nil _ _; exact fd0; exact Nat.le_of_ble_eq_true rfl; exact h6c; exact rfl; exact h5t; omega; (exact fun _ H => H); exact rfl; exact h5x; exact c_4; intro vA eA hownA; obtain ⟨gA, capA, curA, rfl, rfl, hA1, hA2, hA3, hA4⟩ := hownA.some (by omega); (try simp only [zzC, zzN]))) <;> (try refine q_e (q_f fo_67_4) ?_) <;> (try refine h0c ?_; (refine q_S ?_)) <;> (try refine h0a ?_)) | (refine gR 17 ?_ <;> (try refine q_e (q_b (r:=by apply h1n; exact c_5; (focus (refine IntWalk.i64_in _ ?_; omega)))) ?_) <;> (try refine p_m (h:=h0a ?_))))
   all_goals exact h0w (k + 1, _, _) ⟨⟨by show k + 1 ≤ _; omega, hfi _ _ (h3v (g:=gA) hA1 hA2 hA3 hA4)⟩, by show _ - (k + 1) < _ - k; omega⟩ (by (focus (repeat (first | exact Sub.nil | refine Sub.cons rfl ?_)))) c_23
  ·rw [← q4] at hfi
   clear hown
   (try simp only [zzC, zzN])
   repeat' (first | refine h0i ?_ | refine h0b ?_ | refine h0s ?_ | refine h0x ?_ | refine h0j ?_ | refine h0r ?_ | refine h0g rfl ?_ | (refine gR 14 (p_e (q_b (r:=by exact h0u q_o)) (h:=h0a ?_))) | (refine gR 15 (p_e (by apply h0n; exact rfl; exact rfl; (focus (apply h2j Tryz.underlying33 h4x; omega; omega; exact c_1))) (h:=q_e (by apply h1u (t:=104); exact rfl; exact c_19; kernel_rfl; kernel_rfl; exact h4x; (with_reducible assumption); (with_reducible assumption)) ?_)) <;> (try refine h0c ?_; (refine h0k (t:=104) rfl Tryz.zeroValue104 ?_; intro nb hnb; (try simp only [Value.cells]))) <;> (try refine h0c ?_; (refine q_W ?_)) <;> (try refine h0a ?_)) | (refine gR 16 (p_e (q_f fo_67_4) (h:=p_e q_l (h:=p_e (q_f h5f) (h:=p_e q_l (h:=p_e (q_f fo_104_1) (h:=q_e q_l ?_)))))) <;> (try refine q_e (by apply h3t; exact rfl; (focus (apply h3u Tryz.underlying32 Tryz.underlying3; first | (refine IntWalk.i64_in _ ?_; omega) | (refine IntWalk.u8_in _ ?_; omega) | (refine IntWalk.u16_in _ ?_; omega) | (refine IntWalk.u32_in _ ?_; omega) | (refine IntWalk.u64_in _ ?_; omega) | (refine IntWalk.i32_in _ ?_; omega) | exact rfl))) ?_) <;> (try refine q_e (by exact h0q (t:=132) (fun vs => (match vs with | [(_, x0), (_, x1)] => [x0, x1] | _ => [])) rfl (fun w => by kernel_rfl)) ?_; (try simp only [Value.cells]); (try simp only [zzC, zzN])) <;> (try refine h0c ?_; (refine h0m (t:=64) (m:=1) (e:=132) (fun vs => (match vs with | [(_, x0)] => x0.cells.toList | _ => [])) rfl rfl (fun w => by kernel_rfl) ?_; intro nb hnb; (try simp only [Value.cells]); (try simp only [zzC, zzN]))) <;> (try refine h0c ?_; (apply h1m; exact rfl; exact Tryz.underlying64; exact inf_132_i; exact inf_132_z; exact inf_132_s; exact inf_132_b; exact rfl; exact rfl; exact rfl; exact h3i; (with_reducible assumption); (with_reducible assumption); (with_reducible assumption); exact fd0; exact Nat.le_of_ble_eq_true rfl; exact h6c; exact rfl; exact h5t; omega; exact rfl; exact h5x; exact c_4; (try simp only [zzE, zzF]); intro vA eA hownA; obtain ⟨gA, capA, curA, rfl, rfl, hA1, hA2, hA3, hA4⟩ := hownA.some (by omega); (try simp only [zzC, zzN]))) <;> (try refine q_e (q_f fo_67_4) ?_) <;> (try refine h0c ?_; (refine q_S ?_)) <;> (try refine h0a ?_)) | (refine gR 17 ?_ <;> (try refine q_e (q_b (r:=by apply h1n; exact c_5; (focus (refine IntWalk.i64_in _ ?_; omega)))) ?_) <;> (try refine p_m (h:=h0a ?_))))
   all_goals exact h0w (k + 1, _, _) ⟨⟨by show k + 1 ≤ _; omega, hfi _ _ (h3v (g:=gA) hA1 hA2 hA3 hA4)⟩, by show _ - (k + 1) < _ - k; omega⟩ (by (focus (repeat (first | exact Sub.nil | refine Sub.cons rfl ?_)))) c_23
 -- PORTS
 rintro ⟨vp, ep⟩ hownP
 dsimp only at hownP ⊢
 obtain ⟨wa, wc, rfl, -⟩ := hownP.sli []
 refine h5h (L' := rfB n3 nmB df (.slice va rules.length vc) hd (.slice wa paths.length wc) (.slice none 0 0) :: rfZ n2 :: poB n1 nmB df (.slice ra rules.length rc) hd (.slice pa paths.length pc) (.slice qa ports.length qc) :: (ep ++ L2)) (fun w H => HP.re2 (env:=[ep, [_, _, _], L2]) [0, 1, 2] [1, 0, 2] (by decide) rfl rfl H) ?_
 have hqs3 : Sli (ep ++ L2) qa ports.length 2 (porC ports) := hqs2.upA ep
 clear hps2 hqs2 hpo
 generalize hL3 : ep ++ L2 = L3 at hqs3 ⊢
 repeat' (first | (refine h2h (id:=6) ?_) | refine h0i ?_ | refine h0b ?_ | (refine gR 18 (p_e (q_f h3p) (h:=p_e q_l (h:=p_e (by apply h0e; exact rfl; exact (fun _ => BigFrame.builtin_len ..); apply h0d Tryz.underlying34; exact h3m) (h:=p_m (h:=h0a ?_)))))))
 refine ⟨?_⟩
 refine h2q (γ:=Value × List Blk) (fun g => Own 134 2 g.1 ports.length (rqC ports) g.2) (fun _ => []) [(2, _), (3, _)]
  (fun g => rfB n3 nmB df (.slice va rules.length vc) hd (.slice wa paths.length wc) g.1 :: rfZ n2 :: (g.2 ++ L3)) (.cons rfl (.cons rfl .nil)) ?_ ?_
 ·refine h0j ?_
  refine h2i (γ:=Nat × Value × List Blk) (fun g => g.1 ≤ ports.length ∧ Own 134 2 g.2.1 g.1 (rqC (ports.take g.1)) g.2.2) (fun g => ports.length - g.1) (fun g => [(77, .int .i64 (g.1 : Nat))]) [(2, _), (3, _), (75, _), (76, _)]
   (fun g => g.2.2 ++ (rfB n3 nmB df (.slice va rules.length vc) hd (.slice wa paths.length wc) g.2.1 :: rfZ n2 :: L3)) (0, .slice none 0 0, []) (.cons rfl (.cons rfl (.cons rfl (.cons rfl .nil)))) ⟨Nat.zero_le _, Own.nil _ _⟩ (by (focus (repeat (first | exact Sub.nil | refine Sub.cons rfl ?_)))) c_25 ?_
  rintro ⟨k, v, e⟩ ⟨hk, hown⟩
  dsimp only at hk hown ⊢
  by_cases hlt : k < ports.length
  case neg =>
   obtain rfl : k = ports.length := by omega
   rw [List.take_length] at hown
   obtain ⟨sa, sc, rfl, -⟩ := hown.sli []
   repeat' (first | refine h0i ?_ | refine h0b ?_ | refine h0s ?_ | refine h1p ?_ | refine h1f ?_ | refine h1o ?_ | refine h2c ?_ | refine h0f rfl ?_ | (refine gR 19 (p_e (q_b (r:=by exact h0y q_o)) (h:=h0a ?_))))
   exact h0w (_, e) hown (by (focus (repeat (first | exact Sub.nil | refine Sub.cons rfl ?_)))) (fun w H => HP.re2 (env:=[e, [_, _], L3]) [0, 1, 2] [1, 0, 2] (by decide) rfl rfl H)
  obtain ⟨j, q, bb, off, cs, T, fr, rfl, hj, hsz, hx⟩ := hqs3.elem hlt
  rw [porC_at _ _ hlt] at hx
  have hpk := hqo _ (List.getElem_mem hlt)
  have hfi : ∀ v e, Own 134 2 v (k + 1) (rqC (ports.take k) ++ [.int .i64 ((ports[k]).1 : Nat), .int .i64 ((ports[k]).2 : Nat)]) e → Own 134 2 v (k + 1) (rqC (ports.take (k + 1))) e := fun v e h => by
   rw [List.take_succ_eq_append_getElem hlt, rqC_snoc]; exact h
  generalize ports[k] = p at *
  obtain ⟨pt, pr⟩ := p
  dsimp only at *
  rcases h2z hown with ⟨rfl, h0, hx', rfl⟩ | ⟨g, capg, cur, rfl, rfl, q1, q2, q3, q4⟩
  ·have hfi : ∀ v e, Own 134 2 v (0 + 1) ([] ++ [.int .i64 (pt : Nat), .int .i64 (pr : Nat)]) e → Own 134 2 v (k + 1) (rqC (ports.take (k + 1))) e := fun v e h => hfi v e (by rw [hx', h0]; exact h)
   clear hown hx'
   (try simp only [zzC, zzN])
   repeat' (first | refine h0i ?_ | refine h0b ?_ | refine h0s ?_ | refine h0x ?_ | refine h0j ?_ | refine h0r ?_ | refine h0g rfl ?_ | (refine gR 19 (p_e (q_b (r:=by exact h0u q_o)) (h:=h0a ?_))) | (refine gR 20 (p_e (by apply h0n; exact rfl; exact rfl; (focus (apply h2j Tryz.underlying34 h6e; omega; omega; exact c_1))) (h:=q_e (by apply h1u (t:=106); exact rfl; exact c_19; kernel_rfl; kernel_rfl; exact h6e; (with_reducible assumption); (with_reducible assumption)) ?_)) <;> (try refine h0c ?_; (refine h0k (t:=106) rfl Tryz.zeroValue106 ?_; intro nb hnb; (try simp only [Value.cells]))) <;> (try refine h0c ?_; (refine q_W ?_)) <;> (try refine h0a ?_)) | (refine gR 21 (p_e (q_f fo_67_5) (h:=p_e q_l (h:=p_e (q_f fo_106_0) (h:=q_e q_l ?_)))) <;> (try refine q_e (by apply h3t; exact rfl; (focus (apply h3u Tryz.underlying31 Tryz.underlying3; first | (refine IntWalk.i64_in _ ?_; omega) | (refine IntWalk.u8_in _ ?_; omega) | (refine IntWalk.u16_in _ ?_; omega) | (refine IntWalk.u32_in _ ?_; omega) | (refine IntWalk.u64_in _ ?_; omega) | (refine IntWalk.i32_in _ ?_; omega) | exact rfl))) ?_) <;> (try refine p_e (q_f fo_106_1) (h:=q_e q_l ?_)) <;> (try refine q_e (by apply h3t; exact rfl; (focus (apply h3u Tryz.underlying32 Tryz.underlying3; first | (refine IntWalk.i64_in _ ?_; omega) | (refine IntWalk.u8_in _ ?_; omega) | (refine IntWalk.u16_in _ ?_; omega) | (refine IntWalk.u32_in _ ?_; omega) | (refine IntWalk.u64_in _ ?_; omega) | (refine IntWalk.i32_in _ ?_; omega) | exact rfl))) ?_) <;> (try refine q_e (by exact h0q (t:=134) (fun vs => (match vs with | [(_, x0), (_, x1)] => [x0, x1] | _ => [])) rfl (fun w => by kernel_rfl)) ?_; (try simp only [Value.cells]); (try simp only [zzC, zzN])) <;> (try refine h0c ?_; (refine h0m (t:=65) (m:=1) (e:=134) (fun vs => (match vs with | [(_, x0)] => x0.cells.toList | _ => [])) rfl rfl (fun w => by kernel_rfl) ?_; intro nb hnb; (try simp only [Value.cells]); (try simp only [zzC, zzN]))) <;> (try refine h0c ?_; (apply h2b; exact rfl; exact Tryz.underlying65; exact inf_134_i; exact inf_134_z; exact inf_134_s; exact inf_134_b; exact rfl; exact rfl; exact rfl; exact Own.nil _ _; exact fd0; exact Nat.le_of_ble_eq_true rfl; exact h6c; exact rfl; exact h5t; omega; (exact fun _ H => H); exact rfl; exact h5x; exact c_4; intro vA eA hownA; obtain ⟨gA, capA, curA, rfl, rfl, hA1, hA2, hA3, hA4⟩ := hownA.some (by omega); (try simp only [zzC, zzN]))) <;> (try refine q_e (q_f fo_67_5) ?_) <;> (try refine h0c ?_; (refine q_S ?_)) <;> (try refine h0a ?_)) | (refine gR 22 ?_ <;> (try refine q_e (q_b (r:=by apply h1n; exact c_5; (focus (refine IntWalk.i64_in _ ?_; omega)))) ?_) <;> (try refine p_m (h:=h0a ?_))))
   all_goals exact h0w (k + 1, _, _) ⟨⟨by show k + 1 ≤ _; omega, hfi _ _ (h3v (g:=gA) hA1 hA2 hA3 hA4)⟩, by show _ - (k + 1) < _ - k; omega⟩ (by (focus (repeat (first | exact Sub.nil | refine Sub.cons rfl ?_)))) c_23
  ·rw [← q4] at hfi
   clear hown
   (try simp only [zzC, zzN])
   repeat' (first | refine h0i ?_ | refine h0b ?_ | refine h0s ?_ | refine h0x ?_ | refine h0j ?_ | refine h0r ?_ | refine h0g rfl ?_ | (refine gR 19 (p_e (q_b (r:=by exact h0u q_o)) (h:=h0a ?_))) | (refine gR 20 (p_e (by apply h0n; exact rfl; exact rfl; (focus (apply h2j Tryz.underlying34 h6e; omega; omega; exact c_1))) (h:=q_e (by apply h1u (t:=106); exact rfl; exact c_19; kernel_rfl; kernel_rfl; exact h6e; (with_reducible assumption); (with_reducible assumption)) ?_)) <;> (try refine h0c ?_; (refine h0k (t:=106) rfl Tryz.zeroValue106 ?_; intro nb hnb; (try simp only [Value.cells]))) <;> (try refine h0c ?_; (refine q_W ?_)) <;> (try refine h0a ?_)) | (refine gR 21 (p_e (q_f fo_67_5) (h:=p_e q_l (h:=p_e (q_f fo_106_0) (h:=q_e q_l ?_)))) <;> (try refine q_e (by apply h3t; exact rfl; (focus (apply h3u Tryz.underlying31 Tryz.underlying3; first | (refine IntWalk.i64_in _ ?_; omega) | (refine IntWalk.u8_in _ ?_; omega) | (refine IntWalk.u16_in _ ?_; omega) | (refine IntWalk.u32_in _ ?_; omega) | (refine IntWalk.u64_in _ ?_; omega) | (refine IntWalk.i32_in _ ?_; omega) | exact rfl))) ?_) <;> (try refine p_e (q_f fo_106_1) (h:=q_e q_l ?_)) <;> (try refine q_e (by apply h3t; exact rfl; (focus (apply h3u Tryz.underlying32 Tryz.underlying3; first | (refine IntWalk.i64_in _ ?_; omega) | (refine IntWalk.u8_in _ ?_; omega) | (refine IntWalk.u16_in _ ?_; omega) | (refine IntWalk.u32_in _ ?_; omega) | (refine IntWalk.u64_in _ ?_; omega) | (refine IntWalk.i32_in _ ?_; omega) | exact rfl))) ?_) <;> (try refine q_e (by exact h0q (t:=134) (fun vs => (match vs with | [(_, x0), (_, x1)] => [x0, x1] | _ => [])) rfl (fun w => by kernel_rfl)) ?_; (try simp only [Value.cells]); (try simp only [zzC, zzN])) <;> (try refine h0c ?_; (refine h0m (t:=65) (m:=1) (e:=134) (fun vs => (match vs with | [(_, x0)] => x0.cells.toList | _ => [])) rfl rfl (fun w => by kernel_rfl) ?_; intro nb hnb; (try simp only [Value.cells]); (try simp only [zzC, zzN]))) <;> (try refine h0c ?_; (apply h1m; exact rfl; exact Tryz.underlying65; exact inf_134_i; exact inf_134_z; exact inf_134_s; exact inf_134_b; exact rfl; exact rfl; exact rfl; exact h3i; (with_reducible assumption); (with_reducible assumption); (with_reducible assumption); exact fd0; exact Nat.le_of_ble_eq_true rfl; exact h6c; exact rfl; exact h5t; omega; exact rfl; exact h5x; exact c_4; (try simp only [zzE, zzF]); intro vA eA hownA; obtain ⟨gA, capA, curA, rfl, rfl, hA1, hA2, hA3, hA4⟩ := hownA.some (by omega); (try simp only [zzC, zzN]))) <;> (try refine q_e (q_f fo_67_5) ?_) <;> (try refine h0c ?_; (refine q_S ?_)) <;> (try refine h0a ?_)) | (refine gR 22 ?_ <;> (try refine q_e (q_b (r:=by apply h1n; exact c_5; (focus (refine IntWalk.i64_in _ ?_; omega)))) ?_) <;> (try refine p_m (h:=h0a ?_))))
   all_goals exact h0w (k + 1, _, _) ⟨⟨by show k + 1 ≤ _; omega, hfi _ _ (h3v (g:=gA) hA1 hA2 hA3 hA4)⟩, by show _ - (k + 1) < _ - k; omega⟩ (by (focus (repeat (first | exact Sub.nil | refine Sub.cons rfl ?_)))) c_23
 rintro ⟨vq, eq⟩ hownQ
 dsimp only at hownQ ⊢
 obtain ⟨xa, xc, rfl, -⟩ := hownQ.sli []
 repeat' (first | refine h0i ?_ | refine h0b ?_ | refine h0v ?_ | (refine gR 23 (q_e (q_L sz_67) ?_) <;> (try refine h0c ?_; (refine q_W ?_)) <;> (try refine h0a ?_)))
 (apply h5d Tryz.results19; exact rfl; (focus (repeat (first | exact fd0 | (with_reducible assumption) | apply fdA | apply fdS))); kernel_rfl; kernel_rfl; exact sz_67; exact c_16)
 refine ⟨_, ⟨⟨.slice va rules.length vc, .slice wa paths.length wc, .slice xa ports.length xc, cz, er, ec, ep, eq⟩, by dsimp only [refC]; rw [hnmB], ⟨hR, hownR, hownP, hownQ⟩, rfl⟩, fun w H => ?_⟩
 subst hL3 hL2
 have H2 : HP S w0 w (eq ++ (ep ++ (er ++ (ec ++ L)))) := by
  revert w
  intro w H; refine H.sub ?_; (try simp only [zzC, zzN]); repeat (first | exact List.Sublist.refl _ | refine List.Sublist.cons _ ?_)
 exact HP.re2 (env:=[eq, ep, er, ec, L]) [0, 1, 2, 3, 4] [2, 1, 0, 3, 4] (by decide) rfl (by unfold RfD.blocks; simp [flatB]) H2
def RCnS (L : List Blk) (v : Value) (cs : List GCnd) : Prop := ∃ a c, v = .slice a cs.length c ∧ Sli L a cs.length 4 (rgC cs) ∧ cs.length ≤ maxLen
def RRlG (L : List Blk) : List GRul → List Value → Prop
 | [], cz => cz = []
 | r :: rs, cz => ∃ v cz', cz = .int .u32 r.num :: .int .u32 r.act :: v :: cz' ∧ RCnS L v r.conds ∧ RRlG L rs cz'
structure RfS (L : List Blk) (P : GPol) (vr vp vq : Value) : Prop where
 rs : ∃ a c cz, vr = .slice a P.rules.length c ∧ Sli L a P.rules.length 3 cz ∧ RRlG L P.rules cz
 ps : ∃ a c, vp = .slice a P.paths.length c ∧ Sli L a P.paths.length 2 (rpC P.paths)
 qs : ∃ a c, vq = .slice a P.ports.length c ∧ Sli L a P.ports.length 2 (rqC P.ports)
 l1 : P.rules.length ≤ maxLen
 l2 : P.paths.length ≤ maxLen
 l3 : P.ports.length ≤ maxLen
theorem RCnS.upA {L : List Blk} {v : Value} {cs : List GCnd} (h : RCnS L v cs) (e : List Blk) : RCnS (e ++ L) v cs := let ⟨a, c, h1, h2, h3⟩ := h; ⟨a, c, h1, h2.upA e, h3⟩
theorem RCnS.left {L e : List Blk} {v : Value} {cs : List GCnd} (h : RCnS e v cs) : RCnS (e ++ L) v cs := let ⟨a, c, h1, h2, h3⟩ := h; ⟨a, c, h1, h2.left, h3⟩
theorem RRlG.upA {L : List Blk} (e : List Blk) : ∀ {rs : List GRul} {cz : List Value}, RRlG L rs cz → RRlG (e ++ L) rs cz
 | [], _, h => h
 | _ :: _, _, ⟨v, cz', h1, h2, h3⟩ => ⟨v, cz', h1, h2.upA e, RRlG.upA e h3⟩
theorem RRlG.left {L e : List Blk} : ∀ {rs : List GRul} {cz : List Value}, RRlG e rs cz → RRlG (e ++ L) rs cz
 | [], _, h => h
 | _ :: _, _, ⟨v, cz', h1, h2, h3⟩ => ⟨v, cz', h1, h2.left, RRlG.left h3⟩
theorem RfS.upA {L : List Blk} {P : GPol} {vr vp vq : Value} (h : RfS L P vr vp vq) (e : List Blk) : RfS (e ++ L) P vr vp vq := by
 obtain ⟨⟨a, c, cz, h1, h2, h3⟩, ⟨a2, c2, h4, h5⟩, ⟨a3, c3, h6, h7⟩, l1, l2, l3⟩ := h
 exact ⟨⟨a, c, cz, h1, h2.upA e, h3.upA e⟩, ⟨a2, c2, h4, h5.upA e⟩, ⟨a3, c3, h6, h7.upA e⟩, l1, l2, l3⟩
theorem RfS.left {L e : List Blk} {P : GPol} {vr vp vq : Value} (h : RfS e P vr vp vq) : RfS (e ++ L) P vr vp vq := by
 obtain ⟨⟨a, c, cz, h1, h2, h3⟩, ⟨a2, c2, h4, h5⟩, ⟨a3, c3, h6, h7⟩, l1, l2, l3⟩ := h
 exact ⟨⟨a, c, cz, h1, h2.left, h3.left⟩, ⟨a2, c2, h4, h5.left⟩, ⟨a3, c3, h6, h7.left⟩, l1, l2, l3⟩
theorem RRlG.at_ {L : List Blk} : ∀ {rs : List GRul} {cz : List Value} (_ : RRlG L rs cz) (k : Nat) (hk : k < rs.length), ∃ v, (cz.drop (k * 3)).take 3 = [.int .u32 (rs[k]).num, .int .u32 (rs[k]).act, v] ∧ RCnS L v (rs[k]).conds
 | r :: rs, cz, ⟨v, cz', h1, h2, h3⟩, 0, _ => ⟨v, by rw [h1]; rfl, h2⟩
 | r :: rs, cz, ⟨v, cz', h1, h2, h3⟩, k + 1, hk => by
  obtain ⟨v', e1, e2⟩ := RRlG.at_ h3 k (by simpa using hk)
  exact ⟨v', by rw [h1, show (k + 1) * 3 = 3 + k * 3 by omega, ← List.drop_drop]; exact e1, e2⟩
theorem RRlG.snoc {L : List Blk} {v : Value} {r : GRul} : ∀ {rs : List GRul} {cz : List Value}, RRlG L rs cz → RCnS L v r.conds → RRlG L (rs ++ [r]) (cz ++ [.int .u32 r.num, .int .u32 r.act, v])
 | [], cz, h, hc => by
  obtain rfl : cz = [] := h
  exact ⟨v, [], rfl, hc, rfl⟩
 | _ :: _, _, ⟨v2, cz', h1, h2, h3⟩, hc => ⟨v2, _, by rw [h1]; rfl, h2, RRlG.snoc h3 hc⟩
theorem RefR.g {rs : List GRul} {cz : List Value} {ec : List Blk} (h : RefR rs cz ec) (hl : ∀ r ∈ rs, r.conds.length ≤ maxLen) : RRlG ec rs cz := by
 induction h with
 | nil => rfl
 | @snoc rs cz ec r v e _ ho ih =>
  obtain ⟨a, c, hv, hs⟩ := ho.sli ec
  exact RRlG.snoc (RRlG.upA e (ih fun q hq => hl q (List.mem_append_left _ hq))) ⟨a, c, hv, hs, hl r (List.mem_append_right _ (List.mem_singleton.2 rfl))⟩
theorem RfD.ok.rfS {d : RfD} {P : GPol} (h : d.ok P) (hN : FewN P) : RfS d.blocks P d.vr d.vp d.vq := by
 obtain ⟨r1, r2, e1, s1⟩ := h.vr.sli (d.ep ++ (d.eq ++ d.ec))
 obtain ⟨p1, p2, e2, s2⟩ := h.vp.sli (d.eq ++ d.ec)
 obtain ⟨q1, q2, e3, s3⟩ := h.vq.sli d.ec
 have hm : (1000 : Nat) ≤ maxLen := by unfold maxLen; omega
 have g := RefR.g h.rs (fun r hr => Nat.le_trans (hN.conds r hr) hm)
 exact ⟨⟨r1, r2, d.cz, e1, s1, ((g.upA d.eq).upA d.ep).upA d.er⟩, ⟨p1, p2, e2, s2.upA d.er⟩, ⟨q1, q2, e3, (s3.upA d.ep).upA d.er⟩, Nat.le_trans hN.l1 hm, Nat.le_trans hN.l2 hm, Nat.le_trans hN.l3 hm⟩
theorem rpC_at (ps : List (List UInt8 × Nat)) (k : Nat) (h : k < ps.length) : ((rpC ps).drop (k * 2)).take 2 = [.string (mB8 (ps[k]).1), .int .i64 ((ps[k]).2 : Nat)] := by
 induction ps generalizing k with
 | nil => simp at h
 | cons c r ih =>
  cases k with
  | zero => simp [rpC]
  | succ k =>
   rw [rpC, List.flatMap_cons, ← rpC, show (k + 1) * 2 = 2 + k * 2 by omega, ← List.drop_drop]
   exact ih k (by simpa using h)
theorem rqC_at (ps : List (Nat × Nat)) (k : Nat) (h : k < ps.length) : ((rqC ps).drop (k * 2)).take 2 = [.int .i64 ((ps[k]).1 : Nat), .int .i64 ((ps[k]).2 : Nat)] := by
 induction ps generalizing k with
 | nil => simp at h
 | cons c r ih =>
  cases k with
  | zero => simp [rqC]
  | succ k =>
   rw [rqC, List.flatMap_cons, ← rqC, show (k + 1) * 2 = 2 + k * 2 by omega, ← List.drop_drop]
   exact ih k (by simpa using h)
theorem ne_rpath (a : ByteArray) (b : Int) : RBin Tryz.prog .neq 132 (.agg #[.string a, .int .i64 b]) (.agg #[.string a, .int .i64 b]) (.bool false) := by
 apply RBin.mk
 intro w
 go_simp
theorem ne_rport (a : Int) (b : Int) : RBin Tryz.prog .neq 134 (.agg #[.int .i64 a, .int .i64 b]) (.agg #[.int .i64 a, .int .i64 b]) (.bool false) := by
 apply RBin.mk
 intro w
 go_simp
theorem ne_rcond (a b c d : Int) : RBin Tryz.prog .neq 136 (.agg #[.int .i64 a, .int .i64 b, .int .u64 c, .int .u64 d]) (.agg #[.int .i64 a, .int .i64 b, .int .u64 c, .int .u64 d]) (.bool false) := by
 apply RBin.mk
 intro w
 go_simp
theorem rsamerule_c {S w0 L} (num act : Int) (cs : List GCnd) (v1 v2 : Value) (h1 : RCnS L v1 cs) (h2 : RCnS L v2 cs) :
  Fn Tryz.prog 45 #[.agg #[.int .u32 num, .int .u32 act, v1], .agg #[.int .u32 num, .int .u32 act, v2]] S w0 L fun v L' => v = .bool true ∧ L = L' := by
 obtain ⟨a1, c1, rfl, s1, l1⟩ := h1
 obtain ⟨a2, c2, rfl, s2, -⟩ := h2
 unfold maxLen at l1
 refine Fn2 Tryz.func45 Tryz.ntmps45 rfl rfl ?_
 repeat' (first | (refine h2h (id:=0) ?_) | refine h0i ?_ | refine h0b ?_ | refine h0r ?_ | refine h0f rfl ?_ | (refine gR 0 ?_ <;> (try refine h0c ?_; (refine h2n (t:=130) rfl rfl ?_; intro nb hnb; (try simp only [Value.cells]))) <;> (try refine h0c ?_; (refine h2n (t:=130) rfl rfl ?_; intro nb hnb; (try simp only [Value.cells]))) <;> (try refine p_a (h:=h0a ?_))) | (refine gR 1 (p_e (q_f fo_130_0) (h:=p_e q_l (h:=p_e (q_f fo_130_0) (h:=q_e q_l ?_)))) <;> (try refine q_e (by exact q_b (r:=by refine h1w ?_; first | rfl | (with_reducible assumption) | (decide; done) | omega)) ?_) <;> (try refine p_m (h:=p_y (q_f fo_130_1) (h:=p_y q_l (h:=p_y (q_f fo_130_1) (h:=q_y q_l ?_))))) <;> (try refine q_y (by exact q_b (r:=by refine h1w ?_; first | rfl | (with_reducible assumption) | (decide; done) | omega)) ?_) <;> (try refine p_p (h:=p_m (h:=p_y (q_f h4r) (h:=p_y q_l (h:=p_y (by apply h0e; exact rfl; exact (fun _ => BigFrame.builtin_len ..); apply h0d Tryz.underlying128; exact h3m) (h:=p_y (q_f h4r) (h:=p_y q_l (h:=q_y (by apply h0e; exact rfl; exact (fun _ => BigFrame.builtin_len ..); apply h0d Tryz.underlying128; exact h3m) ?_)))))))) <;> (try refine q_y (by exact q_b (r:=by refine h1w ?_; first | rfl | (with_reducible assumption) | (decide; done) | omega)) ?_) <;> (try refine p_p (h:=h0a ?_))) | (refine gR 3 (p_a (h:=h0a ?_))))
 refine ⟨?_⟩
 rename_i n1 _
 obtain ⟨n2, rfl⟩ : ∃ x, x = nb := ⟨_, rfl⟩
 refine h0j ?_
 refine h2i (γ:=Nat) (fun k => k ≤ cs.length) (fun k => cs.length - k) (fun k => [(5, .int .i64 (k : Nat))]) [(2, _), (3, _)] (fun _ => rrB n2 num act (.slice a2 cs.length c2) :: rrB n1 num act (.slice a1 cs.length c1) :: L) 0 (.cons rfl (.cons rfl .nil)) (Nat.zero_le _) (by (focus (repeat (first | exact Sub.nil | refine Sub.cons rfl ?_)))) (fun _ H => H) ?_
 intro k hk
 by_cases hlt : k < cs.length
 ·obtain ⟨j, q, bb, off, xs, T, fr, rfl, hj, hsz, hx⟩ := s1.elem hlt
  obtain ⟨j2, qb, bb2, off2, xs2, T2, fr2, rfl, hj2, hsz2, hx2⟩ := s2.elem hlt
  rw [rgC_at _ _ hlt] at hx hx2
  generalize cs[k] = p at *
  obtain ⟨ca, co, cm, cv⟩ := p
  dsimp only [GCnd.rc] at *
  have hne := ne_rcond ca (co : Nat) (cm : Nat) (cv : Nat)
  repeat' (first | refine h0i ?_ | refine h0b ?_ | refine h0s ?_ | refine h0x ?_ | refine h0j ?_ | refine h0r ?_ | refine h0g rfl ?_ | refine h0f rfl ?_ | (refine gR 4 (p_m (h:=p_e (q_f h4r) (h:=p_e q_l (h:=p_e (by apply h0e; exact rfl; exact (fun _ => BigFrame.builtin_len ..); apply h0d Tryz.underlying128; exact h3m) (h:=p_e (q_b (r:=by exact h0u q_o)) (h:=h0a ?_))))))) | ((refine h1z (id:=6) (m:=11) (by kernel_rfl) rfl (q_u 0 (x:=by exact q_f h4r) (h:=q_u 1 (x:=by exact q_l) (h:=q_u 2 (x:=by exact h0h rfl) (h:=q_u 3 (x:=by apply h0n; exact rfl; exact rfl; (focus (apply h2j Tryz.underlying128 sz_136; omega; omega; exact c_1))) (h:=q_u 4 (x:=by apply h1u (t:=136); exact rfl; exact c_19; kernel_rfl; kernel_rfl; exact sz_136; (with_reducible assumption); (with_reducible assumption)) (h:=q_u 5 (x:=by exact q_f h4r) (h:=q_u 6 (x:=by exact q_l) (h:=q_u 7 (x:=by exact h0h rfl) (h:=q_u 8 (x:=by apply h0n; exact rfl; exact rfl; (focus (apply h2j Tryz.underlying128 sz_136; omega; omega; exact c_1))) (h:=q_u 9 (x:=by apply h1u (t:=136); exact rfl; exact c_19; kernel_rfl; kernel_rfl; exact sz_136; (with_reducible assumption); (with_reducible assumption)) (h:=q_u 10 (x:=by apply h1l (op:=.neq) (t:=136); exact rfl; exact rfl; kernel_rfl; (with_reducible assumption)) (h:=h1a (by kernel_rfl) ?_)))))))))))))) | (refine gR 5 (q_m ?_) <;> (try refine q_e (q_b (r:=by apply h1n; exact c_5; (focus (refine IntWalk.i64_in _ ?_; omega)))) ?_) <;> (try refine p_a (h:=h0a ?_))))
  exact h0w (k + 1) ⟨by show k + 1 ≤ cs.length; omega, by show cs.length - (k + 1) < cs.length - k; omega⟩ (by (focus (repeat (first | exact Sub.nil | refine Sub.cons rfl ?_)))) (fun _ H => H)
 ·repeat' (first | refine h0i ?_ | refine h0b ?_ | refine h1p ?_ | refine h1f ?_ | refine h1o ?_ | refine h2c ?_ | refine h0v ?_ | refine h0f rfl ?_ | (refine gR 4 (p_m (h:=p_e (q_f h4r) (h:=p_e q_l (h:=p_e (by apply h0e; exact rfl; exact (fun _ => BigFrame.builtin_len ..); apply h0d Tryz.underlying128; exact h3m) (h:=p_e (q_b (r:=by exact h0y q_o)) (h:=h0a ?_))))))) | (refine gR 8 (p_a (h:=h0a ?_))))
  (refine h0o Tryz.results45 (.tmp rfl .nil) ?_)
  exact ⟨_, ⟨rfl, rfl⟩, by intro w H; refine H.sub ?_; (try simp only [zzC, zzN]); repeat (first | exact List.Sublist.refl _ | refine List.Sublist.cons _ ?_)⟩
set_option maxHeartbeats 2000000 in
theorem rsame_c {S w0 L} (P : GPol) (vr vp vq ur up uq : Value) (h1 : RfS L P vr vp vq) (h2 : RfS L P ur up uq) :
  Fn Tryz.prog 18 #[.agg #[.string (mB8 P.nm), .int .u32 P.df, vr, .int .i64 (P.hd : Nat), vp, vq], .agg #[.string (mB8 P.nm), .int .u32 P.df, ur, .int .i64 (P.hd : Nat), up, uq]] S w0 L fun v L' => v = .bool true ∧ L = L' := by
 obtain ⟨⟨a1, c1, z1, rfl, r1, g1⟩, ⟨a2, c2, rfl, p1⟩, ⟨a3, c3, rfl, q1⟩, l1, l2, l3⟩ := h1
 obtain ⟨⟨b1, d1, z2, rfl, r2, g2⟩, ⟨b2, d2, rfl, p2⟩, ⟨b3, d3, rfl, q2⟩, -, -, -⟩ := h2
 obtain ⟨nm, df, rs, hd, ps, qs⟩ := P
 dsimp only at *
 generalize mB8 nm = nm' at *
 unfold maxLen at l1 l2 l3
 refine Fn2 Tryz.func18 Tryz.ntmps18 rfl rfl ?_
 repeat' (first | (refine h2h (id:=0) ?_) | refine h0i ?_ | refine h0b ?_ | refine h0r ?_ | refine h0f rfl ?_ | (refine gR 0 ?_ <;> (try refine h0c ?_; (refine h2n (t:=67) rfl rfl ?_; intro nb hnb; (try simp only [Value.cells]))) <;> (try refine h0c ?_; (refine h2n (t:=67) rfl rfl ?_; intro nb hnb; (try simp only [Value.cells]))) <;> (try refine p_a (h:=h0a ?_))) | (refine gR 1 (p_e (q_f fo_67_0) (h:=p_e q_l (h:=p_e (q_f fo_67_0) (h:=p_e q_l (h:=p_e (q_b (r:=by exact rb_strne_s)) (h:=p_m (h:=p_y (q_f fo_67_1) (h:=p_y q_l (h:=p_y (q_f fo_67_1) (h:=q_y q_l ?_)))))))))) <;> (try refine q_y (by exact q_b (r:=by refine h1w ?_; first | rfl | (with_reducible assumption) | (decide; done) | omega)) ?_) <;> (try refine p_p (h:=p_m (h:=p_y (q_f fo_67_3) (h:=p_y q_l (h:=p_y (q_f fo_67_3) (h:=q_y q_l ?_)))))) <;> (try refine q_y (by exact q_b (r:=by refine h1w ?_; first | rfl | (with_reducible assumption) | (decide; done) | omega)) ?_) <;> (try refine p_p (h:=p_m (h:=p_y (q_f fo_67_2) (h:=p_y q_l (h:=p_y (by apply h0e; exact rfl; exact (fun _ => BigFrame.builtin_len ..); apply h0d Tryz.underlying63; exact h3m) (h:=p_y (q_f fo_67_2) (h:=p_y q_l (h:=q_y (by apply h0e; exact rfl; exact (fun _ => BigFrame.builtin_len ..); apply h0d Tryz.underlying63; exact h3m) ?_)))))))) <;> (try refine q_y (by exact q_b (r:=by refine h1w ?_; first | rfl | (with_reducible assumption) | (decide; done) | omega)) ?_) <;> (try refine p_p (h:=p_m (h:=p_y (q_f fo_67_4) (h:=p_y q_l (h:=p_y (by apply h0e; exact rfl; exact (fun _ => BigFrame.builtin_len ..); apply h0d Tryz.underlying64; exact h3m) (h:=p_y (q_f fo_67_4) (h:=p_y q_l (h:=q_y (by apply h0e; exact rfl; exact (fun _ => BigFrame.builtin_len ..); apply h0d Tryz.underlying64; exact h3m) ?_)))))))) <;> (try refine q_y (by exact q_b (r:=by refine h1w ?_; first | rfl | (with_reducible assumption) | (decide; done) | omega)) ?_) <;> (try refine p_p (h:=p_m (h:=p_y (q_f fo_67_5) (h:=p_y q_l (h:=p_y (by apply h0e; exact rfl; exact (fun _ => BigFrame.builtin_len ..); apply h0d Tryz.underlying65; exact h3m) (h:=p_y (q_f fo_67_5) (h:=p_y q_l (h:=q_y (by apply h0e; exact rfl; exact (fun _ => BigFrame.builtin_len ..); apply h0d Tryz.underlying65; exact h3m) ?_)))))))) <;> (try refine q_y (by exact q_b (r:=by refine h1w ?_; first | rfl | (with_reducible assumption) | (decide; done) | omega)) ?_) <;> (try refine p_p (h:=h0a ?_))) | (refine gR 3 (p_a (h:=h0a ?_))))
 refine ⟨?_⟩
 rename_i n1 _
 obtain ⟨n2, rfl⟩ : ∃ x, x = nb := ⟨_, rfl⟩
 obtain ⟨BA, hBA⟩ : ∃ b : Blk, b = rfB n1 nm' df (.slice a1 rs.length c1) hd (.slice a2 ps.length c2) (.slice a3 qs.length c3) := ⟨_, rfl⟩
 refine h2q (γ:=Unit) (fun _ => True) (fun _ => []) [(2, _), (3, _)]
  (fun _ => rfB n2 nm' df (.slice b1 rs.length d1) hd (.slice b2 ps.length d2) (.slice b3 qs.length d3) :: rfB n1 nm' df (.slice a1 rs.length c1) hd (.slice a2 ps.length c2) (.slice a3 qs.length c3) :: L) (.cons rfl (.cons rfl .nil)) ?_ ?_
 ·refine h0j ?_
  refine h2i (γ:=Nat) (fun k => k ≤ rs.length) (fun k => rs.length - k) (fun k => [(5, .int .i64 (k : Nat))]) [(2, _), (3, _)]
   (fun _ => rfB n2 nm' df (.slice b1 rs.length d1) hd (.slice b2 ps.length d2) (.slice b3 qs.length d3) :: rfB n1 nm' df (.slice a1 rs.length c1) hd (.slice a2 ps.length c2) (.slice a3 qs.length c3) :: L) 0 (.cons rfl (.cons rfl .nil)) (Nat.zero_le _) (by (focus (repeat (first | exact Sub.nil | refine Sub.cons rfl ?_)))) (fun _ H => H) ?_
  intro k hk
  by_cases hlt : k < rs.length
  ·obtain ⟨j, q, bb, off, cs, T, fr, rfl, hj, hsz, hx⟩ := r1.elem hlt
   obtain ⟨j2, qb, bb2, off2, cs2, T2, fr2, rfl, hj2, hsz2, hx2⟩ := r2.elem hlt
   obtain ⟨v1, e1, k1⟩ := g1.at_ k hlt
   obtain ⟨v2, e2, k2⟩ := g2.at_ k hlt
   obtain ⟨u1, y1, rfl, m1, o1⟩ := k1
   obtain ⟨u2, y2, rfl, m2, o2⟩ := k2
   rw [e1] at hx
   rw [e2] at hx2
   have hsr := fun (x1 x2 : Blk) => rsamerule_c (S:=S) (w0:=w0) (L:=[x1, x2] ++ L) rs[k].num rs[k].act rs[k].conds _ _ ⟨u1, y1, rfl, m1.upA _, o1⟩ ⟨u2, y2, rfl, m2.upA _, o2⟩
   simp only [List.cons_append, List.nil_append] at hsr
   clear m1 m2 e1 e2 o1 o2
   generalize rs[k] = r at *
   obtain ⟨rn, ra, rcs⟩ := r
   dsimp only at *
   repeat' (first | refine h0i ?_ | refine h0b ?_ | refine h0s ?_ | refine h0x ?_ | refine h0j ?_ | refine h0r ?_ | refine h0g rfl ?_ | refine h0f rfl ?_ | (refine gR 4 (p_m (h:=p_e (q_f fo_67_2) (h:=p_e q_l (h:=p_e (by apply h0e; exact rfl; exact (fun _ => BigFrame.builtin_len ..); apply h0d Tryz.underlying63; exact h3m) (h:=p_e (q_b (r:=by exact h0u q_o)) (h:=h0a ?_))))))) | ((refine h1z (id:=6) (m:=12) (by kernel_rfl) rfl (q_u 0 (x:=by exact q_f fo_67_2) (h:=q_u 1 (x:=by exact q_l) (h:=q_u 2 (x:=by exact h0h rfl) (h:=q_u 3 (x:=by apply h0n; exact rfl; exact rfl; (focus (apply h2j Tryz.underlying63 sz_130; omega; omega; exact c_1))) (h:=q_u 4 (x:=by apply h1u (t:=130); exact rfl; exact c_19; kernel_rfl; kernel_rfl; exact sz_130; (with_reducible assumption); (with_reducible assumption)) (h:=q_u 5 (x:=by exact q_f fo_67_2) (h:=q_u 6 (x:=by exact q_l) (h:=q_u 7 (x:=by exact h0h rfl) (h:=q_u 8 (x:=by apply h0n; exact rfl; exact rfl; (focus (apply h2j Tryz.underlying63 sz_130; omega; omega; exact c_1))) (h:=q_u 9 (x:=by apply h1u (t:=130); exact rfl; exact c_19; kernel_rfl; kernel_rfl; exact sz_130; (with_reducible assumption); (with_reducible assumption)) (h:=?_)))))))))))) <;> (try refine q_r 10 ?_; (refine q_c 45 (c:=by apply hsr) (h:=?_); rintro _ _ ⟨rfl, rfl⟩; (try simp only [zzE, zzF])); refine h1b (fun _ H => H) ?_) <;> (try refine q_u 11 (x:=by apply h5m; exact rfl; exact h1r) (h:=h1a (by kernel_rfl) ?_))) | (refine gR 5 (q_m ?_) <;> (try refine q_e (q_b (r:=by apply h1n; exact c_5; (focus (refine IntWalk.i64_in _ ?_; omega)))) ?_) <;> (try refine p_a (h:=h0a ?_))))
   exact h0w (k + 1) ⟨by show k + 1 ≤ rs.length; omega, by show rs.length - (k + 1) < rs.length - k; omega⟩ (by (focus (repeat (first | exact Sub.nil | refine Sub.cons rfl ?_)))) (fun _ H => H)
  ·repeat' (first | refine h0i ?_ | refine h0b ?_ | refine h0s ?_ | refine h1p ?_ | refine h1f ?_ | refine h1o ?_ | refine h2c ?_ | refine h0f rfl ?_ | (refine gR 4 (p_m (h:=p_e (q_f fo_67_2) (h:=p_e q_l (h:=p_e (by apply h0e; exact rfl; exact (fun _ => BigFrame.builtin_len ..); apply h0d Tryz.underlying63; exact h3m) (h:=p_e (q_b (r:=by exact h0y q_o)) (h:=h0a ?_))))))))
   exact h0w () trivial (by (focus (repeat (first | exact Sub.nil | refine Sub.cons rfl ?_)))) (fun _ H => H)
 rintro - -
 (try dsimp only)
 repeat' (first | (refine h2h (id:=2) ?_) | refine h0i ?_ | refine h0b ?_ | (refine gR 8 (p_a (h:=h0a ?_))))
 refine ⟨?_⟩
 refine h2q (γ:=Unit) (fun _ => True) (fun _ => []) [(2, _), (3, _)]
  (fun _ => rfB n2 nm' df (.slice b1 rs.length d1) hd (.slice b2 ps.length d2) (.slice b3 qs.length d3) :: rfB n1 nm' df (.slice a1 rs.length c1) hd (.slice a2 ps.length c2) (.slice a3 qs.length c3) :: L) (.cons rfl (.cons rfl .nil)) ?_ ?_
 ·refine h0j ?_
  refine h2i (γ:=Nat) (fun k => k ≤ ps.length) (fun k => ps.length - k) (fun k => [(6, .int .i64 (k : Nat))]) [(2, _), (3, _)]
   (fun _ => rfB n2 nm' df (.slice b1 rs.length d1) hd (.slice b2 ps.length d2) (.slice b3 qs.length d3) :: rfB n1 nm' df (.slice a1 rs.length c1) hd (.slice a2 ps.length c2) (.slice a3 qs.length c3) :: L) 0 (.cons rfl (.cons rfl .nil)) (Nat.zero_le _) (by (focus (repeat (first | exact Sub.nil | refine Sub.cons rfl ?_)))) (fun _ H => H) ?_
  intro k hk
  by_cases hlt : k < ps.length
  ·obtain ⟨j, q, bb, off, cs, T, fr, rfl, hj, hsz, hx⟩ := p1.elem hlt
   obtain ⟨j2, qb, bb2, off2, cs2, T2, fr2, rfl, hj2, hsz2, hx2⟩ := p2.elem hlt
   rw [rpC_at _ _ hlt] at hx hx2
   generalize ps[k] = p at *
   obtain ⟨pt, pr⟩ := p
   dsimp only at *
   have hne := ne_rpath (mB8 pt) (pr : Nat)
   repeat' (first | refine h0i ?_ | refine h0b ?_ | refine h0s ?_ | refine h0x ?_ | refine h0j ?_ | refine h0r ?_ | refine h0g rfl ?_ | refine h0f rfl ?_ | (refine gR 9 (p_m (h:=p_e (q_f fo_67_4) (h:=p_e q_l (h:=p_e (by apply h0e; exact rfl; exact (fun _ => BigFrame.builtin_len ..); apply h0d Tryz.underlying64; exact h3m) (h:=p_e (q_b (r:=by exact h0u q_o)) (h:=h0a ?_))))))) | ((refine h1z (id:=11) (m:=11) (by kernel_rfl) rfl (q_u 0 (x:=by exact q_f fo_67_4) (h:=q_u 1 (x:=by exact q_l) (h:=q_u 2 (x:=by exact h0h rfl) (h:=q_u 3 (x:=by apply h0n; exact rfl; exact rfl; (focus (apply h2j Tryz.underlying64 sz_132; omega; omega; exact c_1))) (h:=q_u 4 (x:=by apply h1u (t:=132); exact rfl; exact c_19; kernel_rfl; kernel_rfl; exact sz_132; (with_reducible assumption); (with_reducible assumption)) (h:=q_u 5 (x:=by exact q_f fo_67_4) (h:=q_u 6 (x:=by exact q_l) (h:=q_u 7 (x:=by exact h0h rfl) (h:=q_u 8 (x:=by apply h0n; exact rfl; exact rfl; (focus (apply h2j Tryz.underlying64 sz_132; omega; omega; exact c_1))) (h:=q_u 9 (x:=by apply h1u (t:=132); exact rfl; exact c_19; kernel_rfl; kernel_rfl; exact sz_132; (with_reducible assumption); (with_reducible assumption)) (h:=q_u 10 (x:=by apply h1l (op:=.neq) (t:=132); exact rfl; exact rfl; kernel_rfl; (with_reducible assumption)) (h:=h1a (by kernel_rfl) ?_)))))))))))))) | (refine gR 10 (q_m ?_) <;> (try refine q_e (q_b (r:=by apply h1n; exact c_5; (focus (refine IntWalk.i64_in _ ?_; omega)))) ?_) <;> (try refine p_a (h:=h0a ?_))))
   exact h0w (k + 1) ⟨by show k + 1 ≤ ps.length; omega, by show ps.length - (k + 1) < ps.length - k; omega⟩ (by (focus (repeat (first | exact Sub.nil | refine Sub.cons rfl ?_)))) (fun _ H => H)
  ·repeat' (first | refine h0i ?_ | refine h0b ?_ | refine h0s ?_ | refine h1p ?_ | refine h1f ?_ | refine h1o ?_ | refine h2c ?_ | refine h0f rfl ?_ | (refine gR 9 (p_m (h:=p_e (q_f fo_67_4) (h:=p_e q_l (h:=p_e (by apply h0e; exact rfl; exact (fun _ => BigFrame.builtin_len ..); apply h0d Tryz.underlying64; exact h3m) (h:=p_e (q_b (r:=by exact h0y q_o)) (h:=h0a ?_))))))))
   exact h0w () trivial (by (focus (repeat (first | exact Sub.nil | refine Sub.cons rfl ?_)))) (fun _ H => H)
 rintro - -
 (try dsimp only)
 repeat' (first | (refine h2h (id:=4) ?_) | refine h0i ?_ | refine h0b ?_ | (refine gR 13 (p_a (h:=h0a ?_))))
 refine ⟨?_⟩
 refine h0j ?_
 refine h2i (γ:=Nat) (fun k => k ≤ qs.length) (fun k => qs.length - k) (fun k => [(7, .int .i64 (k : Nat))]) [(2, _), (3, _)]
  (fun _ => rfB n2 nm' df (.slice b1 rs.length d1) hd (.slice b2 ps.length d2) (.slice b3 qs.length d3) :: rfB n1 nm' df (.slice a1 rs.length c1) hd (.slice a2 ps.length c2) (.slice a3 qs.length c3) :: L) 0 (.cons rfl (.cons rfl .nil)) (Nat.zero_le _) (by (focus (repeat (first | exact Sub.nil | refine Sub.cons rfl ?_)))) (fun _ H => H) ?_
 intro k hk
 by_cases hlt : k < qs.length
 ·obtain ⟨j, q, bb, off, cs, T, fr, rfl, hj, hsz, hx⟩ := q1.elem hlt
  obtain ⟨j2, qb, bb2, off2, cs2, T2, fr2, rfl, hj2, hsz2, hx2⟩ := q2.elem hlt
  rw [rqC_at _ _ hlt] at hx hx2
  generalize qs[k] = p at *
  obtain ⟨pt, pr⟩ := p
  dsimp only at *
  have hne := ne_rport (pt : Nat) (pr : Nat)
  repeat' (first | refine h0i ?_ | refine h0b ?_ | refine h0s ?_ | refine h0x ?_ | refine h0j ?_ | refine h0r ?_ | refine h0g rfl ?_ | refine h0f rfl ?_ | (refine gR 14 (p_m (h:=p_e (q_f fo_67_5) (h:=p_e q_l (h:=p_e (by apply h0e; exact rfl; exact (fun _ => BigFrame.builtin_len ..); apply h0d Tryz.underlying65; exact h3m) (h:=p_e (q_b (r:=by exact h0u q_o)) (h:=h0a ?_))))))) | ((refine h1z (id:=16) (m:=11) (by kernel_rfl) rfl (q_u 0 (x:=by exact q_f fo_67_5) (h:=q_u 1 (x:=by exact q_l) (h:=q_u 2 (x:=by exact h0h rfl) (h:=q_u 3 (x:=by apply h0n; exact rfl; exact rfl; (focus (apply h2j Tryz.underlying65 sz_134; omega; omega; exact c_1))) (h:=q_u 4 (x:=by apply h1u (t:=134); exact rfl; exact c_19; kernel_rfl; kernel_rfl; exact sz_134; (with_reducible assumption); (with_reducible assumption)) (h:=q_u 5 (x:=by exact q_f fo_67_5) (h:=q_u 6 (x:=by exact q_l) (h:=q_u 7 (x:=by exact h0h rfl) (h:=q_u 8 (x:=by apply h0n; exact rfl; exact rfl; (focus (apply h2j Tryz.underlying65 sz_134; omega; omega; exact c_1))) (h:=q_u 9 (x:=by apply h1u (t:=134); exact rfl; exact c_19; kernel_rfl; kernel_rfl; exact sz_134; (with_reducible assumption); (with_reducible assumption)) (h:=q_u 10 (x:=by apply h1l (op:=.neq) (t:=134); exact rfl; exact rfl; kernel_rfl; (with_reducible assumption)) (h:=h1a (by kernel_rfl) ?_)))))))))))))) | (refine gR 15 (q_m ?_) <;> (try refine q_e (q_b (r:=by apply h1n; exact c_5; (focus (refine IntWalk.i64_in _ ?_; omega)))) ?_) <;> (try refine p_a (h:=h0a ?_))))
  exact h0w (k + 1) ⟨by show k + 1 ≤ qs.length; omega, by show qs.length - (k + 1) < qs.length - k; omega⟩ (by (focus (repeat (first | exact Sub.nil | refine Sub.cons rfl ?_)))) (fun _ H => H)
 ·repeat' (first | refine h0i ?_ | refine h0b ?_ | refine h1p ?_ | refine h1f ?_ | refine h1o ?_ | refine h2c ?_ | refine h0v ?_ | refine h0f rfl ?_ | (refine gR 14 (p_m (h:=p_e (q_f fo_67_5) (h:=p_e q_l (h:=p_e (by apply h0e; exact rfl; exact (fun _ => BigFrame.builtin_len ..); apply h0d Tryz.underlying65; exact h3m) (h:=p_e (q_b (r:=by exact h0y q_o)) (h:=h0a ?_))))))) | (refine gR 18 (p_a (h:=h0a ?_))))
  (refine h0o Tryz.results18 (.tmp rfl .nil) ?_)
  exact ⟨_, ⟨rfl, rfl⟩, by intro w H; refine H.sub ?_; (try simp only [zzC, zzN]); repeat (first | exact List.Sublist.refl _ | refine List.Sublist.cons _ ?_)⟩
structure FewG (P : GPol) : Prop where
 conds : ∀ r ∈ P.rules, r.conds.length ≤ 20
 path : ∀ p ∈ P.paths, p.1.length ≤ 200
 l1 : P.rules.length ≤ 80
 l2 : P.paths.length ≤ 50
 l3 : P.ports.length ≤ 50
 nm : P.nm.length ≤ 100
theorem take_all {α : Type} {p : α → Prop} {l : List α} {k : Nat} (h : ∀ x ∈ l.take k, p x) (hk : k < l.length) (h2 : p l[k]) : ∀ x ∈ l.take (k + 1), p x := by
 rw [List.take_succ_eq_append_getElem hk]
 exact mem_app1 h h2
set_option maxHeartbeats 1000000 in
theorem few_c {S w0 L} (P : GPol) (vr vp vq : Value) (hS : PolS L P vr vp vq) (hpp : ∀ p ∈ P.paths, p.1.length ≤ maxLen) (hnm : P.nm.length ≤ maxLen) : Fn Tryz.prog 16 #[.agg (polG P vr vp vq).toArray] S w0 L fun v L' => ∃ b : Bool, v = .bool b ∧ (b = true → FewG P) ∧ L = L' := by
 obtain ⟨⟨ra, rc, cz, rfl, hrs, hrg⟩, ⟨pa, pc, rfl, hps⟩, ⟨qa, qc, rfl, hqs⟩, hl1, hl2, hl3⟩ := hS
 obtain ⟨nm, df, rules, hd, paths, ports⟩ := P
 dsimp only [polG] at *
 have hnz : (mB8 nm).size = nm.length := h2d nm
 generalize mB8 nm = nmB at *
 unfold maxLen at hl1 hl2 hl3 hpp hnm
 refine Fn1 Tryz.func16 Tryz.ntmps16 rfl rfl ?_
 repeat' (first | (refine h2h (id:=0) ?_) | refine h0i ?_ | refine h0b ?_ | (refine gR 0 ?_ <;> (try refine h0c ?_; (refine h2n (t:=36) rfl rfl ?_; intro nb hnb; (try simp only [Value.cells]))) <;> (try refine p_a (h:=h0a ?_))) | (refine gR 1 (p_e (q_f h2t) (h:=p_e q_l (h:=p_e (by apply h0e; exact rfl; exact (fun _ => BigFrame.builtin_len ..); apply h0d Tryz.underlying30; exact h3m) (h:=p_m (h:=h0a ?_)))))))
 refine ⟨?_⟩
 obtain ⟨n1, rfl⟩ : ∃ x, x = nb := ⟨_, rfl⟩
 refine h2q (γ:=Unit) (fun _ => ∀ r ∈ rules, r.conds.length ≤ 20) (fun _ => []) [(1, _)]
  (fun _ => ⟨true, n1, .cells #[.string nmB, .int .u32 df, .slice ra rules.length rc, .int .u16 (hd : Nat), .slice pa paths.length pc, .slice qa ports.length qc] 36 (0, 0)⟩ :: L) (.cons rfl .nil) ?_ ?_
 ·refine h0j ?_
  refine h2i (γ:=Nat) (fun k => k ≤ rules.length ∧ ∀ r ∈ rules.take k, r.conds.length ≤ 20) (fun k => rules.length - k) (fun k => [(10, .int .i64 (k : Nat))]) [(1, _), (8, _), (9, _)]
   (fun _ => ⟨true, n1, .cells #[.string nmB, .int .u32 df, .slice ra rules.length rc, .int .u16 (hd : Nat), .slice pa paths.length pc, .slice qa ports.length qc] 36 (0, 0)⟩ :: L) 0 (.cons rfl (.cons rfl (.cons rfl .nil))) ⟨Nat.zero_le _, fun _ h => by cases h⟩ (by (focus (repeat (first | exact Sub.nil | refine Sub.cons rfl ?_)))) (fun _ H => H) ?_
  rintro k ⟨hk, hc⟩
  (try dsimp only at hk hc ⊢)
  by_cases hlt : k < rules.length
  case neg =>
   obtain rfl : k = rules.length := by omega
   rw [List.take_length] at hc
   repeat' (first | refine h0i ?_ | refine h0b ?_ | refine h0s ?_ | refine h1p ?_ | refine h1f ?_ | refine h1o ?_ | refine h2c ?_ | refine h0f rfl ?_ | (refine gR 2 (p_e (q_b (r:=by exact h0y q_o)) (h:=h0a ?_))))
   exact h0w () hc (by (focus (repeat (first | exact Sub.nil | refine Sub.cons rfl ?_)))) (fun _ H => H)
  obtain ⟨j, q, bb, off, cs, T, fr, rfl, hj, hsz, hx⟩ := hrs.elem hlt
  obtain ⟨v, hv, hcs⟩ := hrg.at_ k hlt
  rw [hv] at hx
  obtain ⟨ca, cc, rfl, -, hcl⟩ := hcs
  unfold maxLen at hcl
  have hc2 := take_all (p:=fun r : GRul => r.conds.length ≤ 20) hc hlt
  clear hv
  generalize rules[k] = r at *
  obtain ⟨num, act, conds⟩ := r
  dsimp only at *
  by_cases h20 : 20 < conds.length
  ·repeat' (first | refine h0i ?_ | refine h0b ?_ | refine h3q ?_ | refine h0t ?_ | refine h1k ?_ | refine h0j ?_ | refine h0r ?_ | refine h0v ?_ | refine h0g rfl ?_ | (refine gR 2 (p_e (q_b (r:=by exact h0u q_o)) (h:=h0a ?_))) | (refine gR 3 (p_e (by apply h0n; exact rfl; exact rfl; (focus (apply h2j Tryz.underlying30 sz_73; omega; omega; exact c_1))) (h:=q_e (by apply h1u (t:=73); exact rfl; exact c_19; kernel_rfl; kernel_rfl; exact sz_73; (with_reducible assumption); (with_reducible assumption)) ?_)) <;> (try refine h0c ?_; (refine h0k (t:=73) rfl Tryz.zeroValue73 ?_; intro nb hnb; (try simp only [Value.cells]))) <;> (try refine h0c ?_; (refine q_W ?_)) <;> (try refine h0a ?_)) | (refine gR 4 (p_e (q_f h2w) (h:=p_e q_l (h:=p_e (by apply h0e; exact rfl; exact (fun _ => BigFrame.builtin_len ..); apply h0d Tryz.underlying71; exact h3m) (h:=p_e (q_b (r:=by exact h1x q_o)) (h:=h0a ?_)))))) | (refine gR 5 (p_a (h:=h0a ?_))))
   (refine h0o Tryz.results16 (.tmp rfl .nil) ?_)
   exact ⟨_, ⟨_, rfl, (fun h => by cases h), rfl⟩, by intro w H; refine H.sub ?_; (try simp only [zzC, zzN]); repeat (first | exact List.Sublist.refl _ | refine List.Sublist.cons _ ?_)⟩
  ·repeat' (first | refine h0i ?_ | refine h0b ?_ | refine h0s ?_ | refine h0x ?_ | refine h0j ?_ | refine h0r ?_ | refine h0g rfl ?_ | refine h0f rfl ?_ | (refine gR 2 (p_e (q_b (r:=by exact h0u q_o)) (h:=h0a ?_))) | (refine gR 3 (p_e (by apply h0n; exact rfl; exact rfl; (focus (apply h2j Tryz.underlying30 sz_73; omega; omega; exact c_1))) (h:=q_e (by apply h1u (t:=73); exact rfl; exact c_19; kernel_rfl; kernel_rfl; exact sz_73; (with_reducible assumption); (with_reducible assumption)) ?_)) <;> (try refine h0c ?_; (refine h0k (t:=73) rfl Tryz.zeroValue73 ?_; intro nb hnb; (try simp only [Value.cells]))) <;> (try refine h0c ?_; (refine q_W ?_)) <;> (try refine h0a ?_)) | (refine gR 4 (p_e (q_f h2w) (h:=p_e q_l (h:=p_e (by apply h0e; exact rfl; exact (fun _ => BigFrame.builtin_len ..); apply h0d Tryz.underlying71; exact h3m) (h:=p_e (q_b (r:=by exact h1h q_o)) (h:=h0a ?_)))))) | (refine gR 6 ?_ <;> (try refine q_e (q_b (r:=by apply h1n; exact c_5; (focus (refine IntWalk.i64_in _ ?_; omega)))) ?_) <;> (try refine p_m (h:=h0a ?_))))
   exact h0w (k + 1) ⟨⟨by show k + 1 ≤ _; omega, hc2 (by omega)⟩, by show _ - (k + 1) < _ - k; omega⟩ (by (focus (repeat (first | exact Sub.nil | refine Sub.cons rfl ?_)))) (fun _ H => H.tail)
 rintro - hcc
 (try dsimp only)
 repeat' (first | (refine h2h (id:=2) ?_) | refine h0i ?_ | refine h0b ?_ | (refine gR 7 (p_e (q_f h3h) (h:=p_e q_l (h:=p_e (by apply h0e; exact rfl; exact (fun _ => BigFrame.builtin_len ..); apply h0d Tryz.underlying33; exact h3m) (h:=p_m (h:=h0a ?_)))))))
 refine ⟨?_⟩
 refine h2q (γ:=Unit) (fun _ => ∀ p ∈ paths, p.1.length ≤ 200) (fun _ => []) [(1, _)]
  (fun _ => ⟨true, n1, .cells #[.string nmB, .int .u32 df, .slice ra rules.length rc, .int .u16 (hd : Nat), .slice pa paths.length pc, .slice qa ports.length qc] 36 (0, 0)⟩ :: L) (.cons rfl .nil) ?_ ?_
 ·refine h0j ?_
  refine h2i (γ:=Nat) (fun k => k ≤ paths.length ∧ ∀ r ∈ paths.take k, r.1.length ≤ 200) (fun k => paths.length - k) (fun k => [(22, .int .i64 (k : Nat))]) [(1, _), (20, _), (21, _)]
   (fun _ => ⟨true, n1, .cells #[.string nmB, .int .u32 df, .slice ra rules.length rc, .int .u16 (hd : Nat), .slice pa paths.length pc, .slice qa ports.length qc] 36 (0, 0)⟩ :: L) 0 (.cons rfl (.cons rfl (.cons rfl .nil))) ⟨Nat.zero_le _, fun _ h => by cases h⟩ (by (focus (repeat (first | exact Sub.nil | refine Sub.cons rfl ?_)))) (fun _ H => H) ?_
  rintro k ⟨hk, hc⟩
  (try dsimp only at hk hc ⊢)
  by_cases hlt : k < paths.length
  case neg =>
   obtain rfl : k = paths.length := by omega
   rw [List.take_length] at hc
   repeat' (first | refine h0i ?_ | refine h0b ?_ | refine h0s ?_ | refine h1p ?_ | refine h1f ?_ | refine h1o ?_ | refine h2c ?_ | refine h0f rfl ?_ | (refine gR 8 (p_e (q_b (r:=by exact h0y q_o)) (h:=h0a ?_))))
   exact h0w () hc (by (focus (repeat (first | exact Sub.nil | refine Sub.cons rfl ?_)))) (fun _ H => H)
  obtain ⟨j, q, bb, off, cs, T, fr, rfl, hj, hsz, hx⟩ := hps.elem hlt
  rw [pthC_at _ _ hlt] at hx
  have hc2 := take_all (p:=fun r : List UInt8 × Nat => r.1.length ≤ 200) hc hlt
  have hp1 := hpp _ (List.getElem_mem hlt)
  generalize paths[k] = p at *
  obtain ⟨pt, pr⟩ := p
  dsimp only at *
  have hpz : (mB8 pt).size = pt.length := h2d pt
  generalize mB8 pt = ptB at *
  by_cases h20 : 200 < pt.length
  ·repeat' (first | refine h0i ?_ | refine h0b ?_ | refine h3q ?_ | refine h0t ?_ | refine h1k ?_ | refine h0j ?_ | refine h0r ?_ | refine h0v ?_ | refine h0g rfl ?_ | (refine gR 8 (p_e (q_b (r:=by exact h0u q_o)) (h:=h0a ?_))) | (refine gR 9 (p_e (by apply h0n; exact rfl; exact rfl; (focus (apply h2j Tryz.underlying33 h4x; omega; omega; exact c_1))) (h:=q_e (by apply h1u (t:=104); exact rfl; exact c_19; kernel_rfl; kernel_rfl; exact h4x; (with_reducible assumption); (with_reducible assumption)) ?_)) <;> (try refine h0c ?_; (refine h0k (t:=104) rfl Tryz.zeroValue104 ?_; intro nb hnb; (try simp only [Value.cells]))) <;> (try refine h0c ?_; (refine q_W ?_)) <;> (try refine h0a ?_)) | (refine gR 10 (p_e (q_f h5f) (h:=p_e q_l (h:=p_e (h0e rfl (fun _ => BigFrame.builtin_len ..) (h0p Tryz.underlying9)) (h:=p_e (q_b (r:=by exact h1x q_o)) (h:=h0a ?_)))))) | (refine gR 11 (p_a (h:=h0a ?_))))
   (refine h0o Tryz.results16 (.tmp rfl .nil) ?_)
   exact ⟨_, ⟨_, rfl, (fun h => by cases h), rfl⟩, by intro w H; refine H.sub ?_; (try simp only [zzC, zzN]); repeat (first | exact List.Sublist.refl _ | refine List.Sublist.cons _ ?_)⟩
  ·repeat' (first | refine h0i ?_ | refine h0b ?_ | refine h0s ?_ | refine h0x ?_ | refine h0j ?_ | refine h0r ?_ | refine h0g rfl ?_ | refine h0f rfl ?_ | (refine gR 8 (p_e (q_b (r:=by exact h0u q_o)) (h:=h0a ?_))) | (refine gR 9 (p_e (by apply h0n; exact rfl; exact rfl; (focus (apply h2j Tryz.underlying33 h4x; omega; omega; exact c_1))) (h:=q_e (by apply h1u (t:=104); exact rfl; exact c_19; kernel_rfl; kernel_rfl; exact h4x; (with_reducible assumption); (with_reducible assumption)) ?_)) <;> (try refine h0c ?_; (refine h0k (t:=104) rfl Tryz.zeroValue104 ?_; intro nb hnb; (try simp only [Value.cells]))) <;> (try refine h0c ?_; (refine q_W ?_)) <;> (try refine h0a ?_)) | (refine gR 10 (p_e (q_f h5f) (h:=p_e q_l (h:=p_e (h0e rfl (fun _ => BigFrame.builtin_len ..) (h0p Tryz.underlying9)) (h:=p_e (q_b (r:=by exact h1h q_o)) (h:=h0a ?_)))))) | (refine gR 12 ?_ <;> (try refine q_e (q_b (r:=by apply h1n; exact c_5; (focus (refine IntWalk.i64_in _ ?_; omega)))) ?_) <;> (try refine p_m (h:=h0a ?_))))
   exact h0w (k + 1) ⟨⟨by show k + 1 ≤ _; omega, hc2 (by omega)⟩, by show _ - (k + 1) < _ - k; omega⟩ (by (focus (repeat (first | exact Sub.nil | refine Sub.cons rfl ?_)))) (fun _ H => H.tail)
 rintro - hpc
 (try dsimp only)
 by_cases c1 : rules.length ≤ 80
 ·by_cases c2 : paths.length ≤ 50
  ·by_cases c3 : ports.length ≤ 50
   ·by_cases c4 : nm.length ≤ 100
    ·repeat' (first | refine h0i ?_ | refine h0b ?_ | refine h0v ?_ | (refine gR 13 (p_e (q_f h2t) (h:=p_e q_l (h:=p_e (by apply h0e; exact rfl; exact (fun _ => BigFrame.builtin_len ..); apply h0d Tryz.underlying30; exact h3m) (h:=p_e (q_b (r:=by exact h4p q_o)) (h:=p_m (h:=p_y (q_f h3h) (h:=p_y q_l (h:=p_y (by apply h0e; exact rfl; exact (fun _ => BigFrame.builtin_len ..); apply h0d Tryz.underlying33; exact h3m) (h:=p_y (q_b (r:=by exact h4p q_o)) (h:=p_p (h:=p_m (h:=p_y (q_f h3p) (h:=p_y q_l (h:=p_y (by apply h0e; exact rfl; exact (fun _ => BigFrame.builtin_len ..); apply h0d Tryz.underlying34; exact h3m) (h:=p_y (q_b (r:=by exact h4p q_o)) (h:=p_p (h:=p_m (h:=p_y (q_f h6b) (h:=p_y q_l (h:=p_y (h0e rfl (fun _ => BigFrame.builtin_len ..) (h0p Tryz.underlying9)) (h:=p_y (q_b (r:=by exact h4p q_o)) (h:=p_p (h:=p_a (h:=h0a ?_))))))))))))))))))))))))))
     (refine h0o Tryz.results16 (.tmp rfl .nil) ?_)
     exact ⟨_, ⟨true, rfl, (fun _ => ⟨hcc, hpc, c1, c2, c3, c4⟩), rfl⟩, by intro w H; refine H.sub ?_; (try simp only [zzC, zzN]); repeat (first | exact List.Sublist.refl _ | refine List.Sublist.cons _ ?_)⟩
    ·repeat' (first | refine h0i ?_ | refine h0b ?_ | refine h0v ?_ | (refine gR 13 (p_e (q_f h2t) (h:=p_e q_l (h:=p_e (by apply h0e; exact rfl; exact (fun _ => BigFrame.builtin_len ..); apply h0d Tryz.underlying30; exact h3m) (h:=p_e (q_b (r:=by exact h4p q_o)) (h:=p_m (h:=p_y (q_f h3h) (h:=p_y q_l (h:=p_y (by apply h0e; exact rfl; exact (fun _ => BigFrame.builtin_len ..); apply h0d Tryz.underlying33; exact h3m) (h:=p_y (q_b (r:=by exact h4p q_o)) (h:=p_p (h:=p_m (h:=p_y (q_f h3p) (h:=p_y q_l (h:=p_y (by apply h0e; exact rfl; exact (fun _ => BigFrame.builtin_len ..); apply h0d Tryz.underlying34; exact h3m) (h:=p_y (q_b (r:=by exact h4p q_o)) (h:=p_p (h:=p_m (h:=p_y (q_f h6b) (h:=p_y q_l (h:=p_y (h0e rfl (fun _ => BigFrame.builtin_len ..) (h0p Tryz.underlying9)) (h:=p_y (q_b (r:=by exact rb_leq_f q_o)) (h:=p_p (h:=p_a (h:=h0a ?_))))))))))))))))))))))))))
     (refine h0o Tryz.results16 (.tmp rfl .nil) ?_)
     exact ⟨_, ⟨false, rfl, (fun h => by cases h), rfl⟩, by intro w H; refine H.sub ?_; (try simp only [zzC, zzN]); repeat (first | exact List.Sublist.refl _ | refine List.Sublist.cons _ ?_)⟩
   ·repeat' (first | refine h0i ?_ | refine h0b ?_ | refine h0v ?_ | (refine gR 13 (p_e (q_f h2t) (h:=p_e q_l (h:=p_e (by apply h0e; exact rfl; exact (fun _ => BigFrame.builtin_len ..); apply h0d Tryz.underlying30; exact h3m) (h:=p_e (q_b (r:=by exact h4p q_o)) (h:=p_m (h:=p_y (q_f h3h) (h:=p_y q_l (h:=p_y (by apply h0e; exact rfl; exact (fun _ => BigFrame.builtin_len ..); apply h0d Tryz.underlying33; exact h3m) (h:=p_y (q_b (r:=by exact h4p q_o)) (h:=p_p (h:=p_m (h:=p_y (q_f h3p) (h:=p_y q_l (h:=p_y (by apply h0e; exact rfl; exact (fun _ => BigFrame.builtin_len ..); apply h0d Tryz.underlying34; exact h3m) (h:=p_y (q_b (r:=by exact rb_leq_f q_o)) (h:=p_p (h:=p_m (h:=p_z (h:=p_z (h:=p_z (h:=p_z (h:=p_p (h:=p_a (h:=h0a ?_))))))))))))))))))))))))))
    (refine h0o Tryz.results16 (.tmp rfl .nil) ?_)
    exact ⟨_, ⟨false, rfl, (fun h => by cases h), rfl⟩, by intro w H; refine H.sub ?_; (try simp only [zzC, zzN]); repeat (first | exact List.Sublist.refl _ | refine List.Sublist.cons _ ?_)⟩
  ·repeat' (first | refine h0i ?_ | refine h0b ?_ | refine h0v ?_ | (refine gR 13 (p_e (q_f h2t) (h:=p_e q_l (h:=p_e (by apply h0e; exact rfl; exact (fun _ => BigFrame.builtin_len ..); apply h0d Tryz.underlying30; exact h3m) (h:=p_e (q_b (r:=by exact h4p q_o)) (h:=p_m (h:=p_y (q_f h3h) (h:=p_y q_l (h:=p_y (by apply h0e; exact rfl; exact (fun _ => BigFrame.builtin_len ..); apply h0d Tryz.underlying33; exact h3m) (h:=p_y (q_b (r:=by exact rb_leq_f q_o)) (h:=p_p (h:=p_m (h:=p_z (h:=p_z (h:=p_z (h:=p_z (h:=p_p (h:=p_m (h:=p_z (h:=p_z (h:=p_z (h:=p_z (h:=p_p (h:=p_a (h:=h0a ?_))))))))))))))))))))))))))
   (refine h0o Tryz.results16 (.tmp rfl .nil) ?_)
   exact ⟨_, ⟨false, rfl, (fun h => by cases h), rfl⟩, by intro w H; refine H.sub ?_; (try simp only [zzC, zzN]); repeat (first | exact List.Sublist.refl _ | refine List.Sublist.cons _ ?_)⟩
 ·repeat' (first | refine h0i ?_ | refine h0b ?_ | refine h0v ?_ | (refine gR 13 (p_e (q_f h2t) (h:=p_e q_l (h:=p_e (by apply h0e; exact rfl; exact (fun _ => BigFrame.builtin_len ..); apply h0d Tryz.underlying30; exact h3m) (h:=p_e (q_b (r:=by exact rb_leq_f q_o)) (h:=p_m (h:=p_z (h:=p_z (h:=p_z (h:=p_z (h:=p_p (h:=p_m (h:=p_z (h:=p_z (h:=p_z (h:=p_z (h:=p_p (h:=p_m (h:=p_z (h:=p_z (h:=p_z (h:=p_z (h:=p_p (h:=p_a (h:=h0a ?_))))))))))))))))))))))))))
  (refine h0o Tryz.results16 (.tmp rfl .nil) ?_)
  exact ⟨_, ⟨false, rfl, (fun h => by cases h), rfl⟩, by intro w H; refine H.sub ?_; (try simp only [zzC, zzN]); repeat (first | exact List.Sublist.refl _ | refine List.Sublist.cons _ ?_)⟩
def wsep : List UInt8 := [32, 9, 32]
def wend : List UInt8 := [32, 32, 35, 32, 120, 32, 121, 10, 10]
def whead : List UInt8 := [35, 32, 102, 105, 114, 115, 116, 10, 10]
def wideB (c : UInt8) : List UInt8 := if c = 32 then wsep else if c = 10 then wend else [c]
def wspcL : List W3 → List UInt8
 | [] => []
 | w :: r => w.2.1 ++ r.flatMap fun v => wsep ++ v.2.1
def widL (D : List (List W3)) : List UInt8 := D.flatMap fun ws => wspcL ws ++ wend
def wideT (l : List UInt8) : List UInt8 := whead ++ l.flatMap wideB
theorem w_no32 {w : W3} (h : WOk w) : ∀ x ∈ w.2.1, x ≠ 32 ∧ x ≠ 10 := by
 intro x hx
 refine ⟨fun e => ?_, (h.no x hx).1⟩
 obtain ⟨c, r, -, -, hk⟩ := h.good.word
 have h1 := h.good.pred x hx
 have h2 := blk_pred c x (by rw [e]; decide)
 rw [hk] at h2
 rw [h1] at h2
 cases h2
theorem wide_id {l : List UInt8} (h : ∀ x ∈ l, x ≠ 32 ∧ x ≠ 10) : l.flatMap wideB = l := by
 induction l with
 | nil => rfl
 | cons c r ih =>
  have hc := h c (List.mem_cons_self ..)
  rw [List.flatMap_cons, ih (fun x hx => h x (List.mem_cons_of_mem _ hx))]
  unfold wideB
  rw [if_neg hc.1, if_neg hc.2]
  rfl
theorem wide_spc {ws : List W3} (h : ∀ w ∈ ws, WOk w) : (spcL ws).flatMap wideB = wspcL ws := by
 cases ws with
 | nil => rfl
 | cons w r =>
  have key : ∀ r : List W3, (∀ w ∈ r, WOk w) → (r.flatMap fun v => 32 :: v.2.1).flatMap wideB = r.flatMap fun v => wsep ++ v.2.1 := by
   intro r
   induction r with
   | nil => intro _; rfl
   | cons v r ih =>
    intro h
    rw [List.flatMap_cons, List.flatMap_cons, List.flatMap_append, ih (fun w hw => h w (List.mem_cons_of_mem _ hw)), List.flatMap_cons, wide_id (w_no32 (h v (List.mem_cons_self ..)))]
    rfl
  unfold spcL wspcL
  rw [List.flatMap_append, key r (fun w hw => h w (List.mem_cons_of_mem _ hw)), wide_id (w_no32 (h w (List.mem_cons_self ..)))]
theorem wide_lns (D : List (List W3)) (h : ∀ ws ∈ D, ∀ w ∈ ws, WOk w) : (lnsT D).flatMap wideB = widL D := by
 induction D with
 | nil => rfl
 | cons ws D ih =>
  have e : lnsT (ws :: D) = spcL ws ++ [10] ++ lnsT D := rfl
  rw [e, List.flatMap_append, List.flatMap_append, ih (fun v hv => h v (List.mem_cons_of_mem _ hv)), wide_spc (h ws (List.mem_cons_self ..))]
  rfl
def gapX : List W3 → List (List UInt8 × Tk)
 | [] => []
 | w :: r => ([], tk0 w) :: r.map fun v => (wsep, tk0 v)
theorem pcs_gapX (ws : List W3) : pcs (gapX ws) = wspcL ws := by
 cases ws with
 | nil => rfl
 | cons w r =>
  rw [gapX, pcs_cons]
  show [] ++ w.2.1 ++ pcs (r.map fun v => (wsep, tk0 v)) = w.2.1 ++ r.flatMap fun v => wsep ++ v.2.1
  rw [List.nil_append]
  congr 1
  induction r with
  | nil => rfl
  | cons v r ih => rw [List.map_cons, pcs_cons, ih, List.flatMap_cons]; rfl
theorem blkX : Blks wsep := by
 intro x hx
 simp only [wsep, List.mem_cons, List.not_mem_nil, or_false] at hx
 rcases hx with rfl | rfl | rfl <;> decide
theorem apart_gapX (ws : List W3) (h : ∀ w ∈ ws, WOk w) : Apart (gapX ws) := by
 cases ws with
 | nil => trivial
 | cons w r =>
  have key : ∀ r : List W3, (∀ w ∈ r, WOk w) → Apart (r.map fun v => (wsep, tk0 v)) := by
   intro r
   induction r with
   | nil => intro _; trivial
   | cons v r ih =>
    intro h
    refine ⟨blkX, (h v (List.mem_cons_self ..)).good, ?_, ih (fun w hw => h w (List.mem_cons_of_mem _ hw))⟩
    intro q hq
    cases r with
    | nil => cases hq
    | cons u r =>
     have : q = (wsep, tk0 u) := (Option.some.inj hq).symm
     rw [this]; simp [wsep]
  refine ⟨(fun x hx => by cases hx), (h w (List.mem_cons_self ..)).good, ?_, key r (fun w hw => h w (List.mem_cons_of_mem _ hw))⟩
  intro q hq
  cases r with
  | nil => cases hq
  | cons u r =>
   have : q = (wsep, tk0 u) := (Option.some.inj hq).symm
   rw [this]; simp [wsep]
theorem gapX_kn (ws : List W3) : (gapX ws).map (fun p => kn p.2) = ws := by
 cases ws with
 | nil => rfl
 | cons w r =>
  rw [gapX, List.map_cons, List.map_map]
  show w :: r.map (fun v => (v.1, v.2.1, v.2.2)) = w :: r
  rw [show (fun v : W3 => (v.1, v.2.1, v.2.2)) = id from rfl, List.map_id]
theorem wspc_no {ws : List W3} (h : ∀ w ∈ ws, WOk w) : ∀ x ∈ wspcL ws, x ≠ 10 ∧ x ≠ 35 := by
 rw [← pcs_gapX]
 refine pcs_no (fun p hp => ?_)
 have hm : (p.1 = [] ∨ p.1 = wsep) ∧ ∃ w ∈ ws, p.2 = tk0 w := by
  cases ws with
  | nil => cases hp
  | cons w r =>
   rcases List.mem_cons.1 hp with rfl | hp
   ·exact ⟨Or.inl rfl, w, List.mem_cons_self .., rfl⟩
   ·obtain ⟨v, hv, rfl⟩ := List.mem_map.1 hp
    exact ⟨Or.inr rfl, v, List.mem_cons_of_mem _ hv, rfl⟩
 obtain ⟨h1, w, hw, h2⟩ := hm
 refine ⟨fun x hx => ?_, fun x hx => ?_⟩
 ·rcases h1 with h1 | h1 <;> rw [h1] at hx
  ·cases hx
  ·simp only [wsep, List.mem_cons, List.not_mem_nil, or_false] at hx
   rcases hx with rfl | rfl | rfl <;> decide
 ·rw [h2] at hx
  exact (h w hw).no x hx
theorem lexAll_wide (D : List (List W3)) (h : LinesOk D) : ∀ (n : Nat) (out : List Tk), ∃ ts, h4y n (h1g 10 (widL D)) out = (out ++ ts, none) ∧ ts.map kn = (toks D).map kn := by
 induction D with
 | nil =>
  intro n out
  refine ⟨[], ?_, rfl⟩
  show h4y n (h1g 10 []) out = _
  rw [splitC_no (fun h => by cases h), lexAll_none (fun line => by rw [headF_id (fun h => by cases h)]; exact ln_blank (fun x hx => by cases hx) line), h4y, List.append_nil]
 | cons ws D ih =>
  intro n out
  have hok := h.ok ws (List.mem_cons_self ..)
  have hno := wspc_no hok
  have e1 : widL (ws :: D) = (wspcL ws ++ [32, 32, 35, 32, 120, 32, 121]) ++ 10 :: ([] ++ 10 :: widL D) := by
   show (wspcL ws ++ wend) ++ widL D = _
   simp [wend]
  rw [e1, splitC_ln (by
   intro hm
   rcases List.mem_append.1 hm with hm | hm
   ·exact (hno 10 hm).1 rfl
   ·revert hm; decide), splitC_ln (fun h => by cases h)]
  have hp : h4v 35 (wspcL ws ++ [32, 32, 35, 32, 120, 32, 121]) = pcs (gapX ws) ++ [32, 32] := by
   rw [pcs_gapX, show wspcL ws ++ [32, 32, 35, 32, 120, 32, 121] = (wspcL ws ++ [32, 32]) ++ 35 :: [32, 120, 32, 121] by simp, headF_cut]
   intro hm
   rcases List.mem_append.1 hm with hm | hm
   ·exact (hno 35 hm).2 rfl
   ·revert hm; decide
  have hne : gapX ws ≠ [] := by
   cases hx : ws with
   | nil => exact absurd hx (h.ne ws (List.mem_cons_self ..))
   | cons w r => simp [gapX]
  rw [lexAll_line (apart_gapX ws hok) hne (fun x hx => by
   simp only [List.mem_cons, List.not_mem_nil, or_false] at hx
   rcases hx with rfl | rfl <;> decide) hp, lexAll_none (fun line => by rw [headF_id (fun h => by cases h)]; exact ln_blank (fun x hx => by cases hx) line)]
  obtain ⟨ts, h1, h2⟩ := ih ⟨fun v hv => h.ne v (List.mem_cons_of_mem _ hv), fun v hv => h.ok v (List.mem_cons_of_mem _ hv)⟩ (n + 1 + 1) (out ++ tokL (n + 1) 0 (gapX ws) ++ [⟨0, [], 0, n + 1, (pcs (gapX ws) ++ [32, 32]).length + 1⟩])
  refine ⟨tokL (n + 1) 0 (gapX ws) ++ ([⟨0, [], 0, n + 1, (pcs (gapX ws) ++ [32, 32]).length + 1⟩] ++ ts), by rw [h1]; simp, ?_⟩
  rw [toks_cons]
  simp only [List.map_append, List.map_cons, List.map_nil, h2, tokL_kn, gapX_kn, List.singleton_append]
  have e : (ws.map tk0).map kn = ws := by
   rw [List.map_map, show (kn ∘ tk0) = id from rfl, List.map_id]
  rw [e]; rfl
theorem lex_wide (D : List (List W3)) (h : LinesOk D) (hl : (whead ++ widL D).length ≤ 65536) : ∃ ts, lexF (whead ++ widL D) = (ts, none) ∧ ts.map kn = (toks D).map kn := by
 unfold lexF
 rw [if_neg (by omega)]
 have e1 : whead ++ widL D = [35, 32, 102, 105, 114, 115, 116] ++ 10 :: ([] ++ 10 :: widL D) := rfl
 rw [e1, splitC_ln (by decide), splitC_ln (fun h => by cases h)]
 rw [lexAll_none (fun line => by
  have : h4v 35 ([35, 32, 102, 105, 114, 115, 116] : List UInt8) = [] := headF_cut (X:=[]) (y:=[32, 102, 105, 114, 115, 116]) (fun h => by cases h)
  rw [this]; exact ln_blank (fun x hx => by cases hx) line), lexAll_none (fun line => by rw [headF_id (fun h => by cases h)]; exact ln_blank (fun x hx => by cases hx) line)]
 obtain ⟨ts, h1, h2⟩ := lexAll_wide D h (0 + 1 + 1) []
 exact ⟨ts, h1, h2⟩
theorem wspcL_len (ws : List W3) : (wspcL ws).length ≤ (ws.map fun w => w.2.1.length + 1).sum + 2 * ws.length := by
 cases ws with
 | nil => exact Nat.zero_le _
 | cons w r =>
  have key : ∀ r : List W3, (r.flatMap fun v => wsep ++ v.2.1).length = (r.map fun w => w.2.1.length + 1).sum + 2 * r.length := by
   intro r
   induction r with
   | nil => rfl
   | cons v r ih =>
    rw [List.flatMap_cons, List.length_append, ih, List.map_cons, List.sum_cons, List.length_append, List.length_cons]
    have : wsep.length = 3 := rfl
    omega
  unfold wspcL
  rw [List.length_append, key, List.map_cons, List.sum_cons, List.length_cons]
  omega
theorem widL_len (D : List (List W3)) (k c : Nat) (h : ∀ ws ∈ D, (ws.map fun w => w.2.1.length + 1).sum ≤ k ∧ ws.length ≤ c) : (widL D).length ≤ D.length * (k + 2 * c + 9) := by
 induction D with
 | nil => exact Nat.zero_le _
 | cons ws D ih =>
  have h1 := h ws (List.mem_cons_self ..)
  have h2 := ih (fun v hv => h v (List.mem_cons_of_mem _ hv))
  have h3 := wspcL_len ws
  have e : widL (ws :: D) = (wspcL ws ++ wend) ++ widL D := rfl
  have e2 : wend.length = 9 := rfl
  rw [e, List.length_append, List.length_append, List.length_cons, Nat.succ_mul]
  omega
theorem widL_app (A B : List (List W3)) : widL (A ++ B) = widL A ++ widL B := by simp [widL]
theorem cndsL_cnt (cs : List Cnd) : ∀ key, (cndsL key cs).length ≤ 6 * cs.length := by
 induction cs with
 | nil => intro _; exact Nat.zero_le _
 | cons c r ih =>
  intro key
  have := ih tAnd
  have h2 : (cndL c).length ≤ 5 := by unfold cndL; split <;> simp
  rw [cndsL, List.length_cons, List.length_append, List.length_cons]
  omega
theorem actL_cnt (a : Int) : (actL a).length ≤ 2 := by
 unfold actL
 split
 ·simp
 ·split
  ·simp
  ·split <;> simp
theorem wide_len (P : Pol) (h : PolOk P) (hr : PolRn P) : (whead ++ widL (polL P)).length ≤ 65536 := by
 obtain ⟨n1, n2⟩ := nm_ok h.nm
 obtain ⟨a1, a2, a3⟩ := actL_ok h.df
 have hru : ∀ ws ∈ P.rules.map rulL, (ws.map fun w => w.2.1.length + 1).sum ≤ 390 ∧ ws.length ≤ 40 := by
  intro ws hws
  obtain ⟨r, hr1, rfl⟩ := List.mem_map.1 hws
  refine ⟨(rulL_ok (h.rules r hr1) (hr.c r hr1)).2.2, ?_⟩
  have h1 := cndsL_cnt r.conds tIf
  have h2 := actL_cnt r.act
  have h3 := (h.rules r hr1).len
  unfold rulL
  rw [List.length_cons, List.length_cons, List.length_append]
  omega
 have hha : ∀ ws ∈ hanL P.hd, (ws.map fun w => w.2.1.length + 1).sum ≤ 390 ∧ ws.length ≤ 2 := by
  intro ws hws
  unfold hanL at hws
  split at hws
  ·rename_i h0
   obtain ⟨r1, r2⟩ := rg_ok h0 h.hd
   rw [List.mem_singleton.1 hws]
   refine ⟨?_, by simp⟩
   show tHandle.length + 1 + ((rgT P.hd).length + 1 + 0) ≤ 390
   have e : tHandle.length = 6 := rfl
   omega
  ·cases hws
 have hpa : ∀ ws ∈ P.paths.map benL, (ws.map fun w => w.2.1.length + 1).sum ≤ 450 ∧ ws.length ≤ 3 := by
  intro ws hws
  obtain ⟨p, hp, rfl⟩ := List.mem_map.1 hws
  obtain ⟨g1, g2, g3, g4⟩ := h.paths p hp
  obtain ⟨p1, p2⟩ := wP_ok g1
  obtain ⟨r1, r2⟩ := rg_ok g2 (and_sub g3 h.hd)
  refine ⟨?_, by simp [benL]⟩
  show tBeneath.length + 1 + (p.1.length + 1 + ((rgT p.2).length + 1 + 0)) ≤ 450
  have e : tBeneath.length = 7 := rfl
  omega
 have hpo : ∀ ws ∈ P.ports.map porL, (ws.map fun w => w.2.1.length + 1).sum ≤ 390 ∧ ws.length ≤ 3 := by
  intro ws hws
  obtain ⟨p, hp, rfl⟩ := List.mem_map.1 hws
  obtain ⟨g1, g2, g3, g4⟩ := h.ports p hp
  obtain ⟨r1, r2⟩ := rg_ok g2 (and_sub g3 h.hd)
  have hd := d20 (n:=p.1) (by omega)
  refine ⟨?_, by simp [porL]⟩
  show tPort.length + 1 + ((decF p.1).length + 1 + ((rgT p.2).length + 1 + 0)) ≤ 390
  have e : tPort.length = 4 := rfl
  omega
 have hh : ∀ ws ∈ [[wN tPolicy, wN P.nm], wN tDefault :: actL P.df], (ws.map fun w => w.2.1.length + 1).sum ≤ 40 ∧ ws.length ≤ 3 := by
  intro ws hws
  rcases List.mem_cons.1 hws with rfl | hws
  ·refine ⟨?_, by simp⟩
   show tPolicy.length + 1 + (P.nm.length + 1 + 0) ≤ 40
   have e : tPolicy.length = 6 := rfl
   omega
  ·rw [List.mem_singleton.1 hws]
   refine ⟨?_, ?_⟩
   ·rw [List.map_cons, List.sum_cons]
    show tDefault.length + 1 + _ ≤ 40
    have e : tDefault.length = 7 := rfl
    omega
   ·have := actL_cnt P.df
    rw [List.length_cons]; omega
 have e : polL P = [[wN tPolicy, wN P.nm], wN tDefault :: actL P.df] ++ (P.rules.map rulL ++ (hanL P.hd ++ (P.paths.map benL ++ P.ports.map porL))) := rfl
 rw [e, widL_app, widL_app, widL_app, widL_app]
 have b1 := widL_len _ _ _ hh
 have b2 := widL_len _ _ _ hru
 have b3 := widL_len _ _ _ hha
 have b4 := widL_len _ _ _ hpa
 have b5 := widL_len _ _ _ hpo
 have l3 : (hanL P.hd).length ≤ 1 := by unfold hanL; split <;> simp
 rw [List.length_map] at b2 b4 b5
 simp only [List.length_append]
 have l1 := h.l1
 have l2 := h.l2
 have l4 := h.l3
 have lw : whead.length = 9 := rfl
 simp only [List.length_cons, List.length_nil] at b1
 omega
theorem polT_wide (P : Pol) (h : PolOk P) (hr : PolRn P) : wideT (polT P) = whead ++ widL (polL P) := by
 unfold wideT polT
 rw [wide_lns _ (polL_ok P h hr).1.ok]
theorem pol_wide (P : Pol) (h : PolOk P) (hr : PolRn P) : polF (wideT (polT P)) = (P, (0, 0, 0)) := by
 rw [polT_wide P h hr]
 obtain ⟨ts, h3, h4⟩ := lex_wide (polL P) (polL_ok P h hr).1 (wide_len P h hr)
 exact pol_words P h h3 h4
theorem pred_lt : ∀ k : Fin 5, ∀ x : Fin 256, 1 ≤ k.val → h5o k.val (UInt8.ofNat x.val) = true → x.val < 128 := by decide +kernel
theorem w_lt {w : W3} (h : WOk w) : ∀ x ∈ w.2.1, x.toNat < 128 := by
 intro x hx
 obtain ⟨c, r, -, -, hk⟩ := h.good.word
 have hk4 : h2e c = 1 ∨ h2e c = 2 ∨ h2e c = 3 ∨ h2e c = 4 := by
  unfold h2e
  split
  ·left; rfl
  ·split
   ·right; left; rfl
   ·split
    ·right; right; left; rfl
    ·right; right; right; rfl
 have h1 := h.good.pred x hx
 have e : (UInt8.ofNat x.toNat) = x := by simp
 have hl : x.toNat < 256 := x.toNat_lt
 rw [hk] at hk4
 refine pred_lt ⟨(tk0 w).kind, by omega⟩ ⟨x.toNat, hl⟩ (by show 1 ≤ (tk0 w).kind; omega) ?_
 dsimp only
 rw [e]
 exact h1
theorem polT_byte (P : Pol) (h : PolOk P) (hr : PolRn P) : ∀ x ∈ polT P, x.toNat < 128 := by
 have hL := (polL_ok P h hr).1
 intro x hx
 obtain ⟨ws, hws, hx⟩ := List.mem_flatMap.1 hx
 have hok := hL.ok ws hws
 rcases List.mem_append.1 hx with hx | hx
 ·cases ws with
  | nil => cases hx
  | cons w r =>
   rcases List.mem_append.1 hx with hx | hx
   ·exact w_lt (hok w (List.mem_cons_self ..)) x hx
   ·obtain ⟨v, hv, hx⟩ := List.mem_flatMap.1 hx
    rcases List.mem_cons.1 hx with rfl | hx
    ·decide
    ·exact w_lt (hok v (List.mem_cons_of_mem _ hv)) x hx
 ·rw [List.mem_singleton.1 hx]; decide
structure SubB (X L : List Blk) : Prop where
 mem : ∀ b ∈ X, b ∈ L
theorem SubB.refl (X : List Blk) : SubB X X := ⟨fun _ h => h⟩
theorem SubB.left (X R : List Blk) : SubB X (X ++ R) := ⟨fun _ h => List.mem_append_left _ h⟩
theorem SubB.app {X R Y : List Blk} (h : SubB X R) : SubB (Y ++ X) (Y ++ R) := ⟨fun b hb => (List.mem_append.1 hb).elim (fun h => List.mem_append_left _ h) (fun hx => List.mem_append_right _ (h.mem b hx))⟩
theorem SubB.up {X L : List Blk} {x : Blk} (h : SubB X L) : SubB X (x :: L) := ⟨fun b hb => List.mem_cons_of_mem _ (h.mem b hb)⟩
theorem SubB.upA {X L e : List Blk} (h : SubB X L) : SubB X (e ++ L) := ⟨fun b hb => List.mem_append_right _ (h.mem b hb)⟩
theorem PrE.subB {pb ct rb n : Nat} {L0 M : List Blk} (h : PrE pb ct rb n L0 M) : SubB L0 M := ⟨fun _ hb => h.sub.subset hb⟩
theorem Sli.mono {X L : List Blk} {a : Option Addr} {n size : Nat} {xs : List Value} (h : Sli X a n size xs) (hs : SubB X L) : Sli L a n size xs := by
 refine ⟨h.1, ?_⟩
 rcases h.2 with h1 | ⟨i, q, b, off, cs, T, fr, h1, h2, h3⟩
 ·exact Or.inl h1
 ·obtain ⟨j, hj⟩ := List.mem_iff_getElem?.1 (hs.mem _ (List.mem_iff_getElem?.2 ⟨i, h2⟩))
  exact Or.inr ⟨j, q, b, off, cs, T, fr, h1, hj, h3⟩
theorem CndS.mono {X L : List Blk} {v : Value} {cs : List GCnd} (h : CndS X v cs) (hs : SubB X L) : CndS L v cs := let ⟨a, c, h1, h2, h3⟩ := h; ⟨a, c, h1, h2.mono hs, h3⟩
theorem RulsG.mono {X L : List Blk} (hs : SubB X L) : ∀ {rs : List GRul} {cz : List Value}, RulsG X rs cz → RulsG L rs cz
 | [], _, h => h
 | _ :: _, _, ⟨v, cz', h1, h2, h3⟩ => ⟨v, cz', h1, h2.mono hs, RulsG.mono hs h3⟩
theorem PolS.mono {X L : List Blk} {P : GPol} {vr vp vq : Value} (h : PolS X P vr vp vq) (hs : SubB X L) : PolS L P vr vp vq := by
 obtain ⟨⟨a, c, cz, h1, h2, h3⟩, ⟨a2, c2, h4, h5⟩, ⟨a3, c3, h6, h7⟩, l1, l2, l3⟩ := h
 exact ⟨⟨a, c, cz, h1, h2.mono hs, h3.mono hs⟩, ⟨a2, c2, h4, h5.mono hs⟩, ⟨a3, c3, h6, h7.mono hs⟩, l1, l2, l3⟩
theorem RCnS.mono {X L : List Blk} {v : Value} {cs : List GCnd} (h : RCnS X v cs) (hs : SubB X L) : RCnS L v cs := let ⟨a, c, h1, h2, h3⟩ := h; ⟨a, c, h1, h2.mono hs, h3⟩
theorem RRlG.mono {X L : List Blk} (hs : SubB X L) : ∀ {rs : List GRul} {cz : List Value}, RRlG X rs cz → RRlG L rs cz
 | [], _, h => h
 | _ :: _, _, ⟨v, cz', h1, h2, h3⟩ => ⟨v, cz', h1, h2.mono hs, RRlG.mono hs h3⟩
theorem RfS.mono {X L : List Blk} {P : GPol} {vr vp vq : Value} (h : RfS X P vr vp vq) (hs : SubB X L) : RfS L P vr vp vq := by
 obtain ⟨⟨a, c, cz, h1, h2, h3⟩, ⟨a2, c2, h4, h5⟩, ⟨a3, c3, h6, h7⟩, l1, l2, l3⟩ := h
 exact ⟨⟨a, c, cz, h1, h2.mono hs, h3.mono hs⟩, ⟨a2, c2, h4, h5.mono hs⟩, ⟨a3, c3, h6, h7.mono hs⟩, l1, l2, l3⟩
theorem same_m {S w0 L} {X1 X2 : List Blk} (P : GPol) {vr vp vq ur up uq : Value} (h1 : PolS X1 P vr vp vq) (h2 : PolS X2 P ur up uq) (s1 : SubB X1 L) (s2 : SubB X2 L) :
  Fn Tryz.prog 14 #[.agg #[.string (mB8 P.nm), .int .u32 P.df, vr, .int .u16 (P.hd : Nat), vp, vq], .agg #[.string (mB8 P.nm), .int .u32 P.df, ur, .int .u16 (P.hd : Nat), up, uq]] S w0 L fun v L' => v = .bool true ∧ L = L' :=
 psame_c (S:=S) (w0:=w0) P _ _ _ _ _ _ (h1.mono s1) (h2.mono s2)
theorem ref_m {S w0 L} {X : List Blk} (P : GPol) (hP : P.ok) (hN : FewN P) {vr vp vq : Value} (h : PolS X P vr vp vq) (s : SubB X L) :
  Fn Tryz.prog 19 #[.agg #[.string (mB8 P.nm), .int .u32 P.df, vr, .int .u16 (P.hd : Nat), vp, vq]] S w0 L fun v L' => ∃ (r1 p1 q1 : Option Addr) (r3 p3 q3 : Nat) (D : List Blk), v = .agg #[.string (mB8 P.nm), .int .u32 P.df, .slice r1 P.rules.length r3, .int .i64 (P.hd : Nat), .slice p1 P.paths.length p3, .slice q1 P.ports.length q3] ∧ RfS D P (.slice r1 P.rules.length r3) (.slice p1 P.paths.length p3) (.slice q1 P.ports.length q3) ∧ D ++ L = L' := by
 refine (ref_c (S:=S) (w0:=w0) P hP hN vr vp vq (h.mono s)).mono ?_
 rintro v L' ⟨d, rfl, hd, rfl⟩
 have hR := hd.rfS hN
 obtain ⟨⟨r1, r3, -, e1, -⟩, ⟨p1, p3, e2, -⟩, ⟨q1, q3, e3, -⟩, -⟩ := id hR
 rw [e1, e2, e3] at hR
 exact ⟨_, ⟨r1, p1, q1, r3, p3, q3, d.blocks, by dsimp only [refC]; rw [e1, e2, e3], hR, rfl⟩, fun _ H => H⟩
theorem rsame_m {S w0 L} {X1 X2 : List Blk} (P : GPol) {vr vp vq ur up uq : Value} (h1 : RfS X1 P vr vp vq) (h2 : RfS X2 P ur up uq) (s1 : SubB X1 L) (s2 : SubB X2 L) :
  Fn Tryz.prog 18 #[.agg #[.string (mB8 P.nm), .int .u32 P.df, vr, .int .i64 (P.hd : Nat), vp, vq], .agg #[.string (mB8 P.nm), .int .u32 P.df, ur, .int .i64 (P.hd : Nat), up, uq]] S w0 L fun v L' => v = .bool true ∧ L = L' :=
 rsame_c (S:=S) (w0:=w0) P _ _ _ _ _ _ (h1.mono s1) (h2.mono s2)
theorem check_m {S w0} {pb ct rb n : Nat} {L0 M L B E : List Blk} (P : GPol) (hP : P.ok) (hr : P.rules.length ≤ 1000) {vr vp vq : Value} (hS : PolS (E ++ L0) P vr vp vq) (hM : PrE pb ct rb n L0 M) (hn : n ≤ 90000) (hL : Tl L B (E ++ M)) :
  Fn Tryz.prog 17 #[.agg #[.string (mB8 P.nm), .int .u32 P.df, vr, .int .u16 (P.hd : Nat), vp, vq], .pointer (some ⟨ct, 0, none⟩)] S w0 L fun v L' => ∃ n' M', v = .int .i64 (chkG P : Nat) ∧ n' ≤ n + P.rules.length ∧ PrE pb ct rb n' L0 M' ∧ B ++ (E ++ M') = L' := by
 have e : L = (B ++ E) ++ M := by rw [hL.eq, List.append_assoc]
 rw [e]
 refine (check_x (S:=S) (w0:=w0) (B ++ E) hM hn P hP _ _ _ (by rw [List.append_assoc]; exact hS.upA B) hr).mono ?_
 rintro v L' ⟨n', M', rfl, hn', hM', rfl⟩
 exact ⟨_, ⟨n', M', rfl, hn', hM', rfl⟩, fun _ H => by rw [List.append_assoc] at H; exact H⟩
theorem text_m {S w0} {pb ct rb n : Nat} {L0 M L B E : List Blk} (P : Pol) (hP : PolOk P) (hR : PolRn P) {vr vp vq : Value} (hS : PolS (E ++ L0) P.g vr vp vq) (hM : PrE pb ct rb n L0 M) (hn : n ≤ 90000) (hL : Tl L B (E ++ M)) :
  Fn Tryz.prog 13 #[.agg #[.string (mB8 P.nm), .int .u32 P.df, vr, .int .u16 (P.hd : Nat), vp, vq], .pointer (some ⟨ct, 0, none⟩)] S w0 L fun v L' => ∃ M', v = .string (mB8 (polT P)) ∧ PrE pb ct rb (n + P.rules.length) L0 M' ∧ B ++ (E ++ M') = L' := by
 have e : L = (B ++ E) ++ M := by rw [hL.eq, List.append_assoc]
 rw [e]
 refine (text_x (S:=S) (w0:=w0) (B ++ E) hM hn P hP hR _ _ _ (by rw [List.append_assoc]; exact hS.upA B)).mono ?_
 rintro v L' ⟨M', rfl, hM', rfl⟩
 exact ⟨_, ⟨M', rfl, hM', rfl⟩, fun _ H => by rw [List.append_assoc] at H; exact H⟩
def GCnd.c (c : GCnd) : Cnd := ⟨c.arg.toNat, c.op, c.mask, c.val⟩
def GRul.r (r : GRul) : RulP := ⟨r.num, r.act, r.conds.map GCnd.c⟩
def GPol.p (P : GPol) : Pol := ⟨P.nm, P.df, P.rules.map GRul.r, P.hd, P.paths, P.ports⟩
theorem chkC_arg {c : GCnd} (h : chkC c = 0) : 0 ≤ c.arg := by
 unfold chkC at h
 split at h
 ·cases h
 ·omega
theorem gpol_pg {P : GPol} (h : chkG P = 0) : P.p.g = P := by
 have hr : ∀ r ∈ P.rules, ∀ c ∈ r.conds, 0 ≤ c.arg := by
  intro r hr c hc
  unfold chkG at h
  split at h
  ·cases h
  split at h
  ·cases h
  split at h
  ·cases h
  split at h
  ·cases h
  split at h
  ·rename_i h5; exact absurd h h5
  ·rename_i h5
   have h6 := firstE_z.1 (Decidable.byContradiction h5) (chkR r) (List.mem_map.2 ⟨r, hr, rfl⟩)
   unfold chkR at h6
   split at h6
   ·cases h6
   split at h6
   ·cases h6
   split at h6
   ·cases h6
   exact chkC_arg (firstE_z.1 h6 (chkC c) (List.mem_map.2 ⟨c, hc, rfl⟩))
 obtain ⟨nm, df, rules, hd, paths, ports⟩ := P
 unfold GPol.p Pol.g
 dsimp only at *
 congr 1
 rw [List.map_map]
 conv => rhs; rw [← List.map_id rules]
 refine List.map_congr_left (fun r hr2 => ?_)
 obtain ⟨num, act, conds⟩ := r
 show (⟨num, act, (conds.map GCnd.c).map Cnd.g⟩ : GRul) = ⟨num, act, conds⟩
 congr 1
 rw [List.map_map]
 conv => rhs; rw [← List.map_id conds]
 refine List.map_congr_left (fun c hc => ?_)
 have := hr _ hr2 c hc
 obtain ⟨a, o, m, v⟩ := c
 show (⟨((a.toNat : Nat) : Int), o, m, v⟩ : GCnd) = ⟨a, o, m, v⟩
 dsimp only at this
 rw [Int.toNat_of_nonneg this]
theorem gpol_ok {P : GPol} (h : chkG P = 0) (hP : P.ok) : PolOk P.p ∧ PolRn P.p := by
 have e := gpol_pg h
 refine ⟨(chkG_z (P:=P.p) hP.df.1 ?_ ?_).1 (by rw [e]; exact h), ⟨?_⟩⟩
 ·intro r hr
  obtain ⟨g, hg, rfl⟩ := List.mem_map.1 hr
  exact (hP.rules g hg).act.1
 ·intro p hp
  exact (hP.ports p hp).1
 ·intro r hr c hc
  obtain ⟨g, hg, rfl⟩ := List.mem_map.1 hr
  obtain ⟨d, hd, rfl⟩ := List.mem_map.1 hc
  have h1 := (hP.rules g hg).conds d hd
  have h2 := h1.mask
  have h3 := h1.val
  exact ⟨by show d.mask ≤ _; omega, by show d.val ≤ _; omega⟩
theorem pol_fewN {P : Pol} (h : PolOk P) : FewN P.g := by
 refine ⟨?_, ?_, ?_, ?_⟩
 ·intro r hr
  obtain ⟨q, hq, rfl⟩ := List.mem_map.1 hr
  have := (h.rules q hq).len
  show (q.conds.map Cnd.g).length ≤ 1000
  rw [List.length_map]; omega
 ·show (P.rules.map RulP.g).length ≤ 1000
  rw [List.length_map]; have := h.l1; omega
 ·show P.paths.length ≤ 1000
  have := h.l2; omega
 ·show P.ports.length ≤ 1000
  have := h.l3; omega
theorem SCndS.mono {X L : List Blk} {v : Value} {cs : List SCnd} (h : SCndS X v cs) (hs : SubB X L) : SCndS L v cs := let ⟨a, c, h1, h2, h3⟩ := h; ⟨a, c, h1, h2.mono hs, h3⟩
theorem SRulG.mono {X L : List Blk} (hs : SubB X L) : ∀ {rs : List SRul} {cz : List Value}, SRulG X rs cz → SRulG L rs cz
 | [], _, h => h
 | _ :: _, _, ⟨v, cz', h1, h2, h3⟩ => ⟨v, cz', h1, h2.mono hs, SRulG.mono hs h3⟩
theorem SPolS.mono {X L : List Blk} {s : SPol} {vr vp vg vq : Value} (h : SPolS X s vr vp vg vq) (hs : SubB X L) : SPolS L s vr vp vg vq := by
 obtain ⟨⟨a, c, cz, h1, h2, h3⟩, ⟨a2, c2, h4, h5⟩, ⟨a3, c3, h6, h7⟩, ⟨a4, c4, h8, h9⟩, l1, l2, l3, l4⟩ := h
 exact ⟨⟨a, c, cz, h1, h2.mono hs, h3.mono hs⟩, ⟨a2, c2, h4, h5.mono hs⟩, ⟨a3, c3, h6, h7.mono hs⟩, ⟨a4, c4, h8, h9.mono hs⟩, l1, l2, l3, l4⟩
theorem smpol_m {S w0 L X} (s : SPol) (h : s.ok) (vr vp vg vq : Value) (hS : SPolS X s vr vp vg vq) (hX : SubB X L) :
  Fn Tryz.prog 12 #[.agg #[.int .u8 s.nm, .int .u8 s.df, .int .u8 s.en, vr, .int .u16 (s.hd : Nat), vp, vg, vq]] S w0 L fun v L' => ∃ (P : Pol) (r1 p1 q1 : Option Addr) (r3 p3 q3 : Nat) (E : List Blk), v = .agg #[.string (mB8 P.nm), .int .u32 P.df, .slice r1 P.rules.length r3, .int .u16 (P.hd : Nat), .slice p1 P.paths.length p3, .slice q1 P.ports.length q3] ∧ PolOk P ∧ PolRn P ∧ PolS E P.g (.slice r1 P.rules.length r3) (.slice p1 P.paths.length p3) (.slice q1 P.ports.length q3) ∧ (P.hd = s.hd &&& 51199 ∧ P.rules.length ≤ 12 ∧ P.paths.length ≤ s.paths.length ∧ P.ports.length ≤ s.ports.length) ∧ E ++ L = L' := by
 refine (smpol_c (S:=S) (w0:=w0) s h vr vp vg vq (hS.mono hX)).mono ?_
 rintro v L' ⟨d, P, rfl, hd, hok, hrn, hi, rfl⟩
 have hS := hd.polS (pol_cl hok)
 obtain ⟨r1, r3, p1, p3, q1, q3, e1, e2, e3⟩ := hd.sl
 rw [e1, e2, e3] at hS
 exact ⟨_, ⟨P, r1, p1, q1, r3, p3, q3, _, by rw [e1, e2, e3], hok, hrn, hS, hi, rfl⟩, fun _ H => H⟩
theorem wide_le (l : List UInt8) : (l.flatMap wideB).length ≤ 9 * l.length := by
 induction l with
 | nil => exact Nat.zero_le _
 | cons c r ih =>
  have h : (wideB c).length ≤ 9 := by
   unfold wideB
   split
   ·decide
   ·split
    ·decide
    ·simp
  rw [List.flatMap_cons, List.length_append, List.length_cons]
  omega
theorem wide_take {l : List UInt8} {p : Nat} (h : p < l.length) : whead ++ (l.take (p + 1)).flatMap wideB = (whead ++ (l.take p).flatMap wideB) ++ wideB l[p] := by
 rw [List.take_succ_eq_append_getElem h, List.flatMap_append, List.append_assoc]
 simp
theorem mB8_get {l : List UInt8} {p : Nat} (h : p < (mB8 l).size) (h2 : p < l.length) : (mB8 l)[p]'h = l[p] := rfl
structure GPolR (P : GPol) : Prop where
 nm : P.nm.length ≤ maxLen
 df : 0 ≤ P.df ∧ P.df < 4294967296
 rules : ∀ r ∈ P.rules, r.ok
 hd : P.hd < 65536
 paths : ∀ p ∈ P.paths, p.1.length ≤ maxLen ∧ p.2 < 65536
 ports : ∀ p ∈ P.ports, p.1 < 65536 ∧ p.2 < 65536
theorem GPolR.ok {P : GPol} (h : GPolR P) (hf : FewG P) : P.ok := by
 refine ⟨?_, h.df, h.rules, h.hd, ?_, h.ports⟩
 ·have := hf.nm; omega
 ·intro p hp
  have := hf.path p hp
  exact ⟨by omega, (h.paths p hp).2⟩
theorem enc128 : ∀ c : Fin 128, Utf8.encode ((c.val : Nat) : Int) = ⟨#[UInt8.ofNat c.val]⟩ := by decide +kernel
theorem r_convRune {P : Program} {s t : TypeId} {k k' : IntKind} (hs : P.underlying s = some (.int k')) (ht : P.underlying t = some .string) {c : UInt8} (hc : c.toNat < 128) : RConv P s t (.int k (c.toNat : Int)) (.string ⟨#[c]⟩) := .mk fun w => by
 have h := enc128 ⟨c.toNat, hc⟩
 dsimp only at h
 rw [UInt8.ofNat_toNat] at h
 simp only [convert, Sem.run_bind, run_underlying hs, run_underlying ht, Result.andThen_ok, Conv.intToString, Sem.run_pure, h]
end Go.Proofs.YtecbgehooembmaaGreatDoor
