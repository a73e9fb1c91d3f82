/- Part 9 of what the last text of this claim leans on: rules of walks, contracts, plain facts. Conditions: those of each statement. -/
import Derived.Test.YtecbgehooembmaaGreatDoorQo8
set_option maxRecDepth 100000
namespace Go.Proofs.YtecbgehooembmaaGreatDoor
open Go Go.RowKit
theorem actOk_lt {a : Int} (h0 : 0 ≤ a) (h : actOk a = true) : a < 4294967296 := by
 unfold actOk at h
 rw [decide_eq_true_eq] at h
 rcases h with rfl | rfl | rfl | ⟨h1, -, -⟩
 ·omega
 ·omega
 ·omega
 ·have hk : h6b a 65535 = 327680 := by
   unfold kndA at h1
   split at h1
   ·exact h1
   ·cases h1
  have h2 := and_split a h0
  have h3 := and_lt a
  omega
theorem bldi_tp {S w0} {b : Nat} {z : List UInt8} {B : List Blk} (pre M : List Blk) (h : BldI b z B) (hz : z.length ≤ 1000000) (s : ByteArray) (t : List UInt8) (ht : s = mB8 t) (hs : t.length ≤ 1000000) (hs1 : 0 < t.length) :
  Fn Tryz.prog 29 #[bP b, .string s] S w0 (pre ++ (B ++ M)) fun r L' => r = h2y [.int .i64 s.size, .nilIface] ∧ ∃ B', BldI b (z ++ t) B' ∧ pre ++ (B' ++ M) = L' := by
 subst ht
 refine Fn.weak (fun w H => H.perm (List.perm_append_comm_assoc ..)) ((bldi_t (S:=S) (w0:=w0) (L:=pre ++ M) h hz (mB8 t) (by rw [h1t]; exact hs) (by rw [h1t]; exact hs1)).mono ?_)
 rintro r L' ⟨rfl, B', hB, rfl⟩
 rw [h4g] at hB
 exact ⟨_, ⟨rfl, B', hB, rfl⟩, fun w H => H.perm (List.perm_append_comm_assoc ..)⟩
theorem actT_len {a : Int} (h : actOk a = true) : (actT a).length ≤ 27 := Nat.le_trans (spcL_len _) (actL_ok h).2.2
structure T1I (P : Pol) (b : Nat) (g : Nat × Nat × Nat × List Blk) : Prop where
 le : g.1 ≤ P.rules.length
 bld : BldI b (h4p ([[wN tPolicy, wN P.nm], wN tDefault :: actL P.df] ++ (P.rules.take g.1).map rulL)) g.2.2.2
theorem t1_len {P : Pol} (h : PolOk P) (hr : PolRn P) (k : Nat) : (h4p ([[wN tPolicy, wN P.nm], wN tDefault :: actL P.df] ++ (P.rules.take k).map rulL)).length ≤ 55000 := by
 have h1 := (polL_ok P h hr).2
 have e : polL P = ([[wN tPolicy, wN P.nm], wN tDefault :: actL P.df] ++ (P.rules.take k).map rulL) ++ ((P.rules.drop k).map rulL ++ (hanL P.hd ++ (P.paths.map benL ++ P.ports.map porL))) := by
  rw [List.append_assoc, ← List.append_assoc ((P.rules.take k).map rulL), ← List.map_append, List.take_append_drop]; rfl
 unfold polT at h1
 rw [e, lnsT_app, List.length_append] at h1
 omega
def linA (P : Pol) : List (List W3) := [[wN tPolicy, wN P.nm], wN tDefault :: actL P.df] ++ P.rules.map rulL
def linB (P : Pol) : List (List W3) := linA P ++ hanL P.hd
def linC (P : Pol) (k : Nat) : List (List W3) := linB P ++ (P.paths.take k).map benL
def linD (P : Pol) (k : Nat) : List (List W3) := linC P P.paths.length ++ (P.ports.take k).map porL
theorem linD_all (P : Pol) : linD P P.ports.length = polL P := by
 unfold linD linC linB linA polL
 rw [List.take_length, List.take_length]
 simp only [List.append_assoc]; rfl
theorem pfx_len {P : Pol} (h : PolOk P) (hr : PolRn P) {A B : List (List W3)} (e : polL P = A ++ B) : (h4p A).length ≤ 55000 := by
 have h1 := (polL_ok P h hr).2
 unfold polT at h1
 rw [e, lnsT_app, List.length_append] at h1
 omega
theorem linD_len {P : Pol} (h : PolOk P) (hr : PolRn P) (k : Nat) : (h4p (linD P k)).length ≤ 55000 := by
 refine pfx_len (B:=(P.ports.drop k).map porL) h hr ?_
 rw [← linD_all]
 unfold linD
 rw [List.take_length, List.append_assoc, ← List.map_append, List.take_append_drop]
theorem linC_len {P : Pol} (h : PolOk P) (hr : PolRn P) (k : Nat) : (h4p (linC P k)).length ≤ 55000 := by
 refine pfx_len (B:=(P.paths.drop k).map benL ++ P.ports.map porL) h hr ?_
 rw [← linD_all]
 unfold linD linC
 rw [List.take_length, List.take_length, List.append_assoc, List.append_assoc, ← List.append_assoc ((P.paths.take k).map benL), ← List.map_append, List.take_append_drop]
set_option maxHeartbeats 2000000 in
theorem ptext_c {S w0 L} (P : Pol) (h : PolOk P) (hr : PolRn P) (vr vp vq : Value) (hS : PolS L P.g vr vp vq) (ct m1 m2 n : Nat) (hn : n ≤ 90000) :
  Fn Tryz.prog 13 #[.agg (polC P vr vp vq).toArray, .pointer (some ⟨ct, 0, none⟩)] S w0 (tbS ct m1 m2 n ++ L) fun v L' => ∃ m1' m2', v = .string (mB8 (polT P)) ∧ tbS ct m1' m2' (n + P.rules.length) ++ L = L' := by
 obtain ⟨⟨ra, rc, cz, e1, hrs, hrg⟩, ⟨pa, pc, e2, hps⟩, ⟨qa, qc, e3, hqs⟩, -, -, -⟩ := hS
 subst e1 e2 e3
 have elr : P.g.rules.length = P.rules.length := List.length_map ..
 have elp : P.g.paths.length = P.paths.length := rfl
 have elq : P.g.ports.length = P.ports.length := rfl
 rw [elr, elp, elq]
 rw [elr] at hrs
 rw [elp] at hps
 rw [elq] at hqs
 have hat := fun (L : List Blk) => acttext_c (S:=S) (w0:=w0) (L:=L) P.df ⟨h.df0, actOk_lt h.df0 h.df⟩
 have hnl := (nm_ok h.nm).2
 have hal := actT_len h.df
 have hz1 : (mB8 P.nm).size ≤ 14 := by rw [h1t]; exact hnl
 have hz2 : (mB8 (actT P.df)).size ≤ 27 := by rw [h1t]; exact hal
 have c1 : (⟨#[112, 111, 108, 105, 99, 121, 32]⟩ : ByteArray).size = 7 := rfl
 have c2 : (⟨#[10, 100, 101, 102, 97, 117, 108, 116, 32]⟩ : ByteArray).size = 9 := rfl
 have c3 : (⟨#[10]⟩ : ByteArray).size = 1 := rfl
 have hhd : ((((⟨#[112, 111, 108, 105, 99, 121, 32]⟩ : ByteArray) ++ mB8 P.nm) ++ (⟨#[10, 100, 101, 102, 97, 117, 108, 116, 32]⟩ : ByteArray)) ++ mB8 (actT P.df)) ++ (⟨#[10]⟩ : ByteArray) = mB8 (h4p [[wN tPolicy, wN P.nm], wN tDefault :: actL P.df]) := by
  rw [headT_eq, show (⟨#[112, 111, 108, 105, 99, 121, 32]⟩ : ByteArray) = mB8 [112, 111, 108, 105, 99, 121, 32] from rfl, show (⟨#[10, 100, 101, 102, 97, 117, 108, 116, 32]⟩ : ByteArray) = mB8 [10, 100, 101, 102, 97, 117, 108, 116, 32] from rfl, show (⟨#[10]⟩ : ByteArray) = mB8 [10] from rfl]
  simp only [h4s, List.append_assoc]
 have hlh := t1_len h hr 0
 rw [List.take_zero, List.map_nil, List.append_nil] at hlh
 have hlh1 : 0 < (h4p [[wN tPolicy, wN P.nm], wN tDefault :: actL P.df]).length := by rw [headT_eq]; simp
 dsimp only [polC]
 refine Fn2 Tryz.func13 Tryz.ntmps13 rfl rfl ?_
 repeat' (first | (refine h2h (id:=2) ?_) | refine h0p ?_ | refine h0e ?_ | (refine gR 0 ?_ <;> (try refine h0f ?_; (refine h5b (t:=36) rfl rfl ?_; intro nb hnb; (try simp only [Value.cells]))) <;> (try refine p_a (h:=h0d ?_))) | (refine gR 1 ?_ <;> (try refine h0f ?_; (refine h0i (t:=109) rfl Tryz.zeroValue109 ?_; intro nb hnb; (try simp only [Value.cells]))) <;> (try refine h0d ?_)))
 refine ⟨?_⟩
 rename_i n2 h2
 obtain ⟨n5, rfl⟩ : ∃ x, x = nb := ⟨_, rfl⟩
 have hw := fun (x : Blk) (M : List Blk) => bldi_tp (S:=S) (w0:=w0) [x] M (bldi_0 n5) (Nat.zero_le _) _ _ hhd (by omega) hlh1
 dsimp only [List.cons_append, List.nil_append] at hw
 refine h3y (L' := ⟨true, n2, .cells #[.string (mB8 P.nm), .int .u32 P.df, .slice ra P.rules.length rc, .int .u16 (P.hd : Nat), .slice pa P.paths.length pc, .slice qa P.ports.length qc] 36 (0, 0)⟩ :: bB n5 (.pointer none) (.slice none 0 0) :: (tbS ct m1 m2 n ++ L)) (fun w H => H.perm (List.Perm.swap ..)) ?_
 generalize mB8 (actT P.df) = at_ at *
 repeat' (first | (refine h2r (id:=0) ?_) | refine h0p ?_ | refine h0e ?_ | ((refine h2t (pre:=[_]) (id:=2) (m:=10) rfl (by kernel_rfl) rfl (q_t 0 (e:=h2x) (x:=by exact q_f fo_36_0) (h:=q_t 1 (e:=h2x) (x:=by exact q_l) (h:=q_t 2 (e:=h2x) (x:=by exact q_b (r:=by apply h1q; exact rfl; (focus (omega)))) (h:=q_t 3 (e:=h2x) (x:=by exact q_b (r:=by apply h1q; exact rfl; (focus (simp only [ByteArray.size_append]; omega)))) (h:=q_t 4 (e:=h2x) (x:=by exact q_f fo_36_1) (h:=q_t 5 (e:=h2x) (x:=by exact q_l) (h:=?_)))))))) <;> (try refine q_r 6 ?_; (refine q_c 30 (c:=by apply hat) (h:=?_); rintro _ _ ⟨rfl, rfl⟩; (try simp only [zzE, zzF])); refine h1g h2x ?_) <;> (try refine q_t 7 (e:=h2x) (x:=by exact q_b (r:=by apply h1q; exact rfl; (focus (simp only [ByteArray.size_append]; omega)))) (h:=q_t 8 (e:=h2x) (x:=by exact q_b (r:=by apply h1q; exact rfl; (focus (simp only [ByteArray.size_append]; omega)))) (h:=?_))) <;> (try refine q_r 9 ?_; (refine q_c 29 (c:=by apply hw) (h:=?_); rintro _ _ ⟨rfl, B1, hB1, rfl⟩; (try simp only [zzE, zzF])); refine h1g h2x ?_) <;> (try refine h1e (by kernel_rfl) ?_)) | (refine gR 3 (p_e (q_f h3s) (h:=p_e q_l (h:=p_e (by apply h0g; exact rfl; exact (fun _ => BigFrame.builtin_len ..); apply h0k Tryz.underlying30; exact h4y) (h:=p_m (h:=h0d ?_)))))))
 refine ⟨?_⟩
 clear hat hw hhd hlh1 hal hz1 hz2
 refine h2z (γ:=Nat × Nat × List Blk) (fun g => BldI n5 (h4p ([[wN tPolicy, wN P.nm], wN tDefault :: actL P.df] ++ P.rules.map rulL)) g.2.2) (fun _ => []) [(2, _), (5, _)]
  (fun g => ⟨true, n2, .cells #[.string (mB8 P.nm), .int .u32 P.df, .slice ra P.rules.length rc, .int .u16 (P.hd : Nat), .slice pa P.paths.length pc, .slice qa P.ports.length qc] 36 (0, 0)⟩ :: (g.2.2 ++ (tbS ct g.1 g.2.1 (n + P.rules.length) ++ L))) (.cons rfl (.cons rfl .nil)) ?_ ?_
 ·refine h0r ?_
  refine h2s (γ:=Nat × Nat × Nat × List Blk) (T1I P n5) (fun g => P.rules.length - g.1) (fun g => [(29, .int .i64 (g.1 : Nat))]) [(1, _), (2, _), (5, _), (27, _), (28, _)]
   (fun g => ⟨true, n2, .cells #[.string (mB8 P.nm), .int .u32 P.df, .slice ra P.rules.length rc, .int .u16 (P.hd : Nat), .slice pa P.paths.length pc, .slice qa P.ports.length qc] 36 (0, 0)⟩ :: (g.2.2.2 ++ (tbS ct g.2.1 g.2.2.1 (n + g.1) ++ L))) (0, m1, m2, B1) (.cons rfl (.cons rfl (.cons rfl (.cons rfl (.cons rfl .nil))))) ⟨Nat.zero_le _, by rw [List.take_zero, List.map_nil, List.append_nil]; exact hB1⟩ (by (focus (repeat (first | exact Sub.nil | refine Sub.cons rfl ?_)))) (fun _ H => H) ?_
  clear hB1 B1 hlh
  rintro ⟨k, k1, k2, B⟩ ⟨hk, hB⟩
  dsimp only at hk hB
  simp only [List.cons_append, List.nil_append]
  have hlk := t1_len h hr k
  have hl1 := h.l1
  by_cases hlt : k < P.rules.length
  case neg =>
   obtain rfl : k = P.rules.length := by omega
   rw [List.take_length] at hB
   repeat' (first | refine h0p ?_ | refine h0e ?_ | refine h0t ?_ | refine h1u ?_ | refine h1n ?_ | refine h1v ?_ | refine h2o ?_ | refine h0h rfl ?_ | (refine gR 4 (p_e (q_b (r:=by exact h1j q_o)) (h:=h0d ?_))))
   exact h0w (k1, k2, B) hB (by (focus (repeat (first | exact Sub.nil | refine Sub.cons rfl ?_)))) (fun _ H => H)
  have hlk2 := t1_len h hr (k + 1)
  have hzz : h4p ([[wN tPolicy, wN P.nm], wN tDefault :: actL P.df] ++ (P.rules.take (k + 1)).map rulL) = h4p ([[wN tPolicy, wN P.nm], wN tDefault :: actL P.df] ++ (P.rules.take k).map rulL) ++ (spcL (rulL P.rules[k]) ++ [10]) := by
   rw [List.take_succ_eq_append_getElem hlt, List.map_append, ← List.append_assoc]
   exact lnsT_snoc _ _
  have hzb : BldI n5 (h4p ([[wN tPolicy, wN P.nm], wN tDefault :: actL P.df] ++ (P.rules.take k).map rulL) ++ (spcL (rulL P.rules[k]) ++ [10])) = BldI n5 (h4p ([[wN tPolicy, wN P.nm], wN tDefault :: actL P.df] ++ (P.rules.take (k + 1)).map rulL)) := by rw [hzz]
  rw [hzz] at hlk2
  clear hzz
  obtain ⟨j, q, bb, off, cs, T, fr, rfl, hj, hsz, hx⟩ := ((hrs.upA (tbS ct k1 k2 (n + k))).upA B).elem hlt
  obtain ⟨v, hv, hcs⟩ := hrg.at_ k (by rw [elr]; exact hlt)
  have egk : P.g.rules[k]'(by rw [elr]; exact hlt) = (P.rules[k]).g := List.getElem_map ..
  rw [egk] at hv hcs
  rw [hv] at hx
  have hro := h.rules _ (List.getElem_mem hlt)
  have hrr := hr.c _ (List.getElem_mem hlt)
  have hzb' := Lib.hid hzb
  generalize h4p ([[wN tPolicy, wN P.nm], wN tDefault :: actL P.df] ++ (P.rules.take k).map rulL) = Z at *
  generalize P.rules[k] = r at *
  clear egk hv hzb
  obtain ⟨va, vc, rfl, hcsl, hcml⟩ := hcs
  have elc : (RulP.g r).conds.length = r.conds.length := List.length_map ..
  have ecc : gcC (RulP.g r).conds = cndC r.conds := gcC_map _
  rw [elc] at hcsl hcml hx
  rw [ecc] at hcsl
  clear elc ecc
  have hnu := fun (x y : Blk) => numS_c (S:=S) (w0:=w0) (x :: y :: B) L ct k1 k2 (n + k) (by omega) r.num
  obtain ⟨cl, hcl⟩ : ∃ cl, h5x r.num clls = some cl := Option.isSome_iff_exists.1 hro.num
  have hnmo : mB8 (h5e r.num) = cl.name := by unfold h5e; rw [hcl]; exact mB8_lB _
  have hnml : cl.name.size ≤ 14 := by
   have h2 := List.all_eq_true.1 clls_nm cl (cnumF_mem hcl).1
   rw [Bool.and_eq_true, decide_eq_true_eq, h3d] at h2
   exact h2.2
  have hgv : gotV (h5x r.num clls) = h2y [.agg #[.int .u32 cl.num, .string cl.name, .int .i64 cl.args], .bool true] := by rw [hcl]; rfl
  rw [hgv] at hnu
  have hat := fun (L : List Blk) => acttext_c (S:=S) (w0:=w0) (L:=L) r.act ⟨hro.act0, actOk_lt hro.act0 hro.act⟩
  have hal := actT_len hro.act
  have hz2 : (mB8 (actT r.act)).size ≤ 27 := by rw [h1t]; exact hal
  have d1 : (⟨#[99, 97, 108, 108, 32]⟩ : ByteArray).size = 5 := rfl
  have d2 : (⟨#[32]⟩ : ByteArray).size = 1 := rfl
  have het : (((⟨#[99, 97, 108, 108, 32]⟩ : ByteArray) ++ cl.name) ++ (⟨#[32]⟩ : ByteArray)) ++ mB8 (actT r.act) = mB8 ([99, 97, 108, 108, 32] ++ (h5e r.num ++ ([32] ++ actT r.act))) := by
   rw [← hnmo, show (⟨#[99, 97, 108, 108, 32]⟩ : ByteArray) = mB8 [99, 97, 108, 108, 32] from rfl, show (⟨#[32]⟩ : ByteArray) = mB8 [32] from rfl]
   simp only [h4s, List.append_assoc]
  have hru := rulT_eq r
  rw [show [99, 97, 108, 108, 32] ++ (h5e r.num ++ ([32] ++ (actT r.act ++ cnT 0 r.conds))) = ([99, 97, 108, 108, 32] ++ (h5e r.num ++ ([32] ++ actT r.act))) ++ cnT 0 r.conds by simp only [List.append_assoc]] at hru
  rw [hru] at hlk2 hzb'
  have hpl : 0 < ([99, 97, 108, 108, 32] ++ (h5e r.num ++ ([32] ++ actT r.act))).length := by simp
  generalize [99, 97, 108, 108, 32] ++ (h5e r.num ++ ([32] ++ actT r.act)) = pfx at *
  simp only [List.length_append] at hlk2
  have hw := fun (x y z : Blk) (M : List Blk) => bldi_tp (S:=S) (w0:=w0) [x, y, z] M hB (by omega) _ _ het (by omega) hpl
  dsimp only [List.cons_append, List.nil_append] at hw
  have hcok := hro.conds
  obtain ⟨num, act, conds⟩ := r
  dsimp only [RulP.g, List.cons_append] at *
  clear hgv hcl hnmo hru hro
  generalize mB8 (actT act) = at_ at *
  repeat' (first | (refine h2r (id:=2) ?_) | refine h0p ?_ | refine h0e ?_ | refine h0r ?_ | refine h0u ?_ | refine h0j rfl ?_ | refine h0h rfl ?_ | (refine gR 4 (p_e (q_b (r:=by exact h1d q_o)) (h:=h0d ?_))) | (refine gR 5 (p_e (by apply h0n; exact rfl; exact rfl; (focus (apply h3e Tryz.underlying30 sz_73; omega; omega; exact c_1))) (h:=q_e (by apply h3p (t:=73); exact rfl; exact c_18; kernel_rfl; kernel_rfl; exact sz_73; (with_reducible assumption); (with_reducible assumption)) ?_)) <;> (try refine h0f ?_; (refine h0i (t:=73) rfl Tryz.zeroValue73 ?_; intro nb hnb; (try simp only [Value.cells]))) <;> (try refine h0f ?_; (refine q_W ?_)) <;> (try refine h0d ?_)) | (refine gR 6 (p_m (h:=p_e (q_f fo_73_0) (h:=q_e q_l ?_))) <;> (try refine h0f ?_; (refine q_c 31 (c:=by apply hnu) (h:=?_); rintro _ _ ⟨j1, j2, rfl, rfl⟩; (try simp only [zzE, zzF]))) <;> (try refine p_m (h:=p_x (h:=q_x ?_))) <;> (try refine h0f ?_; (refine h0i (t:=116) rfl Tryz.zeroValue116 ?_; intro nb hnb; (try simp only [Value.cells]))) <;> (try refine h0f ?_; (refine q_W ?_)) <;> (try refine p_a (h:=h0d ?_))) | (refine gR 7 (p_m (h:=p_e (by apply E_un; exact rfl; exact h4a) (h:=h0d ?_)))) | ((refine h2t (pre:=[_, _, _]) (id:=9) (m:=9) rfl (by kernel_rfl) rfl (q_t 0 (e:=h2x) (x:=by exact q_f fo_116_1) (h:=q_t 1 (e:=h2x) (x:=by exact q_l) (h:=q_t 2 (e:=h2x) (x:=by exact q_b (r:=by apply h1q; exact rfl; (focus (omega)))) (h:=q_t 3 (e:=h2x) (x:=by exact q_b (r:=by apply h1q; exact rfl; (focus (simp only [ByteArray.size_append]; omega)))) (h:=q_t 4 (e:=h2x) (x:=by exact q_f fo_73_1) (h:=q_t 5 (e:=h2x) (x:=by exact q_l) (h:=?_)))))))) <;> (try refine q_r 6 ?_; (refine q_c 30 (c:=by apply hat) (h:=?_); rintro _ _ ⟨rfl, rfl⟩; (try simp only [zzE, zzF])); refine h1g h2x ?_) <;> (try refine q_t 7 (e:=h2x) (x:=by exact q_b (r:=by apply h1q; exact rfl; (focus (simp only [ByteArray.size_append]; omega)))) (h:=?_)) <;> (try refine q_r 8 ?_; (refine q_c 29 (c:=by apply hw) (h:=?_); rintro _ _ ⟨rfl, B1, hB1, rfl⟩; (try simp only [zzE, zzF])); refine h1g h2x ?_) <;> (try refine h1e (by kernel_rfl) ?_)) | (refine gR 10 (p_e (q_f h3f) (h:=p_e q_l (h:=p_e (by apply h0g; exact rfl; exact (fun _ => BigFrame.builtin_len ..); apply h0k Tryz.underlying71; exact h4y) (h:=p_m (h:=h0d ?_)))))))
  refine ⟨?_⟩
  clear hnu hat hw hB het
  have hcT := cnT_le conds
  refine h2z (γ:=List Blk) (fun B => BldI n5 (Z ++ (pfx ++ cnT 0 conds)) B) (fun _ => []) [(1, _), (2, _), (5, _), (27, _), (28, _), (29, _)]
   (fun B => ⟨true, n2, .cells #[.string (mB8 P.nm), .int .u32 P.df, .slice (some ⟨bb, off, none⟩) P.rules.length rc, .int .u16 (P.hd : Nat), .slice pa P.paths.length pc, .slice qa P.ports.length qc] 36 (0, 0)⟩ :: (B ++ (tbS ct j1 j2 (n + k + 1) ++ L))) (.cons rfl (.cons rfl (.cons rfl (.cons rfl (.cons rfl (.cons rfl .nil)))))) ?_ ?_
  ·refine h0r ?_
   refine h2s (γ:=Nat × List Blk) (fun g => g.1 ≤ conds.length ∧ BldI n5 (Z ++ (pfx ++ cnT 0 (conds.take g.1))) g.2) (fun g => conds.length - g.1) (fun g => [(59, .int .i64 (g.1 : Nat))]) [(1, _), (2, _), (5, _), (27, _), (28, _), (29, _), (57, _), (58, _)]
    (fun g => ⟨true, n2, .cells #[.string (mB8 P.nm), .int .u32 P.df, .slice (some ⟨bb, off, none⟩) P.rules.length rc, .int .u16 (P.hd : Nat), .slice pa P.paths.length pc, .slice qa P.ports.length qc] 36 (0, 0)⟩ :: (g.2 ++ (tbS ct j1 j2 (n + k + 1) ++ L))) (0, B1) (.cons rfl (.cons rfl (.cons rfl (.cons rfl (.cons rfl (.cons rfl (.cons rfl (.cons rfl .nil)))))))) ⟨Nat.zero_le _, by rw [List.take_zero, cnT, List.append_nil]; exact hB1⟩ (by (focus (repeat (first | exact Sub.nil | refine Sub.cons rfl ?_)))) (fun _ H => H.tail.tail) ?_
   clear hB1 B1 B hj
   rintro ⟨i, B⟩ ⟨hi, hB⟩
   dsimp only at hi hB
   simp only [List.cons_append, List.nil_append]
   unfold maxLen at hcml
   by_cases hit : i < conds.length
   ·obtain ⟨j, q, bc, ofc, cs, T, fr, rfl, hj, hsz, hx⟩ := ((hcsl.upA (tbS ct j1 j2 (n + k + 1))).upA B).elem hit
    rw [cndC_at _ _ hit] at hx
    have hci := hcT i
    have hci2 := hcT (i + 1)
    rw [cnT_take conds i hit] at hci2
    have hzi : BldI n5 ((Z ++ (pfx ++ cnT 0 (conds.take i))) ++ (sepT i ++ cndT conds[i])) = BldI n5 (Z ++ (pfx ++ cnT 0 (conds.take (i + 1)))) := by
     rw [cnT_take conds i hit]
     simp only [List.append_assoc]
    have hct := fun (L : List Blk) => condtext_c (S:=S) (w0:=w0) (L:=L) conds[i] (hcok _ (List.getElem_mem hit)) (hrr _ (List.getElem_mem hit)).1 (hrr _ (List.getElem_mem hit)).2
    have hnl := cndT_ne conds[i]
    generalize conds[i] = cd at *
    simp only [List.length_append] at hci2
    have hw2 := fun (x y : Blk) (M : List Blk) => bldi_tp (S:=S) (w0:=w0) [x, y] M hB c_30 (mB8 (sepT i) ++ mB8 (cndT cd)) _ (h4s _ _) c_30 c_30
    have hw3 := fun (x y z : Blk) (M : List Blk) => bldi_tp (S:=S) (w0:=w0) [x, y, z] M hB c_30 (mB8 (sepT i) ++ mB8 (cndT cd)) _ (h4s _ _) c_30 c_30
    rw [hzi] at hw2 hw3
    have hzs : (mB8 (sepT i)).size ≤ 5 := by rw [h1t]; unfold sepT; split <;> simp
    have hzc : (mB8 (cndT cd)).size ≤ 60000 := by rw [h1t]; omega
    have hsep : (#[Value.string ⟨#[32, 105, 102, 32]⟩, .string ⟨#[32, 97, 110, 100, 32]⟩]).toList[(min (i : Int) 1).toNat]? = some (.string (mB8 (sepT i))) := by
     unfold sepT
     by_cases h0 : i = 0
     ·subst h0; rfl
     ·rw [if_neg h0, show (min (i : Int) 1).toNat = 1 by omega]; rfl
    obtain ⟨ca, co, cm, cv⟩ := cd
    dsimp only [List.cons_append, List.nil_append, Cnd.cells] at *
    generalize mB8 (sepT i) = ts at *
    generalize mB8 (cndT ⟨ca, co, cm, cv⟩) = tc at *
    clear hB hzi
    repeat' (first | refine h0p ?_ | refine h0e ?_ | refine h0t ?_ | refine h0x ?_ | refine h0r ?_ | refine h0u ?_ | refine h0j rfl ?_ | (refine gR 11 (p_e (q_b (r:=by exact h1d q_o)) (h:=h0d ?_))) | (refine gR 12 (p_m (h:=p_e (by apply h0n; exact rfl; exact rfl; (focus (apply h3e Tryz.underlying71 sz_99; omega; omega; exact c_1))) (h:=q_e (by apply h3p (t:=99); exact rfl; exact c_18; kernel_rfl; kernel_rfl; exact sz_99; (with_reducible assumption); (with_reducible assumption)) ?_))) <;> (try refine h0f ?_; (refine h0i (t:=99) rfl Tryz.zeroValue99 ?_; intro nb hnb; (try simp only [Value.cells]))) <;> (try refine q_a ?_) <;> (try refine h0f ?_; (refine q_W ?_)) <;> (try refine h0d ?_)) | ((refine h2t (pre:=[_, _]) (id:=13) (m:=9) rfl (by kernel_rfl) rfl (q_t 1 (e:=h2x) (x:=by exact h0m rfl) (h:=q_t 2 (e:=h2x) (x:=by exact h0g rfl (fun _ => BigFrame.builtin_min ..) r_min) (h:=q_t 5 (e:=h2x) (x:=by exact q_L sz_99) (h:=?_))))) <;> (try refine h2d (i:=0) (j:=6) rfl rfl (by kernel_rfl) ?_ ?_ <;> (first | (refine TagA.mk ?_; (((refine h0o (t:=56) (m:=2) (e:=9) (fun vs => (match vs with | [(_, x0), (_, x1)] => [x0, x1] | _ => [])) rfl rfl (fun w => by kernel_rfl) ?_; intro nb hnb; (try simp only [Value.cells]); (try simp only [zzC, zzN])); refine h1g c_8 ?_) <;> (try refine q_t 3 (e:=c_8) (x:=by apply h0n; exact rfl; exact rfl; (focus (apply h3e Tryz.underlying56 sz_9; omega; omega; exact c_1))) (h:=?_)) <;> (try refine h2d (i:=4) (j:=6) rfl rfl (by kernel_rfl) ?_ ?_ <;> (first | (refine TagA.mk ?_; (((refine q_k (by apply h1l (t:=9); exact rfl; exact fd0; kernel_rfl; kernel_rfl; (with_reducible assumption)) ?_); refine h1g c_8 ?_) <;> (try refine q_r 6 ?_; (refine q_c 33 (c:=by apply hct) (h:=?_); rintro _ _ ⟨rfl, rfl⟩; (try simp only [zzE, zzF])); refine h1g c_8 ?_) <;> (try refine q_t 7 (e:=c_8) (x:=by exact q_b (r:=by apply h1q; exact rfl; (focus (omega)))) (h:=?_)) <;> (try refine q_r 8 ?_; (refine q_c 29 (c:=by apply hw3) (h:=?_); rintro _ _ ⟨rfl, B1, hB1, rfl⟩; (try simp only [zzE, zzF])); refine h1g c_8 ?_) <;> (try refine h1e (by kernel_rfl) ?_))) | (refine TagB.mk ?_; (((refine q_c 33 (c:=by apply hct) (h:=?_); rintro _ _ ⟨rfl, rfl⟩; (try simp only [zzE, zzF])); refine h1g c_8 ?_) <;> (try refine q_r 4 ?_; (refine q_k (by apply h1l (t:=9); exact rfl; exact fd0; kernel_rfl; kernel_rfl; (with_reducible assumption)) ?_); refine h1g c_8 ?_) <;> (try refine q_t 7 (e:=c_8) (x:=by exact q_b (r:=by apply h1q; exact rfl; (focus (omega)))) (h:=?_)) <;> (try refine q_r 8 ?_; (refine q_c 29 (c:=by apply hw3) (h:=?_); rintro _ _ ⟨rfl, B1, hB1, rfl⟩; (try simp only [zzE, zzF])); refine h1g c_8 ?_) <;> (try refine h1e (by kernel_rfl) ?_))))))) | (refine TagB.mk ?_; (((refine q_c 33 (c:=by apply hct) (h:=?_); rintro _ _ ⟨rfl, rfl⟩; (try simp only [zzE, zzF])); refine h1g h2x ?_) <;> (try refine q_r 0 ?_; (refine h0o (t:=56) (m:=2) (e:=9) (fun vs => (match vs with | [(_, x0), (_, x1)] => [x0, x1] | _ => [])) rfl rfl (fun w => by kernel_rfl) ?_; intro nb hnb; (try simp only [Value.cells]); (try simp only [zzC, zzN])); refine h1g c_8 ?_) <;> (try refine q_t 3 (e:=c_8) (x:=by apply h0n; exact rfl; exact rfl; (focus (apply h3e Tryz.underlying56 sz_9; omega; omega; exact c_1))) (h:=?_)) <;> (try refine q_r 4 ?_; (refine q_k (by apply h1l (t:=9); exact rfl; exact fd0; kernel_rfl; kernel_rfl; (with_reducible assumption)) ?_); refine h1g c_8 ?_) <;> (try refine q_t 7 (e:=c_8) (x:=by exact q_b (r:=by apply h1q; exact rfl; (focus (omega)))) (h:=?_)) <;> (try refine q_r 8 ?_; (refine q_c 29 (c:=by apply hw3) (h:=?_); rintro _ _ ⟨rfl, B1, hB1, rfl⟩; (try simp only [zzE, zzF])); refine h1g c_8 ?_) <;> (try refine h1e (by kernel_rfl) ?_)))))) | (refine gR 14 ?_ <;> (try refine q_e (q_b (r:=by apply h1r; exact c_5; (focus (refine IntWalk.i64_in _ ?_; omega)))) ?_) <;> (try refine p_m (h:=h0d ?_))))
    all_goals exact h0w (i + 1, B1) ⟨⟨by show i + 1 ≤ conds.length; omega, hB1⟩, by show conds.length - (i + 1) < conds.length - i; omega⟩ (by (focus (repeat (first | exact Sub.nil | refine Sub.cons rfl ?_)))) (fun _ H => H.tail.tail)
   ·obtain rfl : i = conds.length := by omega
    rw [List.take_length] at hB
    repeat' (first | refine h0p ?_ | refine h0e ?_ | refine h0t ?_ | refine h1u ?_ | refine h1n ?_ | refine h1v ?_ | refine h2o ?_ | refine h0h rfl ?_ | (refine gR 11 (p_e (q_b (r:=by exact h1j q_o)) (h:=h0d ?_))))
    exact h0w B hB (by (focus (repeat (first | exact Sub.nil | refine Sub.cons rfl ?_)))) (fun _ H => H)
  rintro B2 hB2
  simp only [List.cons_append, List.nil_append]
  have hw1 := fun (x : Blk) (M : List Blk) => bldi_tp (S:=S) (w0:=w0) [x] M hB2 c_30 ⟨#[10]⟩ [10] rfl (by decide) (by decide)
  rw [show (Z ++ (pfx ++ cnT 0 conds)) ++ [10] = Z ++ (pfx ++ cnT 0 conds ++ [10]) by simp only [List.append_assoc]] at hw1
  rw [hzb'.out] at hw1
  dsimp only [List.cons_append, List.nil_append] at hw1
  clear hB2
  repeat' (first | refine h0e ?_ | refine h0t ?_ | refine h0x ?_ | (refine gR 15 ?_ <;> (try refine h0f ?_; (refine q_c 29 (c:=by apply hw1) (h:=?_); rintro _ _ ⟨rfl, B3, hB3, rfl⟩; (try simp only [zzE, zzF]))) <;> (try refine h0d ?_)) | (refine gR 16 ?_ <;> (try refine q_e (q_b (r:=by apply h1r; exact c_5; (focus (refine IntWalk.i64_in _ ?_; omega)))) ?_) <;> (try refine p_m (h:=h0d ?_))))
  exact h0w (k + 1, j1, j2, B3) ⟨⟨by show k + 1 ≤ P.rules.length; omega, hB3⟩, by show P.rules.length - (k + 1) < P.rules.length - k; omega⟩ (by (focus (repeat (first | exact Sub.nil | refine Sub.cons rfl ?_)))) (fun _ H => H)
 clear hB1 B1 hrs hrg hlh
 rintro ⟨k1, k2, B⟩ hB
 dsimp only at hB
 simp only [List.cons_append, List.nil_append]
 have hB0 : BldI n5 (h4p (linA P)) B := hB
 clear hB
 have hlc0 := linC_len h hr 0
 have e0 : linC P 0 = linB P := by unfold linC; rw [List.take_zero, List.map_nil, List.append_nil]
 rw [e0] at hlc0
 repeat' (first | (refine G_markc (t:=78) ?_) | refine h0p ?_ | refine h0e ?_ | (refine gR 17 (p_e (q_f h5o) (h:=p_e q_l (h:=p_e (q_b (r:=by exact rb_neq)) (h:=h0d ?_))))))
 refine ⟨?_⟩
 refine h2z (γ:=List Blk) (fun B => BldI n5 (h4p (linB P)) B) (fun _ => []) [(2, _), (5, _)]
  (fun B => ⟨true, n2, .cells #[.string (mB8 P.nm), .int .u32 P.df, .slice ra P.rules.length rc, .int .u16 (P.hd : Nat), .slice pa P.paths.length pc, .slice qa P.ports.length qc] 36 (0, 0)⟩ :: (B ++ (tbS ct k1 k2 (n + P.rules.length) ++ L))) (.cons rfl (.cons rfl .nil)) ?_ ?_
 ·by_cases h0 : P.hd ≠ 0
  ·have ehl : h4p (linB P) = h4p (linA P) ++ h4p [[wN tHandle, wN (rgT P.hd)]] := by
    unfold linB hanL
    rw [if_pos h0, lnsT_app]
   rw [ehl, List.length_append] at hlc0
   have hrt := fun (L : List Blk) => Rg.text_c (S:=S) (w0:=w0) (L:=L) P.hd (by have h1 := h.hd; have h2 := Nat.and_le_right (n:=P.hd) (m:=51199); omega)
   have hrl := (rg_ok h0 h.hd).2
   have hzt : (Rg.textF P.hd).size ≤ 320 := by rw [← h3d]; exact hrl
   have d1 : (⟨#[104, 97, 110, 100, 108, 101, 32]⟩ : ByteArray).size = 7 := rfl
   have het : ((⟨#[104, 97, 110, 100, 108, 101, 32]⟩ : ByteArray) ++ Rg.textF P.hd) ++ (⟨#[10]⟩ : ByteArray) = mB8 (h4p [[wN tHandle, wN (rgT P.hd)]]) := by
    rw [hanT_eq, ← mB8_lB (Rg.textF P.hd), show (⟨#[104, 97, 110, 100, 108, 101, 32]⟩ : ByteArray) = mB8 [104, 97, 110, 100, 108, 101, 32] from rfl, show (⟨#[10]⟩ : ByteArray) = mB8 [10] from rfl]
    simp only [h4s, List.append_assoc]
    rfl
   have hw := fun (x : Blk) (M : List Blk) => bldi_tp (S:=S) (w0:=w0) [x] M hB0 (by omega) _ _ het (by omega) (by rw [hanT_eq]; simp)
   rw [← ehl] at hw
   dsimp only [List.cons_append, List.nil_append] at hw
   clear het ehl hB0
   generalize Rg.textF P.hd = rt at *
   refine h5v rfl (fun _ => ?_) (fun hn => (by omega : False).elim)
   repeat' (first | refine h0t ?_ | (refine gR 18 (p_e (q_f h5o) (h:=q_e q_l ?_)) <;> (try refine h0f ?_; (refine q_c 34 (c:=by apply hrt) (h:=?_); rintro _ _ ⟨rfl, rfl⟩; (try simp only [zzE, zzF]))) <;> (try refine p_e (q_b (r:=by apply h1q; exact rfl; (focus (omega)))) (h:=q_e (q_b (r:=by apply h1q; exact rfl; (focus (simp only [ByteArray.size_append]; omega)))) ?_)) <;> (try refine h0f ?_; (refine q_c 29 (c:=by apply hw) (h:=?_); rintro _ _ ⟨rfl, B1, hB1, rfl⟩; (try simp only [zzE, zzF]))) <;> (try refine h0d ?_)))
   exact h0w B1 hB1 (by (focus (repeat (first | exact Sub.nil | refine Sub.cons rfl ?_)))) (fun _ H => H)
  ·have ehl : linB P = linA P := by
    unfold linB hanL
    rw [if_neg h0, List.append_nil]
   rw [← ehl] at hB0
   refine h5v rfl (fun hn => (by omega : False).elim) (fun _ => ?_)
   repeat' (first | refine h0t ?_ | refine h0u ?_)
   exact h0w B hB0 (by (focus (repeat (first | exact Sub.nil | refine Sub.cons rfl ?_)))) (fun _ H => H)
 clear hB0 hlc0 B
 rintro B hB
 rw [← e0] at hB
 clear e0
 simp only [List.cons_append, List.nil_append]
 repeat' (first | (refine h2r (id:=4) ?_) | refine h0p ?_ | refine h0e ?_ | (refine gR 19 (p_e (q_f h3u) (h:=p_e q_l (h:=p_e (by apply h0g; exact rfl; exact (fun _ => BigFrame.builtin_len ..); apply h0k Tryz.underlying33; exact h4y) (h:=p_m (h:=h0d ?_)))))))
 refine ⟨?_⟩
 have hl2 := h.l2
 have hl3 := h.l3
 refine h2z (γ:=List Blk) (fun B => BldI n5 (h4p (linC P P.paths.length)) B) (fun _ => []) [(2, _), (5, _)]
  (fun B => ⟨true, n2, .cells #[.string (mB8 P.nm), .int .u32 P.df, .slice ra P.rules.length rc, .int .u16 (P.hd : Nat), .slice pa P.paths.length pc, .slice qa P.ports.length qc] 36 (0, 0)⟩ :: (B ++ (tbS ct k1 k2 (n + P.rules.length) ++ L))) (.cons rfl (.cons rfl .nil)) ?_ ?_
 ·refine h0r ?_
  refine h2s (γ:=Nat × List Blk) (fun g => g.1 ≤ P.paths.length ∧ BldI n5 (h4p (linC P g.1)) g.2) (fun g => P.paths.length - g.1) (fun g => [(88, .int .i64 (g.1 : Nat))]) [(2, _), (5, _), (86, _), (87, _)]
   (fun g => ⟨true, n2, .cells #[.string (mB8 P.nm), .int .u32 P.df, .slice ra P.rules.length rc, .int .u16 (P.hd : Nat), .slice pa P.paths.length pc, .slice qa P.ports.length qc] 36 (0, 0)⟩ :: (g.2 ++ (tbS ct k1 k2 (n + P.rules.length) ++ L))) (0, B) (.cons rfl (.cons rfl (.cons rfl (.cons rfl .nil)))) ⟨Nat.zero_le _, hB⟩ (by (focus (repeat (first | exact Sub.nil | refine Sub.cons rfl ?_)))) (fun _ H => H) ?_
  clear hB B
  rintro ⟨k, B⟩ ⟨hk, hB⟩
  dsimp only at hk hB
  simp only [List.cons_append, List.nil_append]
  by_cases hlt : k < P.paths.length
  case neg =>
   obtain rfl : k = P.paths.length := by omega
   repeat' (first | refine h0p ?_ | refine h0e ?_ | refine h0t ?_ | refine h1u ?_ | refine h1n ?_ | refine h1v ?_ | refine h2o ?_ | refine h0h rfl ?_ | (refine gR 20 (p_e (q_b (r:=by exact h1j q_o)) (h:=h0d ?_))))
   exact h0w B hB (by (focus (repeat (first | exact Sub.nil | refine Sub.cons rfl ?_)))) (fun _ H => H)
  obtain ⟨j, q, bb, off, cs, T, fr, rfl, hj, hsz, hx⟩ := ((hps.upA (tbS ct k1 k2 (n + P.rules.length))).upA B).elem hlt
  rw [show pthC P.g.paths = pthC P.paths from rfl, pthC_at _ _ hlt] at hx
  obtain ⟨g1, g2, g3, g4⟩ := h.paths _ (List.getElem_mem hlt)
  have hpl := (wP_ok g1).2
  have hrl := (rg_ok g2 (and_sub g3 h.hd)).2
  have hn6 : P.paths[k].2 < 65536 := by have h2 := Nat.and_le_right (n:=P.paths[k].2) (m:=2047); omega
  have hrt := fun (L : List Blk) => Rg.text_c (S:=S) (w0:=w0) (L:=L) P.paths[k].2 hn6
  have hlc := linC_len h hr (k + 1)
  have ehl : h4p (linC P (k + 1)) = h4p (linC P k) ++ (spcL (benL P.paths[k]) ++ [10]) := by
   unfold linC
   rw [List.take_succ_eq_append_getElem hlt, List.map_append, ← List.append_assoc]
   exact lnsT_snoc _ _
  rw [ehl, List.length_append] at hlc
  have hzt : (Rg.textF P.paths[k].2).size ≤ 320 := by rw [← h3d]; exact hrl
  have hzp : (mB8 P.paths[k].1).size ≤ 120 := by rw [h1t]; exact hpl
  have d1 : (⟨#[98, 101, 110, 101, 97, 116, 104, 32]⟩ : ByteArray).size = 8 := rfl
  have d2 : (⟨#[32]⟩ : ByteArray).size = 1 := rfl
  have het : ((((⟨#[98, 101, 110, 101, 97, 116, 104, 32]⟩ : ByteArray) ++ mB8 P.paths[k].1) ++ (⟨#[32]⟩ : ByteArray)) ++ Rg.textF P.paths[k].2) ++ (⟨#[10]⟩ : ByteArray) = mB8 (spcL (benL P.paths[k]) ++ [10]) := by
   rw [benT_eq, ← mB8_lB (Rg.textF P.paths[k].2), show (⟨#[98, 101, 110, 101, 97, 116, 104, 32]⟩ : ByteArray) = mB8 [98, 101, 110, 101, 97, 116, 104, 32] from rfl, show (⟨#[32]⟩ : ByteArray) = mB8 [32] from rfl, show (⟨#[10]⟩ : ByteArray) = mB8 [10] from rfl]
   simp only [h4s, List.append_assoc]
   rfl
  have hw := fun (x y : Blk) (M : List Blk) => bldi_tp (S:=S) (w0:=w0) [x, y] M hB (by omega) _ _ het (by omega) (by rw [List.length_append]; simp)
  rw [← ehl] at hw
  dsimp only [List.cons_append, List.nil_append] at hw
  clear het ehl hB hlc g1 g2 g3 g4 hrl hpl
  generalize Rg.textF P.paths[k].2 = rt at *
  generalize P.paths[k] = p at *
  obtain ⟨pt, pr⟩ := p
  dsimp only at *
  generalize mB8 pt = bt at *
  repeat' (first | refine h0p ?_ | refine h0e ?_ | refine h0t ?_ | refine h0x ?_ | refine h0r ?_ | refine h0u ?_ | refine h0j rfl ?_ | (refine gR 20 (p_e (q_b (r:=by exact h1d q_o)) (h:=h0d ?_))) | (refine gR 21 (p_e (by apply h0n; exact rfl; exact rfl; (focus (apply h3e Tryz.underlying33 sz_104; omega; omega; exact c_1))) (h:=q_e (by apply h3p (t:=104); exact rfl; exact c_18; kernel_rfl; kernel_rfl; exact sz_104; (with_reducible assumption); (with_reducible assumption)) ?_)) <;> (try refine h0f ?_; (refine h0i (t:=104) rfl Tryz.zeroValue104 ?_; intro nb hnb; (try simp only [Value.cells]))) <;> (try refine h0f ?_; (refine q_W ?_)) <;> (try refine h0d ?_)) | ((refine h2t (pre:=[_, _]) (id:=22) (m:=10) rfl (by kernel_rfl) rfl (q_t 0 (e:=h2x) (x:=by exact q_f fo_104_0) (h:=q_t 1 (e:=h2x) (x:=by exact q_l) (h:=q_t 2 (e:=h2x) (x:=by exact q_b (r:=by apply h1q; exact rfl; (focus (omega)))) (h:=q_t 3 (e:=h2x) (x:=by exact q_b (r:=by apply h1q; exact rfl; (focus (simp only [ByteArray.size_append]; omega)))) (h:=q_t 4 (e:=h2x) (x:=by exact q_f fo_104_1) (h:=q_t 5 (e:=h2x) (x:=by exact q_l) (h:=?_)))))))) <;> (try refine q_r 6 ?_; (refine q_c 34 (c:=by apply hrt) (h:=?_); rintro _ _ ⟨rfl, rfl⟩; (try simp only [zzE, zzF])); refine h1g h2x ?_) <;> (try refine q_t 7 (e:=h2x) (x:=by exact q_b (r:=by apply h1q; exact rfl; (focus (simp only [ByteArray.size_append]; omega)))) (h:=q_t 8 (e:=h2x) (x:=by exact q_b (r:=by apply h1q; exact rfl; (focus (simp only [ByteArray.size_append]; omega)))) (h:=?_))) <;> (try refine q_r 9 ?_; (refine q_c 29 (c:=by apply hw) (h:=?_); rintro _ _ ⟨rfl, B1, hB1, rfl⟩; (try simp only [zzE, zzF])); refine h1g h2x ?_) <;> (try refine h1e (by kernel_rfl) ?_)) | (refine gR 23 ?_ <;> (try refine q_e (q_b (r:=by apply h1r; exact c_5; (focus (refine IntWalk.i64_in _ ?_; omega)))) ?_) <;> (try refine p_m (h:=h0d ?_))))
  exact h0w (k + 1, B1) ⟨⟨by show k + 1 ≤ P.paths.length; omega, hB1⟩, by show P.paths.length - (k + 1) < P.paths.length - k; omega⟩ (by (focus (repeat (first | exact Sub.nil | refine Sub.cons rfl ?_)))) (fun _ H => H.tail)
 clear hB B
 rintro B hB
 have e0 : linD P 0 = linC P P.paths.length := by unfold linD; rw [List.take_zero, List.map_nil, List.append_nil]
 rw [← e0] at hB
 clear e0
 simp only [List.cons_append, List.nil_append]
 repeat' (first | (refine h2r (id:=6) ?_) | refine h0p ?_ | refine h0e ?_ | (refine gR 24 (p_e (q_f h3t) (h:=p_e q_l (h:=p_e (by apply h0g; exact rfl; exact (fun _ => BigFrame.builtin_len ..); apply h0k Tryz.underlying34; exact h4y) (h:=p_m (h:=h0d ?_)))))))
 refine ⟨?_⟩
 refine h2z (γ:=List Blk) (fun B => BldI n5 (h4p (linD P P.ports.length)) B) (fun _ => []) [(5, _)]
  (fun B => B ++ (tbS ct k1 k2 (n + P.rules.length) ++ L)) (.cons rfl .nil) ?_ ?_
 ·refine h0r ?_
  refine h2s (γ:=Nat × List Blk) (fun g => g.1 ≤ P.ports.length ∧ BldI n5 (h4p (linD P g.1)) g.2) (fun g => P.ports.length - g.1) (fun g => [(106, .int .i64 (g.1 : Nat))]) [(5, _), (104, _), (105, _)]
   (fun g => ⟨true, n2, .cells #[.string (mB8 P.nm), .int .u32 P.df, .slice ra P.rules.length rc, .int .u16 (P.hd : Nat), .slice pa P.paths.length pc, .slice qa P.ports.length qc] 36 (0, 0)⟩ :: (g.2 ++ (tbS ct k1 k2 (n + P.rules.length) ++ L))) (0, B) (.cons rfl (.cons rfl (.cons rfl .nil))) ⟨Nat.zero_le _, hB⟩ (by (focus (repeat (first | exact Sub.nil | refine Sub.cons rfl ?_)))) (fun _ H => H) ?_
  clear hB B
  rintro ⟨k, B⟩ ⟨hk, hB⟩
  dsimp only at hk hB
  simp only [List.cons_append, List.nil_append]
  by_cases hlt : k < P.ports.length
  case neg =>
   obtain rfl : k = P.ports.length := by omega
   repeat' (first | refine h0p ?_ | refine h0e ?_ | refine h0t ?_ | refine h1u ?_ | refine h1n ?_ | refine h1v ?_ | refine h2o ?_ | refine h0h rfl ?_ | (refine gR 25 (p_e (q_b (r:=by exact h1j q_o)) (h:=h0d ?_))))
   exact h0w B hB (by (focus (repeat (first | exact Sub.nil | refine Sub.cons rfl ?_)))) (fun _ H => H.tail)
  obtain ⟨j, q, bb, off, cs, T, fr, rfl, hj, hsz, hx⟩ := ((hqs.upA (tbS ct k1 k2 (n + P.rules.length))).upA B).elem hlt
  rw [show porC P.g.ports = porC P.ports from rfl, porC_at _ _ hlt] at hx
  obtain ⟨g1, g2, g3, g4⟩ := h.ports _ (List.getElem_mem hlt)
  have hpl := d20 (n:=P.ports[k].1) (by omega)
  have hrl := (rg_ok g2 (and_sub g3 h.hd)).2
  have hn6 : P.ports[k].2 < 65536 := by have h2 := Nat.and_le_right (n:=P.ports[k].2) (m:=49152); omega
  have hrt := fun (L : List Blk) => Rg.text_c (S:=S) (w0:=w0) (L:=L) P.ports[k].2 hn6
  have hpr := fun (L : List Blk) => printed_c P.ports[k].1 (by omega) S w0 L
  have hlc := linD_len h hr (k + 1)
  have ehl : h4p (linD P (k + 1)) = h4p (linD P k) ++ (spcL (porL P.ports[k]) ++ [10]) := by
   unfold linD
   rw [List.take_succ_eq_append_getElem hlt, List.map_append, ← List.append_assoc]
   exact lnsT_snoc _ _
  rw [ehl, List.length_append] at hlc
  have hzt : (Rg.textF P.ports[k].2).size ≤ 320 := by rw [← h3d]; exact hrl
  have hzp : (mB8 (decF P.ports[k].1)).size ≤ 20 := by rw [h1t]; exact hpl
  have d1 : (⟨#[112, 111, 114, 116, 32]⟩ : ByteArray).size = 5 := rfl
  have d2 : (⟨#[32]⟩ : ByteArray).size = 1 := rfl
  have het : ((((⟨#[112, 111, 114, 116, 32]⟩ : ByteArray) ++ mB8 (decF P.ports[k].1)) ++ (⟨#[32]⟩ : ByteArray)) ++ Rg.textF P.ports[k].2) ++ (⟨#[10]⟩ : ByteArray) = mB8 (spcL (porL P.ports[k]) ++ [10]) := by
   rw [porT_eq, ← mB8_lB (Rg.textF P.ports[k].2), show (⟨#[112, 111, 114, 116, 32]⟩ : ByteArray) = mB8 [112, 111, 114, 116, 32] from rfl, show (⟨#[32]⟩ : ByteArray) = mB8 [32] from rfl, show (⟨#[10]⟩ : ByteArray) = mB8 [10] from rfl]
   simp only [h4s, List.append_assoc]
   rfl
  have hw := fun (x y : Blk) (M : List Blk) => bldi_tp (S:=S) (w0:=w0) [x, y] M hB (by omega) _ _ het (by omega) (by rw [List.length_append]; simp)
  rw [← ehl] at hw
  dsimp only [List.cons_append, List.nil_append] at hw
  clear het ehl hB hlc g2 g3 g4 hrl hpl
  generalize Rg.textF P.ports[k].2 = rt at *
  generalize P.ports[k] = p at *
  obtain ⟨pt, pr⟩ := p
  dsimp only at *
  generalize mB8 (decF pt) = bt at *
  repeat' (first | refine h0p ?_ | refine h0e ?_ | refine h0t ?_ | refine h0x ?_ | refine h0r ?_ | refine h0u ?_ | refine h0j rfl ?_ | (refine gR 25 (p_e (q_b (r:=by exact h1d q_o)) (h:=h0d ?_))) | (refine gR 26 (p_e (by apply h0n; exact rfl; exact rfl; (focus (apply h3e Tryz.underlying34 sz_106; omega; omega; exact c_1))) (h:=q_e (by apply h3p (t:=106); exact rfl; exact c_18; kernel_rfl; kernel_rfl; exact sz_106; (with_reducible assumption); (with_reducible assumption)) ?_)) <;> (try refine h0f ?_; (refine h0i (t:=106) rfl Tryz.zeroValue106 ?_; intro nb hnb; (try simp only [Value.cells]))) <;> (try refine h0f ?_; (refine q_W ?_)) <;> (try refine h0d ?_)) | ((refine h2t (pre:=[_, _]) (id:=27) (m:=12) rfl (by kernel_rfl) rfl (q_t 0 (e:=h2x) (x:=by exact q_f fo_106_0) (h:=q_t 1 (e:=h2x) (x:=by exact q_l) (h:=?_)))) <;> (try refine q_t 2 (e:=h2x) (x:=by apply h4l; exact rfl; (focus (apply h4r Tryz.underlying31 Tryz.underlying97; first | (refine IntWalk.i64_in _ ?_; omega) | (refine IntWalk.u8_in _ ?_; omega) | (refine IntWalk.u16_in _ ?_; omega) | (refine IntWalk.u32_in _ ?_; omega) | (refine IntWalk.u64_in _ ?_; omega) | (refine IntWalk.i32_in _ ?_; omega) | exact rfl))) (h:=?_)) <;> (try refine q_t 6 (e:=h2x) (x:=by exact q_f fo_106_1) (h:=q_t 7 (e:=h2x) (x:=by exact q_l) (h:=?_))) <;> (try refine q_r 3 ?_; (refine q_c 32 (c:=by apply hpr) (h:=?_); rintro _ _ ⟨rfl, rfl⟩; (try simp only [zzE, zzF])); refine h1g h2x ?_) <;> (try refine q_t 4 (e:=h2x) (x:=by exact q_b (r:=by apply h1q; exact rfl; (focus (omega)))) (h:=q_t 5 (e:=h2x) (x:=by exact q_b (r:=by apply h1q; exact rfl; (focus (simp only [ByteArray.size_append]; omega)))) (h:=?_))) <;> (try refine q_r 8 ?_; (refine q_c 34 (c:=by apply hrt) (h:=?_); rintro _ _ ⟨rfl, rfl⟩; (try simp only [zzE, zzF])); refine h1g h2x ?_) <;> (try refine q_t 9 (e:=h2x) (x:=by exact q_b (r:=by apply h1q; exact rfl; (focus (simp only [ByteArray.size_append]; omega)))) (h:=q_t 10 (e:=h2x) (x:=by exact q_b (r:=by apply h1q; exact rfl; (focus (simp only [ByteArray.size_append]; omega)))) (h:=?_))) <;> (try refine q_r 11 ?_; (refine q_c 29 (c:=by apply hw) (h:=?_); rintro _ _ ⟨rfl, B1, hB1, rfl⟩; (try simp only [zzE, zzF])); refine h1g h2x ?_) <;> (try refine h1e (by kernel_rfl) ?_)) | (refine gR 28 ?_ <;> (try refine q_e (q_b (r:=by apply h1r; exact c_5; (focus (refine IntWalk.i64_in _ ?_; omega)))) ?_) <;> (try refine p_m (h:=h0d ?_))))
  exact h0w (k + 1, B1) ⟨⟨by show k + 1 ≤ P.ports.length; omega, hB1⟩, by show P.ports.length - (k + 1) < P.ports.length - k; omega⟩ (by (focus (repeat (first | exact Sub.nil | refine Sub.cons rfl ?_)))) (fun _ H => H.tail)
 clear hB B
 rintro B hB
 rw [linD_all] at hB
 simp only [List.cons_append, List.nil_append]
 have hst := fun (M : List Blk) => bldi_s (S:=S) (w0:=w0) (L:=M) hB (by have := (polL_ok P h hr).2; unfold polT at this; omega)
 clear hB
 repeat' (first | refine h0p ?_ | refine h0e ?_ | refine h1h ?_ | (refine gR 29 ?_ <;> (try refine h0f ?_; (refine q_c 35 (c:=by apply hst) (h:=?_); rintro _ _ ⟨rfl, rfl⟩; (try simp only [zzE, zzF]))) <;> (try refine p_a (h:=h0d ?_))))
 (refine h0v Tryz.results13 (.tmp rfl .nil) ?_)
 exact ⟨_, ⟨k1, k2, rfl, rfl⟩, fun _ H => H⟩
def PrE (pb ct rb n : Nat) (L0 M : List Blk) : Prop := ∃ m1 m2 o, M = prB pb ct rb :: (tbS ct m1 m2 n ++ (Rg.wst rb o ++ L0))
theorem PrE.up {pb ct rb n : Nat} {L0 M : List Blk} (h : PrE pb ct rb n L0 M) : ∃ T, M = prB pb ct rb :: T ∧ EnS ct rb n L0 T := by
 obtain ⟨m1, m2, o, rfl⟩ := h
 exact ⟨_, rfl, m1, m2, o, rfl⟩
theorem PrE.sub {pb ct rb n : Nat} {L0 M : List Blk} (h : PrE pb ct rb n L0 M) : L0.Sublist M := by
 obtain ⟨m1, m2, o, rfl⟩ := h
 exact List.Sublist.cons _ ((List.sublist_append_right _ _).trans (List.sublist_append_right _ _))
theorem calls_x {S w0} (B : List Blk) {pb ct rb n : Nat} {L0 M : List Blk} (h : PrE pb ct rb n L0 M) : Fn Tryz.prog 11 #[.pointer (some ⟨pb, 0, none⟩)] S w0 (B ++ M) fun v L' => v = .pointer (some ⟨ct, 0, none⟩) ∧ B ++ M = L' := by
 obtain ⟨m1, m2, o, rfl⟩ := h
 refine Fn.weak (fun w H => HP.swapA (e:=B) [_] H) ((calls_p (S:=S) (w0:=w0) (L:=B ++ (tbS ct m1 m2 n ++ (Rg.wst rb o ++ L0))) pb ct rb).mono ?_)
 rintro v L' ⟨rfl, rfl⟩
 exact ⟨_, ⟨rfl, rfl⟩, fun w H => HP.swapA (e:=[_]) B H⟩
theorem parse_x {S w0} (B : List Blk) {pb ct rb n : Nat} {L0 M : List Blk} (h : PrE pb ct rb n L0 M) (hn : n ≤ 90000) (s : ByteArray) (hs : s.size ≤ 1000000) :
  Fn Tryz.prog 10 #[.pointer (some ⟨pb, 0, none⟩), .string s] S w0 (B ++ M) fun v L' => ∃ (d : PoD) (n' : Nat) (M' : List Blk), v = h2y [.agg (polC (polF (lB s)).1 d.vr d.vp d.vq).toArray, .agg (wrA (polF (lB s)).2).toArray] ∧ d.ok (polF (lB s)).1 ∧ n' ≤ n + 65 ∧ PrE pb ct rb n' L0 M' ∧ B ++ (d.blocks ++ M') = L' := by
 obtain ⟨T, rfl, hT⟩ := h.up
 obtain ⟨T2, hT2, hput⟩ := hT.put (S:=S) (w0:=w0) B
 refine Fn.weak (fun w H => hput w [_] (HP.swapA (e:=B) [_] H)) ((parse_c (S:=S) (w0:=w0) pb ct rb n (B ++ L0) T2 hn hT2 s hs).mono ?_)
 rintro v L' ⟨d, n', T', rfl, hd, hn', hT', rfl⟩
 obtain ⟨T3, ⟨m1, m2, o, rfl⟩, hget⟩ := hT'.get (S:=S) (w0:=w0) B
 refine ⟨_, ⟨d, n', _, rfl, hd, hn', ⟨m1, m2, o, rfl⟩, rfl⟩, fun w H => ?_⟩
 have H2 := hget w ([prB pb ct rb] ++ d.blocks) (by rw [List.append_assoc]; exact H)
 exact HP.re2 (env:=[[prB pb ct rb], d.blocks, B, tbS ct m1 m2 n', Rg.wst rb o, L0]) [0, 1, 2, 3, 4, 5] [2, 1, 0, 3, 4, 5] (by decide) (by simp [flatB]) rfl H2
theorem text_x {S w0} (B : List Blk) {pb ct rb n : Nat} {L0 M : List Blk} (h : PrE pb ct rb n L0 M) (hn : n ≤ 90000) (P : Pol) (hP : PolOk P) (hR : PolRn P) (vr vp vq : Value) (hS : PolS (B ++ L0) P.g vr vp vq) :
  Fn Tryz.prog 13 #[.agg (polC P vr vp vq).toArray, .pointer (some ⟨ct, 0, none⟩)] S w0 (B ++ M) fun v L' => ∃ M', v = .string (mB8 (polT P)) ∧ PrE pb ct rb (n + P.rules.length) L0 M' ∧ B ++ M' = L' := by
 obtain ⟨m1, m2, o, rfl⟩ := h
 refine Fn.weak (fun w H => HP.re2 (env:=[B, [prB pb ct rb], tbS ct m1 m2 n, Rg.wst rb o, L0]) [0, 1, 2, 3, 4] [2, 1, 3, 0, 4] (by decide) rfl rfl H) ((ptext_c (S:=S) (w0:=w0) (L:=(prB pb ct rb :: Rg.wst rb o) ++ (B ++ L0)) P hP hR vr vp vq (hS.upA _) ct m1 m2 n hn).mono ?_)
 rintro v L' ⟨k1, k2, rfl, rfl⟩
 exact ⟨_, ⟨_, rfl, ⟨k1, k2, o, rfl⟩, rfl⟩, fun w H => HP.re2 (env:=[B, [prB pb ct rb], tbS ct k1 k2 (n + P.rules.length), Rg.wst rb o, L0]) [2, 1, 3, 0, 4] [0, 1, 2, 3, 4] (by decide) rfl rfl H⟩
inductive Tl : List Blk → List Blk → List Blk → Prop
 | nil (M : List Blk) : Tl M [] M
 | one (e M : List Blk) : Tl (e ++ M) e M
 | cons {R B M : List Blk} (x : Blk) (h : Tl R B M) : Tl (x :: R) (x :: B) M
 | app {R B M : List Blk} (e : List Blk) (h : Tl R B M) : Tl (e ++ R) (e ++ B) M
theorem Tl.eq {L B M : List Blk} (h : Tl L B M) : L = B ++ M := by
 induction h with
 | nil => rfl
 | one => rfl
 | cons x _ ih => rw [ih]; rfl
 | app e _ ih => rw [ih, List.append_assoc]
theorem parse_t {S w0} {pb ct rb n : Nat} {L0 M L B : List Blk} (s : ByteArray) (hs : s.size ≤ 1000000) (P : Pol) (a b c : Nat) (hP : polF (lB s) = (P, (a, b, c))) (hl : ∀ r ∈ P.rules, r.conds.length ≤ maxLen) (hM : PrE pb ct rb n L0 M) (hn : n ≤ 90000) (hL : Tl L B M) :
  Fn Tryz.prog 10 #[.pointer (some ⟨pb, 0, none⟩), .string s] S w0 L fun v L' => ∃ (r1 p1 q1 : Option Addr) (r3 p3 q3 : Nat) (E : List Blk) (n' : Nat) (M' : List Blk), v = h2y [.agg #[.string (mB8 P.nm), .int .u32 P.df, .slice r1 P.rules.length r3, .int .u16 (P.hd : Nat), .slice p1 P.paths.length p3, .slice q1 P.ports.length q3], .agg #[.int .i64 (a : Nat), .int .i64 (b : Nat), .int .i64 (c : Nat)]] ∧ PolS E P.g (.slice r1 P.rules.length r3) (.slice p1 P.paths.length p3) (.slice q1 P.ports.length q3) ∧ n' ≤ n + 65 ∧ PrE pb ct rb n' L0 M' ∧ B ++ (E ++ M') = L' := by
 rw [hL.eq]
 refine (parse_x (S:=S) (w0:=w0) B hM hn s hs).mono ?_
 rw [hP]
 rintro v L' ⟨d, n', M', rfl, hd, hn', hM', rfl⟩
 have hS := hd.polS hl
 obtain ⟨r1, r3, p1, p3, q1, q3, e1, e2, e3⟩ := hd.sl
 rw [e1, e2, e3] at hS
 exact ⟨_, ⟨r1, p1, q1, r3, p3, q3, _, n', M', by rw [e1, e2, e3], hS, hn', hM', rfl⟩, fun _ H => H⟩
theorem text_t {S w0} {pb ct rb n : Nat} {L0 M L B E : List Blk} (P : Pol) (hP : PolOk P) (hR : PolRn P) {r1 p1 q1 : Option Addr} {r3 p3 q3 : Nat} (hM : PrE pb ct rb n L0 M) (hS : PolS E P.g (.slice r1 P.rules.length r3) (.slice p1 P.paths.length p3) (.slice q1 P.ports.length q3)) (hn : n ≤ 90000) (hL : Tl L B (E ++ M)) :
  Fn Tryz.prog 13 #[.agg #[.string (mB8 P.nm), .int .u32 P.df, .slice r1 P.rules.length r3, .int .u16 (P.hd : Nat), .slice p1 P.paths.length p3, .slice q1 P.ports.length q3], .pointer (some ⟨ct, 0, none⟩)] S w0 L fun v L' => ∃ M', v = .string (mB8 (polT P)) ∧ PrE pb ct rb (n + P.rules.length) L0 M' ∧ B ++ (E ++ M') = L' := by
 have e : L = (B ++ E) ++ M := by rw [hL.eq, List.append_assoc]
 rw [e]
 refine (text_x (S:=S) (w0:=w0) (B ++ E) hM hn P hP hR _ _ _ (by rw [List.append_assoc]; exact (hS.left).upA B)).mono ?_
 rintro v L' ⟨M', rfl, hM', rfl⟩
 exact ⟨_, ⟨M', rfl, hM', rfl⟩, fun _ H => by rw [List.append_assoc] at H; exact H⟩
theorem calls_t {S w0} {pb ct rb n : Nat} {L0 M L B : List Blk} (hM : PrE pb ct rb n L0 M) (hL : Tl L B M) : Fn Tryz.prog 11 #[.pointer (some ⟨pb, 0, none⟩)] S w0 L fun v L' => v = .pointer (some ⟨ct, 0, none⟩) ∧ L = L' := by
 rw [hL.eq]
 exact calls_x (S:=S) (w0:=w0) B hM
theorem pol_cl {P : Pol} (h : PolOk P) : ∀ r ∈ P.rules, r.conds.length ≤ maxLen := by
 intro r hr
 have := (h.rules r hr).len
 unfold maxLen; omega
def valC : Array Value := #[.int .u64 0, .int .u64 1, .int .u64 2, .int .u64 3, .int .u64 5, .int .u64 255, .int .u64 4294967295, .int .u64 4294967296, .int .u64 4294967297, .int .u64 8589934597, .int .u64 9223372036854775810, .int .u64 18446744073709551615]
theorem valC_at (k : Nat) (h : k < 12) : ∃ n : Nat, valC.toList[k]? = some (.int .u64 (n : Nat)) ∧ n ≤ 18446744073709551615 ∧ (1 ≤ k → n ≠ 0) := by
 match k, h with
 | 0, _ => exact ⟨0, rfl, by omega, by omega⟩
 | 1, _ => exact ⟨1, rfl, by omega, by omega⟩
 | 2, _ => exact ⟨2, rfl, by omega, by omega⟩
 | 3, _ => exact ⟨3, rfl, by omega, by omega⟩
 | 4, _ => exact ⟨5, rfl, by omega, by omega⟩
 | 5, _ => exact ⟨255, rfl, by omega, by omega⟩
 | 6, _ => exact ⟨4294967295, rfl, by omega, by omega⟩
 | 7, _ => exact ⟨4294967296, rfl, by omega, by omega⟩
 | 8, _ => exact ⟨4294967297, rfl, by omega, by omega⟩
 | 9, _ => exact ⟨8589934597, rfl, by omega, by omega⟩
 | 10, _ => exact ⟨9223372036854775810, rfl, by omega, by omega⟩
 | 11, _ => exact ⟨18446744073709551615, rfl, by omega, by omega⟩
theorem values_c {S w0 L} : Fn Tryz.prog 57 #[] S w0 L fun v L' => ∃ nb, v = .slice (some ⟨nb, 0, none⟩) 12 12 ∧ ⟨true, nb, .cells valC 97 (0, 0)⟩ :: L = L' := by
 refine Fn0 Tryz.func57 Tryz.ntmps57 rfl ?_
 repeat' (first | refine h0p ?_ | refine h0e ?_ | refine h1h ?_ | (refine gR 0 (p_a (h:=h0d ?_))) | (refine gR 1 ?_ <;> (try refine h0f ?_; (refine h0o (t:=173) (m:=12) (e:=97) (fun vs => (match vs with | [(_, x0), (_, x1), (_, x2), (_, x3), (_, x4), (_, x5), (_, x6), (_, x7), (_, x8), (_, x9), (_, x10), (_, x11)] => [x0, x1, x2, x3, x4, x5, x6, x7, x8, x9, x10, x11] | _ => [])) rfl rfl (fun w => by kernel_rfl) ?_; intro nb hnb; (try simp only [Value.cells]); (try simp only [zzC, zzN]))) <;> (try refine p_a (h:=h0d ?_))))
 (refine h0v Tryz.results57 (.tmp rfl .nil) ?_)
 exact ⟨_, ⟨_, rfl, rfl⟩, fun _ H => H⟩
theorem and_andn (x m : Nat) : h6b ((x &&& m : Nat) : Int) (m : Int) = 0 := by
 unfold h6b
 rw [Int.toNat_natCast, Int.toNat_natCast, Nat.and_assoc, Nat.and_self, Nat.xor_self]
 rfl
structure SCnd where
 a : Int
 o : Int
 m : Int
 v : Int
abbrev SCnd.cells (c : SCnd) : List Value := [.int .u8 c.a, .int .u8 c.o, .int .u8 c.m, .int .u8 c.v]
structure SCnd.ok (c : SCnd) : Prop where
 a : 0 ≤ c.a ∧ c.a < 256
 o : 0 ≤ c.o ∧ c.o < 256
 m : 0 ≤ c.m ∧ c.m < 256
 v : 0 ≤ c.v ∧ c.v < 256
def CndG (c : Cnd) : Prop := CndOk c ∧ c.mask ≤ 18446744073709551615 ∧ c.val ≤ 18446744073709551615
theorem cond_s {S w0 L} (a o m x : Int) (ha : 0 ≤ a ∧ a < 256) (ho : 0 ≤ o ∧ o < 256) (hm : 0 ≤ m ∧ m < 256) (hx : 0 ≤ x ∧ x < 256) :
  Fn Tryz.prog 26 #[.agg #[.int .u8 a, .int .u8 o, .int .u8 m, .int .u8 x]] S w0 L fun v L' => ∃ c : Cnd, v = .agg #[.int .i64 (c.arg : Nat), .int .u8 (c.op : Nat), .int .u64 (c.mask : Nat), .int .u64 (c.val : Nat)] ∧ CndG c ∧ L = L' := by
 obtain ⟨y, hy, hy2, -⟩ := valC_at (x % 12).toNat (by omega)
 obtain ⟨z, hz, hz2, hz3⟩ := valC_at (1 + m % 11).toNat (by omega)
 have hz3 := hz3 (by omega)
 have hsz : valC.size = 12 := rfl
 have hv := fun (L : List Blk) => values_c (S:=S) (w0:=w0) (L:=L)
 generalize valC = V at *
 by_cases h7 : o % 7 = 6
 ·refine Fn1 Tryz.func26 Tryz.ntmps26 rfl rfl ?_
  repeat' (first | refine h0p ?_ | refine h0e ?_ | refine h1h ?_ | refine h0j rfl ?_ | (refine gR 0 ?_ <;> (try refine h0f ?_; (refine h5b (t:=95) rfl rfl ?_; intro nb hnb; (try simp only [Value.cells]))) <;> (try refine h0f ?_; (refine h0i (t:=99) rfl Tryz.zeroValue99 ?_; intro nb hnb; (try simp only [Value.cells]))) <;> (try refine h0d ?_)) | (refine gR 1 ?_ <;> (try refine h0f ?_; (refine q_c 57 (c:=by apply hv) (h:=?_); rintro _ _ ⟨nbV, rfl, rfl⟩; (try simp only [zzE, zzF]))) <;> (try refine p_a (h:=h0d ?_))) | ((refine h2q (id:=2) (m:=20) (by kernel_rfl) rfl (q_u 0 (x:=by exact q_f fo_95_0) (h:=q_u 1 (x:=by exact q_l) (h:=q_u 2 (x:=by exact q_b (r:=by apply rb_rem; omega; omega; exact c_5)) (h:=?_))))) <;> (try refine q_u 3 (x:=by apply h4l; exact rfl; (focus (apply h4r Tryz.underlying5 Tryz.underlying3; first | (refine IntWalk.i64_in _ ?_; omega) | (refine IntWalk.u8_in _ ?_; omega) | (refine IntWalk.u16_in _ ?_; omega) | (refine IntWalk.u32_in _ ?_; omega) | (refine IntWalk.u64_in _ ?_; omega) | (refine IntWalk.i32_in _ ?_; omega) | exact rfl))) (h:=?_)) <;> (try refine q_u 4 (x:=by exact q_f fo_95_1) (h:=q_u 5 (x:=by exact q_l) (h:=q_u 6 (x:=by exact q_b (r:=by apply rb_rem; omega; omega; exact c_5)) (h:=?_)))) <;> (try refine q_u 7 (x:=by exact q_b (r:=by apply h1r; exact c_5; (focus (refine IntWalk.u8_in _ ?_; omega)))) (h:=?_)) <;> (try refine q_u 8 (x:=by exact h0m rfl) (h:=q_u 9 (x:=by exact q_f fo_95_3) (h:=q_u 10 (x:=by exact q_l) (h:=?_)))) <;> (try refine q_u 11 (x:=by apply h4l; exact rfl; (focus (apply h4r Tryz.underlying5 Tryz.underlying3; first | (refine IntWalk.i64_in _ ?_; omega) | (refine IntWalk.u8_in _ ?_; omega) | (refine IntWalk.u16_in _ ?_; omega) | (refine IntWalk.u32_in _ ?_; omega) | (refine IntWalk.u64_in _ ?_; omega) | (refine IntWalk.i32_in _ ?_; omega) | exact rfl))) (h:=?_)) <;> (try refine q_u 12 (x:=by exact h0m rfl) (h:=q_u 13 (x:=by apply h0g; exact rfl; exact (fun _ => BigFrame.builtin_len ..); apply h0k Tryz.underlying173; exact h4y) (h:=q_u 14 (x:=by exact q_b (r:=by apply rb_rem; omega; omega; exact c_5)) (h:=q_u 15 (x:=by apply h0n; exact rfl; exact rfl; (focus (apply h3e Tryz.underlying173 sz_97; omega; omega; exact c_1))) (h:=q_u 16 (x:=by apply h1l (t:=97); exact rfl; exact fd0; kernel_rfl; kernel_rfl; (with_reducible assumption)) (h:=?_)))))) <;> (try refine q_u 17 (x:=by exact h0s (t:=99) (fun vs => (match vs with | [(_, x0), (_, x1), (_, x2)] => [x0, x1, Value.int .u64 0, x2] | _ => [])) rfl (fun w => by kernel_rfl)) (h:=?_); (try simp only [Value.cells]); (try simp only [zzC, zzN])) <;> (try refine q_r 18 ?_; (refine h0i (t:=99) rfl Tryz.zeroValue99 ?_; intro nb hnb; (try simp only [Value.cells])); refine h1g h4x ?_) <;> (try refine q_r 19 ?_; (refine q_W ?_); refine h1g h4x ?_) <;> (try refine h1e (by kernel_rfl) ?_)) | (refine gR 3 (p_e (q_f fo_99_1) (h:=q_e q_l ?_)) <;> (try refine q_e (by exact q_b (r:=by refine h1i ?_; first | rfl | (with_reducible assumption) | (decide; done) | omega)) ?_) <;> (try refine h0d ?_)) | (refine gR 4 (p_m (h:=p_e (q_f fo_95_2) (h:=q_e q_l ?_))) <;> (try refine q_e (by apply h4l; exact rfl; (focus (apply h4r Tryz.underlying5 Tryz.underlying3; first | (refine IntWalk.i64_in _ ?_; omega) | (refine IntWalk.u8_in _ ?_; omega) | (refine IntWalk.u16_in _ ?_; omega) | (refine IntWalk.u32_in _ ?_; omega) | (refine IntWalk.u64_in _ ?_; omega) | (refine IntWalk.i32_in _ ?_; omega) | exact rfl))) ?_) <;> (try refine p_m (h:=q_e (by apply h0g; exact rfl; exact (fun _ => BigFrame.builtin_len ..); apply h0k Tryz.underlying173; exact h4y) ?_)) <;> (try refine q_e (q_b (r:=by apply rb_sub; exact c_5; (focus (refine IntWalk.i64_in _ ?_; omega)))) ?_) <;> (try refine q_e (q_b (r:=by apply rb_rem; omega; omega; exact c_5)) ?_) <;> (try refine q_e (q_b (r:=by apply h1r; exact c_5; (focus (refine IntWalk.i64_in _ ?_; omega)))) ?_) <;> (try refine p_e (by apply h0n; exact rfl; exact rfl; (focus (apply h3e Tryz.underlying173 sz_97; omega; omega; exact c_1))) (h:=p_e (by apply h1l (t:=97); exact rfl; exact h3n; kernel_rfl; kernel_rfl; (with_reducible assumption)) (h:=q_e (q_f fo_99_2) ?_))) <;> (try refine h0f ?_; (refine q_S ?_)) <;> (try refine h0d ?_)) | (refine gR 5 (p_e (q_f fo_99_3) (h:=p_e q_l (h:=p_e (q_f fo_99_2) (h:=q_e q_l ?_)))) <;> (try refine q_e (q_b (r:=by refine rb_and ?_ ?_; (focus (refine ⟨rfl, ⟨?_, ?_⟩⟩; omega; (focus (simp only [IntKind.bits]; omega)))); (focus (refine ⟨rfl, ⟨?_, ?_⟩⟩; omega; (focus (simp only [IntKind.bits]; omega)))))) ?_) <;> (try refine q_e (q_f fo_99_3) ?_) <;> (try refine h0f ?_; (refine q_S ?_)) <;> (try refine h0d ?_)) | (refine gR 6 (q_e (q_L sz_99) ?_) <;> (try refine h0f ?_; (refine q_W ?_)) <;> (try refine h0d ?_)))
  (apply h5j Tryz.results26; exact rfl; (focus (repeat (first | exact fd0 | (with_reducible assumption) | apply fdA | apply fdS))); kernel_rfl; kernel_rfl; exact sz_99; exact c_16)
  refine ⟨_, ⟨⟨(a % 6).toNat, (1 + o % 7).toNat, z, y &&& z⟩, by dsimp only; rw [Int.toNat_of_nonneg (by omega), Int.toNat_of_nonneg (by omega)]; rfl, ⟨⟨?_, ?_, ?_, ?_, ?_⟩, hz2, ?_⟩, rfl⟩, by intro w H; refine H.sub ?_; (try simp only [zzC, zzN]); repeat (first | exact List.Sublist.refl _ | refine List.Sublist.cons _ ?_)⟩
  ·dsimp only; omega
  ·dsimp only; omega
  ·dsimp only; omega
  ·intro h; dsimp only at h; omega
  ·intro _; exact ⟨hz3, and_andn y z⟩
  ·have := Nat.and_le_left (n:=y) (m:=z)
   show y &&& z ≤ _
   omega
 ·refine Fn1 Tryz.func26 Tryz.ntmps26 rfl rfl ?_
  repeat' (first | refine h0p ?_ | refine h0e ?_ | refine h0u ?_ | refine h1h ?_ | refine h0h rfl ?_ | (refine gR 0 ?_ <;> (try refine h0f ?_; (refine h5b (t:=95) rfl rfl ?_; intro nb hnb; (try simp only [Value.cells]))) <;> (try refine h0f ?_; (refine h0i (t:=99) rfl Tryz.zeroValue99 ?_; intro nb hnb; (try simp only [Value.cells]))) <;> (try refine h0d ?_)) | (refine gR 1 ?_ <;> (try refine h0f ?_; (refine q_c 57 (c:=by apply hv) (h:=?_); rintro _ _ ⟨nbV, rfl, rfl⟩; (try simp only [zzE, zzF]))) <;> (try refine p_a (h:=h0d ?_))) | ((refine h2q (id:=2) (m:=20) (by kernel_rfl) rfl (q_u 0 (x:=by exact q_f fo_95_0) (h:=q_u 1 (x:=by exact q_l) (h:=q_u 2 (x:=by exact q_b (r:=by apply rb_rem; omega; omega; exact c_5)) (h:=?_))))) <;> (try refine q_u 3 (x:=by apply h4l; exact rfl; (focus (apply h4r Tryz.underlying5 Tryz.underlying3; first | (refine IntWalk.i64_in _ ?_; omega) | (refine IntWalk.u8_in _ ?_; omega) | (refine IntWalk.u16_in _ ?_; omega) | (refine IntWalk.u32_in _ ?_; omega) | (refine IntWalk.u64_in _ ?_; omega) | (refine IntWalk.i32_in _ ?_; omega) | exact rfl))) (h:=?_)) <;> (try refine q_u 4 (x:=by exact q_f fo_95_1) (h:=q_u 5 (x:=by exact q_l) (h:=q_u 6 (x:=by exact q_b (r:=by apply rb_rem; omega; omega; exact c_5)) (h:=?_)))) <;> (try refine q_u 7 (x:=by exact q_b (r:=by apply h1r; exact c_5; (focus (refine IntWalk.u8_in _ ?_; omega)))) (h:=?_)) <;> (try refine q_u 8 (x:=by exact h0m rfl) (h:=q_u 9 (x:=by exact q_f fo_95_3) (h:=q_u 10 (x:=by exact q_l) (h:=?_)))) <;> (try refine q_u 11 (x:=by apply h4l; exact rfl; (focus (apply h4r Tryz.underlying5 Tryz.underlying3; first | (refine IntWalk.i64_in _ ?_; omega) | (refine IntWalk.u8_in _ ?_; omega) | (refine IntWalk.u16_in _ ?_; omega) | (refine IntWalk.u32_in _ ?_; omega) | (refine IntWalk.u64_in _ ?_; omega) | (refine IntWalk.i32_in _ ?_; omega) | exact rfl))) (h:=?_)) <;> (try refine q_u 12 (x:=by exact h0m rfl) (h:=q_u 13 (x:=by apply h0g; exact rfl; exact (fun _ => BigFrame.builtin_len ..); apply h0k Tryz.underlying173; exact h4y) (h:=q_u 14 (x:=by exact q_b (r:=by apply rb_rem; omega; omega; exact c_5)) (h:=q_u 15 (x:=by apply h0n; exact rfl; exact rfl; (focus (apply h3e Tryz.underlying173 sz_97; omega; omega; exact c_1))) (h:=q_u 16 (x:=by apply h1l (t:=97); exact rfl; exact fd0; kernel_rfl; kernel_rfl; (with_reducible assumption)) (h:=?_)))))) <;> (try refine q_u 17 (x:=by exact h0s (t:=99) (fun vs => (match vs with | [(_, x0), (_, x1), (_, x2)] => [x0, x1, Value.int .u64 0, x2] | _ => [])) rfl (fun w => by kernel_rfl)) (h:=?_); (try simp only [Value.cells]); (try simp only [zzC, zzN])) <;> (try refine q_r 18 ?_; (refine h0i (t:=99) rfl Tryz.zeroValue99 ?_; intro nb hnb; (try simp only [Value.cells])); refine h1g h4x ?_) <;> (try refine q_r 19 ?_; (refine q_W ?_); refine h1g h4x ?_) <;> (try refine h1e (by kernel_rfl) ?_)) | (refine gR 3 (p_e (q_f fo_99_1) (h:=p_e q_l (h:=p_e (q_b (r:=by exact h1o q_o)) (h:=h0d ?_))))) | (refine gR 6 (q_e (q_L sz_99) ?_) <;> (try refine h0f ?_; (refine q_W ?_)) <;> (try refine h0d ?_)))
  (apply h5j Tryz.results26; exact rfl; (focus (repeat (first | exact fd0 | (with_reducible assumption) | apply fdA | apply fdS))); kernel_rfl; kernel_rfl; exact sz_99; exact c_16)
  refine ⟨_, ⟨⟨(a % 6).toNat, (1 + o % 7).toNat, 0, y⟩, by dsimp only; rw [Int.toNat_of_nonneg (by omega), Int.toNat_of_nonneg (by omega)]; rfl, ⟨⟨?_, ?_, ?_, ?_, ?_⟩, Nat.zero_le _, hy2⟩, rfl⟩, by intro w H; refine H.sub ?_; (try simp only [zzC, zzN]); repeat (first | exact List.Sublist.refl _ | refine List.Sublist.cons _ ?_)⟩
  ·dsimp only; omega
  ·dsimp only; omega
  ·dsimp only; omega
  ·intro _; rfl
  ·intro h; dsimp only at h; omega
theorem actOk_err (n : Int) (h : 0 ≤ n ∧ n < 256) : actOk (327680 + min (max (1 + n) 0) 4095) = true := by
 have key : ∀ k : Fin 256, actOk (327680 + min (max (1 + (k.val : Int)) 0) 4095) = true := by decide +kernel
 have hk := key ⟨n.toNat, by omega⟩
 rw [show ((n.toNat : Nat) : Int) = n by omega] at hk
 exact hk
theorem action_s {S w0 L} (k n : Int) (hk : 0 ≤ k ∧ k < 256) (hn : 0 ≤ n ∧ n < 256) : Fn Tryz.prog 25 #[.int .u8 k, .int .u8 n] S w0 L fun v L' => ∃ act : Int, v = .int .u32 act ∧ (0 ≤ act ∧ actOk act = true) ∧ L = L' := by
 have hf := fun (L : List Blk) => rfail_c (S:=S) (w0:=w0) (L:=L) (1 + n) (by omega) (by omega)
 have hok := actOk_err n hn
 have h0 : 0 ≤ 327680 + min (max (1 + n) 0) 4095 := by omega
 generalize 327680 + min (max (1 + n) 0) 4095 = e at *
 by_cases k0 : k % 4 = 0
 ·refine Fn2 Tryz.func25 Tryz.ntmps25 rfl rfl ?_
  repeat' (first | refine h0p ?_ | refine h0e ?_ | refine h1f ?_ | refine h2p ?_ | refine h0r ?_ | refine h1h ?_ | refine h0j rfl ?_ | (refine gR 0 (p_a (h:=h0d ?_))) | (refine gR 1 (p_m (h:=p_e (q_b (r:=by apply rb_rem; omega; omega; exact c_5)) (h:=h0d ?_)))) | (refine gR 2 ?_ <;> (try refine q_e (by exact q_b (r:=by refine h1i ?_; first | rfl | (with_reducible assumption) | (decide; done) | omega)) ?_) <;> (try refine p_a (h:=h0d ?_))) | (refine gR 3 (p_a (h:=h0d ?_))))
  (refine h0v Tryz.results25 (.tmp rfl .nil) ?_)
  exact ⟨_, ⟨_, rfl, ⟨by decide, by decide +kernel⟩, rfl⟩, by intro w H; refine H.sub ?_; (try simp only [zzC, zzN]); repeat (exact List.Sublist.refl _)⟩
 by_cases k1 : k % 4 = 1
 ·refine Fn2 Tryz.func25 Tryz.ntmps25 rfl rfl ?_
  repeat' (first | refine h0p ?_ | refine h0e ?_ | refine h1f ?_ | refine h2p ?_ | refine h0r ?_ | refine h1h ?_ | refine h0j rfl ?_ | refine h0h rfl ?_ | (refine gR 0 (p_a (h:=h0d ?_))) | (refine gR 1 (p_m (h:=p_e (q_b (r:=by apply rb_rem; omega; omega; exact c_5)) (h:=h0d ?_)))) | (refine gR 2 (p_e (q_b (r:=by exact h1o q_o)) (h:=p_a (h:=h0d ?_)))) | (refine gR 4 ?_ <;> (try refine q_e (by exact q_b (r:=by refine h1i ?_; first | rfl | (with_reducible assumption) | (decide; done) | omega)) ?_) <;> (try refine p_a (h:=h0d ?_))) | (refine gR 5 (q_m ?_) <;> (try refine q_e (by apply h4l; exact rfl; (focus (apply h4r Tryz.underlying5 Tryz.underlying23; first | (refine IntWalk.i64_in _ ?_; omega) | (refine IntWalk.u8_in _ ?_; omega) | (refine IntWalk.u16_in _ ?_; omega) | (refine IntWalk.u32_in _ ?_; omega) | (refine IntWalk.u64_in _ ?_; omega) | (refine IntWalk.i32_in _ ?_; omega) | exact rfl))) ?_) <;> (try refine q_e (q_b (r:=by apply h1r; exact c_5; (focus (refine IntWalk.i64_in _ ?_; omega)))) ?_) <;> (try refine h0f ?_; (refine q_c 56 (c:=by apply hf) (h:=?_); rintro _ _ ⟨rfl, rfl⟩; (try simp only [zzE, zzF]))) <;> (try refine p_a (h:=h0d ?_))))
  (refine h0v Tryz.results25 (.tmp rfl .nil) ?_)
  exact ⟨_, ⟨_, rfl, ⟨h0, hok⟩, rfl⟩, by intro w H; refine H.sub ?_; (try simp only [zzC, zzN]); repeat (exact List.Sublist.refl _)⟩
 by_cases k2 : k % 4 = 2
 ·refine Fn2 Tryz.func25 Tryz.ntmps25 rfl rfl ?_
  repeat' (first | refine h0p ?_ | refine h0e ?_ | refine h1f ?_ | refine h2p ?_ | refine h0r ?_ | refine h1h ?_ | refine h0j rfl ?_ | refine h0h rfl ?_ | (refine gR 0 (p_a (h:=h0d ?_))) | (refine gR 1 (p_m (h:=p_e (q_b (r:=by apply rb_rem; omega; omega; exact c_5)) (h:=h0d ?_)))) | (refine gR 2 (p_e (q_b (r:=by exact h1o q_o)) (h:=p_a (h:=h0d ?_)))) | (refine gR 4 (p_e (q_b (r:=by exact h1o q_o)) (h:=p_a (h:=h0d ?_)))) | (refine gR 6 ?_ <;> (try refine q_e (by exact q_b (r:=by refine h1i ?_; first | rfl | (with_reducible assumption) | (decide; done) | omega)) ?_) <;> (try refine p_a (h:=h0d ?_))) | (refine gR 7 (p_a (h:=h0d ?_))))
  (refine h0v Tryz.results25 (.tmp rfl .nil) ?_)
  exact ⟨_, ⟨_, rfl, ⟨by decide, by decide +kernel⟩, rfl⟩, by intro w H; refine H.sub ?_; (try simp only [zzC, zzN]); repeat (exact List.Sublist.refl _)⟩
 ·refine Fn2 Tryz.func25 Tryz.ntmps25 rfl rfl ?_
  repeat' (first | refine h0p ?_ | refine h0e ?_ | refine h0x ?_ | refine h0r ?_ | refine h0u ?_ | refine h1h ?_ | refine h0h rfl ?_ | (refine gR 0 (p_a (h:=h0d ?_))) | (refine gR 1 (p_m (h:=p_e (q_b (r:=by apply rb_rem; omega; omega; exact c_5)) (h:=h0d ?_)))) | (refine gR 2 (p_e (q_b (r:=by exact h1o q_o)) (h:=p_a (h:=h0d ?_)))) | (refine gR 4 (p_e (q_b (r:=by exact h1o q_o)) (h:=p_a (h:=h0d ?_)))) | (refine gR 6 (p_e (q_b (r:=by exact h1o q_o)) (h:=p_a (h:=h0d ?_)))) | (refine gR 8 (p_a (h:=h0d ?_))))
  (refine h0v Tryz.results25 (.tmp rfl .nil) ?_)
  exact ⟨_, ⟨_, rfl, ⟨by decide, by decide +kernel⟩, rfl⟩, by intro w H; refine H.sub ?_; (try simp only [zzC, zzN]); repeat (exact List.Sublist.refl _)⟩
def dirC : Array Value := #[.string ⟨#[47]⟩, .string ⟨#[47, 97]⟩, .string ⟨#[47, 97, 47, 98]⟩, .string ⟨#[47, 102]⟩, .string ⟨#[47, 97, 47, 103]⟩, .string ⟨#[47, 99]⟩]
theorem dirs_c {S w0 L} : Fn Tryz.prog 28 #[] S w0 L fun v L' => ∃ nb, v = .slice (some ⟨nb, 0, none⟩) 6 6 ∧ ⟨true, nb, .cells dirC 9 (0, 0)⟩ :: L = L' := by
 refine Fn0 Tryz.func28 Tryz.ntmps28 rfl ?_
 repeat' (first | refine h0p ?_ | refine h0e ?_ | refine h1h ?_ | (refine gR 0 (p_a (h:=h0d ?_))) | (refine gR 1 ?_ <;> (try refine h0f ?_; (refine h0o (t:=56) (m:=6) (e:=9) (fun vs => (match vs with | [(_, x0), (_, x1), (_, x2), (_, x3), (_, x4), (_, x5)] => [x0, x1, x2, x3, x4, x5] | _ => [])) rfl rfl (fun w => by kernel_rfl) ?_; intro nb hnb; (try simp only [Value.cells]); (try simp only [zzC, zzN]))) <;> (try refine p_a (h:=h0d ?_))))
 (refine h0v Tryz.results28 (.tmp rfl .nil) ?_)
 exact ⟨_, ⟨_, rfl, rfl⟩, fun _ H => H⟩
def callC : List Value := clls.flatMap fun c => [.int .i64 c.num, .string c.name, .int .i64 c.args]
theorem rcalls_c {S w0 L} : Fn Tryz.prog 24 #[] S w0 L fun v L' => ∃ nb, v = .slice (some ⟨nb, 0, none⟩) 30 30 ∧ ⟨true, nb, .cells callC.toArray 93 (0, 0)⟩ :: L = L' := by
 refine Fn0 Tryz.func24 Tryz.ntmps24 rfl ?_
 repeat' (first | refine h0p ?_ | refine h0e ?_ | refine h1h ?_ | (refine gR 0 (p_a (h:=h0d ?_))) | (refine gR 1 ?_ <;> (try refine q_e (by exact h0s (t:=93) (fun vs => (match vs with | [(_, x0), (_, x1), (_, x2)] => [x0, x1, x2] | _ => [])) rfl (fun w => by kernel_rfl)) ?_; (try simp only [Value.cells]); (try simp only [zzC, zzN])) <;> (try refine q_e (by exact h0s (t:=93) (fun vs => (match vs with | [(_, x0), (_, x1), (_, x2)] => [x0, x1, x2] | _ => [])) rfl (fun w => by kernel_rfl)) ?_; (try simp only [Value.cells]); (try simp only [zzC, zzN])) <;> (try refine q_e (by exact h0s (t:=93) (fun vs => (match vs with | [(_, x0), (_, x1), (_, x2)] => [x0, x1, x2] | _ => [])) rfl (fun w => by kernel_rfl)) ?_; (try simp only [Value.cells]); (try simp only [zzC, zzN])) <;> (try refine q_e (by exact h0s (t:=93) (fun vs => (match vs with | [(_, x0), (_, x1), (_, x2)] => [x0, x1, x2] | _ => [])) rfl (fun w => by kernel_rfl)) ?_; (try simp only [Value.cells]); (try simp only [zzC, zzN])) <;> (try refine q_e (by exact h0s (t:=93) (fun vs => (match vs with | [(_, x0), (_, x1), (_, x2)] => [x0, x1, x2] | _ => [])) rfl (fun w => by kernel_rfl)) ?_; (try simp only [Value.cells]); (try simp only [zzC, zzN])) <;> (try refine q_e (by exact h0s (t:=93) (fun vs => (match vs with | [(_, x0), (_, x1), (_, x2)] => [x0, x1, x2] | _ => [])) rfl (fun w => by kernel_rfl)) ?_; (try simp only [Value.cells]); (try simp only [zzC, zzN])) <;> (try refine q_e (by exact h0s (t:=93) (fun vs => (match vs with | [(_, x0), (_, x1), (_, x2)] => [x0, x1, x2] | _ => [])) rfl (fun w => by kernel_rfl)) ?_; (try simp only [Value.cells]); (try simp only [zzC, zzN])) <;> (try refine q_e (by exact h0s (t:=93) (fun vs => (match vs with | [(_, x0), (_, x1), (_, x2)] => [x0, x1, x2] | _ => [])) rfl (fun w => by kernel_rfl)) ?_; (try simp only [Value.cells]); (try simp only [zzC, zzN])) <;> (try refine q_e (by exact h0s (t:=93) (fun vs => (match vs with | [(_, x0), (_, x1), (_, x2)] => [x0, x1, x2] | _ => [])) rfl (fun w => by kernel_rfl)) ?_; (try simp only [Value.cells]); (try simp only [zzC, zzN])) <;> (try refine q_e (by exact h0s (t:=93) (fun vs => (match vs with | [(_, x0), (_, x1), (_, x2)] => [x0, x1, x2] | _ => [])) rfl (fun w => by kernel_rfl)) ?_; (try simp only [Value.cells]); (try simp only [zzC, zzN])) <;> (try refine q_e (by exact h0s (t:=93) (fun vs => (match vs with | [(_, x0), (_, x1), (_, x2)] => [x0, x1, x2] | _ => [])) rfl (fun w => by kernel_rfl)) ?_; (try simp only [Value.cells]); (try simp only [zzC, zzN])) <;> (try refine q_e (by exact h0s (t:=93) (fun vs => (match vs with | [(_, x0), (_, x1), (_, x2)] => [x0, x1, x2] | _ => [])) rfl (fun w => by kernel_rfl)) ?_; (try simp only [Value.cells]); (try simp only [zzC, zzN])) <;> (try refine q_e (by exact h0s (t:=93) (fun vs => (match vs with | [(_, x0), (_, x1), (_, x2)] => [x0, x1, x2] | _ => [])) rfl (fun w => by kernel_rfl)) ?_; (try simp only [Value.cells]); (try simp only [zzC, zzN])) <;> (try refine q_e (by exact h0s (t:=93) (fun vs => (match vs with | [(_, x0), (_, x1), (_, x2)] => [x0, x1, x2] | _ => [])) rfl (fun w => by kernel_rfl)) ?_; (try simp only [Value.cells]); (try simp only [zzC, zzN])) <;> (try refine q_e (by exact h0s (t:=93) (fun vs => (match vs with | [(_, x0), (_, x1), (_, x2)] => [x0, x1, x2] | _ => [])) rfl (fun w => by kernel_rfl)) ?_; (try simp only [Value.cells]); (try simp only [zzC, zzN])) <;> (try refine q_e (by exact h0s (t:=93) (fun vs => (match vs with | [(_, x0), (_, x1), (_, x2)] => [x0, x1, x2] | _ => [])) rfl (fun w => by kernel_rfl)) ?_; (try simp only [Value.cells]); (try simp only [zzC, zzN])) <;> (try refine q_e (by exact h0s (t:=93) (fun vs => (match vs with | [(_, x0), (_, x1), (_, x2)] => [x0, x1, x2] | _ => [])) rfl (fun w => by kernel_rfl)) ?_; (try simp only [Value.cells]); (try simp only [zzC, zzN])) <;> (try refine q_e (by exact h0s (t:=93) (fun vs => (match vs with | [(_, x0), (_, x1), (_, x2)] => [x0, x1, x2] | _ => [])) rfl (fun w => by kernel_rfl)) ?_; (try simp only [Value.cells]); (try simp only [zzC, zzN])) <;> (try refine q_e (by exact h0s (t:=93) (fun vs => (match vs with | [(_, x0), (_, x1), (_, x2)] => [x0, x1, x2] | _ => [])) rfl (fun w => by kernel_rfl)) ?_; (try simp only [Value.cells]); (try simp only [zzC, zzN])) <;> (try refine q_e (by exact h0s (t:=93) (fun vs => (match vs with | [(_, x0), (_, x1), (_, x2)] => [x0, x1, x2] | _ => [])) rfl (fun w => by kernel_rfl)) ?_; (try simp only [Value.cells]); (try simp only [zzC, zzN])) <;> (try refine q_e (by exact h0s (t:=93) (fun vs => (match vs with | [(_, x0), (_, x1), (_, x2)] => [x0, x1, x2] | _ => [])) rfl (fun w => by kernel_rfl)) ?_; (try simp only [Value.cells]); (try simp only [zzC, zzN])) <;> (try refine q_e (by exact h0s (t:=93) (fun vs => (match vs with | [(_, x0), (_, x1), (_, x2)] => [x0, x1, x2] | _ => [])) rfl (fun w => by kernel_rfl)) ?_; (try simp only [Value.cells]); (try simp only [zzC, zzN])) <;> (try refine q_e (by exact h0s (t:=93) (fun vs => (match vs with | [(_, x0), (_, x1), (_, x2)] => [x0, x1, x2] | _ => [])) rfl (fun w => by kernel_rfl)) ?_; (try simp only [Value.cells]); (try simp only [zzC, zzN])) <;> (try refine q_e (by exact h0s (t:=93) (fun vs => (match vs with | [(_, x0), (_, x1), (_, x2)] => [x0, x1, x2] | _ => [])) rfl (fun w => by kernel_rfl)) ?_; (try simp only [Value.cells]); (try simp only [zzC, zzN])) <;> (try refine q_e (by exact h0s (t:=93) (fun vs => (match vs with | [(_, x0), (_, x1), (_, x2)] => [x0, x1, x2] | _ => [])) rfl (fun w => by kernel_rfl)) ?_; (try simp only [Value.cells]); (try simp only [zzC, zzN])) <;> (try refine q_e (by exact h0s (t:=93) (fun vs => (match vs with | [(_, x0), (_, x1), (_, x2)] => [x0, x1, x2] | _ => [])) rfl (fun w => by kernel_rfl)) ?_; (try simp only [Value.cells]); (try simp only [zzC, zzN])) <;> (try refine q_e (by exact h0s (t:=93) (fun vs => (match vs with | [(_, x0), (_, x1), (_, x2)] => [x0, x1, x2] | _ => [])) rfl (fun w => by kernel_rfl)) ?_; (try simp only [Value.cells]); (try simp only [zzC, zzN])) <;> (try refine q_e (by exact h0s (t:=93) (fun vs => (match vs with | [(_, x0), (_, x1), (_, x2)] => [x0, x1, x2] | _ => [])) rfl (fun w => by kernel_rfl)) ?_; (try simp only [Value.cells]); (try simp only [zzC, zzN])) <;> (try refine q_e (by exact h0s (t:=93) (fun vs => (match vs with | [(_, x0), (_, x1), (_, x2)] => [x0, x1, x2] | _ => [])) rfl (fun w => by kernel_rfl)) ?_; (try simp only [Value.cells]); (try simp only [zzC, zzN])) <;> (try refine q_e (by exact h0s (t:=93) (fun vs => (match vs with | [(_, x0), (_, x1), (_, x2)] => [x0, x1, x2] | _ => [])) rfl (fun w => by kernel_rfl)) ?_; (try simp only [Value.cells]); (try simp only [zzC, zzN])) <;> (try refine h0f ?_; (refine h0o (t:=86) (m:=30) (e:=93) (fun vs => (match vs with | [(_, x0), (_, x1), (_, x2), (_, x3), (_, x4), (_, x5), (_, x6), (_, x7), (_, x8), (_, x9), (_, x10), (_, x11), (_, x12), (_, x13), (_, x14), (_, x15), (_, x16), (_, x17), (_, x18), (_, x19), (_, x20), (_, x21), (_, x22), (_, x23), (_, x24), (_, x25), (_, x26), (_, x27), (_, x28), (_, x29)] => x0.cells.toList ++ (x1.cells.toList ++ (x2.cells.toList ++ (x3.cells.toList ++ (x4.cells.toList ++ (x5.cells.toList ++ (x6.cells.toList ++ (x7.cells.toList ++ (x8.cells.toList ++ (x9.cells.toList ++ (x10.cells.toList ++ (x11.cells.toList ++ (x12.cells.toList ++ (x13.cells.toList ++ (x14.cells.toList ++ (x15.cells.toList ++ (x16.cells.toList ++ (x17.cells.toList ++ (x18.cells.toList ++ (x19.cells.toList ++ (x20.cells.toList ++ (x21.cells.toList ++ (x22.cells.toList ++ (x23.cells.toList ++ (x24.cells.toList ++ (x25.cells.toList ++ (x26.cells.toList ++ (x27.cells.toList ++ (x28.cells.toList ++ x29.cells.toList)))))))))))))))))))))))))))) | _ => [])) rfl rfl (fun w => by kernel_rfl) ?_; intro nb hnb; (try simp only [Value.cells]); (try simp only [zzC, zzN]))) <;> (try refine p_a (h:=h0d ?_))))
 (refine h0v Tryz.results24 (.tmp rfl .nil) ?_)
 exact ⟨_, ⟨_, rfl, rfl⟩, fun _ H => H⟩
structure SRul where
 c : Int
 a : Int
 e : Int
 conds : List SCnd
structure SRul.ok (r : SRul) : Prop where
 c : 0 ≤ r.c ∧ r.c < 256
 a : 0 ≤ r.a ∧ r.a < 256
 e : 0 ≤ r.e ∧ r.e < 256
 conds : ∀ c ∈ r.conds, c.ok
def scC (cs : List SCnd) : List Value := cs.flatMap SCnd.cells
theorem scC_at (cs : List SCnd) (k : Nat) (h : k < cs.length) : ((scC cs).drop (k * 4)).take 4 = (cs[k]).cells := by
 induction cs generalizing k with
 | nil => simp at h
 | cons c r ih =>
  cases k with
  | zero => simp [scC]
  | succ k =>
   rw [scC, List.flatMap_cons, ← scC, show (k + 1) * 4 = c.cells.length + k * 4 by simp only [SCnd.cells, List.length_cons, List.length_nil]; omega, List.drop_append, List.drop_eq_nil_of_le (by omega), List.nil_append, Nat.add_sub_cancel_left]
   exact ih k (by simpa using h)
def SCndS (L : List Blk) (v : Value) (cs : List SCnd) : Prop := ∃ a c, v = .slice a cs.length c ∧ Sli L a cs.length 4 (scC cs) ∧ cs.length ≤ maxLen
def SRulG (L : List Blk) : List SRul → List Value → Prop
 | [], cz => cz = []
 | r :: rs, cz => ∃ v cz', cz = .int .u8 r.c :: .int .u8 r.a :: .int .u8 r.e :: v :: cz' ∧ SCndS L v r.conds ∧ SRulG L rs cz'
theorem SRulG.at_ {L : List Blk} : ∀ {rs : List SRul} {cz : List Value} (_ : SRulG L rs cz) (k : Nat) (hk : k < rs.length), ∃ v, (cz.drop (k * 4)).take 4 = [.int .u8 (rs[k]).c, .int .u8 (rs[k]).a, .int .u8 (rs[k]).e, v] ∧ SCndS L v (rs[k]).conds
 | r :: rs, cz, ⟨v, cz', h1, h2, h3⟩, 0, _ => ⟨v, by rw [h1]; rfl, h2⟩
 | r :: rs, cz, ⟨v, cz', h1, h2, h3⟩, k + 1, hk => by
  obtain ⟨v', e1, e2⟩ := SRulG.at_ h3 k (by simpa using hk)
  exact ⟨v', by rw [h1, show (k + 1) * 4 = 4 + k * 4 by omega, ← List.drop_drop]; exact e1, e2⟩
theorem SCndS.upA {L : List Blk} {v : Value} {cs : List SCnd} (h : SCndS L v cs) (e : List Blk) : SCndS (e ++ L) v cs := let ⟨a, c, h1, h2, h3⟩ := h; ⟨a, c, h1, h2.upA e, h3⟩
theorem SCndS.left {L e : List Blk} {v : Value} {cs : List SCnd} (h : SCndS e v cs) : SCndS (e ++ L) v cs := let ⟨a, c, h1, h2, h3⟩ := h; ⟨a, c, h1, h2.left, h3⟩
theorem SRulG.upA {L : List Blk} (e : List Blk) : ∀ {rs : List SRul} {cz : List Value}, SRulG L rs cz → SRulG (e ++ L) rs cz
 | [], _, h => h
 | _ :: _, _, ⟨v, cz', h1, h2, h3⟩ => ⟨v, cz', h1, h2.upA e, SRulG.upA e h3⟩
theorem SRulG.left {L e : List Blk} : ∀ {rs : List SRul} {cz : List Value}, SRulG e rs cz → SRulG (e ++ L) rs cz
 | [], _, h => h
 | _ :: _, _, ⟨v, cz', h1, h2, h3⟩ => ⟨v, cz', h1, h2.left, SRulG.left h3⟩
structure SPol where
 nm : Int
 df : Int
 en : Int
 rules : List SRul
 hd : Nat
 paths : List Int
 rights : List Int
 ports : List Int
structure SPol.ok (s : SPol) : Prop where
 nm : 0 ≤ s.nm ∧ s.nm < 256
 df : 0 ≤ s.df ∧ s.df < 256
 en : 0 ≤ s.en ∧ s.en < 256
 rules : ∀ r ∈ s.rules, r.ok
 hd : s.hd < 65536
 paths : ∀ x ∈ s.paths, 0 ≤ x ∧ x < 256
 rights : ∀ x ∈ s.rights, 0 ≤ x ∧ x < 65536
 ports : ∀ x ∈ s.ports, 0 ≤ x ∧ x < 256
def u16g (l : List Int) : List Value := l.map (Value.int .u16)
structure SPolS (L : List Blk) (s : SPol) (vr vp vg vq : Value) : Prop where
 rs : ∃ a c cz, vr = .slice a s.rules.length c ∧ Sli L a s.rules.length 4 cz ∧ SRulG L s.rules cz
 ps : ∃ a c, vp = .slice a s.paths.length c ∧ Sli L a s.paths.length 1 (u8l s.paths)
 gs : ∃ a c, vg = .slice a s.rights.length c ∧ Sli L a s.rights.length 1 (u16g s.rights)
 qs : ∃ a c, vq = .slice a s.ports.length c ∧ Sli L a s.ports.length 1 (u8l s.ports)
 l1 : s.rules.length ≤ maxLen
 l2 : s.paths.length ≤ maxLen
 l3 : s.rights.length ≤ maxLen
 l4 : s.ports.length ≤ maxLen
abbrev smB (b : Nat) (nm df en : Int) (vr : Value) (hd : Nat) (vp vg vq : Value) : Blk := ⟨true, b, .cells #[.int .u8 nm, .int .u8 df, .int .u8 en, vr, .int .u16 (hd : Nat), vp, vg, vq] 48 (0, 0)⟩
abbrev pcB (b : Nat) (nm : ByteArray) (df : Int) (vr : Value) (hd : Nat) (vp vq : Value) : Blk := ⟨true, b, .cells #[.string nm, .int .u32 df, vr, .int .u16 (hd : Nat), vp, vq] 36 (0, 0)⟩
section
variable {P : Program} {n : Nat} {l : List (Nat × Value)} {S : List Nat} {w0 : World} {L : List Blk} {K : Act → World → Prop} {k : Kont} {ops : Array Oper} {d : Tmp} {ty : TypeId} {pos : String} {af : Array Edge}
theorem K1_callvc {F : FuncId} {t : Tmp} {first captured : Array Value} {xs : List Operand} {vs zs : List Value} {ats : Array TypeId} {R : Value → List Blk → Prop} (hfn : (P.funcs[F]?).map (fun fn => (fn.name == "runtime.NumGoroutine", fn.body.isNone)) = some (false, false)) (hd : Nat.blt d n = true)
  (ht : lk l t = some (.func (.func F) first captured)) (hx : evs l xs = some vs) (hz : first.toList ++ vs ++ captured.toList = zs) (hc : Fn P F zs.toArray S w0 L R) (h : ∀ v L', R v L' → G n ((d, v) :: l) S w0 L' K) :
  G n l S w0 L (K1 P ops k ⟨some d, .call { callee := .value (.tmp t), args := xs.toArray, argTypes := ats }, ty, pos, af, none⟩ K) := by
 refine K1_callv hfn hd ht hx ?_ h
 have e : first ++ vs.toArray ++ captured = zs.toArray := by rw [← hz]; simp
 rw [e]; exact hc
end
theorem dec_t {p : Prop} {i : Decidable p} (h : p) : @decide p i = true := decide_eq_true h
theorem dec_f {p : Prop} {i : Decidable p} (h : ¬ p) : @decide p i = false := decide_eq_false h
theorem Sel.appS {e L L' : List Blk} (h : Sel L L') : Sel (e ++ L) (e ++ L') := let ⟨M, h3, h4⟩ := h; ⟨e ++ M, h3.append_left e, h4.append_left e⟩
theorem iand_c (x : Int) (n : Nat) : iand x (n : Int) = ((x.toNat &&& n : Nat) : Int) := rfl
theorem rights_s {S w0 L} (i1 i2 b1 b2 : Nat) (nm df en : Int) (vr : Value) (hs : Nat) (vp : Value) (ga : Option Addr) (gc : Nat) (gs : List Int) (vq : Value) (pn : ByteArray) (pd : Int) (wr : Value) (hd : Nat) (wp wq : Value) (h1 : L[i1]? = some (smB b1 nm df en vr hs vp (.slice ga gs.length gc) vq)) (h2 : L[i2]? = some (pcB b2 pn pd wr hd wp wq))
  (hg : Sli L ga gs.length 1 (u16g gs)) (hgo : ∀ x ∈ gs, 0 ≤ x ∧ x < 65536) (hgl : gs.length ≤ maxLen) (hhd : hd < 65536) (i : Nat) (hi : i ≤ maxLen) (kd : Nat) (hkd : kd < 65536) :
  Fn Tryz.prog 27 #[.int .i64 (i : Nat), .int .u16 (kd : Nat), .pointer (some ⟨b1, 0, none⟩), .pointer (some ⟨b2, 0, none⟩)] S w0 L fun v L' => ∃ r : Nat, v = .int .u16 (r : Nat) ∧ (r &&& hd = r ∧ r &&& kd = r) ∧ L = L' := by
 unfold maxLen at hgl hi
 by_cases hlt : gs.length ≤ i
 ·refine Fn4 Tryz.func27 Tryz.ntmps27 rfl rfl ?_
  repeat' (first | refine h0p ?_ | refine h0e ?_ | refine h1f ?_ | refine h1h ?_ | refine h0j rfl ?_ | (refine gR 0 (p_a (h:=h0d ?_))) | (refine gR 1 (p_m (h:=p_e (q_f fo_48_6) (h:=p_e (by apply h1l (t:=46); exact rfl; exact c_20; kernel_rfl; kernel_rfl; exact rfl) (h:=p_e (by apply h0g; exact rfl; exact (fun _ => BigFrame.builtin_len ..); apply h0k Tryz.underlying46; exact h4y) (h:=p_e (q_b (r:=by exact rb_geq_t q_o)) (h:=h0d ?_))))))) | (refine gR 2 (p_e (q_f h5o) (h:=p_e (by apply h1l (t:=32); exact rfl; exact c_20; kernel_rfl; kernel_rfl; exact rfl) (h:=q_m ?_))) <;> (try refine q_e (q_b (r:=by refine rb_and ?_ ?_; (focus (refine ⟨rfl, ⟨?_, ?_⟩⟩; omega; (focus (simp only [IntKind.bits]; omega)))); (focus (refine ⟨rfl, ⟨?_, ?_⟩⟩; omega; (focus (simp only [IntKind.bits]; omega)))))) ?_) <;> (try refine p_a (h:=h0d ?_))))
  (refine h0v Tryz.results27 (.tmp rfl .nil) ?_)
  rw [iand_c, Int.toNat_natCast]
  exact ⟨_, ⟨hd &&& kd, rfl, ⟨by rw [Nat.and_comm (hd &&& kd) hd, ← Nat.and_assoc, Nat.and_self], by rw [Nat.and_assoc, Nat.and_self]⟩, rfl⟩, by intro w H; refine H.sub ?_; (try simp only [zzC, zzN]); repeat (exact List.Sublist.refl _)⟩
 ·obtain ⟨i0, q, b, off, cs, T, fr, rfl, hi0, hsz, hx⟩ := hg.elem1 (show i < gs.length by omega)
  obtain ⟨x, hxe⟩ : ∃ x, x = gs[i]'(by omega) := ⟨_, rfl⟩
  have hxr : 0 ≤ x ∧ x < 65536 := hxe ▸ hgo _ (List.getElem_mem _)
  rw [u16g, List.getElem?_map, List.getElem?_eq_getElem (show i < gs.length by omega), Option.map_some, ← hxe] at hx
  clear hxe
  have hia : 0 ≤ iand x (hd : Nat) ∧ iand x (hd : Nat) < 65536 := by
   rw [iand_c]
   have := Nat.and_le_right (n:=x.toNat) (m:=hd)
   omega
  refine Fn4 Tryz.func27 Tryz.ntmps27 rfl rfl ?_
  repeat' (first | refine h0p ?_ | refine h0e ?_ | refine h0u ?_ | refine h1h ?_ | refine h0h rfl ?_ | (refine gR 0 (p_a (h:=h0d ?_))) | (refine gR 1 (p_m (h:=p_e (q_f fo_48_6) (h:=p_e (by apply h1l (t:=46); exact rfl; exact c_20; kernel_rfl; kernel_rfl; exact rfl) (h:=p_e (by apply h0g; exact rfl; exact (fun _ => BigFrame.builtin_len ..); apply h0k Tryz.underlying46; exact h4y) (h:=p_e (q_b (r:=by exact rb_geq_f q_o)) (h:=h0d ?_))))))) | ((refine h2q (id:=3) (m:=11) (by kernel_rfl) rfl (q_u 0 (x:=by exact q_f fo_48_6) (h:=q_u 1 (x:=by apply h1l (t:=46); exact rfl; exact c_20; kernel_rfl; kernel_rfl; exact rfl) (h:=q_u 2 (x:=by exact h0m rfl) (h:=q_u 3 (x:=by apply h0n; exact rfl; exact rfl; (focus (apply h3e Tryz.underlying46 sz_31; omega; omega; exact c_1))) (h:=q_u 4 (x:=by apply h1l (t:=31); exact rfl; exact c_20; kernel_rfl; kernel_rfl; (with_reducible assumption)) (h:=q_u 5 (x:=by exact q_f h5o) (h:=q_u 6 (x:=by apply h1l (t:=32); exact rfl; exact c_20; kernel_rfl; kernel_rfl; exact rfl) (h:=?_))))))))) <;> (try refine q_u 7 (x:=by exact q_b (r:=by refine rb_and ?_ ?_; (focus (refine ⟨rfl, ⟨?_, ?_⟩⟩; omega; (focus (simp only [IntKind.bits]; omega)))); (focus (refine ⟨rfl, ⟨?_, ?_⟩⟩; omega; (focus (simp only [IntKind.bits]; omega)))))) (h:=?_)) <;> (try refine q_u 8 (x:=by exact h0m rfl) (h:=?_)) <;> (try refine q_u 9 (x:=by exact q_b (r:=by refine rb_and ?_ ?_; (focus (refine ⟨rfl, ⟨?_, ?_⟩⟩; omega; (focus (simp only [IntKind.bits]; omega)))); (focus (refine ⟨rfl, ⟨?_, ?_⟩⟩; omega; (focus (simp only [IntKind.bits]; omega)))))) (h:=?_)) <;> (try refine q_u 10 (x:=by exact h3g rfl) (h:=h1e (by kernel_rfl) ?_))))
  (refine h0v Tryz.results27 (.tmp rfl .nil) ?_)
  rw [iand_c, iand_c, Int.toNat_natCast]
  exact ⟨_, ⟨(x.toNat &&& hd) &&& kd, rfl, ⟨by rw [Nat.and_assoc (x.toNat &&& hd), Nat.and_comm kd hd, ← Nat.and_assoc, Nat.and_assoc x.toNat, Nat.and_self], by rw [Nat.and_assoc, Nat.and_self]⟩, rfl⟩, by intro w H; refine H.sub ?_; (try simp only [zzC, zzN]); repeat (exact List.Sublist.refl _)⟩
end Go.Proofs.YtecbgehooembmaaGreatDoor
