/- Part 8 of what the last text of this claim leans on: rules of walks, contracts, plain facts. Conditions: those of each statement. -/
import Derived.Test.YtecbgehooembmaaDoorQp7
set_option maxRecDepth 100000
namespace Go.Proofs.YtecbgehooembmaaDoor
open Go Go.RowKit
theorem and_both (r h k : Nat) : r &&& (h &&& k) = r ↔ r &&& h = r ∧ r &&& k = r := by
 constructor
 ·intro e
  constructor
  ·have : r &&& h = (r &&& (h &&& k)) &&& h := by rw [e]
   rw [this, Nat.and_assoc, Nat.and_comm h k, Nat.and_assoc, Nat.and_self, Nat.and_comm k h, e]
  ·have : r &&& k = (r &&& (h &&& k)) &&& k := by rw [e]
   rw [this, Nat.and_assoc, Nat.and_assoc, Nat.and_self, e]
 ·rintro ⟨h1, h2⟩
  rw [← Nat.and_assoc, h1, h2]
theorem grant_eq (hd r kd : Nat) : grantF hd r kd = (decide (r ≠ 0) && decide (r &&& (hd &&& kd) = r)) := by
 have hh : ∀ a b : Nat, Rg.hasF a b = decide (b &&& a = b) := by
  intro a b
  unfold Rg.hasF
  apply decide_eq_decide.2
  rw [iandn_zero]
  unfold iand
  rw [Int.toNat_natCast, Int.toNat_natCast]
  omega
 unfold grantF
 rw [hh, hh, ← Bool.decide_and]
 congr 1
 exact decide_eq_decide.2 (and_both r hd kd).symm
theorem take2_0 {l : List Value} {n : Nat} {a b : Value} (h : (l.drop n).take 2 = [a, b]) : l[n]? = some a := by
 have := congrArg (fun z => z[0]?) h
 simpa [List.getElem?_take, List.getElem?_drop] using this
theorem h4n {R X Z : Nat} (h : R = if X ≠ 0 then X else Z) (hX : X ≠ 0) : R = X := by rw [h, if_pos hX]
theorem chk_go {R X Z : Nat} (h : R = if X ≠ 0 then X else Z) (hX : X = 0) : R = Z := by rw [h, if_neg (fun h => h hX)]
set_option maxHeartbeats 4000000 in
theorem rcheck_c {S w0 L} (P : GPol) (h : P.ok) (hpl : ∀ p ∈ P.paths, p.1.length ≤ 1000) (vr vp vq : Value) (hS : RfS L P vr vp vq) :
  Fn Tryd.prog 9 #[.agg (refC P vr vp vq).toArray] S w0 L fun v L' => v = .int .i64 (chkG P : Nat) ∧ L = L' := by
 obtain ⟨⟨ra, rc, cz, e1, hrs, hrg⟩, ⟨pa, pc, e2, hps⟩, ⟨qa, qc, e3, hqs⟩, hl1, hl2, hl3⟩ := hS
 subst e1 e2 e3
 have hwo := fun (L : List Blk) => Wd.refWord_c (S:=S) (w0:=w0) (L:=L) (mB8 P.nm) (by rw [h4c]; exact h.nm)
 have hac := fun (L : List Blk) => ract_c (S:=S) (w0:=w0) (L:=L) P.df h.df
 have hva := fun (L : List Blk) => rwit_c (S:=S) (w0:=w0) (L:=L) P.hd 51199 h.hd (by omega)
 have hru := h.rules
 have hpr := h.paths
 have hqr := h.ports
 have hhd := h.hd
 have hG : chkG P = if Wd.wordF (mB8 P.nm) = false then 202 else if h4b P.df = false then 210 else if 64 < P.rules.length ∨ 32 < P.paths.length ∨ 32 < P.ports.length then 205 else if decide (P.hd &&& 51199 = P.hd) = false then 204 else if h2w (P.rules.map chkR) ≠ 0 then h2w (P.rules.map chkR) else if h2q P.hd P.paths [] ≠ 0 then h2q P.hd P.paths [] else h2v P.hd P.ports [] := by
  unfold chkG
  have hz := iandn_zero P.hd 51199
  unfold iand at hz
  rw [Int.toNat_natCast, Int.toNat_natCast] at hz
  have hz2 : h3e (P.hd : Int) 51199 = 0 ↔ P.hd &&& 51199 = P.hd := by
   constructor
   ·intro e; have := hz.1 e; omega
   ·intro e; exact hz.2 (by rw [e])
  by_cases hx : P.hd &&& 51199 = P.hd
  ·simp [hx, hz2.2 hx]
  ·have : ¬ h3e (P.hd : Int) 51199 = 0 := fun e => hx (hz2.1 e)
   simp [hx, this]
 rw [hG]
 clear hG h
 obtain ⟨nm, df, rules, hd, paths, ports⟩ := P
 dsimp only [refC] at *
 simp only [show ((51199 : Nat) : Int) = 51199 from rfl] at hva
 generalize Wd.wordF (mB8 nm) = wf at *
 generalize h4b df = ak at *
 generalize decide (hd &&& 51199 = hd) = vf at *
 unfold maxLen at hl1 hl2 hl3
 cases wf with
 | false =>
  rw [if_pos rfl]
  refine Fn1 Tryd.func9 Tryd.ntmps9 rfl rfl ?_
  repeat' (first | refine h0t ?_ | refine h0e ?_ | refine h0x ?_ | refine h1e ?_ | refine h0l rfl ?_ | (refine gR 0 ?_ <;> (try refine h0b ?_; (refine h2c (t:=60) rfl rfl ?_; intro nb hnb; (try simp only [Value.cells]))) <;> (try refine p_a (h:=h0a ?_))) | (refine gR 1 (p_e (q_f fo_60_0) (h:=q_e q_l ?_)) <;> (try refine h0b ?_; (refine q_c 26 (c:=by apply hwo) (h:=?_); rintro _ _ ⟨rfl, rfl⟩; (try simp only [zzE, zzF]))) <;> (try refine p_e (by apply h3g; exact rfl; exact h1y) (h:=h0a ?_))) | (refine gR 2 (p_a (h:=h0a ?_))))
  (refine h0z Tryd.results9 (.tmp rfl .nil) ?_)
  exact ⟨_, ⟨rfl, rfl⟩, by intro w H; refine H.sub ?_; (try simp only [zzC, zzN]); repeat (first | exact List.Sublist.refl _ | refine List.Sublist.cons _ ?_)⟩
 | true =>
 rw [if_neg (fun h => by cases h)]
 cases ak with
 | false =>
  rw [if_pos rfl]
  refine Fn1 Tryd.func9 Tryd.ntmps9 rfl rfl ?_
  repeat' (first | refine h0t ?_ | refine h0e ?_ | refine h0x ?_ | refine h1a ?_ | refine h1e ?_ | refine h0l rfl ?_ | refine h0m rfl ?_ | (refine gR 0 ?_ <;> (try refine h0b ?_; (refine h2c (t:=60) rfl rfl ?_; intro nb hnb; (try simp only [Value.cells]))) <;> (try refine p_a (h:=h0a ?_))) | (refine gR 1 (p_e (q_f fo_60_0) (h:=q_e q_l ?_)) <;> (try refine h0b ?_; (refine q_c 26 (c:=by apply hwo) (h:=?_); rintro _ _ ⟨rfl, rfl⟩; (try simp only [zzE, zzF]))) <;> (try refine p_e (by apply h3g; exact rfl; exact h1f) (h:=h0a ?_))) | (refine gR 3 (p_e (q_f fo_60_1) (h:=q_e q_l ?_)) <;> (try refine h0b ?_; (refine q_c 27 (c:=by apply hac) (h:=?_); rintro _ _ ⟨rfl, rfl⟩; (try simp only [zzE, zzF]))) <;> (try refine p_e (by apply h3g; exact rfl; exact h1y) (h:=h0a ?_))) | (refine gR 4 (p_a (h:=h0a ?_))))
  (refine h0z Tryd.results9 (.tmp rfl .nil) ?_)
  exact ⟨_, ⟨rfl, rfl⟩, by intro w H; refine H.sub ?_; (try simp only [zzC, zzN]); repeat (first | exact List.Sublist.refl _ | refine List.Sublist.cons _ ?_)⟩
 | true =>
 rw [if_neg (fun h => by cases h)]
 by_cases hb : 64 < rules.length ∨ 32 < paths.length ∨ 32 < ports.length
 ·rw [if_pos hb]
  by_cases b1 : 64 < rules.length
  ·refine Fn1 Tryd.func9 Tryd.ntmps9 rfl rfl ?_
   repeat' (first | refine h0t ?_ | refine h0e ?_ | refine h0x ?_ | refine h1a ?_ | refine h1e ?_ | refine h0l rfl ?_ | refine h0m rfl ?_ | (refine gR 0 ?_ <;> (try refine h0b ?_; (refine h2c (t:=60) rfl rfl ?_; intro nb hnb; (try simp only [Value.cells]))) <;> (try refine p_a (h:=h0a ?_))) | (refine gR 1 (p_e (q_f fo_60_0) (h:=q_e q_l ?_)) <;> (try refine h0b ?_; (refine q_c 26 (c:=by apply hwo) (h:=?_); rintro _ _ ⟨rfl, rfl⟩; (try simp only [zzE, zzF]))) <;> (try refine p_e (by apply h3g; exact rfl; exact h1f) (h:=h0a ?_))) | (refine gR 3 (p_e (q_f fo_60_1) (h:=q_e q_l ?_)) <;> (try refine h0b ?_; (refine q_c 27 (c:=by apply hac) (h:=?_); rintro _ _ ⟨rfl, rfl⟩; (try simp only [zzE, zzF]))) <;> (try refine p_e (by apply h3g; exact rfl; exact h1f) (h:=h0a ?_))) | (refine gR 5 (p_e (q_f h3s) (h:=p_e q_l (h:=p_e (by apply h0h; exact rfl; exact (fun _ => BigFrame.builtin_len ..); apply h0j Tryd.underlying56; exact h3d) (h:=p_e (q_b (r:=by exact h1c q_o)) (h:=p_m (h:=p_z (h:=p_z (h:=p_z (h:=p_z (h:=p_p (h:=p_m (h:=p_z (h:=p_z (h:=p_z (h:=p_z (h:=p_p (h:=h0a ?_)))))))))))))))))) | (refine gR 6 (p_a (h:=h0a ?_))))
   (refine h0z Tryd.results9 (.tmp rfl .nil) ?_)
   exact ⟨_, ⟨rfl, rfl⟩, by intro w H; refine H.sub ?_; (try simp only [zzC, zzN]); repeat (first | exact List.Sublist.refl _ | refine List.Sublist.cons _ ?_)⟩
  by_cases b2 : 32 < paths.length
  ·refine Fn1 Tryd.func9 Tryd.ntmps9 rfl rfl ?_
   repeat' (first | refine h0t ?_ | refine h0e ?_ | refine h0x ?_ | refine h1a ?_ | refine h1e ?_ | refine h0l rfl ?_ | refine h0m rfl ?_ | (refine gR 0 ?_ <;> (try refine h0b ?_; (refine h2c (t:=60) rfl rfl ?_; intro nb hnb; (try simp only [Value.cells]))) <;> (try refine p_a (h:=h0a ?_))) | (refine gR 1 (p_e (q_f fo_60_0) (h:=q_e q_l ?_)) <;> (try refine h0b ?_; (refine q_c 26 (c:=by apply hwo) (h:=?_); rintro _ _ ⟨rfl, rfl⟩; (try simp only [zzE, zzF]))) <;> (try refine p_e (by apply h3g; exact rfl; exact h1f) (h:=h0a ?_))) | (refine gR 3 (p_e (q_f fo_60_1) (h:=q_e q_l ?_)) <;> (try refine h0b ?_; (refine q_c 27 (c:=by apply hac) (h:=?_); rintro _ _ ⟨rfl, rfl⟩; (try simp only [zzE, zzF]))) <;> (try refine p_e (by apply h3g; exact rfl; exact h1f) (h:=h0a ?_))) | (refine gR 5 (p_e (q_f h3s) (h:=p_e q_l (h:=p_e (by apply h0h; exact rfl; exact (fun _ => BigFrame.builtin_len ..); apply h0j Tryd.underlying56; exact h3d) (h:=p_e (q_b (r:=by exact h0u q_o)) (h:=p_m (h:=p_y (q_f h3o) (h:=p_y q_l (h:=p_y (by apply h0h; exact rfl; exact (fun _ => BigFrame.builtin_len ..); apply h0j Tryd.underlying57; exact h3d) (h:=p_y (q_b (r:=by exact h1c q_o)) (h:=p_p (h:=p_m (h:=p_z (h:=p_z (h:=p_z (h:=p_z (h:=p_p (h:=h0a ?_)))))))))))))))))) | (refine gR 6 (p_a (h:=h0a ?_))))
   (refine h0z Tryd.results9 (.tmp rfl .nil) ?_)
   exact ⟨_, ⟨rfl, rfl⟩, by intro w H; refine H.sub ?_; (try simp only [zzC, zzN]); repeat (first | exact List.Sublist.refl _ | refine List.Sublist.cons _ ?_)⟩
  ·have b3 : 32 < ports.length := by omega
   refine Fn1 Tryd.func9 Tryd.ntmps9 rfl rfl ?_
   repeat' (first | refine h0t ?_ | refine h0e ?_ | refine h0x ?_ | refine h1a ?_ | refine h1e ?_ | refine h0l rfl ?_ | refine h0m rfl ?_ | (refine gR 0 ?_ <;> (try refine h0b ?_; (refine h2c (t:=60) rfl rfl ?_; intro nb hnb; (try simp only [Value.cells]))) <;> (try refine p_a (h:=h0a ?_))) | (refine gR 1 (p_e (q_f fo_60_0) (h:=q_e q_l ?_)) <;> (try refine h0b ?_; (refine q_c 26 (c:=by apply hwo) (h:=?_); rintro _ _ ⟨rfl, rfl⟩; (try simp only [zzE, zzF]))) <;> (try refine p_e (by apply h3g; exact rfl; exact h1f) (h:=h0a ?_))) | (refine gR 3 (p_e (q_f fo_60_1) (h:=q_e q_l ?_)) <;> (try refine h0b ?_; (refine q_c 27 (c:=by apply hac) (h:=?_); rintro _ _ ⟨rfl, rfl⟩; (try simp only [zzE, zzF]))) <;> (try refine p_e (by apply h3g; exact rfl; exact h1f) (h:=h0a ?_))) | (refine gR 5 (p_e (q_f h3s) (h:=p_e q_l (h:=p_e (by apply h0h; exact rfl; exact (fun _ => BigFrame.builtin_len ..); apply h0j Tryd.underlying56; exact h3d) (h:=p_e (q_b (r:=by exact h0u q_o)) (h:=p_m (h:=p_y (q_f h3o) (h:=p_y q_l (h:=p_y (by apply h0h; exact rfl; exact (fun _ => BigFrame.builtin_len ..); apply h0j Tryd.underlying57; exact h3d) (h:=p_y (q_b (r:=by exact h0u q_o)) (h:=p_p (h:=p_m (h:=p_y (q_f h3z) (h:=p_y q_l (h:=p_y (by apply h0h; exact rfl; exact (fun _ => BigFrame.builtin_len ..); apply h0j Tryd.underlying58; exact h3d) (h:=p_y (q_b (r:=by exact h1c q_o)) (h:=p_p (h:=h0a ?_)))))))))))))))))) | (refine gR 6 (p_a (h:=h0a ?_))))
   (refine h0z Tryd.results9 (.tmp rfl .nil) ?_)
   exact ⟨_, ⟨rfl, rfl⟩, by intro w H; refine H.sub ?_; (try simp only [zzC, zzN]); repeat (first | exact List.Sublist.refl _ | refine List.Sublist.cons _ ?_)⟩
 rw [if_neg hb]
 have b1 : ¬ 64 < rules.length := fun h => hb (Or.inl h)
 have b2 : ¬ 32 < paths.length := fun h => hb (Or.inr (Or.inl h))
 have b3 : ¬ 32 < ports.length := fun h => hb (Or.inr (Or.inr h))
 clear hb
 cases vf with
 | false =>
  rw [if_pos rfl]
  refine Fn1 Tryd.func9 Tryd.ntmps9 rfl rfl ?_
  repeat' (first | refine h0t ?_ | refine h0e ?_ | refine h0x ?_ | refine h1a ?_ | refine h1e ?_ | refine h0l rfl ?_ | refine h0m rfl ?_ | (refine gR 0 ?_ <;> (try refine h0b ?_; (refine h2c (t:=60) rfl rfl ?_; intro nb hnb; (try simp only [Value.cells]))) <;> (try refine p_a (h:=h0a ?_))) | (refine gR 1 (p_e (q_f fo_60_0) (h:=q_e q_l ?_)) <;> (try refine h0b ?_; (refine q_c 26 (c:=by apply hwo) (h:=?_); rintro _ _ ⟨rfl, rfl⟩; (try simp only [zzE, zzF]))) <;> (try refine p_e (by apply h3g; exact rfl; exact h1f) (h:=h0a ?_))) | (refine gR 3 (p_e (q_f fo_60_1) (h:=q_e q_l ?_)) <;> (try refine h0b ?_; (refine q_c 27 (c:=by apply hac) (h:=?_); rintro _ _ ⟨rfl, rfl⟩; (try simp only [zzE, zzF]))) <;> (try refine p_e (by apply h3g; exact rfl; exact h1f) (h:=h0a ?_))) | (refine gR 5 (p_e (q_f h3s) (h:=p_e q_l (h:=p_e (by apply h0h; exact rfl; exact (fun _ => BigFrame.builtin_len ..); apply h0j Tryd.underlying56; exact h3d) (h:=p_e (q_b (r:=by exact h0u q_o)) (h:=p_m (h:=p_y (q_f h3o) (h:=p_y q_l (h:=p_y (by apply h0h; exact rfl; exact (fun _ => BigFrame.builtin_len ..); apply h0j Tryd.underlying57; exact h3d) (h:=p_y (q_b (r:=by exact h0u q_o)) (h:=p_p (h:=p_m (h:=p_y (q_f h3z) (h:=p_y q_l (h:=p_y (by apply h0h; exact rfl; exact (fun _ => BigFrame.builtin_len ..); apply h0j Tryd.underlying58; exact h3d) (h:=p_y (q_b (r:=by exact h0u q_o)) (h:=p_p (h:=h0a ?_)))))))))))))))))) | (refine gR 7 (p_e (q_f fo_60_3) (h:=q_e q_l ?_)) <;> (try refine h0b ?_; (refine q_c 28 (c:=by apply hva) (h:=?_); rintro _ _ ⟨rfl, rfl⟩; (try simp only [zzE, zzF]))) <;> (try refine p_e (by apply h3g; exact rfl; exact h1y) (h:=h0a ?_))) | (refine gR 8 (p_a (h:=h0a ?_))))
  (refine h0z Tryd.results9 (.tmp rfl .nil) ?_)
  exact ⟨_, ⟨rfl, rfl⟩, by intro w H; refine H.sub ?_; (try simp only [zzC, zzN]); repeat (first | exact List.Sublist.refl _ | refine List.Sublist.cons _ ?_)⟩
 | true =>
 rw [if_neg (fun h => by cases h)]
 generalize hR : (if h2w (rules.map chkR) ≠ 0 then h2w (rules.map chkR) else if h2q hd paths [] ≠ 0 then h2q hd paths [] else h2v hd ports []) = R
 replace hR := hR.symm
 refine Fn1 Tryd.func9 Tryd.ntmps9 rfl rfl ?_
 repeat' (first | (refine h2g (id:=0) ?_) | refine h0t ?_ | refine h0e ?_ | refine h1a ?_ | refine h0m rfl ?_ | (refine gR 0 ?_ <;> (try refine h0b ?_; (refine h2c (t:=60) rfl rfl ?_; intro nb hnb; (try simp only [Value.cells]))) <;> (try refine p_a (h:=h0a ?_))) | (refine gR 1 (p_e (q_f fo_60_0) (h:=q_e q_l ?_)) <;> (try refine h0b ?_; (refine q_c 26 (c:=by apply hwo) (h:=?_); rintro _ _ ⟨rfl, rfl⟩; (try simp only [zzE, zzF]))) <;> (try refine p_e (by apply h3g; exact rfl; exact h1f) (h:=h0a ?_))) | (refine gR 3 (p_e (q_f fo_60_1) (h:=q_e q_l ?_)) <;> (try refine h0b ?_; (refine q_c 27 (c:=by apply hac) (h:=?_); rintro _ _ ⟨rfl, rfl⟩; (try simp only [zzE, zzF]))) <;> (try refine p_e (by apply h3g; exact rfl; exact h1f) (h:=h0a ?_))) | (refine gR 5 (p_e (q_f h3s) (h:=p_e q_l (h:=p_e (by apply h0h; exact rfl; exact (fun _ => BigFrame.builtin_len ..); apply h0j Tryd.underlying56; exact h3d) (h:=p_e (q_b (r:=by exact h0u q_o)) (h:=p_m (h:=p_y (q_f h3o) (h:=p_y q_l (h:=p_y (by apply h0h; exact rfl; exact (fun _ => BigFrame.builtin_len ..); apply h0j Tryd.underlying57; exact h3d) (h:=p_y (q_b (r:=by exact h0u q_o)) (h:=p_p (h:=p_m (h:=p_y (q_f h3z) (h:=p_y q_l (h:=p_y (by apply h0h; exact rfl; exact (fun _ => BigFrame.builtin_len ..); apply h0j Tryd.underlying58; exact h3d) (h:=p_y (q_b (r:=by exact h0u q_o)) (h:=p_p (h:=h0a ?_)))))))))))))))))) | (refine gR 7 (p_e (q_f fo_60_3) (h:=q_e q_l ?_)) <;> (try refine h0b ?_; (refine q_c 28 (c:=by apply hva) (h:=?_); rintro _ _ ⟨rfl, rfl⟩; (try simp only [zzE, zzF]))) <;> (try refine p_e (by apply h3g; exact rfl; exact h1f) (h:=h0a ?_))) | (refine gR 9 (p_a (h:=h0a ?_))))
 refine ⟨?_⟩
 clear hwo hac hva
 obtain ⟨n1, rfl⟩ : ∃ x, x = nb := ⟨_, rfl⟩
 refine h0o ?_
 refine h2i (γ:=Nat) (fun k => k ≤ rules.length ∧ h2w (rules.map chkR) = h2w ((rules.map chkR).drop k)) (fun k => rules.length - k) (fun k => [(3, .int .i64 (k : Nat))]) [(1, _)]
  (fun _ => rfB n1 (mB8 nm) df (.slice ra rules.length rc) hd (.slice pa paths.length pc) (.slice qa ports.length qc) :: L) 0 (.cons rfl .nil) ⟨Nat.zero_le _, rfl⟩ (by (focus (repeat (first | exact Sub.nil | refine Sub.cons rfl ?_)))) (fun _ H => H) ?_
 rintro k ⟨hk, heq⟩
 (try dsimp only)
 by_cases hlt : k < rules.length
 ·obtain ⟨j, q, bb, off, cs, T, fr, rfl, hj, hsz, hx⟩ := hrs.elem hlt
  obtain ⟨v, hv, hcs⟩ := hrg.at_ k hlt
  rw [hv] at hx
  clear hv
  obtain ⟨ca, cc, rfl, hcl, hcm⟩ := hcs
  have hed := firstE_drop (es:=rules.map chkR) (k:=k) (by simpa using hlt)
  rw [List.getElem_map] at hed
  rw [hed] at heq
  clear hed
  have hrk := hru _ (List.getElem_mem hlt)
  generalize rules[k] = r at *
  obtain ⟨num, act, conds⟩ := r
  obtain ⟨k1, k2, k3⟩ := hrk
  dsimp only at *
  have hfi := fun (L : List Blk) => refFind_c (S:=S) (w0:=w0) (L:=L) num
  obtain ⟨n9, t9, a9, -, -, h9⟩ := num_agg num
  unfold rgotV at hfi
  rw [h9] at hfi
  have hcr : chkR ⟨num, act, conds⟩ = if (h3f num clls).isSome = false then 38 else if h4b act = false then 210 else if 6 < conds.length then 205 else h2w (conds.map chkC) := by
   unfold chkR
   cases h3f num clls <;> rfl
  generalize chkR ⟨num, act, conds⟩ = C at *
  have hac := fun (L : List Blk) => ract_c (S:=S) (w0:=w0) (L:=L) act k2
  generalize (h3f num clls).isSome = is at *
  generalize h4b act = ak at *
  clear h9
  cases is with
  | false =>
   rw [if_pos rfl] at hcr
   have hX := (h4n heq (by omega)).trans hcr
   obtain rfl : R = 38 := (h4n hR (by omega)).trans hX
   clear hX heq hcr hR
   repeat' (first | refine h0t ?_ | refine h0e ?_ | refine h1x ?_ | refine h0x ?_ | refine h1m ?_ | refine h0o ?_ | refine h1a ?_ | refine h1e ?_ | refine h0l rfl ?_ | (refine gR 10 (p_m (h:=p_e (q_f h3s) (h:=p_e q_l (h:=p_e (by apply h0h; exact rfl; exact (fun _ => BigFrame.builtin_len ..); apply h0j Tryd.underlying56; exact h3d) (h:=p_e (q_b (r:=by exact h0q q_o)) (h:=h0a ?_))))))) | (refine gR 12 (p_e (q_f h3s) (h:=p_e q_l (h:=p_m (h:=p_e (by apply h0s; exact rfl; exact rfl; (focus (apply h2h Tryd.underlying56 sz_109; omega; omega; exact c_1))) (h:=q_e (by apply h1r (t:=109); exact rfl; exact c_10; kernel_rfl; kernel_rfl; exact sz_109; (with_reducible assumption); (with_reducible assumption)) ?_))))) <;> (try refine h0b ?_; (refine h1b (t:=109) rfl Tryd.zeroValue109 ?_; intro nb hnb; (try simp only [Value.cells]))) <;> (try refine h0b ?_; (refine q_W ?_)) <;> (try refine h0a ?_)) | (refine gR 13 (p_e (q_f fo_109_0) (h:=q_e q_l ?_)) <;> (try refine q_e (by apply h3c; exact rfl; (focus (apply h3a Tryd.underlying22 Tryd.underlying3; first | (refine IntWalk.i64_in _ ?_; omega) | (refine IntWalk.u8_in _ ?_; omega) | (refine IntWalk.u16_in _ ?_; omega) | (refine IntWalk.u32_in _ ?_; omega) | (refine IntWalk.u64_in _ ?_; omega) | (refine IntWalk.i32_in _ ?_; omega) | exact rfl))) ?_) <;> (try refine h0b ?_; (refine q_c 29 (c:=by apply hfi) (h:=?_); rintro _ _ ⟨rfl, rfl⟩; (try simp only [zzE, zzF]))) <;> (try refine p_m (h:=p_x (h:=q_x ?_))) <;> (try refine h0b ?_; (refine h1b (t:=95) rfl Tryd.zeroValue95 ?_; intro nb hnb; (try simp only [Value.cells]))) <;> (try refine h0b ?_; (refine q_W ?_)) <;> (try refine p_a (h:=h0a ?_))) | (refine gR 14 (p_m (h:=p_e (by apply h3g; exact rfl; exact h1y) (h:=h0a ?_)))) | (refine gR 15 (p_a (h:=h0a ?_))))
   (refine h0z Tryd.results9 (.tmp rfl .nil) ?_)
   exact ⟨_, ⟨rfl, rfl⟩, by intro w H; refine H.sub ?_; (try simp only [zzC, zzN]); repeat (first | exact List.Sublist.refl _ | refine List.Sublist.cons _ ?_)⟩
  | true =>
  rw [if_neg (fun h => by cases h)] at hcr
  cases ak with
  | false =>
   rw [if_pos rfl] at hcr
   have hX := (h4n heq (by omega)).trans hcr
   obtain rfl : R = 210 := (h4n hR (by omega)).trans hX
   clear hX heq hcr hR
   repeat' (first | refine h0t ?_ | refine h0e ?_ | refine h1x ?_ | refine h0x ?_ | refine h1m ?_ | refine h0o ?_ | refine h1a ?_ | refine h1e ?_ | refine h0l rfl ?_ | refine h0m rfl ?_ | (refine gR 10 (p_m (h:=p_e (q_f h3s) (h:=p_e q_l (h:=p_e (by apply h0h; exact rfl; exact (fun _ => BigFrame.builtin_len ..); apply h0j Tryd.underlying56; exact h3d) (h:=p_e (q_b (r:=by exact h0q q_o)) (h:=h0a ?_))))))) | (refine gR 12 (p_e (q_f h3s) (h:=p_e q_l (h:=p_m (h:=p_e (by apply h0s; exact rfl; exact rfl; (focus (apply h2h Tryd.underlying56 sz_109; omega; omega; exact c_1))) (h:=q_e (by apply h1r (t:=109); exact rfl; exact c_10; kernel_rfl; kernel_rfl; exact sz_109; (with_reducible assumption); (with_reducible assumption)) ?_))))) <;> (try refine h0b ?_; (refine h1b (t:=109) rfl Tryd.zeroValue109 ?_; intro nb hnb; (try simp only [Value.cells]))) <;> (try refine h0b ?_; (refine q_W ?_)) <;> (try refine h0a ?_)) | (refine gR 13 (p_e (q_f fo_109_0) (h:=q_e q_l ?_)) <;> (try refine q_e (by apply h3c; exact rfl; (focus (apply h3a Tryd.underlying22 Tryd.underlying3; first | (refine IntWalk.i64_in _ ?_; omega) | (refine IntWalk.u8_in _ ?_; omega) | (refine IntWalk.u16_in _ ?_; omega) | (refine IntWalk.u32_in _ ?_; omega) | (refine IntWalk.u64_in _ ?_; omega) | (refine IntWalk.i32_in _ ?_; omega) | exact rfl))) ?_) <;> (try refine h0b ?_; (refine q_c 29 (c:=by apply hfi) (h:=?_); rintro _ _ ⟨rfl, rfl⟩; (try simp only [zzE, zzF]))) <;> (try refine p_m (h:=p_x (h:=q_x ?_))) <;> (try refine h0b ?_; (refine h1b (t:=95) rfl Tryd.zeroValue95 ?_; intro nb hnb; (try simp only [Value.cells]))) <;> (try refine h0b ?_; (refine q_W ?_)) <;> (try refine p_a (h:=h0a ?_))) | (refine gR 14 (p_m (h:=p_e (by apply h3g; exact rfl; exact h1f) (h:=h0a ?_)))) | (refine gR 16 (p_e (q_f fo_109_1) (h:=q_e q_l ?_)) <;> (try refine h0b ?_; (refine q_c 27 (c:=by apply hac) (h:=?_); rintro _ _ ⟨rfl, rfl⟩; (try simp only [zzE, zzF]))) <;> (try refine p_e (by apply h3g; exact rfl; exact h1y) (h:=h0a ?_))) | (refine gR 17 (p_a (h:=h0a ?_))))
   (refine h0z Tryd.results9 (.tmp rfl .nil) ?_)
   exact ⟨_, ⟨rfl, rfl⟩, by intro w H; refine H.sub ?_; (try simp only [zzC, zzN]); repeat (first | exact List.Sublist.refl _ | refine List.Sublist.cons _ ?_)⟩
  | true =>
  rw [if_neg (fun h => by cases h)] at hcr
  by_cases h6 : 6 < conds.length
  ·rw [if_pos h6] at hcr
   have hX := (h4n heq (by omega)).trans hcr
   obtain rfl : R = 205 := (h4n hR (by omega)).trans hX
   clear hX heq hcr hR
   repeat' (first | refine h0t ?_ | refine h0e ?_ | refine h1x ?_ | refine h0x ?_ | refine h1m ?_ | refine h0o ?_ | refine h1a ?_ | refine h1e ?_ | refine h0l rfl ?_ | refine h0m rfl ?_ | (refine gR 10 (p_m (h:=p_e (q_f h3s) (h:=p_e q_l (h:=p_e (by apply h0h; exact rfl; exact (fun _ => BigFrame.builtin_len ..); apply h0j Tryd.underlying56; exact h3d) (h:=p_e (q_b (r:=by exact h0q q_o)) (h:=h0a ?_))))))) | (refine gR 12 (p_e (q_f h3s) (h:=p_e q_l (h:=p_m (h:=p_e (by apply h0s; exact rfl; exact rfl; (focus (apply h2h Tryd.underlying56 sz_109; omega; omega; exact c_1))) (h:=q_e (by apply h1r (t:=109); exact rfl; exact c_10; kernel_rfl; kernel_rfl; exact sz_109; (with_reducible assumption); (with_reducible assumption)) ?_))))) <;> (try refine h0b ?_; (refine h1b (t:=109) rfl Tryd.zeroValue109 ?_; intro nb hnb; (try simp only [Value.cells]))) <;> (try refine h0b ?_; (refine q_W ?_)) <;> (try refine h0a ?_)) | (refine gR 13 (p_e (q_f fo_109_0) (h:=q_e q_l ?_)) <;> (try refine q_e (by apply h3c; exact rfl; (focus (apply h3a Tryd.underlying22 Tryd.underlying3; first | (refine IntWalk.i64_in _ ?_; omega) | (refine IntWalk.u8_in _ ?_; omega) | (refine IntWalk.u16_in _ ?_; omega) | (refine IntWalk.u32_in _ ?_; omega) | (refine IntWalk.u64_in _ ?_; omega) | (refine IntWalk.i32_in _ ?_; omega) | exact rfl))) ?_) <;> (try refine h0b ?_; (refine q_c 29 (c:=by apply hfi) (h:=?_); rintro _ _ ⟨rfl, rfl⟩; (try simp only [zzE, zzF]))) <;> (try refine p_m (h:=p_x (h:=q_x ?_))) <;> (try refine h0b ?_; (refine h1b (t:=95) rfl Tryd.zeroValue95 ?_; intro nb hnb; (try simp only [Value.cells]))) <;> (try refine h0b ?_; (refine q_W ?_)) <;> (try refine p_a (h:=h0a ?_))) | (refine gR 14 (p_m (h:=p_e (by apply h3g; exact rfl; exact h1f) (h:=h0a ?_)))) | (refine gR 16 (p_e (q_f fo_109_1) (h:=q_e q_l ?_)) <;> (try refine h0b ?_; (refine q_c 27 (c:=by apply hac) (h:=?_); rintro _ _ ⟨rfl, rfl⟩; (try simp only [zzE, zzF]))) <;> (try refine p_e (by apply h3g; exact rfl; exact h1f) (h:=h0a ?_))) | (refine gR 18 (p_e (q_f h3b) (h:=p_e q_l (h:=p_e (by apply h0h; exact rfl; exact (fun _ => BigFrame.builtin_len ..); apply h0j Tryd.underlying107; exact h3d) (h:=p_e (q_b (r:=by exact h1c q_o)) (h:=h0a ?_)))))) | (refine gR 19 (p_a (h:=h0a ?_))))
   (refine h0z Tryd.results9 (.tmp rfl .nil) ?_)
   exact ⟨_, ⟨rfl, rfl⟩, by intro w H; refine H.sub ?_; (try simp only [zzC, zzN]); repeat (first | exact List.Sublist.refl _ | refine List.Sublist.cons _ ?_)⟩
  rw [if_neg h6] at hcr
  repeat' (first | (refine h2g (id:=2) ?_) | refine h0t ?_ | refine h0e ?_ | refine h0o ?_ | refine h1a ?_ | refine h0l rfl ?_ | refine h0m rfl ?_ | (refine gR 10 (p_m (h:=p_e (q_f h3s) (h:=p_e q_l (h:=p_e (by apply h0h; exact rfl; exact (fun _ => BigFrame.builtin_len ..); apply h0j Tryd.underlying56; exact h3d) (h:=p_e (q_b (r:=by exact h0q q_o)) (h:=h0a ?_))))))) | (refine gR 12 (p_e (q_f h3s) (h:=p_e q_l (h:=p_m (h:=p_e (by apply h0s; exact rfl; exact rfl; (focus (apply h2h Tryd.underlying56 sz_109; omega; omega; exact c_1))) (h:=q_e (by apply h1r (t:=109); exact rfl; exact c_10; kernel_rfl; kernel_rfl; exact sz_109; (with_reducible assumption); (with_reducible assumption)) ?_))))) <;> (try refine h0b ?_; (refine h1b (t:=109) rfl Tryd.zeroValue109 ?_; intro nb hnb; (try simp only [Value.cells]))) <;> (try refine h0b ?_; (refine q_W ?_)) <;> (try refine h0a ?_)) | (refine gR 13 (p_e (q_f fo_109_0) (h:=q_e q_l ?_)) <;> (try refine q_e (by apply h3c; exact rfl; (focus (apply h3a Tryd.underlying22 Tryd.underlying3; first | (refine IntWalk.i64_in _ ?_; omega) | (refine IntWalk.u8_in _ ?_; omega) | (refine IntWalk.u16_in _ ?_; omega) | (refine IntWalk.u32_in _ ?_; omega) | (refine IntWalk.u64_in _ ?_; omega) | (refine IntWalk.i32_in _ ?_; omega) | exact rfl))) ?_) <;> (try refine h0b ?_; (refine q_c 29 (c:=by apply hfi) (h:=?_); rintro _ _ ⟨rfl, rfl⟩; (try simp only [zzE, zzF]))) <;> (try refine p_m (h:=p_x (h:=q_x ?_))) <;> (try refine h0b ?_; (refine h1b (t:=95) rfl Tryd.zeroValue95 ?_; intro nb hnb; (try simp only [Value.cells]))) <;> (try refine h0b ?_; (refine q_W ?_)) <;> (try refine p_a (h:=h0a ?_))) | (refine gR 14 (p_m (h:=p_e (by apply h3g; exact rfl; exact h1f) (h:=h0a ?_)))) | (refine gR 16 (p_e (q_f fo_109_1) (h:=q_e q_l ?_)) <;> (try refine h0b ?_; (refine q_c 27 (c:=by apply hac) (h:=?_); rintro _ _ ⟨rfl, rfl⟩; (try simp only [zzE, zzF]))) <;> (try refine p_e (by apply h3g; exact rfl; exact h1f) (h:=h0a ?_))) | (refine gR 18 (p_e (q_f h3b) (h:=p_e q_l (h:=p_e (by apply h0h; exact rfl; exact (fun _ => BigFrame.builtin_len ..); apply h0j Tryd.underlying107; exact h3d) (h:=p_e (q_b (r:=by exact h0u q_o)) (h:=h0a ?_)))))) | (refine gR 20 (p_a (h:=h0a ?_))))
  refine ⟨?_⟩
  rename_i n4 _
  obtain ⟨n5, rfl⟩ : ∃ x, x = nb := ⟨_, rfl⟩
  clear hfi hac
  refine h0o ?_
  refine h2i (γ:=Nat) (fun m => m ≤ conds.length ∧ h2w (conds.map chkC) = h2w ((conds.map chkC).drop m)) (fun m => conds.length - m) (fun m => [(7, .int .i64 (m : Nat))]) [(1, _), (3, _), (4, _)]
   (fun _ => rrB n4 num act (.slice ca conds.length cc) :: rfB n1 (mB8 nm) df (.slice (some ⟨bb, off, none⟩) rules.length rc) hd (.slice pa paths.length pc) (.slice qa ports.length qc) :: L) 0 (.cons rfl (.cons rfl (.cons rfl .nil))) ⟨Nat.zero_le _, rfl⟩ (by (focus (repeat (first | exact Sub.nil | refine Sub.cons rfl ?_)))) (fun _ H => H.tail) ?_
  rintro m ⟨hm, hme⟩
  (try dsimp only)
  by_cases hlm : m < conds.length
  ·obtain ⟨j2, q2, bb2, off2, cs2, T2, fr2, rfl, hj2, hsz2, hx2⟩ := ((hcl.up (rfB n1 (mB8 nm) df (.slice (some ⟨bb, off, none⟩) rules.length rc) hd (.slice pa paths.length pc) (.slice qa ports.length qc))).up (rrB n4 num act (.slice ca conds.length cc))).elem hlm
   rw [rgC_at _ _ hlm] at hx2
   have hcd := firstE_drop (es:=conds.map chkC) (k:=m) (by simpa using hlm)
   rw [List.getElem_map] at hcd
   rw [hcd] at hme
   clear hcd
   have hrc := fun (L : List Blk) => rcond_c (S:=S) (w0:=w0) (L:=L) conds[m] (k3 _ (List.getElem_mem hlm))
   generalize conds[m] = c at *
   generalize chkC c = ce at *
   dsimp only [GCnd.rc] at hrc hx2
   by_cases hce : ce = 0
   ·rw [if_neg (fun h => h hce)] at hme
    subst hce
    simp only [show ((0 : Nat) : Int) = 0 from rfl] at hrc
    repeat' (first | refine h0t ?_ | refine h0e ?_ | refine h1d ?_ | refine h1h ?_ | refine h0o ?_ | refine h1a ?_ | refine h0l rfl ?_ | refine h0m rfl ?_ | (refine gR 21 (p_m (h:=p_e (q_f h3b) (h:=p_e q_l (h:=p_e (by apply h0h; exact rfl; exact (fun _ => BigFrame.builtin_len ..); apply h0j Tryd.underlying107; exact h3d) (h:=p_e (q_b (r:=by exact h0q q_o)) (h:=h0a ?_))))))) | (refine gR 23 (p_e (q_f h3b) (h:=p_e q_l (h:=p_m (h:=p_e (by apply h0s; exact rfl; exact rfl; (focus (apply h2h Tryd.underlying107 sz_65; omega; omega; exact c_1))) (h:=q_e (by apply h1r (t:=65); exact rfl; exact c_13; kernel_rfl; kernel_rfl; exact sz_65; (with_reducible assumption); (with_reducible assumption)) ?_))))) <;> (try refine h0b ?_; (refine q_c 12 (c:=by apply hrc) (h:=?_); rintro _ _ ⟨rfl, rfl⟩; (try simp only [zzE, zzF]))) <;> (try refine p_a (h:=h0a ?_))) | (refine gR 24 (q_m ?_) <;> (try refine q_e (by exact q_b (r:=by refine h1g ?_; first | rfl | (with_reducible assumption) | (decide; done) | omega)) ?_) <;> (try refine h0a ?_)) | (refine gR 22 (q_m ?_) <;> (try refine q_e (q_b (r:=by apply h1q; exact c_4; (focus (refine IntWalk.i64_in _ ?_; omega)))) ?_) <;> (try refine p_a (h:=h0a ?_))))
    exact h1p (m + 1) ⟨⟨by omega, hme⟩, by omega⟩ (by (focus (repeat (first | exact Sub.nil | refine Sub.cons rfl ?_)))) c_20
   ·have hX := (h4n heq (by rw [hcr.trans (h4n hme hce)]; exact hce)).trans (hcr.trans (h4n hme hce))
    obtain rfl : R = ce := (h4n hR (by rw [hX]; exact hce)).trans hX
    have hci : ¬ ((R : Nat) : Int) = 0 := by omega
    clear hX heq hcr hR hme
    repeat' (first | refine h0t ?_ | refine h0e ?_ | refine h1x ?_ | refine h0x ?_ | refine h1m ?_ | refine h0o ?_ | refine h1a ?_ | refine h1e ?_ | refine h0l rfl ?_ | (refine gR 21 (p_m (h:=p_e (q_f h3b) (h:=p_e q_l (h:=p_e (by apply h0h; exact rfl; exact (fun _ => BigFrame.builtin_len ..); apply h0j Tryd.underlying107; exact h3d) (h:=p_e (q_b (r:=by exact h0q q_o)) (h:=h0a ?_))))))) | (refine gR 23 (p_e (q_f h3b) (h:=p_e q_l (h:=p_m (h:=p_e (by apply h0s; exact rfl; exact rfl; (focus (apply h2h Tryd.underlying107 sz_65; omega; omega; exact c_1))) (h:=q_e (by apply h1r (t:=65); exact rfl; exact c_13; kernel_rfl; kernel_rfl; exact sz_65; (with_reducible assumption); (with_reducible assumption)) ?_))))) <;> (try refine h0b ?_; (refine q_c 12 (c:=by apply hrc) (h:=?_); rintro _ _ ⟨rfl, rfl⟩; (try simp only [zzE, zzF]))) <;> (try refine p_a (h:=h0a ?_))) | (refine gR 24 (p_m (h:=p_e (q_b (r:=by exact h1k q_o)) (h:=h0a ?_)))) | (refine gR 25 (p_m (h:=p_a (h:=h0a ?_)))))
    (refine h0z Tryd.results9 (.tmp rfl .nil) ?_)
    exact ⟨_, ⟨rfl, rfl⟩, by intro w H; refine H.sub ?_; (try simp only [zzC, zzN]); repeat (first | exact List.Sublist.refl _ | refine List.Sublist.cons _ ?_)⟩
  ·have hC : C = 0 := by rw [hcr, hme, firstE_nil (by rw [List.length_map]; omega)]
   rw [if_neg (fun h => h hC)] at heq
   repeat' (first | refine h0t ?_ | refine h0e ?_ | refine h1d ?_ | refine h1w ?_ | refine h1o ?_ | refine h1h ?_ | refine h1v ?_ | refine h2j ?_ | refine h0m rfl ?_ | (refine gR 21 (p_m (h:=p_e (q_f h3b) (h:=p_e q_l (h:=p_e (by apply h0h; exact rfl; exact (fun _ => BigFrame.builtin_len ..); apply h0j Tryd.underlying107; exact h3d) (h:=p_e (q_b (r:=by exact h0r q_o)) (h:=h0a ?_))))))) | (refine gR 11 (q_m ?_) <;> (try refine q_e (q_b (r:=by apply h1q; exact c_4; (focus (refine IntWalk.i64_in _ ?_; omega)))) ?_) <;> (try refine p_a (h:=h0a ?_))))
   exact h1p (k + 1) ⟨⟨by omega, heq⟩, by omega⟩ (by (focus (repeat (first | exact Sub.nil | refine Sub.cons rfl ?_)))) (fun _ H => H.tail)
 have hX : h2w (rules.map chkR) = 0 := by rw [heq, firstE_nil (by rw [List.length_map]; omega)]
 have hR2 := chk_go hR hX
 clear hR hX heq hru hrg
 repeat' (first | (refine h2g (id:=4) ?_) | refine h0t ?_ | refine h0e ?_ | refine h1w ?_ | refine h1o ?_ | refine h1v ?_ | refine h2j ?_ | refine h0m rfl ?_ | (refine gR 10 (p_m (h:=p_e (q_f h3s) (h:=p_e q_l (h:=p_e (by apply h0h; exact rfl; exact (fun _ => BigFrame.builtin_len ..); apply h0j Tryd.underlying56; exact h3d) (h:=p_e (q_b (r:=by exact h0r q_o)) (h:=h0a ?_))))))) | (refine gR 26 (p_a (h:=h0a ?_))))
 refine ⟨?_⟩
 refine h0o ?_
 refine h2i (γ:=Nat) (fun k => k ≤ paths.length ∧ h2q hd paths [] = h2q hd (paths.drop k) ((paths.take k).map (·.1))) (fun k => paths.length - k) (fun k => [(9, .int .i64 (k : Nat))]) [(1, _)]
  (fun _ => rfB n1 (mB8 nm) df (.slice ra rules.length rc) hd (.slice pa paths.length pc) (.slice qa ports.length qc) :: L) 0 (.cons rfl .nil) ⟨Nat.zero_le _, rfl⟩ (by (focus (repeat (first | exact Sub.nil | refine Sub.cons rfl ?_)))) (fun _ H => H) ?_
 clear hlt hk
 rintro k ⟨hk, heq⟩
 (try dsimp only)
 by_cases hlt : k < paths.length
 ·obtain ⟨j, q, bb, off, cs, T, fr, rfl, hj, hsz, hx⟩ := (hps.up (rfB n1 (mB8 nm) df (.slice ra rules.length rc) hd (.slice pa paths.length pc) (.slice qa ports.length qc))).elem hlt
  rw [rpC_at _ _ hlt] at hx
  rw [chkPaths_at hd paths k hlt] at heq
  have hpw := fun (L : List Blk) => Pt.rpath_c (S:=S) (w0:=w0) (L:=L) (mB8 paths[k].1) (by rw [h4c]; exact hpl _ (List.getElem_mem hlt))
  rw [lB_mB8] at hpw
  have hpk := hpr _ (List.getElem_mem hlt)
  generalize hpp : paths[k] = p at *
  obtain ⟨s, n⟩ := p
  dsimp only at *
  have hbo := fun (L : List Blk) => rbot_c (S:=S) (w0:=w0) (L:=L) hd 2047 hhd (by omega)
  have hwi := fun (L : List Blk) => rwit_c (S:=S) (w0:=w0) (L:=L) n (hd &&& 2047) hpk.2 (Nat.lt_of_le_of_lt Nat.and_le_left hhd)
  simp only [show ((2047 : Nat) : Int) = 2047 from rfl] at hbo
  rw [grant_eq] at heq
  generalize decide (n &&& (hd &&& 2047) = n) = wn at *
  generalize hd &&& 2047 = hk2 at *
  generalize Pt.pathF s = pf at *
  cases pf with
  | false =>
   rw [if_pos rfl] at heq
   obtain rfl : R = 203 := (h4n hR2 (by omega)).trans heq
   clear heq hR2
   repeat' (first | refine h0t ?_ | refine h0e ?_ | refine h1x ?_ | refine h0x ?_ | refine h1m ?_ | refine h0o ?_ | refine h1a ?_ | refine h1e ?_ | refine h0l rfl ?_ | (refine gR 27 (p_m (h:=p_e (q_f h3o) (h:=p_e q_l (h:=p_e (by apply h0h; exact rfl; exact (fun _ => BigFrame.builtin_len ..); apply h0j Tryd.underlying57; exact h3d) (h:=p_e (q_b (r:=by exact h0q q_o)) (h:=h0a ?_))))))) | (refine gR 29 (p_e (q_f h3o) (h:=p_e q_l (h:=p_m (h:=p_e (by apply h0s; exact rfl; exact rfl; (focus (apply h2h Tryd.underlying57 sz_113; omega; omega; exact c_1))) (h:=q_e (by apply h1r (t:=113); exact rfl; exact c_13; kernel_rfl; kernel_rfl; exact sz_113; (with_reducible assumption); (with_reducible assumption)) ?_))))) <;> (try refine h0b ?_; (refine h1b (t:=113) rfl Tryd.zeroValue113 ?_; intro nb hnb; (try simp only [Value.cells]))) <;> (try refine h0b ?_; (refine q_W ?_)) <;> (try refine h0a ?_)) | (refine gR 30 (p_e (q_f fo_113_0) (h:=q_e q_l ?_)) <;> (try refine h0b ?_; (refine q_c 30 (c:=by apply hpw) (h:=?_); rintro _ _ ⟨rfl, rfl⟩; (try simp only [zzE, zzF]))) <;> (try refine p_e (by apply h3g; exact rfl; exact h1y) (h:=h0a ?_))) | (refine gR 31 (p_a (h:=h0a ?_))))
   (refine h0z Tryd.results9 (.tmp rfl .nil) ?_)
   exact ⟨_, ⟨rfl, rfl⟩, by intro w H; refine H.sub ?_; (try simp only [zzC, zzN]); repeat (first | exact List.Sublist.refl _ | refine List.Sublist.cons _ ?_)⟩
  | true =>
  rw [if_neg (fun h => by cases h)] at heq
  by_cases hn0 : n = 0
  ·subst hn0
   rw [show (decide ((0 : Nat) ≠ 0) && wn) = false from by rw [decide_eq_false (fun h => h rfl)]; rfl, if_pos rfl] at heq
   obtain rfl : R = 204 := (h4n hR2 (by omega)).trans heq
   clear heq
   repeat' (first | refine h0t ?_ | refine h0e ?_ | refine h1x ?_ | refine h0x ?_ | refine h1m ?_ | refine h0o ?_ | refine h1a ?_ | refine h1e ?_ | refine h0l rfl ?_ | refine h0m rfl ?_ | (refine gR 27 (p_m (h:=p_e (q_f h3o) (h:=p_e q_l (h:=p_e (by apply h0h; exact rfl; exact (fun _ => BigFrame.builtin_len ..); apply h0j Tryd.underlying57; exact h3d) (h:=p_e (q_b (r:=by exact h0q q_o)) (h:=h0a ?_))))))) | (refine gR 29 (p_e (q_f h3o) (h:=p_e q_l (h:=p_m (h:=p_e (by apply h0s; exact rfl; exact rfl; (focus (apply h2h Tryd.underlying57 sz_113; omega; omega; exact c_1))) (h:=q_e (by apply h1r (t:=113); exact rfl; exact c_13; kernel_rfl; kernel_rfl; exact sz_113; (with_reducible assumption); (with_reducible assumption)) ?_))))) <;> (try refine h0b ?_; (refine h1b (t:=113) rfl Tryd.zeroValue113 ?_; intro nb hnb; (try simp only [Value.cells]))) <;> (try refine h0b ?_; (refine q_W ?_)) <;> (try refine h0a ?_)) | (refine gR 30 (p_e (q_f fo_113_0) (h:=q_e q_l ?_)) <;> (try refine h0b ?_; (refine q_c 30 (c:=by apply hpw) (h:=?_); rintro _ _ ⟨rfl, rfl⟩; (try simp only [zzE, zzF]))) <;> (try refine p_e (by apply h3g; exact rfl; exact h1f) (h:=h0a ?_))) | ((refine h2s (id:=32) (m:=12) (by kernel_rfl) rfl (q_u 0 (x:=by exact q_f fo_113_1) (h:=q_u 1 (x:=by exact q_l) (h:=?_)))) <;> (try refine q_u 2 (x:=by exact q_b (r:=by refine h1l ?_; first | rfl | (with_reducible assumption) | (decide; done) | omega)) (h:=?_)) <;> (try refine q_u 3 (x:=by exact h0g rfl) (h:=?_)) <;> (try apply H_take (i:=4); exact rfl; kernel_rfl; kernel_rfl; kernel_rfl; exact rfl; (exact fun _ H => H); exact Y_no rfl rfl rfl) <;> (try apply H_take (i:=5); exact rfl; kernel_rfl; kernel_rfl; kernel_rfl; exact rfl; (exact fun _ H => H); exact Y_no rfl rfl rfl) <;> (try apply H_take (i:=6); exact rfl; kernel_rfl; kernel_rfl; kernel_rfl; exact rfl; (exact fun _ H => H); exact Y_no rfl rfl rfl) <;> (try apply H_take (i:=7); exact rfl; kernel_rfl; kernel_rfl; kernel_rfl; exact rfl; (exact fun _ H => H); exact Y_no rfl rfl rfl) <;> (try refine q_r 8 ?_; (refine h0k rfl rfl rfl rfl ?_); refine h2a (fun _ H => H) ?_) <;> (try refine q_r 9 ?_; (refine h0k rfl rfl rfl rfl ?_); refine h2a (fun _ H => H) ?_) <;> (try apply H_take (i:=10); exact rfl; kernel_rfl; kernel_rfl; kernel_rfl; exact rfl; (exact fun _ H => H); exact Y_no rfl rfl rfl) <;> (try refine q_u 11 (x:=by exact h1i rfl rfl) (h:=h2e (by kernel_rfl) ?_))) | (refine gR 33 (p_a (h:=h0a ?_))))
   (refine h0z Tryd.results9 (.tmp rfl .nil) ?_)
   exact ⟨_, ⟨rfl, rfl⟩, by intro w H; refine H.sub ?_; (try simp only [zzC, zzN]); repeat (first | exact List.Sublist.refl _ | refine List.Sublist.cons _ ?_)⟩
  rw [decide_eq_true hn0, Bool.true_and] at heq
  cases wn with
  | false =>
   rw [if_pos rfl] at heq
   obtain rfl : R = 204 := (h4n hR2 (by omega)).trans heq
   clear heq
   repeat' (first | refine h0t ?_ | refine h0e ?_ | refine h1x ?_ | refine h0x ?_ | refine h1m ?_ | refine h0o ?_ | refine h1a ?_ | refine h1e ?_ | refine h0l rfl ?_ | refine h0m rfl ?_ | (refine gR 27 (p_m (h:=p_e (q_f h3o) (h:=p_e q_l (h:=p_e (by apply h0h; exact rfl; exact (fun _ => BigFrame.builtin_len ..); apply h0j Tryd.underlying57; exact h3d) (h:=p_e (q_b (r:=by exact h0q q_o)) (h:=h0a ?_))))))) | (refine gR 29 (p_e (q_f h3o) (h:=p_e q_l (h:=p_m (h:=p_e (by apply h0s; exact rfl; exact rfl; (focus (apply h2h Tryd.underlying57 sz_113; omega; omega; exact c_1))) (h:=q_e (by apply h1r (t:=113); exact rfl; exact c_13; kernel_rfl; kernel_rfl; exact sz_113; (with_reducible assumption); (with_reducible assumption)) ?_))))) <;> (try refine h0b ?_; (refine h1b (t:=113) rfl Tryd.zeroValue113 ?_; intro nb hnb; (try simp only [Value.cells]))) <;> (try refine h0b ?_; (refine q_W ?_)) <;> (try refine h0a ?_)) | (refine gR 30 (p_e (q_f fo_113_0) (h:=q_e q_l ?_)) <;> (try refine h0b ?_; (refine q_c 30 (c:=by apply hpw) (h:=?_); rintro _ _ ⟨rfl, rfl⟩; (try simp only [zzE, zzF]))) <;> (try refine p_e (by apply h3g; exact rfl; exact h1f) (h:=h0a ?_))) | ((refine h2s (id:=32) (m:=12) (by kernel_rfl) rfl (q_u 0 (x:=by exact q_f fo_113_1) (h:=q_u 1 (x:=by exact q_l) (h:=q_u 2 (x:=by exact q_b (r:=by exact h0y q_o)) (h:=q_u 3 (x:=by exact h0g rfl) (h:=q_T 4 (e:=(fun _ H => H)) (x:=by exact q_f fo_113_1) (h:=q_T 5 (e:=(fun _ H => H)) (x:=by exact q_l) (h:=q_T 6 (e:=(fun _ H => H)) (x:=by exact q_f fo_60_3) (h:=q_T 7 (e:=(fun _ H => H)) (x:=by exact q_l) (h:=?_)))))))))) <;> (try refine q_r 8 ?_; (refine h0f rfl rfl rfl ?_; (refine q_c 31 (c:=by apply hbo) (h:=?_); rintro _ _ ⟨rfl, rfl⟩; (try simp only [zzE, zzF]))); refine h2a (fun _ H => H) ?_) <;> (try refine q_r 9 ?_; (refine h0f rfl rfl rfl ?_; (refine q_c 28 (c:=by apply hwi) (h:=?_); rintro _ _ ⟨rfl, rfl⟩; (try simp only [zzE, zzF]))); refine h2a (fun _ H => H) ?_) <;> (try refine q_T 10 (e:=(fun _ H => H)) (x:=by apply h3g; exact rfl; exact h1y) (h:=q_u 11 (x:=by exact h1i rfl rfl) (h:=h2e (by kernel_rfl) ?_)))) | (refine gR 33 (p_a (h:=h0a ?_))))
   (refine h0z Tryd.results9 (.tmp rfl .nil) ?_)
   exact ⟨_, ⟨rfl, rfl⟩, by intro w H; refine H.sub ?_; (try simp only [zzC, zzN]); repeat (first | exact List.Sublist.refl _ | refine List.Sublist.cons _ ?_)⟩
  | true =>
  rw [if_neg (fun h => by cases h)] at heq
  repeat' (first | (refine h2g (id:=6) ?_) | refine h0t ?_ | refine h0e ?_ | refine h0o ?_ | refine h1a ?_ | refine h0l rfl ?_ | refine h0m rfl ?_ | (refine gR 27 (p_m (h:=p_e (q_f h3o) (h:=p_e q_l (h:=p_e (by apply h0h; exact rfl; exact (fun _ => BigFrame.builtin_len ..); apply h0j Tryd.underlying57; exact h3d) (h:=p_e (q_b (r:=by exact h0q q_o)) (h:=h0a ?_))))))) | (refine gR 29 (p_e (q_f h3o) (h:=p_e q_l (h:=p_m (h:=p_e (by apply h0s; exact rfl; exact rfl; (focus (apply h2h Tryd.underlying57 sz_113; omega; omega; exact c_1))) (h:=q_e (by apply h1r (t:=113); exact rfl; exact c_13; kernel_rfl; kernel_rfl; exact sz_113; (with_reducible assumption); (with_reducible assumption)) ?_))))) <;> (try refine h0b ?_; (refine h1b (t:=113) rfl Tryd.zeroValue113 ?_; intro nb hnb; (try simp only [Value.cells]))) <;> (try refine h0b ?_; (refine q_W ?_)) <;> (try refine h0a ?_)) | (refine gR 30 (p_e (q_f fo_113_0) (h:=q_e q_l ?_)) <;> (try refine h0b ?_; (refine q_c 30 (c:=by apply hpw) (h:=?_); rintro _ _ ⟨rfl, rfl⟩; (try simp only [zzE, zzF]))) <;> (try refine p_e (by apply h3g; exact rfl; exact h1f) (h:=h0a ?_))) | ((refine h2s (id:=32) (m:=12) (by kernel_rfl) rfl (q_u 0 (x:=by exact q_f fo_113_1) (h:=q_u 1 (x:=by exact q_l) (h:=q_u 2 (x:=by exact q_b (r:=by exact h0y q_o)) (h:=q_u 3 (x:=by exact h0g rfl) (h:=q_T 4 (e:=(fun _ H => H)) (x:=by exact q_f fo_113_1) (h:=q_T 5 (e:=(fun _ H => H)) (x:=by exact q_l) (h:=q_T 6 (e:=(fun _ H => H)) (x:=by exact q_f fo_60_3) (h:=q_T 7 (e:=(fun _ H => H)) (x:=by exact q_l) (h:=?_)))))))))) <;> (try refine q_r 8 ?_; (refine h0f rfl rfl rfl ?_; (refine q_c 31 (c:=by apply hbo) (h:=?_); rintro _ _ ⟨rfl, rfl⟩; (try simp only [zzE, zzF]))); refine h2a (fun _ H => H) ?_) <;> (try refine q_r 9 ?_; (refine h0f rfl rfl rfl ?_; (refine q_c 28 (c:=by apply hwi) (h:=?_); rintro _ _ ⟨rfl, rfl⟩; (try simp only [zzE, zzF]))); refine h2a (fun _ H => H) ?_) <;> (try refine q_T 10 (e:=(fun _ H => H)) (x:=by apply h3g; exact rfl; exact h1f) (h:=q_u 11 (x:=by exact h1i rfl rfl) (h:=h2e (by kernel_rfl) ?_)))) | (refine gR 34 (p_a (h:=h0a ?_))))
  refine ⟨?_⟩
  obtain ⟨n10, rfl⟩ : ∃ x, x = nb := ⟨_, rfl⟩
  clear hbo hwi
  refine h0o ?_
  refine h2i (γ:=Nat) (fun m => m ≤ k ∧ ∀ i, i < m → ∀ (hi : i < paths.length), paths[i].1 ≠ s) (fun m => k - m) (fun m => [(11, .int .i64 (m : Nat))]) [(1, _), (9, _), (10, _)]
   (fun _ => ⟨true, n10, .cells #[.string (mB8 s), .int .i64 (n : Nat)] 113 (0, 0)⟩ :: rfB n1 (mB8 nm) df (.slice ra rules.length rc) hd (.slice (some ⟨bb, off, none⟩) paths.length pc) (.slice qa ports.length qc) :: L) 0 (.cons rfl (.cons rfl (.cons rfl .nil))) ⟨Nat.zero_le _, (fun i h => by omega)⟩ (by (focus (repeat (first | exact Sub.nil | refine Sub.cons rfl ?_)))) (fun _ H => H) ?_
  rintro m ⟨hm, hme⟩
  (try dsimp only)
  by_cases hlm : m < k
  ·obtain ⟨j2, q2, bb2, off2, cs2, T2, fr2, e2, hj2, hsz2, hx2⟩ := ((hps.up (rfB n1 (mB8 nm) df (.slice ra rules.length rc) hd (.slice (some ⟨bb, off, none⟩) paths.length pc) (.slice qa ports.length qc))).up (⟨true, n10, .cells #[.string (mB8 s), .int .i64 (n : Nat)] 113 (0, 0)⟩ : Blk)).elem (k:=m) (by omega)
   obtain ⟨rfl, rfl⟩ : bb = bb2 ∧ off = off2 := by injection e2 with e2; injection e2 with e2 e3; exact ⟨e2, e3⟩
   rw [rpC_at _ _ (by omega)] at hx2
   have hx3 := take2_0 hx2
   clear hx2
   by_cases hab : paths[m].1 = s
   ·have hmem : s ∈ (paths.take k).map (·.1) := List.mem_map.2 ⟨paths[m], List.mem_take_iff_getElem.2 ⟨m, by omega, rfl⟩, hab⟩
    rw [if_pos hmem] at heq
    obtain rfl : R = 206 := (h4n hR2 (by omega)).trans heq
    rw [hab] at hx3
    clear heq
    have hqs2 : mB8 s = mB8 s := rfl
    repeat' (first | refine h0t ?_ | refine h0e ?_ | refine h1x ?_ | refine h0x ?_ | refine h1m ?_ | refine h0o ?_ | refine h1a ?_ | refine h1e ?_ | refine h0l rfl ?_ | (refine gR 35 (p_m (h:=p_m (h:=p_e (q_b (r:=by exact h0q q_o)) (h:=h0a ?_))))) | ((refine h2s (id:=37) (m:=9) (by kernel_rfl) rfl (q_u 0 (x:=by exact q_f h3o) (h:=q_u 1 (x:=by exact q_l) (h:=q_u 2 (x:=by exact h0g rfl) (h:=q_u 3 (x:=by apply h0s; exact rfl; exact rfl; (focus (apply h2h Tryd.underlying57 sz_113; omega; omega; exact c_1))) (h:=q_u 4 (x:=by exact q_g fo_113_0) (h:=q_u 5 (x:=by apply h2b (t:=9); exact rfl; exact c_13; kernel_rfl; kernel_rfl; (with_reducible assumption)) (h:=q_u 6 (x:=by exact q_f fo_113_0) (h:=q_u 7 (x:=by exact q_l) (h:=q_u 8 (x:=by exact q_b (r:=by exact h3r)) (h:=h2e (by kernel_rfl) ?_)))))))))))) | (refine gR 38 (p_a (h:=h0a ?_))))
    (refine h0z Tryd.results9 (.tmp rfl .nil) ?_)
    exact ⟨_, ⟨rfl, rfl⟩, by intro w H; refine H.sub ?_; (try simp only [zzC, zzN]); repeat (first | exact List.Sublist.refl _ | refine List.Sublist.cons _ ?_)⟩
   ·have hne : ¬ mB8 paths[m].1 = mB8 s := fun h => hab (by have := congrArg lB h; rwa [lB_mB8, lB_mB8] at this)
    generalize hu : paths[m].1 = u at *
    clear heq
    repeat' (first | refine h0t ?_ | refine h0e ?_ | refine h1d ?_ | refine h1h ?_ | refine h0o ?_ | refine h1a ?_ | refine h0l rfl ?_ | refine h0m rfl ?_ | (refine gR 35 (p_m (h:=p_m (h:=p_e (q_b (r:=by exact h0q q_o)) (h:=h0a ?_))))) | ((refine h2s (id:=37) (m:=9) (by kernel_rfl) rfl (q_u 0 (x:=by exact q_f h3o) (h:=q_u 1 (x:=by exact q_l) (h:=q_u 2 (x:=by exact h0g rfl) (h:=q_u 3 (x:=by apply h0s; exact rfl; exact rfl; (focus (apply h2h Tryd.underlying57 sz_113; omega; omega; exact c_1))) (h:=q_u 4 (x:=by exact q_g fo_113_0) (h:=q_u 5 (x:=by apply h2b (t:=9); exact rfl; exact c_13; kernel_rfl; kernel_rfl; (with_reducible assumption)) (h:=q_u 6 (x:=by exact q_f fo_113_0) (h:=q_u 7 (x:=by exact q_l) (h:=q_u 8 (x:=by exact q_b (r:=by apply h1z; exact decide_eq_false (by assumption))) (h:=h2e (by kernel_rfl) ?_)))))))))))) | (refine gR 36 (q_m ?_) <;> (try refine q_e (q_b (r:=by apply h1q; exact c_4; (focus (refine IntWalk.i64_in _ ?_; omega)))) ?_) <;> (try refine p_a (h:=h0a ?_))))
    refine h1p (m + 1) ⟨⟨by omega, fun i hi hil => ?_⟩, by omega⟩ (by (focus (repeat (first | exact Sub.nil | refine Sub.cons rfl ?_)))) c_20
    rcases Nat.lt_or_ge i m with h | h
    ·exact hme i h hil
    ·obtain rfl : i = m := by omega
     rw [hu]; exact hab
  ·have hnm : s ∉ (paths.take k).map (·.1) := by
    intro hmem
    obtain ⟨y, hy, hys⟩ := List.mem_map.1 hmem
    obtain ⟨i, hi, rfl⟩ := List.mem_take_iff_getElem.1 hy
    exact hme i (by omega) (by omega) hys
   rw [if_neg hnm] at heq
   repeat' (first | refine h0t ?_ | refine h0e ?_ | refine h1d ?_ | refine h1w ?_ | refine h1o ?_ | refine h1h ?_ | refine h1v ?_ | refine h2j ?_ | refine h0m rfl ?_ | (refine gR 35 (p_m (h:=p_m (h:=p_e (q_b (r:=by exact h0r q_o)) (h:=h0a ?_))))) | (refine gR 28 (q_m ?_) <;> (try refine q_e (q_b (r:=by apply h1q; exact c_4; (focus (refine IntWalk.i64_in _ ?_; omega)))) ?_) <;> (try refine p_a (h:=h0a ?_))))
   exact h1p (k + 1) ⟨⟨by omega, heq⟩, by omega⟩ (by (focus (repeat (first | exact Sub.nil | refine Sub.cons rfl ?_)))) (fun _ H => H.tail)
 have hY : h2q hd paths [] = 0 := by rw [heq, List.drop_eq_nil_of_le (by omega)]; rfl
 have hR3 := chk_go hR2 hY
 clear hR2 hY heq
 repeat' (first | (refine h2g (id:=8) ?_) | refine h0t ?_ | refine h0e ?_ | refine h1w ?_ | refine h1o ?_ | refine h1v ?_ | refine h2j ?_ | refine h0m rfl ?_ | (refine gR 27 (p_m (h:=p_e (q_f h3o) (h:=p_e q_l (h:=p_e (by apply h0h; exact rfl; exact (fun _ => BigFrame.builtin_len ..); apply h0j Tryd.underlying57; exact h3d) (h:=p_e (q_b (r:=by exact h0r q_o)) (h:=h0a ?_))))))) | (refine gR 39 (p_a (h:=h0a ?_))))
 refine ⟨?_⟩
 refine h0o ?_
 refine h2i (γ:=Nat) (fun k => k ≤ ports.length ∧ h2v hd ports [] = h2v hd (ports.drop k) ((ports.take k).map (·.1))) (fun k => ports.length - k) (fun k => [(12, .int .i64 (k : Nat))]) [(1, _)]
  (fun _ => rfB n1 (mB8 nm) df (.slice ra rules.length rc) hd (.slice pa paths.length pc) (.slice qa ports.length qc) :: L) 0 (.cons rfl .nil) ⟨Nat.zero_le _, rfl⟩ (by (focus (repeat (first | exact Sub.nil | refine Sub.cons rfl ?_)))) (fun _ H => H) ?_
 clear hlt hk
 rintro k ⟨hk, heq⟩
 (try dsimp only)
 by_cases hlt : k < ports.length
 ·obtain ⟨j, q, bb, off, cs, T, fr, rfl, hj, hsz, hx⟩ := (hqs.up (rfB n1 (mB8 nm) df (.slice ra rules.length rc) hd (.slice pa paths.length pc) (.slice qa ports.length qc))).elem hlt
  rw [rqC_at _ _ hlt] at hx
  rw [chkPorts_at hd ports k hlt] at heq
  have hpk := hqr _ (List.getElem_mem hlt)
  generalize hpp : ports[k] = p at *
  obtain ⟨s, n⟩ := p
  dsimp only at *
  have hbo := fun (L : List Blk) => rbot_c (S:=S) (w0:=w0) (L:=L) hd 49152 hhd (by omega)
  have hwi := fun (L : List Blk) => rwit_c (S:=S) (w0:=w0) (L:=L) n (hd &&& 49152) hpk.2 (Nat.lt_of_le_of_lt Nat.and_le_left hhd)
  simp only [show ((49152 : Nat) : Int) = 49152 from rfl] at hbo
  rw [grant_eq] at heq
  generalize decide (n &&& (hd &&& 49152) = n) = wn at *
  generalize hd &&& 49152 = hk2 at *
  by_cases hn0 : n = 0
  ·subst hn0
   rw [show (decide ((0 : Nat) ≠ 0) && wn) = false from by rw [decide_eq_false (fun h => h rfl)]; rfl, if_pos rfl] at heq
   obtain rfl : R = 204 := hR3.trans heq
   clear heq
   repeat' (first | refine h0t ?_ | refine h0e ?_ | refine h1x ?_ | refine h0x ?_ | refine h1m ?_ | refine h0o ?_ | refine h1a ?_ | refine h1e ?_ | refine h0l rfl ?_ | (refine gR 40 (p_m (h:=p_e (q_f h3z) (h:=p_e q_l (h:=p_e (by apply h0h; exact rfl; exact (fun _ => BigFrame.builtin_len ..); apply h0j Tryd.underlying58; exact h3d) (h:=p_e (q_b (r:=by exact h0q q_o)) (h:=h0a ?_))))))) | (refine gR 42 (p_e (q_f h3z) (h:=p_e q_l (h:=p_m (h:=p_e (by apply h0s; exact rfl; exact rfl; (focus (apply h2h Tryd.underlying58 sz_116; omega; omega; exact c_1))) (h:=q_e (by apply h1r (t:=116); exact rfl; exact c_13; kernel_rfl; kernel_rfl; exact sz_116; (with_reducible assumption); (with_reducible assumption)) ?_))))) <;> (try refine h0b ?_; (refine h1b (t:=116) rfl Tryd.zeroValue116 ?_; intro nb hnb; (try simp only [Value.cells]))) <;> (try refine h0b ?_; (refine q_W ?_)) <;> (try refine h0a ?_)) | ((refine h2s (id:=43) (m:=12) (by kernel_rfl) rfl (q_u 0 (x:=by exact q_f fo_116_1) (h:=q_u 1 (x:=by exact q_l) (h:=?_)))) <;> (try refine q_u 2 (x:=by exact q_b (r:=by refine h1l ?_; first | rfl | (with_reducible assumption) | (decide; done) | omega)) (h:=?_)) <;> (try refine q_u 3 (x:=by exact h0g rfl) (h:=?_)) <;> (try apply H_take (i:=4); exact rfl; kernel_rfl; kernel_rfl; kernel_rfl; exact rfl; (exact fun _ H => H); exact Y_no rfl rfl rfl) <;> (try apply H_take (i:=5); exact rfl; kernel_rfl; kernel_rfl; kernel_rfl; exact rfl; (exact fun _ H => H); exact Y_no rfl rfl rfl) <;> (try apply H_take (i:=6); exact rfl; kernel_rfl; kernel_rfl; kernel_rfl; exact rfl; (exact fun _ H => H); exact Y_no rfl rfl rfl) <;> (try apply H_take (i:=7); exact rfl; kernel_rfl; kernel_rfl; kernel_rfl; exact rfl; (exact fun _ H => H); exact Y_no rfl rfl rfl) <;> (try refine q_r 8 ?_; (refine h0k rfl rfl rfl rfl ?_); refine h2a (fun _ H => H) ?_) <;> (try refine q_r 9 ?_; (refine h0k rfl rfl rfl rfl ?_); refine h2a (fun _ H => H) ?_) <;> (try apply H_take (i:=10); exact rfl; kernel_rfl; kernel_rfl; kernel_rfl; exact rfl; (exact fun _ H => H); exact Y_no rfl rfl rfl) <;> (try refine q_u 11 (x:=by exact h1i rfl rfl) (h:=h2e (by kernel_rfl) ?_))) | (refine gR 44 (p_a (h:=h0a ?_))))
   (refine h0z Tryd.results9 (.tmp rfl .nil) ?_)
   exact ⟨_, ⟨rfl, rfl⟩, by intro w H; refine H.sub ?_; (try simp only [zzC, zzN]); repeat (first | exact List.Sublist.refl _ | refine List.Sublist.cons _ ?_)⟩
  rw [decide_eq_true hn0, Bool.true_and] at heq
  cases wn with
  | false =>
   rw [if_pos rfl] at heq
   obtain rfl : R = 204 := hR3.trans heq
   clear heq
   repeat' (first | refine h0t ?_ | refine h0e ?_ | refine h1x ?_ | refine h0x ?_ | refine h1m ?_ | refine h0o ?_ | refine h1a ?_ | refine h1e ?_ | refine h0l rfl ?_ | (refine gR 40 (p_m (h:=p_e (q_f h3z) (h:=p_e q_l (h:=p_e (by apply h0h; exact rfl; exact (fun _ => BigFrame.builtin_len ..); apply h0j Tryd.underlying58; exact h3d) (h:=p_e (q_b (r:=by exact h0q q_o)) (h:=h0a ?_))))))) | (refine gR 42 (p_e (q_f h3z) (h:=p_e q_l (h:=p_m (h:=p_e (by apply h0s; exact rfl; exact rfl; (focus (apply h2h Tryd.underlying58 sz_116; omega; omega; exact c_1))) (h:=q_e (by apply h1r (t:=116); exact rfl; exact c_13; kernel_rfl; kernel_rfl; exact sz_116; (with_reducible assumption); (with_reducible assumption)) ?_))))) <;> (try refine h0b ?_; (refine h1b (t:=116) rfl Tryd.zeroValue116 ?_; intro nb hnb; (try simp only [Value.cells]))) <;> (try refine h0b ?_; (refine q_W ?_)) <;> (try refine h0a ?_)) | ((refine h2s (id:=43) (m:=12) (by kernel_rfl) rfl (q_u 0 (x:=by exact q_f fo_116_1) (h:=q_u 1 (x:=by exact q_l) (h:=q_u 2 (x:=by exact q_b (r:=by exact h0y q_o)) (h:=q_u 3 (x:=by exact h0g rfl) (h:=q_T 4 (e:=(fun _ H => H)) (x:=by exact q_f fo_116_1) (h:=q_T 5 (e:=(fun _ H => H)) (x:=by exact q_l) (h:=q_T 6 (e:=(fun _ H => H)) (x:=by exact q_f fo_60_3) (h:=q_T 7 (e:=(fun _ H => H)) (x:=by exact q_l) (h:=?_)))))))))) <;> (try refine q_r 8 ?_; (refine h0f rfl rfl rfl ?_; (refine q_c 31 (c:=by apply hbo) (h:=?_); rintro _ _ ⟨rfl, rfl⟩; (try simp only [zzE, zzF]))); refine h2a (fun _ H => H) ?_) <;> (try refine q_r 9 ?_; (refine h0f rfl rfl rfl ?_; (refine q_c 28 (c:=by apply hwi) (h:=?_); rintro _ _ ⟨rfl, rfl⟩; (try simp only [zzE, zzF]))); refine h2a (fun _ H => H) ?_) <;> (try refine q_T 10 (e:=(fun _ H => H)) (x:=by apply h3g; exact rfl; exact h1y) (h:=q_u 11 (x:=by exact h1i rfl rfl) (h:=h2e (by kernel_rfl) ?_)))) | (refine gR 44 (p_a (h:=h0a ?_))))
   (refine h0z Tryd.results9 (.tmp rfl .nil) ?_)
   exact ⟨_, ⟨rfl, rfl⟩, by intro w H; refine H.sub ?_; (try simp only [zzC, zzN]); repeat (first | exact List.Sublist.refl _ | refine List.Sublist.cons _ ?_)⟩
  | true =>
  rw [if_neg (fun h => by cases h)] at heq
  repeat' (first | (refine h2g (id:=10) ?_) | refine h0t ?_ | refine h0e ?_ | refine h0o ?_ | refine h1a ?_ | refine h0l rfl ?_ | refine h0m rfl ?_ | (refine gR 40 (p_m (h:=p_e (q_f h3z) (h:=p_e q_l (h:=p_e (by apply h0h; exact rfl; exact (fun _ => BigFrame.builtin_len ..); apply h0j Tryd.underlying58; exact h3d) (h:=p_e (q_b (r:=by exact h0q q_o)) (h:=h0a ?_))))))) | (refine gR 42 (p_e (q_f h3z) (h:=p_e q_l (h:=p_m (h:=p_e (by apply h0s; exact rfl; exact rfl; (focus (apply h2h Tryd.underlying58 sz_116; omega; omega; exact c_1))) (h:=q_e (by apply h1r (t:=116); exact rfl; exact c_13; kernel_rfl; kernel_rfl; exact sz_116; (with_reducible assumption); (with_reducible assumption)) ?_))))) <;> (try refine h0b ?_; (refine h1b (t:=116) rfl Tryd.zeroValue116 ?_; intro nb hnb; (try simp only [Value.cells]))) <;> (try refine h0b ?_; (refine q_W ?_)) <;> (try refine h0a ?_)) | ((refine h2s (id:=43) (m:=12) (by kernel_rfl) rfl (q_u 0 (x:=by exact q_f fo_116_1) (h:=q_u 1 (x:=by exact q_l) (h:=q_u 2 (x:=by exact q_b (r:=by exact h0y q_o)) (h:=q_u 3 (x:=by exact h0g rfl) (h:=q_T 4 (e:=(fun _ H => H)) (x:=by exact q_f fo_116_1) (h:=q_T 5 (e:=(fun _ H => H)) (x:=by exact q_l) (h:=q_T 6 (e:=(fun _ H => H)) (x:=by exact q_f fo_60_3) (h:=q_T 7 (e:=(fun _ H => H)) (x:=by exact q_l) (h:=?_)))))))))) <;> (try refine q_r 8 ?_; (refine h0f rfl rfl rfl ?_; (refine q_c 31 (c:=by apply hbo) (h:=?_); rintro _ _ ⟨rfl, rfl⟩; (try simp only [zzE, zzF]))); refine h2a (fun _ H => H) ?_) <;> (try refine q_r 9 ?_; (refine h0f rfl rfl rfl ?_; (refine q_c 28 (c:=by apply hwi) (h:=?_); rintro _ _ ⟨rfl, rfl⟩; (try simp only [zzE, zzF]))); refine h2a (fun _ H => H) ?_) <;> (try refine q_T 10 (e:=(fun _ H => H)) (x:=by apply h3g; exact rfl; exact h1f) (h:=q_u 11 (x:=by exact h1i rfl rfl) (h:=h2e (by kernel_rfl) ?_)))) | (refine gR 45 (p_a (h:=h0a ?_))))
  refine ⟨?_⟩
  obtain ⟨n13, rfl⟩ : ∃ x, x = nb := ⟨_, rfl⟩
  clear hbo hwi
  refine h0o ?_
  refine h2i (γ:=Nat) (fun m => m ≤ k ∧ ∀ i, i < m → ∀ (hi : i < ports.length), ports[i].1 ≠ s) (fun m => k - m) (fun m => [(14, .int .i64 (m : Nat))]) [(1, _), (12, _), (13, _)]
   (fun _ => ⟨true, n13, .cells #[.int .i64 (s : Nat), .int .i64 (n : Nat)] 116 (0, 0)⟩ :: rfB n1 (mB8 nm) df (.slice ra rules.length rc) hd (.slice pa paths.length pc) (.slice (some ⟨bb, off, none⟩) ports.length qc) :: L) 0 (.cons rfl (.cons rfl (.cons rfl .nil))) ⟨Nat.zero_le _, (fun i h => by omega)⟩ (by (focus (repeat (first | exact Sub.nil | refine Sub.cons rfl ?_)))) (fun _ H => H) ?_
  rintro m ⟨hm, hme⟩
  (try dsimp only)
  by_cases hlm : m < k
  ·obtain ⟨j2, q2, bb2, off2, cs2, T2, fr2, e2, hj2, hsz2, hx2⟩ := ((hqs.up (rfB n1 (mB8 nm) df (.slice ra rules.length rc) hd (.slice pa paths.length pc) (.slice (some ⟨bb, off, none⟩) ports.length qc))).up (⟨true, n13, .cells #[.int .i64 (s : Nat), .int .i64 (n : Nat)] 116 (0, 0)⟩ : Blk)).elem (k:=m) (by omega)
   obtain ⟨rfl, rfl⟩ : bb = bb2 ∧ off = off2 := by injection e2 with e2; injection e2 with e2 e3; exact ⟨e2, e3⟩
   rw [rqC_at _ _ (by omega)] at hx2
   have hx3 := take2_0 hx2
   clear hx2
   by_cases hab : ports[m].1 = s
   ·have hmem : s ∈ (ports.take k).map (·.1) := List.mem_map.2 ⟨ports[m], List.mem_take_iff_getElem.2 ⟨m, by omega, rfl⟩, hab⟩
    rw [if_pos hmem] at heq
    obtain rfl : R = 206 := hR3.trans heq
    rw [hab] at hx3
    clear heq
    repeat' (first | refine h0t ?_ | refine h0e ?_ | refine h1x ?_ | refine h0x ?_ | refine h1m ?_ | refine h0o ?_ | refine h1a ?_ | refine h1e ?_ | refine h0l rfl ?_ | (refine gR 46 (p_m (h:=p_m (h:=p_e (q_b (r:=by exact h0q q_o)) (h:=h0a ?_))))) | ((refine h2s (id:=48) (m:=9) (by kernel_rfl) rfl (q_u 0 (x:=by exact q_f h3z) (h:=q_u 1 (x:=by exact q_l) (h:=q_u 2 (x:=by exact h0g rfl) (h:=q_u 3 (x:=by apply h0s; exact rfl; exact rfl; (focus (apply h2h Tryd.underlying58 sz_116; omega; omega; exact c_1))) (h:=q_u 4 (x:=by exact q_g fo_116_0) (h:=q_u 5 (x:=by apply h2b (t:=3); exact rfl; exact c_13; kernel_rfl; kernel_rfl; (with_reducible assumption)) (h:=q_u 6 (x:=by exact q_f fo_116_0) (h:=q_u 7 (x:=by exact q_l) (h:=?_)))))))))) <;> (try refine q_u 8 (x:=by exact q_b (r:=by refine h1l ?_; first | rfl | (with_reducible assumption) | (decide; done) | omega)) (h:=?_)) <;> (try refine h2e (by kernel_rfl) ?_)) | (refine gR 49 (p_a (h:=h0a ?_))))
    (refine h0z Tryd.results9 (.tmp rfl .nil) ?_)
    exact ⟨_, ⟨rfl, rfl⟩, by intro w H; refine H.sub ?_; (try simp only [zzC, zzN]); repeat (first | exact List.Sublist.refl _ | refine List.Sublist.cons _ ?_)⟩
   ·generalize hu : ports[m].1 = u at *
    have hne : ¬ (u : Int) = (s : Int) := by omega
    clear heq
    repeat' (first | refine h0t ?_ | refine h0e ?_ | refine h1d ?_ | refine h1h ?_ | refine h0o ?_ | refine h1a ?_ | refine h0l rfl ?_ | refine h0m rfl ?_ | (refine gR 46 (p_m (h:=p_m (h:=p_e (q_b (r:=by exact h0q q_o)) (h:=h0a ?_))))) | ((refine h2s (id:=48) (m:=9) (by kernel_rfl) rfl (q_u 0 (x:=by exact q_f h3z) (h:=q_u 1 (x:=by exact q_l) (h:=q_u 2 (x:=by exact h0g rfl) (h:=q_u 3 (x:=by apply h0s; exact rfl; exact rfl; (focus (apply h2h Tryd.underlying58 sz_116; omega; omega; exact c_1))) (h:=q_u 4 (x:=by exact q_g fo_116_0) (h:=q_u 5 (x:=by apply h2b (t:=3); exact rfl; exact c_13; kernel_rfl; kernel_rfl; (with_reducible assumption)) (h:=q_u 6 (x:=by exact q_f fo_116_0) (h:=q_u 7 (x:=by exact q_l) (h:=q_u 8 (x:=by exact q_b (r:=by exact h0y q_o)) (h:=h2e (by kernel_rfl) ?_)))))))))))) | (refine gR 47 (q_m ?_) <;> (try refine q_e (q_b (r:=by apply h1q; exact c_4; (focus (refine IntWalk.i64_in _ ?_; omega)))) ?_) <;> (try refine p_a (h:=h0a ?_))))
    refine h1p (m + 1) ⟨⟨by omega, fun i hi hil => ?_⟩, by omega⟩ (by (focus (repeat (first | exact Sub.nil | refine Sub.cons rfl ?_)))) c_20
    rcases Nat.lt_or_ge i m with h | h
    ·exact hme i h hil
    ·obtain rfl : i = m := by omega
     rw [hu]; exact hab
  ·have hnm : s ∉ (ports.take k).map (·.1) := by
    intro hmem
    obtain ⟨y, hy, hys⟩ := List.mem_map.1 hmem
    obtain ⟨i, hi, rfl⟩ := List.mem_take_iff_getElem.1 hy
    exact hme i (by omega) (by omega) hys
   rw [if_neg hnm] at heq
   repeat' (first | refine h0t ?_ | refine h0e ?_ | refine h1d ?_ | refine h1w ?_ | refine h1o ?_ | refine h1h ?_ | refine h1v ?_ | refine h2j ?_ | refine h0m rfl ?_ | (refine gR 46 (p_m (h:=p_m (h:=p_e (q_b (r:=by exact h0r q_o)) (h:=h0a ?_))))) | (refine gR 41 (q_m ?_) <;> (try refine q_e (q_b (r:=by apply h1q; exact c_4; (focus (refine IntWalk.i64_in _ ?_; omega)))) ?_) <;> (try refine p_a (h:=h0a ?_))))
   exact h1p (k + 1) ⟨⟨by omega, heq⟩, by omega⟩ (by (focus (repeat (first | exact Sub.nil | refine Sub.cons rfl ?_)))) (fun _ H => H.tail)
 have hZ : h2v hd ports [] = 0 := by rw [heq, List.drop_eq_nil_of_le (by omega)]; rfl
 obtain rfl : R = 0 := hR3.trans hZ
 clear heq
 repeat' (first | refine h0t ?_ | refine h0e ?_ | refine h1w ?_ | refine h1o ?_ | refine h1v ?_ | refine h2j ?_ | refine h1e ?_ | refine h0m rfl ?_ | (refine gR 40 (p_m (h:=p_e (q_f h3z) (h:=p_e q_l (h:=p_e (by apply h0h; exact rfl; exact (fun _ => BigFrame.builtin_len ..); apply h0j Tryd.underlying58; exact h3d) (h:=p_e (q_b (r:=by exact h0r q_o)) (h:=h0a ?_))))))) | (refine gR 50 (p_a (h:=h0a ?_))))
 (refine h0z Tryd.results9 (.tmp rfl .nil) ?_)
 exact ⟨_, ⟨rfl, rfl⟩, by intro w H; refine H.sub ?_; (try simp only [zzC, zzN]); repeat (first | exact List.Sublist.refl _ | refine List.Sublist.cons _ ?_)⟩
section
variable {P : Program} {n : Nat} {l : List (Nat × Value)} {S : List Nat} {w0 : World} {L : List Blk} {K : Act → World → Prop} {k : Kont} {ops : Array Oper} {d : Tmp} {ty : TypeId} {pos : String} {af : Array Edge}
theorem K1_appendSl {E size bytes : Nat} {t tt : TypeId} {inf : TypeInfo} {z : Value} {s y : Operand} {v : Value} {m : Nat} {xs : List Value} {e L0 : List Blk} {ya : Option Addr} {cnt cap : Nat} {news : List Value}
  (hd : Nat.blt d n = true) (ht : P.underlying t = some (.slice E)) (hi : P.info? E = some inf) (hz : inf.zero = some z) (hsize : inf.size = size) (hby : inf.bytes = bytes) (hzs : z.cells.size = size)
  (hs : ev l s = some v) (hy : ev l y = some (.slice ya cnt cap)) (hown : Own E size v m xs e) (hsl : Sli L ya cnt size news)
  (hone : news.all (·.oneCell') = true) (h63 : m + cnt ≤ maxLen) (hbytes : (m + cnt) * bytes ≤ 140737488355328) (hL : ∀ w, HP S w0 w L → HP S w0 w (e ++ L0)) (htt : tt = t) {mm : Nat} {xn : List Value} (hmm : m + cnt = mm) (hxn : xs ++ news = xn)
  (h : ∀ v' e', Own E size v' mm xn e' → G n ((d, v') :: l) S w0 (e' ++ L0) K) :
  G n l S w0 L (K1 P ops k ⟨some d, .call { callee := .builtin .append, args := #[s, y], argTypes := #[t, tt] }, ty, pos, af, none⟩ K) := by
 by_cases h0 : cnt = 0
 ·subst h0 htt hmm hxn
  have hn : news = [] := List.eq_nil_of_length_eq_zero (by rw [hsl.1, Nat.zero_mul])
  subst hn
  have hv : ∃ sa cp, v = .slice sa m cp ∧ m ≤ cp := by
   rcases hown.2 with ⟨rfl, rfl, _⟩ | ⟨g, c, cur, rfl, _, h1, _⟩
   ·exact ⟨none, 0, rfl, Nat.le_refl _⟩
   ·exact ⟨_, c, rfl, h1⟩
  obtain ⟨sa, cp, rfl, hle⟩ := hv
  have h2 := h (.slice sa m cp) e (by rw [Nat.add_zero, List.append_nil]; exact hown)
  exact K1_append0 hd ht hi hs hy hle rfl (h3i hL h2)
 ·rcases hsl.2 with h1 | ⟨i, q, b, off, cs, T, fr, rfl, hb, hle, hnews⟩
  ·exact absurd h1 h0
  ·exact h2k hd ht hi hz hsize hby hzs hs hy hown hb hle hnews hone h63 hbytes hL htt hmm hxn h
end
end Go.Proofs.YtecbgehooembmaaDoor
