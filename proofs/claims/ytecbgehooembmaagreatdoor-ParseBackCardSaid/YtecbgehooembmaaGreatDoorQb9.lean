/- Part 9 of what the last text of this claim leans on: rules of walks, contracts, plain facts. Conditions: those of each statement. -/
import Derived.Test.YtecbgehooembmaaGreatDoorQb8
set_option maxRecDepth 100000
namespace Go.Proofs.YtecbgehooembmaaGreatDoor
open Go Go.RowKit
set_option maxHeartbeats 2000000 in
theorem check_c {S w0 L} (P : GPol) (h : P.ok) (vr vp vq : Value) (hS : PolS L P vr vp vq) (hr : P.rules.length ≤ 1000) (ct m1 m2 n : Nat) (hn : n ≤ 90000) :
  Fn Tryz.prog 17 #[.agg (polG P vr vp vq).toArray, .pointer (some ⟨ct, 0, none⟩)] S w0 (tbS ct m1 m2 n ++ L) fun v L' => ∃ m1' m2' n', v = .int .i64 (chkG P : Nat) ∧ n' ≤ n + P.rules.length ∧ tbS ct m1' m2' n' ++ L = L' := by
 obtain ⟨⟨ra, rc, cz, e1, hrs, hrg⟩, ⟨pa, pc, e2, hps⟩, ⟨qa, qc, e3, hqs⟩, -, hl2, hl3⟩ := hS
 subst e1 e2 e3
 have hwo := fun (L : List Blk) => Wd.word_c (S:=S) (w0:=w0) (L:=L) (mB8 P.nm) (by rw [h2d]; exact h.nm)
 have hac := fun (L : List Blk) => actok_c (S:=S) (w0:=w0) (L:=L) P.df h.df
 have hva := fun (L : List Blk) => Rg.valid_c (S:=S) (w0:=w0) (L:=L) P.hd h.hd
 have hpa := fun (L : List Blk) hs => paths_c (S:=S) (w0:=w0) (L:=L) (mB8 P.nm) P.df P.hd h.hd ra pa qa P.rules.length rc P.paths.length pc P.ports.length qc P.paths h.paths hl2 rfl hs
 have hpo := fun (L : List Blk) hs => ports_c (S:=S) (w0:=w0) (L:=L) (mB8 P.nm) P.df P.hd h.hd ra pa qa P.rules.length rc P.paths.length pc P.ports.length qc P.ports h.ports hl3 rfl hs
 have hru := h.rules
 have hG : chkG P = if Wd.wordF (mB8 P.nm) = false then 202 else if h6d P.df = false then 210 else if 64 < P.rules.length ∨ 32 < P.paths.length ∨ 32 < P.ports.length then 205 else if decide (h4u (P.hd : Int) 51199 = 0) = false then 204 else if h5q (P.rules.map chkR) ≠ 0 then h5q (P.rules.map chkR) else if h4s P.hd P.paths [] ≠ 0 then h4s P.hd P.paths [] else h5g P.hd P.ports [] := by
  unfold chkG
  by_cases hx : h4u (P.hd : Int) 51199 = 0 <;> simp [hx]
 rw [hG]
 clear hG h
 obtain ⟨nm, df, rules, hd, paths, ports⟩ := P
 dsimp only [polG] at *
 generalize Wd.wordF (mB8 nm) = wf at *
 generalize h6d df = ak at *
 generalize decide (h4u (hd : Int) 51199 = 0) = vf at *
 unfold maxLen at hl2 hl3
 cases wf with
 | false =>
  rw [if_pos rfl]
  clear hpa hpo
  refine Fn2 Tryz.func17 Tryz.ntmps17 rfl rfl ?_
  repeat' (first | refine h0i ?_ | refine h0b ?_ | refine h0t ?_ | refine h1k ?_ | refine h0j ?_ | refine h0v ?_ | refine h0g rfl ?_ | refine h0f rfl ?_ | (refine gR 0 ?_ <;> (try refine h0c ?_; (refine h2n (t:=36) rfl rfl ?_; intro nb hnb; (try simp only [Value.cells]))) <;> (try refine p_a (h:=h0a ?_))) | (refine gR 1 (p_m (h:=p_e (q_b (r:=by exact h3x Tryz.underlying41)) (h:=p_a (h:=h0a ?_))))) | (refine gR 3 (p_e (q_f h6b) (h:=q_e q_l ?_)) <;> (try refine h0c ?_; (refine q_c 39 (c:=by apply hwo) (h:=?_); rintro _ _ ⟨rfl, rfl⟩; (try simp only [zzE, zzF]))) <;> (try refine p_e (by apply h5m; exact rfl; exact h3o) (h:=p_a (h:=h0a ?_)))) | (refine gR 4 (p_a (h:=h0a ?_))))
  (refine h0o Tryz.results17 (.tmp rfl .nil) ?_)
  exact ⟨_, ⟨m1, m2, n, rfl, by omega, rfl⟩, fun _ H => H.tail⟩
 | true =>
 rw [if_neg (fun h => by cases h)]
 cases ak with
 | false =>
  rw [if_pos rfl]
  clear hpa hpo
  refine Fn2 Tryz.func17 Tryz.ntmps17 rfl rfl ?_
  repeat' (first | refine h0i ?_ | refine h0b ?_ | refine h0t ?_ | refine h1k ?_ | refine h0j ?_ | refine h0v ?_ | refine h0g rfl ?_ | refine h0f rfl ?_ | (refine gR 0 ?_ <;> (try refine h0c ?_; (refine h2n (t:=36) rfl rfl ?_; intro nb hnb; (try simp only [Value.cells]))) <;> (try refine p_a (h:=h0a ?_))) | (refine gR 1 (p_m (h:=p_e (q_b (r:=by exact h3x Tryz.underlying41)) (h:=p_a (h:=h0a ?_))))) | (refine gR 3 (p_e (q_f h6b) (h:=q_e q_l ?_)) <;> (try refine h0c ?_; (refine q_c 39 (c:=by apply hwo) (h:=?_); rintro _ _ ⟨rfl, rfl⟩; (try simp only [zzE, zzF]))) <;> (try refine p_e (by apply h5m; exact rfl; exact h1r) (h:=p_a (h:=h0a ?_)))) | (refine gR 5 (p_e (q_f fo_36_1) (h:=q_e q_l ?_)) <;> (try refine h0c ?_; (refine q_c 40 (c:=by apply hac) (h:=?_); rintro _ _ ⟨rfl, rfl⟩; (try simp only [zzE, zzF]))) <;> (try refine p_e (by apply h5m; exact rfl; exact h3o) (h:=p_a (h:=h0a ?_)))) | (refine gR 6 (p_a (h:=h0a ?_))))
  (refine h0o Tryz.results17 (.tmp rfl .nil) ?_)
  exact ⟨_, ⟨m1, m2, n, rfl, by omega, rfl⟩, fun _ H => H.tail⟩
 | true =>
 rw [if_neg (fun h => by cases h)]
 by_cases hb : 64 < rules.length ∨ 32 < paths.length ∨ 32 < ports.length
 ·rw [if_pos hb]
  clear hpa hpo
  by_cases b1 : 64 < rules.length
  ·refine Fn2 Tryz.func17 Tryz.ntmps17 rfl rfl ?_
   repeat' (first | refine h0i ?_ | refine h0b ?_ | refine h0t ?_ | refine h1k ?_ | refine h0j ?_ | refine h0v ?_ | refine h0g rfl ?_ | refine h0f rfl ?_ | (refine gR 0 ?_ <;> (try refine h0c ?_; (refine h2n (t:=36) rfl rfl ?_; intro nb hnb; (try simp only [Value.cells]))) <;> (try refine p_a (h:=h0a ?_))) | (refine gR 1 (p_m (h:=p_e (q_b (r:=by exact h3x Tryz.underlying41)) (h:=p_a (h:=h0a ?_))))) | (refine gR 3 (p_e (q_f h6b) (h:=q_e q_l ?_)) <;> (try refine h0c ?_; (refine q_c 39 (c:=by apply hwo) (h:=?_); rintro _ _ ⟨rfl, rfl⟩; (try simp only [zzE, zzF]))) <;> (try refine p_e (by apply h5m; exact rfl; exact h1r) (h:=p_a (h:=h0a ?_)))) | (refine gR 5 (p_e (q_f fo_36_1) (h:=q_e q_l ?_)) <;> (try refine h0c ?_; (refine q_c 40 (c:=by apply hac) (h:=?_); rintro _ _ ⟨rfl, rfl⟩; (try simp only [zzE, zzF]))) <;> (try refine p_e (by apply h5m; exact rfl; exact h1r) (h:=p_a (h:=h0a ?_)))) | (refine gR 7 (p_e (q_f h2t) (h:=p_e q_l (h:=p_e (by apply h0e; exact rfl; exact (fun _ => BigFrame.builtin_len ..); apply h0d Tryz.underlying30; exact h3m) (h:=p_e (q_b (r:=by exact h1x q_o)) (h:=p_m (h:=p_z (h:=p_z (h:=p_z (h:=p_z (h:=p_p (h:=p_m (h:=p_z (h:=p_z (h:=p_z (h:=p_z (h:=p_p (h:=p_a (h:=h0a ?_))))))))))))))))))) | (refine gR 8 (p_a (h:=h0a ?_))))
   (refine h0o Tryz.results17 (.tmp rfl .nil) ?_)
   exact ⟨_, ⟨m1, m2, n, rfl, by omega, rfl⟩, fun _ H => H.tail⟩
  by_cases b2 : 32 < paths.length
  ·refine Fn2 Tryz.func17 Tryz.ntmps17 rfl rfl ?_
   repeat' (first | refine h0i ?_ | refine h0b ?_ | refine h0t ?_ | refine h1k ?_ | refine h0j ?_ | refine h0v ?_ | refine h0g rfl ?_ | refine h0f rfl ?_ | (refine gR 0 ?_ <;> (try refine h0c ?_; (refine h2n (t:=36) rfl rfl ?_; intro nb hnb; (try simp only [Value.cells]))) <;> (try refine p_a (h:=h0a ?_))) | (refine gR 1 (p_m (h:=p_e (q_b (r:=by exact h3x Tryz.underlying41)) (h:=p_a (h:=h0a ?_))))) | (refine gR 3 (p_e (q_f h6b) (h:=q_e q_l ?_)) <;> (try refine h0c ?_; (refine q_c 39 (c:=by apply hwo) (h:=?_); rintro _ _ ⟨rfl, rfl⟩; (try simp only [zzE, zzF]))) <;> (try refine p_e (by apply h5m; exact rfl; exact h1r) (h:=p_a (h:=h0a ?_)))) | (refine gR 5 (p_e (q_f fo_36_1) (h:=q_e q_l ?_)) <;> (try refine h0c ?_; (refine q_c 40 (c:=by apply hac) (h:=?_); rintro _ _ ⟨rfl, rfl⟩; (try simp only [zzE, zzF]))) <;> (try refine p_e (by apply h5m; exact rfl; exact h1r) (h:=p_a (h:=h0a ?_)))) | (refine gR 7 (p_e (q_f h2t) (h:=p_e q_l (h:=p_e (by apply h0e; exact rfl; exact (fun _ => BigFrame.builtin_len ..); apply h0d Tryz.underlying30; exact h3m) (h:=p_e (q_b (r:=by exact h1h q_o)) (h:=p_m (h:=p_y (q_f h3h) (h:=p_y q_l (h:=p_y (by apply h0e; exact rfl; exact (fun _ => BigFrame.builtin_len ..); apply h0d Tryz.underlying33; exact h3m) (h:=p_y (q_b (r:=by exact h1x q_o)) (h:=p_p (h:=p_m (h:=p_z (h:=p_z (h:=p_z (h:=p_z (h:=p_p (h:=p_a (h:=h0a ?_))))))))))))))))))) | (refine gR 8 (p_a (h:=h0a ?_))))
   (refine h0o Tryz.results17 (.tmp rfl .nil) ?_)
   exact ⟨_, ⟨m1, m2, n, rfl, by omega, rfl⟩, fun _ H => H.tail⟩
  ·have b3 : 32 < ports.length := by omega
   refine Fn2 Tryz.func17 Tryz.ntmps17 rfl rfl ?_
   repeat' (first | refine h0i ?_ | refine h0b ?_ | refine h0t ?_ | refine h1k ?_ | refine h0j ?_ | refine h0v ?_ | refine h0g rfl ?_ | refine h0f rfl ?_ | (refine gR 0 ?_ <;> (try refine h0c ?_; (refine h2n (t:=36) rfl rfl ?_; intro nb hnb; (try simp only [Value.cells]))) <;> (try refine p_a (h:=h0a ?_))) | (refine gR 1 (p_m (h:=p_e (q_b (r:=by exact h3x Tryz.underlying41)) (h:=p_a (h:=h0a ?_))))) | (refine gR 3 (p_e (q_f h6b) (h:=q_e q_l ?_)) <;> (try refine h0c ?_; (refine q_c 39 (c:=by apply hwo) (h:=?_); rintro _ _ ⟨rfl, rfl⟩; (try simp only [zzE, zzF]))) <;> (try refine p_e (by apply h5m; exact rfl; exact h1r) (h:=p_a (h:=h0a ?_)))) | (refine gR 5 (p_e (q_f fo_36_1) (h:=q_e q_l ?_)) <;> (try refine h0c ?_; (refine q_c 40 (c:=by apply hac) (h:=?_); rintro _ _ ⟨rfl, rfl⟩; (try simp only [zzE, zzF]))) <;> (try refine p_e (by apply h5m; exact rfl; exact h1r) (h:=p_a (h:=h0a ?_)))) | (refine gR 7 (p_e (q_f h2t) (h:=p_e q_l (h:=p_e (by apply h0e; exact rfl; exact (fun _ => BigFrame.builtin_len ..); apply h0d Tryz.underlying30; exact h3m) (h:=p_e (q_b (r:=by exact h1h q_o)) (h:=p_m (h:=p_y (q_f h3h) (h:=p_y q_l (h:=p_y (by apply h0e; exact rfl; exact (fun _ => BigFrame.builtin_len ..); apply h0d Tryz.underlying33; exact h3m) (h:=p_y (q_b (r:=by exact h1h q_o)) (h:=p_p (h:=p_m (h:=p_y (q_f h3p) (h:=p_y q_l (h:=p_y (by apply h0e; exact rfl; exact (fun _ => BigFrame.builtin_len ..); apply h0d Tryz.underlying34; exact h3m) (h:=p_y (q_b (r:=by exact h1x q_o)) (h:=p_p (h:=p_a (h:=h0a ?_))))))))))))))))))) | (refine gR 8 (p_a (h:=h0a ?_))))
   (refine h0o Tryz.results17 (.tmp rfl .nil) ?_)
   exact ⟨_, ⟨m1, m2, n, rfl, by omega, rfl⟩, fun _ H => H.tail⟩
 rw [if_neg hb]
 have b1 : ¬ 64 < rules.length := fun h => hb (Or.inl h)
 have b2 : ¬ 32 < paths.length := fun h => hb (Or.inr (Or.inl h))
 have b3 : ¬ 32 < ports.length := fun h => hb (Or.inr (Or.inr h))
 clear hb
 cases vf with
 | false =>
  rw [if_pos rfl]
  clear hpa hpo
  refine Fn2 Tryz.func17 Tryz.ntmps17 rfl rfl ?_
  repeat' (first | refine h0i ?_ | refine h0b ?_ | refine h0t ?_ | refine h1k ?_ | refine h0j ?_ | refine h0v ?_ | refine h0g rfl ?_ | refine h0f rfl ?_ | (refine gR 0 ?_ <;> (try refine h0c ?_; (refine h2n (t:=36) rfl rfl ?_; intro nb hnb; (try simp only [Value.cells]))) <;> (try refine p_a (h:=h0a ?_))) | (refine gR 1 (p_m (h:=p_e (q_b (r:=by exact h3x Tryz.underlying41)) (h:=p_a (h:=h0a ?_))))) | (refine gR 3 (p_e (q_f h6b) (h:=q_e q_l ?_)) <;> (try refine h0c ?_; (refine q_c 39 (c:=by apply hwo) (h:=?_); rintro _ _ ⟨rfl, rfl⟩; (try simp only [zzE, zzF]))) <;> (try refine p_e (by apply h5m; exact rfl; exact h1r) (h:=p_a (h:=h0a ?_)))) | (refine gR 5 (p_e (q_f fo_36_1) (h:=q_e q_l ?_)) <;> (try refine h0c ?_; (refine q_c 40 (c:=by apply hac) (h:=?_); rintro _ _ ⟨rfl, rfl⟩; (try simp only [zzE, zzF]))) <;> (try refine p_e (by apply h5m; exact rfl; exact h1r) (h:=p_a (h:=h0a ?_)))) | (refine gR 7 (p_e (q_f h2t) (h:=p_e q_l (h:=p_e (by apply h0e; exact rfl; exact (fun _ => BigFrame.builtin_len ..); apply h0d Tryz.underlying30; exact h3m) (h:=p_e (q_b (r:=by exact h1h q_o)) (h:=p_m (h:=p_y (q_f h3h) (h:=p_y q_l (h:=p_y (by apply h0e; exact rfl; exact (fun _ => BigFrame.builtin_len ..); apply h0d Tryz.underlying33; exact h3m) (h:=p_y (q_b (r:=by exact h1h q_o)) (h:=p_p (h:=p_m (h:=p_y (q_f h3p) (h:=p_y q_l (h:=p_y (by apply h0e; exact rfl; exact (fun _ => BigFrame.builtin_len ..); apply h0d Tryz.underlying34; exact h3m) (h:=p_y (q_b (r:=by exact h1h q_o)) (h:=p_p (h:=p_a (h:=h0a ?_))))))))))))))))))) | (refine gR 9 (p_e (q_f h5l) (h:=q_e q_l ?_)) <;> (try refine h0c ?_; (refine q_c 41 (c:=by apply hva) (h:=?_); rintro _ _ ⟨rfl, rfl⟩; (try simp only [zzE, zzF]))) <;> (try refine p_e (by apply h5m; exact rfl; exact h3o) (h:=p_a (h:=h0a ?_)))) | (refine gR 10 (p_a (h:=h0a ?_))))
  (refine h0o Tryz.results17 (.tmp rfl .nil) ?_)
  exact ⟨_, ⟨m1, m2, n, rfl, by omega, rfl⟩, fun _ H => H.tail⟩
 | true =>
 rw [if_neg (fun h => by cases h)]
 refine Fn2 Tryz.func17 Tryz.ntmps17 rfl rfl ?_
 repeat' (first | (refine h2h (id:=1) ?_) | refine h0i ?_ | refine h0b ?_ | refine h0x ?_ | refine h0j ?_ | refine h0r ?_ | refine h0f rfl ?_ | (refine gR 0 ?_ <;> (try refine h0c ?_; (refine h2n (t:=36) rfl rfl ?_; intro nb hnb; (try simp only [Value.cells]))) <;> (try refine p_a (h:=h0a ?_))) | (refine gR 1 (p_m (h:=p_e (q_b (r:=by exact h3x Tryz.underlying41)) (h:=p_a (h:=h0a ?_))))) | (refine gR 3 (p_e (q_f h6b) (h:=q_e q_l ?_)) <;> (try refine h0c ?_; (refine q_c 39 (c:=by apply hwo) (h:=?_); rintro _ _ ⟨rfl, rfl⟩; (try simp only [zzE, zzF]))) <;> (try refine p_e (by apply h5m; exact rfl; exact h1r) (h:=p_a (h:=h0a ?_)))) | (refine gR 5 (p_e (q_f fo_36_1) (h:=q_e q_l ?_)) <;> (try refine h0c ?_; (refine q_c 40 (c:=by apply hac) (h:=?_); rintro _ _ ⟨rfl, rfl⟩; (try simp only [zzE, zzF]))) <;> (try refine p_e (by apply h5m; exact rfl; exact h1r) (h:=p_a (h:=h0a ?_)))) | (refine gR 7 (p_e (q_f h2t) (h:=p_e q_l (h:=p_e (by apply h0e; exact rfl; exact (fun _ => BigFrame.builtin_len ..); apply h0d Tryz.underlying30; exact h3m) (h:=p_e (q_b (r:=by exact h1h q_o)) (h:=p_m (h:=p_y (q_f h3h) (h:=p_y q_l (h:=p_y (by apply h0e; exact rfl; exact (fun _ => BigFrame.builtin_len ..); apply h0d Tryz.underlying33; exact h3m) (h:=p_y (q_b (r:=by exact h1h q_o)) (h:=p_p (h:=p_m (h:=p_y (q_f h3p) (h:=p_y q_l (h:=p_y (by apply h0e; exact rfl; exact (fun _ => BigFrame.builtin_len ..); apply h0d Tryz.underlying34; exact h3m) (h:=p_y (q_b (r:=by exact h1h q_o)) (h:=p_p (h:=p_a (h:=h0a ?_))))))))))))))))))) | (refine gR 9 (p_e (q_f h5l) (h:=q_e q_l ?_)) <;> (try refine h0c ?_; (refine q_c 41 (c:=by apply hva) (h:=?_); rintro _ _ ⟨rfl, rfl⟩; (try simp only [zzE, zzF]))) <;> (try refine p_e (by apply h5m; exact rfl; exact h1r) (h:=p_a (h:=h0a ?_)))) | (refine gR 11 (p_e (q_f h2t) (h:=p_e q_l (h:=p_e (by apply h0e; exact rfl; exact (fun _ => BigFrame.builtin_len ..); apply h0d Tryz.underlying30; exact h3m) (h:=p_m (h:=h0a ?_)))))))
 refine ⟨?_⟩
 clear hwo hac hva
 obtain ⟨n2, rfl⟩ : ∃ x, x = nb := ⟨_, rfl⟩
 refine h2q (γ:=Nat × Nat) (fun _ => h5q (rules.map chkR) = 0) (fun _ => []) [(2, _)] (fun g => ⟨true, n2, .cells #[.string (mB8 nm), .int .u32 df, .slice ra rules.length rc, .int .u16 (hd : Nat), .slice pa paths.length pc, .slice qa ports.length qc] 36 (0, 0)⟩ :: (tbS ct g.1 g.2 (n + rules.length) ++ L)) (.cons rfl .nil) ?_ ?_
 ·refine h0j ?_
  clear hpa hpo
  refine h2i (γ:=Nat × Nat × Nat) (fun g => g.1 ≤ rules.length ∧ h5q (rules.map chkR) = h5q ((rules.map chkR).drop g.1)) (fun g => rules.length - g.1) (fun g => [(47, .int .i64 (g.1 : Nat))]) [(1, _), (2, _), (45, _), (46, _)]
   (fun g => ⟨true, n2, .cells #[.string (mB8 nm), .int .u32 df, .slice ra rules.length rc, .int .u16 (hd : Nat), .slice pa paths.length pc, .slice qa ports.length qc] 36 (0, 0)⟩ :: (tbS ct g.2.1 g.2.2 (n + g.1) ++ L)) (0, m1, m2) (.cons rfl (.cons rfl (.cons rfl (.cons rfl .nil)))) ⟨Nat.zero_le _, by rw [List.drop_zero]⟩ (by (focus (repeat (first | exact Sub.nil | refine Sub.cons rfl ?_)))) (fun _ H => H) ?_
  rintro ⟨k, k1, k2⟩ ⟨hk, heq⟩
  dsimp only at hk heq
  simp only [List.cons_append, List.nil_append]
  by_cases hlt : k < rules.length
  ·obtain ⟨j, q, bb, off, cs, T, fr, rfl, hj, hsz, hx⟩ := (hrs.upA (tbS ct k1 k2 (n + k))).elem hlt
   obtain ⟨v, hv, hcs⟩ := hrg.at_ k hlt
   rw [hv] at hx
   obtain ⟨ca, cc, hcv, -⟩ := id hcs
   subst hcv
   have hrc := fun (x y : Blk) => rulechk_c (S:=S) (w0:=w0) [x, y] L rules[k] (hru _ (List.getElem_mem hlt)) _ (hcs.upA [x, y]) ct k1 k2 (n + k) (by omega)
   rw [firstE_drop (by rw [List.length_map]; exact hlt), List.getElem_map] at heq
   generalize chkR rules[k] = ck at *
   generalize rules[k] = r at *
   obtain ⟨num, act, conds⟩ := r
   dsimp only [List.cons_append, List.nil_append] at *
   clear hv hcs
   by_cases hc : ck = 0
   ·rw [if_neg (fun h => h hc)] at heq
    subst hc
    repeat' (first | refine h0i ?_ | refine h0b ?_ | refine h0s ?_ | refine h0x ?_ | refine h0j ?_ | refine h0r ?_ | refine h0g rfl ?_ | refine h0f rfl ?_ | (refine gR 12 (p_e (q_b (r:=by exact h0u q_o)) (h:=h0a ?_))) | (refine gR 13 (p_e (by apply h0n; exact rfl; exact rfl; (focus (apply h2j Tryz.underlying30 sz_73; omega; omega; exact c_1))) (h:=q_e (by apply h1u (t:=73); exact rfl; exact c_19; kernel_rfl; kernel_rfl; exact sz_73; (with_reducible assumption); (with_reducible assumption)) ?_)) <;> (try refine h0c ?_; (refine h0k (t:=73) rfl Tryz.zeroValue73 ?_; intro nb hnb; (try simp only [Value.cells]))) <;> (try refine h0c ?_; (refine q_W ?_)) <;> (try refine h0a ?_)) | (refine gR 14 (p_e (q_L sz_73) (h:=q_m ?_)) <;> (try refine h0c ?_; (refine q_c 42 (c:=by apply hrc) (h:=?_); rintro _ _ ⟨j1, j2, rfl, rfl⟩; (try simp only [zzE, zzF]))) <;> (try refine p_a (h:=h0a ?_))) | (refine gR 15 (q_m ?_) <;> (try refine q_e (by exact q_b (r:=by refine h1w ?_; first | rfl | (with_reducible assumption) | (decide; done) | omega)) ?_) <;> (try refine h0a ?_)) | (refine gR 17 ?_ <;> (try refine q_e (q_b (r:=by apply h1n; exact c_5; (focus (refine IntWalk.i64_in _ ?_; omega)))) ?_) <;> (try refine p_m (h:=h0a ?_))))
    exact h0w (k + 1, j1, j2) ⟨⟨by show k + 1 ≤ rules.length; omega, heq⟩, by show rules.length - (k + 1) < rules.length - k; omega⟩ (by (focus (repeat (first | exact Sub.nil | refine Sub.cons rfl ?_)))) (fun _ H => H.tail)
   ·rw [if_pos hc] at heq
    have hc' : ¬ (ck : Int) = 0 := by omega
    repeat' (first | refine h0i ?_ | refine h0b ?_ | refine h3q ?_ | refine h0t ?_ | refine h1k ?_ | refine h0j ?_ | refine h0r ?_ | refine h0v ?_ | refine h0g rfl ?_ | (refine gR 12 (p_e (q_b (r:=by exact h0u q_o)) (h:=h0a ?_))) | (refine gR 13 (p_e (by apply h0n; exact rfl; exact rfl; (focus (apply h2j Tryz.underlying30 sz_73; omega; omega; exact c_1))) (h:=q_e (by apply h1u (t:=73); exact rfl; exact c_19; kernel_rfl; kernel_rfl; exact sz_73; (with_reducible assumption); (with_reducible assumption)) ?_)) <;> (try refine h0c ?_; (refine h0k (t:=73) rfl Tryz.zeroValue73 ?_; intro nb hnb; (try simp only [Value.cells]))) <;> (try refine h0c ?_; (refine q_W ?_)) <;> (try refine h0a ?_)) | (refine gR 14 (p_e (q_L sz_73) (h:=q_m ?_)) <;> (try refine h0c ?_; (refine q_c 42 (c:=by apply hrc) (h:=?_); rintro _ _ ⟨j1, j2, rfl, rfl⟩; (try simp only [zzE, zzF]))) <;> (try refine p_a (h:=h0a ?_))) | (refine gR 15 (p_m (h:=p_e (q_b (r:=by exact h2p q_o)) (h:=h0a ?_)))) | (refine gR 16 (p_m (h:=p_a (h:=h0a ?_)))))
    (refine h0o Tryz.results17 (.tmp rfl .nil) ?_)
    refine ⟨_, ⟨j1, j2, n + k + 1, ?_, by omega, rfl⟩, fun _ H => H.tail.tail⟩
    rw [heq, if_pos hc]; rfl
  ·have hke : h5q ((rules.map chkR).drop k) = 0 := firstE_nil (by rw [List.length_map]; omega)
   rw [hke] at heq
   obtain rfl : k = rules.length := by omega
   repeat' (first | refine h0i ?_ | refine h0b ?_ | refine h0s ?_ | refine h1p ?_ | refine h1f ?_ | refine h1o ?_ | refine h2c ?_ | refine h0f rfl ?_ | (refine gR 12 (p_e (q_b (r:=by exact h0y q_o)) (h:=h0a ?_))))
   exact h0w (k1, k2) heq (by (focus (repeat (first | exact Sub.nil | refine Sub.cons rfl ?_)))) (fun _ H => H)
 rintro ⟨k1, k2⟩ heq
 dsimp only
 simp only [List.cons_append, List.nil_append]
 rw [heq, if_neg (fun h => h rfl)]
 have hp1 := fun (x : Blk) => hpa _ ((hps.upA (tbS ct k1 k2 (n + rules.length))).up x)
 have hp2 := fun (x : Blk) => hpo _ ((hqs.upA (tbS ct k1 k2 (n + rules.length))).up x)
 clear hpa hpo
 generalize h5g hd ports [] = cq at *
 generalize h4s hd paths [] = cp at *
 by_cases hc : cp = 0
 ·rw [if_neg (fun h => h hc)]
  subst hc
  repeat' (first | refine h0i ?_ | refine h0b ?_ | refine h0r ?_ | refine h0v ?_ | refine h0f rfl ?_ | (refine gR 18 (q_e (q_L sz_36) ?_) <;> (try refine h0c ?_; (refine q_c 43 (c:=by apply hp1) (h:=?_); rintro _ _ ⟨rfl, rfl⟩; (try simp only [zzE, zzF]))) <;> (try refine p_a (h:=h0a ?_))) | (refine gR 19 (q_m ?_) <;> (try refine q_e (by exact q_b (r:=by refine h1w ?_; first | rfl | (with_reducible assumption) | (decide; done) | omega)) ?_) <;> (try refine h0a ?_)) | (refine gR 21 (q_e (q_L sz_36) ?_) <;> (try refine h0c ?_; (refine q_c 44 (c:=by apply hp2) (h:=?_); rintro _ _ ⟨rfl, rfl⟩; (try simp only [zzE, zzF]))) <;> (try refine p_a (h:=h0a ?_))))
  (refine h0o Tryz.results17 (.tmp rfl .nil) ?_)
  exact ⟨_, ⟨k1, k2, _, rfl, Nat.le_refl _, rfl⟩, fun _ H => H.tail⟩
 ·rw [if_pos hc]
  have hc' : ¬ (cp : Int) = 0 := by omega
  repeat' (first | refine h0i ?_ | refine h0b ?_ | refine h0t ?_ | refine h0v ?_ | refine h0g rfl ?_ | (refine gR 18 (q_e (q_L sz_36) ?_) <;> (try refine h0c ?_; (refine q_c 43 (c:=by apply hp1) (h:=?_); rintro _ _ ⟨rfl, rfl⟩; (try simp only [zzE, zzF]))) <;> (try refine p_a (h:=h0a ?_))) | (refine gR 19 (p_m (h:=p_e (q_b (r:=by exact h2p q_o)) (h:=h0a ?_)))) | (refine gR 20 (p_m (h:=p_a (h:=h0a ?_)))))
  (refine h0o Tryz.results17 (.tmp rfl .nil) ?_)
  exact ⟨_, ⟨k1, k2, _, rfl, Nat.le_refl _, rfl⟩, fun _ H => H.tail⟩
def actT (a : Int) : List UInt8 := spcL (actL a)
def cndT (c : Cnd) : List UInt8 := spcL (cndL c)
def sepT (i : Nat) : List UInt8 := if i = 0 then [32, 105, 102, 32] else [32, 97, 110, 100, 32]
def cnT : Nat → List Cnd → List UInt8
 | _, [] => []
 | i, c :: r => sepT i ++ (cndT c ++ cnT (i + 1) r)
def spS (ws : List W3) : List UInt8 := ws.flatMap fun v => 32 :: v.2.1
theorem spcL_cons (w : W3) (r : List W3) : spcL (w :: r) = w.2.1 ++ spS r := rfl
theorem spS_app (a b : List W3) : spS (a ++ b) = spS a ++ spS b := by simp [spS]
theorem spS_ne {ws : List W3} (h : ws ≠ []) : spS ws = 32 :: spcL ws := by
 cases ws with
 | nil => exact absurd rfl h
 | cons w r => rfl
theorem actL_ne (a : Int) : actL a ≠ [] := by
 unfold actL
 split
 ·simp
 ·split
  ·simp
  ·split <;> simp
theorem spS_cnds (cs : List Cnd) : ∀ i, spS (cndsL (if i = 0 then tIf else tAnd) cs) = cnT i cs := by
 induction cs with
 | nil => intro i; rfl
 | cons c r ih =>
  intro i
  have h1 := ih (i + 1)
  rw [if_neg (by omega)] at h1
  rw [cndsL, cnT, ← h1]
  show 32 :: _ ++ spS (cndL c ++ cndsL tAnd r) = _
  rw [spS_app, spS_ne (ws:=cndL c) (by simp [cndL])]
  unfold cndT sepT
  by_cases h : i = 0
  ·rw [if_pos h, if_pos h]; rfl
  ·rw [if_neg h, if_neg h]; rfl
theorem rulT_eq (r : RulP) : spcL (rulL r) = [99, 97, 108, 108, 32] ++ (h5j r.num ++ ([32] ++ (actT r.act ++ cnT 0 r.conds))) := by
 have h := spS_cnds r.conds 0
 rw [if_pos rfl] at h
 unfold rulL
 rw [spcL_cons]
 show tCall ++ (32 :: h5j r.num ++ spS (actL r.act ++ cndsL tIf r.conds)) = _
 rw [spS_app, h, spS_ne (actL_ne _)]
 unfold actT
 simp [tCall]
theorem cnT_app (a b : List Cnd) : ∀ i, cnT i (a ++ b) = cnT i a ++ cnT (i + a.length) b := by
 induction a with
 | nil => intro i; rfl
 | cons d r ih =>
  intro i
  rw [List.cons_append, cnT, cnT, ih (i + 1), List.length_cons, show i + 1 + r.length = i + (r.length + 1) by omega]
  simp
theorem cnT_take (cs : List Cnd) (j : Nat) (h : j < cs.length) : cnT 0 (cs.take (j + 1)) = cnT 0 (cs.take j) ++ (sepT j ++ cndT cs[j]) := by
 rw [List.take_succ_eq_append_getElem h, cnT_app, List.length_take, Nat.min_eq_left (by omega), Nat.zero_add]
 simp [cnT]
theorem cnT_le (cs : List Cnd) (j : Nat) : (cnT 0 (cs.take j)).length ≤ (cnT 0 cs).length := by
 have h := cnT_app (cs.take j) (cs.drop j) 0
 rw [List.take_append_drop] at h
 rw [h, List.length_append]
 omega
theorem headT_eq (nm : List UInt8) (a : Int) : lnsT [[wN tPolicy, wN nm], wN tDefault :: actL a] = [112, 111, 108, 105, 99, 121, 32] ++ (nm ++ ([10, 100, 101, 102, 97, 117, 108, 116, 32] ++ (actT a ++ [10]))) := by
 show spcL [wN tPolicy, wN nm] ++ [10] ++ (spcL (wN tDefault :: actL a) ++ [10] ++ []) = _
 rw [spcL_cons, spcL_cons, spS_ne (actL_ne a)]
 unfold actT
 simp [spS, tPolicy, tDefault]
theorem hanT_eq (n : Nat) : lnsT [[wN tHandle, wN (rgT n)]] = [104, 97, 110, 100, 108, 101, 32] ++ (rgT n ++ [10]) := by
 show spcL [wN tHandle, wN (rgT n)] ++ [10] ++ [] = _
 rw [spcL_cons]
 simp [spS, tHandle]
theorem benT_eq (p : List UInt8 × Nat) : spcL (benL p) ++ [10] = [98, 101, 110, 101, 97, 116, 104, 32] ++ (p.1 ++ ([32] ++ (rgT p.2 ++ [10]))) := by
 unfold benL
 rw [spcL_cons]
 simp [spS, tBeneath]
theorem porT_eq (p : Nat × Nat) : spcL (porL p) ++ [10] = [112, 111, 114, 116, 32] ++ (decF p.1 ++ ([32] ++ (rgT p.2 ++ [10]))) := by
 unfold porL
 rw [spcL_cons]
 simp [spS, tPort]
theorem lnsT_snoc (D : List (List W3)) (ws : List W3) : lnsT (D ++ [ws]) = lnsT D ++ (spcL ws ++ [10]) := by rw [lnsT_app]; simp [lnsT]
theorem cndT_eq (c : Cnd) : cndT c = [97, 114, 103] ++ (decF c.arg ++ ([32] ++ (sgnT c.op ++ ([32] ++ ((if c.op = 7 then decF c.mask ++ [32, 61, 61, 32] else []) ++ decF c.val))))) := by
 unfold cndT cndL
 rw [spcL_cons]
 by_cases h : c.op = 7
 ·rw [if_pos h, if_pos h]
  simp [spS, argTx]
 ·rw [if_neg h, if_neg h]
  simp [spS, argTx]
theorem cndC_at (cs : List Cnd) (k : Nat) (h : k < cs.length) : ((cndC cs).drop (k * 4)).take 4 = (cs[k]).cells := by
 have h2 := gcC_at (cs.map Cnd.g) k (by rw [List.length_map]; exact h)
 rw [gcC_map] at h2
 rw [h2, List.getElem_map]
 rfl
theorem cndT_ne (c : Cnd) : 0 < (cndT c).length := by rw [cndT_eq]; simp
theorem and65535_nat (a : Int) : ((iand a 65535).toNat : Int) = iand a 65535 := by have := and_lt a; omega
theorem acttext_c {S w0 L} (a : Int) (h : 0 ≤ a ∧ a < 4294967296) : Fn Tryz.prog 30 #[.int .u32 a] S w0 L fun v L' => v = .string (mB8 (actT a)) ∧ L = L' := by
 have hk := fun (L : List Blk) => akind_c (S:=S) (w0:=w0) (L:=L) a h
 by_cases c1 : kndA a = 327680
 ·have e : actT a = [101, 114, 114, 110, 111, 32] ++ decF (iand a 65535).toNat := by
   unfold actT actL
   rw [if_pos c1]
   simp [spcL, tErrno]
  have hpr := fun (L : List Blk) => printed_c (iand a 65535).toNat (by have := and_lt a; omega) S w0 L
  rw [and65535_nat] at hpr
  have hal := and_lt a
  have hsz : (mB8 (decF (iand a 65535).toNat)).size ≤ 20 := by rw [h2d]; exact d20 (by omega)
  have hcat : (⟨#[101, 114, 114, 110, 111, 32]⟩ : ByteArray) ++ mB8 (decF (iand a 65535).toNat) = mB8 (actT a) := by rw [e]; exact h6m [101, 114, 114, 110, 111, 32] _
  rw [← hcat]
  have h1 : (⟨#[101, 114, 114, 110, 111, 32]⟩ : ByteArray).size = 6 := rfl
  rw [c1] at hk
  clear e hcat
  generalize mB8 (decF (iand a 65535).toNat) = d at *
  refine Fn1 Tryz.func30 Tryz.ntmps30 rfl rfl ?_
  repeat' (first | refine h0i ?_ | refine h0b ?_ | refine h0t ?_ | refine h1k ?_ | refine h0j ?_ | refine h0v ?_ | refine h0g rfl ?_ | (refine gR 0 (p_a (h:=h0a ?_))) | (refine gR 1 (q_m ?_) <;> (try refine h0c ?_; (refine q_c 59 (c:=by apply hk) (h:=?_); rintro _ _ ⟨rfl, rfl⟩; (try simp only [zzE, zzF]))) <;> (try refine h0a ?_)) | (refine gR 2 ?_ <;> (try refine q_e (by exact q_b (r:=by refine h1e ?_; first | rfl | (with_reducible assumption) | (decide; done) | omega)) ?_) <;> (try refine p_a (h:=h0a ?_))) | (refine gR 3 (q_m ?_) <;> (try refine q_e (q_b (r:=by refine h5w ?_ ?_; (focus (refine ⟨rfl, ⟨?_, ?_⟩⟩; omega; (focus (simp only [IntKind.bits]; omega)))); (focus (refine ⟨rfl, ⟨?_, ?_⟩⟩; omega; (focus (simp only [IntKind.bits]; omega)))))) ?_) <;> (try refine q_e (by apply h3t; exact rfl; (focus (apply h3u Tryz.underlying29 Tryz.underlying97; first | (refine IntWalk.i64_in _ ?_; omega) | (refine IntWalk.u8_in _ ?_; omega) | (refine IntWalk.u16_in _ ?_; omega) | (refine IntWalk.u32_in _ ?_; omega) | (refine IntWalk.u64_in _ ?_; omega) | (refine IntWalk.i32_in _ ?_; omega) | exact rfl))) ?_) <;> (try refine h0c ?_; (refine q_c 32 (c:=by apply hpr) (h:=?_); rintro _ _ ⟨rfl, rfl⟩; (try simp only [zzE, zzF]))) <;> (try refine p_e (q_b (r:=by apply h1t; exact rfl; (focus (omega)))) (h:=p_a (h:=h0a ?_)))))
  (refine h0o Tryz.results30 (.tmp rfl .nil) ?_)
  exact ⟨_, ⟨rfl, rfl⟩, by intro w H; refine H.sub ?_; (try simp only [zzC, zzN]); repeat (exact List.Sublist.refl _)⟩
 by_cases c2 : kndA a = 2147221504
 ·have e : mB8 (actT a) = ⟨#[108, 111, 103]⟩ := by
   unfold actT actL
   rw [if_neg c1, if_pos c2]
   rfl
  rw [e]
  rw [c2] at hk
  clear e c1
  refine Fn1 Tryz.func30 Tryz.ntmps30 rfl rfl ?_
  repeat' (first | refine h0i ?_ | refine h0b ?_ | refine h0t ?_ | refine h1k ?_ | refine h0j ?_ | refine h0v ?_ | refine h0g rfl ?_ | refine h0f rfl ?_ | (refine gR 0 (p_a (h:=h0a ?_))) | (refine gR 1 (q_m ?_) <;> (try refine h0c ?_; (refine q_c 59 (c:=by apply hk) (h:=?_); rintro _ _ ⟨rfl, rfl⟩; (try simp only [zzE, zzF]))) <;> (try refine h0a ?_)) | (refine gR 2 (p_e (q_b (r:=by exact h1c q_o)) (h:=p_a (h:=h0a ?_)))) | (refine gR 4 ?_ <;> (try refine q_e (by exact q_b (r:=by refine h1e ?_; first | rfl | (with_reducible assumption) | (decide; done) | omega)) ?_) <;> (try refine p_a (h:=h0a ?_))) | (refine gR 5 (p_a (h:=h0a ?_))))
  (refine h0o Tryz.results30 (.tmp rfl .nil) ?_)
  exact ⟨_, ⟨rfl, rfl⟩, by intro w H; refine H.sub ?_; (try simp only [zzC, zzN]); repeat (exact List.Sublist.refl _)⟩
 by_cases c3 : kndA a = 2147418112
 ·have e : mB8 (actT a) = ⟨#[97, 108, 108, 111, 119]⟩ := by
   unfold actT actL
   rw [if_neg c1, if_neg c2, if_pos c3]
   rfl
  rw [e]
  rw [c3] at hk
  clear e c1 c2
  refine Fn1 Tryz.func30 Tryz.ntmps30 rfl rfl ?_
  repeat' (first | refine h0i ?_ | refine h0b ?_ | refine h0t ?_ | refine h1k ?_ | refine h0j ?_ | refine h0v ?_ | refine h0g rfl ?_ | refine h0f rfl ?_ | (refine gR 0 (p_a (h:=h0a ?_))) | (refine gR 1 (q_m ?_) <;> (try refine h0c ?_; (refine q_c 59 (c:=by apply hk) (h:=?_); rintro _ _ ⟨rfl, rfl⟩; (try simp only [zzE, zzF]))) <;> (try refine h0a ?_)) | (refine gR 2 (p_e (q_b (r:=by exact h1c q_o)) (h:=p_a (h:=h0a ?_)))) | (refine gR 4 (p_e (q_b (r:=by exact h1c q_o)) (h:=p_a (h:=h0a ?_)))) | (refine gR 6 ?_ <;> (try refine q_e (by exact q_b (r:=by refine h1e ?_; first | rfl | (with_reducible assumption) | (decide; done) | omega)) ?_) <;> (try refine p_a (h:=h0a ?_))) | (refine gR 7 (p_a (h:=h0a ?_))))
  (refine h0o Tryz.results30 (.tmp rfl .nil) ?_)
  exact ⟨_, ⟨rfl, rfl⟩, by intro w H; refine H.sub ?_; (try simp only [zzC, zzN]); repeat (exact List.Sublist.refl _)⟩
 ·have e : mB8 (actT a) = ⟨#[107, 105, 108, 108]⟩ := by
   unfold actT actL
   rw [if_neg c1, if_neg c2, if_neg c3]
   rfl
  rw [e]
  clear e
  generalize kndA a = k at *
  refine Fn1 Tryz.func30 Tryz.ntmps30 rfl rfl ?_
  repeat' (first | refine h0i ?_ | refine h0b ?_ | refine h0x ?_ | refine h0j ?_ | refine h0r ?_ | refine h0v ?_ | refine h0f rfl ?_ | (refine gR 0 (p_a (h:=h0a ?_))) | (refine gR 1 (q_m ?_) <;> (try refine h0c ?_; (refine q_c 59 (c:=by apply hk) (h:=?_); rintro _ _ ⟨rfl, rfl⟩; (try simp only [zzE, zzF]))) <;> (try refine h0a ?_)) | (refine gR 2 (p_e (q_b (r:=by exact h1c q_o)) (h:=p_a (h:=h0a ?_)))) | (refine gR 4 (p_e (q_b (r:=by exact h1c q_o)) (h:=p_a (h:=h0a ?_)))) | (refine gR 6 (p_e (q_b (r:=by exact h1c q_o)) (h:=p_a (h:=h0a ?_)))) | (refine gR 8 (p_a (h:=h0a ?_))))
  (refine h0o Tryz.results30 (.tmp rfl .nil) ?_)
  exact ⟨_, ⟨rfl, rfl⟩, by intro w H; refine H.sub ?_; (try simp only [zzC, zzN]); repeat (exact List.Sublist.refl _)⟩
set_option maxHeartbeats 1000000 in
theorem condtext_c {S w0 L} (c : Cnd) (h : CndOk c) (hm : c.mask ≤ 18446744073709551615) (hv : c.val ≤ 18446744073709551615) : Fn Tryz.prog 33 #[.agg c.cells.toArray] S w0 L fun v L' => v = .string (mB8 (cndT c)) ∧ L = L' := by
 have hsg := fun (L : List Blk) => psign_c (S:=S) (w0:=w0) (L:=L) c.op h.op1 h.op2
 have hpa := fun (L : List Blk) => printed_c c.arg (by have := h.arg; omega) S w0 L
 have hpm := fun (L : List Blk) => printed_c c.mask (by omega) S w0 L
 have hpv := fun (L : List Blk) => printed_c c.val (by omega) S w0 L
 have hmx : max (c.arg : Int) 0 = (c.arg : Int) := by omega
 have hrg := h.arg
 rw [← hmx] at hpa
 have e := cndT_eq c
 have z1 : (mB8 (decF c.arg)).size ≤ 20 := by rw [h2d]; exact d20 (by omega)
 have z2 : (mB8 (decF c.mask)).size ≤ 20 := by rw [h2d]; exact d20 hm
 have z3 : (mB8 (decF c.val)).size ≤ 20 := by rw [h2d]; exact d20 hv
 have z4 : (mB8 (sgns.getD (c.op - 1) [])).size ≤ 2 := by rw [h2d]; exact (sg_ok h.op1 h.op2).2
 have b1 : (⟨#[97, 114, 103]⟩ : ByteArray).size = 3 := rfl
 have b2 : (⟨#[32]⟩ : ByteArray).size = 1 := rfl
 have b3 : (⟨#[32, 61, 61, 32]⟩ : ByteArray).size = 4 := rfl
 obtain ⟨ca, co, cm, cv⟩ := c
 dsimp only at *
 rw [e]
 unfold sgnT
 clear e h hmx
 dsimp only [Cnd.cells] at *
 by_cases h7 : co = 7
 ·rw [if_pos h7]
  have hcat : mB8 ([97, 114, 103] ++ (decF ca ++ ([32] ++ (sgns.getD (co - 1) [] ++ ([32] ++ ((decF cm ++ [32, 61, 61, 32]) ++ decF cv)))))) = (((((⟨#[97, 114, 103]⟩ : ByteArray) ++ mB8 (decF ca)) ++ (⟨#[32]⟩ : ByteArray)) ++ mB8 (sgns.getD (co - 1) [])) ++ (⟨#[32]⟩ : ByteArray)) ++ (mB8 (decF cm) ++ (⟨#[32, 61, 61, 32]⟩ : ByteArray)) ++ mB8 (decF cv) := by
   rw [show (⟨#[97, 114, 103]⟩ : ByteArray) = mB8 [97, 114, 103] from rfl, show (⟨#[32]⟩ : ByteArray) = mB8 [32] from rfl, show (⟨#[32, 61, 61, 32]⟩ : ByteArray) = mB8 [32, 61, 61, 32] from rfl]
   simp only [h6m, List.append_assoc]
  rw [hcat]
  clear hcat
  generalize mB8 (sgns.getD (co - 1) []) = sg at *
  generalize mB8 (decF ca) = da at *
  generalize mB8 (decF cm) = dm at *
  generalize mB8 (decF cv) = dv at *
  refine Fn1 Tryz.func33 Tryz.ntmps33 rfl rfl ?_
  repeat' (first | refine h0i ?_ | refine h0b ?_ | refine h0v ?_ | refine h0g rfl ?_ | (refine gR 0 ?_ <;> (try refine h0c ?_; (refine h2n (t:=99) rfl rfl ?_; intro nb hnb; (try simp only [Value.cells]))) <;> (try refine p_a (h:=h0a ?_))) | ((refine h1z (id:=1) (m:=13) (by kernel_rfl) rfl (q_u 0 (x:=by exact q_f h4m) (h:=q_u 1 (x:=by exact q_l) (h:=q_u 2 (x:=by exact h0e rfl (fun _ => BigFrame.builtin_max ..) r_max) (h:=?_))))) <;> (try refine q_u 3 (x:=by apply h3t; exact rfl; (focus (apply h3u Tryz.underlying3 Tryz.underlying97; first | (refine IntWalk.i64_in _ ?_; omega) | (refine IntWalk.u8_in _ ?_; omega) | (refine IntWalk.u16_in _ ?_; omega) | (refine IntWalk.u32_in _ ?_; omega) | (refine IntWalk.u64_in _ ?_; omega) | (refine IntWalk.i32_in _ ?_; omega) | exact rfl))) (h:=?_)) <;> (try refine q_u 7 (x:=by exact q_f h3d) (h:=q_u 8 (x:=by exact q_l) (h:=?_))) <;> (try refine q_r 4 ?_; (refine q_c 32 (c:=by apply hpa) (h:=?_); rintro _ _ ⟨rfl, rfl⟩; (try simp only [zzE, zzF])); refine h1b (fun _ H => H) ?_) <;> (try refine q_u 5 (x:=by exact q_b (r:=by apply h1t; exact rfl; (focus (omega)))) (h:=q_u 6 (x:=by exact q_b (r:=by apply h1t; exact rfl; (focus (simp only [ByteArray.size_append]; omega)))) (h:=?_))) <;> (try refine q_r 9 ?_; (refine q_c 61 (c:=by apply hsg) (h:=?_); rintro _ _ ⟨rfl, rfl⟩; (try simp only [zzE, zzF])); refine h1b (fun _ H => H) ?_) <;> (try refine q_u 10 (x:=by exact q_b (r:=by apply h1t; exact rfl; (focus (simp only [ByteArray.size_append]; omega)))) (h:=q_u 11 (x:=by exact q_b (r:=by apply h1t; exact rfl; (focus (simp only [ByteArray.size_append]; omega)))) (h:=q_u 12 (x:=by exact h3f rfl) (h:=h1a (by kernel_rfl) ?_))))) | (refine gR 2 (p_e (q_f h3d) (h:=q_e q_l ?_)) <;> (try refine q_e (by exact q_b (r:=by refine h1e ?_; first | rfl | (with_reducible assumption) | (decide; done) | omega)) ?_) <;> (try refine h0a ?_)) | (refine gR 3 (p_m (h:=p_e (q_f h5b) (h:=q_e q_l ?_))) <;> (try refine h0c ?_; (refine q_c 32 (c:=by apply hpm) (h:=?_); rintro _ _ ⟨rfl, rfl⟩; (try simp only [zzE, zzF]))) <;> (try refine p_e (q_b (r:=by apply h1t; exact rfl; (focus (omega)))) (h:=p_e (q_b (r:=by apply h1t; exact rfl; (focus (simp only [ByteArray.size_append]; omega)))) (h:=p_a (h:=h0a ?_))))) | (refine gR 4 (p_m (h:=p_e (q_f fo_99_3) (h:=q_e q_l ?_))) <;> (try refine h0c ?_; (refine q_c 32 (c:=by apply hpv) (h:=?_); rintro _ _ ⟨rfl, rfl⟩; (try simp only [zzE, zzF]))) <;> (try refine p_e (q_b (r:=by apply h1t; exact rfl; (focus (simp only [ByteArray.size_append]; omega)))) (h:=p_a (h:=h0a ?_)))))
  (refine h0o Tryz.results33 (.tmp rfl .nil) ?_)
  exact ⟨_, ⟨rfl, rfl⟩, by intro w H; refine H.sub ?_; (try simp only [zzC, zzN]); repeat (first | exact List.Sublist.refl _ | refine List.Sublist.cons _ ?_)⟩
 ·rw [if_neg h7]
  have hcat : mB8 ([97, 114, 103] ++ (decF ca ++ ([32] ++ (sgns.getD (co - 1) [] ++ ([32] ++ ([] ++ decF cv)))))) = (((((⟨#[97, 114, 103]⟩ : ByteArray) ++ mB8 (decF ca)) ++ (⟨#[32]⟩ : ByteArray)) ++ mB8 (sgns.getD (co - 1) [])) ++ (⟨#[32]⟩ : ByteArray)) ++ mB8 (decF cv) := by
   rw [show (⟨#[97, 114, 103]⟩ : ByteArray) = mB8 [97, 114, 103] from rfl, show (⟨#[32]⟩ : ByteArray) = mB8 [32] from rfl]
   simp only [h6m, List.append_assoc, List.nil_append]
  rw [hcat]
  clear hcat hpm
  generalize mB8 (sgns.getD (co - 1) []) = sg at *
  generalize mB8 (decF ca) = da at *
  generalize mB8 (decF cv) = dv at *
  refine Fn1 Tryz.func33 Tryz.ntmps33 rfl rfl ?_
  repeat' (first | refine h0i ?_ | refine h0b ?_ | refine h0r ?_ | refine h0v ?_ | refine h0f rfl ?_ | (refine gR 0 ?_ <;> (try refine h0c ?_; (refine h2n (t:=99) rfl rfl ?_; intro nb hnb; (try simp only [Value.cells]))) <;> (try refine p_a (h:=h0a ?_))) | ((refine h1z (id:=1) (m:=13) (by kernel_rfl) rfl (q_u 0 (x:=by exact q_f h4m) (h:=q_u 1 (x:=by exact q_l) (h:=q_u 2 (x:=by exact h0e rfl (fun _ => BigFrame.builtin_max ..) r_max) (h:=?_))))) <;> (try refine q_u 3 (x:=by apply h3t; exact rfl; (focus (apply h3u Tryz.underlying3 Tryz.underlying97; first | (refine IntWalk.i64_in _ ?_; omega) | (refine IntWalk.u8_in _ ?_; omega) | (refine IntWalk.u16_in _ ?_; omega) | (refine IntWalk.u32_in _ ?_; omega) | (refine IntWalk.u64_in _ ?_; omega) | (refine IntWalk.i32_in _ ?_; omega) | exact rfl))) (h:=?_)) <;> (try refine q_u 7 (x:=by exact q_f h3d) (h:=q_u 8 (x:=by exact q_l) (h:=?_))) <;> (try refine q_r 4 ?_; (refine q_c 32 (c:=by apply hpa) (h:=?_); rintro _ _ ⟨rfl, rfl⟩; (try simp only [zzE, zzF])); refine h1b (fun _ H => H) ?_) <;> (try refine q_u 5 (x:=by exact q_b (r:=by apply h1t; exact rfl; (focus (omega)))) (h:=q_u 6 (x:=by exact q_b (r:=by apply h1t; exact rfl; (focus (simp only [ByteArray.size_append]; omega)))) (h:=?_))) <;> (try refine q_r 9 ?_; (refine q_c 61 (c:=by apply hsg) (h:=?_); rintro _ _ ⟨rfl, rfl⟩; (try simp only [zzE, zzF])); refine h1b (fun _ H => H) ?_) <;> (try refine q_u 10 (x:=by exact q_b (r:=by apply h1t; exact rfl; (focus (simp only [ByteArray.size_append]; omega)))) (h:=q_u 11 (x:=by exact q_b (r:=by apply h1t; exact rfl; (focus (simp only [ByteArray.size_append]; omega)))) (h:=q_u 12 (x:=by exact h3f rfl) (h:=h1a (by kernel_rfl) ?_))))) | (refine gR 2 (p_e (q_f h3d) (h:=p_e q_l (h:=p_e (q_b (r:=by exact h1c q_o)) (h:=h0a ?_))))) | (refine gR 4 (p_m (h:=p_e (q_f fo_99_3) (h:=q_e q_l ?_))) <;> (try refine h0c ?_; (refine q_c 32 (c:=by apply hpv) (h:=?_); rintro _ _ ⟨rfl, rfl⟩; (try simp only [zzE, zzF]))) <;> (try refine p_e (q_b (r:=by apply h1t; exact rfl; (focus (simp only [ByteArray.size_append]; omega)))) (h:=p_a (h:=h0a ?_)))))
  (refine h0o Tryz.results33 (.tmp rfl .nil) ?_)
  exact ⟨_, ⟨rfl, rfl⟩, by intro w H; refine H.sub ?_; (try simp only [zzC, zzN]); repeat (first | exact List.Sublist.refl _ | refine List.Sublist.cons _ ?_)⟩
section
variable {P : Program} {n : Nat} {l : List (Nat × Value)} {S : List Nat} {w0 : World} {L : List Blk} {K : Act → World → Prop} {k : Kont} {ops : Array Oper} {d : Tmp} {ty : TypeId} {pos : String} {af : Array Edge}
theorem shape_at {w : World} (H : HP S w0 w L) (i : Nat) {q : Bool} {b : Nat} {cs : Array Value} {t : TypeId} {fr : Nat × Nat} (hi : L[i]? = some ⟨q, b, .cells cs t fr⟩) : w.shape? b = some (t, cs.size) := by
 have := H.at_ i hi
 simp only [World.shape?, this]
theorem E_toUnsafe {src dst t e : TypeId} {m : Nat} {x : Operand} {b i : Nat} {q : Bool} {cs : Array Value} {fr : Nat × Nat} (hx : ev l x = some (.pointer (some ⟨b, 0, none⟩))) (hs : P.underlying src = some (.pointer t)) (hd : P.underlying dst = some .unsafePointer) (ht : (P.info? t).map (·.size) = some m) (hj : Nat.blt 0 m = true)
  (hi : L[i]? = some ⟨q, b, .cells cs e fr⟩) (hc : 0 < cs.size) : ValOf P n l S w0 L ⟨some d, .convert src dst x, ty, pos, af, none⟩ (.pointer (some ⟨b, 0, none⟩)) :=
 ⟨fun a w hf H => by
  obtain ⟨inf, hi2, hi3⟩ := Option.map_eq_some_iff.1 ht
  have hj' : inf.size ≠ 0 := by have := Nat.le_of_ble_eq_true hj; omega
  simp only [execOp, hf.eval hx, Sem.run_bind, Lib.run_to_unsafe (P:=P) (w:=w) ⟨b, 0, none⟩ hs hd hi2 hj' (shape_at H i hi) hc, Result.andThen_ok, Sem.run_pure]⟩
theorem E_fromUnsafe {src dst u e : TypeId} {m : Nat} {x : Operand} {b i : Nat} {q : Bool} {cs : Array Value} {fr : Nat × Nat} (hx : ev l x = some (.pointer (some ⟨b, 0, none⟩))) (hs : P.underlying src = some .unsafePointer) (hd : P.underlying dst = some (.pointer u)) (hu : (P.info? u).map (·.size) = some m)
  (hi : L[i]? = some ⟨q, b, .cells cs e fr⟩) (hlies : liesAt P P.depth e (cs.size / P.cellsOf e) 0 u 1 = true) : ValOf P n l S w0 L ⟨some d, .convert src dst x, ty, pos, af, none⟩ (.pointer (some ⟨b, 0, none⟩)) :=
 ⟨fun a w hf H => by
  obtain ⟨inf, hi2, hi3⟩ := Option.map_eq_some_iff.1 hu
  simp only [execOp, hf.eval hx, Sem.run_bind, Lib.run_from_unsafe (P:=P) (w:=w) ⟨b, 0, none⟩ hs hd hi2 (shape_at H i hi) hlies, Result.andThen_ok, Sem.run_pure]⟩
theorem rb_pne_same {t te : TypeId} {m : Nat} {a : Addr} (hp : P.underlying t = some (.pointer te)) (hte : (P.info? te).map (·.size) = some m) : RBin P .neq t (.pointer (some a)) (.pointer (some a)) (.bool false) := .mk fun w => by
 obtain ⟨inf, hi, -⟩ := Option.map_eq_some_iff.1 hte
 exact Lib.run_neq_ptr_same w a hp hi
theorem K1_noEsc {F : FuncId} {fn : Func} {x : Operand} {v : Value} {ats : Array TypeId} (hf : P.funcs[F]? = some fn) (hname : (fn.name == "runtime.NumGoroutine") = false) (hb : fn.body.isNone = true) (hn : Extern.findNext fn = none) (he : Extern.find fn = some Extern.AbiNoEscape.same) (hd : Nat.blt d n = true) (hx : ev l x = some v)
  (h : G n ((d, v) :: l) S w0 L K) : G n l S w0 L (K1 P ops k ⟨some d, .call { callee := .value (.func F), args := #[x], argTypes := ats }, ty, pos, af, none⟩ K) := .mk fun a w hF H => h5a rfl <| by
 unfold Oper.wp
 rw [execOp_call_go, List.map_toArray, hF.evals (xs:=[x]) (vs:=[v]) (by simp [evs, hx]), run_callFunc_extern hf hname hb hn he]
 exact h.out _ _ (hF.put (some d) v hd) H
theorem E_sliceData {x : Operand} {a : Addr} {m c : Nat} {ats : Array TypeId} (hx : ev l x = some (.slice (some a) m c)) (hc : c ≠ 0) : ValOf P n l S w0 L ⟨some d, .call { callee := .builtin .unsafeSliceData, args := #[x], argTypes := ats }, ty, pos, af, none⟩ (.pointer (some a)) :=
 h0e (xs:=[x]) (vs:=[.slice (some a) m c]) (by simp [evs, hx]) (fun cs => BigFrame.builtin_unsafeSliceData ..) ⟨fun w => Lib.run_unsafeSliceData_row _ _ _ _ _ _ hc⟩
theorem K1_unsafeStr {x y : Operand} {i g : Nat} {cur : Array Value} {z : List UInt8} {pt it e : TypeId} {m : Nat} (hd : Nat.blt d n = true) (hx : ev l x = some (.pointer (some ⟨g, 0, none⟩))) (hy : ev l y = some (.int .i64 (m : Nat))) (hi : L[i]? = some ⟨true, g, .cells cur e (0, 0)⟩)
  (hp : P.underlying pt = some (.pointer e)) (hc : P.cellsOf e = 1) (hm : z.length = m) (h0 : 0 < m) (hn : m ≤ cur.size) (h63 : m ≤ 9223372036854775807) (hcell : cur.toList.take m = Lib.byteCells z)
  (h : G n ((d, .string ⟨z.toArray⟩) :: l) S w0 (L.eraseIdx i) K) : G n l S w0 L (K1 P ops k ⟨some d, .call { callee := .builtin .unsafeString, args := #[x, y], argTypes := #[pt, it] }, ty, pos, af, none⟩ K) := .mk fun a w hf H => h5a rfl <| by
 subst hm
 have hgw := H.at_ i hi
 have hr := Lib.run_unsafeString_row (P:=P) w pt it ty e hp hc g cur.size (shape_at H i hi) z (fun h => by rw [h] at h0; simp at h0) hn h63 (fun j u hu => by
  have hadd : (⟨g, 0, none⟩ : Addr).add j = ⟨g, j, none⟩ := by unfold Addr.add; split <;> simp_all
  rw [hadd, cell_at H i hi]
  have hj : j < z.length := by
   rcases Nat.lt_or_ge j z.length with h | h
   ·exact h
   ·rw [List.getElem?_eq_none h] at hu; cases hu
  have h2 := congrArg (fun l => l[j]?) hcell
  simp only [List.getElem?_take, if_pos hj] at h2
  rw [← Array.getElem?_toList, h2]
  simp [Lib.byteCells, hu])
 unfold Oper.wp
 rw [BigFrame.execOp_builtin]
 simp only [List.map_toArray, List.map_cons, List.map_nil, hf.eval hx, hf.eval hy]
 rw [BigFrame.builtin_unsafeString]
 simp only [Sem.run_bind, hr, Result.andThen_ok, Sem.run_pure]
 have hz : z.length ≠ 0 := by omega
 have hgl : g < w.heap.size := H.lt i hi
 have HT := H.turn i (o:=.cells cur e (0, 0)) hi (w.freeze ⟨g, 0, none⟩ z.length) (.cells cur e (0, 0 + z.length)) (by unfold World.freeze; rw [if_neg hz]) (by unfold World.freeze; rw [if_neg hz]) (by unfold World.freeze; rw [if_neg hz])
  (by unfold World.freeze; rw [if_neg hz]; exact Array.size_modify) (by unfold World.freeze; rw [if_neg hz]; dsimp only; rw [Array.getElem?_modify, if_pos rfl]; have hgw' : w.heap[g]? = some (.cells cur e (0, 0)) := hgw; rw [hgw']; rfl) (fun k hk => by unfold World.freeze; rw [if_neg hz]; dsimp only; rw [Array.getElem?_modify, if_neg (fun h => hk h.symm)])
 refine h.out _ _ (hf.put (some d) _ hd) (HT.sub ?_)
 have : ∀ (L : List Blk) (i : Nat) (x : Blk), (L.eraseIdx i).Sublist (L.set i x) := by
  intro L
  induction L with
  | nil => intro i x; simp
  | cons y r ih =>
   intro i x
   cases i with
   | zero => exact List.sublist_cons_self _ _
   | succ i => exact (ih i x).cons_cons y
 exact this L i _
end
def h5v (s : ByteArray) : List Value := s.data.toList.map fun b => .int .u8 (b.toNat : Int)
theorem sBytes_len (s : ByteArray) : (h5v s).length = s.size := by unfold h5v; rw [List.length_map]; cases s; rfl
section
variable {P : Program} {n : Nat} {l : List (Nat × Value)} {S : List Nat} {w0 : World} {L : List Blk} {K : Act → World → Prop} {k : Kont} {ops : Array Oper} {d : Tmp} {ty : TypeId} {pos : String} {af : Array Edge}
theorem firstCells_str (s : ByteArray) (w : World) : (Builtin.firstCells 1 s.size (.string s)).run P w = .ok (h5v s).toArray w := by
 simp only [Builtin.firstCells, Sem.run_pure]
 congr 1
 have hx : s.extract 0 s.size = s := by simp
 rw [hx]
 apply Array.ext'
 simp [h5v]
theorem run_appS_room (w : World) (t u ty e : TypeId) (i : TypeInfo) (ht : P.underlying t = some (.slice e)) (hu : P.underlying u = some .string) (hi : P.info? e = some i) (h1 : i.size = 1)
  (g sLen sCap : Nat) (cur : Array Value) (hg : w.heap[g]? = some (.cells cur e (0, 0))) (s : ByteArray) (hroom : sLen + s.size ≤ sCap) (hfit : sLen + s.size ≤ cur.size) :
  (Builtin.append_ #[t, u] ty #[.slice (some ⟨g, 0, none⟩) sLen sCap, .string s]).run P w =
   .ok (.slice (some ⟨g, 0, none⟩) (sLen + s.size) sCap) (w.setRow g (cur.toList.take sLen ++ h5v s ++ cur.toList.drop (sLen + s.size)).toArray) := by
 have hone : ∀ u ∈ h5v s, u.oneCell' = true := by
  intro u hu
  unfold h5v at hu
  obtain ⟨b, _, rfl⟩ := List.mem_map.1 hu
  exact oc_int
 have hf := firstCells_str (P:=P) s w
 have hst := run_storeCells_at P g sLen e (h5v s) 0 cur w hg (by simpa [sBytes_len] using hfit) hone
 simp only [Nat.add_zero, sBytes_len] at hst
 simp [Builtin.append_, run_underlying ht, run_underlying hu, sizeOf, typeInfo, hi, h1, Builtin.lenOf, hroom, hf, Addr.add_lit, hst]
theorem run_appS_grow (w : World) (t u ty e : TypeId) (i : TypeInfo) (z : Value) (ht : P.underlying t = some (.slice e)) (hu : P.underlying u = some .string) (hi : P.info? e = some i) (hz : i.zero = some z) (h1 : i.size = 1) (hb1 : i.bytes = 1)
  (b : Addr) (sLen sCap : Nat) (olds : List Value) (hlo : olds.length = sLen) (holds : ∀ j v, olds[j]? = some v → w.cell? (b.add j) = some v) (s : ByteArray)
  (hg : sCap < sLen + s.size) (h47 : sLen + s.size ≤ 140737488355328) :
  (Builtin.append_ #[t, u] ty #[.slice (some b) sLen sCap, .string s]).run P w =
   .ok (.slice (some ⟨w.heap.size, 0, none⟩) (sLen + s.size) (grownCap w (sLen + s.size) sCap e))
    (w.drew.alloc (.cells (olds.toArray ++ (h5v s).toArray ++ Builtin.zeroCells z.cells (grownCap w (sLen + s.size) sCap e - (sLen + s.size))) e)) := by
 have hn : ¬ (sLen + s.size ≤ sCap) := by omega
 have h63' : ¬ (9223372036854775807 < ((sLen : Int) + (s.size : Int))) := by omega
 have hfit : Builtin.nextslicecap (sLen + s.size) sCap * 1 ≤ 281474976710656 := growslice_fits hg (by omega)
 have h48' : ¬ (281474976710656 < Builtin.nextslicecap (sLen + s.size) sCap) := by omega
 have hf := firstCells_str (P:=P) s w.drew
 have hfo := run_firstCells_some (P:=P) w.drew 1 sLen b sLen sCap olds (by omega) (by simpa using holds)
 simp [Builtin.append_, run_underlying ht, run_underlying hu, sizeOf, typeInfo, zeroValue, hi, hz, h1, hb1, Builtin.lenOf, hn, h63', h48', Question.forced, hf, hfo, newRow, grownCap]
 congr 2
 apply Array.ext'
 simp [List.append_assoc]
theorem K1_appendStr {E : Nat} {t tt : TypeId} {inf : TypeInfo} {z : Value} {s y : Operand} {v : Value} {m : Nat} {xs : List Value} {e L0 : List Blk} {str : ByteArray}
  (hd : Nat.blt d n = true) (ht : P.underlying t = some (.slice E)) (hu : P.underlying tt = some .string) (hi : P.info? E = some inf) (hz : inf.zero = some z) (hsize : inf.size = 1) (hby : inf.bytes = 1) (hzs : z.cells.size = 1)
  (hs : ev l s = some v) (hy : ev l y = some (.string str)) (hown : Own E 1 v m xs e) (hm : 0 < m) (h47 : m + str.size ≤ 140737488355328) (hL : ∀ w, HP S w0 w L → HP S w0 w (e ++ L0)) {mm : Nat} {xn : List Value} (hmm : m + str.size = mm) (hxn : xs ++ h5v str = xn)
  (h : ∀ v' e', Own E 1 v' mm xn e' → G n ((d, v') :: l) S w0 (e' ++ L0) K) :
  G n l S w0 L (K1 P ops k ⟨some d, .call { callee := .builtin .append, args := #[s, y], argTypes := #[t, tt] }, ty, pos, af, none⟩ K) := .mk fun a w hf H => h5a rfl <| by
 subst hmm hxn
 have H' := hL w H
 obtain ⟨g, cap, cur, rfl, rfl, hnc, hcm, hcs, htake⟩ := hown.some hm
 rw [Nat.mul_one] at hcs htake
 have hlen : (xs ++ h5v str).length = (m + str.size) * 1 := by rw [List.length_append, hown.1, sBytes_len, Nat.mul_one, Nat.mul_one]
 have hgw : w.heap[g]? = some (.cells cur E (0, 0)) := H'.at_ 0 (p:=⟨true, g, .cells cur E (0, 0)⟩) rfl
 have HL : HP S w0 w L0 := H'.sub (List.sublist_append_right _ _)
 unfold Oper.wp execOp
 simp only [resolve, invoke, builtin, Sem.run_bind, Sem.run_pure, Result.andThen_ok, List.map_toArray, List.map_cons, List.map_nil, hf.eval hs, hf.eval hy]
 by_cases hroom : m + str.size ≤ cap
 ·have hr := run_appS_room (P:=P) w t tt ty E inf ht hu hi hsize g m cap cur hgw str hroom (by omega)
  rw [hr]
  have HT := H'.turn 0 (o:=.cells cur E (0, 0)) rfl (w.setRow g (cur.toList.take m ++ h5v str ++ cur.toList.drop (m + str.size)).toArray) _ rfl rfl rfl (size_setRow w g _)
   (setRow_heap w g cur _ E _ hgw) (fun k hk => setRow_other w g k _ hk)
  refine (h _ [⟨true, g, .cells (cur.toList.take m ++ h5v str ++ cur.toList.drop (m + str.size)).toArray E (0, 0)⟩] ⟨hlen, .inr ⟨g, cap, _, rfl, rfl, hroom, hcm, ?_, ?_⟩⟩).out _ _ (hf.put (some d) _ hd) HT
  ·simp only [List.size_toArray, List.length_append, List.length_take, List.length_drop, Array.length_toList, sBytes_len]
   omega
  ·rw [htake, ← hlen]
   exact List.take_left
 ·have holds : ∀ j u, xs[j]? = some u → w.cell? ((⟨g, 0, none⟩ : Addr).add j) = some u := by
   intro j u hj
   have hadd : (⟨g, 0, none⟩ : Addr).add j = ⟨g, j, none⟩ := by unfold Addr.add; split <;> simp_all
   rw [hadd, cell_of_row w g j cur E (0, 0) hgw]
   rw [← htake, List.getElem?_take] at hj
   split at hj
   ·simpa using hj
   ·simp at hj
  have hr := run_appS_grow (P:=P) w t tt ty E inf z ht hu hi hz hsize hby ⟨g, 0, none⟩ m cap xs (by have := hown.1; omega) holds str (by omega) h47
  rw [hr]
  have hge := grownCap_ge w (m + str.size) cap E
  have hcm2 : grownCap w (m + str.size) cap E ≤ maxLen := grownCap_le_maxLen w (m + str.size) cap E h5t
  refine (h _ [⟨true, w.heap.size, .cells (xs.toArray ++ (h5v str).toArray ++ Builtin.zeroCells z.cells (grownCap w (m + str.size) cap E - (m + str.size))) E (0, 0)⟩] ⟨hlen, .inr ⟨w.heap.size, _, _, rfl, rfl, hge, hcm2, ?_, ?_⟩⟩).out _ _ (hf.put (some d) _ hd) (HL.drew.alloc _)
  ·have h9 := hown.1
   simp only [Array.size_append, List.size_toArray, size_zeroCells, hzs, h9, sBytes_len, Nat.mul_one]
   omega
  ·simp only [Array.toList_append, List.append_assoc]
   rw [← List.append_assoc, ← hlen]
   exact List.take_left
theorem K1_appendStrB {E : Nat} {t tt : TypeId} {inf : TypeInfo} {z : Value} {s y : Operand} {g m cp j : Nat} {cur : Array Value} {str : ByteArray}
  (hd : Nat.blt d n = true) (ht : P.underlying t = some (.slice E)) (hu : P.underlying tt = some .string) (hi : P.info? E = some inf) (hz : inf.zero = some z) (hsize : inf.size = 1) (hby : inf.bytes = 1) (hzs : z.cells.size = 1)
  (hs : ev l s = some (.slice (some ⟨g, 0, none⟩) m cp)) (hy : ev l y = some (.string str)) (hown : L[j]? = some ⟨true, g, .cells cur E (0, 0)⟩) (hmc : m ≤ cp) (hcp : cp ≤ maxLen) (hcs : cur.size = cp * 1) (hm : 0 < m) (h47 : m + str.size ≤ 140737488355328)
  {mm : Nat} {xn : List Value} (hmm : m + str.size = mm) (hxn : cur.toList.take (m * 1) ++ h5v str = xn)
  (h : ∀ v' e', Own E 1 v' mm xn e' → G n ((d, v') :: l) S w0 (e' ++ L.eraseIdx j) K) :
  G n l S w0 L (K1 P ops k ⟨some d, .call { callee := .builtin .append, args := #[s, y], argTypes := #[t, tt] }, ty, pos, af, none⟩ K) :=
 K1_appendStr hd ht hu hi hz hsize hby hzs hs hy (Own.of_block hmc hcp hcs) hm h47 (fun _ H => H.pick hown) hmm hxn h
end
section
variable {P : Program} {n : Nat} {l : List (Nat × Value)} {S : List Nat} {w0 : World} {L : List Blk} {K : Act → World → Prop} {k : Kont} {ops : Array Oper} {d : Tmp} {ty : TypeId} {pos : String} {af : Array Edge}
theorem run_appS_nil (w : World) (t u ty e : TypeId) (i : TypeInfo) (z : Value) (ht : P.underlying t = some (.slice e)) (hu : P.underlying u = some .string) (hi : P.info? e = some i) (hz : i.zero = some z) (h1 : i.size = 1) (hb1 : i.bytes = 1) (s : ByteArray)
  (hg : 0 < s.size) (h47 : s.size ≤ 140737488355328) :
  (Builtin.append_ #[t, u] ty #[.slice none 0 0, .string s]).run P w =
   .ok (.slice (some ⟨w.heap.size, 0, none⟩) s.size (grownCap w s.size 0 e))
    (w.drew.alloc (.cells ((h5v s).toArray ++ Builtin.zeroCells z.cells (grownCap w s.size 0 e - s.size)) e)) := by
 have hn : ¬ (s.size = 0) := by omega
 have h63' : ¬ (9223372036854775807 < (s.size : Int)) := by omega
 have hfit : Builtin.nextslicecap s.size 0 * 1 ≤ 281474976710656 := growslice_fits hg (by omega)
 have h48' : ¬ (281474976710656 < Builtin.nextslicecap s.size 0) := by omega
 have hf := firstCells_str (P:=P) s w.drew
 have hf0 : (Builtin.firstCells 1 0 (.slice none 0 0)).run P w.drew = .ok #[] w.drew := by
  simp [Builtin.firstCells, Sem.run_pure]
 simp [Builtin.append_, run_underlying ht, run_underlying hu, sizeOf, typeInfo, zeroValue, hi, hz, h1, hb1, Builtin.lenOf, hn, h63', h48', Question.forced, hf, hf0, newRow, grownCap]
theorem K1_appendStrN {E : Nat} {t tt : TypeId} {inf : TypeInfo} {z : Value} {s y : Operand} {str : ByteArray}
  (hd : Nat.blt d n = true) (ht : P.underlying t = some (.slice E)) (hu : P.underlying tt = some .string) (hi : P.info? E = some inf) (hz : inf.zero = some z) (hsize : inf.size = 1) (hby : inf.bytes = 1) (hzs : z.cells.size = 1)
  (hs : ev l s = some (.slice none 0 0)) (hy : ev l y = some (.string str)) (hm : 0 < str.size) (h47 : str.size ≤ 140737488355328)
  (h : ∀ v' e', Own E 1 v' str.size (h5v str) e' → G n ((d, v') :: l) S w0 (e' ++ L) K) :
  G n l S w0 L (K1 P ops k ⟨some d, .call { callee := .builtin .append, args := #[s, y], argTypes := #[t, tt] }, ty, pos, af, none⟩ K) := .mk fun a w hf H => h5a rfl <| by
 have hlen : (h5v str).length = str.size * 1 := by rw [sBytes_len, Nat.mul_one]
 unfold Oper.wp execOp
 simp only [resolve, invoke, builtin, Sem.run_bind, Sem.run_pure, Result.andThen_ok, List.map_toArray, List.map_cons, List.map_nil, hf.eval hs, hf.eval hy]
 have hr := run_appS_nil (P:=P) w t tt ty E inf z ht hu hi hz hsize hby str hm h47
 rw [hr]
 have hge := grownCap_ge w str.size 0 E
 have hcm2 : grownCap w str.size 0 E ≤ maxLen := grownCap_le_maxLen w str.size 0 E h5t
 refine (h _ [⟨true, w.heap.size, .cells ((h5v str).toArray ++ Builtin.zeroCells z.cells (grownCap w str.size 0 E - str.size)) E (0, 0)⟩] ⟨hlen, .inr ⟨w.heap.size, _, _, rfl, rfl, hge, hcm2, ?_, ?_⟩⟩).out _ _ (hf.put (some d) _ hd) (H.drew.alloc _)
 ·simp only [Array.size_append, List.size_toArray, size_zeroCells, hzs, sBytes_len, Nat.mul_one]
  omega
 ·simp only [Array.toList_append]
  rw [← hlen]
  exact List.take_left
end
abbrev bB (b : Nat) (p v : Value) : Blk := ⟨true, b, .cells #[p, v] 109 (0, 0)⟩
abbrev bP (b : Nat) : Value := .pointer (some ⟨b, 0, none⟩)
theorem ccheck_c {S w0 L} (b : Nat) (p v : Value) (hp : p = .pointer none ∨ p = bP b) : Fn Tryz.prog 58 #[bP b] S w0 (bB b p v :: L) fun r L' => r = h2y [] ∧ bB b (bP b) v :: L = L' := by
 rcases hp with rfl | rfl
 ·refine Fn1 Tryz.func58 Tryz.ntmps58 rfl rfl ?_
  repeat' (first | refine h0i ?_ | refine h0b ?_ | refine h0g rfl ?_ | (refine gR 0 (p_m (h:=p_n (h:=p_e (q_f fo_109_0) (h:=p_e q_l (h:=p_e (q_b (r:=by exact rb_peq_nn Tryz.underlying107)) (h:=h0a ?_))))))) | (refine gR 1 (p_m (h:=p_m (h:=q_e (by apply E_toUnsafe (t:=109) (m:=2); exact rfl; exact Tryz.underlying107; exact Tryz.underlying189; kernel_rfl; exact rfl; exact fd0; exact Nat.le_of_ble_eq_true rfl) ?_))) <;> (try refine h0c ?_; (refine K1_noEsc (F:=85) Tryz.func85 (by kernel_rfl) (by kernel_rfl) (by kernel_rfl) (by kernel_rfl) rfl rfl ?_)) <;> (try refine p_e (by apply E_fromUnsafe (u:=109) (m:=2); exact rfl; exact Tryz.underlying189; exact Tryz.underlying107; kernel_rfl; exact fd0; kernel_rfl) (h:=p_n (h:=q_e (q_f fo_109_0) ?_))) <;> (try refine h0c ?_; (refine q_S ?_)) <;> (try refine h0a ?_)))
  (first | refine h0o Tryz.results58 .nil ?_ | refine h2v Tryz.results58 .nil ?_)
  exact ⟨_, ⟨rfl, rfl⟩, fun _ H => H⟩
 ·refine Fn1 Tryz.func58 Tryz.ntmps58 rfl rfl ?_
  repeat' (first | refine h0i ?_ | refine h0b ?_ | refine h0r ?_ | refine h0f rfl ?_ | (refine gR 0 (p_m (h:=p_n (h:=p_e (q_f fo_109_0) (h:=p_e q_l (h:=p_e (q_b (r:=by exact h3x Tryz.underlying107)) (h:=h0a ?_))))))) | (refine gR 2 (p_m (h:=p_n (h:=p_e (q_f fo_109_0) (h:=p_e q_l (h:=p_m (h:=p_e (q_b (r:=by exact rb_pne_same (m:=2) Tryz.underlying107 (by kernel_rfl))) (h:=h0a ?_)))))))))
  (first | refine h0o Tryz.results58 .nil ?_ | refine h2v Tryz.results58 .nil ?_)
  exact ⟨_, ⟨rfl, rfl⟩, fun _ H => H⟩
set_option maxHeartbeats 1000000 in
theorem bwrite_c {S w0 L} (b : Nat) (p v : Value) (hp : p = .pointer none ∨ p = bP b) (n : Nat) (bs : List Value) (e : List Blk) (hn : n ≤ 1000000) (hown : Own 5 1 v n bs e) (hv : v = .slice none 0 0 ∨ 0 < n) (s : ByteArray) (hs : s.size ≤ 1000000) (hs1 : 0 < s.size) :
  Fn Tryz.prog 29 #[bP b, .string s] S w0 (bB b p v :: (e ++ L)) fun r L' => r = h2y [.int .i64 s.size, .nilIface] ∧ ∃ v' e', Own 5 1 v' (n + s.size) (bs ++ h5v s) e' ∧ bB b (bP b) v' :: (e' ++ L) = L' := by
 have hcc := fun (L : List Blk) => ccheck_c (S:=S) (w0:=w0) (L:=L) b p v hp
 rcases h2z hown with ⟨rfl, rfl, rfl, rfl⟩ | ⟨g, cap, cur, rfl, rfl, h1, h2, h3, h4⟩
 ·clear hown hv
  refine Fn2 Tryz.func29 Tryz.ntmps29 rfl rfl ?_
  simp only [List.nil_append]
  repeat' (first | refine h0i ?_ | refine h0b ?_ | refine h0v ?_ | (refine gR 0 (p_a (h:=p_a (h:=h0a ?_)))) | (refine gR 1 (q_m ?_) <;> (try refine h0c ?_; (refine h1i (F:=58) (by kernel_rfl) rfl rfl (hcc _) ?_; rintro _ _ ⟨rfl, rfl⟩)) <;> (try refine h0a ?_)) | (refine gR 2 (p_m (h:=p_m (h:=p_n (h:=p_e (q_f fo_109_1) (h:=p_e q_l (h:=q_m ?_)))))) <;> (try refine h0c ?_; (apply K1_appendStrN; exact rfl; exact Tryz.underlying45; exact Tryz.underlying9; exact inf_5_i; exact inf_5_z; exact inf_5_s; exact inf_5_b; exact rfl; exact rfl; exact rfl; omega; omega; intro vA eA hownA; obtain ⟨gA, capA, curA, rfl, rfl, hA1, hA2, hA3, hA4⟩ := hownA.some (by omega))) <;> (try refine p_n (h:=q_e (q_f fo_109_1) ?_)) <;> (try refine h0c ?_; (apply h6o (t:=45); exact rfl; exact rfl; (focus (repeat (first | exact fd0 | apply fdA))); exact rfl; exact rfl; kernel_rfl; exact Nat.le_of_ble_eq_true rfl; exact c_29; (try simp only [List.set_cons_succ]); (try simp only [List.set_cons_zero]))) <;> (try refine h0a ?_)) | (refine gR 3 (p_m (h:=p_e (h0e rfl (fun _ => BigFrame.builtin_len ..) (h0p Tryz.underlying9)) (h:=p_a (h:=p_a (h:=h0a ?_)))))))
  (refine h0o Tryz.results29 (.tmp rfl (.tmp rfl .nil)) ?_)
  refine ⟨_, ⟨rfl, .slice (some ⟨gA, 0, none⟩) s.size capA, [⟨true, gA, .cells curA 5 (0, 0)⟩], ?_, rfl⟩, fun _ H => H.perm (.swap _ _ _)⟩
  rw [Nat.zero_add]; exact h3v hA1 hA2 hA3 hA4
 ·have hn0 : 0 < n := by
   rcases hv with h | h
   ·cases h
   ·exact h
  unfold maxLen at h2
  clear hown hv
  simp only [List.cons_append, List.nil_append]
  refine Fn2 Tryz.func29 Tryz.ntmps29 rfl rfl ?_
  repeat' (first | refine h0i ?_ | refine h0b ?_ | refine h0v ?_ | (refine gR 0 (p_a (h:=p_a (h:=h0a ?_)))) | (refine gR 1 (q_m ?_) <;> (try refine h0c ?_; (refine h1i (F:=58) (by kernel_rfl) rfl rfl (hcc _) ?_; rintro _ _ ⟨rfl, rfl⟩)) <;> (try refine h0a ?_)) | (refine gR 2 (p_m (h:=p_m (h:=p_n (h:=p_e (q_f fo_109_1) (h:=p_e q_l (h:=q_m ?_)))))) <;> (try refine h0c ?_; (apply K1_appendStrB; exact rfl; exact Tryz.underlying45; exact Tryz.underlying9; exact inf_5_i; exact inf_5_z; exact inf_5_s; exact inf_5_b; exact rfl; exact rfl; exact rfl; exact h3i; (with_reducible assumption); exact h5t; (with_reducible assumption); omega; omega; exact h5x; exact c_4; (try simp only [zzE, zzF]); intro vA eA hownA; obtain ⟨gA, capA, curA, rfl, rfl, hA1, hA2, hA3, hA4⟩ := hownA.some (by omega))) <;> (try refine p_n (h:=q_e (q_f fo_109_1) ?_)) <;> (try refine h0c ?_; (apply h6o (t:=45); exact rfl; exact rfl; (focus (repeat (first | exact fd0 | apply fdA))); exact rfl; exact rfl; kernel_rfl; exact Nat.le_of_ble_eq_true rfl; exact c_29; (try simp only [List.set_cons_succ]); (try simp only [List.set_cons_zero]))) <;> (try refine h0a ?_)) | (refine gR 3 (p_m (h:=p_e (h0e rfl (fun _ => BigFrame.builtin_len ..) (h0p Tryz.underlying9)) (h:=p_a (h:=p_a (h:=h0a ?_)))))))
  (refine h0o Tryz.results29 (.tmp rfl (.tmp rfl .nil)) ?_)
  refine ⟨_, ⟨rfl, .slice (some ⟨gA, 0, none⟩) (n + s.size) capA, [⟨true, gA, .cells curA 5 (0, 0)⟩], ?_, rfl⟩, fun _ H => H.perm (.swap _ _ _)⟩
  rw [← h4]; exact h3v hA1 hA2 hA3 hA4
set_option maxHeartbeats 1000000 in
theorem bstring_c {S w0 L} (b : Nat) (p v : Value) (z : List UInt8) (e : List Blk) (hz : 0 < z.length) (hl : z.length ≤ 1000000) (hown : Own 5 1 v z.length (Lib.byteCells z) e) :
  Fn Tryz.prog 35 #[bP b] S w0 (bB b p v :: (e ++ L)) fun r L' => r = .string (mB8 z) ∧ L = L' := by
 obtain ⟨g, cap, cur, rfl, rfl, h1, h2, h3, h4⟩ := hown.some hz
 unfold maxLen at h2
 have h4' : cur.toList.take z.length = Lib.byteCells z := by rw [Nat.mul_one] at h4; exact h4
 have hzz : z.length = z.length := rfl
 clear hown h4
 simp only [List.cons_append, List.nil_append]
 refine Fn1 Tryz.func35 Tryz.ntmps35 rfl rfl ?_
 repeat' (first | refine h0i ?_ | refine h0b ?_ | refine h0v ?_ | (refine gR 0 (p_a (h:=h0a ?_))) | ((apply h4a (i:=1) (id:=1) (m:=12); exact c_11; kernel_rfl; exact rfl) <;> (try refine q_t 0 (e:=c_6) (x:=by exact h0h rfl) (h:=q_t 1 (e:=c_6) (x:=by exact h0l rfl) (h:=q_t 2 (e:=c_6) (x:=by exact q_f fo_109_1) (h:=q_t 3 (e:=c_6) (x:=by exact q_l) (h:=q_t 4 (e:=c_6) (x:=by apply E_sliceData; exact rfl; omega) (h:=q_t 5 (e:=c_6) (x:=by exact h0h rfl) (h:=q_t 6 (e:=c_6) (x:=by exact h0l rfl) (h:=q_t 7 (e:=c_6) (x:=by exact q_f fo_109_1) (h:=q_t 8 (e:=c_6) (x:=by exact q_l) (h:=q_t 9 (e:=c_6) (x:=by apply h0e; exact rfl; exact (fun _ => BigFrame.builtin_len ..); apply h0d Tryz.underlying45; exact h3m) (h:=?_))))))))))) <;> (try refine q_r 10 ?_; (apply K1_unsafeStr; exact rfl; exact rfl; exact rfl; exact h3i; exact Tryz.underlying178; kernel_rfl; (with_reducible assumption); omega; omega; omega; (with_reducible assumption); (try simp only [zzE, zzF])); refine h1b c_6 ?_) <;> (try refine q_t 11 (e:=c_6) (x:=by exact h3f rfl) (h:=h1a (by kernel_rfl) ?_))))
 all_goals
  (refine h0o Tryz.results35 (.tmp rfl .nil) ?_)
  exact ⟨_, ⟨rfl, rfl⟩, by intro w H; refine H.sub ?_; (try simp only [zzC, zzN]); repeat (first | exact List.Sublist.refl _ | refine List.Sublist.cons _ ?_)⟩
section
variable {P : Program} {n : Nat} {l : List (Nat × Value)} {S : List Nat} {w0 : World} {L : List Blk} {d : Tmp} {ty : TypeId} {pos : String} {af : Array Edge}
theorem E_sliceDataN {x : Operand} {ats : Array TypeId} (hx : ev l x = some (.slice none 0 0)) : ValOf P n l S w0 L ⟨some d, .call { callee := .builtin .unsafeSliceData, args := #[x], argTypes := ats }, ty, pos, af, none⟩ (.pointer none) :=
 h0e (xs:=[x]) (vs:=[.slice none 0 0]) (by simp [evs, hx]) (fun cs => BigFrame.builtin_unsafeSliceData ..) ⟨fun _ => rfl⟩
theorem E_unsafeStr0 {x y : Operand} {pt it : TypeId} {p : Option Addr} (hx : ev l x = some (.pointer p)) (hy : ev l y = some (.int .i64 0)) : ValOf P n l S w0 L ⟨some d, .call { callee := .builtin .unsafeString, args := #[x, y], argTypes := #[pt, it] }, ty, pos, af, none⟩ (.string .empty) :=
 h0e (xs:=[x, y]) (vs:=[.pointer p, .int .i64 0]) (by simp [evs, hx, hy]) (fun cs => BigFrame.builtin_unsafeString ..) ⟨fun w => Lib.run_unsafeString_none w pt it _ p⟩
end
set_option maxHeartbeats 1000000 in
theorem bstring0_c {S w0 L} (b : Nat) (p : Value) :
  Fn Tryz.prog 35 #[bP b] S w0 (bB b p (.slice none 0 0) :: L) fun r L' => r = .string .empty ∧ L = L' := by
 refine Fn1 Tryz.func35 Tryz.ntmps35 rfl rfl ?_
 repeat' (first | refine h0i ?_ | refine h0a ?_ | refine h0b ?_ | refine h0s ?_ | refine h1p ?_ | refine h3q ?_ | refine h1f ?_ | refine h0t ?_ | refine h0x ?_ | refine h1k ?_ | refine h1o ?_ | refine G_blk_y rfl ?_ | refine h0j ?_ | refine h0r ?_ | refine h2c ?_ | refine h0v ?_ | refine h0g rfl ?_ | refine h0f rfl ?_ | (refine gR 0 ?_ <;> (try refine h0c ?_; (first | (refine q_k (h3f rfl) ?_))) <;> (try refine h0a ?_)) | ((refine h1z (id:=1) (m:=12) (by kernel_rfl) rfl ?_) <;> (try first | (refine q_t 0 (e:=c_13) (x:=by first | exact h0h rfl) (h:=?_)) | (refine G_stuck ?_)) <;> (try first | (refine q_t 1 (e:=c_13) (x:=by first | exact h0l rfl) (h:=?_)) | (refine G_stuck ?_)) <;> (try first | (refine q_t 2 (e:=c_13) (x:=by first | (first | (exact q_f fo_109_1) | (exact q_g fo_109_1))) (h:=?_)) | (refine G_stuck ?_)) <;> (try first | (refine q_t 3 (e:=c_13) (x:=by first | (apply h1v (t:=45); exact rfl; (focus (repeat (first | exact fd0 | (with_reducible assumption) | apply fdA | apply fdS))); kernel_rfl; kernel_rfl; (focus (first | (with_reducible assumption) | exact rfl)))) (h:=?_)) | (refine G_stuck ?_)) <;> (try first | (refine q_t 4 (e:=c_13) (x:=by first | (apply E_sliceDataN; exact rfl)) (h:=?_)) | (refine G_stuck ?_)) <;> (try first | (refine q_t 5 (e:=c_13) (x:=by first | exact h0h rfl) (h:=?_)) | (refine G_stuck ?_)) <;> (try first | (refine q_t 6 (e:=c_13) (x:=by first | exact h0l rfl) (h:=?_)) | (refine G_stuck ?_)) <;> (try first | (refine q_t 7 (e:=c_13) (x:=by first | (first | (exact q_f fo_109_1) | (exact q_g fo_109_1))) (h:=?_)) | (refine G_stuck ?_)) <;> (try first | (refine q_t 8 (e:=c_13) (x:=by first | (apply h1v (t:=45); exact rfl; (focus (repeat (first | exact fd0 | (with_reducible assumption) | apply fdA | apply fdS))); kernel_rfl; kernel_rfl; (focus (first | (with_reducible assumption) | exact rfl)))) (h:=?_)) | (refine G_stuck ?_)) <;> (try first | (refine q_t 9 (e:=c_13) (x:=by first | (apply h0e; exact rfl; exact (fun _ => BigFrame.builtin_len ..); apply h0d Tryz.underlying45; exact h3m)) (h:=?_)) | (refine G_stuck ?_)) <;> (try first | (refine q_t 10 (e:=c_13) (x:=by first | (apply E_unsafeStr0; exact rfl; exact rfl)) (h:=?_)) | (refine G_stuck ?_)) <;> (try first | (refine q_t 11 (e:=c_13) (x:=by first | exact h3f rfl) (h:=?_)) | (refine G_stuck ?_)) <;> (try refine h1a (by kernel_rfl) ?_)) | ((first | (refine G_cond_nd rfl (fun hc => ?_) (fun hc => ?_)) | (refine h5z rfl (fun hc => ?_) (fun hc => ?_)) | (refine G_cond rfl (fun hc => ?_) (fun hc => ?_))) <;> (try subst hc)))
 all_goals
  (refine h0o Tryz.results35 (.tmp rfl .nil) ?_)
  exact ⟨_, ⟨rfl, rfl⟩, by intro w H; refine H.sub ?_; (try simp only [zzC, zzN]); repeat (first | exact List.Sublist.refl _ | refine List.Sublist.cons_cons _ ?_ | refine List.Sublist.cons _ ?_ | refine List.sublist_append_of_sublist_right ?_)⟩
def BldI (b : Nat) (z : List UInt8) (B : List Blk) : Prop := ∃ p v e, B = bB b p v :: e ∧ (p = .pointer none ∨ p = bP b) ∧ Own 5 1 v z.length (Lib.byteCells z) e ∧ (v = .slice none 0 0 ∨ 0 < z.length)
theorem bldi_0 (b : Nat) : BldI b [] [bB b (.pointer none) (.slice none 0 0)] := ⟨_, _, [], rfl, .inl rfl, Own.nil _ _, .inl rfl⟩
theorem bldi_t {S w0 L} {b : Nat} {z : List UInt8} {B : List Blk} (h : BldI b z B) (hz : z.length ≤ 1000000) (s : ByteArray) (hs : s.size ≤ 1000000) (hs1 : 0 < s.size) :
  Fn Tryz.prog 29 #[bP b, .string s] S w0 (B ++ L) fun r L' => r = h2y [.int .i64 s.size, .nilIface] ∧ ∃ B', BldI b (z ++ lB s) B' ∧ B' ++ L = L' := by
 obtain ⟨p, v, e, rfl, hp, hown, hnn⟩ := h
 refine (bwrite_c (S:=S) (w0:=w0) (L:=L) b p v hp _ _ e hz hown hnn s hs hs1).mono ?_
 rintro r L' ⟨rfl, v', e', h', rfl⟩
 refine ⟨_, ⟨rfl, bB b (bP b) v' :: e', ⟨_, v', e', rfl, .inr rfl, ?_, .inr ?_⟩, rfl⟩, fun _ H => H⟩
 ·have e1 : (z ++ lB s).length = z.length + s.size := by rw [List.length_append, h2x]
  have e2 : Lib.byteCells (z ++ lB s) = Lib.byteCells z ++ h5v s := by
   unfold Lib.byteCells
   rw [List.map_append]; rfl
  rw [e1, e2]; exact h'
 ·rw [List.length_append, h2x]; omega
theorem bldi_s {S w0 L} {b : Nat} {z : List UInt8} {B : List Blk} (h : BldI b z B) (hz : z.length ≤ 1000000) :
  Fn Tryz.prog 35 #[bP b] S w0 (B ++ L) fun r L' => r = .string (mB8 z) ∧ L = L' := by
 obtain ⟨p, v, e, rfl, hp, hown, hnn⟩ := h
 by_cases h0 : 0 < z.length
 ·exact bstring_c b p v z e h0 hz hown
 ·have hv : v = .slice none 0 0 := by
   rcases hnn with h | h
   ·exact h
   ·exact absurd h h0
  subst hv
  have hz0 : z = [] := List.eq_nil_of_length_eq_zero (by omega)
  subst hz0
  exact .mk fun w H => (bstring0_c (S:=S) (w0:=w0) (L:=L) b p).out w (H.sub (.cons_cons _ (List.sublist_append_right _ _)))
theorem actOk_lt {a : Int} (h0 : 0 ≤ a) (h : h6d a = true) : a < 4294967296 := by
 unfold h6d at h
 rw [decide_eq_true_eq] at h
 rcases h with rfl | rfl | rfl | ⟨h1, -, -⟩
 ·omega
 ·omega
 ·omega
 ·have hk : h4u a 65535 = 327680 := by
   unfold kndA at h1
   split at h1
   ·exact h1
   ·cases h1
  have h2 := and_split a h0
  have h3 := and_lt a
  omega
theorem bldi_tp {S w0} {b : Nat} {z : List UInt8} {B : List Blk} (pre M : List Blk) (h : BldI b z B) (hz : z.length ≤ 1000000) (s : ByteArray) (t : List UInt8) (ht : s = mB8 t) (hs : t.length ≤ 1000000) (hs1 : 0 < t.length) :
  Fn Tryz.prog 29 #[bP b, .string s] S w0 (pre ++ (B ++ M)) fun r L' => r = h2y [.int .i64 s.size, .nilIface] ∧ ∃ B', BldI b (z ++ t) B' ∧ pre ++ (B' ++ M) = L' := by
 subst ht
 refine Fn.weak (fun w H => H.perm (List.perm_append_comm_assoc ..)) ((bldi_t (S:=S) (w0:=w0) (L:=pre ++ M) h hz (mB8 t) (by rw [h2d]; exact hs) (by rw [h2d]; exact hs1)).mono ?_)
 rintro r L' ⟨rfl, B', hB, rfl⟩
 rw [h3y] at hB
 exact ⟨_, ⟨rfl, B', hB, rfl⟩, fun w H => H.perm (List.perm_append_comm_assoc ..)⟩
theorem actT_len {a : Int} (h : h6d a = true) : (actT a).length ≤ 27 := Nat.le_trans (spcL_len _) (actL_ok h).2.2
structure T1I (P : Pol) (b : Nat) (g : Nat × Nat × Nat × List Blk) : Prop where
 le : g.1 ≤ P.rules.length
 bld : BldI b (lnsT ([[wN tPolicy, wN P.nm], wN tDefault :: actL P.df] ++ (P.rules.take g.1).map rulL)) g.2.2.2
theorem t1_len {P : Pol} (h : PolOk P) (hr : PolRn P) (k : Nat) : (lnsT ([[wN tPolicy, wN P.nm], wN tDefault :: actL P.df] ++ (P.rules.take k).map rulL)).length ≤ 55000 := by
 have h1 := (polL_ok P h hr).2
 have e : polL P = ([[wN tPolicy, wN P.nm], wN tDefault :: actL P.df] ++ (P.rules.take k).map rulL) ++ ((P.rules.drop k).map rulL ++ (hanL P.hd ++ (P.paths.map benL ++ P.ports.map porL))) := by
  rw [List.append_assoc, ← List.append_assoc ((P.rules.take k).map rulL), ← List.map_append, List.take_append_drop]; rfl
 unfold polT at h1
 rw [e, lnsT_app, List.length_append] at h1
 omega
def linA (P : Pol) : List (List W3) := [[wN tPolicy, wN P.nm], wN tDefault :: actL P.df] ++ P.rules.map rulL
def linB (P : Pol) : List (List W3) := linA P ++ hanL P.hd
def linC (P : Pol) (k : Nat) : List (List W3) := linB P ++ (P.paths.take k).map benL
def linD (P : Pol) (k : Nat) : List (List W3) := linC P P.paths.length ++ (P.ports.take k).map porL
theorem linD_all (P : Pol) : linD P P.ports.length = polL P := by
 unfold linD linC linB linA polL
 rw [List.take_length, List.take_length]
 simp only [List.append_assoc]; rfl
theorem pfx_len {P : Pol} (h : PolOk P) (hr : PolRn P) {A B : List (List W3)} (e : polL P = A ++ B) : (lnsT A).length ≤ 55000 := by
 have h1 := (polL_ok P h hr).2
 unfold polT at h1
 rw [e, lnsT_app, List.length_append] at h1
 omega
theorem linD_len {P : Pol} (h : PolOk P) (hr : PolRn P) (k : Nat) : (lnsT (linD P k)).length ≤ 55000 := by
 refine pfx_len (B:=(P.ports.drop k).map porL) h hr ?_
 rw [← linD_all]
 unfold linD
 rw [List.take_length, List.append_assoc, ← List.map_append, List.take_append_drop]
theorem linC_len {P : Pol} (h : PolOk P) (hr : PolRn P) (k : Nat) : (lnsT (linC P k)).length ≤ 55000 := by
 refine pfx_len (B:=(P.paths.drop k).map benL ++ P.ports.map porL) h hr ?_
 rw [← linD_all]
 unfold linD linC
 rw [List.take_length, List.take_length, List.append_assoc, List.append_assoc, ← List.append_assoc ((P.paths.take k).map benL), ← List.map_append, List.take_append_drop]
set_option maxHeartbeats 2000000 in
theorem ptext_c {S w0 L} (P : Pol) (h : PolOk P) (hr : PolRn P) (vr vp vq : Value) (hS : PolS L P.g vr vp vq) (ct m1 m2 n : Nat) (hn : n ≤ 90000) :
  Fn Tryz.prog 13 #[.agg (polC P vr vp vq).toArray, .pointer (some ⟨ct, 0, none⟩)] S w0 (tbS ct m1 m2 n ++ L) fun v L' => ∃ m1' m2', v = .string (mB8 (polT P)) ∧ tbS ct m1' m2' (n + P.rules.length) ++ L = L' := by
 obtain ⟨⟨ra, rc, cz, e1, hrs, hrg⟩, ⟨pa, pc, e2, hps⟩, ⟨qa, qc, e3, hqs⟩, -, -, -⟩ := hS
 subst e1 e2 e3
 have elr : P.g.rules.length = P.rules.length := List.length_map ..
 have elp : P.g.paths.length = P.paths.length := rfl
 have elq : P.g.ports.length = P.ports.length := rfl
 rw [elr, elp, elq]
 rw [elr] at hrs
 rw [elp] at hps
 rw [elq] at hqs
 have hat := fun (L : List Blk) => acttext_c (S:=S) (w0:=w0) (L:=L) P.df ⟨h.df0, actOk_lt h.df0 h.df⟩
 have hnl := (nm_ok h.nm).2
 have hal := actT_len h.df
 have hz1 : (mB8 P.nm).size ≤ 14 := by rw [h2d]; exact hnl
 have hz2 : (mB8 (actT P.df)).size ≤ 27 := by rw [h2d]; exact hal
 have c1 : (⟨#[112, 111, 108, 105, 99, 121, 32]⟩ : ByteArray).size = 7 := rfl
 have c2 : (⟨#[10, 100, 101, 102, 97, 117, 108, 116, 32]⟩ : ByteArray).size = 9 := rfl
 have c3 : (⟨#[10]⟩ : ByteArray).size = 1 := rfl
 have hhd : ((((⟨#[112, 111, 108, 105, 99, 121, 32]⟩ : ByteArray) ++ mB8 P.nm) ++ (⟨#[10, 100, 101, 102, 97, 117, 108, 116, 32]⟩ : ByteArray)) ++ mB8 (actT P.df)) ++ (⟨#[10]⟩ : ByteArray) = mB8 (lnsT [[wN tPolicy, wN P.nm], wN tDefault :: actL P.df]) := by
  rw [headT_eq, show (⟨#[112, 111, 108, 105, 99, 121, 32]⟩ : ByteArray) = mB8 [112, 111, 108, 105, 99, 121, 32] from rfl, show (⟨#[10, 100, 101, 102, 97, 117, 108, 116, 32]⟩ : ByteArray) = mB8 [10, 100, 101, 102, 97, 117, 108, 116, 32] from rfl, show (⟨#[10]⟩ : ByteArray) = mB8 [10] from rfl]
  simp only [h6m, List.append_assoc]
 have hlh := t1_len h hr 0
 rw [List.take_zero, List.map_nil, List.append_nil] at hlh
 have hlh1 : 0 < (lnsT [[wN tPolicy, wN P.nm], wN tDefault :: actL P.df]).length := by rw [headT_eq]; simp
 dsimp only [polC]
 refine Fn2 Tryz.func13 Tryz.ntmps13 rfl rfl ?_
 repeat' (first | (refine h3s (id:=2) ?_) | refine h0i ?_ | refine h0b ?_ | (refine gR 0 ?_ <;> (try refine h0c ?_; (refine h2n (t:=36) rfl rfl ?_; intro nb hnb; (try simp only [Value.cells]))) <;> (try refine p_a (h:=h0a ?_))) | (refine gR 1 ?_ <;> (try refine h0c ?_; (refine h0k (t:=109) rfl Tryz.zeroValue109 ?_; intro nb hnb; (try simp only [Value.cells]))) <;> (try refine h0a ?_)))
 refine ⟨?_⟩
 rename_i n2 h2
 obtain ⟨n5, rfl⟩ : ∃ x, x = nb := ⟨_, rfl⟩
 have hw := fun (x : Blk) (M : List Blk) => bldi_tp (S:=S) (w0:=w0) [x] M (bldi_0 n5) (Nat.zero_le _) _ _ hhd (by omega) hlh1
 dsimp only [List.cons_append, List.nil_append] at hw
 refine h5h (L' := ⟨true, n2, .cells #[.string (mB8 P.nm), .int .u32 P.df, .slice ra P.rules.length rc, .int .u16 (P.hd : Nat), .slice pa P.paths.length pc, .slice qa P.ports.length qc] 36 (0, 0)⟩ :: bB n5 (.pointer none) (.slice none 0 0) :: (tbS ct m1 m2 n ++ L)) (fun w H => H.perm (List.Perm.swap ..)) ?_
 generalize mB8 (actT P.df) = at_ at *
 repeat' (first | (refine h2h (id:=0) ?_) | refine h0i ?_ | refine h0b ?_ | ((refine h2s (pre:=[_]) (id:=2) (m:=10) rfl (by kernel_rfl) rfl (q_t 0 (e:=h3e) (x:=by exact q_f h6b) (h:=q_t 1 (e:=h3e) (x:=by exact q_l) (h:=q_t 2 (e:=h3e) (x:=by exact q_b (r:=by apply h1t; exact rfl; (focus (omega)))) (h:=q_t 3 (e:=h3e) (x:=by exact q_b (r:=by apply h1t; exact rfl; (focus (simp only [ByteArray.size_append]; omega)))) (h:=q_t 4 (e:=h3e) (x:=by exact q_f fo_36_1) (h:=q_t 5 (e:=h3e) (x:=by exact q_l) (h:=?_)))))))) <;> (try refine q_r 6 ?_; (refine q_c 30 (c:=by apply hat) (h:=?_); rintro _ _ ⟨rfl, rfl⟩; (try simp only [zzE, zzF])); refine h1b h3e ?_) <;> (try refine q_t 7 (e:=h3e) (x:=by exact q_b (r:=by apply h1t; exact rfl; (focus (simp only [ByteArray.size_append]; omega)))) (h:=q_t 8 (e:=h3e) (x:=by exact q_b (r:=by apply h1t; exact rfl; (focus (simp only [ByteArray.size_append]; omega)))) (h:=?_))) <;> (try refine q_r 9 ?_; (refine q_c 29 (c:=by apply hw) (h:=?_); rintro _ _ ⟨rfl, B1, hB1, rfl⟩; (try simp only [zzE, zzF])); refine h1b h3e ?_) <;> (try refine h1a (by kernel_rfl) ?_)) | (refine gR 3 (p_e (q_f h2t) (h:=p_e q_l (h:=p_e (by apply h0e; exact rfl; exact (fun _ => BigFrame.builtin_len ..); apply h0d Tryz.underlying30; exact h3m) (h:=p_m (h:=h0a ?_)))))))
 refine ⟨?_⟩
 clear hat hw hhd hlh1 hal hz1 hz2
 refine h2q (γ:=Nat × Nat × List Blk) (fun g => BldI n5 (lnsT ([[wN tPolicy, wN P.nm], wN tDefault :: actL P.df] ++ P.rules.map rulL)) g.2.2) (fun _ => []) [(2, _), (5, _)]
  (fun g => ⟨true, n2, .cells #[.string (mB8 P.nm), .int .u32 P.df, .slice ra P.rules.length rc, .int .u16 (P.hd : Nat), .slice pa P.paths.length pc, .slice qa P.ports.length qc] 36 (0, 0)⟩ :: (g.2.2 ++ (tbS ct g.1 g.2.1 (n + P.rules.length) ++ L))) (.cons rfl (.cons rfl .nil)) ?_ ?_
 ·refine h0j ?_
  refine h2i (γ:=Nat × Nat × Nat × List Blk) (T1I P n5) (fun g => P.rules.length - g.1) (fun g => [(29, .int .i64 (g.1 : Nat))]) [(1, _), (2, _), (5, _), (27, _), (28, _)]
   (fun g => ⟨true, n2, .cells #[.string (mB8 P.nm), .int .u32 P.df, .slice ra P.rules.length rc, .int .u16 (P.hd : Nat), .slice pa P.paths.length pc, .slice qa P.ports.length qc] 36 (0, 0)⟩ :: (g.2.2.2 ++ (tbS ct g.2.1 g.2.2.1 (n + g.1) ++ L))) (0, m1, m2, B1) (.cons rfl (.cons rfl (.cons rfl (.cons rfl (.cons rfl .nil))))) ⟨Nat.zero_le _, by rw [List.take_zero, List.map_nil, List.append_nil]; exact hB1⟩ (by (focus (repeat (first | exact Sub.nil | refine Sub.cons rfl ?_)))) (fun _ H => H) ?_
  clear hB1 B1 hlh
  rintro ⟨k, k1, k2, B⟩ ⟨hk, hB⟩
  dsimp only at hk hB
  simp only [List.cons_append, List.nil_append]
  have hlk := t1_len h hr k
  have hl1 := h.l1
  by_cases hlt : k < P.rules.length
  case neg =>
   obtain rfl : k = P.rules.length := by omega
   rw [List.take_length] at hB
   repeat' (first | refine h0i ?_ | refine h0b ?_ | refine h0s ?_ | refine h1p ?_ | refine h1f ?_ | refine h1o ?_ | refine h2c ?_ | refine h0f rfl ?_ | (refine gR 4 (p_e (q_b (r:=by exact h0y q_o)) (h:=h0a ?_))))
   exact h0w (k1, k2, B) hB (by (focus (repeat (first | exact Sub.nil | refine Sub.cons rfl ?_)))) (fun _ H => H)
  have hlk2 := t1_len h hr (k + 1)
  have hzz : lnsT ([[wN tPolicy, wN P.nm], wN tDefault :: actL P.df] ++ (P.rules.take (k + 1)).map rulL) = lnsT ([[wN tPolicy, wN P.nm], wN tDefault :: actL P.df] ++ (P.rules.take k).map rulL) ++ (spcL (rulL P.rules[k]) ++ [10]) := by
   rw [List.take_succ_eq_append_getElem hlt, List.map_append, ← List.append_assoc]
   exact lnsT_snoc _ _
  have hzb : BldI n5 (lnsT ([[wN tPolicy, wN P.nm], wN tDefault :: actL P.df] ++ (P.rules.take k).map rulL) ++ (spcL (rulL P.rules[k]) ++ [10])) = BldI n5 (lnsT ([[wN tPolicy, wN P.nm], wN tDefault :: actL P.df] ++ (P.rules.take (k + 1)).map rulL)) := by rw [hzz]
  rw [hzz] at hlk2
  clear hzz
  obtain ⟨j, q, bb, off, cs, T, fr, rfl, hj, hsz, hx⟩ := ((hrs.upA (tbS ct k1 k2 (n + k))).upA B).elem hlt
  obtain ⟨v, hv, hcs⟩ := hrg.at_ k (by rw [elr]; exact hlt)
  have egk : P.g.rules[k]'(by rw [elr]; exact hlt) = (P.rules[k]).g := List.getElem_map ..
  rw [egk] at hv hcs
  rw [hv] at hx
  have hro := h.rules _ (List.getElem_mem hlt)
  have hrr := hr.c _ (List.getElem_mem hlt)
  have hzb' := Lib.hid hzb
  generalize lnsT ([[wN tPolicy, wN P.nm], wN tDefault :: actL P.df] ++ (P.rules.take k).map rulL) = Z at *
  generalize P.rules[k] = r at *
  clear egk hv hzb
  obtain ⟨va, vc, rfl, hcsl, hcml⟩ := hcs
  have elc : (RulP.g r).conds.length = r.conds.length := List.length_map ..
  have ecc : gcC (RulP.g r).conds = cndC r.conds := gcC_map _
  rw [elc] at hcsl hcml hx
  rw [ecc] at hcsl
  clear elc ecc
  have hnu := fun (x y : Blk) => numS_c (S:=S) (w0:=w0) (x :: y :: B) L ct k1 k2 (n + k) (by omega) r.num
  obtain ⟨cl, hcl⟩ : ∃ cl, h4w r.num clls = some cl := Option.isSome_iff_exists.1 hro.num
  have hnmo : mB8 (h5j r.num) = cl.name := by unfold h5j; rw [hcl]; exact mB8_lB _
  have hnml : cl.name.size ≤ 14 := by
   have h2 := List.all_eq_true.1 clls_nm cl (cnumF_mem hcl).1
   rw [Bool.and_eq_true, decide_eq_true_eq, h2x] at h2
   exact h2.2
  have hgv : gotV (h4w r.num clls) = h2y [.agg #[.int .u32 cl.num, .string cl.name, .int .i64 cl.args], .bool true] := by rw [hcl]; rfl
  rw [hgv] at hnu
  have hat := fun (L : List Blk) => acttext_c (S:=S) (w0:=w0) (L:=L) r.act ⟨hro.act0, actOk_lt hro.act0 hro.act⟩
  have hal := actT_len hro.act
  have hz2 : (mB8 (actT r.act)).size ≤ 27 := by rw [h2d]; exact hal
  have d1 : (⟨#[99, 97, 108, 108, 32]⟩ : ByteArray).size = 5 := rfl
  have d2 : (⟨#[32]⟩ : ByteArray).size = 1 := rfl
  have het : (((⟨#[99, 97, 108, 108, 32]⟩ : ByteArray) ++ cl.name) ++ (⟨#[32]⟩ : ByteArray)) ++ mB8 (actT r.act) = mB8 ([99, 97, 108, 108, 32] ++ (h5j r.num ++ ([32] ++ actT r.act))) := by
   rw [← hnmo, show (⟨#[99, 97, 108, 108, 32]⟩ : ByteArray) = mB8 [99, 97, 108, 108, 32] from rfl, show (⟨#[32]⟩ : ByteArray) = mB8 [32] from rfl]
   simp only [h6m, List.append_assoc]
  have hru := rulT_eq r
  rw [show [99, 97, 108, 108, 32] ++ (h5j r.num ++ ([32] ++ (actT r.act ++ cnT 0 r.conds))) = ([99, 97, 108, 108, 32] ++ (h5j r.num ++ ([32] ++ actT r.act))) ++ cnT 0 r.conds by simp only [List.append_assoc]] at hru
  rw [hru] at hlk2 hzb'
  have hpl : 0 < ([99, 97, 108, 108, 32] ++ (h5j r.num ++ ([32] ++ actT r.act))).length := by simp
  generalize [99, 97, 108, 108, 32] ++ (h5j r.num ++ ([32] ++ actT r.act)) = pfx at *
  simp only [List.length_append] at hlk2
  have hw := fun (x y z : Blk) (M : List Blk) => bldi_tp (S:=S) (w0:=w0) [x, y, z] M hB (by omega) _ _ het (by omega) hpl
  dsimp only [List.cons_append, List.nil_append] at hw
  have hcok := hro.conds
  obtain ⟨num, act, conds⟩ := r
  dsimp only [RulP.g, List.cons_append] at *
  clear hgv hcl hnmo hru hro
  generalize mB8 (actT act) = at_ at *
  repeat' (first | (refine h2h (id:=2) ?_) | refine h0i ?_ | refine h0b ?_ | refine h0j ?_ | refine h0r ?_ | refine h0g rfl ?_ | refine h0f rfl ?_ | (refine gR 4 (p_e (q_b (r:=by exact h0u q_o)) (h:=h0a ?_))) | (refine gR 5 (p_e (by apply h0n; exact rfl; exact rfl; (focus (apply h2j Tryz.underlying30 sz_73; omega; omega; exact c_1))) (h:=q_e (by apply h1u (t:=73); exact rfl; exact c_19; kernel_rfl; kernel_rfl; exact sz_73; (with_reducible assumption); (with_reducible assumption)) ?_)) <;> (try refine h0c ?_; (refine h0k (t:=73) rfl Tryz.zeroValue73 ?_; intro nb hnb; (try simp only [Value.cells]))) <;> (try refine h0c ?_; (refine q_W ?_)) <;> (try refine h0a ?_)) | (refine gR 6 (p_m (h:=p_e (q_f fo_73_0) (h:=q_e q_l ?_))) <;> (try refine h0c ?_; (refine q_c 31 (c:=by apply hnu) (h:=?_); rintro _ _ ⟨j1, j2, rfl, rfl⟩; (try simp only [zzE, zzF]))) <;> (try refine p_m (h:=p_x (h:=q_x ?_))) <;> (try refine h0c ?_; (refine h0k (t:=116) rfl Tryz.zeroValue116 ?_; intro nb hnb; (try simp only [Value.cells]))) <;> (try refine h0c ?_; (refine q_W ?_)) <;> (try refine p_a (h:=h0a ?_))) | (refine gR 7 (p_m (h:=p_e (by apply h5m; exact rfl; exact h1r) (h:=h0a ?_)))) | ((refine h2s (pre:=[_, _, _]) (id:=9) (m:=9) rfl (by kernel_rfl) rfl (q_t 0 (e:=h3e) (x:=by exact q_f fo_116_1) (h:=q_t 1 (e:=h3e) (x:=by exact q_l) (h:=q_t 2 (e:=h3e) (x:=by exact q_b (r:=by apply h1t; exact rfl; (focus (omega)))) (h:=q_t 3 (e:=h3e) (x:=by exact q_b (r:=by apply h1t; exact rfl; (focus (simp only [ByteArray.size_append]; omega)))) (h:=q_t 4 (e:=h3e) (x:=by exact q_f fo_73_1) (h:=q_t 5 (e:=h3e) (x:=by exact q_l) (h:=?_)))))))) <;> (try refine q_r 6 ?_; (refine q_c 30 (c:=by apply hat) (h:=?_); rintro _ _ ⟨rfl, rfl⟩; (try simp only [zzE, zzF])); refine h1b h3e ?_) <;> (try refine q_t 7 (e:=h3e) (x:=by exact q_b (r:=by apply h1t; exact rfl; (focus (simp only [ByteArray.size_append]; omega)))) (h:=?_)) <;> (try refine q_r 8 ?_; (refine q_c 29 (c:=by apply hw) (h:=?_); rintro _ _ ⟨rfl, B1, hB1, rfl⟩; (try simp only [zzE, zzF])); refine h1b h3e ?_) <;> (try refine h1a (by kernel_rfl) ?_)) | (refine gR 10 (p_e (q_f h2w) (h:=p_e q_l (h:=p_e (by apply h0e; exact rfl; exact (fun _ => BigFrame.builtin_len ..); apply h0d Tryz.underlying71; exact h3m) (h:=p_m (h:=h0a ?_)))))))
  refine ⟨?_⟩
  clear hnu hat hw hB het
  have hcT := cnT_le conds
  refine h2q (γ:=List Blk) (fun B => BldI n5 (Z ++ (pfx ++ cnT 0 conds)) B) (fun _ => []) [(1, _), (2, _), (5, _), (27, _), (28, _), (29, _)]
   (fun B => ⟨true, n2, .cells #[.string (mB8 P.nm), .int .u32 P.df, .slice (some ⟨bb, off, none⟩) P.rules.length rc, .int .u16 (P.hd : Nat), .slice pa P.paths.length pc, .slice qa P.ports.length qc] 36 (0, 0)⟩ :: (B ++ (tbS ct j1 j2 (n + k + 1) ++ L))) (.cons rfl (.cons rfl (.cons rfl (.cons rfl (.cons rfl (.cons rfl .nil)))))) ?_ ?_
  ·refine h0j ?_
   refine h2i (γ:=Nat × List Blk) (fun g => g.1 ≤ conds.length ∧ BldI n5 (Z ++ (pfx ++ cnT 0 (conds.take g.1))) g.2) (fun g => conds.length - g.1) (fun g => [(59, .int .i64 (g.1 : Nat))]) [(1, _), (2, _), (5, _), (27, _), (28, _), (29, _), (57, _), (58, _)]
    (fun g => ⟨true, n2, .cells #[.string (mB8 P.nm), .int .u32 P.df, .slice (some ⟨bb, off, none⟩) P.rules.length rc, .int .u16 (P.hd : Nat), .slice pa P.paths.length pc, .slice qa P.ports.length qc] 36 (0, 0)⟩ :: (g.2 ++ (tbS ct j1 j2 (n + k + 1) ++ L))) (0, B1) (.cons rfl (.cons rfl (.cons rfl (.cons rfl (.cons rfl (.cons rfl (.cons rfl (.cons rfl .nil)))))))) ⟨Nat.zero_le _, by rw [List.take_zero, cnT, List.append_nil]; exact hB1⟩ (by (focus (repeat (first | exact Sub.nil | refine Sub.cons rfl ?_)))) (fun _ H => H.tail.tail) ?_
   clear hB1 B1 B hj
   rintro ⟨i, B⟩ ⟨hi, hB⟩
   dsimp only at hi hB
   simp only [List.cons_append, List.nil_append]
   unfold maxLen at hcml
   by_cases hit : i < conds.length
   ·obtain ⟨j, q, bc, ofc, cs, T, fr, rfl, hj, hsz, hx⟩ := ((hcsl.upA (tbS ct j1 j2 (n + k + 1))).upA B).elem hit
    rw [cndC_at _ _ hit] at hx
    have hci := hcT i
    have hci2 := hcT (i + 1)
    rw [cnT_take conds i hit] at hci2
    have hzi : BldI n5 ((Z ++ (pfx ++ cnT 0 (conds.take i))) ++ (sepT i ++ cndT conds[i])) = BldI n5 (Z ++ (pfx ++ cnT 0 (conds.take (i + 1)))) := by
     rw [cnT_take conds i hit]
     simp only [List.append_assoc]
    have hct := fun (L : List Blk) => condtext_c (S:=S) (w0:=w0) (L:=L) conds[i] (hcok _ (List.getElem_mem hit)) (hrr _ (List.getElem_mem hit)).1 (hrr _ (List.getElem_mem hit)).2
    have hnl := cndT_ne conds[i]
    generalize conds[i] = cd at *
    simp only [List.length_append] at hci2
    have hw2 := fun (x y : Blk) (M : List Blk) => bldi_tp (S:=S) (w0:=w0) [x, y] M hB c_31 (mB8 (sepT i) ++ mB8 (cndT cd)) _ (h6m _ _) c_31 c_31
    have hw3 := fun (x y z : Blk) (M : List Blk) => bldi_tp (S:=S) (w0:=w0) [x, y, z] M hB c_31 (mB8 (sepT i) ++ mB8 (cndT cd)) _ (h6m _ _) c_31 c_31
    rw [hzi] at hw2 hw3
    have hzs : (mB8 (sepT i)).size ≤ 5 := by rw [h2d]; unfold sepT; split <;> simp
    have hzc : (mB8 (cndT cd)).size ≤ 60000 := by rw [h2d]; omega
    have hsep : (#[Value.string ⟨#[32, 105, 102, 32]⟩, .string ⟨#[32, 97, 110, 100, 32]⟩]).toList[(min (i : Int) 1).toNat]? = some (.string (mB8 (sepT i))) := by
     unfold sepT
     by_cases h0 : i = 0
     ·subst h0; rfl
     ·rw [if_neg h0, show (min (i : Int) 1).toNat = 1 by omega]; rfl
    obtain ⟨ca, co, cm, cv⟩ := cd
    dsimp only [List.cons_append, List.nil_append, Cnd.cells] at *
    generalize mB8 (sepT i) = ts at *
    generalize mB8 (cndT ⟨ca, co, cm, cv⟩) = tc at *
    clear hB hzi
    repeat' (first | refine h0i ?_ | refine h0b ?_ | refine h0s ?_ | refine h0x ?_ | refine h0j ?_ | refine h0r ?_ | refine h0g rfl ?_ | (refine gR 11 (p_e (q_b (r:=by exact h0u q_o)) (h:=h0a ?_))) | (refine gR 12 (p_m (h:=p_e (by apply h0n; exact rfl; exact rfl; (focus (apply h2j Tryz.underlying71 h5n; omega; omega; exact c_1))) (h:=q_e (by apply h1u (t:=99); exact rfl; exact c_19; kernel_rfl; kernel_rfl; exact h5n; (with_reducible assumption); (with_reducible assumption)) ?_))) <;> (try refine h0c ?_; (refine h0k (t:=99) rfl Tryz.zeroValue99 ?_; intro nb hnb; (try simp only [Value.cells]))) <;> (try refine q_a ?_) <;> (try refine h0c ?_; (refine q_W ?_)) <;> (try refine h0a ?_)) | ((refine h2s (pre:=[_, _]) (id:=13) (m:=9) rfl (by kernel_rfl) rfl (q_t 1 (e:=h3e) (x:=by exact h0h rfl) (h:=q_t 2 (e:=h3e) (x:=by exact h0e rfl (fun _ => BigFrame.builtin_min ..) r_min) (h:=q_t 5 (e:=h3e) (x:=by exact q_L h5n) (h:=?_))))) <;> (try refine h2g (i:=0) (j:=6) rfl rfl (by kernel_rfl) ?_ ?_ <;> (first | (refine TagA.mk ?_; (((refine h0m (t:=56) (m:=2) (e:=9) (fun vs => (match vs with | [(_, x0), (_, x1)] => [x0, x1] | _ => [])) rfl rfl (fun w => by kernel_rfl) ?_; intro nb hnb; (try simp only [Value.cells]); (try simp only [zzC, zzN])); refine h1b c_8 ?_) <;> (try refine q_t 3 (e:=c_8) (x:=by apply h0n; exact rfl; exact rfl; (focus (apply h2j Tryz.underlying56 sz_9; omega; omega; exact c_1))) (h:=?_)) <;> (try refine h2g (i:=4) (j:=6) rfl rfl (by kernel_rfl) ?_ ?_ <;> (first | (refine TagA.mk ?_; (((refine q_k (by apply h1v (t:=9); exact rfl; exact fd0; kernel_rfl; kernel_rfl; (with_reducible assumption)) ?_); refine h1b c_8 ?_) <;> (try refine q_r 6 ?_; (refine q_c 33 (c:=by apply hct) (h:=?_); rintro _ _ ⟨rfl, rfl⟩; (try simp only [zzE, zzF])); refine h1b c_8 ?_) <;> (try refine q_t 7 (e:=c_8) (x:=by exact q_b (r:=by apply h1t; exact rfl; (focus (omega)))) (h:=?_)) <;> (try refine q_r 8 ?_; (refine q_c 29 (c:=by apply hw3) (h:=?_); rintro _ _ ⟨rfl, B1, hB1, rfl⟩; (try simp only [zzE, zzF])); refine h1b c_8 ?_) <;> (try refine h1a (by kernel_rfl) ?_))) | (refine TagB.mk ?_; (((refine q_c 33 (c:=by apply hct) (h:=?_); rintro _ _ ⟨rfl, rfl⟩; (try simp only [zzE, zzF])); refine h1b c_8 ?_) <;> (try refine q_r 4 ?_; (refine q_k (by apply h1v (t:=9); exact rfl; exact fd0; kernel_rfl; kernel_rfl; (with_reducible assumption)) ?_); refine h1b c_8 ?_) <;> (try refine q_t 7 (e:=c_8) (x:=by exact q_b (r:=by apply h1t; exact rfl; (focus (omega)))) (h:=?_)) <;> (try refine q_r 8 ?_; (refine q_c 29 (c:=by apply hw3) (h:=?_); rintro _ _ ⟨rfl, B1, hB1, rfl⟩; (try simp only [zzE, zzF])); refine h1b c_8 ?_) <;> (try refine h1a (by kernel_rfl) ?_))))))) | (refine TagB.mk ?_; (((refine q_c 33 (c:=by apply hct) (h:=?_); rintro _ _ ⟨rfl, rfl⟩; (try simp only [zzE, zzF])); refine h1b h3e ?_) <;> (try refine q_r 0 ?_; (refine h0m (t:=56) (m:=2) (e:=9) (fun vs => (match vs with | [(_, x0), (_, x1)] => [x0, x1] | _ => [])) rfl rfl (fun w => by kernel_rfl) ?_; intro nb hnb; (try simp only [Value.cells]); (try simp only [zzC, zzN])); refine h1b c_8 ?_) <;> (try refine q_t 3 (e:=c_8) (x:=by apply h0n; exact rfl; exact rfl; (focus (apply h2j Tryz.underlying56 sz_9; omega; omega; exact c_1))) (h:=?_)) <;> (try refine q_r 4 ?_; (refine q_k (by apply h1v (t:=9); exact rfl; exact fd0; kernel_rfl; kernel_rfl; (with_reducible assumption)) ?_); refine h1b c_8 ?_) <;> (try refine q_t 7 (e:=c_8) (x:=by exact q_b (r:=by apply h1t; exact rfl; (focus (omega)))) (h:=?_)) <;> (try refine q_r 8 ?_; (refine q_c 29 (c:=by apply hw3) (h:=?_); rintro _ _ ⟨rfl, B1, hB1, rfl⟩; (try simp only [zzE, zzF])); refine h1b c_8 ?_) <;> (try refine h1a (by kernel_rfl) ?_)))))) | (refine gR 14 ?_ <;> (try refine q_e (q_b (r:=by apply h1n; exact c_5; (focus (refine IntWalk.i64_in _ ?_; omega)))) ?_) <;> (try refine p_m (h:=h0a ?_))))
    all_goals exact h0w (i + 1, B1) ⟨⟨by show i + 1 ≤ conds.length; omega, hB1⟩, by show conds.length - (i + 1) < conds.length - i; omega⟩ (by (focus (repeat (first | exact Sub.nil | refine Sub.cons rfl ?_)))) (fun _ H => H.tail.tail)
   ·obtain rfl : i = conds.length := by omega
    rw [List.take_length] at hB
    repeat' (first | refine h0i ?_ | refine h0b ?_ | refine h0s ?_ | refine h1p ?_ | refine h1f ?_ | refine h1o ?_ | refine h2c ?_ | refine h0f rfl ?_ | (refine gR 11 (p_e (q_b (r:=by exact h0y q_o)) (h:=h0a ?_))))
    exact h0w B hB (by (focus (repeat (first | exact Sub.nil | refine Sub.cons rfl ?_)))) (fun _ H => H)
  rintro B2 hB2
  simp only [List.cons_append, List.nil_append]
  have hw1 := fun (x : Blk) (M : List Blk) => bldi_tp (S:=S) (w0:=w0) [x] M hB2 c_31 ⟨#[10]⟩ [10] rfl (by decide) (by decide)
  rw [show (Z ++ (pfx ++ cnT 0 conds)) ++ [10] = Z ++ (pfx ++ cnT 0 conds ++ [10]) by simp only [List.append_assoc]] at hw1
  rw [hzb'.out] at hw1
  dsimp only [List.cons_append, List.nil_append] at hw1
  clear hB2
  repeat' (first | refine h0b ?_ | refine h0s ?_ | refine h0x ?_ | (refine gR 15 ?_ <;> (try refine h0c ?_; (refine q_c 29 (c:=by apply hw1) (h:=?_); rintro _ _ ⟨rfl, B3, hB3, rfl⟩; (try simp only [zzE, zzF]))) <;> (try refine h0a ?_)) | (refine gR 16 ?_ <;> (try refine q_e (q_b (r:=by apply h1n; exact c_5; (focus (refine IntWalk.i64_in _ ?_; omega)))) ?_) <;> (try refine p_m (h:=h0a ?_))))
  exact h0w (k + 1, j1, j2, B3) ⟨⟨by show k + 1 ≤ P.rules.length; omega, hB3⟩, by show P.rules.length - (k + 1) < P.rules.length - k; omega⟩ (by (focus (repeat (first | exact Sub.nil | refine Sub.cons rfl ?_)))) (fun _ H => H)
 clear hB1 B1 hrs hrg hlh
 rintro ⟨k1, k2, B⟩ hB
 dsimp only at hB
 simp only [List.cons_append, List.nil_append]
 have hB0 : BldI n5 (lnsT (linA P)) B := hB
 clear hB
 have hlc0 := linC_len h hr 0
 have e0 : linC P 0 = linB P := by unfold linC; rw [List.take_zero, List.map_nil, List.append_nil]
 rw [e0] at hlc0
 repeat' (first | (refine G_markc (t:=78) ?_) | refine h0i ?_ | refine h0b ?_ | (refine gR 17 (p_e (q_f h5l) (h:=p_e q_l (h:=p_e (q_b (r:=by exact rb_neq)) (h:=h0a ?_))))))
 refine ⟨?_⟩
 refine h2q (γ:=List Blk) (fun B => BldI n5 (lnsT (linB P)) B) (fun _ => []) [(2, _), (5, _)]
  (fun B => ⟨true, n2, .cells #[.string (mB8 P.nm), .int .u32 P.df, .slice ra P.rules.length rc, .int .u16 (P.hd : Nat), .slice pa P.paths.length pc, .slice qa P.ports.length qc] 36 (0, 0)⟩ :: (B ++ (tbS ct k1 k2 (n + P.rules.length) ++ L))) (.cons rfl (.cons rfl .nil)) ?_ ?_
 ·by_cases h0 : P.hd ≠ 0
  ·have ehl : lnsT (linB P) = lnsT (linA P) ++ lnsT [[wN tHandle, wN (rgT P.hd)]] := by
    unfold linB hanL
    rw [if_pos h0, lnsT_app]
   rw [ehl, List.length_append] at hlc0
   have hrt := fun (L : List Blk) => Rg.text_c (S:=S) (w0:=w0) (L:=L) P.hd (by have h1 := h.hd; have h2 := Nat.and_le_right (n:=P.hd) (m:=51199); omega)
   have hrl := (rg_ok h0 h.hd).2
   have hzt : (Rg.textF P.hd).size ≤ 320 := by rw [← h2x]; exact hrl
   have d1 : (⟨#[104, 97, 110, 100, 108, 101, 32]⟩ : ByteArray).size = 7 := rfl
   have het : ((⟨#[104, 97, 110, 100, 108, 101, 32]⟩ : ByteArray) ++ Rg.textF P.hd) ++ (⟨#[10]⟩ : ByteArray) = mB8 (lnsT [[wN tHandle, wN (rgT P.hd)]]) := by
    rw [hanT_eq, ← mB8_lB (Rg.textF P.hd), show (⟨#[104, 97, 110, 100, 108, 101, 32]⟩ : ByteArray) = mB8 [104, 97, 110, 100, 108, 101, 32] from rfl, show (⟨#[10]⟩ : ByteArray) = mB8 [10] from rfl]
    simp only [h6m, List.append_assoc]
    rfl
   have hw := fun (x : Blk) (M : List Blk) => bldi_tp (S:=S) (w0:=w0) [x] M hB0 (by omega) _ _ het (by omega) (by rw [hanT_eq]; simp)
   rw [← ehl] at hw
   dsimp only [List.cons_append, List.nil_append] at hw
   clear het ehl hB0
   generalize Rg.textF P.hd = rt at *
   refine h5z rfl (fun _ => ?_) (fun hn => (by omega : False).elim)
   repeat' (first | refine h0s ?_ | (refine gR 18 (p_e (q_f h5l) (h:=q_e q_l ?_)) <;> (try refine h0c ?_; (refine q_c 34 (c:=by apply hrt) (h:=?_); rintro _ _ ⟨rfl, rfl⟩; (try simp only [zzE, zzF]))) <;> (try refine p_e (q_b (r:=by apply h1t; exact rfl; (focus (omega)))) (h:=q_e (q_b (r:=by apply h1t; exact rfl; (focus (simp only [ByteArray.size_append]; omega)))) ?_)) <;> (try refine h0c ?_; (refine q_c 29 (c:=by apply hw) (h:=?_); rintro _ _ ⟨rfl, B1, hB1, rfl⟩; (try simp only [zzE, zzF]))) <;> (try refine h0a ?_)))
   exact h0w B1 hB1 (by (focus (repeat (first | exact Sub.nil | refine Sub.cons rfl ?_)))) (fun _ H => H)
  ·have ehl : linB P = linA P := by
    unfold linB hanL
    rw [if_neg h0, List.append_nil]
   rw [← ehl] at hB0
   refine h5z rfl (fun hn => (by omega : False).elim) (fun _ => ?_)
   repeat' (first | refine h0s ?_ | refine h0r ?_)
   exact h0w B hB0 (by (focus (repeat (first | exact Sub.nil | refine Sub.cons rfl ?_)))) (fun _ H => H)
 clear hB0 hlc0 B
 rintro B hB
 rw [← e0] at hB
 clear e0
 simp only [List.cons_append, List.nil_append]
 repeat' (first | (refine h2h (id:=4) ?_) | refine h0i ?_ | refine h0b ?_ | (refine gR 19 (p_e (q_f h3h) (h:=p_e q_l (h:=p_e (by apply h0e; exact rfl; exact (fun _ => BigFrame.builtin_len ..); apply h0d Tryz.underlying33; exact h3m) (h:=p_m (h:=h0a ?_)))))))
 refine ⟨?_⟩
 have hl2 := h.l2
 have hl3 := h.l3
 refine h2q (γ:=List Blk) (fun B => BldI n5 (lnsT (linC P P.paths.length)) B) (fun _ => []) [(2, _), (5, _)]
  (fun B => ⟨true, n2, .cells #[.string (mB8 P.nm), .int .u32 P.df, .slice ra P.rules.length rc, .int .u16 (P.hd : Nat), .slice pa P.paths.length pc, .slice qa P.ports.length qc] 36 (0, 0)⟩ :: (B ++ (tbS ct k1 k2 (n + P.rules.length) ++ L))) (.cons rfl (.cons rfl .nil)) ?_ ?_
 ·refine h0j ?_
  refine h2i (γ:=Nat × List Blk) (fun g => g.1 ≤ P.paths.length ∧ BldI n5 (lnsT (linC P g.1)) g.2) (fun g => P.paths.length - g.1) (fun g => [(88, .int .i64 (g.1 : Nat))]) [(2, _), (5, _), (86, _), (87, _)]
   (fun g => ⟨true, n2, .cells #[.string (mB8 P.nm), .int .u32 P.df, .slice ra P.rules.length rc, .int .u16 (P.hd : Nat), .slice pa P.paths.length pc, .slice qa P.ports.length qc] 36 (0, 0)⟩ :: (g.2 ++ (tbS ct k1 k2 (n + P.rules.length) ++ L))) (0, B) (.cons rfl (.cons rfl (.cons rfl (.cons rfl .nil)))) ⟨Nat.zero_le _, hB⟩ (by (focus (repeat (first | exact Sub.nil | refine Sub.cons rfl ?_)))) (fun _ H => H) ?_
  clear hB B
  rintro ⟨k, B⟩ ⟨hk, hB⟩
  dsimp only at hk hB
  simp only [List.cons_append, List.nil_append]
  by_cases hlt : k < P.paths.length
  case neg =>
   obtain rfl : k = P.paths.length := by omega
   repeat' (first | refine h0i ?_ | refine h0b ?_ | refine h0s ?_ | refine h1p ?_ | refine h1f ?_ | refine h1o ?_ | refine h2c ?_ | refine h0f rfl ?_ | (refine gR 20 (p_e (q_b (r:=by exact h0y q_o)) (h:=h0a ?_))))
   exact h0w B hB (by (focus (repeat (first | exact Sub.nil | refine Sub.cons rfl ?_)))) (fun _ H => H)
  obtain ⟨j, q, bb, off, cs, T, fr, rfl, hj, hsz, hx⟩ := ((hps.upA (tbS ct k1 k2 (n + P.rules.length))).upA B).elem hlt
  rw [show pthC P.g.paths = pthC P.paths from rfl, pthC_at _ _ hlt] at hx
  obtain ⟨g1, g2, g3, g4⟩ := h.paths _ (List.getElem_mem hlt)
  have hpl := (wP_ok g1).2
  have hrl := (rg_ok g2 (and_sub g3 h.hd)).2
  have hn6 : P.paths[k].2 < 65536 := by have h2 := Nat.and_le_right (n:=P.paths[k].2) (m:=2047); omega
  have hrt := fun (L : List Blk) => Rg.text_c (S:=S) (w0:=w0) (L:=L) P.paths[k].2 hn6
  have hlc := linC_len h hr (k + 1)
  have ehl : lnsT (linC P (k + 1)) = lnsT (linC P k) ++ (spcL (benL P.paths[k]) ++ [10]) := by
   unfold linC
   rw [List.take_succ_eq_append_getElem hlt, List.map_append, ← List.append_assoc]
   exact lnsT_snoc _ _
  rw [ehl, List.length_append] at hlc
  have hzt : (Rg.textF P.paths[k].2).size ≤ 320 := by rw [← h2x]; exact hrl
  have hzp : (mB8 P.paths[k].1).size ≤ 120 := by rw [h2d]; exact hpl
  have d1 : (⟨#[98, 101, 110, 101, 97, 116, 104, 32]⟩ : ByteArray).size = 8 := rfl
  have d2 : (⟨#[32]⟩ : ByteArray).size = 1 := rfl
  have het : ((((⟨#[98, 101, 110, 101, 97, 116, 104, 32]⟩ : ByteArray) ++ mB8 P.paths[k].1) ++ (⟨#[32]⟩ : ByteArray)) ++ Rg.textF P.paths[k].2) ++ (⟨#[10]⟩ : ByteArray) = mB8 (spcL (benL P.paths[k]) ++ [10]) := by
   rw [benT_eq, ← mB8_lB (Rg.textF P.paths[k].2), show (⟨#[98, 101, 110, 101, 97, 116, 104, 32]⟩ : ByteArray) = mB8 [98, 101, 110, 101, 97, 116, 104, 32] from rfl, show (⟨#[32]⟩ : ByteArray) = mB8 [32] from rfl, show (⟨#[10]⟩ : ByteArray) = mB8 [10] from rfl]
   simp only [h6m, List.append_assoc]
   rfl
  have hw := fun (x y : Blk) (M : List Blk) => bldi_tp (S:=S) (w0:=w0) [x, y] M hB (by omega) _ _ het (by omega) (by rw [List.length_append]; simp)
  rw [← ehl] at hw
  dsimp only [List.cons_append, List.nil_append] at hw
  clear het ehl hB hlc g1 g2 g3 g4 hrl hpl
  generalize Rg.textF P.paths[k].2 = rt at *
  generalize P.paths[k] = p at *
  obtain ⟨pt, pr⟩ := p
  dsimp only at *
  generalize mB8 pt = bt at *
  repeat' (first | refine h0i ?_ | refine h0b ?_ | refine h0s ?_ | refine h0x ?_ | refine h0j ?_ | refine h0r ?_ | refine h0g rfl ?_ | (refine gR 20 (p_e (q_b (r:=by exact h0u q_o)) (h:=h0a ?_))) | (refine gR 21 (p_e (by apply h0n; exact rfl; exact rfl; (focus (apply h2j Tryz.underlying33 h4x; omega; omega; exact c_1))) (h:=q_e (by apply h1u (t:=104); exact rfl; exact c_19; kernel_rfl; kernel_rfl; exact h4x; (with_reducible assumption); (with_reducible assumption)) ?_)) <;> (try refine h0c ?_; (refine h0k (t:=104) rfl Tryz.zeroValue104 ?_; intro nb hnb; (try simp only [Value.cells]))) <;> (try refine h0c ?_; (refine q_W ?_)) <;> (try refine h0a ?_)) | ((refine h2s (pre:=[_, _]) (id:=22) (m:=10) rfl (by kernel_rfl) rfl (q_t 0 (e:=h3e) (x:=by exact q_f h5f) (h:=q_t 1 (e:=h3e) (x:=by exact q_l) (h:=q_t 2 (e:=h3e) (x:=by exact q_b (r:=by apply h1t; exact rfl; (focus (omega)))) (h:=q_t 3 (e:=h3e) (x:=by exact q_b (r:=by apply h1t; exact rfl; (focus (simp only [ByteArray.size_append]; omega)))) (h:=q_t 4 (e:=h3e) (x:=by exact q_f fo_104_1) (h:=q_t 5 (e:=h3e) (x:=by exact q_l) (h:=?_)))))))) <;> (try refine q_r 6 ?_; (refine q_c 34 (c:=by apply hrt) (h:=?_); rintro _ _ ⟨rfl, rfl⟩; (try simp only [zzE, zzF])); refine h1b h3e ?_) <;> (try refine q_t 7 (e:=h3e) (x:=by exact q_b (r:=by apply h1t; exact rfl; (focus (simp only [ByteArray.size_append]; omega)))) (h:=q_t 8 (e:=h3e) (x:=by exact q_b (r:=by apply h1t; exact rfl; (focus (simp only [ByteArray.size_append]; omega)))) (h:=?_))) <;> (try refine q_r 9 ?_; (refine q_c 29 (c:=by apply hw) (h:=?_); rintro _ _ ⟨rfl, B1, hB1, rfl⟩; (try simp only [zzE, zzF])); refine h1b h3e ?_) <;> (try refine h1a (by kernel_rfl) ?_)) | (refine gR 23 ?_ <;> (try refine q_e (q_b (r:=by apply h1n; exact c_5; (focus (refine IntWalk.i64_in _ ?_; omega)))) ?_) <;> (try refine p_m (h:=h0a ?_))))
  exact h0w (k + 1, B1) ⟨⟨by show k + 1 ≤ P.paths.length; omega, hB1⟩, by show P.paths.length - (k + 1) < P.paths.length - k; omega⟩ (by (focus (repeat (first | exact Sub.nil | refine Sub.cons rfl ?_)))) (fun _ H => H.tail)
 clear hB B
 rintro B hB
 have e0 : linD P 0 = linC P P.paths.length := by unfold linD; rw [List.take_zero, List.map_nil, List.append_nil]
 rw [← e0] at hB
 clear e0
 simp only [List.cons_append, List.nil_append]
 repeat' (first | (refine h2h (id:=6) ?_) | refine h0i ?_ | refine h0b ?_ | (refine gR 24 (p_e (q_f h3p) (h:=p_e q_l (h:=p_e (by apply h0e; exact rfl; exact (fun _ => BigFrame.builtin_len ..); apply h0d Tryz.underlying34; exact h3m) (h:=p_m (h:=h0a ?_)))))))
 refine ⟨?_⟩
 refine h2q (γ:=List Blk) (fun B => BldI n5 (lnsT (linD P P.ports.length)) B) (fun _ => []) [(5, _)]
  (fun B => B ++ (tbS ct k1 k2 (n + P.rules.length) ++ L)) (.cons rfl .nil) ?_ ?_
 ·refine h0j ?_
  refine h2i (γ:=Nat × List Blk) (fun g => g.1 ≤ P.ports.length ∧ BldI n5 (lnsT (linD P g.1)) g.2) (fun g => P.ports.length - g.1) (fun g => [(106, .int .i64 (g.1 : Nat))]) [(5, _), (104, _), (105, _)]
   (fun g => ⟨true, n2, .cells #[.string (mB8 P.nm), .int .u32 P.df, .slice ra P.rules.length rc, .int .u16 (P.hd : Nat), .slice pa P.paths.length pc, .slice qa P.ports.length qc] 36 (0, 0)⟩ :: (g.2 ++ (tbS ct k1 k2 (n + P.rules.length) ++ L))) (0, B) (.cons rfl (.cons rfl (.cons rfl .nil))) ⟨Nat.zero_le _, hB⟩ (by (focus (repeat (first | exact Sub.nil | refine Sub.cons rfl ?_)))) (fun _ H => H) ?_
  clear hB B
  rintro ⟨k, B⟩ ⟨hk, hB⟩
  dsimp only at hk hB
  simp only [List.cons_append, List.nil_append]
  by_cases hlt : k < P.ports.length
  case neg =>
   obtain rfl : k = P.ports.length := by omega
   repeat' (first | refine h0i ?_ | refine h0b ?_ | refine h0s ?_ | refine h1p ?_ | refine h1f ?_ | refine h1o ?_ | refine h2c ?_ | refine h0f rfl ?_ | (refine gR 25 (p_e (q_b (r:=by exact h0y q_o)) (h:=h0a ?_))))
   exact h0w B hB (by (focus (repeat (first | exact Sub.nil | refine Sub.cons rfl ?_)))) (fun _ H => H.tail)
  obtain ⟨j, q, bb, off, cs, T, fr, rfl, hj, hsz, hx⟩ := ((hqs.upA (tbS ct k1 k2 (n + P.rules.length))).upA B).elem hlt
  rw [show porC P.g.ports = porC P.ports from rfl, porC_at _ _ hlt] at hx
  obtain ⟨g1, g2, g3, g4⟩ := h.ports _ (List.getElem_mem hlt)
  have hpl := d20 (n:=P.ports[k].1) (by omega)
  have hrl := (rg_ok g2 (and_sub g3 h.hd)).2
  have hn6 : P.ports[k].2 < 65536 := by have h2 := Nat.and_le_right (n:=P.ports[k].2) (m:=49152); omega
  have hrt := fun (L : List Blk) => Rg.text_c (S:=S) (w0:=w0) (L:=L) P.ports[k].2 hn6
  have hpr := fun (L : List Blk) => printed_c P.ports[k].1 (by omega) S w0 L
  have hlc := linD_len h hr (k + 1)
  have ehl : lnsT (linD P (k + 1)) = lnsT (linD P k) ++ (spcL (porL P.ports[k]) ++ [10]) := by
   unfold linD
   rw [List.take_succ_eq_append_getElem hlt, List.map_append, ← List.append_assoc]
   exact lnsT_snoc _ _
  rw [ehl, List.length_append] at hlc
  have hzt : (Rg.textF P.ports[k].2).size ≤ 320 := by rw [← h2x]; exact hrl
  have hzp : (mB8 (decF P.ports[k].1)).size ≤ 20 := by rw [h2d]; exact hpl
  have d1 : (⟨#[112, 111, 114, 116, 32]⟩ : ByteArray).size = 5 := rfl
  have d2 : (⟨#[32]⟩ : ByteArray).size = 1 := rfl
  have het : ((((⟨#[112, 111, 114, 116, 32]⟩ : ByteArray) ++ mB8 (decF P.ports[k].1)) ++ (⟨#[32]⟩ : ByteArray)) ++ Rg.textF P.ports[k].2) ++ (⟨#[10]⟩ : ByteArray) = mB8 (spcL (porL P.ports[k]) ++ [10]) := by
   rw [porT_eq, ← mB8_lB (Rg.textF P.ports[k].2), show (⟨#[112, 111, 114, 116, 32]⟩ : ByteArray) = mB8 [112, 111, 114, 116, 32] from rfl, show (⟨#[32]⟩ : ByteArray) = mB8 [32] from rfl, show (⟨#[10]⟩ : ByteArray) = mB8 [10] from rfl]
   simp only [h6m, List.append_assoc]
   rfl
  have hw := fun (x y : Blk) (M : List Blk) => bldi_tp (S:=S) (w0:=w0) [x, y] M hB (by omega) _ _ het (by omega) (by rw [List.length_append]; simp)
  rw [← ehl] at hw
  dsimp only [List.cons_append, List.nil_append] at hw
  clear het ehl hB hlc g2 g3 g4 hrl hpl
  generalize Rg.textF P.ports[k].2 = rt at *
  generalize P.ports[k] = p at *
  obtain ⟨pt, pr⟩ := p
  dsimp only at *
  generalize mB8 (decF pt) = bt at *
  repeat' (first | refine h0i ?_ | refine h0b ?_ | refine h0s ?_ | refine h0x ?_ | refine h0j ?_ | refine h0r ?_ | refine h0g rfl ?_ | (refine gR 25 (p_e (q_b (r:=by exact h0u q_o)) (h:=h0a ?_))) | (refine gR 26 (p_e (by apply h0n; exact rfl; exact rfl; (focus (apply h2j Tryz.underlying34 h6e; omega; omega; exact c_1))) (h:=q_e (by apply h1u (t:=106); exact rfl; exact c_19; kernel_rfl; kernel_rfl; exact h6e; (with_reducible assumption); (with_reducible assumption)) ?_)) <;> (try refine h0c ?_; (refine h0k (t:=106) rfl Tryz.zeroValue106 ?_; intro nb hnb; (try simp only [Value.cells]))) <;> (try refine h0c ?_; (refine q_W ?_)) <;> (try refine h0a ?_)) | ((refine h2s (pre:=[_, _]) (id:=27) (m:=12) rfl (by kernel_rfl) rfl (q_t 0 (e:=h3e) (x:=by exact q_f fo_106_0) (h:=q_t 1 (e:=h3e) (x:=by exact q_l) (h:=?_)))) <;> (try refine q_t 2 (e:=h3e) (x:=by apply h3t; exact rfl; (focus (apply h3u Tryz.underlying31 Tryz.underlying97; first | (refine IntWalk.i64_in _ ?_; omega) | (refine IntWalk.u8_in _ ?_; omega) | (refine IntWalk.u16_in _ ?_; omega) | (refine IntWalk.u32_in _ ?_; omega) | (refine IntWalk.u64_in _ ?_; omega) | (refine IntWalk.i32_in _ ?_; omega) | exact rfl))) (h:=?_)) <;> (try refine q_t 6 (e:=h3e) (x:=by exact q_f fo_106_1) (h:=q_t 7 (e:=h3e) (x:=by exact q_l) (h:=?_))) <;> (try refine q_r 3 ?_; (refine q_c 32 (c:=by apply hpr) (h:=?_); rintro _ _ ⟨rfl, rfl⟩; (try simp only [zzE, zzF])); refine h1b h3e ?_) <;> (try refine q_t 4 (e:=h3e) (x:=by exact q_b (r:=by apply h1t; exact rfl; (focus (omega)))) (h:=q_t 5 (e:=h3e) (x:=by exact q_b (r:=by apply h1t; exact rfl; (focus (simp only [ByteArray.size_append]; omega)))) (h:=?_))) <;> (try refine q_r 8 ?_; (refine q_c 34 (c:=by apply hrt) (h:=?_); rintro _ _ ⟨rfl, rfl⟩; (try simp only [zzE, zzF])); refine h1b h3e ?_) <;> (try refine q_t 9 (e:=h3e) (x:=by exact q_b (r:=by apply h1t; exact rfl; (focus (simp only [ByteArray.size_append]; omega)))) (h:=q_t 10 (e:=h3e) (x:=by exact q_b (r:=by apply h1t; exact rfl; (focus (simp only [ByteArray.size_append]; omega)))) (h:=?_))) <;> (try refine q_r 11 ?_; (refine q_c 29 (c:=by apply hw) (h:=?_); rintro _ _ ⟨rfl, B1, hB1, rfl⟩; (try simp only [zzE, zzF])); refine h1b h3e ?_) <;> (try refine h1a (by kernel_rfl) ?_)) | (refine gR 28 ?_ <;> (try refine q_e (q_b (r:=by apply h1n; exact c_5; (focus (refine IntWalk.i64_in _ ?_; omega)))) ?_) <;> (try refine p_m (h:=h0a ?_))))
  exact h0w (k + 1, B1) ⟨⟨by show k + 1 ≤ P.ports.length; omega, hB1⟩, by show P.ports.length - (k + 1) < P.ports.length - k; omega⟩ (by (focus (repeat (first | exact Sub.nil | refine Sub.cons rfl ?_)))) (fun _ H => H.tail)
 clear hB B
 rintro B hB
 rw [linD_all] at hB
 simp only [List.cons_append, List.nil_append]
 have hst := fun (M : List Blk) => bldi_s (S:=S) (w0:=w0) (L:=M) hB (by have := (polL_ok P h hr).2; unfold polT at this; omega)
 clear hB
 repeat' (first | refine h0i ?_ | refine h0b ?_ | refine h0v ?_ | (refine gR 29 ?_ <;> (try refine h0c ?_; (refine q_c 35 (c:=by apply hst) (h:=?_); rintro _ _ ⟨rfl, rfl⟩; (try simp only [zzE, zzF]))) <;> (try refine p_a (h:=h0a ?_))))
 (refine h0o Tryz.results13 (.tmp rfl .nil) ?_)
 exact ⟨_, ⟨k1, k2, rfl, rfl⟩, fun _ H => H⟩
def PrE (pb ct rb n : Nat) (L0 M : List Blk) : Prop := ∃ m1 m2 o, M = prB pb ct rb :: (tbS ct m1 m2 n ++ (Rg.wst rb o ++ L0))
theorem PrE.up {pb ct rb n : Nat} {L0 M : List Blk} (h : PrE pb ct rb n L0 M) : ∃ T, M = prB pb ct rb :: T ∧ EnS ct rb n L0 T := by
 obtain ⟨m1, m2, o, rfl⟩ := h
 exact ⟨_, rfl, m1, m2, o, rfl⟩
theorem PrE.sub {pb ct rb n : Nat} {L0 M : List Blk} (h : PrE pb ct rb n L0 M) : L0.Sublist M := by
 obtain ⟨m1, m2, o, rfl⟩ := h
 exact List.Sublist.cons _ ((List.sublist_append_right _ _).trans (List.sublist_append_right _ _))
theorem calls_x {S w0} (B : List Blk) {pb ct rb n : Nat} {L0 M : List Blk} (h : PrE pb ct rb n L0 M) : Fn Tryz.prog 11 #[.pointer (some ⟨pb, 0, none⟩)] S w0 (B ++ M) fun v L' => v = .pointer (some ⟨ct, 0, none⟩) ∧ B ++ M = L' := by
 obtain ⟨m1, m2, o, rfl⟩ := h
 refine Fn.weak (fun w H => HP.swapA (e:=B) [_] H) ((calls_p (S:=S) (w0:=w0) (L:=B ++ (tbS ct m1 m2 n ++ (Rg.wst rb o ++ L0))) pb ct rb).mono ?_)
 rintro v L' ⟨rfl, rfl⟩
 exact ⟨_, ⟨rfl, rfl⟩, fun w H => HP.swapA (e:=[_]) B H⟩
theorem parse_x {S w0} (B : List Blk) {pb ct rb n : Nat} {L0 M : List Blk} (h : PrE pb ct rb n L0 M) (hn : n ≤ 90000) (s : ByteArray) (hs : s.size ≤ 1000000) :
  Fn Tryz.prog 10 #[.pointer (some ⟨pb, 0, none⟩), .string s] S w0 (B ++ M) fun v L' => ∃ (d : PoD) (n' : Nat) (M' : List Blk), v = h2y [.agg (polC (polF (lB s)).1 d.vr d.vp d.vq).toArray, .agg (wrA (polF (lB s)).2).toArray] ∧ d.ok (polF (lB s)).1 ∧ n' ≤ n + 65 ∧ PrE pb ct rb n' L0 M' ∧ B ++ (d.blocks ++ M') = L' := by
 obtain ⟨T, rfl, hT⟩ := h.up
 obtain ⟨T2, hT2, hput⟩ := hT.put (S:=S) (w0:=w0) B
 refine Fn.weak (fun w H => hput w [_] (HP.swapA (e:=B) [_] H)) ((parse_c (S:=S) (w0:=w0) pb ct rb n (B ++ L0) T2 hn hT2 s hs).mono ?_)
 rintro v L' ⟨d, n', T', rfl, hd, hn', hT', rfl⟩
 obtain ⟨T3, ⟨m1, m2, o, rfl⟩, hget⟩ := hT'.get (S:=S) (w0:=w0) B
 refine ⟨_, ⟨d, n', _, rfl, hd, hn', ⟨m1, m2, o, rfl⟩, rfl⟩, fun w H => ?_⟩
 have H2 := hget w ([prB pb ct rb] ++ d.blocks) (by rw [List.append_assoc]; exact H)
 exact HP.re2 (env:=[[prB pb ct rb], d.blocks, B, tbS ct m1 m2 n', Rg.wst rb o, L0]) [0, 1, 2, 3, 4, 5] [2, 1, 0, 3, 4, 5] (by decide) (by simp [flatB]) rfl H2
theorem check_x {S w0} (B : List Blk) {pb ct rb n : Nat} {L0 M : List Blk} (h : PrE pb ct rb n L0 M) (hn : n ≤ 90000) (P : GPol) (hP : P.ok) (vr vp vq : Value) (hS : PolS (B ++ L0) P vr vp vq) (hr : P.rules.length ≤ 1000) :
  Fn Tryz.prog 17 #[.agg (polG P vr vp vq).toArray, .pointer (some ⟨ct, 0, none⟩)] S w0 (B ++ M) fun v L' => ∃ n' M', v = .int .i64 (chkG P : Nat) ∧ n' ≤ n + P.rules.length ∧ PrE pb ct rb n' L0 M' ∧ B ++ M' = L' := by
 obtain ⟨m1, m2, o, rfl⟩ := h
 refine Fn.weak (fun w H => HP.re2 (env:=[B, [prB pb ct rb], tbS ct m1 m2 n, Rg.wst rb o, L0]) [0, 1, 2, 3, 4] [2, 1, 3, 0, 4] (by decide) rfl rfl H) ((check_c (S:=S) (w0:=w0) (L:=(prB pb ct rb :: Rg.wst rb o) ++ (B ++ L0)) P hP vr vp vq (hS.upA _) hr ct m1 m2 n hn).mono ?_)
 rintro v L' ⟨k1, k2, n', rfl, hn', rfl⟩
 exact ⟨_, ⟨n', _, rfl, hn', ⟨k1, k2, o, rfl⟩, rfl⟩, fun w H => HP.re2 (env:=[B, [prB pb ct rb], tbS ct k1 k2 n', Rg.wst rb o, L0]) [2, 1, 3, 0, 4] [0, 1, 2, 3, 4] (by decide) rfl rfl H⟩
theorem text_x {S w0} (B : List Blk) {pb ct rb n : Nat} {L0 M : List Blk} (h : PrE pb ct rb n L0 M) (hn : n ≤ 90000) (P : Pol) (hP : PolOk P) (hR : PolRn P) (vr vp vq : Value) (hS : PolS (B ++ L0) P.g vr vp vq) :
  Fn Tryz.prog 13 #[.agg (polC P vr vp vq).toArray, .pointer (some ⟨ct, 0, none⟩)] S w0 (B ++ M) fun v L' => ∃ M', v = .string (mB8 (polT P)) ∧ PrE pb ct rb (n + P.rules.length) L0 M' ∧ B ++ M' = L' := by
 obtain ⟨m1, m2, o, rfl⟩ := h
 refine Fn.weak (fun w H => HP.re2 (env:=[B, [prB pb ct rb], tbS ct m1 m2 n, Rg.wst rb o, L0]) [0, 1, 2, 3, 4] [2, 1, 3, 0, 4] (by decide) rfl rfl H) ((ptext_c (S:=S) (w0:=w0) (L:=(prB pb ct rb :: Rg.wst rb o) ++ (B ++ L0)) P hP hR vr vp vq (hS.upA _) ct m1 m2 n hn).mono ?_)
 rintro v L' ⟨k1, k2, rfl, rfl⟩
 exact ⟨_, ⟨_, rfl, ⟨k1, k2, o, rfl⟩, rfl⟩, fun w H => HP.re2 (env:=[B, [prB pb ct rb], tbS ct k1 k2 (n + P.rules.length), Rg.wst rb o, L0]) [2, 1, 3, 0, 4] [0, 1, 2, 3, 4] (by decide) rfl rfl H⟩
inductive Tl : List Blk → List Blk → List Blk → Prop
 | nil (M : List Blk) : Tl M [] M
 | one (e M : List Blk) : Tl (e ++ M) e M
 | cons {R B M : List Blk} (x : Blk) (h : Tl R B M) : Tl (x :: R) (x :: B) M
 | app {R B M : List Blk} (e : List Blk) (h : Tl R B M) : Tl (e ++ R) (e ++ B) M
theorem Tl.eq {L B M : List Blk} (h : Tl L B M) : L = B ++ M := by
 induction h with
 | nil => rfl
 | one => rfl
 | cons x _ ih => rw [ih]; rfl
 | app e _ ih => rw [ih, List.append_assoc]
theorem parse_t {S w0} {pb ct rb n : Nat} {L0 M L B : List Blk} (s : ByteArray) (hs : s.size ≤ 1000000) (P : Pol) (a b c : Nat) (hP : polF (lB s) = (P, (a, b, c))) (hl : ∀ r ∈ P.rules, r.conds.length ≤ maxLen) (hM : PrE pb ct rb n L0 M) (hn : n ≤ 90000) (hL : Tl L B M) :
  Fn Tryz.prog 10 #[.pointer (some ⟨pb, 0, none⟩), .string s] S w0 L fun v L' => ∃ (r1 p1 q1 : Option Addr) (r3 p3 q3 : Nat) (E : List Blk) (n' : Nat) (M' : List Blk), v = h2y [.agg #[.string (mB8 P.nm), .int .u32 P.df, .slice r1 P.rules.length r3, .int .u16 (P.hd : Nat), .slice p1 P.paths.length p3, .slice q1 P.ports.length q3], .agg #[.int .i64 (a : Nat), .int .i64 (b : Nat), .int .i64 (c : Nat)]] ∧ PolS E P.g (.slice r1 P.rules.length r3) (.slice p1 P.paths.length p3) (.slice q1 P.ports.length q3) ∧ n' ≤ n + 65 ∧ PrE pb ct rb n' L0 M' ∧ B ++ (E ++ M') = L' := by
 rw [hL.eq]
 refine (parse_x (S:=S) (w0:=w0) B hM hn s hs).mono ?_
 rw [hP]
 rintro v L' ⟨d, n', M', rfl, hd, hn', hM', rfl⟩
 have hS := hd.polS hl
 obtain ⟨r1, r3, p1, p3, q1, q3, e1, e2, e3⟩ := hd.sl
 rw [e1, e2, e3] at hS
 exact ⟨_, ⟨r1, p1, q1, r3, p3, q3, _, n', M', by rw [e1, e2, e3], hS, hn', hM', rfl⟩, fun _ H => H⟩
theorem calls_t {S w0} {pb ct rb n : Nat} {L0 M L B : List Blk} (hM : PrE pb ct rb n L0 M) (hL : Tl L B M) : Fn Tryz.prog 11 #[.pointer (some ⟨pb, 0, none⟩)] S w0 L fun v L' => v = .pointer (some ⟨ct, 0, none⟩) ∧ L = L' := by
 rw [hL.eq]
 exact calls_x (S:=S) (w0:=w0) B hM
theorem clls_num : (clls.all fun m => decide (0 ≤ m.num ∧ m.num < 4294967296)) = true := by decide +kernel
theorem act_rng {a : Int} (h0 : 0 ≤ a) (h : h6d a = true) : 0 ≤ a ∧ a < 4294967296 := by
 unfold h6d at h
 have h := of_decide_eq_true h
 refine ⟨h0, ?_⟩
 rcases h with rfl | rfl | rfl | ⟨h1, h2, h3⟩
 ·decide
 ·decide
 ·decide
 ·unfold kndA at h1
  have h4 := and_split a h0
  split at h1
  ·omega
  ·cases h1
theorem pol_gok {P : Pol} (h : PolOk P) (hr : PolRn P) : P.g.ok := by
 refine ⟨?_, act_rng h.df0 h.df, ?_, ?_, ?_, ?_⟩
 ·have h1 := h.nm
  unfold Wd.wordF at h1
  rw [Bool.and_eq_true] at h1
  have h2 := of_decide_eq_true h1.2
  rw [h2d] at h2
  show P.nm.length ≤ _
  omega
 ·intro r hr'
  obtain ⟨q, hq, rfl⟩ := List.mem_map.1 hr'
  have hq2 := h.rules q hq
  refine ⟨?_, act_rng hq2.act0 hq2.act, ?_⟩
  ·have hn := hq2.num
   cases hc : h4w q.num clls with
   | none => rw [hc] at hn; cases hn
   | some m =>
    obtain ⟨hm, he⟩ := cnumF_mem hc
    have h3 := of_decide_eq_true (List.all_eq_true.1 clls_num m hm)
    show 0 ≤ q.num ∧ q.num < 4294967296
    rw [← he]
    exact h3
  ·intro c hc
   obtain ⟨d, hd, rfl⟩ := List.mem_map.1 hc
   have h4 := hq2.conds d hd
   have h5 := hr.c q hq d hd
   have h6 := h4.arg
   have h7 := h4.op2
   exact ⟨⟨by show (-9223372036854775808 : Int) ≤ ((d.arg : Nat) : Int); omega, by show ((d.arg : Nat) : Int) < 9223372036854775808; omega⟩, by show d.op < 256; omega, by show d.mask < _; omega, by show d.val < _; omega⟩
 ·have h1 := h.hd
  have h2 := Nat.and_le_right (n:=P.hd) (m:=51199)
  show P.hd < 65536
  omega
 ·intro p hp
  have h1 := (h.paths p hp).1
  have h2 := (wP_ok h1).2
  have h3 := (h.paths p hp).2.2.2
  have h4 := Nat.and_le_right (n:=p.2) (m:=2047)
  exact ⟨by omega, by omega⟩
 ·intro p hp
  have h1 := h.ports p hp
  have h4 := Nat.and_le_right (n:=p.2) (m:=49152)
  exact ⟨h1.1, by omega⟩
theorem pol_cl {P : Pol} (h : PolOk P) : ∀ r ∈ P.rules, r.conds.length ≤ maxLen := by
 intro r hr
 have := (h.rules r hr).len
 unfold maxLen; omega
end Go.Proofs.YtecbgehooembmaaGreatDoor
