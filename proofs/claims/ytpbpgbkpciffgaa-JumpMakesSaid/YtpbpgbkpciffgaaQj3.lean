/- Part 3 of what the last text of this claim leans on: rules of walks, contracts, plain facts. Conditions: those of each statement. -/
import Derived.Test.YtpbpgbkpciffgaaQj2
set_option maxRecDepth 100000
namespace Go.Proofs.Ytpbpgbkpciffgaa
open Go Go.RowKit
theorem Mk.hop_len (s : Mk) (n : Int) : (s.hop n).out.length = s.out.length + 1 := by simp [Mk.hop]
theorem put_own {v : Value} {e : List Blk} (s : Mk) (i : Ins) (h : Own 43 4 v (s.out.length + 1) (flat s.out ++ i.cells) e) : Own 43 4 v (s.put i).out.length (flat (s.put i).out) e := by
 have e1 : (s.put i).out.length = s.out.length + 1 := by simp [Mk.put]
 have e2 : flat (s.put i).out = flat s.out ++ i.cells := flat_snoc' _ _
 rw [e1, e2]; exact h
set_option maxHeartbeats 4000000 in
theorem compare_c {S w0 L} (m pm : Nat) (s : Mk) (hs : s.ok) (v : Value) (e : List Blk) (ho : Own 43 4 v s.out.length (flat s.out) e) (p : Prt) (hp : p.ok) :
  Fn Try.prog 61 #[.pointer (some ⟨m, 0, none⟩), p.v] S w0 (mkB m v pm :: mapB pm (plV s.pl) :: (e ++ L)) fun r L' => r = .int .i64 (s.compare p).1 ∧ MkR m pm (s.compare p).2 L L' := by
 obtain ⟨kind, to, els, ⟨c, jt, jf, k⟩⟩ := p
 obtain ⟨hk, ht, he, ⟨hc, hjt, hjf, hkk⟩⟩ := hp
 dsimp only at hk ht he hc hjt hjf hkk
 obtain ⟨a, cap, hv, hsl⟩ := ho.sli L
 have haw := fun (n : Int) (L : List Blk) (i j : Nat) (h1 : L[i]? = some (mkB m v pm)) (h2 : L[j]? = some (mapB pm (plV s.pl))) => away_c (S:=S) (w0:=w0) m pm s v cap a hv n hs h1 h2
 have hlt := hs.look to
 have hle := hs.look els
 have hlen := hs.le
 simp only [Prt.v]
 by_cases h1 : c % 8 = 5
 ·by_cases h2 : c = 5
  ·subst h2
   have hcm : s.compare ⟨kind, to, els, ⟨5, jt, jf, k⟩⟩ = (210, s) := by unfold Mk.compare; rw [if_pos (.inr rfl)]
   rw [hcm]
   refine Fn2 Try.func61 Try.ntmps61 rfl rfl ?_
   repeat' (first | refine h1k ?_ | refine h0k ?_ | refine h1n ?_ | refine h1u ?_ | refine h0q ?_ | refine h2v ?_ | refine h0o rfl ?_ | (refine gR 0 ?_ <;> (try refine h0a ?_; (refine h3e (t:=88) rfl rfl ?_; intro nb hnb; (try simp only [Value.cells]))) <;> (try refine p_a (h:=h0b ?_))) | (refine gR 1 (p_m (h:=p_e (q_f h4d) (h:=q_e q_l ?_))) <;> (try refine h0a ?_; (refine q_c 59 (c:=by apply haw; exact c_12; exact c_12) (h:=?_); rintro _ _ ⟨rfl, rfl⟩; (try simp only [zzE, zzF]))) <;> (try refine p_m (h:=p_x (h:=p_x (h:=p_a (h:=p_a (h:=h0b ?_))))))) | (refine gR 2 (p_m (h:=p_e (q_f fo_88_2) (h:=q_e q_l ?_))) <;> (try refine h0a ?_; (refine q_c 59 (c:=by apply haw; exact c_12; exact c_12) (h:=?_); rintro _ _ ⟨rfl, rfl⟩; (try simp only [zzE, zzF]))) <;> (try refine p_m (h:=p_x (h:=p_x (h:=p_a (h:=p_a (h:=h0b ?_))))))) | (refine gR 3 (p_e (q_f h3r) (h:=p_e (q_g h1p) (h:=q_e q_l ?_))) <;> (try refine h0a ?_; (refine h1i (F:=51) (by kernel_rfl) rfl rfl (h5i _ (by omega)) ?_; rintro _ _ ⟨rfl, rfl⟩)) <;> (try refine q_e (by exact q_b (r:=by refine h4c ?_; first | rfl | (with_reducible assumption) | (decide; done) | omega)) ?_) <;> (try refine p_m (h:=p_y (q_f h3r) (h:=p_y (q_g h1p) (h:=q_y q_l ?_)))) <;> (try refine q_y (by exact q_b (r:=by refine h0g ?_; first | rfl | (with_reducible assumption) | (decide; done) | omega)) ?_) <;> (try refine p_p (h:=p_a (h:=h0b ?_)))) | (refine gR 4 (p_a (h:=h0b ?_))))
   (refine h2k Try.results61 (.tmp rfl .nil) ?_)
   exact ⟨_, ⟨rfl, v, e, ho, rfl⟩, by intro w H; refine Sel.out ?_ H; (try simp only [zzC, zzN]); repeat (first | exact Sel.refl _ | (apply Sel.cons; exact h6c; (try simp only [zzE, zzF])) | apply Sel.drop)⟩
  ·cases hb1 : (look to s.pl).isSome with
   | false =>
    have hcm : s.compare ⟨kind, to, els, ⟨c, jt, jf, k⟩⟩ = (207, s) := by unfold Mk.compare; rw [if_neg (by simp [h1, h2]), if_pos (.inl hb1)]
    rw [hcm]
    have haw1 := haw to
    rw [hb1] at haw1
    refine Fn2 Try.func61 Try.ntmps61 rfl rfl ?_
    repeat' (first | refine h1k ?_ | refine h0k ?_ | refine h1n ?_ | refine h1u ?_ | refine h0q ?_ | refine h2v ?_ | refine h0o rfl ?_ | refine h0n rfl ?_ | (refine gR 0 ?_ <;> (try refine h0a ?_; (refine h3e (t:=88) rfl rfl ?_; intro nb hnb; (try simp only [Value.cells]))) <;> (try refine p_a (h:=h0b ?_))) | (refine gR 1 (p_m (h:=p_e (q_f h4d) (h:=q_e q_l ?_))) <;> (try refine h0a ?_; (refine q_c 59 (c:=by apply haw1; exact c_12; exact c_12) (h:=?_); rintro _ _ ⟨rfl, rfl⟩; (try simp only [zzE, zzF]))) <;> (try refine p_m (h:=p_x (h:=p_x (h:=p_a (h:=p_a (h:=h0b ?_))))))) | (refine gR 2 (p_m (h:=p_e (q_f fo_88_2) (h:=q_e q_l ?_))) <;> (try refine h0a ?_; (refine q_c 59 (c:=by apply haw; exact c_12; exact c_12) (h:=?_); rintro _ _ ⟨rfl, rfl⟩; (try simp only [zzE, zzF]))) <;> (try refine p_m (h:=p_x (h:=p_x (h:=p_a (h:=p_a (h:=h0b ?_))))))) | (refine gR 3 (p_e (q_f h3r) (h:=p_e (q_g h1p) (h:=q_e q_l ?_))) <;> (try refine h0a ?_; (refine h1i (F:=51) (by kernel_rfl) rfl rfl (h5i _ (by omega)) ?_; rintro _ _ ⟨rfl, rfl⟩)) <;> (try refine q_e (by exact q_b (r:=by refine h4c ?_; first | rfl | (with_reducible assumption) | (decide; done) | omega)) ?_) <;> (try refine p_m (h:=p_y (q_f h3r) (h:=p_y (q_g h1p) (h:=p_y q_l (h:=p_y (q_b (r:=by exact h0e q_o)) (h:=p_p (h:=p_a (h:=h0b ?_))))))))) | (refine gR 5 (p_m (h:=p_e (by apply E_un; exact rfl; exact h4i) (h:=p_m (h:=p_z (h:=p_z (h:=p_p (h:=p_a (h:=h0b ?_))))))))) | (refine gR 6 (p_a (h:=h0b ?_))))
    (refine h2k Try.results61 (.tmp rfl .nil) ?_)
    exact ⟨_, ⟨rfl, v, e, ho, rfl⟩, by intro w H; refine Sel.out ?_ H; (try simp only [zzC, zzN]); repeat (first | exact Sel.refl _ | (apply Sel.cons; exact h6c; (try simp only [zzE, zzF])) | apply Sel.drop)⟩
   | true =>
    cases hb2 : (look els s.pl).isSome with
    | false =>
     have hcm : s.compare ⟨kind, to, els, ⟨c, jt, jf, k⟩⟩ = (207, s) := by unfold Mk.compare; rw [if_neg (by simp [h1, h2]), if_pos (.inr hb2)]
     rw [hcm]
     have haw1 := haw to
     have haw2 := haw els
     rw [hb1] at haw1
     rw [hb2] at haw2
     refine Fn2 Try.func61 Try.ntmps61 rfl rfl ?_
     repeat' (first | refine h1k ?_ | refine h0k ?_ | refine h1n ?_ | refine h1u ?_ | refine h0q ?_ | refine h2v ?_ | refine h0o rfl ?_ | refine h0n rfl ?_ | (refine gR 0 ?_ <;> (try refine h0a ?_; (refine h3e (t:=88) rfl rfl ?_; intro nb hnb; (try simp only [Value.cells]))) <;> (try refine p_a (h:=h0b ?_))) | (refine gR 1 (p_m (h:=p_e (q_f h4d) (h:=q_e q_l ?_))) <;> (try refine h0a ?_; (refine q_c 59 (c:=by apply haw1; exact c_12; exact c_12) (h:=?_); rintro _ _ ⟨rfl, rfl⟩; (try simp only [zzE, zzF]))) <;> (try refine p_m (h:=p_x (h:=p_x (h:=p_a (h:=p_a (h:=h0b ?_))))))) | (refine gR 2 (p_m (h:=p_e (q_f fo_88_2) (h:=q_e q_l ?_))) <;> (try refine h0a ?_; (refine q_c 59 (c:=by apply haw2; exact c_12; exact c_12) (h:=?_); rintro _ _ ⟨rfl, rfl⟩; (try simp only [zzE, zzF]))) <;> (try refine p_m (h:=p_x (h:=p_x (h:=p_a (h:=p_a (h:=h0b ?_))))))) | (refine gR 3 (p_e (q_f h3r) (h:=p_e (q_g h1p) (h:=q_e q_l ?_))) <;> (try refine h0a ?_; (refine h1i (F:=51) (by kernel_rfl) rfl rfl (h5i _ (by omega)) ?_; rintro _ _ ⟨rfl, rfl⟩)) <;> (try refine q_e (by exact q_b (r:=by refine h4c ?_; first | rfl | (with_reducible assumption) | (decide; done) | omega)) ?_) <;> (try refine p_m (h:=p_y (q_f h3r) (h:=p_y (q_g h1p) (h:=p_y q_l (h:=p_y (q_b (r:=by exact h0e q_o)) (h:=p_p (h:=p_a (h:=h0b ?_))))))))) | (refine gR 5 (p_m (h:=p_e (by apply E_un; exact rfl; exact h4b) (h:=p_m (h:=p_y (h0c rfl) (h:=p_y (by apply E_un; exact rfl; exact h4i) (h:=p_p (h:=p_a (h:=h0b ?_))))))))) | (refine gR 6 (p_a (h:=h0b ?_))))
     (refine h2k Try.results61 (.tmp rfl .nil) ?_)
     exact ⟨_, ⟨rfl, v, e, ho, rfl⟩, by intro w H; refine Sel.out ?_ H; (try simp only [zzC, zzN]); repeat (first | exact Sel.refl _ | (apply Sel.cons; exact h6c; (try simp only [zzE, zzF])) | apply Sel.drop)⟩
    | true =>
     have hcm : s.compare ⟨kind, to, els, ⟨c, jt, jf, k⟩⟩ = (0, s.far ⟨kind, to, els, ⟨c, jt, jf, k⟩⟩ (s.away to) (s.away els)) := by unfold Mk.compare; rw [if_neg (by simp [h1, h2]), if_neg (by simp [hb1, hb2])]
     rw [hcm]
     have haw1 := haw to
     have haw2 := haw els
     rw [hb1] at haw1
     rw [hb2] at haw2
     have e1 : s.away to = (s.out.length : Int) - ((look to s.pl).getD 0) := rfl
     have e2 : s.away els = (s.out.length : Int) - ((look els s.pl).getD 0) := rfl
     have r1 : 0 ≤ s.away to ∧ s.away to ≤ 4110 := by omega
     have r2 : 0 ≤ s.away els ∧ s.away els ≤ 4110 := by omega
     generalize s.away to = at1 at *
     generalize s.away els = at2 at *
     clear e1 e2 hlt hle haw hb1 hb2 hcm
     have hop := fun (L : List Blk) (s : Mk) (v : Value) (e : List Blk) (ho : Own 43 4 v s.out.length (flat s.out) e) (hle : s.out.length ≤ 4200) (n : Int) => hop_c (S:=S) (w0:=w0) (L:=L) m pm s v e ho hle n
     clear hv hsl
     refine Fn2 Try.func61 Try.ntmps61 rfl rfl ?_
     repeat' (first | (refine h4s (id:=7) ?_) | refine h1k ?_ | refine h0k ?_ | refine h0y ?_ | refine h0q ?_ | refine h1j ?_ | refine h0n rfl ?_ | (refine gR 0 ?_ <;> (try refine h0a ?_; (refine h3e (t:=88) rfl rfl ?_; intro nb hnb; (try simp only [Value.cells]))) <;> (try refine p_a (h:=h0b ?_))) | (refine gR 1 (p_m (h:=p_e (q_f h4d) (h:=q_e q_l ?_))) <;> (try refine h0a ?_; (refine q_c 59 (c:=by apply haw1; exact c_12; exact c_12) (h:=?_); rintro _ _ ⟨rfl, rfl⟩; (try simp only [zzE, zzF]))) <;> (try refine p_m (h:=p_x (h:=p_x (h:=p_a (h:=p_a (h:=h0b ?_))))))) | (refine gR 2 (p_m (h:=p_e (q_f fo_88_2) (h:=q_e q_l ?_))) <;> (try refine h0a ?_; (refine q_c 59 (c:=by apply haw2; exact c_12; exact c_12) (h:=?_); rintro _ _ ⟨rfl, rfl⟩; (try simp only [zzE, zzF]))) <;> (try refine p_m (h:=p_x (h:=p_x (h:=p_a (h:=p_a (h:=h0b ?_))))))) | (refine gR 3 (p_e (q_f h3r) (h:=p_e (q_g h1p) (h:=q_e q_l ?_))) <;> (try refine h0a ?_; (refine h1i (F:=51) (by kernel_rfl) rfl rfl (h5i _ (by omega)) ?_; rintro _ _ ⟨rfl, rfl⟩)) <;> (try refine q_e (by exact q_b (r:=by refine h4c ?_; first | rfl | (with_reducible assumption) | (decide; done) | omega)) ?_) <;> (try refine p_m (h:=p_y (q_f h3r) (h:=p_y (q_g h1p) (h:=p_y q_l (h:=p_y (q_b (r:=by exact h0e q_o)) (h:=p_p (h:=p_a (h:=h0b ?_))))))))) | (refine gR 5 (p_m (h:=p_e (by apply E_un; exact rfl; exact h4b) (h:=p_m (h:=p_y (h0c rfl) (h:=p_y (by apply E_un; exact rfl; exact h4b) (h:=p_p (h:=p_a (h:=h0b ?_))))))))))
     refine ⟨?_⟩
     refine G_blocks (L' := mkB m _ pm :: mapB pm (plV s.pl) :: (e ++ _ :: L)) (fun w H => H.perm ((List.Perm.swap _ _ _).trans (.cons _ ((List.Perm.swap _ _ _).trans (.cons _ List.perm_middle.symm))))) ?_
     by_cases b1 : at2 > 253
     ·repeat' (first | (refine h4s (id:=10) ?_) | refine h1k ?_ | refine h0k ?_ | refine h0o rfl ?_ | (refine gR 7 (p_m (h:=p_e (q_b (r:=by exact h5g q_o)) (h:=h0b ?_)))) | (refine gR 8 (p_m (h:=q_m ?_)) <;> (try refine h0a ?_; (refine h1i (F:=60) (by kernel_rfl) rfl rfl (hop_c m pm s _ _ ho (by (try simp only [Mk.hop_len]); omega) _) ?_; rintro _ _ ⟨rfl, v1, e1, ho1, rfl⟩)) <;> (try refine h0b ?_)) | (refine gR 9 (q_m ?_) <;> (try refine q_e (q_b (r:=by apply h0w; exact c_9; (focus (refine IntWalk.i64_in _ ?_; omega)))) ?_) <;> (try refine p_a (h:=p_a (h:=h0b ?_)))))
      refine ⟨?_⟩
      have hp1 : plV (s.hop at2).pl = plV s.pl := rfl
      rw [hp1]
      by_cases b2 : at1 + 1 > 253
      ·repeat' (first | (refine h4s (id:=13) ?_) | refine h1k ?_ | refine h0k ?_ | refine h0o rfl ?_ | (refine gR 10 (p_m (h:=p_e (q_b (r:=by exact h5g q_o)) (h:=h0b ?_)))) | (refine gR 11 (p_m (h:=q_m ?_)) <;> (try refine h0a ?_; (refine h1i (F:=60) (by kernel_rfl) rfl rfl (hop_c m pm (s.hop at2) _ _ ho1 (by (try simp only [Mk.hop_len]); omega) _) ?_; rintro _ _ ⟨rfl, v2, e2, ho2, rfl⟩)) <;> (try refine h0b ?_)) | (refine gR 12 (q_m ?_) <;> (try refine q_e (q_b (r:=by apply h0w; exact c_9; (focus (refine IntWalk.i64_in _ ?_; omega)))) ?_) <;> (try refine p_a (h:=p_a (h:=h0b ?_)))))
       refine ⟨?_⟩
       have hp2 : plV ((s.hop at2).hop (at1 + 1)).pl = plV s.pl := rfl
       have hfar : s.far ⟨kind, to, els, ⟨c, jt, jf, k⟩⟩ at1 at2 = ((s.hop at2).hop (at1 + 1)).put ⟨c, 0, (0 + 1), k⟩ := by unfold Mk.far Mk.far1 Mk.far2; rw [if_pos b1, if_pos b2]
       rw [hp2]
       rw [hfar]
       have hfl := fun v' e' => put_own (v:=v') (e:=e') ((s.hop at2).hop (at1 + 1)) ⟨c, 0, (0 + 1), k⟩
       have hml : ((s.hop at2).hop (at1 + 1)).out.length ≤ 4110 := by (try simp only [Mk.hop_len]); omega
       have hpl : plV (((s.hop at2).hop (at1 + 1)).put ⟨c, 0, (0 + 1), k⟩).pl = plV s.pl := rfl
       generalize ((s.hop at2).hop (at1 + 1)).put ⟨c, 0, (0 + 1), k⟩ = s3 at *
       simp only [Ins.cells] at hfl
       rcases h5k ho2 with ⟨rfl, h0, hx, rfl⟩ | ⟨g, capg, cur, rfl, rfl, q1, q2, q3, q4⟩
       ·(try simp only [zzC, zzN])
        repeat' (first | refine h1k ?_ | refine h0k ?_ | refine h2v ?_ | (refine gR 13 (p_e (q_f h3r) (h:=q_e (q_L h2n) ?_)) <;> (try refine h0a ?_; (refine h0u (t:=43) rfl Try.zeroValue43 ?_; intro nb hnb; (try simp only [Value.cells]))) <;> (try refine h0a ?_; (refine q_W ?_)) <;> (try refine h0b ?_)) | (refine gR 14 (q_m ?_) <;> (try refine q_e (by apply h2l; exact rfl; (focus (apply h2j Try.underlying3 Try.underlying5; first | (refine IntWalk.i64_in _ ?_; omega) | (refine IntWalk.u8_in _ ?_; omega) | (refine IntWalk.u16_in _ ?_; omega) | (refine IntWalk.u32_in _ ?_; omega) | (refine IntWalk.u64_in _ ?_; omega) | (refine IntWalk.i32_in _ ?_; omega) | exact rfl))) ?_) <;> (try refine q_m ?_) <;> (try refine q_e (by apply h2l; exact rfl; (focus (apply h2j Try.underlying3 Try.underlying5; first | (refine IntWalk.i64_in _ ?_; omega) | (refine IntWalk.u8_in _ ?_; omega) | (refine IntWalk.u16_in _ ?_; omega) | (refine IntWalk.u32_in _ ?_; omega) | (refine IntWalk.u64_in _ ?_; omega) | (refine IntWalk.i32_in _ ?_; omega) | exact rfl))) ?_) <;> (try refine q_e (q_f h6b) ?_) <;> (try refine h0a ?_; (refine q_S ?_)) <;> (try refine q_e (q_f h6a) ?_) <;> (try refine h0a ?_; (refine q_S ?_)) <;> (try refine h0b ?_)) | ((apply h3c (i:=1) (id:=15) (m:=11); exact c_14; kernel_rfl; exact rfl) <;> (try refine q_t 0 (e:=h2x) (x:=by exact h0c rfl) (h:=q_t 1 (e:=h2x) (x:=by exact h0c rfl) (h:=q_t 2 (e:=h2x) (x:=by exact h0j rfl) (h:=q_t 3 (e:=h2x) (x:=by exact q_f h2q) (h:=q_t 5 (e:=h2x) (x:=by exact q_L h2n) (h:=?_)))))) <;> (try refine h5n (i:=4) (j:=6) rfl rfl (by kernel_rfl) ?_ ?_ <;> (first | (refine TagA.mk ?_; (((refine q_k q_l ?_); refine h2y h2x ?_) <;> (try refine q_r 6 ?_; (refine h0r (t:=45) (m:=1) (e:=43) (fun vs => (match vs with | [(_, x0)] => x0.cells.toList | _ => [])) rfl rfl (fun w => by kernel_rfl) ?_; intro nb hnb; (try simp only [Value.cells]); (try simp only [zzC, zzN])); refine h2y h2x ?_) <;> (try refine q_r 7 ?_; (apply h2t; exact rfl; exact Try.underlying45; exact h3l; exact h3j; exact h3k; exact h3m; exact rfl; exact rfl; exact rfl; (with_reducible assumption); exact fd0; exact Nat.le_of_ble_eq_true rfl; exact c_28; exact rfl; exact h6j; omega; (exact fun _ H => H); exact rfl; exact c_19; exact c_8; intro vA eA hownA; obtain ⟨gA, capA, curA, rfl, rfl, hA1, hA2, hA3, hA4⟩ := hownA.some (by omega)); refine h2y h2x ?_) <;> (try refine q_t 8 (e:=h2x) (x:=by exact h0j rfl) (h:=q_t 9 (e:=h2x) (x:=by exact q_f h2q) (h:=?_))) <;> (try refine q_r 10 ?_; (apply h0p (t:=45); exact rfl; exact rfl; (focus (repeat (first | exact fd0 | apply fdA | apply fdS))); exact rfl; exact rfl; kernel_rfl; exact Nat.le_of_ble_eq_true rfl; exact h4l; (try simp only [List.set_cons_succ]); (try simp only [List.set_cons_zero])); refine h2y h2x ?_) <;> (try refine h2d (by kernel_rfl) ?_))) | (refine TagB.mk ?_; (((refine h0r (t:=45) (m:=1) (e:=43) (fun vs => (match vs with | [(_, x0)] => x0.cells.toList | _ => [])) rfl rfl (fun w => by kernel_rfl) ?_; intro nb hnb; (try simp only [Value.cells]); (try simp only [zzC, zzN])); refine h2y h2x ?_) <;> (try refine q_r 4 ?_; (refine q_k q_l ?_); refine h2y h2x ?_) <;> (try refine q_r 7 ?_; (apply h2t; exact rfl; exact Try.underlying45; exact h3l; exact h3j; exact h3k; exact h3m; exact rfl; exact rfl; exact rfl; (with_reducible assumption); exact fd0; exact Nat.le_of_ble_eq_true rfl; exact c_28; exact rfl; exact h6j; omega; (exact fun _ H => H); exact rfl; exact c_19; exact c_8; intro vA eA hownA; obtain ⟨gA, capA, curA, rfl, rfl, hA1, hA2, hA3, hA4⟩ := hownA.some (by omega)); refine h2y h2x ?_) <;> (try refine q_t 8 (e:=h2x) (x:=by exact h0j rfl) (h:=q_t 9 (e:=h2x) (x:=by exact q_f h2q) (h:=?_))) <;> (try refine q_r 10 ?_; (apply h0p (t:=45); exact rfl; exact rfl; (focus (repeat (first | exact fd0 | apply fdA | apply fdS))); exact rfl; exact rfl; kernel_rfl; exact Nat.le_of_ble_eq_true rfl; exact h4l; (try simp only [List.set_cons_succ]); (try simp only [List.set_cons_zero])); refine h2y h2x ?_) <;> (try refine h2d (by kernel_rfl) ?_)))))) | (refine gR 16 (p_a (h:=h0b ?_))))
        all_goals
         (refine h2k Try.results61 (.tmp rfl .nil) ?_)
         refine ⟨_, ⟨rfl, _, _, hfl _ _ (own_mk (g:=gA) hA1 hA2 hA3 hA4), rfl⟩, ?_⟩
         rw [hpl]
         intro w H; refine Sel.out ?_ H; (try simp only [zzC, zzN]); repeat (first | exact Sel.refl _ | (apply Sel.cons; exact h6c; (try simp only [zzE, zzF])) | apply Sel.drop)
       ·rw [← q4] at hfl
        clear ho2
        (try simp only [zzC, zzN])
        repeat' (first | refine h1k ?_ | refine h0k ?_ | refine h2v ?_ | (refine gR 13 (p_e (q_f h3r) (h:=q_e (q_L h2n) ?_)) <;> (try refine h0a ?_; (refine h0u (t:=43) rfl Try.zeroValue43 ?_; intro nb hnb; (try simp only [Value.cells]))) <;> (try refine h0a ?_; (refine q_W ?_)) <;> (try refine h0b ?_)) | (refine gR 14 (q_m ?_) <;> (try refine q_e (by apply h2l; exact rfl; (focus (apply h2j Try.underlying3 Try.underlying5; first | (refine IntWalk.i64_in _ ?_; omega) | (refine IntWalk.u8_in _ ?_; omega) | (refine IntWalk.u16_in _ ?_; omega) | (refine IntWalk.u32_in _ ?_; omega) | (refine IntWalk.u64_in _ ?_; omega) | (refine IntWalk.i32_in _ ?_; omega) | exact rfl))) ?_) <;> (try refine q_m ?_) <;> (try refine q_e (by apply h2l; exact rfl; (focus (apply h2j Try.underlying3 Try.underlying5; first | (refine IntWalk.i64_in _ ?_; omega) | (refine IntWalk.u8_in _ ?_; omega) | (refine IntWalk.u16_in _ ?_; omega) | (refine IntWalk.u32_in _ ?_; omega) | (refine IntWalk.u64_in _ ?_; omega) | (refine IntWalk.i32_in _ ?_; omega) | exact rfl))) ?_) <;> (try refine q_e (q_f h6b) ?_) <;> (try refine h0a ?_; (refine q_S ?_)) <;> (try refine q_e (q_f h6a) ?_) <;> (try refine h0a ?_; (refine q_S ?_)) <;> (try refine h0b ?_)) | ((apply G_regionHc (i:=1) (j:=2) (id:=15) (m:=11); exact c_14; kernel_rfl; exact rfl) <;> (try refine q_t 0 (e:=c_7) (x:=by exact h0c rfl) (h:=q_t 1 (e:=c_7) (x:=by exact h0c rfl) (h:=q_t 2 (e:=c_7) (x:=by exact h0j rfl) (h:=q_t 3 (e:=c_7) (x:=by exact q_f h2q) (h:=q_t 5 (e:=c_7) (x:=by exact q_L h2n) (h:=?_)))))) <;> (try refine h5n (i:=4) (j:=6) rfl rfl (by kernel_rfl) ?_ ?_ <;> (first | (refine TagA.mk ?_; (((refine q_k q_l ?_); refine h2y c_7 ?_) <;> (try refine q_r 6 ?_; (refine h0r (t:=45) (m:=1) (e:=43) (fun vs => (match vs with | [(_, x0)] => x0.cells.toList | _ => [])) rfl rfl (fun w => by kernel_rfl) ?_; intro nb hnb; (try simp only [Value.cells]); (try simp only [zzC, zzN])); refine h2y c_7 ?_) <;> (try refine q_r 7 ?_; (apply h3o; exact rfl; exact Try.underlying45; exact h3l; exact h3j; exact h3k; exact h3m; exact rfl; exact rfl; exact rfl; exact h6c; (with_reducible assumption); (with_reducible assumption); (with_reducible assumption); exact fd0; exact Nat.le_of_ble_eq_true rfl; exact c_28; exact rfl; exact h6j; omega; exact rfl; exact c_19; exact c_8; (try simp only [zzE, zzF]); intro vA eA hownA; obtain ⟨gA, capA, curA, rfl, rfl, hA1, hA2, hA3, hA4⟩ := hownA.some (by omega)); refine h2y c_7 ?_) <;> (try refine q_t 8 (e:=c_7) (x:=by exact h0j rfl) (h:=q_t 9 (e:=c_7) (x:=by exact q_f h2q) (h:=?_))) <;> (try refine q_r 10 ?_; (apply h0p (t:=45); exact rfl; exact rfl; (focus (repeat (first | exact fd0 | apply fdA | apply fdS))); exact rfl; exact rfl; kernel_rfl; exact Nat.le_of_ble_eq_true rfl; exact h4l; (try simp only [List.set_cons_succ]); (try simp only [List.set_cons_zero])); refine h2y c_7 ?_) <;> (try refine h2d (by kernel_rfl) ?_))) | (refine TagB.mk ?_; (((refine h0r (t:=45) (m:=1) (e:=43) (fun vs => (match vs with | [(_, x0)] => x0.cells.toList | _ => [])) rfl rfl (fun w => by kernel_rfl) ?_; intro nb hnb; (try simp only [Value.cells]); (try simp only [zzC, zzN])); refine h2y c_7 ?_) <;> (try refine q_r 4 ?_; (refine q_k q_l ?_); refine h2y c_7 ?_) <;> (try refine q_r 7 ?_; (apply h3o; exact rfl; exact Try.underlying45; exact h3l; exact h3j; exact h3k; exact h3m; exact rfl; exact rfl; exact rfl; exact h6c; (with_reducible assumption); (with_reducible assumption); (with_reducible assumption); exact fd0; exact Nat.le_of_ble_eq_true rfl; exact c_28; exact rfl; exact h6j; omega; exact rfl; exact c_19; exact c_8; (try simp only [zzE, zzF]); intro vA eA hownA; obtain ⟨gA, capA, curA, rfl, rfl, hA1, hA2, hA3, hA4⟩ := hownA.some (by omega)); refine h2y c_7 ?_) <;> (try refine q_t 8 (e:=c_7) (x:=by exact h0j rfl) (h:=q_t 9 (e:=c_7) (x:=by exact q_f h2q) (h:=?_))) <;> (try refine q_r 10 ?_; (apply h0p (t:=45); exact rfl; exact rfl; (focus (repeat (first | exact fd0 | apply fdA | apply fdS))); exact rfl; exact rfl; kernel_rfl; exact Nat.le_of_ble_eq_true rfl; exact h4l; (try simp only [List.set_cons_succ]); (try simp only [List.set_cons_zero])); refine h2y c_7 ?_) <;> (try refine h2d (by kernel_rfl) ?_)))))) | (refine gR 16 (p_a (h:=h0b ?_))))
        all_goals
         (refine h2k Try.results61 (.tmp rfl .nil) ?_)
         refine ⟨_, ⟨rfl, _, _, hfl _ _ (own_mk (g:=gA) hA1 hA2 hA3 hA4), rfl⟩, ?_⟩
         rw [hpl]
         intro w H; refine Sel.out ?_ H; (try simp only [zzC, zzN]); repeat (first | exact Sel.refl _ | (apply Sel.cons; exact h6c; (try simp only [zzE, zzF])) | apply Sel.drop)
      ·have hfar : s.far ⟨kind, to, els, ⟨c, jt, jf, k⟩⟩ at1 at2 = (s.hop at2).put ⟨c, (at1 + 1), 0, k⟩ := by unfold Mk.far Mk.far1 Mk.far2; rw [if_pos b1, if_neg b2]
       rw [hfar]
       have hfl := fun v' e' => put_own (v:=v') (e:=e') (s.hop at2) ⟨c, (at1 + 1), 0, k⟩
       have hml : (s.hop at2).out.length ≤ 4110 := by (try simp only [Mk.hop_len]); omega
       have hpl : plV ((s.hop at2).put ⟨c, (at1 + 1), 0, k⟩).pl = plV s.pl := rfl
       generalize (s.hop at2).put ⟨c, (at1 + 1), 0, k⟩ = s3 at *
       simp only [Ins.cells] at hfl
       rcases h5k ho1 with ⟨rfl, h0, hx, rfl⟩ | ⟨g, capg, cur, rfl, rfl, q1, q2, q3, q4⟩
       ·(try simp only [zzC, zzN])
        repeat' (first | refine h1k ?_ | refine h0k ?_ | refine h1j ?_ | refine h2v ?_ | refine h0n rfl ?_ | (refine gR 10 (p_m (h:=p_e (q_b (r:=by exact h4j q_o)) (h:=h0b ?_)))) | (refine gR 13 (p_e (q_f h3r) (h:=q_e (q_L h2n) ?_)) <;> (try refine h0a ?_; (refine h0u (t:=43) rfl Try.zeroValue43 ?_; intro nb hnb; (try simp only [Value.cells]))) <;> (try refine h0a ?_; (refine q_W ?_)) <;> (try refine h0b ?_)) | (refine gR 14 (q_m ?_) <;> (try refine q_e (by apply h2l; exact rfl; (focus (apply h2j Try.underlying3 Try.underlying5; first | (refine IntWalk.i64_in _ ?_; omega) | (refine IntWalk.u8_in _ ?_; omega) | (refine IntWalk.u16_in _ ?_; omega) | (refine IntWalk.u32_in _ ?_; omega) | (refine IntWalk.u64_in _ ?_; omega) | (refine IntWalk.i32_in _ ?_; omega) | exact rfl))) ?_) <;> (try refine q_m ?_) <;> (try refine q_e (by apply h2l; exact rfl; (focus (apply h2j Try.underlying3 Try.underlying5; first | (refine IntWalk.i64_in _ ?_; omega) | (refine IntWalk.u8_in _ ?_; omega) | (refine IntWalk.u16_in _ ?_; omega) | (refine IntWalk.u32_in _ ?_; omega) | (refine IntWalk.u64_in _ ?_; omega) | (refine IntWalk.i32_in _ ?_; omega) | exact rfl))) ?_) <;> (try refine q_e (q_f h6b) ?_) <;> (try refine h0a ?_; (refine q_S ?_)) <;> (try refine q_e (q_f h6a) ?_) <;> (try refine h0a ?_; (refine q_S ?_)) <;> (try refine h0b ?_)) | ((apply h3c (i:=1) (id:=15) (m:=11); exact c_14; kernel_rfl; exact rfl) <;> (try refine q_t 0 (e:=h2x) (x:=by exact h0c rfl) (h:=q_t 1 (e:=h2x) (x:=by exact h0c rfl) (h:=q_t 2 (e:=h2x) (x:=by exact h0j rfl) (h:=q_t 3 (e:=h2x) (x:=by exact q_f h2q) (h:=q_t 5 (e:=h2x) (x:=by exact q_L h2n) (h:=?_)))))) <;> (try refine h5n (i:=4) (j:=6) rfl rfl (by kernel_rfl) ?_ ?_ <;> (first | (refine TagA.mk ?_; (((refine q_k q_l ?_); refine h2y h2x ?_) <;> (try refine q_r 6 ?_; (refine h0r (t:=45) (m:=1) (e:=43) (fun vs => (match vs with | [(_, x0)] => x0.cells.toList | _ => [])) rfl rfl (fun w => by kernel_rfl) ?_; intro nb hnb; (try simp only [Value.cells]); (try simp only [zzC, zzN])); refine h2y h2x ?_) <;> (try refine q_r 7 ?_; (apply h2t; exact rfl; exact Try.underlying45; exact h3l; exact h3j; exact h3k; exact h3m; exact rfl; exact rfl; exact rfl; (with_reducible assumption); exact fd0; exact Nat.le_of_ble_eq_true rfl; exact c_28; exact rfl; exact h6j; omega; (exact fun _ H => H); exact rfl; exact c_19; exact c_8; intro vA eA hownA; obtain ⟨gA, capA, curA, rfl, rfl, hA1, hA2, hA3, hA4⟩ := hownA.some (by omega)); refine h2y h2x ?_) <;> (try refine q_t 8 (e:=h2x) (x:=by exact h0j rfl) (h:=q_t 9 (e:=h2x) (x:=by exact q_f h2q) (h:=?_))) <;> (try refine q_r 10 ?_; (apply h0p (t:=45); exact rfl; exact rfl; (focus (repeat (first | exact fd0 | apply fdA | apply fdS))); exact rfl; exact rfl; kernel_rfl; exact Nat.le_of_ble_eq_true rfl; exact h4l; (try simp only [List.set_cons_succ]); (try simp only [List.set_cons_zero])); refine h2y h2x ?_) <;> (try refine h2d (by kernel_rfl) ?_))) | (refine TagB.mk ?_; (((refine h0r (t:=45) (m:=1) (e:=43) (fun vs => (match vs with | [(_, x0)] => x0.cells.toList | _ => [])) rfl rfl (fun w => by kernel_rfl) ?_; intro nb hnb; (try simp only [Value.cells]); (try simp only [zzC, zzN])); refine h2y h2x ?_) <;> (try refine q_r 4 ?_; (refine q_k q_l ?_); refine h2y h2x ?_) <;> (try refine q_r 7 ?_; (apply h2t; exact rfl; exact Try.underlying45; exact h3l; exact h3j; exact h3k; exact h3m; exact rfl; exact rfl; exact rfl; (with_reducible assumption); exact fd0; exact Nat.le_of_ble_eq_true rfl; exact c_28; exact rfl; exact h6j; omega; (exact fun _ H => H); exact rfl; exact c_19; exact c_8; intro vA eA hownA; obtain ⟨gA, capA, curA, rfl, rfl, hA1, hA2, hA3, hA4⟩ := hownA.some (by omega)); refine h2y h2x ?_) <;> (try refine q_t 8 (e:=h2x) (x:=by exact h0j rfl) (h:=q_t 9 (e:=h2x) (x:=by exact q_f h2q) (h:=?_))) <;> (try refine q_r 10 ?_; (apply h0p (t:=45); exact rfl; exact rfl; (focus (repeat (first | exact fd0 | apply fdA | apply fdS))); exact rfl; exact rfl; kernel_rfl; exact Nat.le_of_ble_eq_true rfl; exact h4l; (try simp only [List.set_cons_succ]); (try simp only [List.set_cons_zero])); refine h2y h2x ?_) <;> (try refine h2d (by kernel_rfl) ?_)))))) | (refine gR 16 (p_a (h:=h0b ?_))))
        all_goals
         (refine h2k Try.results61 (.tmp rfl .nil) ?_)
         refine ⟨_, ⟨rfl, _, _, hfl _ _ (own_mk (g:=gA) hA1 hA2 hA3 hA4), rfl⟩, ?_⟩
         rw [hpl]
         intro w H; refine Sel.out ?_ H; (try simp only [zzC, zzN]); repeat (first | exact Sel.refl _ | (apply Sel.cons; exact h6c; (try simp only [zzE, zzF])) | apply Sel.drop)
       ·rw [← q4] at hfl
        clear ho1
        (try simp only [zzC, zzN])
        repeat' (first | refine h1k ?_ | refine h0k ?_ | refine h1j ?_ | refine h2v ?_ | refine h0n rfl ?_ | (refine gR 10 (p_m (h:=p_e (q_b (r:=by exact h4j q_o)) (h:=h0b ?_)))) | (refine gR 13 (p_e (q_f h3r) (h:=q_e (q_L h2n) ?_)) <;> (try refine h0a ?_; (refine h0u (t:=43) rfl Try.zeroValue43 ?_; intro nb hnb; (try simp only [Value.cells]))) <;> (try refine h0a ?_; (refine q_W ?_)) <;> (try refine h0b ?_)) | (refine gR 14 (q_m ?_) <;> (try refine q_e (by apply h2l; exact rfl; (focus (apply h2j Try.underlying3 Try.underlying5; first | (refine IntWalk.i64_in _ ?_; omega) | (refine IntWalk.u8_in _ ?_; omega) | (refine IntWalk.u16_in _ ?_; omega) | (refine IntWalk.u32_in _ ?_; omega) | (refine IntWalk.u64_in _ ?_; omega) | (refine IntWalk.i32_in _ ?_; omega) | exact rfl))) ?_) <;> (try refine q_m ?_) <;> (try refine q_e (by apply h2l; exact rfl; (focus (apply h2j Try.underlying3 Try.underlying5; first | (refine IntWalk.i64_in _ ?_; omega) | (refine IntWalk.u8_in _ ?_; omega) | (refine IntWalk.u16_in _ ?_; omega) | (refine IntWalk.u32_in _ ?_; omega) | (refine IntWalk.u64_in _ ?_; omega) | (refine IntWalk.i32_in _ ?_; omega) | exact rfl))) ?_) <;> (try refine q_e (q_f h6b) ?_) <;> (try refine h0a ?_; (refine q_S ?_)) <;> (try refine q_e (q_f h6a) ?_) <;> (try refine h0a ?_; (refine q_S ?_)) <;> (try refine h0b ?_)) | ((apply G_regionHc (i:=1) (j:=2) (id:=15) (m:=11); exact c_14; kernel_rfl; exact rfl) <;> (try refine q_t 0 (e:=c_7) (x:=by exact h0c rfl) (h:=q_t 1 (e:=c_7) (x:=by exact h0c rfl) (h:=q_t 2 (e:=c_7) (x:=by exact h0j rfl) (h:=q_t 3 (e:=c_7) (x:=by exact q_f h2q) (h:=q_t 5 (e:=c_7) (x:=by exact q_L h2n) (h:=?_)))))) <;> (try refine h5n (i:=4) (j:=6) rfl rfl (by kernel_rfl) ?_ ?_ <;> (first | (refine TagA.mk ?_; (((refine q_k q_l ?_); refine h2y c_7 ?_) <;> (try refine q_r 6 ?_; (refine h0r (t:=45) (m:=1) (e:=43) (fun vs => (match vs with | [(_, x0)] => x0.cells.toList | _ => [])) rfl rfl (fun w => by kernel_rfl) ?_; intro nb hnb; (try simp only [Value.cells]); (try simp only [zzC, zzN])); refine h2y c_7 ?_) <;> (try refine q_r 7 ?_; (apply h3o; exact rfl; exact Try.underlying45; exact h3l; exact h3j; exact h3k; exact h3m; exact rfl; exact rfl; exact rfl; exact h6c; (with_reducible assumption); (with_reducible assumption); (with_reducible assumption); exact fd0; exact Nat.le_of_ble_eq_true rfl; exact c_28; exact rfl; exact h6j; omega; exact rfl; exact c_19; exact c_8; (try simp only [zzE, zzF]); intro vA eA hownA; obtain ⟨gA, capA, curA, rfl, rfl, hA1, hA2, hA3, hA4⟩ := hownA.some (by omega)); refine h2y c_7 ?_) <;> (try refine q_t 8 (e:=c_7) (x:=by exact h0j rfl) (h:=q_t 9 (e:=c_7) (x:=by exact q_f h2q) (h:=?_))) <;> (try refine q_r 10 ?_; (apply h0p (t:=45); exact rfl; exact rfl; (focus (repeat (first | exact fd0 | apply fdA | apply fdS))); exact rfl; exact rfl; kernel_rfl; exact Nat.le_of_ble_eq_true rfl; exact h4l; (try simp only [List.set_cons_succ]); (try simp only [List.set_cons_zero])); refine h2y c_7 ?_) <;> (try refine h2d (by kernel_rfl) ?_))) | (refine TagB.mk ?_; (((refine h0r (t:=45) (m:=1) (e:=43) (fun vs => (match vs with | [(_, x0)] => x0.cells.toList | _ => [])) rfl rfl (fun w => by kernel_rfl) ?_; intro nb hnb; (try simp only [Value.cells]); (try simp only [zzC, zzN])); refine h2y c_7 ?_) <;> (try refine q_r 4 ?_; (refine q_k q_l ?_); refine h2y c_7 ?_) <;> (try refine q_r 7 ?_; (apply h3o; exact rfl; exact Try.underlying45; exact h3l; exact h3j; exact h3k; exact h3m; exact rfl; exact rfl; exact rfl; exact h6c; (with_reducible assumption); (with_reducible assumption); (with_reducible assumption); exact fd0; exact Nat.le_of_ble_eq_true rfl; exact c_28; exact rfl; exact h6j; omega; exact rfl; exact c_19; exact c_8; (try simp only [zzE, zzF]); intro vA eA hownA; obtain ⟨gA, capA, curA, rfl, rfl, hA1, hA2, hA3, hA4⟩ := hownA.some (by omega)); refine h2y c_7 ?_) <;> (try refine q_t 8 (e:=c_7) (x:=by exact h0j rfl) (h:=q_t 9 (e:=c_7) (x:=by exact q_f h2q) (h:=?_))) <;> (try refine q_r 10 ?_; (apply h0p (t:=45); exact rfl; exact rfl; (focus (repeat (first | exact fd0 | apply fdA | apply fdS))); exact rfl; exact rfl; kernel_rfl; exact Nat.le_of_ble_eq_true rfl; exact h4l; (try simp only [List.set_cons_succ]); (try simp only [List.set_cons_zero])); refine h2y c_7 ?_) <;> (try refine h2d (by kernel_rfl) ?_)))))) | (refine gR 16 (p_a (h:=h0b ?_))))
        all_goals
         (refine h2k Try.results61 (.tmp rfl .nil) ?_)
         refine ⟨_, ⟨rfl, _, _, hfl _ _ (own_mk (g:=gA) hA1 hA2 hA3 hA4), rfl⟩, ?_⟩
         rw [hpl]
         intro w H; refine Sel.out ?_ H; (try simp only [zzC, zzN]); repeat (first | exact Sel.refl _ | (apply Sel.cons; exact h6c; (try simp only [zzE, zzF])) | apply Sel.drop)
     ·by_cases b2 : at1 > 253
      ·repeat' (first | (refine h4s (id:=13) ?_) | refine h1k ?_ | refine h0k ?_ | refine h1j ?_ | refine h0o rfl ?_ | refine h0n rfl ?_ | (refine gR 7 (p_m (h:=p_e (q_b (r:=by exact h4j q_o)) (h:=h0b ?_)))) | (refine gR 10 (p_m (h:=p_e (q_b (r:=by exact h5g q_o)) (h:=h0b ?_)))) | (refine gR 11 (p_m (h:=q_m ?_)) <;> (try refine h0a ?_; (refine h1i (F:=60) (by kernel_rfl) rfl rfl (hop_c m pm s _ _ ho (by (try simp only [Mk.hop_len]); omega) _) ?_; rintro _ _ ⟨rfl, v1, e1, ho1, rfl⟩)) <;> (try refine h0b ?_)) | (refine gR 12 (q_m ?_) <;> (try refine q_e (q_b (r:=by apply h0w; exact c_9; (focus (refine IntWalk.i64_in _ ?_; omega)))) ?_) <;> (try refine p_a (h:=p_a (h:=h0b ?_)))))
       refine ⟨?_⟩
       have hp1 : plV (s.hop at1).pl = plV s.pl := rfl
       have hfar : s.far ⟨kind, to, els, ⟨c, jt, jf, k⟩⟩ at1 at2 = (s.hop at1).put ⟨c, 0, (at2 + 1), k⟩ := by unfold Mk.far Mk.far1 Mk.far2; rw [if_neg b1, if_pos b2]
       rw [hp1]
       rw [hfar]
       have hfl := fun v' e' => put_own (v:=v') (e:=e') (s.hop at1) ⟨c, 0, (at2 + 1), k⟩
       have hml : (s.hop at1).out.length ≤ 4110 := by (try simp only [Mk.hop_len]); omega
       have hpl : plV ((s.hop at1).put ⟨c, 0, (at2 + 1), k⟩).pl = plV s.pl := rfl
       generalize (s.hop at1).put ⟨c, 0, (at2 + 1), k⟩ = s3 at *
       simp only [Ins.cells] at hfl
       rcases h5k ho1 with ⟨rfl, h0, hx, rfl⟩ | ⟨g, capg, cur, rfl, rfl, q1, q2, q3, q4⟩
       ·(try simp only [zzC, zzN])
        repeat' (first | refine h1k ?_ | refine h0k ?_ | refine h2v ?_ | (refine gR 13 (p_e (q_f h3r) (h:=q_e (q_L h2n) ?_)) <;> (try refine h0a ?_; (refine h0u (t:=43) rfl Try.zeroValue43 ?_; intro nb hnb; (try simp only [Value.cells]))) <;> (try refine h0a ?_; (refine q_W ?_)) <;> (try refine h0b ?_)) | (refine gR 14 (q_m ?_) <;> (try refine q_e (by apply h2l; exact rfl; (focus (apply h2j Try.underlying3 Try.underlying5; first | (refine IntWalk.i64_in _ ?_; omega) | (refine IntWalk.u8_in _ ?_; omega) | (refine IntWalk.u16_in _ ?_; omega) | (refine IntWalk.u32_in _ ?_; omega) | (refine IntWalk.u64_in _ ?_; omega) | (refine IntWalk.i32_in _ ?_; omega) | exact rfl))) ?_) <;> (try refine q_m ?_) <;> (try refine q_e (by apply h2l; exact rfl; (focus (apply h2j Try.underlying3 Try.underlying5; first | (refine IntWalk.i64_in _ ?_; omega) | (refine IntWalk.u8_in _ ?_; omega) | (refine IntWalk.u16_in _ ?_; omega) | (refine IntWalk.u32_in _ ?_; omega) | (refine IntWalk.u64_in _ ?_; omega) | (refine IntWalk.i32_in _ ?_; omega) | exact rfl))) ?_) <;> (try refine q_e (q_f h6b) ?_) <;> (try refine h0a ?_; (refine q_S ?_)) <;> (try refine q_e (q_f h6a) ?_) <;> (try refine h0a ?_; (refine q_S ?_)) <;> (try refine h0b ?_)) | ((apply h3c (i:=1) (id:=15) (m:=11); exact c_14; kernel_rfl; exact rfl) <;> (try refine q_t 0 (e:=h2x) (x:=by exact h0c rfl) (h:=q_t 1 (e:=h2x) (x:=by exact h0c rfl) (h:=q_t 2 (e:=h2x) (x:=by exact h0j rfl) (h:=q_t 3 (e:=h2x) (x:=by exact q_f h2q) (h:=q_t 5 (e:=h2x) (x:=by exact q_L h2n) (h:=?_)))))) <;> (try refine h5n (i:=4) (j:=6) rfl rfl (by kernel_rfl) ?_ ?_ <;> (first | (refine TagA.mk ?_; (((refine q_k q_l ?_); refine h2y h2x ?_) <;> (try refine q_r 6 ?_; (refine h0r (t:=45) (m:=1) (e:=43) (fun vs => (match vs with | [(_, x0)] => x0.cells.toList | _ => [])) rfl rfl (fun w => by kernel_rfl) ?_; intro nb hnb; (try simp only [Value.cells]); (try simp only [zzC, zzN])); refine h2y h2x ?_) <;> (try refine q_r 7 ?_; (apply h2t; exact rfl; exact Try.underlying45; exact h3l; exact h3j; exact h3k; exact h3m; exact rfl; exact rfl; exact rfl; (with_reducible assumption); exact fd0; exact Nat.le_of_ble_eq_true rfl; exact c_28; exact rfl; exact h6j; omega; (exact fun _ H => H); exact rfl; exact c_19; exact c_8; intro vA eA hownA; obtain ⟨gA, capA, curA, rfl, rfl, hA1, hA2, hA3, hA4⟩ := hownA.some (by omega)); refine h2y h2x ?_) <;> (try refine q_t 8 (e:=h2x) (x:=by exact h0j rfl) (h:=q_t 9 (e:=h2x) (x:=by exact q_f h2q) (h:=?_))) <;> (try refine q_r 10 ?_; (apply h0p (t:=45); exact rfl; exact rfl; (focus (repeat (first | exact fd0 | apply fdA | apply fdS))); exact rfl; exact rfl; kernel_rfl; exact Nat.le_of_ble_eq_true rfl; exact h4l; (try simp only [List.set_cons_succ]); (try simp only [List.set_cons_zero])); refine h2y h2x ?_) <;> (try refine h2d (by kernel_rfl) ?_))) | (refine TagB.mk ?_; (((refine h0r (t:=45) (m:=1) (e:=43) (fun vs => (match vs with | [(_, x0)] => x0.cells.toList | _ => [])) rfl rfl (fun w => by kernel_rfl) ?_; intro nb hnb; (try simp only [Value.cells]); (try simp only [zzC, zzN])); refine h2y h2x ?_) <;> (try refine q_r 4 ?_; (refine q_k q_l ?_); refine h2y h2x ?_) <;> (try refine q_r 7 ?_; (apply h2t; exact rfl; exact Try.underlying45; exact h3l; exact h3j; exact h3k; exact h3m; exact rfl; exact rfl; exact rfl; (with_reducible assumption); exact fd0; exact Nat.le_of_ble_eq_true rfl; exact c_28; exact rfl; exact h6j; omega; (exact fun _ H => H); exact rfl; exact c_19; exact c_8; intro vA eA hownA; obtain ⟨gA, capA, curA, rfl, rfl, hA1, hA2, hA3, hA4⟩ := hownA.some (by omega)); refine h2y h2x ?_) <;> (try refine q_t 8 (e:=h2x) (x:=by exact h0j rfl) (h:=q_t 9 (e:=h2x) (x:=by exact q_f h2q) (h:=?_))) <;> (try refine q_r 10 ?_; (apply h0p (t:=45); exact rfl; exact rfl; (focus (repeat (first | exact fd0 | apply fdA | apply fdS))); exact rfl; exact rfl; kernel_rfl; exact Nat.le_of_ble_eq_true rfl; exact h4l; (try simp only [List.set_cons_succ]); (try simp only [List.set_cons_zero])); refine h2y h2x ?_) <;> (try refine h2d (by kernel_rfl) ?_)))))) | (refine gR 16 (p_a (h:=h0b ?_))))
        all_goals
         (refine h2k Try.results61 (.tmp rfl .nil) ?_)
         refine ⟨_, ⟨rfl, _, _, hfl _ _ (own_mk (g:=gA) hA1 hA2 hA3 hA4), rfl⟩, ?_⟩
         rw [hpl]
         intro w H; refine Sel.out ?_ H; (try simp only [zzC, zzN]); repeat (first | exact Sel.refl _ | (apply Sel.cons; exact h6c; (try simp only [zzE, zzF])) | apply Sel.drop)
       ·rw [← q4] at hfl
        clear ho1
        (try simp only [zzC, zzN])
        repeat' (first | refine h1k ?_ | refine h0k ?_ | refine h2v ?_ | (refine gR 13 (p_e (q_f h3r) (h:=q_e (q_L h2n) ?_)) <;> (try refine h0a ?_; (refine h0u (t:=43) rfl Try.zeroValue43 ?_; intro nb hnb; (try simp only [Value.cells]))) <;> (try refine h0a ?_; (refine q_W ?_)) <;> (try refine h0b ?_)) | (refine gR 14 (q_m ?_) <;> (try refine q_e (by apply h2l; exact rfl; (focus (apply h2j Try.underlying3 Try.underlying5; first | (refine IntWalk.i64_in _ ?_; omega) | (refine IntWalk.u8_in _ ?_; omega) | (refine IntWalk.u16_in _ ?_; omega) | (refine IntWalk.u32_in _ ?_; omega) | (refine IntWalk.u64_in _ ?_; omega) | (refine IntWalk.i32_in _ ?_; omega) | exact rfl))) ?_) <;> (try refine q_m ?_) <;> (try refine q_e (by apply h2l; exact rfl; (focus (apply h2j Try.underlying3 Try.underlying5; first | (refine IntWalk.i64_in _ ?_; omega) | (refine IntWalk.u8_in _ ?_; omega) | (refine IntWalk.u16_in _ ?_; omega) | (refine IntWalk.u32_in _ ?_; omega) | (refine IntWalk.u64_in _ ?_; omega) | (refine IntWalk.i32_in _ ?_; omega) | exact rfl))) ?_) <;> (try refine q_e (q_f h6b) ?_) <;> (try refine h0a ?_; (refine q_S ?_)) <;> (try refine q_e (q_f h6a) ?_) <;> (try refine h0a ?_; (refine q_S ?_)) <;> (try refine h0b ?_)) | ((apply G_regionHc (i:=1) (j:=2) (id:=15) (m:=11); exact c_14; kernel_rfl; exact rfl) <;> (try refine q_t 0 (e:=c_7) (x:=by exact h0c rfl) (h:=q_t 1 (e:=c_7) (x:=by exact h0c rfl) (h:=q_t 2 (e:=c_7) (x:=by exact h0j rfl) (h:=q_t 3 (e:=c_7) (x:=by exact q_f h2q) (h:=q_t 5 (e:=c_7) (x:=by exact q_L h2n) (h:=?_)))))) <;> (try refine h5n (i:=4) (j:=6) rfl rfl (by kernel_rfl) ?_ ?_ <;> (first | (refine TagA.mk ?_; (((refine q_k q_l ?_); refine h2y c_7 ?_) <;> (try refine q_r 6 ?_; (refine h0r (t:=45) (m:=1) (e:=43) (fun vs => (match vs with | [(_, x0)] => x0.cells.toList | _ => [])) rfl rfl (fun w => by kernel_rfl) ?_; intro nb hnb; (try simp only [Value.cells]); (try simp only [zzC, zzN])); refine h2y c_7 ?_) <;> (try refine q_r 7 ?_; (apply h3o; exact rfl; exact Try.underlying45; exact h3l; exact h3j; exact h3k; exact h3m; exact rfl; exact rfl; exact rfl; exact h6c; (with_reducible assumption); (with_reducible assumption); (with_reducible assumption); exact fd0; exact Nat.le_of_ble_eq_true rfl; exact c_28; exact rfl; exact h6j; omega; exact rfl; exact c_19; exact c_8; (try simp only [zzE, zzF]); intro vA eA hownA; obtain ⟨gA, capA, curA, rfl, rfl, hA1, hA2, hA3, hA4⟩ := hownA.some (by omega)); refine h2y c_7 ?_) <;> (try refine q_t 8 (e:=c_7) (x:=by exact h0j rfl) (h:=q_t 9 (e:=c_7) (x:=by exact q_f h2q) (h:=?_))) <;> (try refine q_r 10 ?_; (apply h0p (t:=45); exact rfl; exact rfl; (focus (repeat (first | exact fd0 | apply fdA | apply fdS))); exact rfl; exact rfl; kernel_rfl; exact Nat.le_of_ble_eq_true rfl; exact h4l; (try simp only [List.set_cons_succ]); (try simp only [List.set_cons_zero])); refine h2y c_7 ?_) <;> (try refine h2d (by kernel_rfl) ?_))) | (refine TagB.mk ?_; (((refine h0r (t:=45) (m:=1) (e:=43) (fun vs => (match vs with | [(_, x0)] => x0.cells.toList | _ => [])) rfl rfl (fun w => by kernel_rfl) ?_; intro nb hnb; (try simp only [Value.cells]); (try simp only [zzC, zzN])); refine h2y c_7 ?_) <;> (try refine q_r 4 ?_; (refine q_k q_l ?_); refine h2y c_7 ?_) <;> (try refine q_r 7 ?_; (apply h3o; exact rfl; exact Try.underlying45; exact h3l; exact h3j; exact h3k; exact h3m; exact rfl; exact rfl; exact rfl; exact h6c; (with_reducible assumption); (with_reducible assumption); (with_reducible assumption); exact fd0; exact Nat.le_of_ble_eq_true rfl; exact c_28; exact rfl; exact h6j; omega; exact rfl; exact c_19; exact c_8; (try simp only [zzE, zzF]); intro vA eA hownA; obtain ⟨gA, capA, curA, rfl, rfl, hA1, hA2, hA3, hA4⟩ := hownA.some (by omega)); refine h2y c_7 ?_) <;> (try refine q_t 8 (e:=c_7) (x:=by exact h0j rfl) (h:=q_t 9 (e:=c_7) (x:=by exact q_f h2q) (h:=?_))) <;> (try refine q_r 10 ?_; (apply h0p (t:=45); exact rfl; exact rfl; (focus (repeat (first | exact fd0 | apply fdA | apply fdS))); exact rfl; exact rfl; kernel_rfl; exact Nat.le_of_ble_eq_true rfl; exact h4l; (try simp only [List.set_cons_succ]); (try simp only [List.set_cons_zero])); refine h2y c_7 ?_) <;> (try refine h2d (by kernel_rfl) ?_)))))) | (refine gR 16 (p_a (h:=h0b ?_))))
        all_goals
         (refine h2k Try.results61 (.tmp rfl .nil) ?_)
         refine ⟨_, ⟨rfl, _, _, hfl _ _ (own_mk (g:=gA) hA1 hA2 hA3 hA4), rfl⟩, ?_⟩
         rw [hpl]
         intro w H; refine Sel.out ?_ H; (try simp only [zzC, zzN]); repeat (first | exact Sel.refl _ | (apply Sel.cons; exact h6c; (try simp only [zzE, zzF])) | apply Sel.drop)
      ·have hfar : s.far ⟨kind, to, els, ⟨c, jt, jf, k⟩⟩ at1 at2 = s.put ⟨c, at1, at2, k⟩ := by unfold Mk.far Mk.far1 Mk.far2; rw [if_neg b1, if_neg b2]
       rw [hfar]
       have hfl := fun v' e' => put_own (v:=v') (e:=e') (s) ⟨c, at1, at2, k⟩
       have hml : (s).out.length ≤ 4110 := by (try simp only [Mk.hop_len]); omega
       have hpl : plV ((s).put ⟨c, at1, at2, k⟩).pl = plV s.pl := rfl
       generalize (s).put ⟨c, at1, at2, k⟩ = s3 at *
       simp only [Ins.cells] at hfl
       rcases h5k ho with ⟨rfl, h0, hx, rfl⟩ | ⟨g, capg, cur, rfl, rfl, q1, q2, q3, q4⟩
       ·(try simp only [zzC, zzN])
        repeat' (first | refine h1k ?_ | refine h0k ?_ | refine h1j ?_ | refine h2v ?_ | refine h0n rfl ?_ | (refine gR 7 (p_m (h:=p_e (q_b (r:=by exact h4j q_o)) (h:=h0b ?_)))) | (refine gR 10 (p_m (h:=p_e (q_b (r:=by exact h4j q_o)) (h:=h0b ?_)))) | (refine gR 13 (p_e (q_f h3r) (h:=q_e (q_L h2n) ?_)) <;> (try refine h0a ?_; (refine h0u (t:=43) rfl Try.zeroValue43 ?_; intro nb hnb; (try simp only [Value.cells]))) <;> (try refine h0a ?_; (refine q_W ?_)) <;> (try refine h0b ?_)) | (refine gR 14 (q_m ?_) <;> (try refine q_e (by apply h2l; exact rfl; (focus (apply h2j Try.underlying3 Try.underlying5; first | (refine IntWalk.i64_in _ ?_; omega) | (refine IntWalk.u8_in _ ?_; omega) | (refine IntWalk.u16_in _ ?_; omega) | (refine IntWalk.u32_in _ ?_; omega) | (refine IntWalk.u64_in _ ?_; omega) | (refine IntWalk.i32_in _ ?_; omega) | exact rfl))) ?_) <;> (try refine q_m ?_) <;> (try refine q_e (by apply h2l; exact rfl; (focus (apply h2j Try.underlying3 Try.underlying5; first | (refine IntWalk.i64_in _ ?_; omega) | (refine IntWalk.u8_in _ ?_; omega) | (refine IntWalk.u16_in _ ?_; omega) | (refine IntWalk.u32_in _ ?_; omega) | (refine IntWalk.u64_in _ ?_; omega) | (refine IntWalk.i32_in _ ?_; omega) | exact rfl))) ?_) <;> (try refine q_e (q_f h6b) ?_) <;> (try refine h0a ?_; (refine q_S ?_)) <;> (try refine q_e (q_f h6a) ?_) <;> (try refine h0a ?_; (refine q_S ?_)) <;> (try refine h0b ?_)) | ((apply h3c (i:=1) (id:=15) (m:=11); exact c_14; kernel_rfl; exact rfl) <;> (try refine q_t 0 (e:=h2x) (x:=by exact h0c rfl) (h:=q_t 1 (e:=h2x) (x:=by exact h0c rfl) (h:=q_t 2 (e:=h2x) (x:=by exact h0j rfl) (h:=q_t 3 (e:=h2x) (x:=by exact q_f h2q) (h:=q_t 5 (e:=h2x) (x:=by exact q_L h2n) (h:=?_)))))) <;> (try refine h5n (i:=4) (j:=6) rfl rfl (by kernel_rfl) ?_ ?_ <;> (first | (refine TagA.mk ?_; (((refine q_k q_l ?_); refine h2y h2x ?_) <;> (try refine q_r 6 ?_; (refine h0r (t:=45) (m:=1) (e:=43) (fun vs => (match vs with | [(_, x0)] => x0.cells.toList | _ => [])) rfl rfl (fun w => by kernel_rfl) ?_; intro nb hnb; (try simp only [Value.cells]); (try simp only [zzC, zzN])); refine h2y h2x ?_) <;> (try refine q_r 7 ?_; (apply h2t; exact rfl; exact Try.underlying45; exact h3l; exact h3j; exact h3k; exact h3m; exact rfl; exact rfl; exact rfl; (with_reducible assumption); exact fd0; exact Nat.le_of_ble_eq_true rfl; exact c_28; exact rfl; exact h6j; omega; (exact fun _ H => H); exact rfl; exact c_19; exact c_8; intro vA eA hownA; obtain ⟨gA, capA, curA, rfl, rfl, hA1, hA2, hA3, hA4⟩ := hownA.some (by omega)); refine h2y h2x ?_) <;> (try refine q_t 8 (e:=h2x) (x:=by exact h0j rfl) (h:=q_t 9 (e:=h2x) (x:=by exact q_f h2q) (h:=?_))) <;> (try refine q_r 10 ?_; (apply h0p (t:=45); exact rfl; exact rfl; (focus (repeat (first | exact fd0 | apply fdA | apply fdS))); exact rfl; exact rfl; kernel_rfl; exact Nat.le_of_ble_eq_true rfl; exact h4l; (try simp only [List.set_cons_succ]); (try simp only [List.set_cons_zero])); refine h2y h2x ?_) <;> (try refine h2d (by kernel_rfl) ?_))) | (refine TagB.mk ?_; (((refine h0r (t:=45) (m:=1) (e:=43) (fun vs => (match vs with | [(_, x0)] => x0.cells.toList | _ => [])) rfl rfl (fun w => by kernel_rfl) ?_; intro nb hnb; (try simp only [Value.cells]); (try simp only [zzC, zzN])); refine h2y h2x ?_) <;> (try refine q_r 4 ?_; (refine q_k q_l ?_); refine h2y h2x ?_) <;> (try refine q_r 7 ?_; (apply h2t; exact rfl; exact Try.underlying45; exact h3l; exact h3j; exact h3k; exact h3m; exact rfl; exact rfl; exact rfl; (with_reducible assumption); exact fd0; exact Nat.le_of_ble_eq_true rfl; exact c_28; exact rfl; exact h6j; omega; (exact fun _ H => H); exact rfl; exact c_19; exact c_8; intro vA eA hownA; obtain ⟨gA, capA, curA, rfl, rfl, hA1, hA2, hA3, hA4⟩ := hownA.some (by omega)); refine h2y h2x ?_) <;> (try refine q_t 8 (e:=h2x) (x:=by exact h0j rfl) (h:=q_t 9 (e:=h2x) (x:=by exact q_f h2q) (h:=?_))) <;> (try refine q_r 10 ?_; (apply h0p (t:=45); exact rfl; exact rfl; (focus (repeat (first | exact fd0 | apply fdA | apply fdS))); exact rfl; exact rfl; kernel_rfl; exact Nat.le_of_ble_eq_true rfl; exact h4l; (try simp only [List.set_cons_succ]); (try simp only [List.set_cons_zero])); refine h2y h2x ?_) <;> (try refine h2d (by kernel_rfl) ?_)))))) | (refine gR 16 (p_a (h:=h0b ?_))))
        all_goals
         (refine h2k Try.results61 (.tmp rfl .nil) ?_)
         refine ⟨_, ⟨rfl, _, _, hfl _ _ (own_mk (g:=gA) hA1 hA2 hA3 hA4), rfl⟩, ?_⟩
         rw [hpl]
         intro w H; refine Sel.out ?_ H; (try simp only [zzC, zzN]); repeat (first | exact Sel.refl _ | (apply Sel.cons; exact h6c; (try simp only [zzE, zzF])) | apply Sel.drop)
       ·rw [← q4] at hfl
        clear ho
        (try simp only [zzC, zzN])
        repeat' (first | refine h1k ?_ | refine h0k ?_ | refine h1j ?_ | refine h2v ?_ | refine h0n rfl ?_ | (refine gR 7 (p_m (h:=p_e (q_b (r:=by exact h4j q_o)) (h:=h0b ?_)))) | (refine gR 10 (p_m (h:=p_e (q_b (r:=by exact h4j q_o)) (h:=h0b ?_)))) | (refine gR 13 (p_e (q_f h3r) (h:=q_e (q_L h2n) ?_)) <;> (try refine h0a ?_; (refine h0u (t:=43) rfl Try.zeroValue43 ?_; intro nb hnb; (try simp only [Value.cells]))) <;> (try refine h0a ?_; (refine q_W ?_)) <;> (try refine h0b ?_)) | (refine gR 14 (q_m ?_) <;> (try refine q_e (by apply h2l; exact rfl; (focus (apply h2j Try.underlying3 Try.underlying5; first | (refine IntWalk.i64_in _ ?_; omega) | (refine IntWalk.u8_in _ ?_; omega) | (refine IntWalk.u16_in _ ?_; omega) | (refine IntWalk.u32_in _ ?_; omega) | (refine IntWalk.u64_in _ ?_; omega) | (refine IntWalk.i32_in _ ?_; omega) | exact rfl))) ?_) <;> (try refine q_m ?_) <;> (try refine q_e (by apply h2l; exact rfl; (focus (apply h2j Try.underlying3 Try.underlying5; first | (refine IntWalk.i64_in _ ?_; omega) | (refine IntWalk.u8_in _ ?_; omega) | (refine IntWalk.u16_in _ ?_; omega) | (refine IntWalk.u32_in _ ?_; omega) | (refine IntWalk.u64_in _ ?_; omega) | (refine IntWalk.i32_in _ ?_; omega) | exact rfl))) ?_) <;> (try refine q_e (q_f h6b) ?_) <;> (try refine h0a ?_; (refine q_S ?_)) <;> (try refine q_e (q_f h6a) ?_) <;> (try refine h0a ?_; (refine q_S ?_)) <;> (try refine h0b ?_)) | ((apply G_regionHc (i:=1) (j:=2) (id:=15) (m:=11); exact c_14; kernel_rfl; exact rfl) <;> (try refine q_t 0 (e:=c_7) (x:=by exact h0c rfl) (h:=q_t 1 (e:=c_7) (x:=by exact h0c rfl) (h:=q_t 2 (e:=c_7) (x:=by exact h0j rfl) (h:=q_t 3 (e:=c_7) (x:=by exact q_f h2q) (h:=q_t 5 (e:=c_7) (x:=by exact q_L h2n) (h:=?_)))))) <;> (try refine h5n (i:=4) (j:=6) rfl rfl (by kernel_rfl) ?_ ?_ <;> (first | (refine TagA.mk ?_; (((refine q_k q_l ?_); refine h2y c_7 ?_) <;> (try refine q_r 6 ?_; (refine h0r (t:=45) (m:=1) (e:=43) (fun vs => (match vs with | [(_, x0)] => x0.cells.toList | _ => [])) rfl rfl (fun w => by kernel_rfl) ?_; intro nb hnb; (try simp only [Value.cells]); (try simp only [zzC, zzN])); refine h2y c_7 ?_) <;> (try refine q_r 7 ?_; (apply h3o; exact rfl; exact Try.underlying45; exact h3l; exact h3j; exact h3k; exact h3m; exact rfl; exact rfl; exact rfl; exact h6c; (with_reducible assumption); (with_reducible assumption); (with_reducible assumption); exact fd0; exact Nat.le_of_ble_eq_true rfl; exact c_28; exact rfl; exact h6j; omega; exact rfl; exact c_19; exact c_8; (try simp only [zzE, zzF]); intro vA eA hownA; obtain ⟨gA, capA, curA, rfl, rfl, hA1, hA2, hA3, hA4⟩ := hownA.some (by omega)); refine h2y c_7 ?_) <;> (try refine q_t 8 (e:=c_7) (x:=by exact h0j rfl) (h:=q_t 9 (e:=c_7) (x:=by exact q_f h2q) (h:=?_))) <;> (try refine q_r 10 ?_; (apply h0p (t:=45); exact rfl; exact rfl; (focus (repeat (first | exact fd0 | apply fdA | apply fdS))); exact rfl; exact rfl; kernel_rfl; exact Nat.le_of_ble_eq_true rfl; exact h4l; (try simp only [List.set_cons_succ]); (try simp only [List.set_cons_zero])); refine h2y c_7 ?_) <;> (try refine h2d (by kernel_rfl) ?_))) | (refine TagB.mk ?_; (((refine h0r (t:=45) (m:=1) (e:=43) (fun vs => (match vs with | [(_, x0)] => x0.cells.toList | _ => [])) rfl rfl (fun w => by kernel_rfl) ?_; intro nb hnb; (try simp only [Value.cells]); (try simp only [zzC, zzN])); refine h2y c_7 ?_) <;> (try refine q_r 4 ?_; (refine q_k q_l ?_); refine h2y c_7 ?_) <;> (try refine q_r 7 ?_; (apply h3o; exact rfl; exact Try.underlying45; exact h3l; exact h3j; exact h3k; exact h3m; exact rfl; exact rfl; exact rfl; exact h6c; (with_reducible assumption); (with_reducible assumption); (with_reducible assumption); exact fd0; exact Nat.le_of_ble_eq_true rfl; exact c_28; exact rfl; exact h6j; omega; exact rfl; exact c_19; exact c_8; (try simp only [zzE, zzF]); intro vA eA hownA; obtain ⟨gA, capA, curA, rfl, rfl, hA1, hA2, hA3, hA4⟩ := hownA.some (by omega)); refine h2y c_7 ?_) <;> (try refine q_t 8 (e:=c_7) (x:=by exact h0j rfl) (h:=q_t 9 (e:=c_7) (x:=by exact q_f h2q) (h:=?_))) <;> (try refine q_r 10 ?_; (apply h0p (t:=45); exact rfl; exact rfl; (focus (repeat (first | exact fd0 | apply fdA | apply fdS))); exact rfl; exact rfl; kernel_rfl; exact Nat.le_of_ble_eq_true rfl; exact h4l; (try simp only [List.set_cons_succ]); (try simp only [List.set_cons_zero])); refine h2y c_7 ?_) <;> (try refine h2d (by kernel_rfl) ?_)))))) | (refine gR 16 (p_a (h:=h0b ?_))))
        all_goals
         (refine h2k Try.results61 (.tmp rfl .nil) ?_)
         refine ⟨_, ⟨rfl, _, _, hfl _ _ (own_mk (g:=gA) hA1 hA2 hA3 hA4), rfl⟩, ?_⟩
         rw [hpl]
         intro w H; refine Sel.out ?_ H; (try simp only [zzC, zzN]); repeat (first | exact Sel.refl _ | (apply Sel.cons; exact h6c; (try simp only [zzE, zzF])) | apply Sel.drop)
 ·have hcm : s.compare ⟨kind, to, els, ⟨c, jt, jf, k⟩⟩ = (210, s) := by unfold Mk.compare; rw [if_pos (.inl h1)]
  rw [hcm]
  refine Fn2 Try.func61 Try.ntmps61 rfl rfl ?_
  repeat' (first | refine h1k ?_ | refine h0k ?_ | refine h1n ?_ | refine h1u ?_ | refine h0q ?_ | refine h2v ?_ | refine h0o rfl ?_ | (refine gR 0 ?_ <;> (try refine h0a ?_; (refine h3e (t:=88) rfl rfl ?_; intro nb hnb; (try simp only [Value.cells]))) <;> (try refine p_a (h:=h0b ?_))) | (refine gR 1 (p_m (h:=p_e (q_f h4d) (h:=q_e q_l ?_))) <;> (try refine h0a ?_; (refine q_c 59 (c:=by apply haw; exact c_12; exact c_12) (h:=?_); rintro _ _ ⟨rfl, rfl⟩; (try simp only [zzE, zzF]))) <;> (try refine p_m (h:=p_x (h:=p_x (h:=p_a (h:=p_a (h:=h0b ?_))))))) | (refine gR 2 (p_m (h:=p_e (q_f fo_88_2) (h:=q_e q_l ?_))) <;> (try refine h0a ?_; (refine q_c 59 (c:=by apply haw; exact c_12; exact c_12) (h:=?_); rintro _ _ ⟨rfl, rfl⟩; (try simp only [zzE, zzF]))) <;> (try refine p_m (h:=p_x (h:=p_x (h:=p_a (h:=p_a (h:=h0b ?_))))))) | (refine gR 3 (p_e (q_f h3r) (h:=p_e (q_g h1p) (h:=q_e q_l ?_))) <;> (try refine h0a ?_; (refine h1i (F:=51) (by kernel_rfl) rfl rfl (h5i _ (by omega)) ?_; rintro _ _ ⟨rfl, rfl⟩)) <;> (try refine p_e (q_b (r:=by exact h4w q_o)) (h:=p_m (h:=p_z (h:=p_z (h:=p_z (h:=p_z (h:=p_p (h:=p_a (h:=h0b ?_)))))))))) | (refine gR 4 (p_a (h:=h0b ?_))))
  (refine h2k Try.results61 (.tmp rfl .nil) ?_)
  exact ⟨_, ⟨rfl, v, e, ho, rfl⟩, by intro w H; refine Sel.out ?_ H; (try simp only [zzC, zzN]); repeat (first | exact Sel.refl _ | (apply Sel.cons; exact h6c; (try simp only [zzE, zzF])) | apply Sel.drop)⟩
theorem perm3 {a b c : Blk} {e L : List Blk} : (a :: b :: c :: (e ++ L)).Perm (b :: c :: (e ++ a :: L)) :=
 (List.Perm.swap _ _ _).trans (.cons _ ((List.Perm.swap _ _ _).trans (.cons _ List.perm_middle.symm)))
theorem plV_snoc (pl : List (Int × Int)) (a b : Int) : plV (pl ++ [(a, b)]) = plV pl ++ [(.int .i64 a, .int .i64 b)] := by simp [plV]
set_option maxHeartbeats 4000000 in
theorem part_c {S w0 L} (m pm : Nat) (s : Mk) (hs : s.ok) (v : Value) (e : List Blk) (ho : Own 43 4 v s.out.length (flat s.out) e) (p : Prt) (hp : p.ok) :
  Fn Try.prog 43 #[.pointer (some ⟨m, 0, none⟩), p.v] S w0 (mkB m v pm :: mapB pm (plV s.pl) :: (e ++ L)) fun r L' => r = .int .i64 (s.part p).1 ∧ MkR m pm (s.part p).2 L L' := by
 have hcp := fun (L : List Blk) => compare_c (S:=S) (w0:=w0) (L:=L) m pm s hs v e ho p hp
 have hlen := hs.le
 obtain ⟨a, cap, hv, hsl⟩ := ho.sli L
 obtain ⟨kind, to, els, ⟨c, jt, jf, k⟩⟩ := p
 obtain ⟨hk, ht, he, ⟨hc, hjt, hjf, hkk⟩⟩ := hp
 dsimp only at hk ht he hc hjt hjf hkk
 have haw := fun (L : List Blk) (i j : Nat) (h1 : L[i]? = some (mkB m v pm)) (h2 : L[j]? = some (mapB pm (plV s.pl))) => away_c (S:=S) (w0:=w0) m pm s v cap a hv to hs h1 h2
 have hhop := fun (L : List Blk) => hop_c (S:=S) (w0:=w0) (L:=L) m pm s v e ho (by omega) (s.away to)
 simp only [Prt.v] at *
 by_cases k1 : kind = 1
 ·subst k1
  obtain ⟨r, f1, f2, f3⟩ := fd_pl to s.pl 0
  cases hb : (look to s.pl).isSome with
  | true =>
   rw [hb] at f3
   have hpt : s.part ⟨1, to, els, ⟨c, jt, jf, k⟩⟩ = (206, s) := by unfold Mk.part; rw [if_pos rfl, if_pos hb]
   rw [hpt]
   refine Fn2 Try.func43 Try.ntmps43 rfl rfl ?_
   repeat' (first | refine h1k ?_ | refine h0k ?_ | refine h1n ?_ | refine h1u ?_ | refine h0q ?_ | refine h2v ?_ | refine h0o rfl ?_ | (refine gR 0 ?_ <;> (try refine h0a ?_; (refine h3e (t:=88) rfl rfl ?_; intro nb hnb; (try simp only [Value.cells]))) <;> (try refine p_a (h:=h0b ?_))) | (refine gR 1 (p_e (q_f h2z) (h:=p_e q_l (h:=h0b ?_)))) | (refine gR 3 ?_ <;> (try refine q_e (by exact q_b (r:=by refine h0g ?_; first | rfl | (with_reducible assumption) | (decide; done) | omega)) ?_) <;> (try refine p_a (h:=h0b ?_))) | ((refine h2g (id:=4) (m:=12) (by kernel_rfl) rfl (q_u 0 (x:=by exact h0c rfl) (h:=q_u 1 (x:=by exact h0j rfl) (h:=q_u 2 (x:=by exact q_f fo_134_1) (h:=q_u 3 (x:=by exact q_l) (h:=q_u 4 (x:=by exact q_f h4d) (h:=q_u 5 (x:=by exact q_l) (h:=q_u 6 (x:=by apply E_lookup; exact rfl; exact rfl; exact h6c; exact Try.underlying132; exact Try.underlying84; exact rfl; exact Try.zeroValue3; (with_reducible assumption); (with_reducible assumption); (with_reducible assumption)) (h:=q_u 7 (x:=by exact h0c rfl) (h:=q_u 8 (x:=by exact E_extractL rfl rfl) (h:=q_u 9 (x:=by exact E_extractL rfl rfl) (h:=q_u 10 (x:=by exact h0d rfl) (h:=q_u 11 (x:=by exact h0d rfl) (h:=h2d (by kernel_rfl) ?_))))))))))))))) | (refine gR 5 (p_m (h:=h0b ?_))) | (refine gR 6 (p_a (h:=h0b ?_))))
   (refine h2k Try.results43 (.tmp rfl .nil) ?_)
   exact ⟨_, ⟨rfl, v, e, ho, rfl⟩, by intro w H; refine Sel.out ?_ H; (try simp only [zzC, zzN]); repeat (first | exact Sel.refl _ | (apply Sel.cons; exact h6c; (try simp only [zzE, zzF])) | apply Sel.drop)⟩
  | false =>
   have hr : r = none := by cases r with | none => rfl | some q => rw [hb] at f3; simp at f3
   subst hr
   rw [hb] at f3
   have hpt : s.part ⟨1, to, els, ⟨c, jt, jf, k⟩⟩ = (0, { s with pl := s.pl ++ [(to, (s.out.length : Int))] }) := by unfold Mk.part; rw [if_pos rfl, if_neg (by rw [hb]; simp)]
   rw [hpt]
   subst hv
   refine Fn2 Try.func43 Try.ntmps43 rfl rfl ?_
   repeat' (first | refine h1k ?_ | refine h0k ?_ | refine h0y ?_ | refine h0q ?_ | refine h1j ?_ | refine h2v ?_ | refine h0o rfl ?_ | refine h0n rfl ?_ | (refine gR 0 ?_ <;> (try refine h0a ?_; (refine h3e (t:=88) rfl rfl ?_; intro nb hnb; (try simp only [Value.cells]))) <;> (try refine p_a (h:=h0b ?_))) | (refine gR 1 (p_e (q_f h2z) (h:=p_e q_l (h:=h0b ?_)))) | (refine gR 3 ?_ <;> (try refine q_e (by exact q_b (r:=by refine h0g ?_; first | rfl | (with_reducible assumption) | (decide; done) | omega)) ?_) <;> (try refine p_a (h:=h0b ?_))) | ((refine h2g (id:=4) (m:=12) (by kernel_rfl) rfl (q_u 0 (x:=by exact h0c rfl) (h:=q_u 1 (x:=by exact h0j rfl) (h:=q_u 2 (x:=by exact q_f fo_134_1) (h:=q_u 3 (x:=by exact q_l) (h:=q_u 4 (x:=by exact q_f h4d) (h:=q_u 5 (x:=by exact q_l) (h:=q_u 6 (x:=by apply E_lookup; exact rfl; exact rfl; exact h6c; exact Try.underlying132; exact Try.underlying84; exact rfl; exact Try.zeroValue3; (with_reducible assumption); (with_reducible assumption); (with_reducible assumption)) (h:=q_u 7 (x:=by exact h0c rfl) (h:=q_u 8 (x:=by exact E_extractL rfl rfl) (h:=q_u 9 (x:=by exact E_extractL rfl rfl) (h:=q_u 10 (x:=by exact h0d rfl) (h:=q_u 11 (x:=by exact h0d rfl) (h:=h2d (by kernel_rfl) ?_))))))))))))))) | (refine gR 5 (p_m (h:=h0b ?_))) | ((apply h3c (i:=2) (id:=7) (m:=12); exact c_14; kernel_rfl; exact rfl) <;> (try refine q_t 0 (e:=c_3) (x:=by exact h0c rfl) (h:=q_t 1 (e:=c_3) (x:=by exact h0j rfl) (h:=q_t 2 (e:=c_3) (x:=by exact q_f fo_134_1) (h:=q_t 3 (e:=c_3) (x:=by exact q_l) (h:=q_t 4 (e:=c_3) (x:=by exact q_f h4d) (h:=q_t 5 (e:=c_3) (x:=by exact q_l) (h:=q_t 6 (e:=c_3) (x:=by exact h0c rfl) (h:=q_t 7 (e:=c_3) (x:=by exact h0j rfl) (h:=q_t 8 (e:=c_3) (x:=by exact q_f h2q) (h:=q_t 9 (e:=c_3) (x:=by exact q_l) (h:=q_t 10 (e:=c_3) (x:=by apply h0m; exact rfl; exact (fun _ => BigFrame.builtin_len ..); apply h0i Try.underlying45; exact h4a) (h:=?_)))))))))))) <;> (try refine q_r 11 ?_; (apply K1_mapUpdate; exact rfl; exact rfl; exact rfl; exact h6c; exact Try.underlying132; exact Try.underlying84; exact rfl; (with_reducible assumption); (try simp only [List.set_cons_succ]); (try simp only [List.set_cons_zero])); refine h2y c_3 ?_) <;> (try refine h2d (by kernel_rfl) ?_)) | (refine gR 19 (p_a (h:=h0b ?_))))
   all_goals
    (refine h2k Try.results43 (.tmp rfl .nil) ?_)
    refine ⟨_, ⟨rfl, _, e, ho, rfl⟩, ?_⟩
    rw [plV_snoc]
    intro w H; refine Sel.out ?_ H; (try simp only [zzC, zzN]); repeat (first | exact Sel.refl _ | (apply Sel.cons; exact h6c; (try simp only [zzE, zzF])) | apply Sel.drop)
 ·by_cases k2 : kind = 2
  ·subst k2
   by_cases c5 : c % 8 = 5
   ·have hpt : s.part ⟨2, to, els, ⟨c, jt, jf, k⟩⟩ = (210, s) := by unfold Mk.part; rw [if_neg (by simp), if_pos rfl, if_pos c5]
    rw [hpt]
    refine Fn2 Try.func43 Try.ntmps43 rfl rfl ?_
    repeat' (first | refine h1k ?_ | refine h0k ?_ | refine h1n ?_ | refine h1u ?_ | refine h0q ?_ | refine h2v ?_ | refine h0o rfl ?_ | refine h0n rfl ?_ | (refine gR 0 ?_ <;> (try refine h0a ?_; (refine h3e (t:=88) rfl rfl ?_; intro nb hnb; (try simp only [Value.cells]))) <;> (try refine p_a (h:=h0b ?_))) | (refine gR 1 (p_e (q_f h2z) (h:=p_e q_l (h:=h0b ?_)))) | (refine gR 3 (p_e (q_b (r:=by exact h0e q_o)) (h:=p_a (h:=h0b ?_)))) | (refine gR 8 ?_ <;> (try refine q_e (by exact q_b (r:=by refine h0g ?_; first | rfl | (with_reducible assumption) | (decide; done) | omega)) ?_) <;> (try refine p_a (h:=h0b ?_))) | (refine gR 9 (p_e (q_f h3r) (h:=p_e (q_g h1p) (h:=q_e q_l ?_))) <;> (try refine h0a ?_; (refine h1i (F:=51) (by kernel_rfl) rfl rfl (h5i _ (by omega)) ?_; rintro _ _ ⟨rfl, rfl⟩)) <;> (try refine q_e (by exact q_b (r:=by refine h0g ?_; first | rfl | (with_reducible assumption) | (decide; done) | omega)) ?_) <;> (try refine h0b ?_)) | (refine gR 10 (p_a (h:=h0b ?_))))
    (refine h2k Try.results43 (.tmp rfl .nil) ?_)
    exact ⟨_, ⟨rfl, v, e, ho, rfl⟩, by intro w H; refine Sel.out ?_ H; (try simp only [zzC, zzN]); repeat (first | exact Sel.refl _ | (apply Sel.cons; exact h6c; (try simp only [zzE, zzF])) | apply Sel.drop)⟩
   ·have hpt : s.part ⟨2, to, els, ⟨c, jt, jf, k⟩⟩ = (0, s.put ⟨c, jt, jf, k⟩) := by unfold Mk.part; rw [if_neg (by simp), if_pos rfl, if_neg c5]
    rw [hpt]
    have hfl := fun v' e' => put_own (v:=v') (e:=e') s ⟨c, jt, jf, k⟩
    have hpl : plV (s.put ⟨c, jt, jf, k⟩).pl = plV s.pl := rfl
    generalize s.put ⟨c, jt, jf, k⟩ = s3 at *
    simp only [Ins.cells] at hfl
    clear hcp haw hhop hv hsl
    rcases h5k ho with ⟨rfl, h0, hx, rfl⟩ | ⟨g, capg, cur, rfl, rfl, q1, q2, q3, q4⟩
    ·(try simp only [zzC, zzN])
     refine Fn2 Try.func43 Try.ntmps43 rfl rfl ?_
     repeat' (first | refine h1k ?_ | refine h0k ?_ | refine h0y ?_ | refine h0q ?_ | refine h1j ?_ | refine h2v ?_ | refine h0o rfl ?_ | refine h0n rfl ?_ | (refine gR 0 ?_ <;> (try refine h0a ?_; (refine h3e (t:=88) rfl rfl ?_; intro nb hnb; (try simp only [Value.cells]))) <;> (try refine p_a (h:=h0b ?_))) | (refine gR 1 (p_e (q_f h2z) (h:=p_e q_l (h:=h0b ?_)))) | (refine gR 3 (p_e (q_b (r:=by exact h0e q_o)) (h:=p_a (h:=h0b ?_)))) | (refine gR 8 ?_ <;> (try refine q_e (by exact q_b (r:=by refine h0g ?_; first | rfl | (with_reducible assumption) | (decide; done) | omega)) ?_) <;> (try refine p_a (h:=h0b ?_))) | (refine gR 9 (p_e (q_f h3r) (h:=p_e (q_g h1p) (h:=q_e q_l ?_))) <;> (try refine h0a ?_; (refine h1i (F:=51) (by kernel_rfl) rfl rfl (h5i _ (by omega)) ?_; rintro _ _ ⟨rfl, rfl⟩)) <;> (try refine p_e (q_b (r:=by exact h0e q_o)) (h:=h0b ?_))) | ((apply h3c (i:=1) (id:=11) (m:=12); exact c_14; kernel_rfl; exact rfl) <;> (try refine q_t 0 (e:=h2x) (x:=by exact h0c rfl) (h:=q_t 1 (e:=h2x) (x:=by exact h0c rfl) (h:=q_t 2 (e:=h2x) (x:=by exact h0j rfl) (h:=q_t 3 (e:=h2x) (x:=by exact q_f h2q) (h:=q_t 5 (e:=h2x) (x:=by exact q_f h3r) (h:=q_t 6 (e:=h2x) (x:=by exact q_L h2n) (h:=?_))))))) <;> (try refine h5n (i:=4) (j:=7) rfl rfl (by kernel_rfl) ?_ ?_ <;> (first | (refine TagA.mk ?_; (((refine q_k q_l ?_); refine h2y h2x ?_) <;> (try refine q_r 7 ?_; (refine h0r (t:=45) (m:=1) (e:=43) (fun vs => (match vs with | [(_, x0)] => x0.cells.toList | _ => [])) rfl rfl (fun w => by kernel_rfl) ?_; intro nb hnb; (try simp only [Value.cells]); (try simp only [zzC, zzN])); refine h2y h2x ?_) <;> (try refine q_r 8 ?_; (apply h2t; exact rfl; exact Try.underlying45; exact h3l; exact h3j; exact h3k; exact h3m; exact rfl; exact rfl; exact rfl; (with_reducible assumption); exact fd0; exact Nat.le_of_ble_eq_true rfl; exact c_28; exact rfl; exact h6j; omega; (exact fun _ H => H); exact rfl; exact c_19; exact c_8; intro vA eA hownA; obtain ⟨gA, capA, curA, rfl, rfl, hA1, hA2, hA3, hA4⟩ := hownA.some (by omega)); refine h2y h2x ?_) <;> (try refine q_t 9 (e:=h2x) (x:=by exact h0j rfl) (h:=q_t 10 (e:=h2x) (x:=by exact q_f h2q) (h:=?_))) <;> (try refine q_r 11 ?_; (apply h0p (t:=45); exact rfl; exact rfl; (focus (repeat (first | exact fd0 | apply fdA | apply fdS))); exact rfl; exact rfl; kernel_rfl; exact Nat.le_of_ble_eq_true rfl; exact h4l; (try simp only [List.set_cons_succ]); (try simp only [List.set_cons_zero])); refine h2y h2x ?_) <;> (try refine h2d (by kernel_rfl) ?_))) | (refine TagB.mk ?_; (((refine h0r (t:=45) (m:=1) (e:=43) (fun vs => (match vs with | [(_, x0)] => x0.cells.toList | _ => [])) rfl rfl (fun w => by kernel_rfl) ?_; intro nb hnb; (try simp only [Value.cells]); (try simp only [zzC, zzN])); refine h2y h2x ?_) <;> (try refine q_r 4 ?_; (refine q_k q_l ?_); refine h2y h2x ?_) <;> (try refine q_r 8 ?_; (apply h2t; exact rfl; exact Try.underlying45; exact h3l; exact h3j; exact h3k; exact h3m; exact rfl; exact rfl; exact rfl; (with_reducible assumption); exact fd0; exact Nat.le_of_ble_eq_true rfl; exact c_28; exact rfl; exact h6j; omega; (exact fun _ H => H); exact rfl; exact c_19; exact c_8; intro vA eA hownA; obtain ⟨gA, capA, curA, rfl, rfl, hA1, hA2, hA3, hA4⟩ := hownA.some (by omega)); refine h2y h2x ?_) <;> (try refine q_t 9 (e:=h2x) (x:=by exact h0j rfl) (h:=q_t 10 (e:=h2x) (x:=by exact q_f h2q) (h:=?_))) <;> (try refine q_r 11 ?_; (apply h0p (t:=45); exact rfl; exact rfl; (focus (repeat (first | exact fd0 | apply fdA | apply fdS))); exact rfl; exact rfl; kernel_rfl; exact Nat.le_of_ble_eq_true rfl; exact h4l; (try simp only [List.set_cons_succ]); (try simp only [List.set_cons_zero])); refine h2y h2x ?_) <;> (try refine h2d (by kernel_rfl) ?_)))))) | (refine gR 19 (p_a (h:=h0b ?_))))
     all_goals
      (refine h2k Try.results43 (.tmp rfl .nil) ?_)
      refine ⟨_, ⟨rfl, _, _, hfl _ _ (own_mk (g:=gA) hA1 hA2 hA3 hA4), rfl⟩, ?_⟩
      rw [hpl]
      intro w H; refine Sel.out ?_ H; (try simp only [zzC, zzN]); repeat (first | exact Sel.refl _ | (apply Sel.cons; exact h6c; (try simp only [zzE, zzF])) | apply Sel.drop)
    ·rw [← q4] at hfl
     clear ho
     (try simp only [zzC, zzN])
     refine Fn2 Try.func43 Try.ntmps43 rfl rfl ?_
     repeat' (first | refine h1k ?_ | refine h0k ?_ | refine h0y ?_ | refine h0q ?_ | refine h1j ?_ | refine h2v ?_ | refine h0o rfl ?_ | refine h0n rfl ?_ | (refine gR 0 ?_ <;> (try refine h0a ?_; (refine h3e (t:=88) rfl rfl ?_; intro nb hnb; (try simp only [Value.cells]))) <;> (try refine p_a (h:=h0b ?_))) | (refine gR 1 (p_e (q_f h2z) (h:=p_e q_l (h:=h0b ?_)))) | (refine gR 3 (p_e (q_b (r:=by exact h0e q_o)) (h:=p_a (h:=h0b ?_)))) | (refine gR 8 ?_ <;> (try refine q_e (by exact q_b (r:=by refine h0g ?_; first | rfl | (with_reducible assumption) | (decide; done) | omega)) ?_) <;> (try refine p_a (h:=h0b ?_))) | (refine gR 9 (p_e (q_f h3r) (h:=p_e (q_g h1p) (h:=q_e q_l ?_))) <;> (try refine h0a ?_; (refine h1i (F:=51) (by kernel_rfl) rfl rfl (h5i _ (by omega)) ?_; rintro _ _ ⟨rfl, rfl⟩)) <;> (try refine p_e (q_b (r:=by exact h0e q_o)) (h:=h0b ?_))) | ((apply G_regionHc (i:=1) (j:=2) (id:=11) (m:=12); exact c_14; kernel_rfl; exact rfl) <;> (try refine q_t 0 (e:=c_7) (x:=by exact h0c rfl) (h:=q_t 1 (e:=c_7) (x:=by exact h0c rfl) (h:=q_t 2 (e:=c_7) (x:=by exact h0j rfl) (h:=q_t 3 (e:=c_7) (x:=by exact q_f h2q) (h:=q_t 5 (e:=c_7) (x:=by exact q_f h3r) (h:=q_t 6 (e:=c_7) (x:=by exact q_L h2n) (h:=?_))))))) <;> (try refine h5n (i:=4) (j:=7) rfl rfl (by kernel_rfl) ?_ ?_ <;> (first | (refine TagA.mk ?_; (((refine q_k q_l ?_); refine h2y c_7 ?_) <;> (try refine q_r 7 ?_; (refine h0r (t:=45) (m:=1) (e:=43) (fun vs => (match vs with | [(_, x0)] => x0.cells.toList | _ => [])) rfl rfl (fun w => by kernel_rfl) ?_; intro nb hnb; (try simp only [Value.cells]); (try simp only [zzC, zzN])); refine h2y c_7 ?_) <;> (try refine q_r 8 ?_; (apply h3o; exact rfl; exact Try.underlying45; exact h3l; exact h3j; exact h3k; exact h3m; exact rfl; exact rfl; exact rfl; exact h6c; (with_reducible assumption); (with_reducible assumption); (with_reducible assumption); exact fd0; exact Nat.le_of_ble_eq_true rfl; exact c_28; exact rfl; exact h6j; omega; exact rfl; exact c_19; exact c_8; (try simp only [zzE, zzF]); intro vA eA hownA; obtain ⟨gA, capA, curA, rfl, rfl, hA1, hA2, hA3, hA4⟩ := hownA.some (by omega)); refine h2y c_7 ?_) <;> (try refine q_t 9 (e:=c_7) (x:=by exact h0j rfl) (h:=q_t 10 (e:=c_7) (x:=by exact q_f h2q) (h:=?_))) <;> (try refine q_r 11 ?_; (apply h0p (t:=45); exact rfl; exact rfl; (focus (repeat (first | exact fd0 | apply fdA | apply fdS))); exact rfl; exact rfl; kernel_rfl; exact Nat.le_of_ble_eq_true rfl; exact h4l; (try simp only [List.set_cons_succ]); (try simp only [List.set_cons_zero])); refine h2y c_7 ?_) <;> (try refine h2d (by kernel_rfl) ?_))) | (refine TagB.mk ?_; (((refine h0r (t:=45) (m:=1) (e:=43) (fun vs => (match vs with | [(_, x0)] => x0.cells.toList | _ => [])) rfl rfl (fun w => by kernel_rfl) ?_; intro nb hnb; (try simp only [Value.cells]); (try simp only [zzC, zzN])); refine h2y c_7 ?_) <;> (try refine q_r 4 ?_; (refine q_k q_l ?_); refine h2y c_7 ?_) <;> (try refine q_r 8 ?_; (apply h3o; exact rfl; exact Try.underlying45; exact h3l; exact h3j; exact h3k; exact h3m; exact rfl; exact rfl; exact rfl; exact h6c; (with_reducible assumption); (with_reducible assumption); (with_reducible assumption); exact fd0; exact Nat.le_of_ble_eq_true rfl; exact c_28; exact rfl; exact h6j; omega; exact rfl; exact c_19; exact c_8; (try simp only [zzE, zzF]); intro vA eA hownA; obtain ⟨gA, capA, curA, rfl, rfl, hA1, hA2, hA3, hA4⟩ := hownA.some (by omega)); refine h2y c_7 ?_) <;> (try refine q_t 9 (e:=c_7) (x:=by exact h0j rfl) (h:=q_t 10 (e:=c_7) (x:=by exact q_f h2q) (h:=?_))) <;> (try refine q_r 11 ?_; (apply h0p (t:=45); exact rfl; exact rfl; (focus (repeat (first | exact fd0 | apply fdA | apply fdS))); exact rfl; exact rfl; kernel_rfl; exact Nat.le_of_ble_eq_true rfl; exact h4l; (try simp only [List.set_cons_succ]); (try simp only [List.set_cons_zero])); refine h2y c_7 ?_) <;> (try refine h2d (by kernel_rfl) ?_)))))) | (refine gR 19 (p_a (h:=h0b ?_))))
     all_goals
      (refine h2k Try.results43 (.tmp rfl .nil) ?_)
      refine ⟨_, ⟨rfl, _, _, hfl _ _ (own_mk (g:=gA) hA1 hA2 hA3 hA4), rfl⟩, ?_⟩
      rw [hpl]
      intro w H; refine Sel.out ?_ H; (try simp only [zzC, zzN]); repeat (first | exact Sel.refl _ | (apply Sel.cons; exact h6c; (try simp only [zzE, zzF])) | apply Sel.drop)
  ·by_cases k4 : kind = 4
   ·subst k4
    cases hb : (look to s.pl).isSome with
    | false =>
     have hpt : s.part ⟨4, to, els, ⟨c, jt, jf, k⟩⟩ = (207, s) := by unfold Mk.part; rw [if_neg (by simp), if_neg (by simp), if_pos rfl, if_pos hb]
     rw [hpt]
     rw [hb] at haw
     refine Fn2 Try.func43 Try.ntmps43 rfl rfl ?_
     repeat' (first | refine h1k ?_ | refine h0k ?_ | refine h1n ?_ | refine h1u ?_ | refine h0q ?_ | refine h2v ?_ | refine h0o rfl ?_ | refine h0n rfl ?_ | (refine gR 0 ?_ <;> (try refine h0a ?_; (refine h3e (t:=88) rfl rfl ?_; intro nb hnb; (try simp only [Value.cells]))) <;> (try refine p_a (h:=h0b ?_))) | (refine gR 1 (p_e (q_f h2z) (h:=p_e q_l (h:=h0b ?_)))) | (refine gR 3 (p_e (q_b (r:=by exact h0e q_o)) (h:=p_a (h:=h0b ?_)))) | (refine gR 8 (p_e (q_b (r:=by exact h0e q_o)) (h:=p_a (h:=h0b ?_)))) | (refine gR 12 ?_ <;> (try refine q_e (by exact q_b (r:=by refine h0g ?_; first | rfl | (with_reducible assumption) | (decide; done) | omega)) ?_) <;> (try refine p_a (h:=h0b ?_))) | (refine gR 13 (p_m (h:=p_e (q_f h4d) (h:=q_e q_l ?_))) <;> (try refine h0a ?_; (refine q_c 59 (c:=by apply haw; exact c_12; exact c_12) (h:=?_); rintro _ _ ⟨rfl, rfl⟩; (try simp only [zzE, zzF]))) <;> (try refine p_m (h:=p_x (h:=p_x (h:=p_a (h:=p_a (h:=h0b ?_))))))) | (refine gR 14 (p_m (h:=p_e (by apply E_un; exact rfl; exact h4i) (h:=h0b ?_)))) | (refine gR 15 (p_a (h:=h0b ?_))))
     (refine h2k Try.results43 (.tmp rfl .nil) ?_)
     exact ⟨_, ⟨rfl, v, e, ho, rfl⟩, by intro w H; refine Sel.out ?_ H; (try simp only [zzC, zzN]); repeat (first | exact Sel.refl _ | (apply Sel.cons; exact h6c; (try simp only [zzE, zzF])) | apply Sel.drop)⟩
    | true =>
     have hpt : s.part ⟨4, to, els, ⟨c, jt, jf, k⟩⟩ = (0, s.hop (s.away to)) := by unfold Mk.part; rw [if_neg (by simp), if_neg (by simp), if_pos rfl, if_neg (by rw [hb]; simp)]
     rw [hpt]
     rw [hb] at haw
     clear hcp hv hsl
     refine Fn2 Try.func43 Try.ntmps43 rfl rfl ?_
     repeat' (first | (refine h4s (id:=16) ?_) | refine h1k ?_ | refine h0k ?_ | refine h0q ?_ | refine h1j ?_ | refine h0o rfl ?_ | refine h0n rfl ?_ | (refine gR 0 ?_ <;> (try refine h0a ?_; (refine h3e (t:=88) rfl rfl ?_; intro nb hnb; (try simp only [Value.cells]))) <;> (try refine p_a (h:=h0b ?_))) | (refine gR 1 (p_e (q_f h2z) (h:=p_e q_l (h:=h0b ?_)))) | (refine gR 3 (p_e (q_b (r:=by exact h0e q_o)) (h:=p_a (h:=h0b ?_)))) | (refine gR 8 (p_e (q_b (r:=by exact h0e q_o)) (h:=p_a (h:=h0b ?_)))) | (refine gR 12 ?_ <;> (try refine q_e (by exact q_b (r:=by refine h0g ?_; first | rfl | (with_reducible assumption) | (decide; done) | omega)) ?_) <;> (try refine p_a (h:=h0b ?_))) | (refine gR 13 (p_m (h:=p_e (q_f h4d) (h:=q_e q_l ?_))) <;> (try refine h0a ?_; (refine q_c 59 (c:=by apply haw; exact c_12; exact c_12) (h:=?_); rintro _ _ ⟨rfl, rfl⟩; (try simp only [zzE, zzF]))) <;> (try refine p_m (h:=p_x (h:=p_x (h:=p_a (h:=p_a (h:=h0b ?_))))))) | (refine gR 14 (p_m (h:=p_e (by apply E_un; exact rfl; exact h4b) (h:=h0b ?_)))))
     refine ⟨?_⟩
     refine G_blocks (L' := mkB m v pm :: mapB pm (plV s.pl) :: (e ++ _ :: L)) (fun w H => H.perm perm3) ?_
     repeat' (first | refine h1k ?_ | refine h0k ?_ | refine h0y ?_ | refine h2v ?_ | (refine gR 16 (p_m (h:=q_m ?_)) <;> (try refine h0a ?_; (refine h1i (F:=60) (by kernel_rfl) rfl rfl (hhop _) ?_; rintro _ _ ⟨rfl, v1, e1, ho1, rfl⟩)) <;> (try refine h0b ?_)) | (refine gR 19 (p_a (h:=h0b ?_))))
     (refine h2k Try.results43 (.tmp rfl .nil) ?_)
     refine ⟨_, ⟨rfl, _, _, ho1, rfl⟩, fun w H => ?_⟩
     exact H.sub (((List.Sublist.refl e1).append ((List.Sublist.refl L).cons _)).cons_cons _ |>.cons_cons _)
   ·by_cases k3 : kind = 3
    ·subst k3
     have hpt : s.part ⟨3, to, els, ⟨c, jt, jf, k⟩⟩ = s.compare ⟨3, to, els, ⟨c, jt, jf, k⟩⟩ := by unfold Mk.part; rw [if_neg (by simp), if_neg (by simp), if_neg (by simp), if_pos rfl]
     rw [hpt]
     clear haw hhop hv hsl
     refine Fn2 Try.func43 Try.ntmps43 rfl rfl ?_
     repeat' (first | (refine h4s (id:=18) ?_) | refine h1k ?_ | refine h0k ?_ | refine h0q ?_ | refine h0o rfl ?_ | refine h0n rfl ?_ | (refine gR 0 ?_ <;> (try refine h0a ?_; (refine h3e (t:=88) rfl rfl ?_; intro nb hnb; (try simp only [Value.cells]))) <;> (try refine p_a (h:=h0b ?_))) | (refine gR 1 (p_e (q_f h2z) (h:=p_e q_l (h:=h0b ?_)))) | (refine gR 3 (p_e (q_b (r:=by exact h0e q_o)) (h:=p_a (h:=h0b ?_)))) | (refine gR 8 (p_e (q_b (r:=by exact h0e q_o)) (h:=p_a (h:=h0b ?_)))) | (refine gR 12 (p_e (q_b (r:=by exact h0e q_o)) (h:=p_a (h:=h0b ?_)))) | (refine gR 17 ?_ <;> (try refine q_e (by exact q_b (r:=by refine h0g ?_; first | rfl | (with_reducible assumption) | (decide; done) | omega)) ?_) <;> (try refine p_a (h:=h0b ?_))))
     refine ⟨?_⟩
     refine G_blocks (L' := mkB m v pm :: mapB pm (plV s.pl) :: (e ++ _ :: L)) (fun w H => H.perm perm3) ?_
     repeat' (first | refine h0k ?_ | refine h1n ?_ | refine h1u ?_ | refine h2v ?_ | (refine gR 18 (p_m (h:=q_e (by apply h0x (t:=88); exact rfl; (focus (repeat (first | exact fd0 | apply fdA | apply fdS))); kernel_rfl; kernel_rfl; exact h3q; exact Nat.le_of_ble_eq_true rfl; exact c_28) ?_)) <;> (try refine h0a ?_; (refine h1i (F:=61) (by kernel_rfl) rfl rfl (hcp _) ?_; rintro _ _ ⟨rfl, v1, e1, ho1, rfl⟩)) <;> (try refine p_a (h:=h0b ?_))))
     (refine h2k Try.results43 (.tmp rfl .nil) ?_)
     refine ⟨_, ⟨rfl, _, _, ho1, rfl⟩, fun w H => ?_⟩
     exact H.sub (((List.Sublist.refl e1).append ((List.Sublist.refl L).cons _)).cons_cons _ |>.cons_cons _)
    ·have hpt : s.part ⟨kind, to, els, ⟨c, jt, jf, k⟩⟩ = (210, s) := by unfold Mk.part; rw [if_neg k1, if_neg k2, if_neg k4, if_neg k3]
     rw [hpt]
     refine Fn2 Try.func43 Try.ntmps43 rfl rfl ?_
     repeat' (first | refine h1k ?_ | refine h0k ?_ | refine h1n ?_ | refine h1u ?_ | refine h0q ?_ | refine h2v ?_ | refine h0n rfl ?_ | (refine gR 0 ?_ <;> (try refine h0a ?_; (refine h3e (t:=88) rfl rfl ?_; intro nb hnb; (try simp only [Value.cells]))) <;> (try refine p_a (h:=h0b ?_))) | (refine gR 1 (p_e (q_f h2z) (h:=p_e q_l (h:=h0b ?_)))) | (refine gR 3 (p_e (q_b (r:=by exact h0e q_o)) (h:=p_a (h:=h0b ?_)))) | (refine gR 8 (p_e (q_b (r:=by exact h0e q_o)) (h:=p_a (h:=h0b ?_)))) | (refine gR 12 (p_e (q_b (r:=by exact h0e q_o)) (h:=p_a (h:=h0b ?_)))) | (refine gR 17 (p_e (q_b (r:=by exact h0e q_o)) (h:=p_a (h:=h0b ?_)))) | (refine gR 2 (p_a (h:=h0b ?_))))
     (refine h2k Try.results43 (.tmp rfl .nil) ?_)
     exact ⟨_, ⟨rfl, v, e, ho, rfl⟩, by intro w H; refine Sel.out ?_ H; (try simp only [zzC, zzN]); repeat (first | exact Sel.refl _ | (apply Sel.cons; exact h6c; (try simp only [zzE, zzF])) | apply Sel.drop)⟩
theorem wrap32_rng (n : Int) : 0 ≤ IntKind.u32.wrap n ∧ IntKind.u32.wrap n < 4294967296 := by
 have : IntKind.u32.wrap n = n % 4294967296 := by simp only [IntKind.wrap, IntKind.bits, IntKind.signed]; simp
 omega
structure Mk.Le (m m' : Mk) (d : Nat) : Prop where
 pl : m'.pl = m.pl
 lo : m.out.length ≤ m'.out.length
 hi : m'.out.length ≤ m.out.length + d
 ok : (∀ i ∈ m.out, i.ok) → ∀ i ∈ m'.out, i.ok
theorem Mk.Le.trans {a b c : Mk} {d d' : Nat} (h : a.Le b d) (h2 : b.Le c d') : a.Le c (d + d') := ⟨h2.pl.trans h.pl, Nat.le_trans h.lo h2.lo, by have := h.hi; have := h2.hi; omega, fun q => h2.ok (h.ok q)⟩
theorem Mk.put_le (m : Mk) (i : Ins) (hi : i.ok) : m.Le (m.put i) 1 := ⟨rfl, by simp [Mk.put], by simp [Mk.put], fun q j hj => by
 rcases List.mem_append.1 hj with h | h
 ·exact q j h
 ·rw [List.mem_singleton.1 h]; exact hi⟩
theorem Mk.hop_le (m : Mk) (n : Int) : m.Le (m.hop n) 1 := m.put_le ⟨5, 0, 0, IntKind.u32.wrap n⟩ ⟨by dsimp only; omega, by dsimp only; omega, by dsimp only; omega, wrap32_rng n⟩
theorem Mk.Le.more {a b : Mk} {d d' : Nat} (h : a.Le b d) (hd : d ≤ d') : a.Le b d' := ⟨h.pl, h.lo, by have := h.hi; omega, h.ok⟩
theorem Mk.far_le {m : Mk} {p : Prt} (hp : p.ok) {to h5w : Int} (h1 : 0 ≤ to) (h2 : 0 ≤ h5w) : m.Le (m.far p to h5w) 3 := by
 have f2 : ∀ (m : Mk) (a b : Int), 0 ≤ a → a ≤ 254 → 0 ≤ b → b ≤ 254 → m.Le (m.far2 p a b) 1 := fun m a b q1 q2 q3 q4 => m.put_le _ ⟨hp.ins.c, by dsimp only; omega, by dsimp only; omega, hp.ins.k⟩
 have f1 : ∀ (m : Mk) (a b : Int), 0 ≤ a → 0 ≤ b → b ≤ 253 → m.Le (m.far1 p a b) 2 := by
  intro m a b q1 q3 q4
  unfold Mk.far1
  split
  ·exact (m.hop_le a).trans (f2 _ _ _ (by omega) (by omega) (by omega) (by omega))
  ·exact (f2 _ _ _ q1 (by omega) q3 (by omega)).more (by omega)
 unfold Mk.far
 split
 ·exact (m.hop_le h5w).trans (f1 _ _ _ (by omega) (by omega) (by omega))
 ·exact (f1 _ _ _ h1 h2 (by omega)).more (by omega)
theorem Mk.Le.isOk {a b : Mk} {d : Nat} (h : a.Le b d) (ha : a.ok) (hle : b.out.length ≤ 4100) : b.ok := ⟨h.ok ha.out, fun q hq => by
 rw [h.pl] at hq
 have := ha.pl q hq
 have := h.lo
 omega, hle⟩
theorem part_ok {m : Mk} {p : Prt} (hm : m.ok) (hp : p.ok) (hle : m.out.length ≤ 4096) : (m.part p).2.ok := by
 have h1 := hm.look p.to
 have h2 := hm.look p.els
 have a1 : 0 ≤ m.away p.to := by unfold Mk.away; omega
 have a2 : 0 ≤ m.away p.els := by unfold Mk.away; omega
 unfold Mk.part
 split
 ·split
  ·exact hm
  ·refine ⟨hm.out, fun q hq => ?_, hm.le⟩
   rcases List.mem_append.1 hq with h | h
   ·exact hm.pl q h
   ·rw [List.mem_singleton.1 h]; dsimp only; omega
 split
 ·split
  ·exact hm
  ·have h := m.put_le p.ins hp.ins
   exact h.isOk hm (by have := h.hi; omega)
 split
 ·split
  ·exact hm
  ·have h := m.hop_le (m.away p.to)
   exact h.isOk hm (by have := h.hi; omega)
 split
 ·unfold Mk.compare
  split
  ·exact hm
  split
  ·exact hm
  ·have h := Mk.far_le (m:=m) hp a1 a2
   exact h.isOk hm (by have := h.hi; omega)
 ·exact hm
def h3z (l : List Prt) : List Value := l.flatMap Prt.cells
theorem flatP_len (l : List Prt) : (h3z l).length = l.length * 7 := by
 induction l with
 | nil => rfl
 | cons i l ih => simp only [h3z, List.flatMap_cons, List.length_append] at ih ⊢; rw [ih]; simp [Prt.cells]; omega
theorem flatP_at (l : List Prt) (k : Nat) (h : k < l.length) : ((h3z l).drop (k * 7)).take 7 = (l[k]).cells := by
 induction l generalizing k with
 | nil => simp at h
 | cons i l ih =>
  cases k with
  | zero => simp [h3z, List.flatMap_cons, Prt.cells]
  | succ k =>
   have := ih k (by simpa using h)
   simp only [h3z, List.flatMap_cons, List.getElem_cons_succ] at this ⊢
   have e : (k + 1) * 7 = i.cells.length + k * 7 := by simp [Prt.cells]; omega
   rw [e, ← List.drop_drop, List.drop_left]; exact this
def h5q : List Prt → Int × Mk
 | [] => (0, ⟨[], []⟩)
 | p :: r => if (h5q r).1 ≠ 0 then h5q r else if ((h5q r).2.part p).1 ≠ 0 then (h5q r).2.part p else if ((h5q r).2.part p).2.out.length > 4096 then (205, ((h5q r).2.part p).2) else (h5q r).2.part p
def make (l : List Prt) : Int × List Ins := ((h5q l).1, if (h5q l).1 = 0 then (h5q l).2.out.reverse else [])
theorem mkGo_err (a b : List Prt) (h : (h5q b).1 ≠ 0) : h5q (a ++ b) = h5q b := by
 induction a with
 | nil => rfl
 | cons p a ih => rw [List.cons_append, h5q, ih, if_pos h]
theorem mkGo_at {l : List Prt} {k : Nat} (hk : k < l.length) {s : Mk} (h : h5q (l.drop (k + 1)) = (0, s)) :
  h5q (l.drop k) = if (s.part l[k]).1 ≠ 0 then s.part l[k] else if (s.part l[k]).2.out.length > 4096 then (205, (s.part l[k]).2) else s.part l[k] := by
 rw [List.drop_eq_getElem_cons hk, h5q, h, if_neg (by simp)]
theorem make_err {l : List Prt} {k : Nat} {e : Int} (he : e ≠ 0) (h : (h5q (l.drop k)).1 = e) : make l = (e, []) := by
 have h2 := mkGo_err (l.take k) (l.drop k) (by rw [h]; exact he)
 rw [List.take_append_drop] at h2
 unfold make
 rw [h2, h, if_neg he]
structure MkI (l : List Prt) (g : Nat × Mk × Value × List Blk) : Prop where
 le : g.1 ≤ l.length
 go : h5q (l.drop g.1) = (0, g.2.1)
 ok : g.2.1.ok
 ln : g.2.1.out.length ≤ 4096
 own : Own 43 4 g.2.2.1 g.2.1.out.length (flat g.2.1.out) g.2.2.2
structure MkJ (out : List Ins) (g : Nat × Value × List Blk) : Prop where
 le : g.1 ≤ out.length
 own : Own 43 4 g.2.1 (out.length - g.1) (flat (out.drop g.1).reverse) g.2.2
set_option maxHeartbeats 4000000 in
theorem make_c {S w0 L} (l : List Prt) (hl : ∀ p ∈ l, p.ok) (hm : l.length ≤ maxLen) (a : Option Addr) (cap : Nat) (hs : Sli L a l.length 7 (h3z l)) :
  Fn Try.prog 24 #[.slice a l.length cap] S w0 L fun r L' => ∃ v e, r = h5a [v, .int .i64 (make l).1] ∧ Own 43 4 v (make l).2.length (flat (make l).2) e ∧ e ++ L = L' := by
 unfold maxLen at hm
 refine Fn1 Try.func24 Try.ntmps24 rfl rfl ?_
 repeat' (first | (refine h5t (id:=0) ?_) | refine h1k ?_ | refine h0k ?_ | (refine gR 0 (p_a (h:=p_a (h:=h0b ?_)))) | (refine gR 1 ?_ <;> (try refine h0a ?_; (refine K1_makeMap rfl ?_; intro nb hnb)) <;> (try refine q_e (by exact h1s (t:=134) (fun vs => (match vs with | [(_, x0)] => [Value.slice none 0 0, x0] | _ => [])) rfl (fun w => by kernel_rfl)) ?_; (try simp only [Value.cells]); (try simp only [zzC, zzN])) <;> (try refine h0a ?_; (refine h3e (t:=134) rfl rfl ?_; intro nb hnb; (try simp only [Value.cells]))) <;> (try refine p_a (h:=h0b ?_))) | (refine gR 2 (p_m (h:=q_e (by apply h0m; exact rfl; exact (fun _ => BigFrame.builtin_len ..); apply h0i Try.underlying82; exact h4a) ?_)) <;> (try refine q_e (q_b (r:=by apply rb_sub; exact c_9; (focus (refine IntWalk.i64_in _ ?_; omega)))) ?_) <;> (try refine p_a (h:=h0b ?_))))
 refine ⟨?_⟩
 obtain ⟨nbM, rfl⟩ : ∃ x, x = nb := ⟨_, rfl⟩
 obtain ⟨pm, rfl⟩ : ∃ x, x = nb := ⟨_, rfl⟩
 refine h0q ?_
 refine h4g (γ:=Nat × Mk × Value × List Blk) (MkI l) (fun g => g.1) (fun g => [(5, .int .i64 ((g.1 : Nat) - 1))]) [(0, _), (4, _)]
  (fun g => mkB nbM g.2.2.1 pm :: mapB pm (plV g.2.1.pl) :: (g.2.2.2 ++ L))
  (l.length, ⟨[], []⟩, .slice none 0 0, []) (.cons rfl (.cons rfl .nil)) ⟨Nat.le_refl _, by rw [List.drop_length]; rfl, ⟨by simp, by simp, by simp⟩, by simp, Own.nil _ _⟩ (by (focus (repeat (first | exact Sub.nil | refine Sub.cons rfl ?_)))) (fun _ H => H) ?_
 rintro ⟨k, s, v, e⟩ ⟨hk, hgo, hok, hln, hown⟩
 dsimp only at hk hgo hok hln hown ⊢
 simp only [List.cons_append, List.nil_append]
 cases k with
 | zero =>
  rw [List.drop_zero] at hgo
  have hmk : make l = (0, s.out.reverse) := by unfold make; rw [hgo, if_pos rfl]
  rw [hmk]
  have hoo := hok.out
  generalize s.pl = pl at *
  generalize s.out = out at *
  clear hok hgo hmk
  obtain ⟨ao, co, rfl, hso⟩ := hown.sli L
  clear hown
  rw [show (((0 : Nat) : Int) - 1) = -1 by omega]
  repeat' (first | (refine h5t (id:=2) ?_) | refine h1k ?_ | refine h0k ?_ | refine h1y ?_ | refine h1m ?_ | refine h1t ?_ | refine h2p ?_ | refine h0n rfl ?_ | (refine gR 3 (p_m (h:=p_e (q_b (r:=by exact h4m q_o)) (h:=h0b ?_)))) | (refine gR 10 (p_m (h:=p_n (h:=p_e (q_f h2q) (h:=p_e q_l (h:=q_e (by apply h0m; exact rfl; exact (fun _ => BigFrame.builtin_len ..); apply h0i Try.underlying45; exact h4a) ?_))))) <;> (try refine h0a ?_; (refine K1_makeSlice0 (t:=45) (zc:=[Value.int .u16 0, Value.int .u8 0, Value.int .u8 0, Value.int .u32 0]) rfl rfl rfl Try.underlying45 h3l h3j h3k h3m rfl ?_ ?_ ?_; omega; exact h6j; intro vA eA hownA)) <;> (try refine p_a (h:=h0b ?_))) | (refine gR 11 (p_m (h:=p_n (h:=p_e (q_f h2q) (h:=p_e (by apply h0l (t:=45); exact rfl; (focus (repeat (first | exact fd0 | apply fdA))); kernel_rfl; kernel_rfl; exact rfl) (h:=q_e (by apply h0m; exact rfl; exact (fun _ => BigFrame.builtin_len ..); apply h0i Try.underlying45; exact h4a) ?_))))) <;> (try refine q_e (q_b (r:=by apply rb_sub; exact c_9; (focus (refine IntWalk.i64_in _ ?_; omega)))) ?_) <;> (try refine p_a (h:=h0b ?_))))
  refine ⟨?_⟩
  refine h0q ?_
  refine h4g (γ:=Nat × Value × List Blk) (MkJ out) (fun g => g.1) (fun g => [(7, g.2.1), (8, .int .i64 ((g.1 : Nat) - 1))]) [(4, _)]
   (fun g => g.2.2 ++ mkB nbM (.slice ao out.length co) pm :: mapB pm (plV pl) :: (e ++ L))
   (out.length, vA, eA) (.cons rfl .nil) ⟨Nat.le_refl _, by rw [List.drop_length, Nat.sub_self]; exact hownA⟩ (by (focus (repeat (first | exact Sub.nil | refine Sub.cons rfl ?_)))) (fun _ H => H) ?_
  rintro ⟨k, v2, e2⟩ ⟨hk2, hown2⟩
  dsimp only at hk2 hown2 ⊢
  simp only [List.cons_append, List.nil_append]
  cases k with
  | zero =>
   rw [List.drop_zero, Nat.sub_zero] at hown2
   rw [show (((0 : Nat) : Int) - 1) = -1 by omega]
   repeat' (first | refine h1k ?_ | refine h0k ?_ | refine h1y ?_ | refine h1m ?_ | refine h1t ?_ | refine h2p ?_ | refine h2v ?_ | refine h0n rfl ?_ | (refine gR 12 (p_m (h:=p_e (q_b (r:=by exact h4m q_o)) (h:=h0b ?_)))) | (refine gR 15 (p_m (h:=p_a (h:=p_a (h:=h0b ?_))))))
   (refine h2k Try.results24 (.tmp rfl (.tmp rfl .nil)) ?_)
   exact ⟨_, ⟨v2, e2, rfl, by rw [List.length_reverse]; exact hown2, rfl⟩, fun w H => H.sub ((List.Sublist.refl e2).append (((List.sublist_append_right e L).cons _).cons _))⟩
  | succ k =>
   rw [show (((k + 1 : Nat) : Int) - 1) = (k : Int) by omega]
   have hlt : k < out.length := by omega
   obtain ⟨i0, q, b, off, cs, T, fr, rfl, hi0, hsz, hx⟩ := (((hso.up (mapB pm (plV pl))).up (mkB nbM (.slice ao out.length co) pm)).upA e2).elem hlt
   rw [flat_at out k hlt] at hx
   have hd : (out.drop k).reverse = (out.drop (k + 1)).reverse ++ [out[k]] := by rw [List.drop_eq_getElem_cons hlt, List.reverse_cons]
   have hd' := Lib.hid hd
   clear hd
   generalize (out.drop (k + 1)).reverse = od at *
   generalize out[k] = i at *
   obtain ⟨c, jt, jf, kk⟩ := i
   simp only [Ins.cells] at hx
   repeat' (first | refine h1k ?_ | refine h0k ?_ | refine h1g ?_ | refine h0y ?_ | refine h0q ?_ | refine h1j ?_ | refine h0o rfl ?_ | (refine gR 12 (p_m (h:=p_e (q_b (r:=by exact h5v q_o)) (h:=h0b ?_)))) | (refine gR 14 (p_m (h:=p_m (h:=p_n (h:=p_e (q_f h2q) (h:=p_e (by apply h0l (t:=45); exact rfl; (focus (repeat (first | exact fd0 | apply fdA))); kernel_rfl; kernel_rfl; exact rfl) (h:=p_m (h:=p_e (by apply h0f; exact rfl; exact rfl; (focus (apply h1z Try.underlying45 h2n; omega; omega; exact c_2))) (h:=q_e (by apply h0x (t:=43); exact rfl; exact c_25; kernel_rfl; kernel_rfl; exact h2n; (with_reducible assumption); (with_reducible assumption)) ?_)))))))) <;> (try refine h0a ?_; (refine h0r (t:=45) (m:=1) (e:=43) (fun vs => (match vs with | [(_, x0)] => x0.cells.toList | _ => [])) rfl rfl (fun w => by kernel_rfl) ?_; intro nb hnb; (try simp only [Value.cells]); (try simp only [zzC, zzN]))) <;> (try refine h0a ?_; (apply h2t; exact rfl; exact Try.underlying45; exact h3l; exact h3j; exact h3k; exact h3m; exact rfl; exact rfl; exact rfl; (with_reducible assumption); exact fd0; exact Nat.le_of_ble_eq_true rfl; exact c_28; exact rfl; exact h6j; omega; exact c_21; exact rfl; exact c_19; exact c_8; intro vA eA hownA)) <;> (try refine p_a (h:=h0b ?_))) | (refine gR 13 (q_m ?_) <;> (try refine q_e (q_b (r:=by apply rb_sub; exact c_9; (focus (refine IntWalk.i64_in _ ?_; omega)))) ?_) <;> (try refine p_a (h:=h0b ?_))))
   refine h2u (k, vA, eA) ⟨⟨by dsimp only; omega, ?_⟩, by dsimp only; omega⟩ (by (focus (repeat (first | exact Sub.nil | refine Sub.cons rfl ?_)))) (fun _ H => H)
   dsimp only
   rw [hd'.out, flat_snoc']
   have e1 : out.length - k = out.length - (k + 1) + 1 := by omega
   rw [e1]
   exact hownA
 | succ k =>
  rw [show (((k + 1 : Nat) : Int) - 1) = (k : Int) by omega]
  have hlt : k < l.length := by omega
  obtain ⟨i0, q, b, off, cs, T, fr, rfl, hi0, hsz, hx⟩ := (((hs.upA e).up (mapB pm (plV s.pl))).up (mkB nbM v pm)).elem hlt
  rw [flatP_at l k hlt] at hx
  have hpk := hl _ (List.getElem_mem hlt)
  have hat := mkGo_at hlt hgo
  have hpo := part_ok hok hpk hln
  have hpc := fun (L : List Blk) => part_c (S:=S) (w0:=w0) (L:=L) nbM pm s hok v e hown l[k] hpk
  have hmerr := fun (e : Int) (he : e ≠ 0) => make_err (l:=l) (k:=k) (e:=e) he
  generalize l[k] = p at *
  obtain ⟨kind, to, els, ⟨c, jt, jf, kk⟩⟩ := p
  simp only [Prt.cells, Prt.v] at hx hpc
  generalize Mk.part s ⟨kind, to, els, ⟨c, jt, jf, kk⟩⟩ = q2 at *
  obtain ⟨er, s2⟩ := q2
  dsimp only at *
  have hat' := Lib.hid hat
  have hmerr' := Lib.hid hmerr
  clear hat hmerr hgo hown hok hl
  repeat' (first | (refine h4s (id:=6) ?_) | refine h1k ?_ | refine h0k ?_ | refine h0q ?_ | refine h1j ?_ | refine h0o rfl ?_ | (refine gR 3 (p_m (h:=p_e (q_b (r:=by exact h5v q_o)) (h:=h0b ?_)))) | (refine gR 5 (p_m (h:=p_m (h:=p_m (h:=p_e (by apply h0f; exact rfl; exact rfl; (focus (apply h1z Try.underlying82 h3q; omega; omega; exact c_2))) (h:=q_e (by apply h0x (t:=88); exact rfl; exact c_25; kernel_rfl; kernel_rfl; exact h3q; (with_reducible assumption); (with_reducible assumption)) ?_))))) <;> (try refine h0a ?_; (refine h1i (F:=43) (by kernel_rfl) rfl rfl (hpc _) ?_; rintro _ _ ⟨rfl, v1, e1, ho1, rfl⟩)) <;> (try refine p_a (h:=h0b ?_))))
  refine ⟨?_⟩
  by_cases he0 : er = 0
  ·subst he0
   rw [if_neg (by simp)] at hat'
   obtain ⟨ao, co, rfl, hso⟩ := ho1.sli L
   have hle2 := hpo.le
   by_cases hmany : s2.out.length > 4096
   ·have hmk := hmerr'.out 205 (by omega) (by rw [hat'.out, if_pos hmany])
    rw [hmk]
    repeat' (first | refine h1k ?_ | refine h0k ?_ | refine h2o ?_ | refine h1n ?_ | refine h1u ?_ | refine h1j ?_ | refine h2v ?_ | refine h0o rfl ?_ | refine h0n rfl ?_ | (refine gR 6 (q_m ?_) <;> (try refine q_e (by exact q_b (r:=by refine h4c ?_; first | rfl | (with_reducible assumption) | (decide; done) | omega)) ?_) <;> (try refine h0b ?_)) | (refine gR 8 (p_m (h:=p_n (h:=p_e (q_f h2q) (h:=p_e q_l (h:=p_e (by apply h0m; exact rfl; exact (fun _ => BigFrame.builtin_len ..); apply h0i Try.underlying45; exact h4a) (h:=p_e (q_b (r:=by exact h5g q_o)) (h:=h0b ?_)))))))) | (refine gR 9 (p_a (h:=p_a (h:=h0b ?_)))))
    (refine h2k Try.results24 (.tmp rfl (.tmp rfl .nil)) ?_)
    exact ⟨_, ⟨_, [], rfl, Own.nil _ _, rfl⟩, fun w H => H.sub (((List.sublist_append_right e1 L).cons _).cons _)⟩
   ·repeat' (first | refine h1k ?_ | refine h0k ?_ | refine h1g ?_ | refine h0y ?_ | refine h1j ?_ | refine h0n rfl ?_ | (refine gR 6 (q_m ?_) <;> (try refine q_e (by exact q_b (r:=by refine h4c ?_; first | rfl | (with_reducible assumption) | (decide; done) | omega)) ?_) <;> (try refine h0b ?_)) | (refine gR 8 (p_m (h:=p_n (h:=p_e (q_f h2q) (h:=p_e q_l (h:=p_e (by apply h0m; exact rfl; exact (fun _ => BigFrame.builtin_len ..); apply h0i Try.underlying45; exact h4a) (h:=p_e (q_b (r:=by exact h4j q_o)) (h:=h0b ?_)))))))) | (refine gR 4 (q_m ?_) <;> (try refine q_e (q_b (r:=by apply rb_sub; exact c_9; (focus (refine IntWalk.i64_in _ ?_; omega)))) ?_) <;> (try refine p_a (h:=h0b ?_))))
    refine h2u (k, s2, _, e1) ⟨⟨by dsimp only; omega, by rw [hat'.out, if_neg hmany], hpo, by dsimp only; omega, ho1⟩, by dsimp only; omega⟩ (by (focus (repeat (first | exact Sub.nil | refine Sub.cons rfl ?_)))) (fun _ H => H)
  ·have hmk := hmerr'.out er he0 (by rw [hat'.out, if_pos he0])
   rw [hmk]
   repeat' (first | refine h1k ?_ | refine h0k ?_ | refine h2o ?_ | refine h1n ?_ | refine h1u ?_ | refine h2v ?_ | refine h0o rfl ?_ | (refine gR 6 (p_m (h:=p_e (q_b (r:=by exact h4w q_o)) (h:=h0b ?_)))) | (refine gR 7 (p_m (h:=p_a (h:=p_a (h:=h0b ?_))))))
   (refine h2k Try.results24 (.tmp rfl (.tmp rfl .nil)) ?_)
   exact ⟨_, ⟨_, [], rfl, Own.nil _ _, rfl⟩, fun w H => H.sub (((List.sublist_append_right e1 L).cons _).cons _)⟩
def retI (i : Nat) : Ins := ⟨6, 0, 0, (i : Int)⟩
def at_ (k n a : Nat) : Option Int := if k ≤ a ∧ a < n then some ((n : Int) - a) else none
end Go.Proofs.Ytpbpgbkpciffgaa
