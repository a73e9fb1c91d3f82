/- Part 10 of what the last text of this claim leans on: rules of walks, contracts, plain facts. Conditions: those of each statement. -/
import Derived.Test.YtpbpgbkpciffgaaQt9
set_option maxRecDepth 100000
namespace Go.Proofs.Ytpbpgbkpciffgaa
open Go Go.RowKit
set_option maxHeartbeats 2000000 in
theorem tryT_c {S w0 L} (b n cap : Nat) (r : List Value) (l : List Int) (x y : Int) (a c : Nat) (hx : x = (a : Nat)) (hy : y = (c : Nat)) (hl : l.length = n) (hn : n ≤ 255) (hcn : c ≤ n) (hac : a < c) (hbn : 0 < a → ∀ q, a ≤ q → q < c → gv l (a - 1) ≤ gv l q) :
  Fn Try.prog 81 #[.slice (some ⟨b, 0, none⟩) n cap, .int .i64 x, .int .i64 y] S w0 (h5l b l r :: L) fun v L' => ∃ q : Bool, v = .bool q ∧ ∃ l', Sw a c l l' ∧ (q = true → Srt a c l') ∧ h5l b l' r :: L = L' := by
 subst hx hy
 have hbn' := Lib.hid hbn
 clear hbn
 refine Fn3 Try.func81 Try.ntmps81 rfl rfl ?_
 repeat' (first | refine h0u ?_ | refine h0g ?_ | refine h0p ?_ | (refine gR 0 (p_a (h:=h0c ?_))) | (refine gR 1 (q_m ?_) <;> (try refine q_e (q_b (r:=by apply h0z; exact c_9; (focus (refine IntWalk.i64_in _ ?_; omega)))) ?_) <;> (try refine p_a (h:=h0c ?_))) | (refine gR 2 (p_a (h:=h0c ?_))))
 refine h3b (γ:=Nat × Nat × List Int) (fun g => g.1 ≤ 5 ∧ (a < g.2.1 ∧ g.2.1 ≤ c) ∧ Sw a c l g.2.2 ∧ Srt a g.2.1 g.2.2) (fun g => 5 - g.1) (fun g => [(8, .int .i64 (g.1 : Nat)), (7, .int .i64 (g.2.1 : Nat))]) [(0, _), (1, _), (2, _)] (fun g => h5l b g.2.2 r :: L) (0, a + 1, l) (.cons rfl (.cons rfl (.cons rfl .nil))) ⟨by simp, by simp; omega, .refl _ _ _, .nil (by simp)⟩ (by (focus (repeat (first | exact Sub.nil | refine Sub.cons rfl ?_)))) (fun _ H => H) ?_
 rintro ⟨t, i0, m⟩ ⟨ht : t ≤ 5, hi0 : a < i0 ∧ i0 ≤ c, hs : Sw a c l m, hp : Srt a i0 m⟩
 have hm := hs.len
 have hp' := Lib.hid hp
 clear hp
 dsimp only [List.cons_append, List.nil_append]
 by_cases htl : t < 5
 rotate_left
 ·repeat' (first | refine h0u ?_ | refine h0g ?_ | refine h1n ?_ | refine h0v ?_ | refine h1m ?_ | refine h2a ?_ | refine h2w ?_ | refine h0n rfl ?_ | (refine gR 3 (p_m (h:=p_e (q_b (r:=by exact h1k q_o)) (h:=h0c ?_)))) | (refine gR 24 (p_a (h:=h0c ?_))))
  (refine h2h Try.results81 (.tmp rfl .nil) ?_)
  exact ⟨_, ⟨false, rfl, m, hs, (fun h => by cases h), rfl⟩, fun _ H => H⟩
 repeat' (first | (refine h4g (id:=2) ?_) | refine h0u ?_ | refine h0g ?_ | refine h0p ?_ | refine h1c ?_ | refine h0s rfl ?_ | (refine gR 3 (p_m (h:=p_e (q_b (r:=by exact h1l q_o)) (h:=h0c ?_)))))
 refine ⟨?_⟩
 refine h3x (γ:=Nat) (fun i => (a < i ∧ i ≤ c) ∧ Srt a i m ∧ (i < c → gv m i < gv m (i - 1))) (fun i => [(7, .int .i64 (i : Nat))]) [(0, _), (1, _), (2, _), (8, _)] (fun _ => h5l b m r :: L) (.cons rfl (.cons rfl (.cons rfl (.cons rfl .nil)))) ?_ ?_
 ·repeat' (refine h0p ?_)
  refine h3b (γ:=Nat) (fun i => (a < i ∧ i ≤ c) ∧ Srt a i m) (fun i => c - i) (fun i => [(7, .int .i64 (i : Nat))]) [(0, _), (1, _), (2, _), (8, _)] (fun _ => h5l b m r :: L) i0 (.cons rfl (.cons rfl (.cons rfl (.cons rfl .nil)))) ⟨by omega, hp'.out⟩ (by (focus (repeat (first | exact Sub.nil | refine Sub.cons rfl ?_)))) (fun _ H => H) ?_
  rintro i ⟨hi : a < i ∧ i ≤ c, hq : Srt a i m⟩
  dsimp only [List.cons_append, List.nil_append]
  have hq' := Lib.hid hq
  clear hq
  by_cases hlt : i < c
  ·have g1 := h2y (l:=m) (r:=r) (k:=i) (by omega)
   have g2 := h4x (l:=m) (r:=r) (i:=(i : Int) - 1) (i - 1) (by omega) (by omega)
   have g3 := h4a (l:=m) (r:=r)
   repeat' (first | refine h0u ?_ | refine h0g ?_ | refine h0q ?_ | refine h1n ?_ | refine h0v ?_ | refine h0y ?_ | refine h1m ?_ | refine h0p ?_ | refine h1c ?_ | refine h2a ?_ | ((refine h1u (id:=5) (m:=16) (by kernel_rfl) rfl (q_u 0 (x:=by exact h0b rfl) (h:=q_u 1 (x:=by exact h0b rfl) (h:=q_u 2 (x:=by exact q_b (r:=by exact h1l q_o)) (h:=q_u 3 (x:=by exact h0b rfl) (h:=q_T 4 (e:=(fun _ H => H)) (x:=by exact h0b rfl) (h:=q_T 5 (e:=(fun _ H => H)) (x:=by exact h0b rfl) (h:=q_T 6 (e:=(fun _ H => H)) (x:=by apply h0d; exact rfl; exact rfl; (focus (apply h0x Try.underlying47 h2l; omega; omega; exact c_2))) (h:=q_T 7 (e:=(fun _ H => H)) (x:=by apply h0f (t:=33); exact rfl; exact fd0; kernel_rfl; kernel_rfl; (with_reducible assumption)) (h:=q_T 8 (e:=(fun _ H => H)) (x:=by exact h0b rfl) (h:=q_T 9 (e:=(fun _ H => H)) (x:=by exact h0b rfl) (h:=?_)))))))))))) <;> (try refine q_T 10 (e:=(fun _ H => H)) (x:=by exact q_b (r:=by apply h2z; exact c_9; (focus (refine IntWalk.i64_in _ ?_; omega)))) (h:=?_)) <;> (try refine q_T 11 (e:=(fun _ H => H)) (x:=by apply h0d; exact rfl; exact rfl; (focus (apply h0x Try.underlying47 h2l; omega; omega; exact c_2))) (h:=q_T 12 (e:=(fun _ H => H)) (x:=by apply h0f (t:=33); exact rfl; exact fd0; kernel_rfl; kernel_rfl; (with_reducible assumption)) (h:=?_))) <;> (try refine q_r 13 ?_; (refine h1y rfl rfl rfl ?_; (refine h0w (F:=82) (by kernel_rfl) rfl rfl (h5o _ _) ?_; rintro _ _ ⟨rfl, rfl⟩)); refine h2e (fun _ H => H) ?_) <;> (try refine q_T 14 (e:=(fun _ H => H)) (x:=by apply E_un; exact rfl; exact h3v) (h:=q_u 15 (x:=by exact h3p rfl rfl) (h:=h1o (by kernel_rfl) ?_)))) | (refine gR 6 (q_m ?_) <;> (try refine q_e (q_b (r:=by apply h0z; exact c_9; (focus (refine IntWalk.i64_in _ ?_; omega)))) ?_) <;> (try refine p_a (h:=h0c ?_))) | ((refine h1r rfl (fun hc => ?_) (fun hc => ?_)) <;> (try subst hc)))
   all_goals first
    | exact h1p (i + 1) ⟨⟨by omega, hq'.out.next (by omega) (by omega)⟩, by omega⟩ (by (focus (repeat (first | exact Sub.nil | refine Sub.cons rfl ?_)))) (fun _ H => H)
    | exact h1p i ⟨by omega, hq'.out, by omega⟩ (by (focus (repeat (first | exact Sub.nil | refine Sub.cons rfl ?_)))) (fun _ H => H)
  ·repeat' (first | refine h0u ?_ | refine h0g ?_ | refine h0q ?_ | refine h1n ?_ | refine h0v ?_ | refine h1m ?_ | refine h2a ?_ | refine h0n rfl ?_ | ((refine h1u (id:=5) (m:=16) (by kernel_rfl) rfl (q_u 0 (x:=by exact h0b rfl) (h:=q_u 1 (x:=by exact h0b rfl) (h:=q_u 2 (x:=by exact q_b (r:=by exact h1k q_o)) (h:=q_u 3 (x:=by exact h0b rfl) (h:=?_)))))) <;> (try apply h0o (i:=4); exact rfl; kernel_rfl; kernel_rfl; kernel_rfl; exact rfl; (exact fun _ H => H); exact h3d rfl rfl rfl) <;> (try apply h0o (i:=5); exact rfl; kernel_rfl; kernel_rfl; kernel_rfl; exact rfl; (exact fun _ H => H); exact h3d rfl rfl rfl) <;> (try apply h0o (i:=6); exact rfl; kernel_rfl; kernel_rfl; kernel_rfl; exact rfl; (exact fun _ H => H); exact h3d rfl rfl rfl) <;> (try apply h0o (i:=7); exact rfl; kernel_rfl; kernel_rfl; kernel_rfl; exact rfl; (exact fun _ H => H); exact h3d rfl rfl rfl) <;> (try apply h0o (i:=8); exact rfl; kernel_rfl; kernel_rfl; kernel_rfl; exact rfl; (exact fun _ H => H); exact h3d rfl rfl rfl) <;> (try apply h0o (i:=9); exact rfl; kernel_rfl; kernel_rfl; kernel_rfl; exact rfl; (exact fun _ H => H); exact h3d rfl rfl rfl) <;> (try apply h0o (i:=10); exact rfl; kernel_rfl; kernel_rfl; kernel_rfl; exact rfl; (exact fun _ H => H); exact h3d rfl rfl rfl) <;> (try apply h0o (i:=11); exact rfl; kernel_rfl; kernel_rfl; kernel_rfl; exact rfl; (exact fun _ H => H); exact h3d rfl rfl rfl) <;> (try apply h0o (i:=12); exact rfl; kernel_rfl; kernel_rfl; kernel_rfl; exact rfl; (exact fun _ H => H); exact h3d rfl rfl rfl) <;> (try refine q_r 13 ?_; (refine h2x rfl rfl rfl rfl ?_); refine h2e (fun _ H => H) ?_) <;> (try apply h0o (i:=14); exact rfl; kernel_rfl; kernel_rfl; kernel_rfl; exact rfl; (exact fun _ H => H); exact h3d rfl rfl rfl) <;> (try refine q_u 15 (x:=by exact h3p rfl rfl) (h:=h1o (by kernel_rfl) ?_))))
   exact h1p i ⟨by omega, hq'.out, by omega⟩ (by (focus (repeat (first | exact Sub.nil | refine Sub.cons rfl ?_)))) (fun _ H => H)
 clear hp' hi0 i0
 rintro i ⟨hi : a < i ∧ i ≤ c, hq : Srt a i m, hx : i < c → gv m i < gv m (i - 1)⟩
 dsimp only [List.cons_append, List.nil_append]
 have hq' := Lib.hid hq
 clear hq
 by_cases hic : i = c
 ·subst hic
  repeat' (first | refine h0u ?_ | refine h0g ?_ | refine h2p ?_ | refine h1v ?_ | refine h2j ?_ | refine h2w ?_ | refine h0s rfl ?_ | (refine gR 7 (p_m (h:=q_m ?_)) <;> (try refine q_e (by exact q_b (r:=by refine h0j ?_; first | rfl | (with_reducible assumption) | (decide; done) | omega)) ?_) <;> (try refine h0c ?_)) | (refine gR 8 (p_a (h:=h0c ?_))))
  (refine h2h Try.results81 (.tmp rfl .nil) ?_)
  exact ⟨_, ⟨true, rfl, m, hs, fun _ => hq'.out, rfl⟩, fun _ H => H⟩
 by_cases h50 : c - a < 50
 ·repeat' (first | refine h0u ?_ | refine h0g ?_ | refine h2p ?_ | refine h1v ?_ | refine h2j ?_ | refine h1c ?_ | refine h2w ?_ | refine h0s rfl ?_ | refine h0n rfl ?_ | (refine gR 7 (p_m (h:=p_m (h:=p_e (q_b (r:=by exact h0m q_o)) (h:=h0c ?_))))) | (refine gR 9 (p_m (h:=q_m ?_)) <;> (try refine q_e (q_b (r:=by apply h2z; exact c_9; (focus (refine IntWalk.i64_in _ ?_; omega)))) ?_) <;> (try refine p_e (q_b (r:=by exact h1l q_o)) (h:=h0c ?_))) | (refine gR 10 (p_a (h:=h0c ?_))))
  (refine h2h Try.results81 (.tmp rfl .nil) ?_)
  exact ⟨_, ⟨false, rfl, m, hs, (fun h => by cases h), rfl⟩, fun _ H => H⟩
 repeat' (first | (refine h3s (id:=11) ?_) | refine h0u ?_ | refine h0g ?_ | refine h1c ?_ | refine h0n rfl ?_ | (refine gR 7 (p_m (h:=p_m (h:=p_e (q_b (r:=by exact h0m q_o)) (h:=h0c ?_))))) | (refine gR 9 (p_m (h:=q_m ?_)) <;> (try refine q_e (q_b (r:=by apply h2z; exact c_9; (focus (refine IntWalk.i64_in _ ?_; omega)))) ?_) <;> (try refine p_e (q_b (r:=by exact h1k q_o)) (h:=h0c ?_))))
 refine ⟨?_⟩
 have g1 := h2y (l:=m) (r:=r) (k:=i) (by omega)
 have g2 := h4x (l:=m) (r:=r) (i:=(i : Int) - 1) (i - 1) (by omega) (by omega)
 have g3 := h4a (l:=m) (r:=r)
 refine h3x (γ:=List Int) (fun m' => m' = swp m i (i - 1)) (fun _ => []) [(0, _), (1, _), (2, _), (7, _), (8, _)] (fun m => h5l b m r :: L) (.cons rfl (.cons rfl (.cons rfl (.cons rfl (.cons rfl .nil))))) ?_ ?_
 ·repeat' (first | refine h0q ?_ | ((apply h2m (i:=0) (id:=11) (m:=18); exact c_15; kernel_rfl; exact rfl) <;> (try refine q_t 0 (e:=h1b) (x:=by exact h0b rfl) (h:=q_t 1 (e:=h1b) (x:=by exact h0b rfl) (h:=q_t 2 (e:=h1b) (x:=by exact h0b rfl) (h:=q_t 3 (e:=h1b) (x:=by exact h0b rfl) (h:=?_))))) <;> (try refine q_t 4 (e:=h1b) (x:=by exact q_b (r:=by apply h2z; exact c_9; (focus (refine IntWalk.i64_in _ ?_; omega)))) (h:=?_)) <;> (try refine q_t 5 (e:=h1b) (x:=by exact h0b rfl) (h:=q_t 6 (e:=h1b) (x:=by exact h0b rfl) (h:=?_))) <;> (try refine q_t 7 (e:=h1b) (x:=by exact q_b (r:=by apply h2z; exact c_9; (focus (refine IntWalk.i64_in _ ?_; omega)))) (h:=?_)) <;> (try refine q_t 8 (e:=h1b) (x:=by apply h0d; exact rfl; exact rfl; (focus (apply h0x Try.underlying47 h2l; omega; omega; exact c_2))) (h:=q_t 10 (e:=h1b) (x:=by exact h0b rfl) (h:=q_t 11 (e:=h1b) (x:=by exact h0b rfl) (h:=q_t 12 (e:=h1b) (x:=by apply h0d; exact rfl; exact rfl; (focus (apply h0x Try.underlying47 h2l; omega; omega; exact c_2))) (h:=?_))))) <;> (try refine h4c (i:=9) (j:=13) rfl rfl (by kernel_rfl) ?_ ?_ <;> (first | (refine TagA.mk ?_; (((refine q_k (by apply h0f (t:=33); exact rfl; exact fd0; kernel_rfl; kernel_rfl; (with_reducible assumption)) ?_); refine h2e h1b ?_) <;> (try refine q_r 13 ?_; (refine q_k (by apply h0f (t:=33); exact rfl; exact fd0; kernel_rfl; kernel_rfl; (with_reducible assumption)) ?_); refine h2e h1b ?_) <;> (try refine q_t 14 (e:=h1b) (x:=by apply h0d; exact rfl; exact rfl; (focus (apply h0x Try.underlying47 h2l; omega; omega; exact c_2))) (h:=?_)) <;> (try refine q_r 15 ?_; (apply h0l (t:=33); exact rfl; exact rfl; exact fd0; exact rfl; exact rfl; kernel_rfl; (focus (omega)); exact h3o; (try simp only [List.set_cons_succ]); (try simp only [List.set_cons_zero])); refine h2e h1b ?_) <;> (try refine q_t 16 (e:=h1b) (x:=by apply h0d; exact rfl; exact rfl; (focus (apply h0x Try.underlying47 h2l; omega; omega; exact c_2))) (h:=?_)) <;> (try refine q_r 17 ?_; (apply h0l (t:=33); exact rfl; exact rfl; exact fd0; exact rfl; exact rfl; kernel_rfl; (focus (simp; omega)); exact h3o; (try simp only [List.set_cons_succ]); (try simp only [List.set_cons_zero])); refine h2e h1b ?_) <;> (try refine h1o (by kernel_rfl) ?_))) | (refine TagB.mk ?_; (((refine q_k (by apply h0f (t:=33); exact rfl; exact fd0; kernel_rfl; kernel_rfl; (with_reducible assumption)) ?_); refine h2e h1b ?_) <;> (try refine q_r 9 ?_; (refine q_k (by apply h0f (t:=33); exact rfl; exact fd0; kernel_rfl; kernel_rfl; (with_reducible assumption)) ?_); refine h2e h1b ?_) <;> (try refine q_t 14 (e:=h1b) (x:=by apply h0d; exact rfl; exact rfl; (focus (apply h0x Try.underlying47 h2l; omega; omega; exact c_2))) (h:=?_)) <;> (try refine q_r 15 ?_; (apply h0l (t:=33); exact rfl; exact rfl; exact fd0; exact rfl; exact rfl; kernel_rfl; (focus (omega)); exact h3o; (try simp only [List.set_cons_succ]); (try simp only [List.set_cons_zero])); refine h2e h1b ?_) <;> (try refine q_t 16 (e:=h1b) (x:=by apply h0d; exact rfl; exact rfl; (focus (apply h0x Try.underlying47 h2l; omega; omega; exact c_2))) (h:=?_)) <;> (try refine q_r 17 ?_; (apply h0l (t:=33); exact rfl; exact rfl; exact fd0; exact rfl; exact rfl; kernel_rfl; (focus (simp; omega)); exact h3o; (try simp only [List.set_cons_succ]); (try simp only [List.set_cons_zero])); refine h2e h1b ?_) <;> (try refine h1o (by kernel_rfl) ?_)))))))
  all_goals (rw [h4o i (i - 1) (by omega) (by omega) rfl (by omega)]; exact h1p (swp m i (i - 1)) rfl (by (focus (repeat (first | exact Sub.nil | refine Sub.cons rfl ?_)))) (fun _ H => H))
 rintro _ rfl
 clear g1 g2 g3 hx
 have hp2 : Srt a (i - 1) (swp m i (i - 1)) := (hq'.out.less (by omega)).same fun k k1 k2 => by rw [gv_swp (by omega) (by omega), if_neg (by omega), if_neg (by omega)]
 clear hq'
 replace hs := hs.trans (.swp (i:=i) (j:=i - 1) (by omega) (by omega) (by omega))
 generalize swp m i (i - 1) = m1 at *
 clear hm m
 have hp2' := Lib.hid hp2
 clear hp2
 dsimp only [List.cons_append, List.nil_append]
 repeat' (first | (refine G_markc (t:=61) ?_) | refine h0u ?_ | refine h0g ?_ | (refine gR 12 (p_m (h:=q_m ?_)) <;> (try refine q_e (q_b (r:=by apply h2z; exact c_9; (focus (refine IntWalk.i64_in _ ?_; omega)))) ?_) <;> (try refine p_e (q_b (r:=by exact rb_geq)) (h:=h0c ?_))))
 refine ⟨?_⟩
 refine h3x (γ:=List Int) (fun m' => Sw a c l m' ∧ Srt a i m') (fun _ => []) [(0, _), (1, _), (2, _), (7, _), (8, _)] (fun m => h5l b m r :: L) (.cons rfl (.cons rfl (.cons rfl (.cons rfl (.cons rfl .nil))))) ?_ ?_
 ·refine h1x rfl (fun hc => ?_) (fun hc => ?_)
  rotate_left
  ·repeat' (first | refine h0q ?_ | refine h1c ?_)
   exact h1p m1 ⟨hs, .nil (by omega)⟩ (by (focus (repeat (first | exact Sub.nil | refine Sub.cons rfl ?_)))) (fun _ H => H)
  repeat' (first | refine h0u ?_ | refine h0g ?_ | refine h0p ?_ | (refine gR 13 (q_m ?_) <;> (try refine q_e (q_b (r:=by apply h2z; exact c_9; (focus (refine IntWalk.i64_in _ ?_; omega)))) ?_) <;> (try refine p_a (h:=h0c ?_))))
  refine h3b (γ:=Nat × List Int) (fun g => (a ≤ g.1 ∧ g.1 ≤ i - 1) ∧ Sw a c l g.2 ∧ Ins1 a (i - 1) g.1 g.2) (fun g => g.1) (fun g => [(9, .int .i64 (g.1 : Nat))]) [(0, _), (1, _), (2, _), (7, _), (8, _)] (fun g => h5l b g.2 r :: L) (i - 1, m1) (.cons rfl (.cons rfl (.cons rfl (.cons rfl (.cons rfl .nil))))) ⟨by simp; omega, hs, Ins1.start hp2'.out⟩ (by dsimp only; (focus (repeat (first | exact Sub.nil | (refine Sub.cons (congrArg some ?_) ?_; (focus go_num)))))) (fun _ H => H) ?_
  clear hs hp2' m1
  rintro ⟨j, m⟩ ⟨hj : a ≤ j ∧ j ≤ i - 1, hs : Sw a c l m, hq : Ins1 a (i - 1) j m⟩
  have hm := hs.len
  have hb : 0 < a → ∀ q, a ≤ q → q < c → gv m (a - 1) ≤ gv m q := fun h => by
   rw [hs.out (a - 1) (by omega)]; exact hs.all (p:=fun x => gv l (a - 1) ≤ x) (hbn'.out h)
  have hb2 : 0 < a → a = j → gv m (j - 1) ≤ gv m j := fun h e => by subst e; exact hb h a (by omega) (by omega)
  clear hb
  have hq' := Lib.hid hq
  clear hq
  dsimp only [List.cons_append, List.nil_append]
  have hfin : Srt a (i - 1 + 1) m → Srt a i m := fun h => h.less (by omega)
  by_cases hj1 : 1 ≤ j
  ·have g1 := h2y (l:=m) (r:=r) (k:=j) (by omega)
   have g2 := h4x (l:=m) (r:=r) (i:=(j : Int) - 1) (j - 1) (by omega) (by omega)
   have g3 := h4a (l:=m) (r:=r)
   repeat' (first | refine h0u ?_ | refine h0g ?_ | refine h0q ?_ | refine h1n ?_ | refine h0v ?_ | refine h0y ?_ | refine h1m ?_ | refine h2s rfl ?_ | refine h0p ?_ | refine h1c ?_ | refine h2a ?_ | refine h0s rfl ?_ | (refine gR 14 (p_m (h:=p_e (q_b (r:=by exact h3q q_o)) (h:=h0c ?_)))) | ((refine h1u (id:=16) (m:=11) (by kernel_rfl) rfl (q_u 0 (x:=by exact h0b rfl) (h:=q_u 1 (x:=by exact h0b rfl) (h:=q_u 2 (x:=by apply h0d; exact rfl; exact rfl; (focus (apply h0x Try.underlying47 h2l; omega; omega; exact c_2))) (h:=q_u 3 (x:=by apply h0f (t:=33); exact rfl; exact fd0; kernel_rfl; kernel_rfl; (with_reducible assumption)) (h:=q_u 4 (x:=by exact h0b rfl) (h:=q_u 5 (x:=by exact h0b rfl) (h:=?_)))))))) <;> (try refine q_u 6 (x:=by exact q_b (r:=by apply h2z; exact c_9; (focus (refine IntWalk.i64_in _ ?_; omega)))) (h:=?_)) <;> (try refine q_u 7 (x:=by apply h0d; exact rfl; exact rfl; (focus (apply h0x Try.underlying47 h2l; omega; omega; exact c_2))) (h:=q_u 8 (x:=by apply h0f (t:=33); exact rfl; exact fd0; kernel_rfl; kernel_rfl; (with_reducible assumption)) (h:=?_))) <;> (try refine q_r 9 ?_; (refine h0w (F:=82) (by kernel_rfl) rfl rfl (h5o _ _) ?_; rintro _ _ ⟨rfl, rfl⟩); refine h2e (fun _ H => H) ?_) <;> (try refine q_u 10 (x:=by apply E_un; exact rfl; exact h3v) (h:=h1o (by kernel_rfl) ?_))) | ((apply h2m (i:=0) (id:=17) (m:=18); exact c_15; kernel_rfl; exact rfl) <;> (try refine q_t 0 (e:=h1b) (x:=by exact h0b rfl) (h:=q_t 1 (e:=h1b) (x:=by exact h0b rfl) (h:=q_t 2 (e:=h1b) (x:=by exact h0b rfl) (h:=q_t 3 (e:=h1b) (x:=by exact h0b rfl) (h:=?_))))) <;> (try refine q_t 4 (e:=h1b) (x:=by exact q_b (r:=by apply h2z; exact c_9; (focus (refine IntWalk.i64_in _ ?_; omega)))) (h:=?_)) <;> (try refine q_t 5 (e:=h1b) (x:=by exact h0b rfl) (h:=q_t 6 (e:=h1b) (x:=by exact h0b rfl) (h:=?_))) <;> (try refine q_t 7 (e:=h1b) (x:=by exact q_b (r:=by apply h2z; exact c_9; (focus (refine IntWalk.i64_in _ ?_; omega)))) (h:=?_)) <;> (try refine q_t 8 (e:=h1b) (x:=by apply h0d; exact rfl; exact rfl; (focus (apply h0x Try.underlying47 h2l; omega; omega; exact c_2))) (h:=q_t 10 (e:=h1b) (x:=by exact h0b rfl) (h:=q_t 11 (e:=h1b) (x:=by exact h0b rfl) (h:=q_t 12 (e:=h1b) (x:=by apply h0d; exact rfl; exact rfl; (focus (apply h0x Try.underlying47 h2l; omega; omega; exact c_2))) (h:=?_))))) <;> (try refine h4c (i:=9) (j:=13) rfl rfl (by kernel_rfl) ?_ ?_ <;> (first | (refine TagA.mk ?_; (((refine q_k (by apply h0f (t:=33); exact rfl; exact fd0; kernel_rfl; kernel_rfl; (with_reducible assumption)) ?_); refine h2e h1b ?_) <;> (try refine q_r 13 ?_; (refine q_k (by apply h0f (t:=33); exact rfl; exact fd0; kernel_rfl; kernel_rfl; (with_reducible assumption)) ?_); refine h2e h1b ?_) <;> (try refine q_t 14 (e:=h1b) (x:=by apply h0d; exact rfl; exact rfl; (focus (apply h0x Try.underlying47 h2l; omega; omega; exact c_2))) (h:=?_)) <;> (try refine q_r 15 ?_; (apply h0l (t:=33); exact rfl; exact rfl; exact fd0; exact rfl; exact rfl; kernel_rfl; (focus (omega)); exact h3o; (try simp only [List.set_cons_succ]); (try simp only [List.set_cons_zero])); refine h2e h1b ?_) <;> (try refine q_t 16 (e:=h1b) (x:=by apply h0d; exact rfl; exact rfl; (focus (apply h0x Try.underlying47 h2l; omega; omega; exact c_2))) (h:=?_)) <;> (try refine q_r 17 ?_; (apply h0l (t:=33); exact rfl; exact rfl; exact fd0; exact rfl; exact rfl; kernel_rfl; (focus (simp; omega)); exact h3o; (try simp only [List.set_cons_succ]); (try simp only [List.set_cons_zero])); refine h2e h1b ?_) <;> (try refine h1o (by kernel_rfl) ?_))) | (refine TagB.mk ?_; (((refine q_k (by apply h0f (t:=33); exact rfl; exact fd0; kernel_rfl; kernel_rfl; (with_reducible assumption)) ?_); refine h2e h1b ?_) <;> (try refine q_r 9 ?_; (refine q_k (by apply h0f (t:=33); exact rfl; exact fd0; kernel_rfl; kernel_rfl; (with_reducible assumption)) ?_); refine h2e h1b ?_) <;> (try refine q_t 14 (e:=h1b) (x:=by apply h0d; exact rfl; exact rfl; (focus (apply h0x Try.underlying47 h2l; omega; omega; exact c_2))) (h:=?_)) <;> (try refine q_r 15 ?_; (apply h0l (t:=33); exact rfl; exact rfl; exact fd0; exact rfl; exact rfl; kernel_rfl; (focus (omega)); exact h3o; (try simp only [List.set_cons_succ]); (try simp only [List.set_cons_zero])); refine h2e h1b ?_) <;> (try refine q_t 16 (e:=h1b) (x:=by apply h0d; exact rfl; exact rfl; (focus (apply h0x Try.underlying47 h2l; omega; omega; exact c_2))) (h:=?_)) <;> (try refine q_r 17 ?_; (apply h0l (t:=33); exact rfl; exact rfl; exact fd0; exact rfl; exact rfl; kernel_rfl; (focus (simp; omega)); exact h3o; (try simp only [List.set_cons_succ]); (try simp only [List.set_cons_zero])); refine h2e h1b ?_) <;> (try refine h1o (by kernel_rfl) ?_)))))) | (refine gR 15 (q_m ?_) <;> (try refine q_e (q_b (r:=by apply h2z; exact c_9; (focus (refine IntWalk.i64_in _ ?_; omega)))) ?_) <;> (try refine p_a (h:=h0c ?_))) | ((refine h1r rfl (fun hc => ?_) (fun hc => ?_)) <;> (try subst hc)))
   all_goals first
    | (rw [h4o j (j - 1) (by omega) (by omega) rfl (by omega)]; exact h1p (j - 1, swp m j (j - 1)) ⟨⟨by simp; omega, hs.trans (.swp (by omega) (by omega) (by omega)), hq'.out.step (by omega) (by omega) (by omega)⟩, by simp; omega⟩ (by (focus (repeat (first | exact Sub.nil | refine Sub.cons rfl ?_ | (refine Sub.cons (congrArg some ?_) ?_; (focus go_num)))))) (fun _ H => H))
    | exact h1p m ⟨hs, hfin (hq'.out.stop (by omega) (.inr (by omega)))⟩ (by (focus (repeat (first | exact Sub.nil | refine Sub.cons rfl ?_)))) (fun _ H => H)
  ·repeat' (first | refine h0u ?_ | refine h0g ?_ | refine h0q ?_ | refine h1n ?_ | refine h0v ?_ | refine h1m ?_ | refine h2a ?_ | refine h0n rfl ?_ | (refine gR 14 (p_m (h:=p_e (q_b (r:=by exact h3c q_o)) (h:=h0c ?_)))))
   exact h1p m ⟨hs, hfin (hq'.out.stop (by omega) (.inl (by omega)))⟩ (by (focus (repeat (first | exact Sub.nil | refine Sub.cons rfl ?_)))) (fun _ H => H)
 clear hs hp2' m1
 rintro m1 ⟨hs, hp2⟩
 dsimp only [List.cons_append, List.nil_append]
 repeat' (first | (refine G_markc (t:=98) ?_) | refine h0u ?_ | refine h0g ?_ | (refine gR 18 (p_m (h:=q_m ?_)) <;> (try refine q_e (q_b (r:=by apply h2z; exact c_9; (focus (refine IntWalk.i64_in _ ?_; omega)))) ?_) <;> (try refine p_e (q_b (r:=by exact rb_geq)) (h:=h0c ?_))))
 refine ⟨?_⟩
 refine h1x rfl (fun hc => ?_) (fun hc => ?_)
 rotate_left
 ·repeat' (first | refine h0g ?_ | refine h0q ?_ | refine h0y ?_ | refine h1c ?_ | (refine gR 4 (q_m ?_) <;> (try refine q_e (q_b (r:=by apply h0z; exact c_9; (focus (refine IntWalk.i64_in _ ?_; omega)))) ?_) <;> (try refine p_a (h:=h0c ?_))))
  exact h1p (t + 1, i, m1) ⟨⟨by simp; omega, by simp; omega, hs, hp2⟩, by simp; omega⟩ (by (focus (repeat (first | exact Sub.nil | refine Sub.cons rfl ?_)))) (fun _ H => H)
 repeat' (first | refine h0u ?_ | refine h0g ?_ | refine h0p ?_ | (refine gR 19 (q_m ?_) <;> (try refine q_e (q_b (r:=by apply h0z; exact c_9; (focus (refine IntWalk.i64_in _ ?_; omega)))) ?_) <;> (try refine p_a (h:=h0c ?_))))
 refine h3b (γ:=Nat × List Int) (fun g => (i + 1 ≤ g.1 ∧ g.1 ≤ c) ∧ Sw a c l g.2 ∧ Srt a i g.2) (fun g => c - g.1) (fun g => [(10, .int .i64 (g.1 : Nat))]) [(0, _), (1, _), (2, _), (7, _), (8, _)] (fun g => h5l b g.2 r :: L) (i + 1, m1) (.cons rfl (.cons rfl (.cons rfl (.cons rfl (.cons rfl .nil))))) ⟨by simp; omega, hs, hp2⟩ (by (focus (repeat (first | exact Sub.nil | refine Sub.cons rfl ?_)))) (fun _ H => H) ?_
 clear hs hp2 m1
 rintro ⟨j, m⟩ ⟨hj : i + 1 ≤ j ∧ j ≤ c, hs : Sw a c l m, hp2 : Srt a i m⟩
 have hm := hs.len
 dsimp only [List.cons_append, List.nil_append]
 by_cases hj1 : j < c
 ·have g1 := h2y (l:=m) (r:=r) (k:=j) (by omega)
  have g2 := h4x (l:=m) (r:=r) (i:=(j : Int) - 1) (j - 1) (by omega) (by omega)
  have g3 := h4a (l:=m) (r:=r)
  repeat' (first | refine h0u ?_ | refine h0g ?_ | refine h0q ?_ | refine h1n ?_ | refine h0v ?_ | refine h0y ?_ | refine h1m ?_ | refine h2s rfl ?_ | refine h0p ?_ | refine h1c ?_ | refine h2a ?_ | refine h0s rfl ?_ | (refine gR 20 (p_m (h:=p_m (h:=p_e (q_b (r:=by exact h1l q_o)) (h:=h0c ?_))))) | ((refine h1u (id:=22) (m:=11) (by kernel_rfl) rfl (q_u 0 (x:=by exact h0b rfl) (h:=q_u 1 (x:=by exact h0b rfl) (h:=q_u 2 (x:=by apply h0d; exact rfl; exact rfl; (focus (apply h0x Try.underlying47 h2l; omega; omega; exact c_2))) (h:=q_u 3 (x:=by apply h0f (t:=33); exact rfl; exact fd0; kernel_rfl; kernel_rfl; (with_reducible assumption)) (h:=q_u 4 (x:=by exact h0b rfl) (h:=q_u 5 (x:=by exact h0b rfl) (h:=?_)))))))) <;> (try refine q_u 6 (x:=by exact q_b (r:=by apply h2z; exact c_9; (focus (refine IntWalk.i64_in _ ?_; omega)))) (h:=?_)) <;> (try refine q_u 7 (x:=by apply h0d; exact rfl; exact rfl; (focus (apply h0x Try.underlying47 h2l; omega; omega; exact c_2))) (h:=q_u 8 (x:=by apply h0f (t:=33); exact rfl; exact fd0; kernel_rfl; kernel_rfl; (with_reducible assumption)) (h:=?_))) <;> (try refine q_r 9 ?_; (refine h0w (F:=82) (by kernel_rfl) rfl rfl (h5o _ _) ?_; rintro _ _ ⟨rfl, rfl⟩); refine h2e (fun _ H => H) ?_) <;> (try refine q_u 10 (x:=by apply E_un; exact rfl; exact h3v) (h:=h1o (by kernel_rfl) ?_))) | ((apply h2m (i:=0) (id:=23) (m:=18); exact c_15; kernel_rfl; exact rfl) <;> (try refine q_t 0 (e:=h1b) (x:=by exact h0b rfl) (h:=q_t 1 (e:=h1b) (x:=by exact h0b rfl) (h:=q_t 2 (e:=h1b) (x:=by exact h0b rfl) (h:=q_t 3 (e:=h1b) (x:=by exact h0b rfl) (h:=?_))))) <;> (try refine q_t 4 (e:=h1b) (x:=by exact q_b (r:=by apply h2z; exact c_9; (focus (refine IntWalk.i64_in _ ?_; omega)))) (h:=?_)) <;> (try refine q_t 5 (e:=h1b) (x:=by exact h0b rfl) (h:=q_t 6 (e:=h1b) (x:=by exact h0b rfl) (h:=?_))) <;> (try refine q_t 7 (e:=h1b) (x:=by exact q_b (r:=by apply h2z; exact c_9; (focus (refine IntWalk.i64_in _ ?_; omega)))) (h:=?_)) <;> (try refine q_t 8 (e:=h1b) (x:=by apply h0d; exact rfl; exact rfl; (focus (apply h0x Try.underlying47 h2l; omega; omega; exact c_2))) (h:=q_t 10 (e:=h1b) (x:=by exact h0b rfl) (h:=q_t 11 (e:=h1b) (x:=by exact h0b rfl) (h:=q_t 12 (e:=h1b) (x:=by apply h0d; exact rfl; exact rfl; (focus (apply h0x Try.underlying47 h2l; omega; omega; exact c_2))) (h:=?_))))) <;> (try refine h4c (i:=9) (j:=13) rfl rfl (by kernel_rfl) ?_ ?_ <;> (first | (refine TagA.mk ?_; (((refine q_k (by apply h0f (t:=33); exact rfl; exact fd0; kernel_rfl; kernel_rfl; (with_reducible assumption)) ?_); refine h2e h1b ?_) <;> (try refine q_r 13 ?_; (refine q_k (by apply h0f (t:=33); exact rfl; exact fd0; kernel_rfl; kernel_rfl; (with_reducible assumption)) ?_); refine h2e h1b ?_) <;> (try refine q_t 14 (e:=h1b) (x:=by apply h0d; exact rfl; exact rfl; (focus (apply h0x Try.underlying47 h2l; omega; omega; exact c_2))) (h:=?_)) <;> (try refine q_r 15 ?_; (apply h0l (t:=33); exact rfl; exact rfl; exact fd0; exact rfl; exact rfl; kernel_rfl; (focus (omega)); exact h3o; (try simp only [List.set_cons_succ]); (try simp only [List.set_cons_zero])); refine h2e h1b ?_) <;> (try refine q_t 16 (e:=h1b) (x:=by apply h0d; exact rfl; exact rfl; (focus (apply h0x Try.underlying47 h2l; omega; omega; exact c_2))) (h:=?_)) <;> (try refine q_r 17 ?_; (apply h0l (t:=33); exact rfl; exact rfl; exact fd0; exact rfl; exact rfl; kernel_rfl; (focus (simp; omega)); exact h3o; (try simp only [List.set_cons_succ]); (try simp only [List.set_cons_zero])); refine h2e h1b ?_) <;> (try refine h1o (by kernel_rfl) ?_))) | (refine TagB.mk ?_; (((refine q_k (by apply h0f (t:=33); exact rfl; exact fd0; kernel_rfl; kernel_rfl; (with_reducible assumption)) ?_); refine h2e h1b ?_) <;> (try refine q_r 9 ?_; (refine q_k (by apply h0f (t:=33); exact rfl; exact fd0; kernel_rfl; kernel_rfl; (with_reducible assumption)) ?_); refine h2e h1b ?_) <;> (try refine q_t 14 (e:=h1b) (x:=by apply h0d; exact rfl; exact rfl; (focus (apply h0x Try.underlying47 h2l; omega; omega; exact c_2))) (h:=?_)) <;> (try refine q_r 15 ?_; (apply h0l (t:=33); exact rfl; exact rfl; exact fd0; exact rfl; exact rfl; kernel_rfl; (focus (omega)); exact h3o; (try simp only [List.set_cons_succ]); (try simp only [List.set_cons_zero])); refine h2e h1b ?_) <;> (try refine q_t 16 (e:=h1b) (x:=by apply h0d; exact rfl; exact rfl; (focus (apply h0x Try.underlying47 h2l; omega; omega; exact c_2))) (h:=?_)) <;> (try refine q_r 17 ?_; (apply h0l (t:=33); exact rfl; exact rfl; exact fd0; exact rfl; exact rfl; kernel_rfl; (focus (simp; omega)); exact h3o; (try simp only [List.set_cons_succ]); (try simp only [List.set_cons_zero])); refine h2e h1b ?_) <;> (try refine h1o (by kernel_rfl) ?_)))))) | (refine gR 21 (q_m ?_) <;> (try refine q_e (q_b (r:=by apply h0z; exact c_9; (focus (refine IntWalk.i64_in _ ?_; omega)))) ?_) <;> (try refine p_a (h:=h0c ?_))) | (refine gR 4 (q_m ?_) <;> (try refine q_e (q_b (r:=by apply h0z; exact c_9; (focus (refine IntWalk.i64_in _ ?_; omega)))) ?_) <;> (try refine p_a (h:=h0c ?_))) | ((refine h1r rfl (fun hc => ?_) (fun hc => ?_)) <;> (try subst hc)))
  all_goals first
   | (rw [h4o j (j - 1) (by omega) (by omega) rfl (by omega)]; exact h1p (j + 1, swp m j (j - 1)) ⟨⟨by simp; omega, hs.trans (.swp (by omega) (by omega) (by omega)), hp2.same fun k k1 k2 => by rw [gv_swp (by omega) (by omega), if_neg (by omega), if_neg (by omega)]⟩, by simp; omega⟩ (by (focus (repeat (first | exact Sub.nil | refine Sub.cons rfl ?_)))) (fun _ H => H))
   | exact h1p (t + 1, i, m) ⟨⟨by simp; omega, by simp; omega, hs, hp2⟩, by simp; omega⟩ (by (focus (repeat (first | exact Sub.nil | refine Sub.cons rfl ?_)))) (fun _ H => H)
 ·repeat' (first | refine h0u ?_ | refine h0g ?_ | refine h0q ?_ | refine h1n ?_ | refine h0v ?_ | refine h0y ?_ | refine h1m ?_ | refine h2a ?_ | refine h0n rfl ?_ | (refine gR 20 (p_m (h:=p_m (h:=p_e (q_b (r:=by exact h1k q_o)) (h:=h0c ?_))))) | (refine gR 4 (q_m ?_) <;> (try refine q_e (q_b (r:=by apply h0z; exact c_9; (focus (refine IntWalk.i64_in _ ?_; omega)))) ?_) <;> (try refine p_a (h:=h0c ?_))))
  exact h1p (t + 1, i, m) ⟨⟨by simp; omega, by simp; omega, hs, hp2⟩, by simp; omega⟩ (by (focus (repeat (first | exact Sub.nil | refine Sub.cons rfl ?_)))) (fun _ H => H)
set_option maxHeartbeats 2000000 in
theorem pdqT_c {S w0 L} (b n cap : Nat) (r : List Value) (hn : n ≤ 255) : ∀ (k : Nat) (l : List Int) (x y z : Int) (a c lim : Nat), c - a ≤ k → x = (a : Nat) → y = (c : Nat) → z = (lim : Nat) → l.length = n → c ≤ n → a ≤ c → lim ≤ 64 → (0 < a → ∀ q, a ≤ q → q < c → gv l (a - 1) ≤ gv l q) →
  Fn Try.prog 55 #[.slice (some ⟨b, 0, none⟩) n cap, .int .i64 x, .int .i64 y, .int .i64 z] S w0 (h5l b l r :: L) fun v L' => v = .tuple #[] ∧ ∃ l', Sw a c l l' ∧ Srt a c l' ∧ h5l b l' r :: L = L' := by
 intro k
 induction k using Nat.strongRecOn with
 | _ k ih =>
 have ih' := Lib.hid ih
 clear ih
 intro l x y z a c lim hk hx hy hz hl hcn hac hlim hbn
 subst hx hy hz
 have hst := Lib.hid (Pdq.start hac (by omega) hbn)
 clear hbn
 refine Fn4 Try.func55 Try.ntmps55 rfl rfl ?_
 repeat' (first | refine h0u ?_ | refine h0g ?_ | refine h0p ?_ | (refine gR 0 (p_a (h:=h0c ?_))) | (refine gR 1 (p_a (h:=h0c ?_))))
 refine h3b (γ:=Nat × Nat × Nat × Bool × Bool × List Int) (fun g => Pdq a c l g.1 g.2.1 g.2.2.2.2.2 ∧ g.2.2.1 ≤ 64) (fun g => g.2.1 - g.1) (fun g => [(1, .int .i64 (g.1 : Nat)), (2, .int .i64 (g.2.1 : Nat)), (3, .int .i64 (g.2.2.1 : Nat)), (8, .bool g.2.2.2.1), (9, .bool g.2.2.2.2.1)]) [(0, _)] (fun g => h5l b g.2.2.2.2.2 r :: L) (a, c, lim, true, true, l) (.cons rfl .nil) ⟨hst.out, hlim⟩ (by (focus (repeat (first | exact Sub.nil | refine Sub.cons rfl ?_)))) (fun _ H => H) ?_
 clear hst hlim
 clear lim
 rintro ⟨a1, c1, lim, wb, wp, m⟩ ⟨hp : Pdq a c l a1 c1 m, hlim : lim ≤ 64⟩
 obtain ⟨ha1, ha2, ha3⟩ := hp.ha
 have hm := hp.sw.len
 have hp' := Lib.hid hp
 clear hp
 dsimp only [List.cons_append, List.nil_append]
 by_cases h12 : c1 - a1 ≤ 12
 ·repeat' (first | refine h0u ?_ | refine h0g ?_ | refine h2p ?_ | refine h1v ?_ | refine h2j ?_ | refine h0p ?_ | refine h2w ?_ | refine h0s rfl ?_ | (refine gR 2 (p_m (h:=q_m ?_)) <;> (try refine q_e (q_b (r:=by apply h2z; exact c_9; (focus (refine IntWalk.i64_in _ ?_; omega)))) ?_) <;> (try refine p_a (h:=h0c ?_))) | (refine gR 3 (p_m (h:=p_e (q_b (r:=by exact rb_leq_t q_o)) (h:=h0c ?_)))) | (refine gR 4 (p_m (h:=p_m (h:=q_m ?_))) <;> (try refine h0a ?_; (refine h0w (F:=76) (by kernel_rfl) rfl rfl (insT_c b n cap r m a1 c1 (by omega) (by omega) hn (by omega)) ?_; rintro _ _ ⟨rfl, m', k1, k2, rfl⟩)) <;> (try refine h0c ?_)))
  have hf := hp'.out.fin k1 k2
  (first | refine h2h Try.results55 .nil ?_ | refine h4j Try.results55 .nil ?_)
  exact ⟨_, ⟨rfl, m', hf.1, hf.2, rfl⟩, fun _ H => H⟩
 by_cases hl0 : lim = 0
 ·repeat' (first | refine h0u ?_ | refine h0g ?_ | refine h2p ?_ | refine h1v ?_ | refine h2j ?_ | refine h0p ?_ | refine h1c ?_ | refine h2w ?_ | refine h0s rfl ?_ | refine h0n rfl ?_ | (refine gR 2 (p_m (h:=q_m ?_)) <;> (try refine q_e (q_b (r:=by apply h2z; exact c_9; (focus (refine IntWalk.i64_in _ ?_; omega)))) ?_) <;> (try refine p_a (h:=h0c ?_))) | (refine gR 3 (p_m (h:=p_e (q_b (r:=by exact rb_leq_f q_o)) (h:=h0c ?_)))) | (refine gR 5 (q_m ?_) <;> (try refine q_e (by exact q_b (r:=by refine h0j ?_; first | rfl | (with_reducible assumption) | (decide; done) | omega)) ?_) <;> (try refine h0c ?_)) | (refine gR 6 (p_m (h:=p_m (h:=q_m ?_))) <;> (try refine h0a ?_; (refine h0w (F:=77) (by kernel_rfl) rfl rfl (heapT_c b n cap r m _ _ a1 c1 rfl rfl (by omega) hn (by omega) (by omega)) ?_; rintro _ _ ⟨rfl, m', k1, k2, rfl⟩)) <;> (try refine h0c ?_)))
  have hf := hp'.out.fin k1 k2
  (first | refine h2h Try.results55 .nil ?_ | refine h4j Try.results55 .nil ?_)
  exact ⟨_, ⟨rfl, m', hf.1, hf.2, rfl⟩, fun _ H => H⟩
 repeat' (first | (refine G_markc (t:=35) ?_) | refine h0u ?_ | refine h0g ?_ | refine h0p ?_ | refine h1c ?_ | refine h0n rfl ?_ | (refine gR 2 (p_m (h:=q_m ?_)) <;> (try refine q_e (q_b (r:=by apply h2z; exact c_9; (focus (refine IntWalk.i64_in _ ?_; omega)))) ?_) <;> (try refine p_a (h:=h0c ?_))) | (refine gR 3 (p_m (h:=p_e (q_b (r:=by exact rb_leq_f q_o)) (h:=h0c ?_)))) | (refine gR 5 (p_m (h:=p_e (q_b (r:=by exact h0m q_o)) (h:=h0c ?_)))) | (refine gR 7 (p_m (h:=p_e (by apply E_un; exact rfl; exact ru_not) (h:=h0c ?_)))))
 refine ⟨?_⟩
 refine h3x (γ:=Nat × List Int) (fun g => g.1 ≤ 64 ∧ Sw a1 c1 m g.2) (fun g => [(3, .int .i64 (g.1 : Nat))]) [(0, _), (1, _), (2, _), (8, _), (9, _), (10, _)] (fun g => h5l b g.2 r :: L) (.cons rfl (.cons rfl (.cons rfl (.cons rfl (.cons rfl (.cons rfl .nil)))))) ?_ ?_
 ·cases wb
  ·repeat' (first | refine h0u ?_ | refine h0g ?_ | refine h0q ?_ | refine h0s rfl ?_ | (refine gR 8 (p_m (h:=p_m (h:=q_m ?_))) <;> (try refine h0a ?_; (refine h0w (F:=78) (by kernel_rfl) rfl rfl (brkT_c b n cap r m _ _ a1 c1 rfl rfl (by omega) hn (by omega) (by omega)) ?_; rintro _ _ ⟨rfl, m', k1, rfl⟩)) <;> (try refine h0c ?_)) | (refine gR 9 (q_m ?_) <;> (try refine q_e (q_b (r:=by apply h2z; exact c_9; (focus (refine IntWalk.i64_in _ ?_; omega)))) ?_) <;> (try refine p_a (h:=h0c ?_))))
   exact h1p (lim - 1, m') ⟨by simp; omega, k1⟩ (by dsimp only; (focus (repeat (first | exact Sub.nil | refine Sub.cons rfl ?_ | (refine Sub.cons (congrArg some ?_) ?_; (focus go_num)))))) (fun _ H => H)
  ·repeat' (first | refine h0q ?_ | refine h1c ?_ | refine h0n rfl ?_)
   exact h1p (lim, m) ⟨hlim, .refl _ _ _⟩ (by (focus (repeat (first | exact Sub.nil | refine Sub.cons rfl ?_)))) (fun _ H => H)
 clear hl0 hlim
 clear lim
 rintro ⟨lim, m1⟩ ⟨hlim : lim ≤ 64, hs : Sw a1 c1 m m1⟩
 have hp := hp'.out.turn hs
 replace hm := hp.sw.len
 clear hp' hs
 clear m
 have hp' := Lib.hid hp
 clear hp
 dsimp only [List.cons_append, List.nil_append]
 repeat' (first | (refine G_markc (t:=50) ?_) | refine h0u ?_ | refine h0g ?_ | (refine gR 10 (p_m (h:=p_m (h:=q_m ?_))) <;> (try refine h0a ?_; (refine h0w (F:=79) (by kernel_rfl) rfl rfl (pivT_c b n cap r m1 _ _ a1 c1 rfl rfl (by omega) hn (by omega) (by omega)) ?_; rintro _ _ ⟨p, h, rfl, hpp, hh, rfl⟩)) <;> (try refine p_m (h:=p_x (h:=p_x (h:=p_a (h:=p_a (h:=h0c ?_))))))) | (refine gR 11 (p_m (h:=p_e (q_b (r:=by exact h1a)) (h:=h0c ?_)))))
 refine ⟨?_⟩
 refine h3x (γ:=Nat × Nat × List Int) (fun g => (a1 ≤ g.1 ∧ g.1 < c1) ∧ g.2.1 ≤ 2 ∧ Sw a1 c1 m1 g.2.2) (fun g => [(11, .int .i64 (g.1 : Nat)), (12, .int .i64 (g.2.1 : Nat))]) [(0, _), (1, _), (2, _), (3, _), (8, _), (9, _), (10, _)] (fun g => h5l b g.2.2 r :: L) (.cons rfl (.cons rfl (.cons rfl (.cons rfl (.cons rfl (.cons rfl (.cons rfl .nil))))))) ?_ ?_
 ·refine h1x rfl (fun hc => ?_) (fun hc => ?_)
  ·repeat' (first | refine h0u ?_ | refine h0g ?_ | refine h0q ?_ | (refine gR 12 (p_m (h:=p_m (h:=q_m ?_))) <;> (try refine h0a ?_; (refine h0w (F:=80) (by kernel_rfl) rfl rfl (revT_c b n cap r m1 _ _ a1 c1 rfl rfl (by omega) hn (by omega) (by omega)) ?_; rintro _ _ ⟨rfl, m', k1, rfl⟩)) <;> (try refine h0c ?_)) | (refine gR 13 (q_m ?_) <;> (try refine q_e (q_b (r:=by apply h2z; exact c_9; (focus (refine IntWalk.i64_in _ ?_; omega)))) ?_) <;> (try refine p_m (h:=q_m ?_)) <;> (try refine q_e (q_b (r:=by apply h2z; exact c_9; (focus (refine IntWalk.i64_in _ ?_; omega)))) ?_) <;> (try refine q_e (q_b (r:=by apply h2z; exact c_9; (focus (refine IntWalk.i64_in _ ?_; omega)))) ?_) <;> (try refine p_a (h:=h0c ?_))) | (refine gR 14 (p_a (h:=h0c ?_))))
   exact h1p ((c1 - 1) - (p - a1), 1, m') ⟨by simp; omega, by simp, k1⟩ (by dsimp only; (focus (repeat (first | exact Sub.nil | refine Sub.cons rfl ?_ | (refine Sub.cons (congrArg some ?_) ?_; (focus go_num)))))) (fun _ H => H)
  ·repeat' (first | refine h0q ?_ | refine h1c ?_)
   exact h1p (p, h, m1) ⟨hpp, hh, .refl _ _ _⟩ (by (focus (repeat (first | exact Sub.nil | refine Sub.cons rfl ?_)))) (fun _ H => H)
 clear hpp hh
 clear p h
 rintro ⟨p, h, m2⟩ ⟨hpp : a1 ≤ p ∧ p < c1, hh : h ≤ 2, hs : Sw a1 c1 m1 m2⟩
 have hp := hp'.out.turn hs
 replace hm := hp.sw.len
 clear hp' hs
 clear m1
 have hp' := Lib.hid hp
 clear hp
 dsimp only [List.cons_append, List.nil_append]
 repeat' (first | (refine h3s (id:=15) ?_) | refine h0u ?_)
 refine ⟨?_⟩
 refine h3x (γ:=Bool) (fun _ => True) (fun g => [(68, .bool g)]) [(0, _), (1, _), (2, _), (3, _), (8, _), (9, _), (10, _), (11, _)] (fun _ => h5l b m2 r :: L) (.cons rfl (.cons rfl (.cons rfl (.cons rfl (.cons rfl (.cons rfl (.cons rfl (.cons rfl .nil)))))))) ?_ ?_
 ·cases wb <;> cases wp
  all_goals repeat' (first | refine h0q ?_ | (refine gR 15 (p_m (h:=q_m ?_)) <;> (try refine h0a ?_; (first | refine h2x rfl rfl rfl rfl ?_ | (refine h1y rfl rfl rfl ?_; (refine q_k (h0b rfl) ?_)))) <;> (try refine p_p (h:=q_m ?_)) <;> (try refine h0a ?_; (first | refine h2x rfl rfl rfl rfl ?_ | (refine h1y rfl rfl rfl ?_; (refine q_k (h0b rfl) ?_)))) <;> (try refine h0a ?_; (first | refine h2x rfl rfl rfl rfl ?_ | (refine h1y rfl rfl rfl ?_; (refine q_k (q_b (r:=by exact h1a)) ?_)))) <;> (try refine p_p (h:=h0c ?_))))
  all_goals first
   | (refine h1p false trivial ?_ (fun _ H => H); (focus (repeat (first | exact Sub.nil | refine Sub.cons rfl ?_))); done)
   | (refine h1p true trivial ?_ (fun _ H => H); (focus (repeat fail)); done)
   | (refine h1p (decide ((h : Int) = 1)) trivial ?_ (fun _ H => H); (focus (repeat (first | exact Sub.nil | refine Sub.cons rfl ?_))); done)
 rintro q -
 dsimp only [List.cons_append, List.nil_append]
 repeat' (refine G_markc (t:=68) ?_)
 refine ⟨?_⟩
 refine h3x (γ:=List Int) (fun m => Sw a1 c1 m2 m) (fun _ => []) [(0, _), (1, _), (2, _), (3, _), (8, _), (9, _), (10, _), (11, _)] (fun m => h5l b m r :: L) (.cons rfl (.cons rfl (.cons rfl (.cons rfl (.cons rfl (.cons rfl (.cons rfl (.cons rfl .nil)))))))) ?_ ?_
 ·cases q
  ·repeat' (first | refine h0q ?_ | refine h1c ?_ | refine h0n rfl ?_)
   exact h1p m2 (.refl _ _ _) (by (focus (repeat (first | exact Sub.nil | refine Sub.cons rfl ?_)))) (fun _ H => H)
  ·repeat' (first | refine h0u ?_ | refine h0g ?_ | refine h0q ?_ | refine h2p ?_ | refine h2j ?_ | refine h1c ?_ | refine h2w ?_ | refine h0s rfl ?_ | (refine gR 16 (p_m (h:=p_m (h:=q_m ?_))) <;> (try refine h0a ?_; (refine h0w (F:=81) (by kernel_rfl) rfl rfl (tryT_c b n cap r m2 _ _ a1 c1 rfl rfl (by omega) hn (by omega) (by omega) hp'.out.bnd) ?_; rintro _ _ ⟨q, rfl, m', k1, k2, rfl⟩)) <;> (try refine h0c ?_)) | ((refine h3i rfl (fun hc => ?_) (fun hc => ?_)) <;> (try subst hc)))
   ·have hf := hp'.out.fin k1 (k2 rfl)
    (first | refine h2h Try.results55 .nil ?_ | refine h4j Try.results55 .nil ?_)
    exact ⟨_, ⟨rfl, m', hf.1, hf.2, rfl⟩, fun _ H => H⟩
   ·exact h1p m' k1 (by (focus (repeat (first | exact Sub.nil | refine Sub.cons rfl ?_)))) (fun _ H => H)
 clear hh
 clear h q
 rintro m3 (hs : Sw a1 c1 m2 m3)
 have hp := hp'.out.turn hs
 replace hm := hp.sw.len
 clear hp' hs
 clear m2
 have hp' := Lib.hid hp
 clear hp
 dsimp only [List.cons_append, List.nil_append]
 repeat' (first | (refine h3s (id:=17) ?_) | refine h0u ?_)
 refine ⟨?_⟩
 refine h3x (γ:=Bool) (fun g => g = true → 0 < a1 ∧ gv m3 p ≤ gv m3 (a1 - 1)) (fun g => [(87, .bool g)]) [(0, _), (1, _), (2, _), (3, _), (8, _), (9, _), (10, _), (11, _)] (fun _ => h5l b m3 r :: L) (.cons rfl (.cons rfl (.cons rfl (.cons rfl (.cons rfl (.cons rfl (.cons rfl (.cons rfl .nil)))))))) ?_ ?_
 ·have g1 := h2y (l:=m3) (r:=r) (k:=p) (by omega)
  have g3 := h4a (l:=m3) (r:=r)
  by_cases h0 : 0 < a1
  ·have g2 := h4x (l:=m3) (r:=r) (i:=(a1 : Int) - 1) (a1 - 1) (by omega) (by omega)
   repeat' (first | refine h0q ?_ | ((refine h1u (id:=17) (m:=15) (by kernel_rfl) rfl (q_u 0 (x:=by exact h0b rfl) (h:=q_u 1 (x:=by exact q_b (r:=by exact h4m q_o)) (h:=q_u 2 (x:=by exact h0b rfl) (h:=q_T 3 (e:=(fun _ H => H)) (x:=by exact h0b rfl) (h:=q_T 4 (e:=(fun _ H => H)) (x:=by exact h0b rfl) (h:=?_))))))) <;> (try refine q_T 5 (e:=(fun _ H => H)) (x:=by exact q_b (r:=by apply h2z; exact c_9; (focus (refine IntWalk.i64_in _ ?_; omega)))) (h:=?_)) <;> (try refine q_T 6 (e:=(fun _ H => H)) (x:=by apply h0d; exact rfl; exact rfl; (focus (apply h0x Try.underlying47 h2l; omega; omega; exact c_2))) (h:=q_T 7 (e:=(fun _ H => H)) (x:=by apply h0f (t:=33); exact rfl; exact fd0; kernel_rfl; kernel_rfl; (with_reducible assumption)) (h:=q_T 8 (e:=(fun _ H => H)) (x:=by exact h0b rfl) (h:=q_T 9 (e:=(fun _ H => H)) (x:=by exact h0b rfl) (h:=q_T 10 (e:=(fun _ H => H)) (x:=by apply h0d; exact rfl; exact rfl; (focus (apply h0x Try.underlying47 h2l; omega; omega; exact c_2))) (h:=q_T 11 (e:=(fun _ H => H)) (x:=by apply h0f (t:=33); exact rfl; exact fd0; kernel_rfl; kernel_rfl; (with_reducible assumption)) (h:=?_))))))) <;> (try refine q_r 12 ?_; (refine h1y rfl rfl rfl ?_; (refine h0w (F:=82) (by kernel_rfl) rfl rfl (h5o _ _) ?_; rintro _ _ ⟨rfl, rfl⟩)); refine h2e (fun _ H => H) ?_) <;> (try refine q_T 13 (e:=(fun _ H => H)) (x:=by apply E_un; exact rfl; exact h3v) (h:=q_u 14 (x:=by exact h3p rfl rfl) (h:=h1o (by kernel_rfl) ?_)))))
   exact h1p (decide ¬ gv m3 (a1 - 1) < gv m3 p) (fun h => ⟨h0, by have := of_decide_eq_true h; omega⟩) (by (focus (repeat (first | exact Sub.nil | refine Sub.cons rfl ?_)))) (fun _ H => H)
  ·repeat' (first | refine h0q ?_ | ((refine h1u (id:=17) (m:=15) (by kernel_rfl) rfl (q_u 0 (x:=by exact h0b rfl) (h:=q_u 1 (x:=by exact q_b (r:=by exact h4n q_o)) (h:=q_u 2 (x:=by exact h0b rfl) (h:=?_))))) <;> (try apply h0o (i:=3); exact rfl; kernel_rfl; kernel_rfl; kernel_rfl; exact rfl; (exact fun _ H => H); exact h3d rfl rfl rfl) <;> (try apply h0o (i:=4); exact rfl; kernel_rfl; kernel_rfl; kernel_rfl; exact rfl; (exact fun _ H => H); exact h3d rfl rfl rfl) <;> (try apply h0o (i:=5); exact rfl; kernel_rfl; kernel_rfl; kernel_rfl; exact rfl; (exact fun _ H => H); exact h3d rfl rfl rfl) <;> (try apply h0o (i:=6); exact rfl; kernel_rfl; kernel_rfl; kernel_rfl; exact rfl; (exact fun _ H => H); exact h3d rfl rfl rfl) <;> (try apply h0o (i:=7); exact rfl; kernel_rfl; kernel_rfl; kernel_rfl; exact rfl; (exact fun _ H => H); exact h3d rfl rfl rfl) <;> (try apply h0o (i:=8); exact rfl; kernel_rfl; kernel_rfl; kernel_rfl; exact rfl; (exact fun _ H => H); exact h3d rfl rfl rfl) <;> (try apply h0o (i:=9); exact rfl; kernel_rfl; kernel_rfl; kernel_rfl; exact rfl; (exact fun _ H => H); exact h3d rfl rfl rfl) <;> (try apply h0o (i:=10); exact rfl; kernel_rfl; kernel_rfl; kernel_rfl; exact rfl; (exact fun _ H => H); exact h3d rfl rfl rfl) <;> (try apply h0o (i:=11); exact rfl; kernel_rfl; kernel_rfl; kernel_rfl; exact rfl; (exact fun _ H => H); exact h3d rfl rfl rfl) <;> (try refine q_r 12 ?_; (refine h2x rfl rfl rfl rfl ?_); refine h2e (fun _ H => H) ?_) <;> (try apply h0o (i:=13); exact rfl; kernel_rfl; kernel_rfl; kernel_rfl; exact rfl; (exact fun _ H => H); exact h3d rfl rfl rfl) <;> (try refine q_u 14 (x:=by exact h3p rfl rfl) (h:=h1o (by kernel_rfl) ?_))))
   exact h1p false (fun h => by cases h) (by (focus (repeat (first | exact Sub.nil | refine Sub.cons rfl ?_)))) (fun _ H => H)
 rintro q hq
 dsimp only [List.cons_append, List.nil_append]
 cases q
 rotate_left
 ·obtain ⟨h0, hq1⟩ := hq rfl
  have hb := hp'.out.bnd h0
  repeat' (first | refine h0u ?_ | refine h0g ?_ | refine h0q ?_ | refine h0v ?_ | refine h1m ?_ | refine h2a ?_ | refine h0s rfl ?_ | (refine gR 18 (p_m (h:=p_m (h:=p_m (h:=q_m ?_)))) <;> (try refine h0a ?_; (refine h0w (F:=83) (by kernel_rfl) rfl rfl (parqT_c b n cap r m3 _ _ _ a1 c1 p rfl rfl rfl (by omega) hn (by omega) hpp (fun q q1 q2 => Int.le_trans hq1 (hb q q1 q2))) ?_; rintro _ _ ⟨mid, j, rfl, hj, hmid, m', k1, k2, k3, rfl⟩)) <;> (try refine p_a (h:=h0c ?_))) | (refine gR 19 (p_m (h:=p_a (h:=h0c ?_)))))
  exact h1p (mid, c1, lim, wb, wp, m') ⟨⟨hp'.out.eq k1 k2 hj (by omega) k3, hlim⟩, by simp; omega⟩ (by dsimp only; (focus (repeat (first | exact Sub.nil | refine Sub.cons rfl ?_)))) (fun _ H => H)
 clear hq
 repeat' (first | (refine G_markc (t:=113) ?_) | refine h0u ?_ | refine h0g ?_ | refine h1c ?_ | refine h0n rfl ?_ | (refine gR 20 (p_m (h:=p_m (h:=p_m (h:=q_m ?_)))) <;> (try refine h0a ?_; (refine h0w (F:=84) (by kernel_rfl) rfl rfl (partT_c b n cap r m3 _ _ _ a1 c1 p rfl rfl rfl (by omega) hn (by omega) hpp) ?_; rintro _ _ ⟨mid, q, rfl, hmid, m', k1, k2, rfl⟩)) <;> (try refine p_m (h:=p_x (h:=p_x (h:=p_a (h:=p_a (h:=h0c ?_))))))) | (refine gR 21 (p_m (h:=p_a (h:=h0c ?_)))) | (refine gR 22 (p_m (h:=q_m ?_)) <;> (try refine q_e (q_b (r:=by apply h2z; exact c_9; (focus (refine IntWalk.i64_in _ ?_; omega)))) ?_) <;> (try refine p_m (h:=q_m ?_)) <;> (try refine q_e (q_b (r:=by apply h2z; exact c_9; (focus (refine IntWalk.i64_in _ ?_; omega)))) ?_) <;> (try refine p_a (h:=p_a (h:=h0c ?_)))) | (refine gR 23 (q_m ?_) <;> (try refine q_e (q_b (r:=by apply rb_quo; omega; omega; exact c_9; (focus (refine IntWalk.i64_in _ ?_; omega)))) ?_) <;> (try refine p_a (h:=h0c ?_))) | (refine gR 24 (p_m (h:=p_m (h:=p_e (q_b (r:=by exact h3l)) (h:=h0c ?_))))))
 refine ⟨?_⟩
 have hp := hp'.out.turn k1
 replace hm := hp.sw.len
 clear hp' k1
 clear m3
 have hp' := Lib.hid hp
 have k2' := Lib.hid k2
 clear hp k2
 have hbl := Lib.hid hp'.out.bnd
 refine h1x rfl (fun hc => ?_) (fun hc => ?_)
 ·repeat' (first | refine h0u ?_ | refine h0g ?_ | refine h0q ?_ | refine h0y ?_ | (refine gR 25 (p_m (h:=p_m (h:=p_e (q_b (r:=by exact rb_geq)) (h:=p_a (h:=h0c ?_)))))) | (refine gR 26 (p_m (h:=p_m (h:=p_m (h:=q_m ?_)))) <;> (try refine h0a ?_; (refine h0w (F:=55) (by kernel_rfl) rfl rfl (ih'.out (mid - a1) (by omega) m' _ _ _ a1 mid lim (by omega) rfl rfl rfl (by omega) (by omega) (by omega) hlim (fun h q q1 q2 => hbl.out h q q1 (by omega))) ?_; rintro _ _ ⟨rfl, m'', j1, j2, rfl⟩)) <;> (try refine h0c ?_)) | (refine gR 27 (q_m ?_) <;> (try refine q_e (q_b (r:=by apply h0z; exact c_9; (focus (refine IntWalk.i64_in _ ?_; omega)))) ?_) <;> (try refine p_a (h:=h0c ?_))))
  exact h1p (mid + 1, c1, lim, decide (((c1 : Int) - (a1 : Int)) / 8 ≤ (mid : Int) - (a1 : Int)), q, m'') ⟨⟨hp'.out.rest k2'.out hmid j1 j2, hlim⟩, by simp; omega⟩ (by dsimp only; (focus (repeat (first | exact Sub.nil | refine Sub.cons rfl ?_)))) (fun _ H => H)
 ·repeat' (first | refine h0u ?_ | refine h0g ?_ | refine h0q ?_ | refine h0y ?_ | (refine gR 28 (p_m (h:=p_m (h:=p_e (q_b (r:=by exact rb_geq)) (h:=p_a (h:=h0c ?_)))))) | (refine gR 29 (p_m (h:=q_m ?_)) <;> (try refine q_e (q_b (r:=by apply h0z; exact c_9; (focus (refine IntWalk.i64_in _ ?_; omega)))) ?_) <;> (try refine p_m (h:=q_m ?_)) <;> (try refine h0a ?_; (refine h0w (F:=55) (by kernel_rfl) rfl rfl (ih'.out (c1 - (mid + 1)) (by omega) m' _ _ _ (mid + 1) c1 lim (by omega) (by omega) rfl rfl (by omega) (by omega) (by omega) hlim (fun _ q q1 q2 => k2'.out.hi q (by omega) q2)) ?_; rintro _ _ ⟨rfl, m'', j1, j2, rfl⟩)) <;> (try refine h0c ?_)) | (refine gR 30 (p_m (h:=p_a (h:=h0c ?_)))))
  exact h1p (a1, mid, lim, decide (((c1 : Int) - (a1 : Int)) / 8 ≤ (c1 : Int) - (mid : Int)), q, m'') ⟨⟨hp'.out.first k2'.out hmid j1 j2, hlim⟩, by simp; omega⟩ (by dsimp only; (focus (repeat (first | exact Sub.nil | refine Sub.cons rfl ?_)))) (fun _ H => H)
theorem sortT_c {S w0 L} (b n cap : Nat) (r : List Value) (l : List Int) (hn : n ≤ 255) (hl : l.length = n) :
  Fn Try.prog 34 #[.slice (some ⟨b, 0, none⟩) n cap] S w0 (h5l b l r :: L) fun v L' => v = .tuple #[] ∧ ∃ l', l'.Perm l ∧ l'.Pairwise (· ≤ ·) ∧ h5l b l' r :: L = L' := by
 have hb := (bl8_le ⟨n, by omega⟩).1
 dsimp only at hb
 refine Fn1 Try.func34 Try.ntmps34 rfl rfl ?_
 repeat' (first | refine h0u ?_ | refine h0g ?_ | (refine gR 0 (p_m (h:=p_e (by apply h0r; exact rfl; exact (fun _ => BigFrame.builtin_len ..); apply h0k Try.underlying47; exact h4h) (h:=p_a (h:=h0c ?_))))) | (refine gR 1 (p_m (h:=p_m (h:=q_m ?_))) <;> (try refine q_e (by apply h3h; exact rfl; (focus (apply h3g Try.underlying3 Try.underlying156; first | (refine IntWalk.i64_in _ ?_; omega) | (refine IntWalk.u8_in _ ?_; omega) | (refine IntWalk.u16_in _ ?_; omega) | (refine IntWalk.u32_in _ ?_; omega) | (refine IntWalk.u64_in _ ?_; omega) | (refine IntWalk.i32_in _ ?_; omega) | exact rfl))) ?_) <;> (try refine h0a ?_; (refine h0w (F:=56) (by kernel_rfl) rfl rfl (bitLen_c _ n (by omega) (by omega)) ?_; rintro _ _ ⟨rfl, rfl⟩)) <;> (try refine h0a ?_; (refine h0w (F:=55) (by kernel_rfl) rfl rfl (pdqT_c b n cap r hn n l _ _ _ 0 n (bl8 n) (by omega) rfl rfl rfl hl (by omega) (by omega) (by omega) (fun h => by omega)) ?_; rintro _ _ ⟨rfl, m', k1, k2, rfl⟩)) <;> (try refine h0c ?_)))
 (first | refine h2h Try.results34 .nil ?_ | refine h4j Try.results34 .nil ?_)
 refine ⟨_, ⟨rfl, m', k1.perm, ?_, rfl⟩, by intro w H; refine H.sub ?_; (try simp only [zzC, zzN]); repeat (exact List.Sublist.refl _)⟩
 rw [List.pairwise_iff_getElem]
 intro i j hi hj hij
 have := k2 i j (by omega) hij (by have := k1.len; omega)
 rwa [gv_get hi, gv_get hj] at this
theorem insNT_c {S w0 L} : Fn Try.prog 76 #[.slice none 0 0, .int .i64 0, .int .i64 0] S w0 L fun v L' => v = .tuple #[] ∧ L = L' := by
 refine Fn3 Try.func76 Try.ntmps76 rfl rfl ?_
 repeat' (first | refine h0u ?_ | refine h0g ?_ | refine h0p ?_ | (refine gR 0 (q_m ?_) <;> (try refine q_e (q_b (r:=by apply h0z; exact c_9; (focus (refine IntWalk.i64_in _ ?_; omega)))) ?_) <;> (try refine p_a (h:=h0c ?_))))
 refine G_loop1 ?_
 repeat' (first | refine h0u ?_ | refine h0g ?_ | refine h1n ?_ | refine h0v ?_ | refine h1m ?_ | refine h2a ?_ | refine h0n rfl ?_ | (refine gR 1 (p_m (h:=p_m (h:=p_e (q_b (r:=by exact h1k q_o)) (h:=h0c ?_))))))
 (first | refine h2h Try.results76 .nil ?_ | refine h4j Try.results76 .nil ?_)
 exact ⟨_, ⟨rfl, rfl⟩, by intro w H; refine H.sub ?_; (try simp only [zzC, zzN]); repeat (exact List.Sublist.refl _)⟩
theorem pdqNT_c {S w0 L} (k : Int) : Fn Try.prog 55 #[.slice none 0 0, .int .i64 0, .int .i64 0, .int .i64 k] S w0 L fun v L' => v = .tuple #[] ∧ L = L' := by
 refine Fn4 Try.func55 Try.ntmps55 rfl rfl ?_
 repeat' (first | refine h0u ?_ | refine h0g ?_ | refine h0p ?_ | (refine gR 0 (p_a (h:=h0c ?_))) | (refine gR 1 (p_a (h:=h0c ?_))))
 refine G_loop1 ?_
 repeat' (first | refine h0u ?_ | refine h0g ?_ | refine h2p ?_ | refine h1v ?_ | refine h2j ?_ | refine h0p ?_ | refine h2w ?_ | refine h0s rfl ?_ | (refine gR 2 (p_m (h:=q_m ?_)) <;> (try refine q_e (q_b (r:=by apply h2z; exact c_9; (focus (refine IntWalk.i64_in _ ?_; omega)))) ?_) <;> (try refine p_a (h:=h0c ?_))) | (refine gR 3 (p_m (h:=p_e (q_b (r:=by exact rb_leq_t q_o)) (h:=h0c ?_)))) | (refine gR 4 (p_m (h:=p_m (h:=q_m ?_))) <;> (try refine h0a ?_; (refine h0w (F:=76) (by kernel_rfl) rfl rfl (insNT_c) ?_; rintro _ _ ⟨rfl, rfl⟩)) <;> (try refine h0c ?_)))
 (first | refine h2h Try.results55 .nil ?_ | refine h4j Try.results55 .nil ?_)
 exact ⟨_, ⟨rfl, rfl⟩, by intro w H; refine H.sub ?_; (try simp only [zzC, zzN]); repeat (exact List.Sublist.refl _)⟩
theorem sortNT_c {S w0 L} : Fn Try.prog 34 #[.slice none 0 0] S w0 L fun v L' => v = .tuple #[] ∧ L = L' := by
 have hb := (bl8_le ⟨0, by omega⟩).1
 dsimp only at hb
 refine Fn1 Try.func34 Try.ntmps34 rfl rfl ?_
 repeat' (first | refine h0u ?_ | refine h0g ?_ | (refine gR 0 (p_m (h:=p_e (by apply h0r; exact rfl; exact (fun _ => BigFrame.builtin_len ..); apply h0k Try.underlying47; exact h4h) (h:=p_a (h:=h0c ?_))))) | (refine gR 1 (p_m (h:=p_m (h:=q_m ?_))) <;> (try refine q_e (by apply h3h; exact rfl; (focus (apply h3g Try.underlying3 Try.underlying156; first | (refine IntWalk.i64_in _ ?_; omega) | (refine IntWalk.u8_in _ ?_; omega) | (refine IntWalk.u16_in _ ?_; omega) | (refine IntWalk.u32_in _ ?_; omega) | (refine IntWalk.u64_in _ ?_; omega) | (refine IntWalk.i32_in _ ?_; omega) | exact rfl))) ?_) <;> (try refine h0a ?_; (refine h0w (F:=56) (by kernel_rfl) rfl rfl (bitLen_c _ 0 (by omega) (by omega)) ?_; rintro _ _ ⟨rfl, rfl⟩)) <;> (try refine h0a ?_; (refine h0w (F:=55) (by kernel_rfl) rfl rfl (pdqNT_c _) ?_; rintro _ _ ⟨rfl, rfl⟩)) <;> (try refine h0c ?_)))
 (first | refine h2h Try.results34 .nil ?_ | refine h4j Try.results34 .nil ?_)
 exact ⟨_, ⟨rfl, rfl⟩, by intro w H; refine H.sub ?_; (try simp only [zzC, zzN]); repeat (exact List.Sublist.refl _)⟩
theorem bridge_arr {xs : List Int} {cur : Array Value} (h : cur.toList.take (xs.length * 1) = xs.map (fun x => Value.int .u8 x)) : cur = (arrT xs (cur.toList.drop xs.length)).toArray := by
 rw [Nat.mul_one] at h
 have e := List.take_append_drop xs.length cur.toList
 rw [h] at e
 rw [arrT, e]
theorem nodup_inj {α : Type} {f : α → Nat} {l : List α} (h : (l.map f).Nodup) {x y : α} (hx : x ∈ l) (hy : y ∈ l) (e : f x = f y) : x = y := by
 induction l with
 | nil => cases hx
 | cons a l ih =>
  rw [List.map_cons, List.nodup_cons] at h
  rcases List.mem_cons.1 hx with hx2 | hx2 <;> rcases List.mem_cons.1 hy with hy2 | hy2
  ·rw [hx2, hy2]
  ·exact (h.1 (by rw [← hx2, e]; exact List.mem_map_of_mem hy2)).elim
  ·exact (h.1 (by rw [← hy2, ← e]; exact List.mem_map_of_mem hx2)).elim
  ·exact ih h.2 hx2 hy2
theorem nodup_of_map {α : Type} {f : α → Nat} {l : List α} (h : (l.map f).Nodup) : l.Nodup := by
 induction l with
 | nil => simp
 | cons a l ih =>
  rw [List.map_cons, List.nodup_cons] at h
  exact List.nodup_cons.2 ⟨fun hm => h.1 (List.mem_map_of_mem hm), ih h.2⟩
theorem hist_perm {α : Type} {f : α → Nat} {hs rs : List α} (h1 : (hs.map f).Nodup) (h2 : (rs.map f).Nodup) (h3 : ∀ r ∈ hs, r ∈ rs) (h4 : ∀ r ∈ rs, f r ∈ hs.map f) : hs.Perm rs := by
 rw [List.perm_ext_iff_of_nodup (nodup_of_map h1) (nodup_of_map h2)]
 intro r
 refine ⟨h3 r, fun hr => ?_⟩
 obtain ⟨r', hr', e⟩ := List.mem_map.1 (h4 r hr)
 rwa [← nodup_inj h2 (h3 r' hr') hr e]
theorem hist_lt {α : Type} {f : α → Nat} {hs rs : List α} {r : α} (h1 : (hs.map f).Nodup) (h3 : ∀ r ∈ hs, r ∈ rs) (hr : r ∈ rs) (hn : f r ∉ hs.map f) : hs.length + 1 ≤ rs.length := by
 have h5 : (r :: hs).Nodup := List.nodup_cons.2 ⟨fun hm => hn (List.mem_map_of_mem hm), nodup_of_map h1⟩
 have := List.Nodup.length_le_of_subset h5 (l₂:=rs) (fun x hx => by rcases List.mem_cons.1 hx with rfl | hx; exact hr; exact h3 x hx)
 simpa using this
structure LsI (rs : List TR) (g : List TR × Value × List Blk) : Prop where
 nd : (g.1.map (·.b)).Nodup
 mem : ∀ r ∈ g.1, r ∈ rs
 own : Own 33 1 g.2.1 g.1.length (g.1.map fun r => Value.int .u8 r.id) g.2.2
theorem tlist_c {S w0} {L : List Blk} (tb am em : Nat) (lim : Int) (rs : List TR) (c : Nat) (hbn : (rs.map (·.b)).Nodup) (hbl : ∀ r ∈ rs, r.b < c) (hrl : rs.length ≤ 16) (hlr : ∀ r ∈ rs, 0 ≤ r.id ∧ r.id < 256) : Fn Try.prog 13 #[.pointer (some ⟨tb, 0, none⟩)] S w0 (tbB tb am em lim :: h2n am (tE rs) c :: L) fun v L' => ∃ (l : List Int) (e : List Blk), Own 33 1 v l.length (l.map fun x => Value.int .u8 x) e ∧ l.Perm (rs.map (·.id)) ∧ l.Pairwise (· ≤ ·) ∧ e ++ (tbB tb am em lim :: h2n am (tE rs) c :: L) = L' := by
 have hold : ∀ e ∈ tE rs, e.born < c := fun e he => by
  obtain ⟨r, hr, rfl⟩ := List.mem_map.1 he
  exact hbl r hr
 have hnd : ((tE rs).map (·.born)).Nodup := by
  have : (tE rs).map (·.born) = rs.map (·.b) := by simp [tE, Function.comp_def]
  rw [this]; exact hbn
 have hlen : (tE rs).length = rs.length := by simp [tE]
 refine Fn1 Try.func13 Try.ntmps13 rfl rfl ?_
 repeat' (first | refine h0u ?_ | refine h0g ?_ | refine h0p ?_ | refine h1c ?_ | refine h0n rfl ?_ | (refine gR 0 (p_a (h:=h0c ?_))) | (refine gR 1 (p_m (h:=p_e (q_b (r:=by exact h2r Try.underlying28)) (h:=h0c ?_)))) | (refine gR 3 (p_a (h:=h0c ?_))) | (refine gR 4 (p_m (h:=p_n (h:=p_e (q_f h5j) (h:=q_e q_l ?_)))) <;> (try refine h0a ?_; (apply K1_rangeMapG; exact rfl; exact rfl; exact h4d; exact Try.underlying102; intro nb hnb)) <;> (try refine h0c ?_)))
 obtain ⟨nbI, rfl⟩ : ∃ x, x = nb := ⟨_, rfl⟩
 refine h3b (γ:=List TR × Value × List Blk) (LsI rs) (fun g => rs.length - g.1.length) (fun g => [(3, g.2.1)]) [(11, _)]
  (fun g => g.2.2 ++ (mitG nbI am c (g.1.map (·.b)) :: tbB tb am em lim :: h2n am (tE rs) c :: L)) ([], .slice none 0 0, []) (.cons rfl .nil) ⟨List.nodup_nil, by simp, Own.nil _ _⟩ (by (focus (repeat (first | exact Sub.nil | refine Sub.cons rfl ?_)))) (fun _ H => H) ?_
 rintro ⟨hist, v, e⟩ ⟨h1, h2, hown⟩
 dsimp only at h1 h2 hown ⊢
 simp only [List.cons_append, List.nil_append]
 repeat' (first | (refine h3s (id:=8) ?_) | (refine h4g (id:=1) ?_) | refine h0u ?_ | refine h0g ?_ | refine h1n ?_ | refine h0v ?_ | refine h1m ?_ | refine h1c ?_ | refine h2a ?_ | refine h0s rfl ?_ | refine h0n rfl ?_ | (refine gR 5 ?_ <;> (try refine h0a ?_; (apply K1_nextMapG; (with_reducible assumption); exact rfl; exact rfl; (focus (repeat (first | exact fd0 | apply fdA))); (focus (repeat (first | exact fd0 | apply fdA | apply fdS))); rotate_left; (intro eN heN hsN; (try simp only [set_app]); (try simp only [List.set_cons_succ]); (try simp only [List.set_cons_zero])); rotate_right; intro hDone)) <;> (try refine p_x (h:=h0c ?_))))
 ·refine ⟨?_⟩
  have hpm := hist_perm h1 hbn h2 (fun r hr => hDone _ (List.mem_map_of_mem hr))
  have hhl := hpm.length_eq
  rcases own_cases hown with ⟨rfl, hz, hz2, rfl⟩ | ⟨g, cap, cur, rfl, rfl, k1, k2, k3, k4⟩
  ·have hz : hist = [] := List.eq_nil_of_length_eq_zero hz
   subst hz
   repeat' (first | refine h0u ?_ | refine h0g ?_ | refine h2w ?_ | (refine gR 8 (q_m ?_) <;> (try refine h0a ?_; (refine h0w (F:=34) (by kernel_rfl) rfl rfl sortNT_c ?_; rintro _ _ ⟨rfl, rfl⟩)) <;> (try refine h0c ?_)) | (refine gR 9 (p_m (h:=p_a (h:=h0c ?_)))))
   (refine h2h Try.results13 (.tmp rfl .nil) ?_)
   exact ⟨_, ⟨[], [], Own.nil _ _, hpm.map _, by simp, rfl⟩, by intro w H; refine Sel.out ?_ H; (try simp only [zzC, zzN]); repeat (first | exact Sel.refl _ | (apply Sel.cons; exact h4d; (try simp only [zzE, zzF])) | apply Sel.drop)⟩
  ·have hcur := bridge_arr (xs:=hist.map fun r : TR => r.id) (cur:=cur) (by rw [List.length_map, k4]; simp [Function.comp_def])
   have hso := fun (L : List Blk) => sortT_c (S:=S) (w0:=w0) (L:=L) g hist.length cap (cur.toList.drop (hist.map fun r : TR => r.id).length) (hist.map fun r : TR => r.id) (by omega) (by simp)
   have hrl2 : (cur.toList.drop (hist.map fun r : TR => r.id).length).length = cap * 1 - hist.length := by simp [k3]
   generalize cur.toList.drop (hist.map fun r : TR => r.id).length = rest at *
   subst hcur
   simp only [List.cons_append, List.nil_append]
   clear hDone hown k4
   repeat' (first | refine h0u ?_ | refine h0g ?_ | refine h2w ?_ | (refine gR 8 (q_m ?_) <;> (try refine h0a ?_; (refine h0w (F:=34) (by kernel_rfl) rfl rfl (hso _) ?_; rintro _ _ ⟨rfl, l', j1, j2, rfl⟩)) <;> (try refine h0c ?_)) | (refine gR 9 (p_m (h:=p_a (h:=h0c ?_)))))
   (refine h2h Try.results13 (.tmp rfl .nil) ?_)
   have hll : l'.length = hist.length := by have := j1.length_eq; simpa using this
   refine ⟨_, ⟨l', [h5l g l' rest], ?_, j1.trans (hpm.map _), j2, rfl⟩, by intro w H; refine Sel.out ?_ H; (try simp only [zzC, zzN]); repeat (first | exact Sel.refl _ | (apply Sel.cons; exact h4d; (try simp only [zzE, zzF])) | apply Sel.drop)⟩
   rw [← hll]
   refine own_mk (by omega) k2 ?_ ?_
   ·rw [arrT_size, hll, hrl2]; omega
   ·simp [arrT]
 ·refine ⟨?_⟩
  obtain ⟨r, hr, rfl⟩ := List.mem_map.1 heN
  have hlt := hist_lt h1 h2 hr hsN
  have hrn := hlr r hr
  have hnd2 : ((hist ++ [r]).map (·.b)).Nodup := by
   rw [List.map_append, List.nodup_append]
   exact ⟨h1, by simp, fun x hx y hy => by simp at hy; subst hy; rintro rfl; exact hsN hx⟩
  have hm2 : ∀ q ∈ hist ++ [r], q ∈ rs := fun q hq => by
   rcases List.mem_append.1 hq with hq | hq
   ·exact h2 q hq
   ·simp at hq; subst hq; exact hr
  have hnd' := Lib.hid hnd2
  have hm' := Lib.hid hm2
  clear hnd2 hm2 h1 h2 hsN
  dsimp only at *
  repeat' (first | refine h0u ?_ | refine h0g ?_ | refine h0q ?_ | refine h0y ?_ | refine h0p ?_ | (refine gR 6 (p_e (by apply E_entryMapG; (with_reducible assumption); (with_reducible assumption); exact rfl; (focus (repeat (first | exact fd0 | apply fdA))); (focus (repeat (first | exact fd0 | apply fdA | apply fdS)))) (h:=p_x (h:=p_a (h:=h0c ?_))))) | (refine gR 7 (p_m (h:=q_m ?_)) <;> (try refine h0a ?_; (refine h1z (t:=47) (m:=1) (e:=33) (fun vs => (match vs with | [(_, x0)] => [x0] | _ => [])) rfl rfl (fun w => by kernel_rfl) ?_; intro nb hnb; (try simp only [Value.cells]); (try simp only [zzC, zzN]))) <;> (try refine h0a ?_; (apply h4k; exact rfl; exact Try.underlying47; exact inf_33_i; exact inf_33_z; exact inf_33_s; exact inf_33_b; exact rfl; exact rfl; exact rfl; (with_reducible assumption); exact fd0; exact Nat.le_of_ble_eq_true rfl; exact c_31; exact rfl; exact c_30; omega; exact c_23; exact rfl; exact c_21; exact c_7; intro vA eA hownA)) <;> (try refine p_a (h:=h0c ?_))))
  refine h1p (hist ++ [r], vA, eA) ⟨⟨hnd'.out, hm'.out, ?_⟩, ?_⟩ (by (focus (repeat (first | exact Sub.nil | refine Sub.cons rfl ?_)))) ?_
  ·simpa using hownA
  ·simp; omega
  ·simp only [List.map_append, List.map_cons, List.map_nil]
   intro w H
   exact H.sub (List.Sublist.append_left (by (try simp only [zzC, zzN]); repeat (first | exact List.Sublist.refl _ | refine List.Sublist.cons_cons _ ?_ | refine List.Sublist.cons _ ?_)) _)
theorem bumpE_s {l : List KV} {m : Int} {j : Nat} {x : KV} (h : kix (l.map (·.k)) m = some j) (hx : l[j]? = some x) (v : Value) (hv : v = .int .i64 (x.v + 1)) : (kE .i64 l).modify j (fun e => { key := .int .i64 m, val := v, born := e.born }) = kE .i64 (bump l m) := by
 have hk : x.k = m := by obtain ⟨y, h1, h2⟩ := kix_at h; rw [hx] at h1; injection h1 with h1; subst h1; exact h2
 rw [kE_set (x' := ⟨x.k, x.v + 1, x.b⟩) hx rfl _ _ (by rw [hk]) hv]
 congr 1
 simp only [bump, h]
 apply List.ext_getElem?
 intro i
 rw [List.getElem?_set, List.getElem?_modify]
 by_cases e : j = i
 ·subst e; obtain ⟨h1, h2⟩ := List.getElem?_eq_some_iff.1 hx; simp [h1, h2]
 ·simp [e]
theorem bumpE_n {l : List KV} {m : Int} (h : kix (l.map (·.k)) m = none) : kE .i64 l ++ [{ key := .int .i64 m, val := .int .i64 1, born := l.length }] = kE .i64 (bump l m) := by
 simp [bump, h, kE]
theorem bump_len_s {l : List KV} {m : Int} {j : Nat} (h : kix (l.map (·.k)) m = some j) : (bump l m).length = l.length := by simp [bump, h]
theorem bump_len_n {l : List KV} {m : Int} (h : kix (l.map (·.k)) m = none) : (bump l m).length = l.length + 1 := by simp [bump, h]
theorem kix_nd {l : List Int} (hn : l.Nodup) {i : Nat} {n : Int} (h : l[i]? = some n) : kix l n = some i := by
 obtain ⟨j, hj⟩ := kix_mem (List.mem_of_getElem? h)
 rw [hj]
 have h1 := kix_some hj
 obtain ⟨a1, a2⟩ := List.getElem?_eq_some_iff.1 h
 obtain ⟨b1, b2⟩ := List.getElem?_eq_some_iff.1 h1
 congr 1
 by_cases c : i < j
 ·exact (List.pairwise_iff_getElem.1 hn i j a1 b1 c (by rw [a2, b2])).elim
 ·by_cases c2 : j < i
  ·exact (List.pairwise_iff_getElem.1 hn j i b1 a1 c2 (by rw [a2, b2])).elim
  ·omega
theorem sorted_nodup {l : List Int} (h : l.Pairwise (· < ·)) : l.Nodup := h.imp fun h e => by omega
theorem sorted_eq {l l' : List Int} (h : l.Pairwise (· ≤ ·)) (h' : l'.Pairwise (· < ·)) (hp : l.Perm l') : l = l' := by
 induction l' generalizing l with
 | nil => exact List.Perm.eq_nil hp
 | cons x xs ih =>
  cases l with
  | nil => exact absurd hp.length_eq (by simp)
  | cons y ys =>
   rw [List.pairwise_cons] at h h'
   have h1 : y = x := by
    have a := hp.mem_iff.2 (List.mem_cons_self (a:=x) (l:=xs))
    have b := hp.mem_iff.1 (List.mem_cons_self (a:=y) (l:=ys))
    rcases List.mem_cons.1 a with a | a
    ·exact a.symm
    ·rcases List.mem_cons.1 b with b | b
     ·exact b
     ·have := h.1 x a; have := h'.1 y b; omega
   subst h1
   rw [ih h.2 h'.2 (List.perm_cons y |>.1 hp)]
theorem opn_succ {l : List SL} {k : Nat} {s : SL} (h : l[k]? = some s) : opn (l.take (k + 1)) = if s.k = 3 then opn (l.take k) else opn (l.take k) ++ [s] := by
 obtain ⟨h1, rfl⟩ := List.getElem?_eq_some_iff.1 h
 rw [List.take_succ_eq_append_getElem h1, opn, List.filter_append, ← opn]
 by_cases c : l[k].k = 3
 ·rw [if_pos c]; simp [c]
 ·rw [if_neg c]; simp [c]
theorem msA_succ {ts : List TR} {i : Nat} {t : TR} (h : ts[i]? = some t) : msA (ts.take (i + 1)) = msA (ts.take i) ++ msT t := by
 obtain ⟨h1, rfl⟩ := List.getElem?_eq_some_iff.1 h
 rw [List.take_succ_eq_append_getElem h1, msA, List.flatMap_append]; simp [msA]
theorem bumps_one (l : List KV) (m : Int) : bumps l [m] = bump l m := rfl
theorem bumps_snoc (l : List KV) (ms : List Int) (m : Int) : bumps l (ms ++ [m]) = bump (bumps l ms) m := by rw [bumps_app, bumps_one]
def cnt (ts : List TR) (i : Nat) : List KV := bumps [] (msA (ts.take i))
def cnk (ts : List TR) (i : Nat) (t : TR) (k : Nat) : List KV := bumps (bump (cnt ts i) t.m) ((opn (t.sl.take k)).map (·.m))
theorem cnk_zero (ts : List TR) (i : Nat) (t : TR) : cnk ts i t 0 = bump (cnt ts i) t.m := rfl
theorem cnk_all {ts : List TR} {i : Nat} {t : TR} (h : ts[i]? = some t) : cnk ts i t t.sl.length = cnt ts (i + 1) := by
 rw [show cnt ts (i + 1) = bumps [] (msA (ts.take (i + 1))) from rfl, msA_succ h, bumps_app, cnk, List.take_length]; rfl
theorem cnk_sock {ts : List TR} {i : Nat} {t : TR} {k : Nat} {s : SL} (h : t.sl[k]? = some s) (h3 : s.k = 3) : cnk ts i t (k + 1) = cnk ts i t k := by
 rw [cnk, opn_succ h, if_pos h3]; rfl
theorem cnk_one {ts : List TR} {i : Nat} {t : TR} {k : Nat} {s : SL} (h : t.sl[k]? = some s) (h3 : s.k ≠ 3) : cnk ts i t (k + 1) = bump (cnk ts i t k) s.m := by
 rw [cnk, opn_succ h, if_neg h3, List.map_append, List.map_cons, List.map_nil, bumps_snoc]; rfl
theorem cnt_ok (ts : List TR) (i : Nat) (h : ∀ t ∈ ts, t.sl.length ≤ 16) (h2 : ts.length ≤ 16) : ∃ n, n ≤ 272 ∧ COk (cnt ts i) n := by
 refine ⟨_, msA_len (ts.take i) (fun t ht => h t (List.mem_of_mem_take ht)) (by rw [List.length_take]; omega), ?_⟩
 have := COk.nil.bumps (msA (ts.take i))
 rwa [Nat.zero_add] at this
theorem cnk_ok (ts : List TR) (i : Nat) (t : TR) (k : Nat) (h : ∀ t ∈ ts, t.sl.length ≤ 16) (h2 : ts.length ≤ 16) (h3 : t.sl.length ≤ 16) : ∃ n, n ≤ 300 ∧ COk (cnk ts i t k) n := by
 obtain ⟨n, hn, hc⟩ := cnt_ok ts i h h2
 refine ⟨_, ?_, (hc.bump t.m).bumps _⟩
 have h1 : (opn (t.sl.take k)).length ≤ (t.sl.take k).length := List.length_filter_le ..
 have h4 : (t.sl.take k).length ≤ t.sl.length := by rw [List.length_take]; omega
 rw [List.length_map]; omega
set_option maxHeartbeats 2000000 in
theorem tholders_c {S w0} {L : List Blk} (tb am em : Nat) (lim : Int) (ts : List TR) (c : Nat) (hbn : (ts.map (·.b)).Nodup) (hbl : ∀ r ∈ ts, r.b < c) (hrl : ts.length ≤ 16) (hlr : ∀ r ∈ ts, 0 ≤ r.id ∧ r.id < 256) (hso : (ts.map (·.id)).Pairwise (· < ·)) (hH : ∀ t ∈ ts, THas (tbB tb am em lim :: h2n am (tE ts) c :: L) t) :
  Fn Try.prog 15 #[.pointer (some ⟨tb, 0, none⟩)] S w0 (tbB tb am em lim :: h2n am (tE ts) c :: L) fun v L' => ∃ hb, v = .map (some hb) ∧ h2n hb (kE .i64 (cnt ts ts.length)) (cnt ts ts.length).length :: tbB tb am em lim :: h2n am (tE ts) c :: L = L' := by
 have hli := fun (x : Blk) => Fn.mono (.mk fun w (H : HP S w0 w (x :: tbB tb am em lim :: h2n am (tE ts) c :: L)) => (tlist_c (S:=S) (w0:=w0) (L:=x :: L) tb am em lim ts c hbn hbl hrl hlr).out w (H.perm ((List.Perm.swap _ _ _).trans ((List.Perm.swap _ _ _).cons _)))) (R' := fun v L' => ∃ e, Own 33 1 v ts.length (ts.map fun t => Value.int .u8 t.id) e ∧ e ++ (x :: tbB tb am em lim :: h2n am (tE ts) c :: L) = L') (by
  rintro v _ ⟨l, e, h1, h2, h3, rfl⟩
  have := sorted_eq h3 hso h2
  subst this
  refine ⟨_, ⟨e, ?_, rfl⟩, fun w H => H.perm (((List.Perm.swap _ _ _).cons _ |>.trans (List.Perm.swap _ _ _)).append_left e)⟩
  rw [List.length_map, List.map_map] at h1
  exact h1)
 have hsl : ∀ t ∈ ts, t.sl.length ≤ 16 := fun t ht => (hH t ht).l16
 have hnd := sorted_nodup hso
 clear hso
 refine Fn1 Try.func15 Try.ntmps15 rfl rfl ?_
 repeat' (first | (refine h4g (id:=0) ?_) | refine h0u ?_ | refine h0g ?_ | (refine gR 0 (p_a (h:=h0c ?_))) | (refine gR 1 ?_ <;> (try refine h0a ?_; (refine K1_makeMapG rfl ?_; intro nb hnb)) <;> (try refine p_a (h:=h0c ?_))) | (refine gR 2 (q_m ?_) <;> (try refine h0a ?_; (refine h0w (F:=13) (by kernel_rfl) rfl rfl (hli _) ?_; rintro _ _ ⟨e, hown, rfl⟩; obtain ⟨aI, cI, rfl, hsI⟩ := hown.sli [])) <;> (try refine p_e (by apply h0r; exact rfl; exact (fun _ => BigFrame.builtin_len ..); apply h0k Try.underlying47; exact h4h) (h:=p_m (h:=h0c ?_)))))
 refine ⟨?_⟩
 refine h0p ?_
 obtain ⟨hb, rfl⟩ : ∃ x, x = nb := ⟨_, rfl⟩
 rw [List.append_nil] at hsI
 refine h3b (γ:=Nat) (fun i => i ≤ ts.length) (fun i => ts.length - i) (fun i => [(14, .int .i64 (i : Nat))]) [(0, _), (3, _), (12, _), (13, _)] (fun i => h2n hb (kE .i64 (cnt ts i)) (cnt ts i).length :: (e ++ (tbB tb am em lim :: h2n am (tE ts) c :: L))) 0 (.cons rfl (.cons rfl (.cons rfl (.cons rfl .nil)))) (Nat.zero_le _) (by (focus (repeat (first | exact Sub.nil | refine Sub.cons rfl ?_)))) (fun w H => H.perm List.perm_middle) ?_
 intro i (hi : i ≤ ts.length)
 simp only [List.cons_append, List.nil_append]
 by_cases hlt : i < ts.length
 rotate_left
 ·obtain rfl : i = ts.length := by omega
  repeat' (first | refine h0u ?_ | refine h0g ?_ | refine h1n ?_ | refine h0v ?_ | refine h1m ?_ | refine h2a ?_ | refine h2w ?_ | refine h0n rfl ?_ | (refine gR 3 (p_e (q_b (r:=by exact h1k q_o)) (h:=h0c ?_))) | (refine gR 15 (p_m (h:=p_a (h:=h0c ?_)))))
  (refine h2h Try.results15 (.tmp rfl .nil) ?_)
  exact ⟨_, ⟨hb, rfl, rfl⟩, by intro w H; refine Sel.out ?_ H; (try dsimp only); (try simp only [List.cons_append, List.nil_append, List.append_assoc]); with_reducible repeat (first | exact Sel.refl _ | exact Sel.nil _ | apply Sel.appS | apply Sel.consS | (apply Sel.appP; (focus ((repeat (first | exact Pull.here _ | apply Pull.cons | apply Pull.app)); done))) | (apply Sel.consP; (focus ((repeat (first | exact PullB.here _ | apply PullB.cons | apply PullB.app)); done))) | apply Sel.drop | apply Sel.dropA)⟩
 have htm : ts[i] ∈ ts := List.getElem_mem hlt
 have hti := List.getElem?_eq_getElem hlt
 have hki : kix (ts.map (·.id)) ts[i].id = some i := kix_nd hnd (by rw [List.getElem?_map, hti]; rfl)
 obtain ⟨jI, qI, bI, oI, csI, TI, frI, rfl, hjI, hszI, hxI⟩ := ((hsI.left (L:=tbB tb am em lim :: h2n am (tE ts) c :: L)).up (h2n hb (kE .i64 (cnt ts i)) (cnt ts i).length)).elem1 hlt
 rw [List.getElem?_map, hti, Option.map_some] at hxI
 obtain ⟨n0, hn0, hc0⟩ := cnt_ok ts i hsl hrl
 have hc1 := fun k => cnk_ok ts i ts[i] k hsl hrl (hsl _ htm)
 have hal := cnk_all hti
 have hc2 := fun (k : Nat) (s : SL) => cnk_sock (ts:=ts) (i:=i) (t:=ts[i]'hlt) (k:=k) (s:=s)
 have hc3 := fun (k : Nat) (s : SL) => cnk_one (ts:=ts) (i:=i) (t:=ts[i]'hlt) (k:=k) (s:=s)
 have hz0 := cnk_zero ts i ts[i]
 have hh := hH _ htm
 have hid := hlr _ htm
 have hfE := tE_some hki hti
 generalize ts[i] = t at *
 obtain ⟨⟨i1, h1⟩, ⟨i2, h2⟩, h3, h4, h5, h6⟩ := hh
 generalize hcn : cnt ts i = cn at *
 repeat' (first | (refine h3s (id:=6) ?_) | refine h0u ?_ | refine h0g ?_ | refine h0p ?_ | refine h1c ?_ | refine h0s rfl ?_ | (refine gR 3 (p_e (q_b (r:=by exact h1l q_o)) (h:=h0c ?_))) | (refine gR 4 (p_e (by apply h0d; exact rfl; exact rfl; (focus (apply h0x Try.underlying47 h2l; omega; omega; exact c_2))) (h:=p_e (by apply h0f (t:=33); exact rfl; exact c_28; kernel_rfl; kernel_rfl; (with_reducible assumption)) (h:=p_a (h:=h0c ?_))))) | (refine gR 5 (p_m (h:=p_n (h:=p_e (q_f h5j) (h:=p_e (by apply h0f (t:=102); exact rfl; (focus (repeat (first | exact fd0 | apply fdA | apply fdS))); kernel_rfl; kernel_rfl; exact rfl) (h:=p_m (h:=p_e (by apply h3y; exact rfl; exact rfl; (focus (repeat (first | exact fd0 | apply fdA | apply fdS))); exact Try.underlying102; exact Try.underlying33; exact rfl; exact Try.zeroValue29; (with_reducible assumption); exact rfl) (h:=p_a (h:=h0c ?_))))))))))
 refine ⟨?_⟩
 refine h3x (γ:=Unit) (fun _ => True) (fun _ => []) [(0, _), (3, _), (6, _), (12, _), (13, _), (14, _)] (fun _ => h2n hb (kE .i64 (cnk ts i t 0)) (cnk ts i t 0).length :: (e ++ (tbB tb am em lim :: h2n am (tE ts) c :: L))) (.cons rfl (.cons rfl (.cons rfl (.cons rfl (.cons rfl (.cons rfl .nil)))))) ?_ ?_
 ·rw [hz0]
  cases hk : kix (cn.map (·.k)) t.m with
  | some j =>
   obtain ⟨x, hx, _⟩ := kix_at hk
   have hf := kE_some (k:=.i64) hk hx
   have hv := hc0.v x (List.mem_of_getElem? hx)
   repeat' (first | refine h0q ?_ | (refine gR 6 (p_m (h:=p_m (h:=p_n (h:=p_e (q_f fo_73_2) (h:=p_e (q_g fo_60_0) (h:=p_e (by apply h0f (t:=3); exact rfl; (focus (repeat (first | (with_reducible assumption) | apply fdA | apply fdS))); kernel_rfl; kernel_rfl; exact rfl) (h:=q_e (by apply h3y; exact rfl; exact rfl; exact fd0; exact Try.underlying50; exact Try.underlying3; exact rfl; exact Try.zeroValue3; (with_reducible assumption); exact rfl) ?_))))))) <;> (try refine q_e (q_b (r:=by apply h0z; exact c_9; (focus (refine IntWalk.i64_in _ ?_; omega)))) ?_) <;> (try refine h0a ?_; (apply K1_mapUpdateG2; exact rfl; exact rfl; exact rfl; exact fd0; exact Try.underlying50; exact Try.underlying3; exact rfl; (with_reducible assumption); (try simp only [List.set_cons_succ]); (try simp only [List.set_cons_zero]))) <;> (try refine h0c ?_)))
   rw [bumpE_s hk hx _ rfl]
   exact h1p () trivial (by (focus (repeat (first | exact Sub.nil | refine Sub.cons rfl ?_)))) (by rw [bump_len_s hk]; intro w H; refine Sel.out ?_ H; (try simp only [zzC, zzN]); repeat (exact Sel.refl _))
  | none =>
   have hf := kE_none (k:=.i64) hk
   repeat' (first | refine h0q ?_ | (refine gR 6 (p_m (h:=p_m (h:=p_n (h:=p_e (q_f fo_73_2) (h:=p_e (q_g fo_60_0) (h:=p_e (by apply h0f (t:=3); exact rfl; (focus (repeat (first | (with_reducible assumption) | apply fdA | apply fdS))); kernel_rfl; kernel_rfl; exact rfl) (h:=q_e (by apply h3y; exact rfl; exact rfl; exact fd0; exact Try.underlying50; exact Try.underlying3; exact rfl; exact Try.zeroValue3; (with_reducible assumption); exact rfl) ?_))))))) <;> (try refine q_e (q_b (r:=by apply h0z; exact c_9; (focus (refine IntWalk.i64_in _ ?_; omega)))) ?_) <;> (try refine h0a ?_; (apply h4i; exact rfl; exact rfl; exact rfl; exact fd0; exact Try.underlying50; exact Try.underlying3; exact rfl; (with_reducible assumption); (try simp only [List.set_cons_succ]); (try simp only [List.set_cons_zero]))) <;> (try refine h0c ?_)))
   refine h1p () trivial (by (focus (repeat (first | exact Sub.nil | refine Sub.cons rfl ?_)))) ?_
   rw [bump_len_n hk, ← bumpE_n hk]
   exact fun _ H => H
 intro _ _
 have hfl := fun (M : List Blk) (i : Nat) (h : M[i]? = some (fdR t.f t.sl)) => fdlist_c (S:=S) (w0:=w0) (L:=M) i t.f t.sl h5 h
 dsimp only [List.cons_append, List.nil_append]
 repeat' (first | (refine h4g (id:=2) ?_) | refine h0u ?_ | refine h0g ?_ | (refine gR 7 (p_m (h:=p_n (h:=p_e (q_f fo_73_3) (h:=q_e (by apply h0f (t:=69); exact rfl; (focus (repeat (first | (with_reducible assumption) | apply fdA | apply fdS))); kernel_rfl; kernel_rfl; exact rfl) ?_)))) <;> (try refine h0a ?_; (refine q_c 35 (c:=by (apply hfl; (focus (focus (repeat (first | (with_reducible assumption) | apply fdA | apply fdS)))))) (h:=?_); rintro _ _ ⟨e3, hown3, rfl⟩; obtain ⟨aJ, cJ, rfl, hsJ⟩ := hown3.sli [])) <;> (try refine p_e (by apply h0r; exact rfl; exact (fun _ => BigFrame.builtin_len ..); apply h0k Try.underlying97; exact h4h) (h:=p_m (h:=h0c ?_)))))
 refine ⟨?_⟩
 refine h0p ?_
 rw [List.append_nil] at hsJ
 refine h3b (γ:=Nat) (fun k => k ≤ t.sl.length) (fun k => t.sl.length - k) (fun k => [(38, .int .i64 (k : Nat))]) [(0, _), (3, _), (6, _), (12, _), (13, _), (14, _), (36, _), (37, _)] (fun k => h2n hb (kE .i64 (cnk ts i t k)) (cnk ts i t k).length :: (e3 ++ (e ++ (tbB tb am em lim :: h2n am (tE ts) c :: L)))) 0 (.cons rfl (.cons rfl (.cons rfl (.cons rfl (.cons rfl (.cons rfl (.cons rfl (.cons rfl .nil)))))))) (Nat.zero_le _) (by (focus (repeat (first | exact Sub.nil | refine Sub.cons rfl ?_)))) (fun w H => H.perm List.perm_middle) ?_
 intro k (hk : k ≤ t.sl.length)
 dsimp only [List.cons_append, List.nil_append]
 by_cases hkl : k < t.sl.length
 rotate_left
 ·obtain rfl : k = t.sl.length := by omega
  rw [hal]
  repeat' (first | refine h0u ?_ | refine h0g ?_ | refine h0q ?_ | refine h1n ?_ | refine h0v ?_ | refine h0y ?_ | refine h1m ?_ | refine h2a ?_ | refine h0n rfl ?_ | (refine gR 8 (p_e (q_b (r:=by exact h1k q_o)) (h:=h0c ?_))) | (refine gR 14 ?_ <;> (try refine q_e (q_b (r:=by apply h0z; exact c_9; (focus (refine IntWalk.i64_in _ ?_; omega)))) ?_) <;> (try refine p_m (h:=h0c ?_))))
  exact h1p (i + 1) ⟨by omega, by omega⟩ (by (focus (repeat (first | exact Sub.nil | refine Sub.cons rfl ?_)))) (by intro w H; refine Sel.out ?_ H; (try dsimp only); (try simp only [List.cons_append, List.nil_append, List.append_assoc]); with_reducible repeat (first | exact Sel.refl _ | exact Sel.nil _ | apply Sel.appS | apply Sel.consS | (apply Sel.appP; (focus ((repeat (first | exact Pull.here _ | apply Pull.cons | apply Pull.app)); done))) | (apply Sel.consP; (focus ((repeat (first | exact PullB.here _ | apply PullB.cons | apply PullB.app)); done))) | apply Sel.drop | apply Sel.dropA))
 have hsk := List.getElem?_eq_getElem hkl
 obtain ⟨i4, h7⟩ := h3 _ (List.getElem_mem hkl)
 have hc4 := hc2 k _ hsk
 have hc5 := hc3 k _ hsk
 obtain ⟨n1, hn1, hc6⟩ := hc1 k
 obtain ⟨jJ, qJ, bJ, oJ, csJ, TJ, frJ, rfl, hjJ, hszJ, hxJ⟩ := ((hsJ.left (L:=e ++ (tbB tb am em lim :: h2n am (tE ts) c :: L))).up (h2n hb (kE .i64 (cnk ts i t k)) (cnk ts i t k).length)).elem1 hkl
 rw [List.getElem?_map, List.getElem?_range hkl, Option.map_some] at hxJ
 have hfg := fun (M : List Blk) (i : Nat) (h : M[i]? = some (fdR t.f t.sl)) => fdget_c (S:=S) (w0:=w0) (L:=M) i t.f t.sl k _ h5 hsk h
 generalize t.sl[k] = s at *
 generalize cnk ts i t k = ck at *
 clear hc2 hc3
 by_cases h3k : s.k = 3
 ·have hc4 := hc4 h3k
  clear hc5
  repeat' (first | refine h0u ?_ | refine h0g ?_ | refine h0q ?_ | refine h0y ?_ | refine h0p ?_ | refine h1c ?_ | refine h0s rfl ?_ | refine h0n rfl ?_ | (refine gR 8 (p_e (q_b (r:=by exact h1l q_o)) (h:=h0c ?_))) | (refine gR 9 (p_e (by apply h0d; exact rfl; exact rfl; (focus (apply h0x Try.underlying97 sz_3; omega; omega; exact c_2))) (h:=p_e (by apply h0f (t:=3); exact rfl; exact c_28; kernel_rfl; kernel_rfl; (with_reducible assumption)) (h:=p_a (h:=h0c ?_))))) | (refine gR 10 (p_m (h:=p_n (h:=p_e (q_f fo_73_3) (h:=p_e (by apply h0f (t:=69); exact rfl; (focus (repeat (first | (with_reducible assumption) | apply fdA | apply fdS))); kernel_rfl; kernel_rfl; exact rfl) (h:=q_m ?_))))) <;> (try refine q_e (by apply h3h; exact rfl; (focus (apply h3g Try.underlying3 Try.underlying23; first | (refine IntWalk.i64_in _ ?_; omega) | (refine IntWalk.u8_in _ ?_; omega) | (refine IntWalk.u16_in _ ?_; omega) | (refine IntWalk.u32_in _ ?_; omega) | (refine IntWalk.u64_in _ ?_; omega) | (refine IntWalk.i32_in _ ?_; omega) | exact rfl))) ?_) <;> (try refine h0a ?_; (refine q_c 36 (c:=by (apply hfg; (focus (focus (repeat (first | (with_reducible assumption) | apply fdA | apply fdS)))))) (h:=?_); rintro _ _ ⟨rfl, rfl⟩)) <;> (try refine p_a (h:=h0c ?_))) | (refine gR 11 (p_m (h:=p_n (h:=p_e (q_f fo_79_0) (h:=q_e (by apply h0f (t:=76); exact rfl; (focus (repeat (first | (with_reducible assumption) | apply fdA | apply fdS))); kernel_rfl; kernel_rfl; exact rfl) ?_)))) <;> (try refine q_e (by exact q_b (r:=by refine h2v ?_; first | rfl | (with_reducible assumption) | (decide; done) | omega)) ?_) <;> (try refine h0c ?_)) | (refine gR 13 ?_ <;> (try refine q_e (q_b (r:=by apply h0z; exact c_9; (focus (refine IntWalk.i64_in _ ?_; omega)))) ?_) <;> (try refine p_m (h:=h0c ?_))))
  exact h1p (k + 1) ⟨by omega, by omega⟩ (by (focus (repeat (first | exact Sub.nil | refine Sub.cons rfl ?_)))) (by rw [hc4]; intro w H; refine Sel.out ?_ H; (try dsimp only); (try simp only [List.cons_append, List.nil_append, List.append_assoc]); with_reducible repeat (first | exact Sel.refl _ | exact Sel.nil _ | apply Sel.appS | apply Sel.consS | (apply Sel.appP; (focus ((repeat (first | exact Pull.here _ | apply Pull.cons | apply Pull.app)); done))) | (apply Sel.consP; (focus ((repeat (first | exact PullB.here _ | apply PullB.cons | apply PullB.app)); done))) | apply Sel.drop | apply Sel.dropA))
 ·have hc5 := hc5 h3k
  clear hc4
  cases hk' : kix (ck.map (·.k)) s.m with
  | some j =>
   obtain ⟨x, hx, _⟩ := kix_at hk'
   have hf := kE_some (k:=.i64) hk' hx
   have hv := hc6.v x (List.mem_of_getElem? hx)
   repeat' (first | refine h0u ?_ | refine h0g ?_ | refine h0q ?_ | refine h0y ?_ | refine h0p ?_ | refine h1c ?_ | refine h0s rfl ?_ | (refine gR 8 (p_e (q_b (r:=by exact h1l q_o)) (h:=h0c ?_))) | (refine gR 9 (p_e (by apply h0d; exact rfl; exact rfl; (focus (apply h0x Try.underlying97 sz_3; omega; omega; exact c_2))) (h:=p_e (by apply h0f (t:=3); exact rfl; exact c_28; kernel_rfl; kernel_rfl; (with_reducible assumption)) (h:=p_a (h:=h0c ?_))))) | (refine gR 10 (p_m (h:=p_n (h:=p_e (q_f fo_73_3) (h:=p_e (by apply h0f (t:=69); exact rfl; (focus (repeat (first | (with_reducible assumption) | apply fdA | apply fdS))); kernel_rfl; kernel_rfl; exact rfl) (h:=q_m ?_))))) <;> (try refine q_e (by apply h3h; exact rfl; (focus (apply h3g Try.underlying3 Try.underlying23; first | (refine IntWalk.i64_in _ ?_; omega) | (refine IntWalk.u8_in _ ?_; omega) | (refine IntWalk.u16_in _ ?_; omega) | (refine IntWalk.u32_in _ ?_; omega) | (refine IntWalk.u64_in _ ?_; omega) | (refine IntWalk.i32_in _ ?_; omega) | exact rfl))) ?_) <;> (try refine h0a ?_; (refine q_c 36 (c:=by (apply hfg; (focus (focus (repeat (first | (with_reducible assumption) | apply fdA | apply fdS)))))) (h:=?_); rintro _ _ ⟨rfl, rfl⟩)) <;> (try refine p_a (h:=h0c ?_))) | (refine gR 11 (p_m (h:=p_n (h:=p_e (q_f fo_79_0) (h:=p_e (by apply h0f (t:=76); exact rfl; (focus (repeat (first | (with_reducible assumption) | apply fdA | apply fdS))); kernel_rfl; kernel_rfl; exact rfl) (h:=p_e (q_b (r:=by exact h5a q_o)) (h:=h0c ?_))))))) | (refine gR 12 (p_m (h:=p_m (h:=p_n (h:=p_e (q_f fo_79_1) (h:=p_e (q_g fo_60_0) (h:=p_e (by apply h0f (t:=3); exact rfl; (focus (repeat (first | (with_reducible assumption) | apply fdA | apply fdS))); kernel_rfl; kernel_rfl; exact rfl) (h:=q_e (by apply h3y; exact rfl; exact rfl; exact fd0; exact Try.underlying50; exact Try.underlying3; exact rfl; exact Try.zeroValue3; (with_reducible assumption); exact rfl) ?_))))))) <;> (try refine q_e (q_b (r:=by apply h0z; exact c_9; (focus (refine IntWalk.i64_in _ ?_; omega)))) ?_) <;> (try refine h0a ?_; (apply K1_mapUpdateG2; exact rfl; exact rfl; exact rfl; exact fd0; exact Try.underlying50; exact Try.underlying3; exact rfl; (with_reducible assumption); (try simp only [List.set_cons_succ]); (try simp only [List.set_cons_zero]))) <;> (try refine h0c ?_)) | (refine gR 13 ?_ <;> (try refine q_e (q_b (r:=by apply h0z; exact c_9; (focus (refine IntWalk.i64_in _ ?_; omega)))) ?_) <;> (try refine p_m (h:=h0c ?_))))
   rw [bumpE_s hk' hx _ rfl]
   exact h1p (k + 1) ⟨by omega, by omega⟩ (by (focus (repeat (first | exact Sub.nil | refine Sub.cons rfl ?_)))) (by rw [hc5, bump_len_s hk']; intro w H; refine Sel.out ?_ H; (try dsimp only); (try simp only [List.cons_append, List.nil_append, List.append_assoc]); with_reducible repeat (first | exact Sel.refl _ | exact Sel.nil _ | apply Sel.appS | apply Sel.consS | (apply Sel.appP; (focus ((repeat (first | exact Pull.here _ | apply Pull.cons | apply Pull.app)); done))) | (apply Sel.consP; (focus ((repeat (first | exact PullB.here _ | apply PullB.cons | apply PullB.app)); done))) | apply Sel.drop | apply Sel.dropA))
  | none =>
   have hf := kE_none (k:=.i64) hk'
   repeat' (first | refine h0u ?_ | refine h0g ?_ | refine h0q ?_ | refine h0y ?_ | refine h0p ?_ | refine h1c ?_ | refine h0s rfl ?_ | (refine gR 8 (p_e (q_b (r:=by exact h1l q_o)) (h:=h0c ?_))) | (refine gR 9 (p_e (by apply h0d; exact rfl; exact rfl; (focus (apply h0x Try.underlying97 sz_3; omega; omega; exact c_2))) (h:=p_e (by apply h0f (t:=3); exact rfl; exact c_28; kernel_rfl; kernel_rfl; (with_reducible assumption)) (h:=p_a (h:=h0c ?_))))) | (refine gR 10 (p_m (h:=p_n (h:=p_e (q_f fo_73_3) (h:=p_e (by apply h0f (t:=69); exact rfl; (focus (repeat (first | (with_reducible assumption) | apply fdA | apply fdS))); kernel_rfl; kernel_rfl; exact rfl) (h:=q_m ?_))))) <;> (try refine q_e (by apply h3h; exact rfl; (focus (apply h3g Try.underlying3 Try.underlying23; first | (refine IntWalk.i64_in _ ?_; omega) | (refine IntWalk.u8_in _ ?_; omega) | (refine IntWalk.u16_in _ ?_; omega) | (refine IntWalk.u32_in _ ?_; omega) | (refine IntWalk.u64_in _ ?_; omega) | (refine IntWalk.i32_in _ ?_; omega) | exact rfl))) ?_) <;> (try refine h0a ?_; (refine q_c 36 (c:=by (apply hfg; (focus (focus (repeat (first | (with_reducible assumption) | apply fdA | apply fdS)))))) (h:=?_); rintro _ _ ⟨rfl, rfl⟩)) <;> (try refine p_a (h:=h0c ?_))) | (refine gR 11 (p_m (h:=p_n (h:=p_e (q_f fo_79_0) (h:=p_e (by apply h0f (t:=76); exact rfl; (focus (repeat (first | (with_reducible assumption) | apply fdA | apply fdS))); kernel_rfl; kernel_rfl; exact rfl) (h:=p_e (q_b (r:=by exact h5a q_o)) (h:=h0c ?_))))))) | (refine gR 12 (p_m (h:=p_m (h:=p_n (h:=p_e (q_f fo_79_1) (h:=p_e (q_g fo_60_0) (h:=p_e (by apply h0f (t:=3); exact rfl; (focus (repeat (first | (with_reducible assumption) | apply fdA | apply fdS))); kernel_rfl; kernel_rfl; exact rfl) (h:=q_e (by apply h3y; exact rfl; exact rfl; exact fd0; exact Try.underlying50; exact Try.underlying3; exact rfl; exact Try.zeroValue3; (with_reducible assumption); exact rfl) ?_))))))) <;> (try refine q_e (q_b (r:=by apply h0z; exact c_9; (focus (refine IntWalk.i64_in _ ?_; omega)))) ?_) <;> (try refine h0a ?_; (apply h4i; exact rfl; exact rfl; exact rfl; exact fd0; exact Try.underlying50; exact Try.underlying3; exact rfl; (with_reducible assumption); (try simp only [List.set_cons_succ]); (try simp only [List.set_cons_zero]))) <;> (try refine h0c ?_)) | (refine gR 13 ?_ <;> (try refine q_e (q_b (r:=by apply h0z; exact c_9; (focus (refine IntWalk.i64_in _ ?_; omega)))) ?_) <;> (try refine p_m (h:=h0c ?_))))
   refine h1p (k + 1) ⟨by omega, by omega⟩ (by (focus (repeat (first | exact Sub.nil | refine Sub.cons rfl ?_)))) ?_
   rw [hc5, bump_len_n hk', ← bumpE_n hk']
   intro w H; refine Sel.out ?_ H; (try dsimp only); (try simp only [List.cons_append, List.nil_append, List.append_assoc]); with_reducible repeat (first | exact Sel.refl _ | exact Sel.nil _ | apply Sel.appS | apply Sel.consS | (apply Sel.appP; (focus ((repeat (first | exact Pull.here _ | apply Pull.cons | apply Pull.app)); done))) | (apply Sel.consP; (focus ((repeat (first | exact PullB.here _ | apply PullB.cons | apply PullB.app)); done))) | apply Sel.drop | apply Sel.dropA)
structure SubB (X L : List Blk) : Prop where
 mem : ∀ b ∈ X, b ∈ L
theorem SubB.refl (X : List Blk) : SubB X X := ⟨fun _ h => h⟩
theorem SubB.left (X R : List Blk) : SubB X (X ++ R) := ⟨fun _ h => List.mem_append_left _ h⟩
theorem SubB.app {X R Y : List Blk} (h : SubB X R) : SubB (Y ++ X) (Y ++ R) := ⟨fun b hb => (List.mem_append.1 hb).elim (fun h => List.mem_append_left _ h) (fun hx => List.mem_append_right _ (h.mem b hx))⟩
theorem SubB.up {X L : List Blk} {x : Blk} (h : SubB X L) : SubB X (x :: L) := ⟨fun b hb => List.mem_cons_of_mem _ (h.mem b hb)⟩
theorem SubB.upA {X L e : List Blk} (h : SubB X L) : SubB X (e ++ L) := ⟨fun b hb => List.mem_append_right _ (h.mem b hb)⟩
theorem Sli.mono {X L : List Blk} {a : Option Addr} {n size : Nat} {xs : List Value} (h : Sli X a n size xs) (hs : SubB X L) : Sli L a n size xs := by
 refine ⟨h.1, ?_⟩
 rcases h.2 with h1 | ⟨i, q, b, off, cs, T, fr, h1, h2, h3⟩
 ·exact Or.inl h1
 ·obtain ⟨j, hj⟩ := List.mem_iff_getElem?.1 (hs.mem _ (List.mem_iff_getElem?.2 ⟨i, h2⟩))
  exact Or.inr ⟨j, q, b, off, cs, T, fr, h1, hj, h3⟩
def TR.row (t : TR) : List Value := [.int .i64 t.id, .int .i64 t.par, t.av, .int .i64 t.m, .int .u16 t.n, t.ov]
def h5i (ts : List TR) : List Value := ts.flatMap TR.row
def plC (s : SL) : List Value := [.int .i64 s.m, .int .u16 s.n]
def u32C (f : Nat × Int) : Value := .int .u32 f.2
def TR.bl (t : TR) : List Blk := tkW t.p t.f t.id t.par t.m t.n t.fv :: fdR t.f t.sl :: (t.sl.map opR ++ (t.fe ++ (t.ae ++ t.oe)))
def tsB (ts : List TR) : List Blk := ts.flatMap TR.bl
theorem rowC_len (ts : List TR) : (h5i ts).length = ts.length * 6 := by
 induction ts with
 | nil => rfl
 | cons r rs ih => simp only [h5i, List.flatMap_cons, List.length_append, TR.row, List.length_cons, List.length_nil] at ih ⊢; omega
theorem rowC_at (rs : List TR) (j : Nat) (h : j < rs.length) : ((h5i rs).drop (j * 6)).take 6 = rs[j].row := by
 induction rs generalizing j with
 | nil => simp at h
 | cons r rs ih =>
  cases j with
  | zero => simp [h5i, TR.row]
  | succ j =>
   have := ih j (by simpa using h)
   rw [show h5i (r :: rs) = r.row ++ h5i rs by simp [h5i], show (j + 1) * 6 = r.row.length + j * 6 by simp [TR.row]; omega, List.drop_append]
   rw [@List.drop_eq_nil_of_le _ r.row _ (by omega), List.nil_append, show r.row.length + j * 6 - r.row.length = j * 6 by omega]
   simpa using this
theorem rowC_set (rs : List TR) (j k : Nat) (r' : TR) (v : Value) (h : j < rs.length) (hk : k < 6) (hv : rs[j].row.set k v = r'.row) : (h5i rs).set (j * 6 + k) v = h5i (rs.set j r') := by
 induction rs generalizing j with
 | nil => simp at h
 | cons r rs ih =>
  cases j with
  | zero =>
   simp only [Nat.zero_mul, Nat.zero_add, List.set_cons_zero, List.getElem_cons_zero] at hv ⊢
   rw [show h5i (r :: rs) = r.row ++ h5i rs by simp [h5i], show h5i (r' :: rs) = r'.row ++ h5i rs by simp [h5i], List.set_append_left _ _ (by simp [TR.row]; omega), hv]
  | succ j =>
   simp only [List.set_cons_succ]
   rw [show h5i (r :: rs) = r.row ++ h5i rs by simp [h5i], show h5i (r :: rs.set j r') = r.row ++ h5i (rs.set j r') by simp [h5i], show (j + 1) * 6 + k = r.row.length + (j * 6 + k) by simp [TR.row]; omega, List.set_append_right _ _ (by omega)]
   rw [show r.row.length + (j * 6 + k) - r.row.length = j * 6 + k by omega, ih j (by simpa using h) (by simpa using hv)]
theorem tsB_front {ts : List TR} {j : Nat} {t : TR} (h : ts[j]? = some t) : (tsB ts).Perm (t.bl ++ tsB (ts.eraseIdx j)) := by
 induction ts generalizing j with
 | nil => simp at h
 | cons x ts ih =>
  cases j with
  | zero => simp at h; subst h; simp [tsB]
  | succ j =>
   have := ih (j:=j) (by simpa using h)
   show (x.bl ++ tsB ts).Perm (t.bl ++ (x.bl ++ tsB (ts.eraseIdx j)))
   exact (this.append_left x.bl).trans (List.perm_append_comm_assoc _ _ _)
theorem tsB_back {ts : List TR} {j : Nat} (t' : TR) (h : j < ts.length) : (t'.bl ++ tsB (ts.eraseIdx j)).Perm (tsB (ts.set j t')) := by
 have h1 : (ts.set j t')[j]? = some t' := by rw [List.getElem?_set]; simp [h]
 have h2 := (tsB_front h1).symm
 have h3 : (ts.set j t').eraseIdx j = ts.eraseIdx j := by
  rw [List.eraseIdx_eq_take_drop_succ, List.eraseIdx_eq_take_drop_succ, List.take_set_of_le (Nat.le_refl _), List.drop_set_of_lt (Nat.lt_succ_self _)]
 rwa [h3] at h2
theorem tsB_snoc (ts : List TR) (t : TR) : tsB (ts ++ [t]) = tsB ts ++ t.bl := by simp [tsB]
theorem tsB_mem {ts : List TR} {t : TR} (h : t ∈ ts) : ∀ x ∈ t.bl, x ∈ tsB ts := fun x hx => List.mem_flatMap.2 ⟨t, h, hx⟩
structure TOk (FB : List FE) (t : TR) : Prop where
 fo : FOwn t.fv t.fs t.fe
 ao : Own 22 1 t.av t.fs.length (t.fs.map u32C) t.ae
 oo : Own 60 2 t.ov (opn t.sl).length ((opn t.sl).flatMap plC) t.oe
 l16 : t.sl.length ≤ 16
 f16 : t.fs.length ≤ 16
 fb : ∀ f ∈ t.fs, ∃ e ∈ FB, e.n = f.1 ∧ e.k = f.2
 fn : (t.fs.map (·.1)).Nodup
 par : 0 ≤ t.par ∧ t.par < 256
structure PlI (most : Int) (i : Nat) (ts : List TR) (FB : List FE) (en : List KV) (c ce nx : Nat) : Prop where
 ok : ∀ t ∈ ts, TOk FB t
 so : (ts.map (·.id)).Pairwise (· < ·)
 ids : ∀ t ∈ ts, 1 ≤ t.id ∧ t.id < nx
 nxr : 2 ≤ nx ∧ nx ≤ i + 2
 used : ∀ n : Nat, 1 ≤ n → n < nx → ((n : Int) ∈ ts.map (·.id) ∨ (n : Int) ∈ en.map (·.k))
 enr : ∀ x ∈ en, 1 ≤ x.k ∧ x.k < nx ∧ x.k ∉ ts.map (·.id)
 enk : (en.map (·.k)).Nodup
 enb : (en.map (·.b)).Nodup
 enl : ∀ x ∈ en, x.b < ce
 bn : (ts.map (·.b)).Nodup
 bl : ∀ t ∈ ts, t.b < c
 len : (ts.length : Int) ≤ most
 fbs : ∀ e ∈ FB, IsSrc e.cur [⟨6, 0, 0, e.k⟩] e.cap ∧ (0 ≤ e.k ∧ e.k < 4294967296)
def Ran (FB : List FE) (n : Nat) : Prop := ∀ e ∈ FB, 0 ≤ e.r ∧ e.r ≤ n
theorem FOk.mono {X L : List Blk} {v : Value} {fs : List (Nat × Int)} (h : FOk X v fs) (hs : SubB X L) : FOk L v fs := by
 rcases h with h | ⟨g, cap, h1, h2, h3⟩
 ·exact .inl h
 ·exact .inr ⟨g, cap, h1, h2, h3.mono hs⟩
theorem TOk.has {FB : List FE} {t : TR} (h : TOk FB t) {L : List Blk} (hL : SubB t.bl L) : THas L t := by
 have hm : ∀ x, x ∈ t.bl → ∃ i : Nat, L[i]? = some x := fun x hx => List.mem_iff_getElem?.1 (hL.mem x hx)
 refine ⟨hm _ (by simp [TR.bl]), hm _ (by simp [TR.bl]), fun s hs => hm _ ?_, ?_, h.l16, h.f16⟩
 ·simp only [TR.bl, List.mem_cons, List.mem_append, List.mem_map]
  exact .inr (.inr (.inl ⟨s, hs, rfl⟩))
 ·have := h.fo.ok []
  rw [List.append_nil] at this
  refine this.mono ⟨fun x hx => hL.mem x ?_⟩
  simp only [TR.bl, List.mem_cons, List.mem_append]
  exact .inr (.inr (.inr (.inl hx)))
theorem tsB_sub {ts : List TR} {t : TR} (h : t ∈ ts) : SubB t.bl (tsB ts) := ⟨tsB_mem h⟩
theorem SubB.trans {X Y Z : List Blk} (h : SubB X Y) (h' : SubB Y Z) : SubB X Z := ⟨fun b hb => h'.mem b (h.mem b hb)⟩
theorem PlI.up {most : Int} {i : Nat} {ts : List TR} {FB : List FE} {en : List KV} {c ce nx : Nat} (h : PlI most i ts FB en c ce nx) : PlI most (i + 1) ts FB en c ce nx :=
 ⟨h.ok, h.so, h.ids, by have := h.nxr; omega, h.used, h.enr, h.enk, h.enb, h.enl, h.bn, h.bl, h.len, h.fbs⟩
theorem map_set_sm {α β : Type} (f : α → β) (l : List α) (j : Nat) (x y : α) (h : l[j]? = some x) (e : f y = f x) : (l.set j y).map f = l.map f := by
 rw [List.map_set, e]
 apply List.ext_getElem?
 intro i
 rw [List.getElem?_set]
 by_cases c : j = i
 ·subst c
  obtain ⟨hl, he⟩ := List.getElem?_eq_some_iff.1 h
  simp [hl, he]
 ·simp [c]
theorem PlI.set {most : Int} {i : Nat} {ts : List TR} {FB FB' : List FE} {en : List KV} {c ce nx : Nat} (h : PlI most i ts FB en c ce nx) {j : Nat} {t t' : TR} (ht : ts[j]? = some t) (h1 : t'.id = t.id) (h2 : t'.b = t.b) (hk : TOk FB' t') (hFB : ∀ u, TOk FB u → TOk FB' u) (hfb : ∀ e ∈ FB', IsSrc e.cur [⟨6, 0, 0, e.k⟩] e.cap ∧ (0 ≤ e.k ∧ e.k < 4294967296)) : PlI most i (ts.set j t') FB' en c ce nx := by
 have hm := List.mem_of_getElem? ht
 have e1 := map_set_sm (·.id) ts j t t' ht h1
 have e2 := map_set_sm (·.b) ts j t t' ht h2
 refine ⟨fun u hu => ?_, by rw [e1]; exact h.so, fun u hu => ?_, h.nxr, by rw [e1]; exact h.used, by rw [e1]; exact h.enr, h.enk, h.enb, h.enl, by rw [e2]; exact h.bn, fun u hu => ?_, by rw [List.length_set]; exact h.len, hfb⟩
 ·rcases List.mem_or_eq_of_mem_set hu with hu | rfl
  ·exact hFB u (h.ok u hu)
  ·exact hk
 ·rcases List.mem_or_eq_of_mem_set hu with hu | rfl
  ·exact h.ids u hu
  ·rw [h1]; exact h.ids t hm
 ·rcases List.mem_or_eq_of_mem_set hu with hu | rfl
  ·exact h.bl u hu
  ·rw [h2]; exact h.bl t hm
theorem PlI.end_ {most : Int} {i : Nat} {ts : List TR} {FB : List FE} {en : List KV} {c ce nx : Nat} (h : PlI most i ts FB en c ce nx) {j : Nat} {t : TR} (ht : ts[j]? = some t) (code : Int) : PlI most i (ts.eraseIdx j) FB (en ++ [⟨t.id, code, ce⟩]) c (ce + 1) nx := by
 have hm := List.mem_of_getElem? ht
 have hs : (ts.eraseIdx j).Sublist ts := List.eraseIdx_sublist ..
 have hnd := sorted_nodup h.so
 have hin : ∀ n, n ∈ ts.map (·.id) → n ∈ (ts.eraseIdx j).map (·.id) ∨ n = t.id := fun n hn => by
  obtain ⟨u, hu, rfl⟩ := List.mem_map.1 hn
  obtain ⟨k, hk⟩ := List.mem_iff_getElem?.1 hu
  by_cases e : k = j
  ·subst e; rw [ht] at hk; injection hk with hk; subst hk; exact .inr rfl
  ·left
   refine List.mem_map_of_mem (List.mem_iff_getElem?.2 ?_)
   by_cases c : k < j
   ·exact ⟨k, by rw [List.getElem?_eraseIdx, if_pos c]; exact hk⟩
   ·exact ⟨k - 1, by rw [List.getElem?_eraseIdx, if_neg (by omega), show k - 1 + 1 = k by omega]; exact hk⟩
 have hout : t.id ∉ (ts.eraseIdx j).map (·.id) := fun hc => by
  rw [← map_erase] at hc
  have h1 : (ts.map (·.id))[j]? = some t.id := by rw [List.getElem?_map, ht]; rfl
  obtain ⟨k, hk⟩ := List.mem_iff_getElem?.1 hc
  rw [List.getElem?_eraseIdx] at hk
  have key : ∀ k, (ts.map (·.id))[k]? = some t.id → k = j := fun k hk => by
   have a := kix_nd hnd hk
   have b := kix_nd hnd h1
   rw [a] at b; injection b
  split at hk
  ·have := key _ hk; omega
  ·have := key _ hk; omega
 refine ⟨fun u hu => h.ok u (hs.mem hu), h.so.sublist (hs.map _), fun u hu => h.ids u (hs.mem hu), h.nxr, fun n h1 h2 => ?_, fun x hx => ?_, ?_, ?_, fun x hx => ?_, (hs.map _).nodup h.bn, fun u hu => h.bl u (hs.mem hu), by have := h.len; have := hs.length_le; omega, h.fbs⟩
 ·rcases h.used n h1 h2 with hu | hu
  ·rcases hin _ hu with hu | hu
   ·exact .inl hu
   ·right; rw [hu]; simp
  ·right; simp only [List.map_append, List.mem_append]; exact .inl hu
 ·rcases List.mem_append.1 hx with hx | hx
  ·have := h.enr x hx
   exact ⟨this.1, this.2.1, fun hc => this.2.2 ((hs.map _).mem hc)⟩
  ·simp at hx; subst hx
   have := h.ids t hm
   exact ⟨this.1, this.2, hout⟩
 ·rw [List.map_append, List.nodup_append]
  refine ⟨h.enk, by simp, ?_⟩
  rintro a ha b hb rfl
  simp at hb; subst hb
  obtain ⟨x, hx, e⟩ := List.mem_map.1 ha
  have := (h.enr x hx).2.2
  rw [e] at this
  exact this (List.mem_map_of_mem hm)
 ·rw [List.map_append, List.nodup_append]
  refine ⟨h.enb, by simp, ?_⟩
  rintro a ha b hb rfl
  simp at hb; subst hb
  obtain ⟨x, hx, e⟩ := List.mem_map.1 ha
  have := h.enl x hx
  omega
 ·rcases List.mem_append.1 hx with hx | hx
  ·have := h.enl x hx; omega
  ·simp at hx; subst hx; simp
theorem PlI.fork {most : Int} {i : Nat} {ts : List TR} {FB : List FE} {en : List KV} {c ce nx : Nat} (h : PlI most i ts FB en c ce nx) (hl : (ts.length : Int) < most) (t : TR) (h1 : t.id = nx) (h2 : t.b = c) (hk : TOk FB t) : PlI most (i + 1) (ts ++ [t]) FB en (c + 1) ce (nx + 1) := by
 have hn := h.nxr
 refine ⟨fun u hu => ?_, ?_, fun u hu => ?_, by omega, fun n a b => ?_, fun x hx => ?_, h.enk, h.enb, h.enl, ?_, fun u hu => ?_, by simp; omega, h.fbs⟩
 ·rcases List.mem_append.1 hu with hu | hu
  ·exact h.ok u hu
  ·simp at hu; subst hu; exact hk
 ·rw [List.map_append, List.pairwise_append]
  refine ⟨h.so, by simp, ?_⟩
  intro a ha b hb
  simp at hb; subst hb
  obtain ⟨x, hx, e⟩ := List.mem_map.1 ha
  have := h.ids x hx
  omega
 ·rcases List.mem_append.1 hu with hu | hu
  ·have := h.ids u hu; omega
  ·simp at hu; subst hu; omega
 ·by_cases e : n = nx
  ·left; subst e; simp [h1]
  ·rcases h.used n a (by omega) with hu | hu
   ·left; simp only [List.map_append, List.mem_append]; exact .inl hu
   ·exact .inr hu
 ·have := h.enr x hx
  refine ⟨this.1, by omega, ?_⟩
  simp only [List.map_append, List.mem_append, List.map_cons, List.map_nil, List.mem_singleton]
  rintro (hc | hc)
  ·exact this.2.2 hc
  ·omega
 ·rw [List.map_append, List.nodup_append]
  refine ⟨h.bn, by simp, ?_⟩
  rintro a ha b hb rfl
  simp at hb; subst hb
  obtain ⟨x, hx, e⟩ := List.mem_map.1 ha
  have := h.bl x hx
  omega
 ·rcases List.mem_append.1 hu with hu | hu
  ·have := h.bl u hu; omega
  ·simp at hu; subst hu; omega
theorem PlI.fresh {most : Int} {i : Nat} {ts : List TR} {FB : List FE} {en : List KV} {c ce nx : Nat} (h : PlI most i ts FB en c ce nx) : ¬ ((nx : Int) ∈ ts.map (·.id) ∨ (nx : Int) ∈ en.map (·.k)) := by
 rintro (hc | hc)
 ·obtain ⟨x, hx, e⟩ := List.mem_map.1 hc
  have := h.ids x hx; omega
 ·obtain ⟨x, hx, e⟩ := List.mem_map.1 hc
  have := h.enr x hx; omega
theorem fe_pull {FB : List FE} {fs : List (Nat × Int)} (h : ∀ f ∈ fs, ∃ e ∈ FB, e.n = f.1 ∧ e.k = f.2) (hn : (fs.map (·.1)).Nodup) : ∃ sel rest, FB.Perm (sel ++ rest) ∧ sel.map (fun e => (e.n, e.k)) = fs := by
 induction fs generalizing FB with
 | nil => exact ⟨[], FB, .refl _, rfl⟩
 | cons f fs ih =>
  rw [List.map_cons, List.nodup_cons] at hn
  obtain ⟨e, he, h1, h2⟩ := h f (by simp)
  obtain ⟨s, t, rfl⟩ := List.append_of_mem he
  have hp : (s ++ e :: t).Perm (e :: (s ++ t)) := List.perm_middle
  obtain ⟨sel, rest, h3, h4⟩ := ih (FB:=s ++ t) (fun g hg => by
   obtain ⟨e', he', h5, h6⟩ := h g (by simp [hg])
   rcases List.mem_cons.1 (hp.mem_iff.1 he') with rfl | he'
   ·exact (hn.1 (by rw [← h1, h5]; exact List.mem_map_of_mem hg)).elim
   ·exact ⟨e', he', h5, h6⟩) hn.2
  exact ⟨e :: sel, rest, hp.trans (h3.cons e), by rw [List.map_cons, h4, h1, h2]⟩
theorem fesB_perm {a b : List FE} (h : a.Perm b) : (h4r a).Perm (h4r b) := List.Perm.flatMap_right _ h
theorem TOk.mono {FB FB' : List FE} {t : TR} (h : TOk FB t) (hs : ∀ e ∈ FB, ∃ e' ∈ FB', e'.n = e.n ∧ e'.k = e.k) : TOk FB' t :=
 ⟨h.fo, h.ao, h.oo, h.l16, h.f16, fun f hf => by obtain ⟨e, he, h1, h2⟩ := h.fb f hf; obtain ⟨e', he', h3, h4⟩ := hs e he; exact ⟨e', he', by rw [h3, h1], by rw [h4, h2]⟩, h.fn, h.par⟩
def rwA (ts : List TR) (rest : List Value) : List Value := h5i ts ++ rest
theorem rwA_len (ts : List TR) (rest : List Value) : (rwA ts rest).length = ts.length * 6 + rest.length := by simp [rwA, rowC_len]
theorem rwA_of {cur : Array Value} {ts : List TR} (h : cur.toList.take (ts.length * 6) = h5i ts) : ∃ rest, cur = (rwA ts rest).toArray := by
 refine ⟨cur.toList.drop (ts.length * 6), ?_⟩
 rw [rwA, ← h, List.take_append_drop]
theorem rwA_at {ts : List TR} (rest : List Value) {j : Nat} {t : TR} (h : ts[j]? = some t) (k : Nat) (hk : k < 6) : (rwA ts rest).toArray.toList[j * 6 + k]? = t.row[k]? := by
 obtain ⟨hj, rfl⟩ := List.getElem?_eq_some_iff.1 h
 have hc := rowC_len ts
 show (h5i ts ++ rest)[j * 6 + k]? = _
 rw [List.getElem?_append_left (by omega), ← rowC_at ts j hj, List.getElem?_take, if_pos hk, List.getElem?_drop]
theorem rwA_set {ts : List TR} (rest : List Value) {j : Nat} (k : Nat) {t t' : TR} {v : Value} (hk : k < 6) (h : ts[j]? = some t) (hv : t.row.set k v = t'.row) : (rwA ts rest).set (j * 6 + k) v = rwA (ts.set j t') rest := by
 obtain ⟨hj, rfl⟩ := List.getElem?_eq_some_iff.1 h
 have hc := rowC_len ts
 rw [rwA, List.set_append_left _ _ (by omega), rowC_set ts j k t' v hj hk hv]; rfl
theorem splice2 {cs : List Value} {off : Nat} {a b : Value} (h : off + 2 ≤ cs.length) : splice cs off [a, b] = (cs.set off a).set (off + 1) b := by
 induction cs generalizing off with
 | nil => simp at h
 | cons x cs ih =>
  cases off with
  | zero =>
   cases cs with
   | nil => simp at h
   | cons y cs => simp [splice]
  | succ off =>
   have := ih (off:=off) (by simp at h; omega)
   simp only [splice, List.take_succ_cons, List.cons_append, List.length_cons, List.length_nil, List.set_cons_succ, List.cons.injEq, true_and] at this ⊢
   rw [show off + 1 + (0 + 1 + 1) = (off + (0 + 1 + 1)) + 1 by omega, List.drop_succ_cons]
   exact this
theorem rwA_pl {ts : List TR} (rest : List Value) {j : Nat} {t : TR} (h : ts[j]? = some t) (m n : Int) : splice (rwA ts rest) (j * 6 + 3) [.int .i64 m, .int .u16 n] = rwA (ts.set j { t with m := m, n := n }) rest := by
 obtain ⟨hj, _⟩ := List.getElem?_eq_some_iff.1 h
 rw [splice2 (by rw [rwA_len]; omega), rwA_set rest 3 (t' := { t with m := m }) (by omega) h rfl, rwA_set rest 4 (t:={ t with m := m }) (t' := { t with m := m, n := n }) (by omega) (by simp [hj]) rfl, List.set_set]
theorem tE_set {ts : List TR} {j : Nat} {t t' : TR} (h : ts[j]? = some t) (h1 : t'.id = t.id) (h2 : t'.p = t.p) (h3 : t'.b = t.b) : tE (ts.set j t') = tE ts := map_set_sm _ ts j t t' h (by rw [h1, h2, h3])
theorem own_rwA {E g cap : Nat} {ts ts0 : List TR} {rest : List Value} (hn : ts.length = ts0.length) (h1 : ts0.length ≤ cap) (h2 : cap ≤ maxLen) (h3 : (rwA ts0 rest).toArray.size = cap * 6) : Own E 6 (.slice (some ⟨g, 0, none⟩) ts0.length cap) ts.length (h5i ts) [⟨true, g, .cells (rwA ts rest).toArray E (0, 0)⟩] := by
 rw [← hn] at h1 ⊢
 refine own_mk h1 h2 ?_ ?_
 ·rw [List.size_toArray, rwA_len] at h3 ⊢; omega
 ·show (h5i ts ++ rest).take (ts.length * 6) = _
  rw [List.take_append_of_le_length (by rw [rowC_len]; exact Nat.le_refl _), List.take_of_length_le (by rw [rowC_len]; exact Nat.le_refl _)]
abbrev tkL (t : TR) (Y : List Blk) : List Blk := tkW t.p t.f t.id t.par t.m t.n t.fv :: fdR t.f t.sl :: (t.sl.map opR ++ (t.fe ++ (t.ae ++ (t.oe ++ Y))))
theorem task_front {ts : List TR} {j : Nat} {t : TR} (h : ts[j]? = some t) (X : List Blk) : (tsB ts ++ X).Perm (tkL t (tsB (ts.eraseIdx j) ++ X)) := by
 refine ((tsB_front h).append_right X).trans ?_
 simp only [tkL, TR.bl, List.cons_append, List.append_assoc]
 exact .refl _
theorem task_back {ts : List TR} {j : Nat} (t : TR) (h : j < ts.length) (X : List Blk) : (tkL t (tsB (ts.eraseIdx j) ++ X)).Perm (tsB (ts.set j t) ++ X) := by
 refine .trans ?_ ((tsB_back t h).append_right X)
 simp only [tkL, TR.bl, List.cons_append, List.append_assoc]
 exact .refl _
theorem fe_fresh {S : List Nat} {w0 w : World} {n : Nat} {v : Value} {a b : Int} {X Y L : List Blk} {FB : List FE} (H : HP S w0 w (flB n v a b :: (X ++ (Y ++ (h4r FB ++ L))))) : ∀ e ∈ FB, e.n ≠ n := fun e he h => by
 have h1 := (List.pairwise_cons.1 H.sep).1 (flB e.n (.slice (some ⟨e.g, 0, none⟩) 1 e.cap) e.r e.r) (List.mem_append_right _ (List.mem_append_right _ (List.mem_append_left _ (List.mem_flatMap.2 ⟨e, he, by simp [FE.b]⟩))))
 exact h1 (.inl rfl) h.symm
theorem fesB_snoc (l : List FE) (e : FE) : h4r (l ++ [e]) = h4r l ++ e.b := by simp [h4r]
theorem TOk.filt {FB : List FE} {t : TR} (h : TOk FB t) (hl : t.fs.length < 16) (e : FE) (hne : ∀ x ∈ FB, x.n ≠ e.n) {fv av : Value} {fe ae : List Blk} (hf : FOwn fv (t.fs ++ [(e.n, e.k)]) fe) (ha : Own 22 1 av (t.fs.length + 1) (t.fs.map u32C ++ [.int .u32 e.k]) ae) : TOk (FB ++ [e]) { t with fs := t.fs ++ [(e.n, e.k)], fv := fv, fe := fe, av := av, ae := ae } := by
 refine ⟨hf, ?_, h.oo, h.l16, by simp; omega, fun f hf => ?_, ?_, h.par⟩
 ·simpa [u32C] using ha
 ·rcases List.mem_append.1 hf with hf | hf
  ·obtain ⟨x, hx, h1, h2⟩ := h.fb f hf
   exact ⟨x, List.mem_append_left _ hx, h1, h2⟩
  ·simp at hf; subst hf
   exact ⟨e, by simp, rfl, rfl⟩
 ·rw [List.map_append, List.nodup_append]
  refine ⟨h.fn, by simp, ?_⟩
  rintro a ha b hb rfl
  simp at hb; subst hb
  obtain ⟨f, hf, e1⟩ := List.mem_map.1 ha
  obtain ⟨x, hx, h1, h2⟩ := h.fb f hf
  exact hne x hx (by rw [h1, e1])
theorem rowC_one (ts : List TR) (h : ∀ t ∈ ts, t.av.oneCell' = true ∧ t.ov.oneCell' = true) : (h5i ts).all (·.oneCell') = true := by
 induction ts with
 | nil => rfl
 | cons r rs ih =>
  obtain ⟨h1, h2⟩ := h r (by simp)
  rw [show h5i (r :: rs) = r.row ++ h5i rs by simp [h5i], List.all_append, ih (fun t ht => h t (by simp [ht]))]
  simp only [TR.row, List.all_cons, List.all_nil, h1, h2]
  rfl
theorem rowC_take (rs : List TR) (j : Nat) : (h5i rs).take (j * 6) = h5i (rs.take j) := by
 induction rs generalizing j with
 | nil => simp [h5i]
 | cons r rs ih =>
  cases j with
  | zero => simp [h5i]
  | succ j =>
   rw [show h5i (r :: rs) = r.row ++ h5i rs by simp [h5i], show (j + 1) * 6 = r.row.length + j * 6 by simp [TR.row]; omega, List.take_append, List.take_of_length_le (by omega), show r.row.length + j * 6 - r.row.length = j * 6 by omega, ih]
   simp [h5i]
theorem rowC_drop {rs : List TR} {j n : Nat} (h : rs.length = n) : ((h5i rs).drop (j * 6)).take ((n - j) * 6) = h5i (rs.drop j) := by
 subst h
 have e : (h5i rs).drop (j * 6) = h5i (rs.drop j) := by
  induction rs generalizing j with
  | nil => simp [h5i]
  | cons r rs ih =>
   cases j with
   | zero => simp
   | succ j =>
    rw [show h5i (r :: rs) = r.row ++ h5i rs by simp [h5i], show (j + 1) * 6 = r.row.length + j * 6 by simp [TR.row]; omega, List.drop_append, @List.drop_eq_nil_of_le _ r.row _ (by omega), List.nil_append, show r.row.length + j * 6 - r.row.length = j * 6 by omega, ih]
    simp
 rw [e, List.take_of_length_le (by rw [rowC_len, List.length_drop]; exact Nat.le_refl _)]
theorem Sli.cut06 {L : List Blk} {a : Option Addr} {len j : Nat} {cells : List Value} (h : Sli L a len 6 cells) (hj : j ≤ len) : Sli L a j 6 (cells.take (j * 6)) := by
 refine ⟨by have := h.1; simp; omega, ?_⟩
 rcases h.2 with h0 | ⟨i, q, b, off, cs, T, fr, h1, h2, h3, h4⟩
 ·exact .inl (by omega)
 ·refine .inr ⟨i, q, b, off, cs, T, fr, h1, h2, by omega, ?_⟩
  rw [← h4, List.take_take, Nat.min_eq_left (by omega)]
theorem rwA_sli {E g cap : Nat} {ts : List TR} {rest : List Value} {L : List Blk} (h3 : (rwA ts rest).toArray.size = cap * 6) (h1 : ts.length ≤ cap) : Sli (⟨true, g, .cells (rwA ts rest).toArray E (0, 0)⟩ :: L) (some ⟨g, 0, none⟩) ts.length 6 (h5i ts) := by
 refine Sli.of (i:=0) rfl ?_ ?_
 ·rw [List.size_toArray, rwA_len] at h3 ⊢; omega
 ·show ((h5i ts ++ rest).drop 0).take (ts.length * 6) = _
  rw [List.drop_zero, List.take_append_of_le_length (by rw [rowC_len]; exact Nat.le_refl _), List.take_of_length_le (by rw [rowC_len]; exact Nat.le_refl _)]
theorem rowC_erased {rs : List TR} {j : Nat} : h5i (List.take j rs) ++ h5i (List.drop j.succ rs) = h5i (rs.eraseIdx j) := by
 rw [show h5i (List.take j rs) ++ h5i (List.drop j.succ rs) = h5i (List.take j rs ++ List.drop j.succ rs) by simp [h5i], List.eraseIdx_eq_take_drop_succ]
theorem len_erased {rs : List TR} {j : Nat} (h : j < rs.length) : j + (rs.length - ((j : Int) + 1).toNat) = (rs.eraseIdx j).length := by
 rw [List.length_eraseIdx, if_pos h]; omega
theorem rwA_row {ts : List TR} (rest : List Value) {j : Nat} {t : TR} (h : ts[j]? = some t) : ((rwA ts rest).toArray.toList.drop (j * 6)).take 6 = t.row := by
 obtain ⟨hj, rfl⟩ := List.getElem?_eq_some_iff.1 h
 have hc := rowC_len ts
 show ((h5i ts ++ rest).drop (j * 6)).take 6 = _
 rw [List.drop_append_of_le_length (by omega), List.take_append_of_le_length (by rw [List.length_drop]; omega), rowC_at ts j hj]
theorem un_opn : {l l' : List SL} → l'.map SL.un = l.map SL.un → (opn l').length = (opn l).length ∧ (opn l').flatMap plC = (opn l).flatMap plC
 | [], [], _ => ⟨rfl, rfl⟩
 | [], _ :: _, h => by simp at h
 | _ :: _, [], h => by simp at h
 | a :: l, b :: l', h => by
  rw [List.map_cons, List.map_cons] at h
  injection h with h1 h2
  obtain ⟨i1, i2⟩ := un_opn h2
  have hk : b.k = a.k := congrArg (·.1) h1
  have hm : b.m = a.m := congrArg (·.2.1) h1
  have hn : b.n = a.n := congrArg (·.2.2) h1
  by_cases c : a.k = 3
  ·have e1 : opn (a :: l) = opn l := by simp [opn, c]
   have e2 : opn (b :: l') = opn l' := by simp [opn, hk, c]
   rw [e1, e2]; exact ⟨i1, i2⟩
  ·have e1 : opn (a :: l) = a :: opn l := by simp [opn, c]
   have e2 : opn (b :: l') = b :: opn l' := by simp [opn, hk, c]
   rw [e1, e2, List.length_cons, List.length_cons, List.flatMap_cons, List.flatMap_cons, i1, i2]
   exact ⟨rfl, by simp [plC, hm, hn]⟩
theorem rowC_snoc (ts : List TR) (t : TR) : h5i (ts ++ [t]) = h5i ts ++ t.row := by simp [h5i]
theorem plC_one (l : List SL) : (l.flatMap plC).all (·.oneCell') = true := by
 induction l with
 | nil => rfl
 | cons s l ih => rw [List.flatMap_cons, List.all_append, ih]; rfl
theorem u32C_one (l : List (Nat × Int)) : (l.map u32C).all (·.oneCell') = true := by
 induction l with
 | nil => rfl
 | cons s l ih => rw [List.map_cons, List.all_cons, ih]; rfl
theorem TOk.forked {FB : List FE} {t : TR} (h : TOk FB t) {sl' : List SL} (hun : sl'.map SL.un = t.sl.map SL.un) {fv' : Value} {e' : List Blk} (hf : FOwn fv' t.fs e') {av ov : Value} {ae oe : List Blk} (ha : Own 22 1 av t.fs.length (t.fs.map u32C) ae) (ho : Own 60 2 ov (opn t.sl).length ((opn t.sl).flatMap plC) oe) (id d m n : Int) (p f b : Nat) (hd : 0 ≤ d ∧ d < 256) : TOk FB ⟨id, d, m, n, p, f, b, sl', fv', e', t.fs, av, ae, ov, oe⟩ := by
 obtain ⟨h1, h2⟩ := un_opn hun
 refine ⟨hf, ha, by rw [h1, h2]; exact ho, ?_, h.f16, h.fb, h.fn, hd⟩
 have := congrArg List.length hun
 have h3 := h.l16
 simp only [List.length_map] at this
 dsimp only
 omega
theorem PlI.fb {most : Int} {i : Nat} {ts : List TR} {FB FB' : List FE} {en : List KV} {c ce nx : Nat} (h : PlI most i ts FB en c ce nx) (h1 : ∀ t ∈ ts, TOk FB' t) (h2 : ∀ e ∈ FB', IsSrc e.cur [⟨6, 0, 0, e.k⟩] e.cap ∧ (0 ≤ e.k ∧ e.k < 4294967296)) : PlI most i ts FB' en c ce nx :=
 ⟨h1, h.so, h.ids, h.nxr, h.used, h.enr, h.enk, h.enb, h.enl, h.bn, h.bl, h.len, h2⟩
theorem set_self {α : Type} {l : List α} {j : Nat} {x : α} (h : l[j]? = some x) : l.set j x = l := by
 apply List.ext_getElem?
 intro i
 rw [List.getElem?_set]
 by_cases c : j = i
 ·subst c
  obtain ⟨hl, he⟩ := List.getElem?_eq_some_iff.1 h
  simp [hl, he]
 ·simp [c]
theorem rwA_same {ts : List TR} (rest : List Value) {j : Nat} (hj : j < ts.length) {u v : TR} (h : u.row = v.row) : rwA (ts.set j u) rest = rwA (ts.set j v) rest := by
 have h1 : h5i (ts.set j u) = h5i (ts.set j v) := by
  have := map_set_sm TR.row (ts.set j u) j u v (by simp [hj]) h.symm
  rw [List.set_set] at this
  rw [h5i, h5i, List.flatMap_def, List.flatMap_def, this]
 rw [rwA, rwA, h1]
theorem opn_snoc (l : List SL) (s : SL) : opn (l ++ [s]) = if s.k = 3 then opn l else opn l ++ [s] := by
 rw [opn, List.filter_append, ← opn]
 by_cases h : s.k = 3
 ·rw [if_pos h]; simp [h]
 ·rw [if_neg h]; simp [h]
theorem TOk.sock {FB : List FE} {t : TR} (h : TOk FB t) (hl : t.sl.length < 16) (q : Nat) (m n : Int) : TOk FB { t with sl := t.sl ++ [⟨q, 3, m, n⟩] } :=
 ⟨h.fo, h.ao, by rw [opn_snoc, if_pos rfl]; exact h.oo, by simp; omega, h.f16, h.fb, h.fn, h.par⟩
theorem TOk.dir {FB : List FE} {t : TR} (h : TOk FB t) (hl : t.sl.length < 16) (q : Nat) (m n : Int) {v : Value} {e : List Blk} (ho : Own 60 2 v ((opn t.sl).length + 1) ((opn t.sl).flatMap plC ++ [.int .i64 m, .int .u16 n]) e) : TOk FB { t with sl := t.sl ++ [⟨q, 2, m, n⟩], ov := v, oe := e } :=
 ⟨h.fo, h.ao, by rw [opn_snoc, if_neg (show ¬ (2 : Int) = 3 by decide)]; simpa [plC] using ho, by simp; omega, h.f16, h.fb, h.fn, h.par⟩
theorem tfilter_nil {S w0 L} (f : Option Addr) : Fn Try.prog 16 #[.pointer none, .pointer f] S w0 L fun v L' => v = .int .i64 201 ∧ L = L' := by
 refine Fn2 Try.func16 Try.ntmps16 rfl rfl ?_
 repeat' (first | refine h0u ?_ | refine h0c ?_ | refine h0g ?_ | refine h0q ?_ | refine h1n ?_ | refine h2p ?_ | refine h0v ?_ | refine h1v ?_ | refine h0y ?_ | refine h2j ?_ | refine h1m ?_ | refine h2s rfl ?_ | refine h0p ?_ | refine h1c ?_ | refine h2a ?_ | refine h2w ?_ | refine h0s rfl ?_ | refine h0n rfl ?_ | (refine gR 0 ?_ <;> (try refine h0a ?_; (first | (refine q_k (h0e rfl) ?_))) <;> (try refine h0c ?_)) | (refine gR 1 ?_ <;> (try refine h0a ?_; (first | (refine q_k (h0b rfl) ?_))) <;> (try refine h0a ?_; (first | (refine q_k (by exact q_b (r:=by first | exact h2r Try.underlying29 | exact h4w Try.underlying29 | exact rb_peq_ns Try.underlying29)) ?_))) <;> (try refine h0a ?_; (first | (refine q_k (h0b rfl) ?_))) <;> (try refine h0a ?_; (first | refine h2x rfl rfl rfl rfl ?_ | (refine h3w rfl rfl rfl ?_) | (refine h1y rfl rfl rfl ?_; (first | (refine q_k (h0b rfl) ?_))) | ((first | (refine h1w rfl rfl (fun hc => ?_) (fun hc => ?_)) | (refine h2c rfl rfl (fun hc => ?_) (fun hc => ?_)) | (refine h2t rfl rfl (fun hc => ?_) (fun hc => ?_))) <;> (try subst hc) <;> (first | refine h2x rfl rfl rfl rfl ?_ | (refine h1y rfl rfl rfl ?_; (first | (refine q_k (h0b rfl) ?_))))))) <;> (try refine h0a ?_; (first | refine h2x rfl rfl rfl rfl ?_ | (refine h3w rfl rfl rfl ?_) | (refine h1y rfl rfl rfl ?_; (first | (refine q_k (by exact q_b (r:=by first | exact h2r Try.underlying36 | exact h4w Try.underlying36 | exact rb_peq_ns Try.underlying36)) ?_))) | ((first | (refine h1w rfl rfl (fun hc => ?_) (fun hc => ?_)) | (refine h2c rfl rfl (fun hc => ?_) (fun hc => ?_)) | (refine h2t rfl rfl (fun hc => ?_) (fun hc => ?_))) <;> (try subst hc) <;> (first | refine h2x rfl rfl rfl rfl ?_ | (refine h1y rfl rfl rfl ?_; (first | (refine q_k (by exact q_b (r:=by first | exact h2r Try.underlying36 | exact h4w Try.underlying36 | exact rb_peq_ns Try.underlying36)) ?_))))))) <;> (try refine h0a ?_; (first | (refine q_k (h3p rfl rfl) ?_))) <;> (try refine h0a ?_; (first | (refine q_k (h0e rfl) ?_))) <;> (try refine h0c ?_)) | (refine gR 2 ?_ <;> (try refine h0a ?_; (first | (refine q_k (h0e rfl) ?_))) <;> (try refine h0c ?_)) | (refine gR 3 ?_ <;> (try refine h0a ?_; (first | (refine q_k (h0b rfl) ?_))) <;> (try refine h0a ?_; (first | (refine q_k (h0i rfl) ?_))) <;> (try refine h0a ?_; (first | (refine q_k (by first | (exact q_f h5b) | (exact q_g h5b)) ?_))) <;> (try refine h0a ?_; (first | (refine q_k (by apply h0f (t:=70); exact rfl; (focus (repeat (first | exact fd0 | (with_reducible assumption) | apply fdA | apply fdS))); kernel_rfl; kernel_rfl; exact h2g) ?_))) <;> (try refine h0a ?_; (first | (refine q_k (by apply h0r; exact rfl; exact (fun _ => BigFrame.builtin_len ..); apply h0k Try.underlying70; exact h4h) ?_))) <;> (try refine h0a ?_; (first | (refine q_k (by exact q_b (r:=by first | (exact h3q q_o) | (exact h3c q_o) | exact rb_geq)) ?_))) <;> (try refine h0a ?_; (first | (refine q_k (h0e rfl) ?_))) <;> (try refine h0c ?_)) | (refine gR 4 ?_ <;> (try refine h0a ?_; (first | (refine q_k (h0e rfl) ?_))) <;> (try refine h0c ?_)) | (refine gR 5 ?_ <;> (try refine h0a ?_; (first | (refine q_k (h0b rfl) ?_))) <;> (try refine h0a ?_; (first | (refine q_k (h0b rfl) ?_))) <;> (try refine h0a ?_; (first | (refine q_k (h0i rfl) ?_))) <;> (try refine h0a ?_; (first | (refine q_k (by first | (exact q_f h5b) | (exact q_g h5b)) ?_))) <;> (try refine h0a ?_; (first | (refine q_k (by apply h0f (t:=70); exact rfl; (focus (repeat (first | exact fd0 | (with_reducible assumption) | apply fdA | apply fdS))); kernel_rfl; kernel_rfl; exact h2g) ?_))) <;> (try refine h0a ?_; (first | fail)) <;> (try refine h0a ?_; (first | (refine q_k (h0b rfl) ?_))) <;> (try refine h0a ?_; (first | (refine h1z (t:=70) (m:=1) (e:=36) (fun vs => (match vs with | [(_, x0)] => [x0] | _ => [])) rfl rfl (fun w => by kernel_rfl) ?_; intro nb hnb; (try simp only [Value.cells]); (try simp only [zzC, zzN])))) <;> (try refine h0a ?_; (first | (first | (apply h4k; exact rfl; exact Try.underlying70; exact inf_36_i; exact inf_36_z; exact inf_36_s; exact inf_36_b; exact rfl; exact rfl; exact rfl; (focus (first | (with_reducible assumption) | exact Own.nil _ _ | exact Own.of_block (Nat.le_of_ble_eq_true rfl) (Nat.le_of_ble_eq_true rfl) rfl)); (focus (repeat (first | exact fd0 | (with_reducible assumption) | apply fdA | apply fdS))); exact h2u; exact c_4; (focus (first | (with_reducible assumption) | exact rfl | (simp; done) | (simp [h1d, h0t, h1h, h1i, h2d, h1j, *]; done))); exact c_30; (omega); exact h1g; exact rfl; exact c_21; exact c_7; intro vA eA hownA) | (apply K1_appendB; exact rfl; exact Try.underlying70; exact inf_36_i; exact inf_36_z; exact inf_36_s; exact inf_36_b; exact rfl; exact rfl; exact rfl; (focus (repeat (first | exact fd0 | (with_reducible assumption) | apply fdA | apply fdS))); exact h2u; exact c_16; exact h5e; (focus (repeat (first | exact fd0 | (with_reducible assumption) | apply fdA | apply fdS))); exact h2u; exact c_4; (focus (first | (with_reducible assumption) | exact rfl | (simp; done) | (simp [h1d, h0t, h1h, h1i, h2d, h1j, *]; done))); exact c_30; (omega); exact rfl; exact c_21; exact c_7; (try simp only [zzE, zzF]); intro vA eA hownA)))) <;> (try refine h0a ?_; (first | (refine q_k (h0i rfl) ?_))) <;> (try refine h0a ?_; (first | (refine q_k (by first | (exact q_f h5b) | (exact q_g h5b)) ?_))) <;> (try refine h0a ?_; (first | (apply h0l (t:=70); exact rfl; exact rfl; (focus (repeat (first | exact fd0 | (with_reducible assumption) | apply fdA | apply fdS))); exact rfl; exact rfl; kernel_rfl; exact h2u; exact h3o; (try simp only [List.set_cons_succ]); (try simp only [List.set_cons_zero])))) <;> (try refine h0c ?_)) | (refine gR 6 ?_ <;> (try refine h0a ?_; (first | (refine q_k (h0e rfl) ?_))) <;> (try refine h0c ?_)) | ((first | (refine h1r rfl (fun hc => ?_) (fun hc => ?_)) | (refine h1x rfl (fun hc => ?_) (fun hc => ?_)) | (refine h3i rfl (fun hc => ?_) (fun hc => ?_))) <;> (try subst hc)))
 (refine h2h Try.results16 (.tmp rfl .nil) ?_)
 exact ⟨_, ⟨rfl, rfl⟩, fun _ H => H⟩
section
variable {P : Program} {n : Nat} {l : List (Nat × Value)} {S : List Nat} {w0 : World} {L : List Blk} {K : Act → World → Prop} {k : Kont} {ops : Array Oper} {d : Tmp} {ty : TypeId} {pos : String} {af : Array Edge}
theorem K1_append0 {E : Nat} {t tt : TypeId} {inf : TypeInfo} {s y : Operand} {sa ya : Option Addr} {m cp cy : Nat}
  (hd : Nat.blt d n = true) (ht : P.underlying t = some (.slice E)) (hi : P.info? E = some inf) (hs : ev l s = some (.slice sa m cp)) (hy : ev l y = some (.slice ya 0 cy)) (hle : m ≤ cp) (htt : tt = t)
  (h : G n ((d, .slice sa m cp) :: l) S w0 L K) :
  G n l S w0 L (K1 P ops k ⟨some d, .call { callee := .builtin .append, args := #[s, y], argTypes := #[t, tt] }, ty, pos, af, none⟩ K) := .mk fun a w hf H => h5s rfl <| by
  subst htt
  have hr : (Builtin.append_ #[tt, tt] ty #[.slice sa m cp, .slice ya 0 cy]).run P w = .ok (.slice sa m cp) w := by
   cases sa <;> cases ya <;> simp [Builtin.append_, run_underlying ht, sizeOf, typeInfo, hi, Builtin.lenOf, Builtin.firstCells, loadCells, loadCellsFrom, storeCells, hle]
  unfold Oper.wp execOp
  simp only [resolve, invoke, builtin, Sem.run_bind, Sem.run_pure, Result.andThen_ok, List.map_toArray, List.map_cons, List.map_nil, hf.eval hs, hf.eval hy, hr]
  exact (h.out _ _ (hf.put (some d) _ hd) H)
end
section
variable {P : Program} {n : Nat} {l : List (Nat × Value)} {S : List Nat} {w0 : World} {L : List Blk} {K : Act → World → Prop} {k : Kont} {ops : Array Oper} {d : Tmp} {ty : TypeId} {pos : String} {af : Array Edge}
theorem K1_appendSl {E size bytes : Nat} {t tt : TypeId} {inf : TypeInfo} {z : Value} {s y : Operand} {v : Value} {m : Nat} {xs : List Value} {e L0 : List Blk} {ya : Option Addr} {cnt cap : Nat} {news : List Value}
  (hd : Nat.blt d n = true) (ht : P.underlying t = some (.slice E)) (hi : P.info? E = some inf) (hz : inf.zero = some z) (hsize : inf.size = size) (hby : inf.bytes = bytes) (hzs : z.cells.size = size)
  (hs : ev l s = some v) (hy : ev l y = some (.slice ya cnt cap)) (hown : Own E size v m xs e) (hsl : Sli L ya cnt size news)
  (hone : news.all (·.oneCell') = true) (h63 : m + cnt ≤ maxLen) (hbytes : (m + cnt) * bytes ≤ 140737488355328) (hL : ∀ w, HP S w0 w L → HP S w0 w (e ++ L0)) (htt : tt = t) {mm : Nat} {xn : List Value} (hmm : m + cnt = mm) (hxn : xs ++ news = xn)
  (h : ∀ v' e', Own E size v' mm xn e' → G n ((d, v') :: l) S w0 (e' ++ L0) K) :
  G n l S w0 L (K1 P ops k ⟨some d, .call { callee := .builtin .append, args := #[s, y], argTypes := #[t, tt] }, ty, pos, af, none⟩ K) := by
 by_cases h0 : cnt = 0
 ·subst h0 htt hmm hxn
  have hn : news = [] := List.eq_nil_of_length_eq_zero (by rw [hsl.1, Nat.zero_mul])
  subst hn
  have hv : ∃ sa cp, v = .slice sa m cp ∧ m ≤ cp := by
   rcases hown.2 with ⟨rfl, rfl, _⟩ | ⟨g, c, cur, rfl, _, h1, _⟩
   ·exact ⟨none, 0, rfl, Nat.le_refl _⟩
   ·exact ⟨_, c, rfl, h1⟩
  obtain ⟨sa, cp, rfl, hle⟩ := hv
  have h2 := h (.slice sa m cp) e (by rw [Nat.add_zero, List.append_nil]; exact hown)
  exact K1_append0 hd ht hi hs hy hle rfl (h3e hL h2)
 ·rcases hsl.2 with h1 | ⟨i, q, b, off, cs, T, fr, rfl, hb, hle, hnews⟩
  ·exact absurd h1 h0
  ·exact h4k hd ht hi hz hsize hby hzs hs hy hown hb hle hnews hone h63 hbytes hL htt hmm hxn h
theorem h5g {E size bytes : Nat} {t tt : TypeId} {inf : TypeInfo} {z : Value} {s y : Operand} {g m cp j : Nat} {cur : Array Value} {ya : Option Addr} {cnt cap : Nat} {news : List Value}
  (hd : Nat.blt d n = true) (ht : P.underlying t = some (.slice E)) (hi : P.info? E = some inf) (hz : inf.zero = some z) (hsize : inf.size = size) (hby : inf.bytes = bytes) (hzs : z.cells.size = size)
  (hs : ev l s = some (.slice (some ⟨g, 0, none⟩) m cp)) (hy : ev l y = some (.slice ya cnt cap)) (hown : L[j]? = some ⟨true, g, .cells cur E (0, 0)⟩) (hmc : m ≤ cp) (hcp : cp ≤ maxLen) (hcs : cur.size = cp * size) (hsl : Sli L ya cnt size news)
  (hone : news.all (·.oneCell') = true) (h63 : m + cnt ≤ maxLen) (hbytes : (m + cnt) * bytes ≤ 140737488355328) (htt : tt = t) {mm : Nat} {xn : List Value} (hmm : m + cnt = mm) (hxn : cur.toList.take (m * size) ++ news = xn)
  (h : ∀ v' e', Own E size v' mm xn e' → G n ((d, v') :: l) S w0 (e' ++ L.eraseIdx j) K) :
  G n l S w0 L (K1 P ops k ⟨some d, .call { callee := .builtin .append, args := #[s, y], argTypes := #[t, tt] }, ty, pos, af, none⟩ K) :=
 K1_appendSl hd ht hi hz hsize hby hzs hs hy (Own.of_block hmc hcp hcs) hsl hone h63 hbytes (fun _ H => H.pick hown) htt hmm hxn h
end
end Go.Proofs.Ytpbpgbkpciffgaa
