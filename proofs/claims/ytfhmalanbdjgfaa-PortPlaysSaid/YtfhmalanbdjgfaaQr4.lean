/- Part 4 of what the last text of this claim leans on: rules of walks, contracts, plain facts. Conditions: those of each statement. -/
import Derived.Test.YtfhmalanbdjgfaaQr3
set_option maxRecDepth 100000
namespace Go.Proofs.Ytfhmalanbdjgfaa
open Go Go.RowKit
theorem get_c {S w0 L} (tb mb : Nat) (rs : List PR) (c n : Nat) : Fn Try.prog 12 #[.pointer (some ⟨tb, 0, none⟩), .int .u16 (n : Nat)] S w0 (ptB tb mb :: h2p mb (prE rs) c :: L) fun v L' => v = ((pix rs n).bind fun j => (rs[j]?.map PR.val)).getD (.agg #[.int .i64 0, .int .i64 0]) ∧ ptB tb mb :: h2p mb (prE rs) c :: L = L' := by
 cases h : pix rs n with
 | none =>
  have hf := find_none h
  refine Fn2 Try.func12 Try.ntmps12 rfl rfl ?_
  repeat' (first | refine h0j ?_ | refine h0d ?_ | refine h0t ?_ | refine h1y ?_ | refine h0g rfl ?_ | (refine gR 0 ?_ <;> (try refine h0i ?_; (refine h1w (t:=33) rfl Try.zeroValue33 ?_; intro nb hnb; (try simp only [Value.cells]))) <;> (try refine h0b ?_)) | (refine gR 1 (p_m (h:=p_e (q_b (r:=by exact h1o Try.underlying24)) (h:=h0b ?_)))) | (refine gR 3 (p_m (h:=p_n (h:=p_e (q_f h1q) (h:=p_e q_l (h:=p_m (h:=q_e (by apply h1n; exact rfl; exact rfl; exact h2j; exact Try.underlying45; exact Try.underlying22; exact rfl; exact Try.zeroValue33; (with_reducible assumption); exact rfl) ?_)))))) <;> (try refine h0i ?_; (refine q_W ?_)) <;> (try refine h0b ?_)))
  (apply G_doneA Try.results12; exact rfl; (focus (repeat (first | exact fd0 | (with_reducible assumption) | apply fdA | apply fdS))); kernel_rfl; kernel_rfl; exact sz_33; (focus (first | (with_reducible assumption) | exact rfl | (simp; done))))
  exact ⟨_, ⟨rfl, rfl⟩, by intro w H; refine Sel.out ?_ H; (try simp only [zzC, zzN]); repeat (first | exact Sel.refl _ | (apply Sel.cons; exact h2j; (try simp only [zzE, zzF])) | apply Sel.drop)⟩
 | some j =>
  obtain ⟨⟨n', o, l, b⟩, hr, rfl⟩ := h3f h
  have hf := find_some h hr
  simp only [PR.val] at hf
  rw [Option.bind_some, hr]
  refine Fn2 Try.func12 Try.ntmps12 rfl rfl ?_
  repeat' (first | refine h0j ?_ | refine h0d ?_ | refine h0t ?_ | refine h1y ?_ | refine h0g rfl ?_ | (refine gR 0 ?_ <;> (try refine h0i ?_; (refine h1w (t:=33) rfl Try.zeroValue33 ?_; intro nb hnb; (try simp only [Value.cells]))) <;> (try refine h0b ?_)) | (refine gR 1 (p_m (h:=p_e (q_b (r:=by exact h1o Try.underlying24)) (h:=h0b ?_)))) | (refine gR 3 (p_m (h:=p_n (h:=p_e (q_f h1q) (h:=p_e q_l (h:=p_m (h:=q_e (by apply h1n; exact rfl; exact rfl; exact h2j; exact Try.underlying45; exact Try.underlying22; exact rfl; exact Try.zeroValue33; (with_reducible assumption); exact rfl) ?_)))))) <;> (try refine h0i ?_; (refine q_W ?_)) <;> (try refine h0b ?_)))
  (apply G_doneA Try.results12; exact rfl; (focus (repeat (first | exact fd0 | (with_reducible assumption) | apply fdA | apply fdS))); kernel_rfl; kernel_rfl; exact sz_33; (focus (first | (with_reducible assumption) | exact rfl | (simp; done))))
  exact ⟨_, ⟨rfl, rfl⟩, by intro w H; refine Sel.out ?_ H; (try simp only [zzC, zzN]); repeat (first | exact Sel.refl _ | (apply Sel.cons; exact h2j; (try simp only [zzE, zzF])) | apply Sel.drop)⟩
theorem connect_c {S w0 L} (tb mb : Nat) (rs : List PR) (c n : Nat) : Fn Try.prog 9 #[.pointer (some ⟨tb, 0, none⟩), .int .u16 (n : Nat)] S w0 (ptB tb mb :: h2p mb (prE rs) c :: L) fun v L' => v = .int .i64 (if ((pix rs n).bind fun j => rs[j]?.map PR.l).getD 0 = 0 then 111 else 0) ∧ ptB tb mb :: h2p mb (prE rs) c :: L = L' := by
 cases h : pix rs n with
 | none =>
  have hf := find_none h
  refine Fn2 Try.func9 Try.ntmps9 rfl rfl ?_
  repeat' (first | refine h0j ?_ | refine h0d ?_ | refine h2c ?_ | refine h3c ?_ | refine h0k ?_ | refine h1y ?_ | refine h0l rfl ?_ | refine h0g rfl ?_ | (refine gR 0 (p_a (h:=h0b ?_))) | (refine gR 1 (p_m (h:=p_e (q_b (r:=by exact h1o Try.underlying24)) (h:=p_a (h:=h0b ?_))))) | (refine gR 3 (p_m (h:=p_n (h:=p_e (q_f h1q) (h:=p_e q_l (h:=p_m (h:=p_e (by apply h1n; exact rfl; exact rfl; exact h2j; exact Try.underlying45; exact Try.underlying22; exact rfl; exact Try.zeroValue33; (with_reducible assumption); exact rfl) (h:=q_e (by apply E_field; exact rfl; (focus (apply h3e Try.underlying33; exact rfl; kernel_rfl; kernel_rfl; exact rfl))) ?_))))))) <;> (try refine q_e (by exact q_b (r:=by refine h0w ?_; first | rfl | (with_reducible assumption) | (decide; done) | omega)) ?_) <;> (try refine p_a (h:=h0b ?_))) | (refine gR 4 (p_a (h:=h0b ?_))))
  (refine h1b Try.results9 (.tmp rfl .nil) ?_)
  exact ⟨_, ⟨rfl, rfl⟩, by intro w H; refine Sel.out ?_ H; (try simp only [zzC, zzN]); repeat (exact Sel.refl _)⟩
 | some j =>
  obtain ⟨⟨n', o, l, b⟩, hr, rfl⟩ := h3f h
  have hf := find_some h hr
  simp only [PR.val] at hf
  rw [Option.bind_some, hr]
  simp only [Option.map_some, Option.getD_some]
  by_cases hl : l = 0
  ·rw [if_pos hl]
   refine Fn2 Try.func9 Try.ntmps9 rfl rfl ?_
   repeat' (first | refine h0j ?_ | refine h0d ?_ | refine h2c ?_ | refine h3c ?_ | refine h0k ?_ | refine h1y ?_ | refine h0l rfl ?_ | refine h0g rfl ?_ | (refine gR 0 (p_a (h:=h0b ?_))) | (refine gR 1 (p_m (h:=p_e (q_b (r:=by exact h1o Try.underlying24)) (h:=p_a (h:=h0b ?_))))) | (refine gR 3 (p_m (h:=p_n (h:=p_e (q_f h1q) (h:=p_e q_l (h:=p_m (h:=p_e (by apply h1n; exact rfl; exact rfl; exact h2j; exact Try.underlying45; exact Try.underlying22; exact rfl; exact Try.zeroValue33; (with_reducible assumption); exact rfl) (h:=q_e (by apply E_field; exact rfl; (focus (apply h3e Try.underlying33; exact rfl; kernel_rfl; kernel_rfl; exact rfl))) ?_))))))) <;> (try refine q_e (by exact q_b (r:=by refine h0w ?_; first | rfl | (with_reducible assumption) | (decide; done) | omega)) ?_) <;> (try refine p_a (h:=h0b ?_))) | (refine gR 4 (p_a (h:=h0b ?_))))
   (refine h1b Try.results9 (.tmp rfl .nil) ?_)
   exact ⟨_, ⟨rfl, rfl⟩, by intro w H; refine Sel.out ?_ H; (try simp only [zzC, zzN]); repeat (exact Sel.refl _)⟩
  ·rw [if_neg hl]
   refine Fn2 Try.func9 Try.ntmps9 rfl rfl ?_
   repeat' (first | refine h0j ?_ | refine h0d ?_ | refine h0x ?_ | refine h0k ?_ | refine h0t ?_ | refine h1y ?_ | refine h0g rfl ?_ | (refine gR 0 (p_a (h:=h0b ?_))) | (refine gR 1 (p_m (h:=p_e (q_b (r:=by exact h1o Try.underlying24)) (h:=p_a (h:=h0b ?_))))) | (refine gR 3 (p_m (h:=p_n (h:=p_e (q_f h1q) (h:=p_e q_l (h:=p_m (h:=p_e (by apply h1n; exact rfl; exact rfl; exact h2j; exact Try.underlying45; exact Try.underlying22; exact rfl; exact Try.zeroValue33; (with_reducible assumption); exact rfl) (h:=p_e (by apply E_field; exact rfl; (focus (apply h3e Try.underlying33; exact rfl; kernel_rfl; kernel_rfl; exact rfl))) (h:=p_e (q_b (r:=by exact h0h q_o)) (h:=p_a (h:=h0b ?_))))))))))) | (refine gR 5 (p_a (h:=h0b ?_))))
   (refine h1b Try.results9 (.tmp rfl .nil) ?_)
   exact ⟨_, ⟨rfl, rfl⟩, by intro w H; refine Sel.out ?_ H; (try simp only [zzC, zzN]); repeat (exact Sel.refl _)⟩
def shrR (r : PR) (b : Bool) : PR := ⟨r.n, r.o + 1, if b then r.l + 1 else r.l, r.b⟩
theorem share_c {S w0 L} (tb mb : Nat) (rs : List PR) (c n k : Nat) (hk : k ≤ 100) (hp : POk k rs c) (b : Bool) : Fn Try.prog 7 #[.pointer (some ⟨tb, 0, none⟩), .int .u16 (n : Nat), .bool b] S w0 (ptB tb mb :: h2p mb (prE rs) c :: L) fun v L' => ∃ rs', v = .int .i64 (if (pix rs n).isSome then 0 else 2) ∧ (pix rs n = none → rs' = rs) ∧ (∀ j r, pix rs n = some j → rs[j]? = some r → rs' = rs.set j (shrR r b)) ∧ ptB tb mb :: h2p mb (prE rs') c :: L = L' := by
 cases h : pix rs n with
 | none =>
  have hf := find_none h
  refine Fn3 Try.func7 Try.ntmps7 rfl rfl ?_
  repeat' (first | refine h0j ?_ | refine h0d ?_ | refine h2c ?_ | refine h0t ?_ | refine h1y ?_ | refine h0l rfl ?_ | refine h0g rfl ?_ | (refine gR 0 (p_a (h:=h0b ?_))) | (refine gR 1 (p_m (h:=p_e (q_b (r:=by exact h1o Try.underlying24)) (h:=h0b ?_)))) | (refine gR 3 (p_m (h:=p_n (h:=p_e (q_f h1q) (h:=p_e q_l (h:=p_m (h:=q_e (by apply h1n; exact rfl; exact rfl; exact h2j; exact Try.underlying45; exact Try.underlying22; exact rfl; exact Try.zeroValue33; (with_reducible assumption); exact rfl) ?_)))))) <;> (try refine h0i ?_; (refine h1w (t:=33) rfl Try.zeroValue33 ?_; intro nb hnb; (try simp only [Value.cells]))) <;> (try refine h0i ?_; (refine q_W ?_)) <;> (try refine h0b ?_)) | (refine gR 4 (p_e (q_f h2b) (h:=q_e q_l ?_)) <;> (try refine q_e (by exact q_b (r:=by refine h0w ?_; first | rfl | (with_reducible assumption) | (decide; done) | omega)) ?_) <;> (try refine h0b ?_)) | (refine gR 5 (p_a (h:=h0b ?_))))
  (refine h1b Try.results7 (.tmp rfl .nil) ?_)
  exact ⟨_, ⟨rs, rfl, (fun _ => rfl), (fun j r h => by cases h), rfl⟩, by intro w H; refine Sel.out ?_ H; (try simp only [zzC, zzN]); repeat (first | exact Sel.refl _ | (apply Sel.cons; exact h2j; (try simp only [zzE, zzF])) | apply Sel.drop)⟩
 | some j =>
  obtain ⟨⟨n', o, l, bo⟩, hr, rfl⟩ := h3f h
  have hf := find_some h hr
  have ho := hp.op _ (List.mem_of_getElem? hr)
  simp only [PR.val] at hf ho
  have hs := fun v hv => prE_set rs j ⟨n', o, l, bo⟩ (shrR ⟨n', o, l, bo⟩ b) hr rfl rfl (.int .u16 (n' : Nat)) v rfl hv
  cases b
  ·refine Fn3 Try.func7 Try.ntmps7 rfl rfl ?_
   repeat' (first | refine h0j ?_ | refine h0d ?_ | refine h0t ?_ | refine h1y ?_ | refine h0g rfl ?_ | (refine gR 0 (p_a (h:=h0b ?_))) | (refine gR 1 (p_m (h:=p_e (q_b (r:=by exact h1o Try.underlying24)) (h:=h0b ?_)))) | (refine gR 3 (p_m (h:=p_n (h:=p_e (q_f h1q) (h:=p_e q_l (h:=p_m (h:=q_e (by apply h1n; exact rfl; exact rfl; exact h2j; exact Try.underlying45; exact Try.underlying22; exact rfl; exact Try.zeroValue33; (with_reducible assumption); exact rfl) ?_)))))) <;> (try refine h0i ?_; (refine h1w (t:=33) rfl Try.zeroValue33 ?_; intro nb hnb; (try simp only [Value.cells]))) <;> (try refine h0i ?_; (refine q_W ?_)) <;> (try refine h0b ?_)) | (refine gR 4 (p_e (q_f h2b) (h:=p_e q_l (h:=p_e (q_b (r:=by exact h0h q_o)) (h:=h0b ?_))))) | (refine gR 6 (p_e (q_f h2b) (h:=q_e q_l ?_)) <;> (try refine q_e (q_b (r:=by apply h0u; exact c_6; (focus (refine IntWalk.i64_in _ ?_; omega)))) ?_) <;> (try refine q_e (q_f h2b) ?_) <;> (try refine h0i ?_; (refine q_S ?_)) <;> (try refine h0b ?_)) | (refine gR 7 (p_m (h:=h0b ?_))) | ((apply h1a (i:=2) (id:=9) (m:=7); exact c_9; kernel_rfl; exact rfl) <;> (try refine q_t 0 (e:=c_2) (x:=by exact h0c rfl) (h:=q_t 1 (e:=c_2) (x:=by exact h1r rfl) (h:=q_t 2 (e:=c_2) (x:=by exact q_f h1q) (h:=q_t 3 (e:=c_2) (x:=by exact q_l) (h:=q_t 4 (e:=c_2) (x:=by exact h0c rfl) (h:=q_t 5 (e:=c_2) (x:=by exact q_L sz_33) (h:=?_))))))) <;> (try refine q_r 6 ?_; (apply K1_mapUpdateG2; exact rfl; exact rfl; exact rfl; exact h2j; exact Try.underlying45; exact Try.underlying22; exact rfl; (with_reducible assumption); (try simp only [List.set_cons_succ]); (try simp only [List.set_cons_zero])); refine h0s c_2 ?_) <;> (try refine h0q (by kernel_rfl) ?_)) | (refine gR 10 (p_a (h:=h0b ?_))))
   rw [hs (.agg #[.int .i64 ((o : Int) + 1), .int .i64 (l : Int)]) (by simp [PR.val, shrR])]
   (refine h1b Try.results7 (.tmp rfl .nil) ?_)
   exact ⟨_, ⟨_, rfl, (fun h => by cases h), (fun j' r' e1 e2 => by injection e1 with e1; subst e1; rw [hr] at e2; injection e2 with e2; subst e2; rfl), rfl⟩, by intro w H; refine Sel.out ?_ H; (try simp only [zzC, zzN]); repeat (first | exact Sel.refl _ | (apply Sel.cons; exact h2j; (try simp only [zzE, zzF])) | apply Sel.drop)⟩
  ·refine Fn3 Try.func7 Try.ntmps7 rfl rfl ?_
   repeat' (first | refine h0j ?_ | refine h0d ?_ | refine h0t ?_ | refine h1y ?_ | refine h0l rfl ?_ | refine h0g rfl ?_ | (refine gR 0 (p_a (h:=h0b ?_))) | (refine gR 1 (p_m (h:=p_e (q_b (r:=by exact h1o Try.underlying24)) (h:=h0b ?_)))) | (refine gR 3 (p_m (h:=p_n (h:=p_e (q_f h1q) (h:=p_e q_l (h:=p_m (h:=q_e (by apply h1n; exact rfl; exact rfl; exact h2j; exact Try.underlying45; exact Try.underlying22; exact rfl; exact Try.zeroValue33; (with_reducible assumption); exact rfl) ?_)))))) <;> (try refine h0i ?_; (refine h1w (t:=33) rfl Try.zeroValue33 ?_; intro nb hnb; (try simp only [Value.cells]))) <;> (try refine h0i ?_; (refine q_W ?_)) <;> (try refine h0b ?_)) | (refine gR 4 (p_e (q_f h2b) (h:=p_e q_l (h:=p_e (q_b (r:=by exact h0h q_o)) (h:=h0b ?_))))) | (refine gR 6 (p_e (q_f h2b) (h:=q_e q_l ?_)) <;> (try refine q_e (q_b (r:=by apply h0u; exact c_6; (focus (refine IntWalk.i64_in _ ?_; omega)))) ?_) <;> (try refine q_e (q_f h2b) ?_) <;> (try refine h0i ?_; (refine q_S ?_)) <;> (try refine h0b ?_)) | (refine gR 7 (p_m (h:=h0b ?_))) | (refine gR 8 (p_e (q_f h2k) (h:=q_e q_l ?_)) <;> (try refine q_e (q_b (r:=by apply h0u; exact c_6; (focus (refine IntWalk.i64_in _ ?_; omega)))) ?_) <;> (try refine q_e (q_f h2k) ?_) <;> (try refine h0i ?_; (refine q_S ?_)) <;> (try refine h0b ?_)) | ((apply h1a (i:=2) (id:=9) (m:=7); exact c_9; kernel_rfl; exact rfl) <;> (try refine q_t 0 (e:=c_2) (x:=by exact h0c rfl) (h:=q_t 1 (e:=c_2) (x:=by exact h1r rfl) (h:=q_t 2 (e:=c_2) (x:=by exact q_f h1q) (h:=q_t 3 (e:=c_2) (x:=by exact q_l) (h:=q_t 4 (e:=c_2) (x:=by exact h0c rfl) (h:=q_t 5 (e:=c_2) (x:=by exact q_L sz_33) (h:=?_))))))) <;> (try refine q_r 6 ?_; (apply K1_mapUpdateG2; exact rfl; exact rfl; exact rfl; exact h2j; exact Try.underlying45; exact Try.underlying22; exact rfl; (with_reducible assumption); (try simp only [List.set_cons_succ]); (try simp only [List.set_cons_zero])); refine h0s c_2 ?_) <;> (try refine h0q (by kernel_rfl) ?_)) | (refine gR 10 (p_a (h:=h0b ?_))))
   rw [hs (.agg #[.int .i64 ((o : Int) + 1), .int .i64 ((l : Int) + 1)]) (by simp [PR.val, shrR])]
   (refine h1b Try.results7 (.tmp rfl .nil) ?_)
   exact ⟨_, ⟨_, rfl, (fun h => by cases h), (fun j' r' e1 e2 => by injection e1 with e1; subst e1; rw [hr] at e2; injection e2 with e2; subst e2; rfl), rfl⟩, by intro w H; refine Sel.out ?_ H; (try simp only [zzC, zzN]); repeat (first | exact Sel.refl _ | (apply Sel.cons; exact h2j; (try simp only [zzE, zzF])) | apply Sel.drop)⟩
def lisR (r : PR) : PR := ⟨r.n, r.o, r.l + 1, r.b⟩
theorem listen_c {S w0 L} (tb mb : Nat) (rs : List PR) (c n k : Nat) (hk : k ≤ 100) (hp : POk k rs c) : Fn Try.prog 8 #[.pointer (some ⟨tb, 0, none⟩), .int .u16 (n : Nat)] S w0 (ptB tb mb :: h2p mb (prE rs) c :: L) fun v L' => ∃ rs', (pix rs n = none → v = .int .i64 22 ∧ rs' = rs) ∧ (∀ j r, pix rs n = some j → rs[j]? = some r → (r.o ≤ r.l → v = .int .i64 22 ∧ rs' = rs) ∧ (r.l < r.o → v = .int .i64 0 ∧ rs' = rs.set j (lisR r))) ∧ ptB tb mb :: h2p mb (prE rs') c :: L = L' := by
 cases h : pix rs n with
 | none =>
  have hf := find_none h
  refine Fn2 Try.func8 Try.ntmps8 rfl rfl ?_
  repeat' (first | refine h0j ?_ | refine h0d ?_ | refine h2c ?_ | refine h0t ?_ | refine h1y ?_ | refine h0l rfl ?_ | refine h0g rfl ?_ | (refine gR 0 (p_a (h:=h0b ?_))) | (refine gR 1 (p_m (h:=p_e (q_b (r:=by exact h1o Try.underlying24)) (h:=h0b ?_)))) | (refine gR 3 (p_m (h:=p_n (h:=p_e (q_f h1q) (h:=p_e q_l (h:=p_m (h:=q_e (by apply h1n; exact rfl; exact rfl; exact h2j; exact Try.underlying45; exact Try.underlying22; exact rfl; exact Try.zeroValue33; (with_reducible assumption); exact rfl) ?_)))))) <;> (try refine h0i ?_; (refine h1w (t:=33) rfl Try.zeroValue33 ?_; intro nb hnb; (try simp only [Value.cells]))) <;> (try refine h0i ?_; (refine q_W ?_)) <;> (try refine h0b ?_)) | (refine gR 4 (p_e (q_f h2k) (h:=p_e q_l (h:=p_e (q_f h2b) (h:=p_e q_l (h:=p_e (q_b (r:=by exact h2t q_o)) (h:=h0b ?_))))))) | (refine gR 5 (p_a (h:=h0b ?_))))
  (refine h1b Try.results8 (.tmp rfl .nil) ?_)
  exact ⟨_, ⟨rs, (fun _ => ⟨rfl, rfl⟩), (fun j r h => by cases h), rfl⟩, by intro w H; refine Sel.out ?_ H; (try simp only [zzC, zzN]); repeat (first | exact Sel.refl _ | (apply Sel.cons; exact h2j; (try simp only [zzE, zzF])) | apply Sel.drop)⟩
 | some j =>
  obtain ⟨⟨n', o, l, bo⟩, hr, rfl⟩ := h3f h
  have hf := find_some h hr
  have ho := hp.op _ (List.mem_of_getElem? hr)
  simp only [PR.val] at hf ho
  have hs := fun v hv => prE_set rs j ⟨n', o, l, bo⟩ (lisR ⟨n', o, l, bo⟩) hr rfl rfl (.int .u16 (n' : Nat)) v rfl hv
  by_cases hl : o ≤ l
  ·refine Fn2 Try.func8 Try.ntmps8 rfl rfl ?_
   repeat' (first | refine h0j ?_ | refine h0d ?_ | refine h2c ?_ | refine h0t ?_ | refine h1y ?_ | refine h0l rfl ?_ | refine h0g rfl ?_ | (refine gR 0 (p_a (h:=h0b ?_))) | (refine gR 1 (p_m (h:=p_e (q_b (r:=by exact h1o Try.underlying24)) (h:=h0b ?_)))) | (refine gR 3 (p_m (h:=p_n (h:=p_e (q_f h1q) (h:=p_e q_l (h:=p_m (h:=q_e (by apply h1n; exact rfl; exact rfl; exact h2j; exact Try.underlying45; exact Try.underlying22; exact rfl; exact Try.zeroValue33; (with_reducible assumption); exact rfl) ?_)))))) <;> (try refine h0i ?_; (refine h1w (t:=33) rfl Try.zeroValue33 ?_; intro nb hnb; (try simp only [Value.cells]))) <;> (try refine h0i ?_; (refine q_W ?_)) <;> (try refine h0b ?_)) | (refine gR 4 (p_e (q_f h2k) (h:=p_e q_l (h:=p_e (q_f h2b) (h:=p_e q_l (h:=p_e (q_b (r:=by exact h2t q_o)) (h:=h0b ?_))))))) | (refine gR 5 (p_a (h:=h0b ?_))))
   (refine h1b Try.results8 (.tmp rfl .nil) ?_)
   exact ⟨_, ⟨rs, (fun h => by cases h), (fun j' r' e1 e2 => by injection e1 with e1; subst e1; rw [hr] at e2; injection e2 with e2; subst e2; exact ⟨fun _ => ⟨rfl, rfl⟩, fun h => (by dsimp only at h; omega)⟩), rfl⟩, by intro w H; refine Sel.out ?_ H; (try simp only [zzC, zzN]); repeat (first | exact Sel.refl _ | (apply Sel.cons; exact h2j; (try simp only [zzE, zzF])) | apply Sel.drop)⟩
  ·refine Fn2 Try.func8 Try.ntmps8 rfl rfl ?_
   repeat' (first | refine h0j ?_ | refine h0d ?_ | refine h0t ?_ | refine h1y ?_ | refine h0g rfl ?_ | (refine gR 0 (p_a (h:=h0b ?_))) | (refine gR 1 (p_m (h:=p_e (q_b (r:=by exact h1o Try.underlying24)) (h:=h0b ?_)))) | (refine gR 3 (p_m (h:=p_n (h:=p_e (q_f h1q) (h:=p_e q_l (h:=p_m (h:=q_e (by apply h1n; exact rfl; exact rfl; exact h2j; exact Try.underlying45; exact Try.underlying22; exact rfl; exact Try.zeroValue33; (with_reducible assumption); exact rfl) ?_)))))) <;> (try refine h0i ?_; (refine h1w (t:=33) rfl Try.zeroValue33 ?_; intro nb hnb; (try simp only [Value.cells]))) <;> (try refine h0i ?_; (refine q_W ?_)) <;> (try refine h0b ?_)) | (refine gR 4 (p_e (q_f h2k) (h:=p_e q_l (h:=p_e (q_f h2b) (h:=p_e q_l (h:=p_e (q_b (r:=by exact h2n q_o)) (h:=h0b ?_))))))) | (refine gR 6 (p_e (q_f h2k) (h:=q_e q_l ?_)) <;> (try refine q_e (q_b (r:=by apply h0u; exact c_6; (focus (refine IntWalk.i64_in _ ?_; omega)))) ?_) <;> (try refine q_e (q_f h2k) ?_) <;> (try refine h0i ?_; (refine q_S ?_)) <;> (try refine h0b ?_)) | ((apply h1a (i:=2) (id:=7) (m:=7); exact c_9; kernel_rfl; exact rfl) <;> (try refine q_t 0 (e:=c_2) (x:=by exact h0c rfl) (h:=q_t 1 (e:=c_2) (x:=by exact h1r rfl) (h:=q_t 2 (e:=c_2) (x:=by exact q_f h1q) (h:=q_t 3 (e:=c_2) (x:=by exact q_l) (h:=q_t 4 (e:=c_2) (x:=by exact h0c rfl) (h:=q_t 5 (e:=c_2) (x:=by exact q_L sz_33) (h:=?_))))))) <;> (try refine q_r 6 ?_; (apply K1_mapUpdateG2; exact rfl; exact rfl; exact rfl; exact h2j; exact Try.underlying45; exact Try.underlying22; exact rfl; (with_reducible assumption); (try simp only [List.set_cons_succ]); (try simp only [List.set_cons_zero])); refine h0s c_2 ?_) <;> (try refine h0q (by kernel_rfl) ?_)) | (refine gR 8 (p_a (h:=h0b ?_))))
   rw [hs (.agg #[.int .i64 (o : Int), .int .i64 ((l : Int) + 1)]) (by simp [PR.val, lisR])]
   (refine h1b Try.results8 (.tmp rfl .nil) ?_)
   exact ⟨_, ⟨_, (fun h => by cases h), (fun j' r' e1 e2 => by injection e1 with e1; subst e1; rw [hr] at e2; injection e2 with e2; subst e2; exact ⟨fun h => (by dsimp only at h; omega), fun _ => ⟨rfl, rfl⟩⟩), rfl⟩, by intro w H; refine Sel.out ?_ H; (try simp only [zzC, zzN]); repeat (first | exact Sel.refl _ | (apply Sel.cons; exact h2j; (try simp only [zzE, zzF])) | apply Sel.drop)⟩
def drpOk (r : PR) (b : Bool) : Bool := if b then decide (r.l ≠ 0) else decide (r.l ≠ r.o)
def drpR (r : PR) (b : Bool) : PR := ⟨r.n, r.o - 1, if b then r.l - 1 else r.l, r.b⟩
def drpF (rs : List PR) (j : Nat) (r : PR) (b : Bool) : List PR := if r.o = 1 then rs.eraseIdx j else rs.set j (drpR r b)
set_option maxHeartbeats 1000000 in
theorem drop_c {S w0 L} (tb mb : Nat) (rs : List PR) (c n k : Nat) (hk : k ≤ 100) (hp : POk k rs c) (b : Bool) : Fn Try.prog 10 #[.pointer (some ⟨tb, 0, none⟩), .int .u16 (n : Nat), .bool b] S w0 (ptB tb mb :: h2p mb (prE rs) c :: L) fun v L' => ∃ rs', (pix rs n = none → v = .int .i64 2 ∧ rs' = rs) ∧ (∀ j r, pix rs n = some j → rs[j]? = some r → (drpOk r b = false → v = .int .i64 22 ∧ rs' = rs) ∧ (drpOk r b = true → v = .int .i64 0 ∧ rs' = drpF rs j r b)) ∧ ptB tb mb :: h2p mb (prE rs') c :: L = L' := by
 cases h : pix rs n with
 | none =>
  have hf := find_none h
  refine Fn3 Try.func10 Try.ntmps10 rfl rfl ?_
  repeat' (first | refine h0j ?_ | refine h0d ?_ | refine h2c ?_ | refine h3c ?_ | refine h0k ?_ | refine h0t ?_ | refine h1y ?_ | refine h0l rfl ?_ | refine h0g rfl ?_ | (refine gR 0 (p_a (h:=h0b ?_))) | (refine gR 1 (p_m (h:=p_e (q_b (r:=by exact h1o Try.underlying24)) (h:=h0b ?_)))) | (refine gR 3 (p_m (h:=p_n (h:=p_e (q_f h1q) (h:=p_e q_l (h:=p_m (h:=q_e (by apply h1n; exact rfl; exact rfl; exact h2j; exact Try.underlying45; exact Try.underlying22; exact rfl; exact Try.zeroValue33; (with_reducible assumption); exact rfl) ?_)))))) <;> (try refine h0i ?_; (refine h1w (t:=33) rfl Try.zeroValue33 ?_; intro nb hnb; (try simp only [Value.cells]))) <;> (try refine h0i ?_; (refine q_W ?_)) <;> (try refine h0b ?_)) | (refine gR 4 (p_e (q_f h2b) (h:=q_e q_l ?_)) <;> (try refine q_e (by exact q_b (r:=by refine h0w ?_; first | rfl | (with_reducible assumption) | (decide; done) | omega)) ?_) <;> (try refine p_a (h:=h0b ?_))) | (refine gR 5 (p_a (h:=h0b ?_))))
  (refine h1b Try.results10 (.tmp rfl .nil) ?_)
  exact ⟨_, ⟨rs, (fun _ => ⟨rfl, rfl⟩), (fun j r h => by cases h), rfl⟩, by intro w H; refine Sel.out ?_ H; (try simp only [zzC, zzN]); repeat (first | exact Sel.refl _ | (apply Sel.cons; exact h2j; (try simp only [zzE, zzF])) | apply Sel.drop)⟩
 | some j =>
  obtain ⟨⟨n', o, l, bo⟩, hr, rfl⟩ := h3f h
  have hf := find_some h hr
  have ho := hp.op _ (List.mem_of_getElem? hr)
  simp only [PR.val] at hf ho
  have key : ∀ (v : Value) (rs' : List PR), ((drpOk ⟨n', o, l, bo⟩ b = false → v = .int .i64 22 ∧ rs' = rs) ∧ (drpOk ⟨n', o, l, bo⟩ b = true → v = .int .i64 0 ∧ rs' = drpF rs j ⟨n', o, l, bo⟩ b)) → ∀ j' r', some j = some j' → rs[j']? = some r' → (drpOk r' b = false → v = .int .i64 22 ∧ rs' = rs) ∧ (drpOk r' b = true → v = .int .i64 0 ∧ rs' = drpF rs j' r' b) := fun v rs' hh j' r' e1 e2 => by
   injection e1 with e1; subst e1; rw [hr] at e2; injection e2 with e2; subst e2; exact hh
  have hs := fun v hv => prE_set rs j ⟨n', o, l, bo⟩ (drpR ⟨n', o, l, bo⟩ b) hr rfl rfl (.int .u16 (n' : Nat)) v rfl hv
  have he := prE_erase rs j
  cases hb : drpOk ⟨n', o, l, bo⟩ b
  ·cases b
   all_goals simp [drpOk] at hb
   all_goals (subst hb; refine Fn3 Try.func10 Try.ntmps10 rfl rfl ?_; repeat' (first | refine h0j ?_ | refine h0d ?_ | refine h2c ?_ | refine h3c ?_ | refine h0k ?_ | refine h0t ?_ | refine h1y ?_ | refine h0l rfl ?_ | refine h0g rfl ?_ | (refine gR 0 (p_a (h:=h0b ?_))) | (refine gR 1 (p_m (h:=p_e (q_b (r:=by exact h1o Try.underlying24)) (h:=h0b ?_)))) | (refine gR 3 (p_m (h:=p_n (h:=p_e (q_f h1q) (h:=p_e q_l (h:=p_m (h:=q_e (by apply h1n; exact rfl; exact rfl; exact h2j; exact Try.underlying45; exact Try.underlying22; exact rfl; exact Try.zeroValue33; (with_reducible assumption); exact rfl) ?_)))))) <;> (try refine h0i ?_; (refine h1w (t:=33) rfl Try.zeroValue33 ?_; intro nb hnb; (try simp only [Value.cells]))) <;> (try refine h0i ?_; (refine q_W ?_)) <;> (try refine h0b ?_)) | (refine gR 4 (p_e (q_f h2b) (h:=p_e q_l (h:=p_e (q_b (r:=by exact h0h q_o)) (h:=p_a (h:=h0b ?_)))))) | (refine gR 6 (p_m (h:=q_m ?_)) <;> (try refine h0i ?_; (first | refine h2m rfl rfl rfl rfl ?_ | (refine h1j rfl rfl rfl ?_; (refine q_k (q_f h2k) ?_)))) <;> (try refine h0i ?_; (first | refine h2m rfl rfl rfl rfl ?_ | (refine h1j rfl rfl rfl ?_; (refine q_k q_l ?_)))) <;> (try refine h0i ?_; (first | refine h2m rfl rfl rfl rfl ?_ | (refine h1j rfl rfl rfl ?_; (refine q_k (by exact q_b (r:=by refine h0w ?_; first | rfl | (with_reducible assumption) | (decide; done) | omega)) ?_)))) <;> (try refine p_p (h:=p_a (h:=h0b ?_)))) | (refine gR 7 (p_m (h:=p_e (by apply E_un; exact rfl; exact ru_not_f) (h:=p_m (h:=p_y (q_f h2k) (h:=p_y q_l (h:=p_y (q_f h2b) (h:=q_y q_l ?_))))))) <;> (try refine q_y (by exact q_b (r:=by refine h0w ?_; first | rfl | (with_reducible assumption) | (decide; done) | omega)) ?_) <;> (try refine p_p (h:=p_a (h:=h0b ?_)))) | (refine gR 8 (p_a (h:=h0b ?_)))))
   all_goals ((refine h1b Try.results10 (.tmp rfl .nil) ?_); exact ⟨_, ⟨rs, (fun h => by cases h), key _ _ ⟨fun _ => ⟨rfl, rfl⟩, fun h => (by simp [drpOk] at h)⟩, rfl⟩, by intro w H; refine Sel.out ?_ H; (try simp only [zzC, zzN]); repeat (first | exact Sel.refl _ | (apply Sel.cons; exact h2j; (try simp only [zzE, zzF])) | apply Sel.drop)⟩)
  ·by_cases h1 : o = 1
   ·subst h1
    cases b
    all_goals simp [drpOk] at hb
    all_goals refine Fn3 Try.func10 Try.ntmps10 rfl rfl ?_
    all_goals repeat' (first | refine h0j ?_ | refine h0d ?_ | refine h0x ?_ | refine h0k ?_ | refine h0t ?_ | refine h1y ?_ | refine h0l rfl ?_ | refine h0g rfl ?_ | (refine gR 0 (p_a (h:=h0b ?_))) | (refine gR 1 (p_m (h:=p_e (q_b (r:=by exact h1o Try.underlying24)) (h:=h0b ?_)))) | (refine gR 3 (p_m (h:=p_n (h:=p_e (q_f h1q) (h:=p_e q_l (h:=p_m (h:=q_e (by apply h1n; exact rfl; exact rfl; exact h2j; exact Try.underlying45; exact Try.underlying22; exact rfl; exact Try.zeroValue33; (with_reducible assumption); exact rfl) ?_)))))) <;> (try refine h0i ?_; (refine h1w (t:=33) rfl Try.zeroValue33 ?_; intro nb hnb; (try simp only [Value.cells]))) <;> (try refine h0i ?_; (refine q_W ?_)) <;> (try refine h0b ?_)) | (refine gR 4 (p_e (q_f h2b) (h:=p_e q_l (h:=p_e (q_b (r:=by exact h0h q_o)) (h:=p_a (h:=h0b ?_)))))) | (refine gR 6 (p_m (h:=q_m ?_)) <;> (try refine h0i ?_; (first | refine h2m rfl rfl rfl rfl ?_ | (refine h1j rfl rfl rfl ?_; (refine q_k (q_f h2k) ?_)))) <;> (try refine h0i ?_; (first | refine h2m rfl rfl rfl rfl ?_ | (refine h1j rfl rfl rfl ?_; (refine q_k q_l ?_)))) <;> (try refine h0i ?_; (first | refine h2m rfl rfl rfl rfl ?_ | (refine h1j rfl rfl rfl ?_; (refine q_k (q_b (r:=by exact h0h q_o)) ?_)))) <;> (try refine p_p (h:=p_a (h:=h0b ?_)))) | (refine gR 7 (p_m (h:=p_e (by apply E_un; exact rfl; (focus (first | exact ru_not_t | exact ru_not_f))) (h:=q_m ?_))) <;> (try refine h0i ?_; (first | refine h2m rfl rfl rfl rfl ?_ | (refine h1j rfl rfl rfl ?_; (refine q_k (q_f h2k) ?_)))) <;> (try refine h0i ?_; (first | refine h2m rfl rfl rfl rfl ?_ | (refine h1j rfl rfl rfl ?_; (refine q_k q_l ?_)))) <;> (try refine h0i ?_; (first | refine h2m rfl rfl rfl rfl ?_ | (refine h1j rfl rfl rfl ?_; (refine q_k (q_f h2b) ?_)))) <;> (try refine h0i ?_; (first | refine h2m rfl rfl rfl rfl ?_ | (refine h1j rfl rfl rfl ?_; (refine q_k q_l ?_)))) <;> (try refine h0i ?_; (first | refine h2m rfl rfl rfl rfl ?_ | (refine h1j rfl rfl rfl ?_; (refine q_k (q_b (r:=by exact h0h q_o)) ?_)))) <;> (try refine p_p (h:=p_a (h:=h0b ?_)))) | (refine gR 9 (p_e (q_f h2b) (h:=q_e q_l ?_)) <;> (try refine q_e (q_b (r:=by apply h1c; exact c_6; (focus (refine IntWalk.i64_in _ ?_; omega)))) ?_) <;> (try refine q_e (q_f h2b) ?_) <;> (try refine h0i ?_; (refine q_S ?_)) <;> (try refine h0b ?_)) | (refine gR 10 (p_m (h:=h0b ?_))) | (refine gR 11 (p_e (q_f h2k) (h:=q_e q_l ?_)) <;> (try refine q_e (q_b (r:=by apply h1c; exact c_6; (focus (refine IntWalk.i64_in _ ?_; omega)))) ?_) <;> (try refine q_e (q_f h2k) ?_) <;> (try refine h0i ?_; (refine q_S ?_)) <;> (try refine h0b ?_)) | (refine gR 12 (p_e (q_f h2b) (h:=q_e q_l ?_)) <;> (try refine q_e (by exact q_b (r:=by refine h0w ?_; first | rfl | (with_reducible assumption) | (decide; done) | omega)) ?_) <;> (try refine h0b ?_)) | (refine gR 13 (p_m (h:=p_n (h:=p_e (q_f h1q) (h:=p_e q_l (h:=q_m ?_))))) <;> (try refine h0i ?_; (apply K1_deleteG; exact rfl; exact rfl; exact h2j; exact Try.underlying45; exact Try.underlying22; exact rfl; (with_reducible assumption); (try simp only [List.set_cons_succ]); (try simp only [List.set_cons_zero]))) <;> (try refine h0b ?_)) | (refine gR 15 (p_a (h:=h0b ?_))))
    all_goals (rw [he]; (refine h1b Try.results10 (.tmp rfl .nil) ?_); exact ⟨_, ⟨rs.eraseIdx j, (fun h => by cases h), key _ _ ⟨fun h => (by simp [drpOk] at h; omega), fun _ => ⟨rfl, (by simp [drpF])⟩⟩, rfl⟩, by intro w H; refine Sel.out ?_ H; (try simp only [zzC, zzN]); repeat (first | exact Sel.refl _ | (apply Sel.cons; exact h2j; (try simp only [zzE, zzF])) | apply Sel.drop)⟩)
   ·cases b
    all_goals simp [drpOk] at hb
    all_goals refine Fn3 Try.func10 Try.ntmps10 rfl rfl ?_
    all_goals repeat' (first | refine h0j ?_ | refine h0d ?_ | refine h0x ?_ | refine h0k ?_ | refine h0t ?_ | refine h1y ?_ | refine h0l rfl ?_ | refine h0g rfl ?_ | (refine gR 0 (p_a (h:=h0b ?_))) | (refine gR 1 (p_m (h:=p_e (q_b (r:=by exact h1o Try.underlying24)) (h:=h0b ?_)))) | (refine gR 3 (p_m (h:=p_n (h:=p_e (q_f h1q) (h:=p_e q_l (h:=p_m (h:=q_e (by apply h1n; exact rfl; exact rfl; exact h2j; exact Try.underlying45; exact Try.underlying22; exact rfl; exact Try.zeroValue33; (with_reducible assumption); exact rfl) ?_)))))) <;> (try refine h0i ?_; (refine h1w (t:=33) rfl Try.zeroValue33 ?_; intro nb hnb; (try simp only [Value.cells]))) <;> (try refine h0i ?_; (refine q_W ?_)) <;> (try refine h0b ?_)) | (refine gR 4 (p_e (q_f h2b) (h:=p_e q_l (h:=p_e (q_b (r:=by exact h0h q_o)) (h:=p_a (h:=h0b ?_)))))) | (refine gR 6 (p_m (h:=q_m ?_)) <;> (try refine h0i ?_; (first | refine h2m rfl rfl rfl rfl ?_ | (refine h1j rfl rfl rfl ?_; (refine q_k (q_f h2k) ?_)))) <;> (try refine h0i ?_; (first | refine h2m rfl rfl rfl rfl ?_ | (refine h1j rfl rfl rfl ?_; (refine q_k q_l ?_)))) <;> (try refine h0i ?_; (first | refine h2m rfl rfl rfl rfl ?_ | (refine h1j rfl rfl rfl ?_; (refine q_k (q_b (r:=by exact h0h q_o)) ?_)))) <;> (try refine p_p (h:=p_a (h:=h0b ?_)))) | (refine gR 7 (p_m (h:=p_e (by apply E_un; exact rfl; (focus (first | exact ru_not_t | exact ru_not_f))) (h:=q_m ?_))) <;> (try refine h0i ?_; (first | refine h2m rfl rfl rfl rfl ?_ | (refine h1j rfl rfl rfl ?_; (refine q_k (q_f h2k) ?_)))) <;> (try refine h0i ?_; (first | refine h2m rfl rfl rfl rfl ?_ | (refine h1j rfl rfl rfl ?_; (refine q_k q_l ?_)))) <;> (try refine h0i ?_; (first | refine h2m rfl rfl rfl rfl ?_ | (refine h1j rfl rfl rfl ?_; (refine q_k (q_f h2b) ?_)))) <;> (try refine h0i ?_; (first | refine h2m rfl rfl rfl rfl ?_ | (refine h1j rfl rfl rfl ?_; (refine q_k q_l ?_)))) <;> (try refine h0i ?_; (first | refine h2m rfl rfl rfl rfl ?_ | (refine h1j rfl rfl rfl ?_; (refine q_k (q_b (r:=by exact h0h q_o)) ?_)))) <;> (try refine p_p (h:=p_a (h:=h0b ?_)))) | (refine gR 9 (p_e (q_f h2b) (h:=q_e q_l ?_)) <;> (try refine q_e (q_b (r:=by apply h1c; exact c_6; (focus (refine IntWalk.i64_in _ ?_; omega)))) ?_) <;> (try refine q_e (q_f h2b) ?_) <;> (try refine h0i ?_; (refine q_S ?_)) <;> (try refine h0b ?_)) | (refine gR 10 (p_m (h:=h0b ?_))) | (refine gR 11 (p_e (q_f h2k) (h:=q_e q_l ?_)) <;> (try refine q_e (q_b (r:=by apply h1c; exact c_6; (focus (refine IntWalk.i64_in _ ?_; omega)))) ?_) <;> (try refine q_e (q_f h2k) ?_) <;> (try refine h0i ?_; (refine q_S ?_)) <;> (try refine h0b ?_)) | (refine gR 12 (p_e (q_f h2b) (h:=p_e q_l (h:=p_e (q_b (r:=by exact h0h q_o)) (h:=h0b ?_))))) | ((apply h1a (i:=2) (id:=14) (m:=7); exact c_9; kernel_rfl; exact rfl) <;> (try refine q_t 0 (e:=c_2) (x:=by exact h0c rfl) (h:=q_t 1 (e:=c_2) (x:=by exact h1r rfl) (h:=q_t 2 (e:=c_2) (x:=by exact q_f h1q) (h:=q_t 3 (e:=c_2) (x:=by exact q_l) (h:=q_t 4 (e:=c_2) (x:=by exact h0c rfl) (h:=q_t 5 (e:=c_2) (x:=by exact q_L sz_33) (h:=?_))))))) <;> (try refine q_r 6 ?_; (apply K1_mapUpdateG2; exact rfl; exact rfl; exact rfl; exact h2j; exact Try.underlying45; exact Try.underlying22; exact rfl; (with_reducible assumption); (try simp only [List.set_cons_succ]); (try simp only [List.set_cons_zero])); refine h0s c_2 ?_) <;> (try refine h0q (by kernel_rfl) ?_)) | (refine gR 15 (p_a (h:=h0b ?_))))
    ·rw [hs (.agg #[.int .i64 ((o : Int) - 1), .int .i64 (l : Int)]) (by simp [PR.val, drpR]; omega)]
     (refine h1b Try.results10 (.tmp rfl .nil) ?_)
     exact ⟨_, ⟨rs.set j (drpR ⟨n', o, l, bo⟩ false), (fun h => by cases h), key _ _ ⟨fun h => (by simp [drpOk] at h; omega), fun _ => ⟨rfl, (by simp [drpF, h1])⟩⟩, rfl⟩, by intro w H; refine Sel.out ?_ H; (try simp only [zzC, zzN]); repeat (first | exact Sel.refl _ | (apply Sel.cons; exact h2j; (try simp only [zzE, zzF])) | apply Sel.drop)⟩
    ·rw [hs (.agg #[.int .i64 ((o : Int) - 1), .int .i64 ((l : Int) - 1)]) (by simp [PR.val, drpR]; omega)]
     (refine h1b Try.results10 (.tmp rfl .nil) ?_)
     exact ⟨_, ⟨rs.set j (drpR ⟨n', o, l, bo⟩ true), (fun h => by cases h), key _ _ ⟨fun h => (by simp [drpOk] at h; omega), fun _ => ⟨rfl, (by simp [drpF, h1])⟩⟩, rfl⟩, by intro w H; refine Sel.out ?_ H; (try simp only [zzC, zzN]); repeat (first | exact Sel.refl _ | (apply Sel.cons; exact h2j; (try simp only [zzE, zzF])) | apply Sel.drop)⟩
theorem bindK_c {S w0 L} (tb mb : Nat) (rs : List PR) (c n : Nat) (hn0 : n ≠ 0) (hop : ∀ r ∈ rs, 1 ≤ r.o) : Fn Try.prog 6 #[.pointer (some ⟨tb, 0, none⟩), .int .u16 (n : Nat)] S w0 (ptB tb mb :: h2p mb (prE rs) c :: L) fun v L' => ∃ rs' c', ((pix rs n).isSome = true → v = .tuple #[.int .u16 0, .int .i64 98] ∧ rs' = rs ∧ c' = c) ∧ (pix rs n = none → v = .tuple #[.int .u16 (n : Nat), .int .i64 0] ∧ rs' = rs ++ [⟨n, 1, 0, c⟩] ∧ c' = c + 1) ∧ ptB tb mb :: h2p mb (prE rs') c' :: L = L' := by
 cases h : pix rs n with
 | none =>
  have hf := find_none h
  refine Fn2 Try.func6 Try.ntmps6 rfl rfl ?_
  repeat' (first | refine h0j ?_ | refine h0d ?_ | refine h0t ?_ | refine h1y ?_ | refine h0g rfl ?_ | (refine gR 0 (p_a (h:=p_a (h:=h0b ?_)))) | (refine gR 1 (p_m (h:=p_e (q_b (r:=by exact h1o Try.underlying24)) (h:=h0b ?_)))) | (refine gR 3 (p_m (h:=p_e (q_b (r:=by exact h0h q_o)) (h:=h0b ?_)))) | (refine gR 7 (p_m (h:=p_n (h:=p_e (q_f h1q) (h:=p_e q_l (h:=p_m (h:=p_e (by apply h1n; exact rfl; exact rfl; exact h2j; exact Try.underlying45; exact Try.underlying22; exact rfl; exact Try.zeroValue33; (with_reducible assumption); exact rfl) (h:=p_e (by apply E_field; exact rfl; (focus (apply h3e Try.underlying33; exact rfl; kernel_rfl; kernel_rfl; exact rfl))) (h:=p_e (q_b (r:=by exact rb_gtr_f q_o)) (h:=h0b ?_)))))))))) | (refine gR 9 (p_m (h:=p_n (h:=p_e (q_f h1q) (h:=p_e q_l (h:=q_m ?_))))) <;> (try refine q_e (by exact E_build (t:=33) (fun vs => (match vs with | [(_, x0)] => [x0, Value.int .i64 0] | _ => [])) rfl (fun w => by kernel_rfl)) ?_; (try simp only [Value.cells]); (try simp only [zzC, zzN])) <;> (try refine h0i ?_; (apply K1_mapUpdateG; exact rfl; exact rfl; exact rfl; exact h2j; exact Try.underlying45; exact Try.underlying22; exact rfl; (with_reducible assumption); (try simp only [List.set_cons_succ]); (try simp only [List.set_cons_zero]))) <;> (try refine h0b ?_)) | (refine gR 10 (p_m (h:=p_a (h:=p_a (h:=h0b ?_))))))
  (refine h1b Try.results6 (.tmp rfl (.tmp rfl .nil)) ?_)
  exact ⟨_, ⟨rs ++ [⟨n, 1, 0, c⟩], c + 1, (fun h => by cases h), (fun _ => ⟨rfl, rfl, rfl⟩), rfl⟩, by (rw [← prE_snoc]; intro w H; refine Sel.out ?_ H; (try simp only [zzC, zzN]); repeat (exact Sel.refl _))⟩
 | some j =>
  obtain ⟨⟨n', o, l, bo⟩, hr, rfl⟩ := h3f h
  have hf := find_some h hr
  have ho := hop _ (List.mem_of_getElem? hr)
  simp only [PR.val] at hf ho
  refine Fn2 Try.func6 Try.ntmps6 rfl rfl ?_
  repeat' (first | refine h0j ?_ | refine h0d ?_ | refine h2c ?_ | refine h0t ?_ | refine h1y ?_ | refine h0l rfl ?_ | refine h0g rfl ?_ | (refine gR 0 (p_a (h:=p_a (h:=h0b ?_)))) | (refine gR 1 (p_m (h:=p_e (q_b (r:=by exact h1o Try.underlying24)) (h:=h0b ?_)))) | (refine gR 3 (p_m (h:=p_e (q_b (r:=by exact h0h q_o)) (h:=h0b ?_)))) | (refine gR 7 (p_m (h:=p_n (h:=p_e (q_f h1q) (h:=p_e q_l (h:=p_m (h:=p_e (by apply h1n; exact rfl; exact rfl; exact h2j; exact Try.underlying45; exact Try.underlying22; exact rfl; exact Try.zeroValue33; (with_reducible assumption); exact rfl) (h:=p_e (by apply E_field; exact rfl; (focus (apply h3e Try.underlying33; exact rfl; kernel_rfl; kernel_rfl; exact rfl))) (h:=p_e (q_b (r:=by exact rb_gtr_t q_o)) (h:=h0b ?_)))))))))) | (refine gR 8 (p_a (h:=p_a (h:=h0b ?_)))))
  (refine h1b Try.results6 (.tmp rfl (.tmp rfl .nil)) ?_)
  exact ⟨_, ⟨rs, c, (fun _ => ⟨rfl, rfl, rfl⟩), (fun h => by cases h), rfl⟩, by intro w H; refine Sel.out ?_ H; (try simp only [zzC, zzN]); repeat (exact Sel.refl _)⟩
theorem bind0_c {S w0 L} (tb mb : Nat) (rs : List PR) (c : Nat) (hl : rs.length ≤ 200) (hop : ∀ r ∈ rs, 1 ≤ r.o) : Fn Try.prog 6 #[.pointer (some ⟨tb, 0, none⟩), .int .u16 0] S w0 (ptB tb mb :: h2p mb (prE rs) c :: L) fun v L' => ∃ k, IsFree rs k ∧ k ≤ 1300 ∧ v = .tuple #[.int .u16 (k : Nat), .int .i64 0] ∧ ptB tb mb :: h2p mb (prE (rs ++ [⟨k, 1, 0, c⟩])) (c + 1) :: L = L' := by
 have h0 := from_le rs 1024
 refine Fn2 Try.func6 Try.ntmps6 rfl rfl ?_
 repeat' (first | refine h0j ?_ | refine h0d ?_ | refine h0k ?_ | refine h0t ?_ | refine h0l rfl ?_ | refine h0g rfl ?_ | (refine gR 0 (p_a (h:=p_a (h:=h0b ?_)))) | (refine gR 1 (p_m (h:=p_e (q_b (r:=by exact h1o Try.underlying24)) (h:=h0b ?_)))) | (refine gR 3 (q_m ?_) <;> (try refine q_e (by exact q_b (r:=by refine h0w ?_; first | rfl | (with_reducible assumption) | (decide; done) | omega)) ?_) <;> (try refine h0b ?_)) | (refine gR 4 (p_a (h:=h0b ?_))))
 refine h1x (γ:=Nat) (fun k => Free rs k ∧ k + from_ rs k ≤ 1224) (fun k => 2000 - k) (fun k => [(1, .int .u16 (k : Nat))]) [(0, _)] (fun _ => ptB tb mb :: h2p mb (prE rs) c :: L) 1024 (.cons rfl .nil) ⟨⟨by omega, fun j => by omega⟩, by omega⟩ (by (focus (repeat (first | exact Sub.nil | refine Sub.cons rfl ?_)))) c_18 ?_
 rintro k ⟨hk : Free rs k, hk2 : k + from_ rs k ≤ 1224⟩
 dsimp only [List.cons_append, List.nil_append]
 cases h : pix rs k with
 | none =>
  have hf := find_none h
  repeat' (first | refine h0j ?_ | refine h0d ?_ | refine h1l ?_ | refine h0z ?_ | refine h1i ?_ | refine h0t ?_ | refine h1u ?_ | refine h1y ?_ | refine h0g rfl ?_ | (refine gR 5 (p_m (h:=p_n (h:=p_e (q_f h1q) (h:=p_e q_l (h:=p_m (h:=p_e (by apply h1n; exact rfl; exact rfl; exact h2j; exact Try.underlying45; exact Try.underlying22; exact rfl; exact Try.zeroValue33; (with_reducible assumption); exact rfl) (h:=p_e (by apply E_field; exact rfl; (focus (apply h3e Try.underlying33; exact rfl; kernel_rfl; kernel_rfl; exact rfl))) (h:=p_e (q_b (r:=by exact rb_gtr_f q_o)) (h:=h0b ?_)))))))))) | (refine gR 7 (p_m (h:=p_n (h:=p_e (q_f h1q) (h:=p_e q_l (h:=p_m (h:=p_e (by apply h1n; exact rfl; exact rfl; exact h2j; exact Try.underlying45; exact Try.underlying22; exact rfl; exact Try.zeroValue33; (with_reducible assumption); exact rfl) (h:=p_e (by apply E_field; exact rfl; (focus (apply h3e Try.underlying33; exact rfl; kernel_rfl; kernel_rfl; exact rfl))) (h:=p_e (q_b (r:=by exact rb_gtr_f q_o)) (h:=h0b ?_)))))))))) | (refine gR 9 (p_m (h:=p_n (h:=p_e (q_f h1q) (h:=p_e q_l (h:=q_m ?_))))) <;> (try refine q_e (by exact E_build (t:=33) (fun vs => (match vs with | [(_, x0)] => [x0, Value.int .i64 0] | _ => [])) rfl (fun w => by kernel_rfl)) ?_; (try simp only [Value.cells]); (try simp only [zzC, zzN])) <;> (try refine h0i ?_; (apply K1_mapUpdateG; exact rfl; exact rfl; exact rfl; exact h2j; exact Try.underlying45; exact Try.underlying22; exact rfl; (with_reducible assumption); (try simp only [List.set_cons_succ]); (try simp only [List.set_cons_zero]))) <;> (try refine h0b ?_)) | (refine gR 10 (p_m (h:=p_a (h:=p_a (h:=h0b ?_))))))
  (refine h1b Try.results6 (.tmp rfl (.tmp rfl .nil)) ?_)
  exact ⟨_, ⟨k, ⟨hk, h⟩, by omega, rfl, rfl⟩, by (rw [← prE_snoc]; intro w H; refine Sel.out ?_ H; (try simp only [zzC, zzN]); repeat (exact Sel.refl _))⟩
 | some j =>
  have hn := from_next h
  obtain ⟨⟨n', o, l, bo⟩, hr, rfl⟩ := h3f h
  have hf := find_some h hr
  have ho := hop _ (List.mem_of_getElem? hr)
  simp only [PR.val] at hf ho hn h hk hk2
  repeat' (first | refine h0j ?_ | refine h0d ?_ | refine h0m ?_ | refine h0x ?_ | refine h0k ?_ | refine h0t ?_ | refine h0l rfl ?_ | (refine gR 5 (p_m (h:=p_n (h:=p_e (q_f h1q) (h:=p_e q_l (h:=p_m (h:=p_e (by apply h1n; exact rfl; exact rfl; exact h2j; exact Try.underlying45; exact Try.underlying22; exact rfl; exact Try.zeroValue33; (with_reducible assumption); exact rfl) (h:=p_e (by apply E_field; exact rfl; (focus (apply h3e Try.underlying33; exact rfl; kernel_rfl; kernel_rfl; exact rfl))) (h:=p_e (q_b (r:=by exact rb_gtr_t q_o)) (h:=h0b ?_)))))))))) | (refine gR 6 (q_m ?_) <;> (try refine q_e (q_b (r:=by apply h0u; exact c_6; (focus (refine IntWalk.u16_in _ ?_; omega)))) ?_) <;> (try refine p_a (h:=h0b ?_))))
  exact h0p (n' + 1) ⟨⟨hk.next h, (by show n' + 1 + from_ rs (n' + 1) ≤ 1224; omega)⟩, (by show 2000 - (n' + 1) < 2000 - n'; omega)⟩ (by (focus (repeat (first | exact Sub.nil | refine Sub.cons rfl ?_)))) c_18
theorem bridge_arr {xs : List Int} {cur : Array Value} (h : cur.toList.take (xs.length * 1) = xs.map (fun x => Value.int .u16 x)) : cur = (arrH xs (cur.toList.drop xs.length)).toArray := by
 rw [Nat.mul_one] at h
 have e := List.take_append_drop xs.length cur.toList
 rw [h] at e
 rw [arrH, e]
theorem nodup_inj {α : Type} {f : α → Nat} {l : List α} (h : (l.map f).Nodup) {x y : α} (hx : x ∈ l) (hy : y ∈ l) (e : f x = f y) : x = y := by
 induction l with
 | nil => cases hx
 | cons a l ih =>
  rw [List.map_cons, List.nodup_cons] at h
  rcases List.mem_cons.1 hx with hx2 | hx2 <;> rcases List.mem_cons.1 hy with hy2 | hy2
  ·rw [hx2, hy2]
  ·exact (h.1 (by rw [← hx2, e]; exact List.mem_map_of_mem hy2)).elim
  ·exact (h.1 (by rw [← hy2, ← e]; exact List.mem_map_of_mem hx2)).elim
  ·exact ih h.2 hx2 hy2
theorem nodup_of_map {α : Type} {f : α → Nat} {l : List α} (h : (l.map f).Nodup) : l.Nodup := by
 induction l with
 | nil => simp
 | cons a l ih =>
  rw [List.map_cons, List.nodup_cons] at h
  exact List.nodup_cons.2 ⟨fun hm => h.1 (List.mem_map_of_mem hm), ih h.2⟩
theorem hist_perm {α : Type} {f : α → Nat} {hs rs : List α} (h1 : (hs.map f).Nodup) (h2 : (rs.map f).Nodup) (h3 : ∀ r ∈ hs, r ∈ rs) (h4 : ∀ r ∈ rs, f r ∈ hs.map f) : hs.Perm rs := by
 rw [List.perm_ext_iff_of_nodup (nodup_of_map h1) (nodup_of_map h2)]
 intro r
 refine ⟨h3 r, fun hr => ?_⟩
 obtain ⟨r', hr', e⟩ := List.mem_map.1 (h4 r hr)
 rwa [← nodup_inj h2 (h3 r' hr') hr e]
theorem hist_lt {α : Type} {f : α → Nat} {hs rs : List α} {r : α} (h1 : (hs.map f).Nodup) (h3 : ∀ r ∈ hs, r ∈ rs) (hr : r ∈ rs) (hn : f r ∉ hs.map f) : hs.length + 1 ≤ rs.length := by
 have h5 : (r :: hs).Nodup := List.nodup_cons.2 ⟨fun hm => hn (List.mem_map_of_mem hm), nodup_of_map h1⟩
 have := List.Nodup.length_le_of_subset h5 (l₂:=rs) (fun x hx => by rcases List.mem_cons.1 hx with rfl | hx; exact hr; exact h3 x hx)
 simpa using this
structure LsI (rs : List PR) (g : List PR × Value × List Blk) : Prop where
 nd : (g.1.map (·.b)).Nodup
 mem : ∀ r ∈ g.1, r ∈ rs
 own : Own 22 1 g.2.1 g.1.length (g.1.map fun r => Value.int .u16 (r.n : Nat)) g.2.2
theorem list_c {S w0 L} (tb mb : Nat) (rs : List PR) (c k : Nat) (hk : k ≤ 101) (hp : POk k rs c) : Fn Try.prog 11 #[.pointer (some ⟨tb, 0, none⟩)] S w0 (ptB tb mb :: h2p mb (prE rs) c :: L) fun v L' => ∃ (l : List Int) (e : List Blk), Own 22 1 v l.length (l.map fun x => Value.int .u16 x) e ∧ l.Perm (rs.map fun r => (r.n : Int)) ∧ l.Pairwise (· ≤ ·) ∧ e ++ (ptB tb mb :: h2p mb (prE rs) c :: L) = L' := by
 have hold : ∀ e ∈ prE rs, e.born < c := fun e he => by
  obtain ⟨r, hr, rfl⟩ := List.mem_map.1 he
  exact hp.bl r hr
 have hnd : ((prE rs).map (·.born)).Nodup := by
  have : (prE rs).map (·.born) = rs.map (·.b) := by simp [prE, PR.ent, Function.comp_def]
  rw [this]; exact hp.bn
 have hlen : (prE rs).length = rs.length := by simp [prE]
 have hrl := hp.len
 refine Fn1 Try.func11 Try.ntmps11 rfl rfl ?_
 repeat' (first | refine h0j ?_ | refine h0d ?_ | refine h0k ?_ | refine h0t ?_ | refine h0g rfl ?_ | (refine gR 0 (p_a (h:=h0b ?_))) | (refine gR 1 (p_m (h:=p_e (q_b (r:=by exact h1o Try.underlying24)) (h:=h0b ?_)))) | (refine gR 3 (p_a (h:=h0b ?_))) | (refine gR 4 (p_m (h:=p_n (h:=p_e (q_f h1q) (h:=q_e q_l ?_)))) <;> (try refine h0i ?_; (apply K1_rangeMapG; exact rfl; exact rfl; exact h2j; exact Try.underlying45; intro nb hnb)) <;> (try refine h0b ?_)))
 obtain ⟨nbI, rfl⟩ : ∃ x, x = nb := ⟨_, rfl⟩
 refine h1x (γ:=List PR × Value × List Blk) (LsI rs) (fun g => rs.length - g.1.length) (fun g => [(3, g.2.1)]) [(11, _)]
  (fun g => g.2.2 ++ (mitG nbI mb c (g.1.map (·.b)) :: ptB tb mb :: h2p mb (prE rs) c :: L)) ([], .slice none 0 0, []) (.cons rfl .nil) ⟨List.nodup_nil, by simp, Own.nil _ _⟩ (by (focus (repeat (first | exact Sub.nil | refine Sub.cons rfl ?_)))) (fun _ H => H) ?_
 rintro ⟨hist, v, e⟩ ⟨h1, h2, hown⟩
 dsimp only at h1 h2 hown ⊢
 simp only [List.cons_append, List.nil_append]
 repeat' (first | (refine h1t (id:=8) ?_) | (refine G_markb (id:=1) ?_) | refine h0j ?_ | refine h0d ?_ | refine h1l ?_ | refine h0z ?_ | refine h1i ?_ | refine h0t ?_ | refine h1u ?_ | refine h0l rfl ?_ | refine h0g rfl ?_ | (refine gR 5 ?_ <;> (try refine h0i ?_; (apply K1_nextMapG; (with_reducible assumption); exact rfl; exact rfl; (focus (repeat (first | exact fd0 | apply fdA))); (focus (repeat (first | exact fd0 | apply fdA | apply fdS))); rotate_left; (intro eN heN hsN; (try simp only [set_app]); (try simp only [List.set_cons_succ]); (try simp only [List.set_cons_zero])); rotate_right; intro hDone)) <;> (try refine p_x (h:=h0b ?_))))
 ·refine ⟨?_⟩
  have hpm := hist_perm h1 hp.bn h2 (fun r hr => hDone r.ent (List.mem_map_of_mem hr))
  have hhl := hpm.length_eq
  rcases own_cases hown with ⟨rfl, hz, hz2, rfl⟩ | ⟨g, cap, cur, rfl, rfl, k1, k2, k3, k4⟩
  ·have hz : hist = [] := List.eq_nil_of_length_eq_zero hz
   subst hz
   repeat' (first | refine h0j ?_ | refine h0d ?_ | refine h1y ?_ | (refine gR 8 (q_m ?_) <;> (try refine h0i ?_; (refine h0v (F:=15) (by kernel_rfl) rfl rfl sortNH_c ?_; rintro _ _ ⟨rfl, rfl⟩)) <;> (try refine h0b ?_)) | (refine gR 9 (p_m (h:=p_a (h:=h0b ?_)))))
   (refine h1b Try.results11 (.tmp rfl .nil) ?_)
   exact ⟨_, ⟨[], [], Own.nil _ _, hpm.map _, by simp, rfl⟩, by intro w H; refine Sel.out ?_ H; (try simp only [zzC, zzN]); repeat (first | exact Sel.refl _ | (apply Sel.cons; exact h2j; (try simp only [zzE, zzF])) | apply Sel.drop)⟩
  ·have hcur := bridge_arr (xs:=hist.map fun r => (r.n : Int)) (cur:=cur) (by rw [List.length_map, k4]; simp [Function.comp_def])
   have hso := fun (L : List Blk) => sortH_c (S:=S) (w0:=w0) (L:=L) g hist.length cap (cur.toList.drop (hist.map fun r => (r.n : Int)).length) (hist.map fun r => (r.n : Int)) (by omega) (by simp)
   have hrl2 : (cur.toList.drop (hist.map fun r => (r.n : Int)).length).length = cap * 1 - hist.length := by simp [k3]
   generalize cur.toList.drop (hist.map fun r => (r.n : Int)).length = rest at *
   subst hcur
   simp only [List.cons_append, List.nil_append]
   clear hDone hown k4
   repeat' (first | refine h0j ?_ | refine h0d ?_ | refine h1y ?_ | (refine gR 8 (q_m ?_) <;> (try refine h0i ?_; (refine h0v (F:=15) (by kernel_rfl) rfl rfl (hso _) ?_; rintro _ _ ⟨rfl, l', j1, j2, rfl⟩)) <;> (try refine h0b ?_)) | (refine gR 9 (p_m (h:=p_a (h:=h0b ?_)))))
   (refine h1b Try.results11 (.tmp rfl .nil) ?_)
   have hll : l'.length = hist.length := by have := j1.length_eq; simpa using this
   refine ⟨_, ⟨l', [h2y g l' rest], ?_, j1.trans (hpm.map _), j2, rfl⟩, by intro w H; refine Sel.out ?_ H; (try simp only [zzC, zzN]); repeat (first | exact Sel.refl _ | (apply Sel.cons; exact h2j; (try simp only [zzE, zzF])) | apply Sel.drop)⟩
   rw [← hll]
   refine own_mk (by omega) k2 ?_ ?_
   ·rw [arrH_size, hll, hrl2]; omega
   ·simp [arrH]
 ·refine ⟨?_⟩
  obtain ⟨r, hr, rfl⟩ := List.mem_map.1 heN
  have hlt := hist_lt h1 h2 hr hsN
  have hrn := hp.lt r hr
  have hnd2 : ((hist ++ [r]).map (·.b)).Nodup := by
   rw [List.map_append, List.nodup_append]
   exact ⟨h1, by simp, fun x hx y hy => by simp at hy; subst hy; rintro rfl; exact hsN hx⟩
  have hm2 : ∀ q ∈ hist ++ [r], q ∈ rs := fun q hq => by
   rcases List.mem_append.1 hq with hq | hq
   ·exact h2 q hq
   ·simp at hq; subst hq; exact hr
  have hnd' := Lib.hid hnd2
  have hm' := Lib.hid hm2
  clear hnd2 hm2 h1 h2 hsN
  obtain ⟨rn, ro, rl, rb⟩ := r
  dsimp only [PR.ent] at *
  repeat' (first | refine h0j ?_ | refine h0d ?_ | refine h0m ?_ | refine h0x ?_ | refine h0k ?_ | (refine gR 6 (p_e (by apply E_entryMapG; (with_reducible assumption); (with_reducible assumption); exact rfl; (focus (repeat (first | exact fd0 | apply fdA))); (focus (repeat (first | exact fd0 | apply fdA | apply fdS)))) (h:=p_x (h:=p_a (h:=h0b ?_))))) | (refine gR 7 (p_m (h:=q_m ?_)) <;> (try refine h0i ?_; (refine h1m (t:=30) (m:=1) (e:=22) (fun vs => (match vs with | [(_, x0)] => [x0] | _ => [])) rfl rfl (fun w => by kernel_rfl) ?_; intro nb hnb; (try simp only [Value.cells]); (try simp only [zzC, zzN]))) <;> (try refine h0i ?_; (apply K1_append; exact rfl; exact Try.underlying30; exact inf_22_i; exact inf_22_z; exact inf_22_s; exact inf_22_b; exact rfl; exact rfl; exact rfl; (with_reducible assumption); exact fd0; exact Nat.le_of_ble_eq_true rfl; exact c_16; exact rfl; exact c_13; omega; (focus (intro w H; repeat (first | exact H | (replace H := H.tail)))); exact rfl; exact c_10; exact c_5; intro vA eA hownA)) <;> (try refine p_a (h:=h0b ?_))))
  refine h0p (hist ++ [⟨rn, ro, rl, rb⟩], vA, eA) ⟨⟨hnd'.out, hm'.out, ?_⟩, ?_⟩ (by (focus (repeat (first | exact Sub.nil | refine Sub.cons rfl ?_)))) ?_
  ·simpa using hownA
  ·simp; omega
  ·simp only [List.map_append, List.map_cons, List.map_nil]
   intro w H
   exact H.sub (List.Sublist.append_left c_17 _)
section
variable {P : Program} {n : Nat} {l : List (Nat × Value)} {S : List Nat} {w0 : World} {L : List Blk} {K : Act → World → Prop} {k : Kont} {ops : Array Oper} {d : Tmp} {ty : TypeId} {pos : String} {af : Array Edge}
theorem K1_append0 {E : Nat} {t tt : TypeId} {inf : TypeInfo} {s y : Operand} {sa ya : Option Addr} {m cp cy : Nat}
  (hd : Nat.blt d n = true) (ht : P.underlying t = some (.slice E)) (hi : P.info? E = some inf) (hs : ev l s = some (.slice sa m cp)) (hy : ev l y = some (.slice ya 0 cy)) (hle : m ≤ cp) (htt : tt = t)
  (h : G n ((d, .slice sa m cp) :: l) S w0 L K) :
  G n l S w0 L (K1 P ops k ⟨some d, .call { callee := .builtin .append, args := #[s, y], argTypes := #[t, tt] }, ty, pos, af, none⟩ K) := .mk fun a w hf H => h3g rfl <| by
  subst htt
  have hr : (Builtin.append_ #[tt, tt] ty #[.slice sa m cp, .slice ya 0 cy]).run P w = .ok (.slice sa m cp) w := by
   cases sa <;> cases ya <;> simp [Builtin.append_, run_underlying ht, sizeOf, typeInfo, hi, Builtin.lenOf, Builtin.firstCells, loadCells, loadCellsFrom, storeCells, hle]
  unfold Oper.wp execOp
  simp only [resolve, invoke, builtin, Sem.run_bind, Sem.run_pure, Result.andThen_ok, List.map_toArray, List.map_cons, List.map_nil, hf.eval hs, hf.eval hy, hr]
  exact (h.out _ _ (hf.put (some d) _ hd) H)
end
section
variable {P : Program} {n : Nat} {l : List (Nat × Value)} {S : List Nat} {w0 : World} {L : List Blk} {K : Act → World → Prop} {k : Kont} {ops : Array Oper} {d : Tmp} {ty : TypeId} {pos : String} {af : Array Edge}
theorem K1_callv {F : FuncId} {t : Tmp} {first captured : Array Value} {xs : List Operand} {vs : List Value} {ats : Array TypeId} {R : Value → List Blk → Prop} (hfn : (P.funcs[F]?).map (fun fn => (fn.name == "runtime.NumGoroutine", fn.body.isNone)) = some (false, false)) (hd : Nat.blt d n = true)
  (ht : lk l t = some (.func (.func F) first captured)) (hx : evs l xs = some vs) (hc : Fn P F (first ++ vs.toArray ++ captured) S w0 L R) (h : ∀ v L', R v L' → G n ((d, v) :: l) S w0 L' K) :
  G n l S w0 L (K1 P ops k ⟨some d, .call { callee := .value (.tmp t), args := xs.toArray, argTypes := ats }, ty, pos, af, none⟩ K) := .mk fun a w hf H => h3g rfl <| by
  unfold Oper.wp
  have e1 : a.eval (.tmp t) = .func (.func F) first captured := hf.eval (x:=.tmp t) ht
  have e : execOp a.eval ⟨some d, .call { callee := .value (.tmp t), args := xs.toArray, argTypes := ats }, ty, pos, af, none⟩ = callFunc F (first ++ (xs.toArray.map a.eval) ++ captured) := by
   show (do let d ← Deferred.ofValue (a.eval (.tmp t)) (xs.toArray.map a.eval); invoke d.target d.args) = _
   rw [e1]; rfl
  rw [e, List.map_toArray, hf.evals hx, run_callFunc hfn]
  refine (hc.out w H).mono fun e w' ⟨v, L', he, hR, H'⟩ => ?_
  subst he
  exact ((h v L' hR).out _ _ (hf.put (some d) v hd) H')
end
section
variable {P : Program} {n : Nat} {l : List (Nat × Value)} {S : List Nat} {w0 : World} {L : List Blk} {K : Act → World → Prop} {k : Kont} {ops : Array Oper} {d : Tmp} {ty : TypeId} {pos : String} {af : Array Edge}
theorem K1_callvc {F : FuncId} {t : Tmp} {first captured : Array Value} {xs : List Operand} {vs zs : List Value} {ats : Array TypeId} {R : Value → List Blk → Prop} (hfn : (P.funcs[F]?).map (fun fn => (fn.name == "runtime.NumGoroutine", fn.body.isNone)) = some (false, false)) (hd : Nat.blt d n = true)
  (ht : lk l t = some (.func (.func F) first captured)) (hx : evs l xs = some vs) (hz : first.toList ++ vs ++ captured.toList = zs) (hc : Fn P F zs.toArray S w0 L R) (h : ∀ v L', R v L' → G n ((d, v) :: l) S w0 L' K) :
  G n l S w0 L (K1 P ops k ⟨some d, .call { callee := .value (.tmp t), args := xs.toArray, argTypes := ats }, ty, pos, af, none⟩ K) := by
 refine K1_callv hfn hd ht hx ?_ h
 have e : first ++ vs.toArray ++ captured = zs.toArray := by rw [← hz]; simp
 rw [e]; exact hc
end
abbrev bxM (b : Nat) (v : Value) : Blk := ⟨true, b, .cells #[v] 38 (0, 0)⟩
def fx (rs : List PR) (n : Nat) : Int := match pix rs n with | some j => (j : Int) | none => -1
theorem pix_drop {rs : List PR} {n k : Nat} (h : k < rs.length) : pix (rs.drop k) n = if rs[k].n = n then some 0 else (pix (rs.drop (k + 1)) n).map (· + 1) := by
 rw [List.drop_eq_getElem_cons h]; rfl
theorem find_c {S w0} (L : List Blk) (bb : Nat) (i : Nat) (rs : List PR) (c n : Nat) (hn : n < 65536) (k : Nat) (hk : k ≤ 101) (hp : POk k rs c) (a : Option Addr) (cap : Nat) (hi : L[i]? = some (bxM bb (.slice a rs.length cap))) (hs : Sli L a rs.length 3 (prC rs)) :
  Fn Try.prog 14 #[.int .u16 (n : Nat), .pointer (some ⟨bb, 0, none⟩)] S w0 L fun v L' => v = .int .i64 (fx rs n) ∧ L = L' := by
 have hl := hp.len
 have hlt := hp.lt
 have hop := hp.op
 clear hp
 have hi' := hi
 refine Fn2 Try.func14 Try.ntmps14 rfl rfl ?_
 repeat' (first | refine h0j ?_ | refine h0d ?_ | refine h0k ?_ | (refine gR 0 (p_a (h:=h0b ?_))) | (refine gR 1 (p_e (by apply h0e (t:=38); exact rfl; exact c_12; kernel_rfl; kernel_rfl; exact rfl) (h:=p_e (by apply E_builtin; exact rfl; exact (fun _ => BigFrame.builtin_len ..); apply h2o Try.underlying38; exact c_11) (h:=p_m (h:=h0b ?_))))))
 refine h1x (γ:=Nat) (fun m => m ≤ rs.length ∧ pix rs n = (pix (rs.drop m) n).map (· + m)) (fun m => rs.length - m) (fun m => [(8, .int .i64 (m : Nat))]) [(0, _), (6, _), (7, _)] (fun _ => L) 0 (.cons rfl (.cons rfl (.cons rfl .nil))) ⟨by omega, by simp⟩ (by (focus (repeat (first | exact Sub.nil | refine Sub.cons rfl ?_)))) (fun _ H => H) ?_
 rintro m ⟨hm : m ≤ rs.length, hpx : pix rs n = (pix (rs.drop m) n).map (· + m)⟩
 have hpx' := Lib.hid hpx
 clear hpx
 dsimp only [List.cons_append, List.nil_append]
 by_cases h : m < rs.length
 ·obtain ⟨i0, q, b, off, cs, T, fr, rfl, hi0, hsz, hx⟩ := hs.elem h
  rw [prC_at rs m h] at hx
  have hpd := Lib.hid (pix_drop (n:=n) h)
  have hrn := hlt _ (List.getElem_mem h)
  clear hlt
  generalize rs[m] = r at *
  obtain ⟨rn, ro, rl, rb⟩ := r
  simp only [PR.cells] at hx
  dsimp only at hrn
  by_cases he : rn = n
  ·subst he
   repeat' (first | refine h0j ?_ | refine h0d ?_ | refine G_cut_r ?_ | refine h2c ?_ | refine h3c ?_ | refine h0k ?_ | refine h0t ?_ | refine h1y ?_ | refine h0l rfl ?_ | (refine gR 2 (p_e (q_b (r:=by exact h2s q_o)) (h:=h0b ?_))) | (refine gR 3 (p_m (h:=p_e (by apply h0a; exact rfl; exact rfl; (focus (apply h0n Try.underlying38 h1z; omega; omega; exact c_1))) (h:=q_e (by apply E_loadA (t:=40); exact rfl; exact c_12; kernel_rfl; kernel_rfl; exact h1z; (with_reducible assumption); (with_reducible assumption)) ?_))) <;> (try refine h0i ?_; (refine h1w (t:=40) rfl Try.zeroValue40 ?_; intro nb hnb; (try simp only [Value.cells]))) <;> (try refine q_a ?_) <;> (try refine h0i ?_; (refine q_W ?_)) <;> (try refine h0b ?_)) | (refine gR 4 (p_e (q_f fo_40_0) (h:=p_e q_l (h:=q_m ?_))) <;> (try refine q_e (by apply E_conv; exact rfl; (focus (apply r_conv Try.underlying22 Try.underlying3; first | (refine IntWalk.i64_in _ ?_; omega) | (refine IntWalk.u8_in _ ?_; omega) | (refine IntWalk.u16_in _ ?_; omega) | (refine IntWalk.u32_in _ ?_; omega) | (refine IntWalk.u64_in _ ?_; omega) | (refine IntWalk.i32_in _ ?_; omega) | exact rfl))) ?_) <;> (try refine q_e (by exact q_b (r:=by refine h0w ?_; first | rfl | (with_reducible assumption) | (decide; done) | omega)) ?_) <;> (try refine h0b ?_)) | (refine gR 5 (p_m (h:=p_a (h:=h0b ?_)))))
   (refine h1b Try.results14 (.tmp rfl .nil) ?_)
   refine ⟨_, ⟨?_, rfl⟩, by intro w H; refine Sel.out ?_ H; (try simp only [zzC, zzN]); repeat (first | exact Sel.refl _ | apply Sel.drop)⟩
   have := hpd.out
   rw [if_pos rfl] at this
   rw [fx, hpx'.out, this]
   simp [tupleOf]
  ·repeat' (first | refine h0j ?_ | refine h0d ?_ | refine h0m ?_ | refine h0x ?_ | refine h0k ?_ | refine h0t ?_ | refine h0l rfl ?_ | refine h0g rfl ?_ | (refine gR 2 (p_e (q_b (r:=by exact h2s q_o)) (h:=h0b ?_))) | (refine gR 3 (p_m (h:=p_e (by apply h0a; exact rfl; exact rfl; (focus (apply h0n Try.underlying38 h1z; omega; omega; exact c_1))) (h:=q_e (by apply E_loadA (t:=40); exact rfl; exact c_12; kernel_rfl; kernel_rfl; exact h1z; (with_reducible assumption); (with_reducible assumption)) ?_))) <;> (try refine h0i ?_; (refine h1w (t:=40) rfl Try.zeroValue40 ?_; intro nb hnb; (try simp only [Value.cells]))) <;> (try refine q_a ?_) <;> (try refine h0i ?_; (refine q_W ?_)) <;> (try refine h0b ?_)) | (refine gR 4 (p_e (q_f fo_40_0) (h:=p_e q_l (h:=q_m ?_))) <;> (try refine q_e (by apply E_conv; exact rfl; (focus (apply r_conv Try.underlying22 Try.underlying3; first | (refine IntWalk.i64_in _ ?_; omega) | (refine IntWalk.u8_in _ ?_; omega) | (refine IntWalk.u16_in _ ?_; omega) | (refine IntWalk.u32_in _ ?_; omega) | (refine IntWalk.u64_in _ ?_; omega) | (refine IntWalk.i32_in _ ?_; omega) | exact rfl))) ?_) <;> (try refine p_e (q_b (r:=by exact h0h q_o)) (h:=h0b ?_))) | (refine gR 6 ?_ <;> (try refine q_e (q_b (r:=by apply h0u; exact c_6; (focus (refine IntWalk.i64_in _ ?_; omega)))) ?_) <;> (try refine p_m (h:=h0b ?_))))
   refine h0p (m + 1) ⟨⟨by omega, ?_⟩, by omega⟩ (by (focus (repeat (first | exact Sub.nil | refine Sub.cons rfl ?_)))) (by intro w H; refine Sel.out ?_ H; (try simp only [zzC, zzN]); repeat (first | exact Sel.refl _ | apply Sel.drop))
   have := hpd.out
   rw [if_neg he] at this
   rw [hpx'.out, this]
   simp [Function.comp_def]
   cases pix (rs.drop (m + 1)) n with
   | none => rfl
   | some q => simp; omega
 ·repeat' (first | refine h0j ?_ | refine h0d ?_ | refine h1l ?_ | refine h0z ?_ | refine h1i ?_ | refine h1u ?_ | refine h1y ?_ | refine h0g rfl ?_ | (refine gR 2 (p_e (q_b (r:=by exact h2i q_o)) (h:=h0b ?_))) | (refine gR 7 (p_a (h:=h0b ?_))))
  (refine h1b Try.results14 (.tmp rfl .nil) ?_)
  refine ⟨_, ⟨?_, rfl⟩, by intro w H; refine Sel.out ?_ H; (try simp only [zzC, zzN]); repeat (exact Sel.refl _)⟩
  rw [fx, hpx'.out, List.drop_eq_nil_of_le (by omega)]
  rfl
theorem Fn.imp {P : Program} {S : List Nat} {w0 : World} {L : List Blk} {F : FuncId} {args : Array Value} {R R' : Value → List Blk → Prop} (h : Fn P F args S w0 L R) (hr : ∀ v L', R v L' → R' v L') : Fn P F args S w0 L R' :=
 .mk fun w H => (h.out w H).mono fun e w' ⟨v, L', he, hv, H'⟩ => ⟨v, L', he, hr v L' hv, H'⟩
theorem share_n {S w0 L} (tb mb : Nat) (rs : List PR) (c n k : Nat) (hk : k ≤ 100) (hp : POk k rs c) (b : Bool) (h : pix rs n = none) : Fn Try.prog 7 #[.pointer (some ⟨tb, 0, none⟩), .int .u16 (n : Nat), .bool b] S w0 (ptB tb mb :: h2p mb (prE rs) c :: L) fun v L' => v = .int .i64 2 ∧ ptB tb mb :: h2p mb (prE (rs)) c :: L = L' :=
 (share_c tb mb rs c n k hk hp b).imp fun v L' ⟨rs', hv, e1, _, hL⟩ => by rw [h] at hv; rw [e1 h] at hL; exact ⟨hv, hL⟩
theorem share_s {S w0 L} (tb mb : Nat) (rs : List PR) (c n k : Nat) (hk : k ≤ 100) (hp : POk k rs c) (b : Bool) {j : Nat} {r : PR} (h : pix rs n = some j) (hr : rs[j]? = some r) : Fn Try.prog 7 #[.pointer (some ⟨tb, 0, none⟩), .int .u16 (n : Nat), .bool b] S w0 (ptB tb mb :: h2p mb (prE rs) c :: L) fun v L' => v = .int .i64 0 ∧ ptB tb mb :: h2p mb (prE (rs.set j (shrR r b))) c :: L = L' :=
 (share_c tb mb rs c n k hk hp b).imp fun v L' ⟨rs', hv, _, e2, hL⟩ => by rw [h] at hv; rw [e2 j r h hr] at hL; exact ⟨hv, hL⟩
theorem listen_n {S w0 L} (tb mb : Nat) (rs : List PR) (c n k : Nat) (hk : k ≤ 100) (hp : POk k rs c) (h : pix rs n = none) : Fn Try.prog 8 #[.pointer (some ⟨tb, 0, none⟩), .int .u16 (n : Nat)] S w0 (ptB tb mb :: h2p mb (prE rs) c :: L) fun v L' => v = .int .i64 22 ∧ ptB tb mb :: h2p mb (prE (rs)) c :: L = L' :=
 (listen_c tb mb rs c n k hk hp).imp fun v L' ⟨rs', e1, _, hL⟩ => by rw [(e1 h).2] at hL; exact ⟨(e1 h).1, hL⟩
theorem listen_f {S w0 L} (tb mb : Nat) (rs : List PR) (c n k : Nat) (hk : k ≤ 100) (hp : POk k rs c) {j : Nat} {r : PR} (h : pix rs n = some j) (hr : rs[j]? = some r) (hl : r.o ≤ r.l) : Fn Try.prog 8 #[.pointer (some ⟨tb, 0, none⟩), .int .u16 (n : Nat)] S w0 (ptB tb mb :: h2p mb (prE rs) c :: L) fun v L' => v = .int .i64 22 ∧ ptB tb mb :: h2p mb (prE (rs)) c :: L = L' :=
 (listen_c tb mb rs c n k hk hp).imp fun v L' ⟨rs', _, e2, hL⟩ => by have e := (e2 j r h hr).1 hl; rw [e.2] at hL; exact ⟨e.1, hL⟩
theorem listen_s {S w0 L} (tb mb : Nat) (rs : List PR) (c n k : Nat) (hk : k ≤ 100) (hp : POk k rs c) {j : Nat} {r : PR} (h : pix rs n = some j) (hr : rs[j]? = some r) (hl : r.l < r.o) : Fn Try.prog 8 #[.pointer (some ⟨tb, 0, none⟩), .int .u16 (n : Nat)] S w0 (ptB tb mb :: h2p mb (prE rs) c :: L) fun v L' => v = .int .i64 0 ∧ ptB tb mb :: h2p mb (prE (rs.set j (lisR r))) c :: L = L' :=
 (listen_c tb mb rs c n k hk hp).imp fun v L' ⟨rs', _, e2, hL⟩ => by have e := (e2 j r h hr).2 hl; rw [e.2] at hL; exact ⟨e.1, hL⟩
theorem drop_n {S w0 L} (tb mb : Nat) (rs : List PR) (c n k : Nat) (hk : k ≤ 100) (hp : POk k rs c) (b : Bool) (h : pix rs n = none) : Fn Try.prog 10 #[.pointer (some ⟨tb, 0, none⟩), .int .u16 (n : Nat), .bool b] S w0 (ptB tb mb :: h2p mb (prE rs) c :: L) fun v L' => v = .int .i64 2 ∧ ptB tb mb :: h2p mb (prE (rs)) c :: L = L' :=
 (drop_c tb mb rs c n k hk hp b).imp fun v L' ⟨rs', e1, _, hL⟩ => by rw [(e1 h).2] at hL; exact ⟨(e1 h).1, hL⟩
theorem drop_f {S w0 L} (tb mb : Nat) (rs : List PR) (c n k : Nat) (hk : k ≤ 100) (hp : POk k rs c) (b : Bool) {j : Nat} {r : PR} (h : pix rs n = some j) (hr : rs[j]? = some r) (hl : drpOk r b = false) : Fn Try.prog 10 #[.pointer (some ⟨tb, 0, none⟩), .int .u16 (n : Nat), .bool b] S w0 (ptB tb mb :: h2p mb (prE rs) c :: L) fun v L' => v = .int .i64 22 ∧ ptB tb mb :: h2p mb (prE (rs)) c :: L = L' :=
 (drop_c tb mb rs c n k hk hp b).imp fun v L' ⟨rs', _, e2, hL⟩ => by have e := (e2 j r h hr).1 hl; rw [e.2] at hL; exact ⟨e.1, hL⟩
theorem drop_s {S w0 L} (tb mb : Nat) (rs : List PR) (c n k : Nat) (hk : k ≤ 100) (hp : POk k rs c) (b : Bool) {j : Nat} {r : PR} (h : pix rs n = some j) (hr : rs[j]? = some r) (hl : drpOk r b = true) : Fn Try.prog 10 #[.pointer (some ⟨tb, 0, none⟩), .int .u16 (n : Nat), .bool b] S w0 (ptB tb mb :: h2p mb (prE rs) c :: L) fun v L' => v = .int .i64 0 ∧ ptB tb mb :: h2p mb (prE (drpF rs j r b)) c :: L = L' :=
 (drop_c tb mb rs c n k hk hp b).imp fun v L' ⟨rs', _, e2, hL⟩ => by have e := (e2 j r h hr).2 hl; rw [e.2] at hL; exact ⟨e.1, hL⟩
theorem bind_s {S w0 L} (tb mb : Nat) (rs : List PR) (c n : Nat) (hn0 : n ≠ 0) (hop : ∀ r ∈ rs, 1 ≤ r.o) {j : Nat} (h : pix rs n = some j) : Fn Try.prog 6 #[.pointer (some ⟨tb, 0, none⟩), .int .u16 (n : Nat)] S w0 (ptB tb mb :: h2p mb (prE rs) c :: L) fun v L' => v = .tuple #[.int .u16 0, .int .i64 98] ∧ ptB tb mb :: h2p mb (prE (rs)) c :: L = L' :=
 (bindK_c tb mb rs c n hn0 hop).imp fun v L' ⟨rs', c', e1, _, hL⟩ => by obtain ⟨hv, h1, h2⟩ := e1 (by rw [h]; rfl); rw [h1, h2] at hL; exact ⟨hv, hL⟩
theorem bind_n {S w0 L} (tb mb : Nat) (rs : List PR) (c n : Nat) (hn0 : n ≠ 0) (hop : ∀ r ∈ rs, 1 ≤ r.o) (h : pix rs n = none) : Fn Try.prog 6 #[.pointer (some ⟨tb, 0, none⟩), .int .u16 (n : Nat)] S w0 (ptB tb mb :: h2p mb (prE rs) c :: L) fun v L' => v = .tuple #[.int .u16 (n : Nat), .int .i64 0] ∧ ptB tb mb :: h2p mb (prE (rs ++ [⟨n, 1, 0, c⟩])) (c + 1) :: L = L' :=
 (bindK_c tb mb rs c n hn0 hop).imp fun v L' ⟨rs', c', _, e2, hL⟩ => by obtain ⟨hv, h1, h2⟩ := e2 h; rw [h1, h2] at hL; exact ⟨hv, hL⟩
theorem bind_0 {S w0 L} (tb mb : Nat) (rs : List PR) (c k : Nat) (hl : rs.length ≤ 200) (hop : ∀ r ∈ rs, 1 ≤ r.o) (hf : IsFree rs k) : Fn Try.prog 6 #[.pointer (some ⟨tb, 0, none⟩), .int .u16 0] S w0 (ptB tb mb :: h2p mb (prE rs) c :: L) fun v L' => v = .tuple #[.int .u16 (k : Nat), .int .i64 0] ∧ ptB tb mb :: h2p mb (prE (rs ++ [⟨k, 1, 0, c⟩])) (c + 1) :: L = L' :=
 (bind0_c tb mb rs c hl hop).imp fun v L' ⟨k', hk', _, hv, hL⟩ => by have := hk'.one hf; subst this; exact ⟨hv, hL⟩
theorem connect_n {S w0 L} (tb mb : Nat) (rs : List PR) (c n : Nat) (h : pix rs n = none) : Fn Try.prog 9 #[.pointer (some ⟨tb, 0, none⟩), .int .u16 (n : Nat)] S w0 (ptB tb mb :: h2p mb (prE rs) c :: L) fun v L' => v = .int .i64 111 ∧ ptB tb mb :: h2p mb (prE (rs)) c :: L = L' :=
 (connect_c tb mb rs c n).imp fun v L' ⟨hv, hL⟩ => by rw [h] at hv; exact ⟨hv, hL⟩
theorem connect_s {S w0 L} (tb mb : Nat) (rs : List PR) (c n : Nat) {j : Nat} {r : PR} (h : pix rs n = some j) (hr : rs[j]? = some r) : Fn Try.prog 9 #[.pointer (some ⟨tb, 0, none⟩), .int .u16 (n : Nat)] S w0 (ptB tb mb :: h2p mb (prE rs) c :: L) fun v L' => v = .int .i64 (if r.l = 0 then 111 else 0) ∧ ptB tb mb :: h2p mb (prE (rs)) c :: L = L' :=
 (connect_c tb mb rs c n).imp fun v L' ⟨hv, hL⟩ => by rw [h, Option.bind_some, hr] at hv; exact ⟨hv, hL⟩
section
variable {P : Program} {n : Nat} {l : List (Nat × Value)} {S : List Nat} {w0 : World} {L : List Blk} {K : Act → World → Prop} {k : Kont} {ops : Array Oper} {d : Tmp} {ty : TypeId} {pos : String} {af : Array Edge}
theorem h1p {E size bytes : Nat} {t tt : TypeId} {inf : TypeInfo} {z : Value} {s y : Operand} {v : Value} {m : Nat} {xs : List Value} {e L0 : List Blk} {ya : Option Addr} {cnt cap : Nat} {news : List Value}
  (hd : Nat.blt d n = true) (ht : P.underlying t = some (.slice E)) (hi : P.info? E = some inf) (hz : inf.zero = some z) (hsize : inf.size = size) (hby : inf.bytes = bytes) (hzs : z.cells.size = size)
  (hs : ev l s = some v) (hy : ev l y = some (.slice ya cnt cap)) (hown : Own E size v m xs e) (hsl : Sli L ya cnt size news)
  (hone : news.all (·.oneCell') = true) (h63 : m + cnt ≤ maxLen) (hbytes : (m + cnt) * bytes ≤ 140737488355328) (hL : ∀ w, HP S w0 w L → HP S w0 w (e ++ L0)) (htt : tt = t) {mm : Nat} {xn : List Value} (hmm : m + cnt = mm) (hxn : xs ++ news = xn)
  (h : ∀ v' e', Own E size v' mm xn e' → G n ((d, v') :: l) S w0 (e' ++ L0) K) :
  G n l S w0 L (K1 P ops k ⟨some d, .call { callee := .builtin .append, args := #[s, y], argTypes := #[t, tt] }, ty, pos, af, none⟩ K) := by
 by_cases h0 : cnt = 0
 ·subst h0 htt hmm hxn
  have hn : news = [] := List.eq_nil_of_length_eq_zero (by rw [hsl.1, Nat.zero_mul])
  subst hn
  have hv : ∃ sa cp, v = .slice sa m cp ∧ m ≤ cp := by
   rcases hown.2 with ⟨rfl, rfl, _⟩ | ⟨g, c, cur, rfl, _, h1, _⟩
   ·exact ⟨none, 0, rfl, Nat.le_refl _⟩
   ·exact ⟨_, c, rfl, h1⟩
  obtain ⟨sa, cp, rfl, hle⟩ := hv
  have h2 := h (.slice sa m cp) e (by rw [Nat.add_zero, List.append_nil]; exact hown)
  exact K1_append0 hd ht hi hs hy hle rfl (G_blocks hL h2)
 ·rcases hsl.2 with h1 | ⟨i, q, b, off, cs, T, fr, rfl, hb, hle, hnews⟩
  ·exact absurd h1 h0
  ·exact K1_append hd ht hi hz hsize hby hzs hs hy hown hb hle hnews hone h63 hbytes hL htt hmm hxn h
theorem h1k {E size bytes : Nat} {t tt : TypeId} {inf : TypeInfo} {z : Value} {s y : Operand} {g m cp j : Nat} {cur : Array Value} {ya : Option Addr} {cnt cap : Nat} {news : List Value}
  (hd : Nat.blt d n = true) (ht : P.underlying t = some (.slice E)) (hi : P.info? E = some inf) (hz : inf.zero = some z) (hsize : inf.size = size) (hby : inf.bytes = bytes) (hzs : z.cells.size = size)
  (hs : ev l s = some (.slice (some ⟨g, 0, none⟩) m cp)) (hy : ev l y = some (.slice ya cnt cap)) (hown : L[j]? = some ⟨true, g, .cells cur E (0, 0)⟩) (hmc : m ≤ cp) (hcp : cp ≤ maxLen) (hcs : cur.size = cp * size) (hsl : Sli L ya cnt size news)
  (hone : news.all (·.oneCell') = true) (h63 : m + cnt ≤ maxLen) (hbytes : (m + cnt) * bytes ≤ 140737488355328) (htt : tt = t) {mm : Nat} {xn : List Value} (hmm : m + cnt = mm) (hxn : cur.toList.take (m * size) ++ news = xn)
  (h : ∀ v' e', Own E size v' mm xn e' → G n ((d, v') :: l) S w0 (e' ++ L.eraseIdx j) K) :
  G n l S w0 L (K1 P ops k ⟨some d, .call { callee := .builtin .append, args := #[s, y], argTypes := #[t, tt] }, ty, pos, af, none⟩ K) :=
 h1p hd ht hi hz hsize hby hzs hs hy (Own.of_block hmc hcp hcs) hsl hone h63 hbytes (fun _ H => H.pick hown) htt hmm hxn h
end
section
variable {P : Program} {n : Nat} {l : List (Nat × Value)} {S : List Nat} {w0 : World} {L : List Blk} {k : Kont} {ops : Array Oper}
structure TagC (p : Prop) : Prop where
 out : p
theorem H_run3t {i j m fuel : Nat} {listed : Array Bool} {Lb : List Blk} {o o' o'' : Oper} (hi : ops[i]? = some o) (hj : ops[j]? = some o') (hm : ops[m]? = some o'') (hr : Region.ready .any ops listed = [i, j, m]) (h : TagA (G n l S w0 L (K1 P ops k o (KHS P S w0 Lb ops k fuel (listed.setIfInBounds i true)))))
  (h' : TagB (G n l S w0 L (K1 P ops k o' (KHS P S w0 Lb ops k fuel (listed.setIfInBounds j true))))) (h'' : TagC (G n l S w0 L (K1 P ops k o'' (KHS P S w0 Lb ops k fuel (listed.setIfInBounds m true))))) : G n l S w0 L (KH P S w0 Lb ops k (fuel + 1) listed) := .mk fun a w hF H => by
 refine ⟨wpAnyH_all hr (by simp) fun q hq => ?_⟩
 rcases (show q = i ∨ q = j ∨ q = m by simpa using hq) with rfl | rfl | rfl
 ·have hh := (h.out.out a w hF H).out
  unfold wpOp
  simp only [hi]
  split
  ·rename_i hw; rw [if_pos hw] at hh; exact .inl (Oper.wp_mono (fun _ _ h => ⟨h.out.1, h.out.2.out⟩) hh)
  ·rename_i hw; rw [if_neg hw] at hh; exact ⟨hh.out.1, hh.out.2.out⟩
 ·have hh := (h'.out.out a w hF H).out
  unfold wpOp
  simp only [hj]
  split
  ·rename_i hw; rw [if_pos hw] at hh; exact .inl (Oper.wp_mono (fun _ _ h => ⟨h.out.1, h.out.2.out⟩) hh)
  ·rename_i hw; rw [if_neg hw] at hh; exact ⟨hh.out.1, hh.out.2.out⟩
 ·have hh := (h''.out.out a w hF H).out
  unfold wpOp
  simp only [hm]
  split
  ·rename_i hw; rw [if_pos hw] at hh; exact .inl (Oper.wp_mono (fun _ _ h => ⟨h.out.1, h.out.2.out⟩) hh)
  ·rename_i hw; rw [if_neg hw] at hh; exact ⟨hh.out.1, hh.out.2.out⟩
end
end Go.Proofs.Ytfhmalanbdjgfaa
