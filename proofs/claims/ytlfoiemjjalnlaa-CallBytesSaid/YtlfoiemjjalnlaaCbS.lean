/- Bytes as calls: call.Script computes scrB. -/
import Derived.Test.YtlfoiemjjalnlaaNxt2
import Derived.Test.YtlfoiemjjalnlaaGj
namespace Go.Proofs.Ytlfoiemjjalnlaa
open Go Go.RowKit
def flatC (l : List CallD) : List Value := l.flatMap CallD.cells
theorem flatC_len (l : List CallD) : (flatC l).length = l.length * 7 := by
  induction l with
  | nil => rfl
  | cons x r ih => rw [flatC, List.flatMap_cons, List.length_append]; rw [flatC] at ih; rw [ih, List.length_cons]; simp only [CallD.cells, List.length_cons, List.length_nil]; omega
theorem flatC_snoc (a : List CallD) (i : CallD) : flatC (a ++ [i]) = flatC a ++ i.cells := by simp [flatC]
theorem own_sl {E size : Nat} {v : Value} {n : Nat} {xs : List Value} {e : List Blk} (h : Own E size v n xs e) : ∃ a c, v = .slice a n c := by
  rcases own_cases h with ⟨rfl, rfl, -, -⟩ | ⟨g, c, cur, rfl, -⟩
  · exact ⟨none, 0, rfl⟩
  · exact ⟨_, c, rfl⟩
structure ScG where
  o : Nat
  a : Option Addr
  vo : Value
  eo : List Blk
  out : List CallD
  m1 : Nat
  m2 : Nat
  k : Nat
  f : Nat
structure ScI (L : List Blk) (bs : List Int) (len k0 : Nat) (g : ScG) : Prop where
  le : g.o ≤ len
  sl : Sli L g.a (len - g.o) 1 (u8l (bs.drop g.o))
  own : Own 33 7 g.vo g.out.length (flatC g.out) g.eo
  ol : g.out.length ≤ g.o
  eq : scrB len bs = (g.out ++ (scrB g.f (bs.drop g.o)).1, (scrB g.f (bs.drop g.o)).2)
  fl : len - g.o ≤ g.f
  kl : k0 ≤ g.k
  kh : g.k ≤ k0 + g.o
set_option maxRecDepth 100000 in
set_option maxHeartbeats 4000000 in
theorem script_c {S w0 L} (b m1 m2 k : Nat) (bs : List Int) (hb : ∀ c ∈ bs, 0 ≤ c ∧ c < 256) (a : Option Addr) (len cap : Nat) (hs : Sli L a len 1 (u8l bs)) (hc : len ≤ cap) (hm : cap ≤ maxLen) (hk : k + len ≤ 90000) :
    Fn Try.prog 16 #[.slice a len cap, .pointer (some ⟨b, 0, none⟩)] S w0 (tbS b m1 m2 k ++ L) fun v L' => ∃ m1' m2' k' vo eo, k' ≤ k + len + 1 ∧ v = tupleOf [vo, .bool (scrB len bs).2] ∧ Own 33 7 vo (scrB len bs).1.length (flatC (scrB len bs).1) eo ∧ eo ++ (tbS b m1' m2' k' ++ L) = L' := by
  have hm0 := hm
  unfold maxLen at hm
  have hbl : bs.length = len := by have := hs.1; rw [u8l_len] at this; omega
  refine Fn2 Try.func16 Try.ntmps16 rfl rfl ?_
  repeat' (first | ((refine G_markb (id := 0) ?_)) | refine G_seq ?_ | refine G_then_n ?_ | ((refine G_region (id := 0) ?_ <;> (try (refine G_op1 ?_; ((apply K1_ev; exact rfl; ((focus (exact E_assign rfl))))))) <;> (try (refine G_op1 ?_; ((apply K1_ev; exact rfl; ((focus (exact E_assign rfl))))))) <;> (try (refine G_nil ?_)))) | ((refine G_region (id := 1) ?_ <;> (try (refine G_op1 ?_; ((apply K1_ev; exact rfl; ((focus (exact E_assign rfl))))))) <;> (try (refine G_nil ?_)))))
  refine ⟨?_⟩
  refine G_block ?_
  refine G_loopk (γ := ScG) (ScI L bs len k) (fun g => len - g.o) (fun g => [(0, .slice g.a (len - g.o) (cap - g.o)), (6, g.vo)]) [(1, _)]
    (fun g => g.eo ++ (tbS b g.m1 g.m2 g.k ++ L)) ⟨0, a, .slice none 0 0, [], [], m1, m2, k, len⟩ (.cons rfl .nil) ⟨Nat.zero_le _, hs, Own.nil _ _, Nat.le_refl _, rfl, Nat.le_refl _, Nat.le_refl _, Nat.le_refl _⟩ (by ((focus (repeat (first | exact Sub.nil | refine Sub.cons rfl ?_ | (refine Sub.cons (congrArg some ?_) ?_; (focus go_num))))))) (fun _ H => H) ?_
  rintro ⟨o, a2, vo, eo, out, x1, x2, kk, f⟩ ⟨ho, hsl, hown, hol, heq, hf, hk0, hk1⟩
  dsimp only at ho hsl hown hol heq hf hk0 hk1 ⊢
  simp only [List.cons_append, List.nil_append]
  obtain ⟨ao, co, rfl⟩ := own_sl hown
  have hdl : (bs.drop o).length = len - o := by rw [List.length_drop, hbl]
  by_cases hlt : o < len
  case neg =>
    obtain rfl : o = len := by omega
    have hd0 : bs.drop o = [] := List.eq_nil_of_length_eq_zero (by omega)
    rw [hd0, scrB_nil] at heq
    have heq' := Lib.hid heq
    have hown' := Lib.hid hown
    clear heq hown
    repeat' (first | refine G_seq ?_ | refine G_then_n ?_ | refine G_cut_x ?_ | refine G_then_x ?_ | refine G_blk_x ?_ | refine G_exit ?_ | refine G_ret ?_ | refine G_cond_f rfl ?_ | ((refine G_region (id := 2) ?_ <;> (try (refine G_op1 ?_; ((apply K1_ev; exact rfl; ((focus (exact E_move rfl))))))) <;> (try (refine G_op1 ?_; ((apply K1_ev; exact rfl; ((focus ((apply E_builtin; exact rfl; exact (fun _ => BigFrame.builtin_len ..); apply r_len_slice_e Try.underlying22; ((focus ((try simp only [Int.cast_ofNat_Int]); exact rfl))))))))))) <;> (try (refine G_op1 ?_; ((apply K1_ev; exact rfl; ((focus ((apply E_bin (op := .gtr) (t := 3); exact rfl; exact rfl; exact rfl; ((focus ((refine rb_gtr_f ?_; first | (with_reducible assumption) | (decide; done) | omega)))))))))))) <;> (try (refine G_nil ?_)))) | ((refine G_region (id := 7) ?_ <;> (try (refine G_op1 ?_; ((apply K1_ev; exact rfl; ((focus (exact E_move rfl))))))) <;> (try (refine G_op1 ?_; ((apply K1_ev; exact rfl; ((focus (exact E_assign rfl))))))) <;> (try (refine G_op1 ?_; ((apply K1_ev; exact rfl; ((focus (exact E_assign rfl))))))) <;> (try (refine G_nil ?_)))))
    (refine G_done Try.results16 (.tmp rfl (.tmp rfl .nil)) ?_)
    refine ⟨_, ⟨x1, x2, kk, .slice ao out.length co, eo, by omega, ?_, ?_, rfl⟩, fun _ H => H⟩
    · rw [heq'.out]
    · rw [heq'.out]; dsimp only; rw [List.append_nil]; exact hown'.out
  have hbd : ∀ c ∈ bs.drop o, 0 ≤ c ∧ c < 256 := fun c h => hb c (List.mem_of_mem_drop h)
  have hnx := nextF_x (S := S) (w0 := w0) (L := L) eo b x1 x2 kk (by omega) (bs.drop o) hbd a2 (len - o) (cap - o) hsl (by omega) (by unfold maxLen; omega)
  obtain ⟨f', rfl⟩ : ∃ f', f = f' + 1 := ⟨f - 1, by omega⟩
  rw [scrB, if_neg (fun h => by rw [h] at hdl; simp at hdl; omega)] at heq
  have heq' := Lib.hid heq
  have hown' := Lib.hid hown
  clear heq hown
  repeat' (first | ((refine G_markr (id := 4) ?_)) | refine G_seq ?_ | refine G_then_n ?_ | refine G_block ?_ | refine G_skip ?_ | refine G_cond_t rfl ?_ | ((refine G_region (id := 2) ?_ <;> (try (refine G_op1 ?_; ((apply K1_ev; exact rfl; ((focus (exact E_move rfl))))))) <;> (try (refine G_op1 ?_; ((apply K1_ev; exact rfl; ((focus ((apply E_builtin; exact rfl; exact (fun _ => BigFrame.builtin_len ..); apply r_len_slice_e Try.underlying22; ((focus ((try simp only [Int.cast_ofNat_Int]); exact rfl))))))))))) <;> (try (refine G_op1 ?_; ((apply K1_ev; exact rfl; ((focus ((apply E_bin (op := .gtr) (t := 3); exact rfl; exact rfl; exact rfl; ((focus ((refine rb_gtr_t ?_; first | (with_reducible assumption) | (decide; done) | omega)))))))))))) <;> (try (refine G_nil ?_)))) | ((refine G_region (id := 3) ?_ <;> (try (refine G_op1 ?_; ((apply K1_ev; exact rfl; ((focus (exact E_move rfl))))))) <;> (try (refine G_op1 ?_; ((apply K1_ev; exact rfl; ((focus (exact E_move rfl))))))) <;> (try (refine G_op1 ?_; (((refine K1_call (F := 8) (by kernel_rfl) rfl rfl hnx ?_; rintro _ _ ⟨y1, y2, k2, hj1, hj2, hv, rfl⟩; rcases hv with ⟨rfl, hno⟩ | ⟨c, a3, n, rfl, hn, hs3, hyes⟩))))) <;> (try (refine G_op1 ?_; ((apply K1_ev; exact rfl; ((focus (exact E_move rfl))))))) <;> (try (refine G_op1 ?_; ((apply K1_ev; exact rfl; ((focus (exact E_extractL rfl rfl))))))) <;> (try (refine G_op1 ?_; ((apply K1_ev; exact rfl; ((focus (exact E_extractL rfl rfl))))))) <;> (try (refine G_op1 ?_; ((apply K1_ev; exact rfl; ((focus (exact E_extractL rfl rfl))))))) <;> (try (refine G_op1 ?_; ((refine K1_alloc (t := 33) rfl Try.zeroValue33 ?_; intro nb hnb; (try simp only [Value.cells]))))) <;> (try (refine G_op1 ?_; (((apply K1_storeW (t := 33); exact rfl; exact rfl; (((focus (repeat (exact fd0))))); kernel_rfl; (((focus (exact rfl)))); (((focus (exact rfl)))); (try simp only [List.set_cons_succ]); (try simp only [List.set_cons_zero])))))) <;> (try (refine G_op1 ?_; ((apply K1_ev; exact rfl; ((focus (exact E_assign rfl))))))) <;> (try (refine G_op1 ?_; ((apply K1_ev; exact rfl; ((focus (exact E_assign rfl))))))) <;> (try (refine G_nil ?_)))))
  · refine ⟨?_⟩
    have heq2 := heq'.out
    rw [hno] at heq2
    have heq3 := Lib.hid heq2
    clear heq2 heq'
    repeat' (first | refine G_seq ?_ | refine G_then_n ?_ | refine G_cut_r ?_ | refine G_then_r ?_ | refine G_blk_r ?_ | refine G_ret ?_ | refine G_cond_t rfl ?_ | ((refine G_region (id := 4) ?_ <;> (try (refine G_op1 ?_; ((apply K1_ev; exact rfl; ((focus (exact E_move rfl))))))) <;> (try (refine G_op1 ?_; ((apply K1_ev; exact rfl; ((focus ((apply E_un; exact rfl; ((focus (exact ru_not_f))))))))))) <;> (try (refine G_nil ?_)))) | ((refine G_region (id := 5) ?_ <;> (try (refine G_op1 ?_; ((apply K1_ev; exact rfl; ((focus (exact E_move rfl))))))) <;> (try (refine G_op1 ?_; ((apply K1_ev; exact rfl; ((focus (exact E_assign rfl))))))) <;> (try (refine G_op1 ?_; ((apply K1_ev; exact rfl; ((focus (exact E_assign rfl))))))) <;> (try (refine G_nil ?_)))))
    (refine G_done Try.results16 (.tmp rfl (.tmp rfl .nil)) ?_)
    refine ⟨_, ⟨y1, y2, k2, .slice ao out.length co, eo, by omega, ?_, ?_, rfl⟩, fun _ H => H.tail⟩
    · rw [heq3.out]
    · rw [heq3.out]; dsimp only; rw [List.append_nil]; exact hown'.out
  · refine ⟨?_⟩
    have hge := nextF_ge hyes
    have heq2 := heq'.out
    rw [hyes] at heq2
    dsimp only at heq2
    rw [List.drop_drop] at heq2 hs3
    have heq3 := Lib.hid heq2
    have hown := hown'.out
    obtain ⟨ct, cf, cn, c0, c1, t0, t1⟩ := c
    simp only [CallD.cells]
    clear heq2 heq' hyes
    repeat' (first | refine G_then_n ?_ | refine G_cut_n ?_ | refine G_blk_n ?_ | refine G_skip ?_ | refine G_cond_f rfl ?_ | ((refine G_region (id := 4) ?_ <;> (try (refine G_op1 ?_; ((apply K1_ev; exact rfl; ((focus (exact E_move rfl))))))) <;> (try (refine G_op1 ?_; ((apply K1_ev; exact rfl; ((focus ((apply E_un; exact rfl; ((focus (exact ru_not_t))))))))))) <;> (try (refine G_nil ?_)))) | ((refine G_region (id := 6) ?_ <;> (try (refine G_op1 ?_; ((apply K1_ev; exact rfl; ((focus (exact E_move rfl))))))) <;> (try (refine G_op1 ?_; ((apply K1_ev; exact rfl; ((focus ((apply E_loadA (t := 33); exact rfl; (((focus (repeat (exact fd0))))); kernel_rfl; kernel_rfl; exact sz_33; (((focus (exact Nat.le_of_ble_eq_true rfl)))); (((focus (((try simp only [List.drop_succ_cons]); (try simp only [List.drop_zero]); (try simp only [List.take_succ_cons]); (try simp only [List.take_zero]); (try simp only [List.take_nil]); exact rfl))))))))))))) <;> (try (refine G_op1 ?_; ((refine K1_buildSlice (t := 43) (m := 1) (e := 33) (fun (vs : List (Nat × Value)) => (match vs with | [(_, x0)] => x0.cells.toList | _ => [] : List Value)) rfl rfl (fun w => by kernel_rfl) ?_; intro nb hnb; (try simp only [Value.cells]); (try simp only [List.cons_append]); (try simp only [List.nil_append]))))) <;> (try (refine G_op1 ?_; (((apply K1_append; exact rfl; exact Try.underlying43; exact inf_33_i; exact inf_33_z; exact inf_33_s; exact inf_33_b; exact rfl; exact rfl; exact rfl; (((focus (with_reducible assumption)))); (((focus (repeat (exact fd0))))); (((focus (exact Nat.le_of_ble_eq_true rfl)))); (((focus (((try simp only [List.drop_succ_cons]); (try simp only [List.drop_zero]); (try simp only [List.take_succ_cons]); (try simp only [List.take_zero]); (try simp only [List.take_nil]); exact rfl))))); (((focus (exact rfl)))); ((focus (unfold maxLen; omega))); (focus omega); (((focus (intro w H; repeat (first | exact H | (replace H := H.tail)))))); exact rfl; (((focus ((try simp only [Nat.zero_add]); (try simp only [Nat.reduceAdd]); exact rfl)))); (((focus ((try simp only [Nat.zero_mul]); (try simp only [List.take_zero]); (try simp only [List.nil_append]); (try simp only [List.cons_append]); (try simp only [List.nil_append]); exact rfl)))); intro vA eA hownA))))) <;> (try (refine G_op1 ?_; ((apply K1_ev; exact rfl; ((focus (exact E_move rfl))))))) <;> (try (refine G_op1 ?_; ((apply K1_ev; exact rfl; ((focus (exact E_assign rfl))))))) <;> (try (refine G_op1 ?_; ((apply K1_ev; exact rfl; ((focus (exact E_assign rfl))))))) <;> (try (refine G_nil ?_)))))
    refine G_meet ⟨o + n, a3, vA, eA, out ++ [⟨ct, cf, cn, c0, c1, t0, t1⟩], y1, y2, k2, f'⟩ ⟨⟨by dsimp only; omega, by dsimp only; rw [show len - (o + n) = len - o - n by omega]; exact hs3, ?_, by dsimp only; rw [List.length_append, List.length_singleton]; omega, ?_, by dsimp only; omega, by dsimp only; omega, by dsimp only; omega⟩, by dsimp only; omega⟩ (by dsimp only; rw [show len - (o + n) = len - o - n by omega, show cap - (o + n) = cap - o - n by omega]; ((focus (repeat (first | exact Sub.nil | refine Sub.cons rfl ?_ | (refine Sub.cons (congrArg some ?_) ?_; (focus go_num))))))) (fun _ H => H)
    · dsimp only
      rw [List.length_append, flatC_snoc]
      exact hownA
    · dsimp only
      rw [heq3.out, List.append_assoc]; rfl
end Go.Proofs.Ytlfoiemjjalnlaa
