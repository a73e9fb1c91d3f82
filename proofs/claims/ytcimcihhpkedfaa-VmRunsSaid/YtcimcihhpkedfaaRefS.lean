/- pinfoldlaw03.Refs, walked. -/
import Derived.Test.YtcimcihhpkedfaaRefX
namespace Go.Proofs.Ytcimcihhpkedfaa
open Go Go.RowKit
theorem flatI_snoc (a : List Ins) (i : Ins) : flatI (a ++ [i]) = flatI a ++ i.cellsI := by simp [flatI]
structure RfI (l : List Ins) (g : Nat × Value × List Blk) : Prop where
  le : g.1 ≤ l.length
  own : Own 77 4 g.2.1 g.1 (flatI (l.take g.1)) g.2.2
set_option maxRecDepth 100000 in
set_option maxHeartbeats 2000000 in
theorem refs_c {S w0 L} (l : List Ins) (hl : ∀ i ∈ l, i.ok) (hm : l.length ≤ 4096) (a : Option Addr) (cap : Nat) (hs : Sli L a l.length 4 (flat l)) :
    Fn Try.prog 38 #[.slice a l.length cap] S w0 L fun v L' => ∃ e, Own 77 4 v l.length (flatI l) e ∧ e ++ L = L' := by
  refine Fn1 Try.func38 Try.ntmps38 rfl rfl ?_
  repeat' (first | ((refine G_markb (id := 0) ?_)) | refine G_seq ?_ | refine G_then_n ?_ | ((refine G_region (id := 0) ?_ <;> (try (refine G_op1 ?_; ((apply K1_ev; exact rfl; ((focus (exact E_assign rfl))))))) <;> (try (refine G_nil ?_)))) | ((refine G_region (id := 1) ?_ <;> (try (refine G_op1 ?_; ((apply K1_ev; exact rfl; ((focus (exact E_assign rfl))))))) <;> (try (refine G_nil ?_)))) | ((refine G_region (id := 2) ?_ <;> (try (refine G_op1 ?_; ((apply K1_ev; exact rfl; ((focus (exact E_move rfl))))))) <;> (try (refine G_op1 ?_; ((apply K1_ev; exact rfl; ((focus ((apply E_builtin; exact rfl; exact (fun _ => BigFrame.builtin_len ..); apply r_len_slice_e Try.underlying24; ((focus ((try simp only [Int.cast_ofNat_Int]); exact rfl))))))))))) <;> (try (refine G_op1 ?_; ((apply K1_ev; exact rfl; ((focus (exact E_move rfl))))))) <;> (try (refine G_nil ?_)))))
  refine ⟨?_⟩
  refine G_block ?_
  refine G_loopk (γ := Nat × Value × List Blk) (RfI l) (fun g => l.length - g.1) (fun g => [(3, g.2.1), (8, .int .i64 (g.1 : Nat))]) [(6, _), (7, _)]
    (fun g => g.2.2 ++ L)
    (0, .slice none 0 0, []) (.cons rfl (.cons rfl .nil)) ⟨Nat.zero_le _, Own.nil _ _⟩ (by ((focus (repeat (first | exact Sub.nil | refine Sub.cons rfl ?_ | (refine Sub.cons (congrArg some ?_) ?_; (focus go_num))))))) (fun _ H => H) ?_
  rintro ⟨k, v, e⟩ ⟨hk, hown⟩
  dsimp only at hk hown ⊢
  simp only [List.cons_append, List.nil_append]
  by_cases hlt : k < l.length
  · obtain ⟨i0, q, b, off, cs, T, fr, rfl, hi0, hsz, hx⟩ := (hs.upA e).elem hlt
    rw [flat_at l k hlt] at hx
    have hio := hl _ (List.getElem_mem hlt)
    have hsu : l.take (k + 1) = l.take k ++ [l[k]] := List.take_succ_eq_append_getElem hlt
    generalize l.take k = X at *
    generalize l[k] = i at *
    have hri := fun (L : List Blk) => refI_c (S := S) (w0 := w0) (L := L) i hio
    obtain ⟨c, jt, jf, kk⟩ := i
    obtain ⟨hc, ht, hf, hkk⟩ := hio
    simp only [Ins.cells, Ins.v] at hx hri
    dsimp only at hri hc ht hf hkk
    have hsu' := Lib.hid hsu
    clear hsu
    repeat' (first | refine G_seq ?_ | refine G_then_n ?_ | refine G_cut_n ?_ | refine G_blk_n ?_ | refine G_block ?_ | refine G_skip ?_ | refine G_cond_t rfl ?_ | ((refine G_region (id := 3) ?_ <;> (try (refine G_op1 ?_; ((apply K1_ev; exact rfl; ((focus ((apply E_bin (op := .lss) (t := 3); exact rfl; exact rfl; exact rfl; ((focus ((refine rb_lss_t ?_; first | (with_reducible assumption) | (decide; done) | omega)))))))))))) <;> (try (refine G_nil ?_)))) | ((refine G_region (id := 4) ?_ <;> (try (refine G_op1 ?_; ((apply K1_ev; exact rfl; ((focus ((apply E_indexAddr; exact rfl; exact rfl; ((focus (apply r_ixs Try.underlying24 sz_27; (focus omega); (focus omega); ((focus ((try simp only [Int.toNat_natCast]); (try simp only [Int.reduceToNat]); (try simp only [Nat.mul_one]); (try simp only [Nat.zero_mul]); (try simp only [Nat.reduceMul]); (try simp only [Nat.zero_add]); (try simp only [Nat.add_zero]); (try simp only [Nat.reduceAdd]); exact rfl)))))))))))))) <;> (try (refine G_op1 ?_; ((apply K1_ev; exact rfl; ((focus ((apply E_loadA (t := 27); exact rfl; (((focus (repeat (with_reducible assumption))))); kernel_rfl; kernel_rfl; exact sz_27; (((focus (with_reducible assumption)))); (((focus (with_reducible assumption)))))))))))) <;> (try (refine G_op1 ?_; ((refine K1_alloc (t := 27) rfl Try.zeroValue27 ?_; intro nb hnb; (try simp only [Value.cells]))))) <;> (try (refine G_op1 ?_; (((apply K1_storeW (t := 27); exact rfl; exact rfl; (((focus (repeat (exact fd0))))); kernel_rfl; (((focus (exact rfl)))); (((focus (exact rfl)))); (try simp only [List.set_cons_succ]); (try simp only [List.set_cons_zero])))))) <;> (try (refine G_nil ?_)))) | ((refine G_region (id := 5) ?_ <;> (try (refine G_op1 ?_; ((apply K1_ev; exact rfl; ((focus (exact E_move rfl))))))) <;> (try (refine G_op1 ?_; ((apply K1_ev; exact rfl; ((focus ((apply E_loadA (t := 27); exact rfl; (((focus (repeat (exact fd0))))); kernel_rfl; kernel_rfl; exact sz_27; (((focus (exact Nat.le_of_ble_eq_true rfl)))); (((focus (((try simp only [List.drop_succ_cons]); (try simp only [List.drop_zero]); (try simp only [List.take_succ_cons]); (try simp only [List.take_zero]); (try simp only [List.take_nil]); exact rfl))))))))))))) <;> (try (refine G_op1 ?_; (((refine K1_call (F := 35) (by kernel_rfl) rfl rfl (hri _) ?_; rintro _ _ ⟨rfl, rfl⟩))))) <;> (try (refine G_op1 ?_; ((refine K1_buildSlice (t := 84) (m := 1) (e := 77) (fun (vs : List (Nat × Value)) => (match vs with | [(_, x0)] => x0.cells.toList | _ => [] : List Value)) rfl rfl (fun w => by kernel_rfl) ?_; intro nb hnb; (try simp only [Value.cells]); (try simp only [List.cons_append]); (try simp only [List.nil_append]))))) <;> (try (refine G_op1 ?_; (((apply K1_append; exact rfl; exact Try.underlying84; exact inf_77_i; exact inf_77_z; exact inf_77_s; exact inf_77_b; exact rfl; exact rfl; exact rfl; (((focus (with_reducible assumption)))); (((focus (repeat (exact fd0))))); (((focus (exact Nat.le_of_ble_eq_true rfl)))); (((focus (((try simp only [List.drop_succ_cons]); (try simp only [List.drop_zero]); (try simp only [List.take_succ_cons]); (try simp only [List.take_zero]); (try simp only [List.take_nil]); exact rfl))))); (((focus (exact rfl)))); ((focus (unfold maxLen; omega))); (focus omega); (((focus (intro w H; repeat (first | exact H | (replace H := H.tail)))))); exact rfl; (((focus ((try simp only [Nat.zero_add]); (try simp only [Nat.reduceAdd]); exact rfl)))); (((focus ((try simp only [Nat.zero_mul]); (try simp only [List.take_zero]); (try simp only [List.nil_append]); (try simp only [List.cons_append]); (try simp only [List.nil_append]); exact rfl)))); intro vA eA hownA))))) <;> (try (refine G_op1 ?_; ((apply K1_ev; exact rfl; ((focus (exact E_assign rfl))))))) <;> (try (refine G_nil ?_)))) | ((refine G_region (id := 6) ?_ <;> (try (refine G_op1 ?_; ((apply K1_ev; exact rfl; ((focus ((apply E_bin (op := .add) (t := 3); exact rfl; exact rfl; exact rfl; ((focus ((apply rb_add; (((focus ((try simp only [Int.reduceAdd]); (try simp only [Int.reduceSub]); (try simp only [Int.reduceMul]); (try simp only [Int.reduceMod]); (try simp only [Int.reduceDiv]); exact rfl)))); (((focus (refine IntWalk.i64_in _ ?_; omega)))))))))))))))) <;> (try (refine G_op1 ?_; ((apply K1_ev; exact rfl; ((focus (exact E_move rfl))))))) <;> (try (refine G_nil ?_)))))
    refine G_meet (k + 1, vA, eA) ⟨⟨by dsimp only; omega, by dsimp only; rw [hsu'.out, flatI_snoc]; exact hownA⟩, by dsimp only; omega⟩ (by ((focus (repeat (first | exact Sub.nil | refine Sub.cons rfl ?_ | (refine Sub.cons (congrArg some ?_) ?_; (focus go_num))))))) ?_
    intro w H
    exact H
  · obtain rfl : k = l.length := by omega
    rw [List.take_length] at hown
    have hown' := Lib.hid hown
    repeat' (first | refine G_seq ?_ | refine G_then_n ?_ | refine G_cut_x ?_ | refine G_then_x ?_ | refine G_blk_x ?_ | refine G_exit ?_ | refine G_ret ?_ | refine G_cond_f rfl ?_ | ((refine G_region (id := 3) ?_ <;> (try (refine G_op1 ?_; ((apply K1_ev; exact rfl; ((focus ((apply E_bin (op := .lss) (t := 3); exact rfl; exact rfl; exact rfl; ((focus ((refine rb_lss_f ?_; first | (with_reducible assumption) | (decide; done) | omega)))))))))))) <;> (try (refine G_nil ?_)))) | ((refine G_region (id := 7) ?_ <;> (try (refine G_op1 ?_; ((apply K1_ev; exact rfl; ((focus (exact E_move rfl))))))) <;> (try (refine G_op1 ?_; ((apply K1_ev; exact rfl; ((focus (exact E_assign rfl))))))) <;> (try (refine G_nil ?_)))))
    (refine G_done Try.results38 (.tmp rfl .nil) ?_)
    exact ⟨_, ⟨e, hown'.out, rfl⟩, by intro w H; refine H.sub ?_; (try simp only [List.cons_append, List.nil_append]); repeat (first | exact List.Sublist.refl _ | refine List.Sublist.cons_cons _ ?_ | refine List.Sublist.cons _ ?_ | refine List.sublist_append_of_sublist_right ?_)⟩
end Go.Proofs.Ytcimcihhpkedfaa
