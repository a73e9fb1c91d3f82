/- Calls as a text: script.Text computes textC. -/
import Derived.Test.YtpdnigifoaoflaaDoorLinC
namespace Go.Proofs.YtpdnigifoaoflaaDoor
open Go Go.RowKit
structure GoodC (c : CallD) : Prop where
  bare : OkC c
  ok : c.ok
  s0 : c.t0.size ≤ 300
  s1 : c.t1.size ≤ 300
theorem scline_x {S w0 L} (x : Blk) (B : List Blk) (tb m1 m2 n : Nat) (hn : n ≤ 100000) (c : CallD) (hc : GoodC c) :
    Fn Tryd.prog 19 #[.agg c.cells.toArray, .pointer (some ⟨tb, 0, none⟩)] S w0 (x :: (B ++ (tbS tb m1 m2 n ++ L))) fun v L' => ∃ m1' m2', v = lnV (lnO c) ∧ x :: (B ++ (tbS tb m1' m2' (n + 1) ++ L)) = L' :=
  .mk fun w H => ((scline_c (S := S) (w0 := w0) (L := (x :: B) ++ L) tb m1 m2 n hn c hc.ok hc.s0 hc.s1).out w (HP.swapA (e := x :: B) (tbS tb m1 m2 n) H)).mono fun e w' ⟨v, L', he, ⟨k1, k2, hv, hL⟩, H'⟩ => ⟨v, _, he, ⟨k1, k2, hv, rfl⟩, HP.swapA (e := tbS tb k1 k2 (n + 1)) (x :: B) (hL ▸ H')⟩
structure TcI (l : List CallD) (b : Nat) (g : Nat × Nat × Nat × List Blk) : Prop where
  le : g.1 ≤ l.length
  bld : BldI b (textC (l.take g.1)) g.2.2.2
set_option maxRecDepth 100000 in
set_option maxHeartbeats 4000000 in
theorem sctext_c {S w0 L} (tb m1 m2 n : Nat) (hn : n ≤ 90000) (l : List CallD) (hl : ∀ c ∈ l, GoodC c) (hlen : l.length ≤ 200) (a : Option Addr) (cap : Nat) (hs : Sli L a l.length 7 (flatC l)) :
    Fn Tryd.prog 20 #[.slice a l.length cap, .pointer (some ⟨tb, 0, none⟩)] S w0 (tbS tb m1 m2 n ++ L) fun v L' => ∃ m1' m2', v = .string (mB8 (textC l)) ∧ tbS tb m1' m2' (n + l.length) ++ L = L' := by
  have hl' := Lib.hid hl
  clear hl
  refine Fn2 Tryd.func20 Tryd.ntmps20 rfl rfl ?_
  repeat' (first | ((refine G_markb (id := 0) ?_)) | refine G_seq ?_ | refine G_then_n ?_ | ((refine G_region (id := 0) ?_ <;> (try (refine G_op1 ?_; ((apply K1_ev; exact rfl; ((focus (exact E_assign rfl))))))) <;> (try (refine G_nil ?_)))) | ((refine G_region (id := 1) ?_ <;> (try (refine G_op1 ?_; ((refine K1_alloc (t := 91) rfl Tryd.zeroValue91 ?_; intro nb hnb; (try simp only [Value.cells]))))) <;> (try (refine G_nil ?_)))) | ((refine G_region (id := 2) ?_ <;> (try (refine G_op1 ?_; ((apply K1_ev; exact rfl; ((focus (exact E_move rfl))))))) <;> (try (refine G_op1 ?_; ((apply K1_ev; exact rfl; ((focus ((apply E_builtin; exact rfl; exact (fun _ => BigFrame.builtin_len ..); apply r_len_slice_e Tryd.underlying32; ((focus ((try simp only [Int.cast_ofNat_Int]); exact rfl))))))))))) <;> (try (refine G_op1 ?_; ((apply K1_ev; exact rfl; ((focus (exact E_move rfl))))))) <;> (try (refine G_nil ?_)))))
  refine ⟨?_⟩
  obtain ⟨nbO, rfl⟩ : ∃ x, x = nb := ⟨_, rfl⟩
  refine G_block ?_
  refine G_loopk (γ := Nat × Nat × Nat × List Blk) (TcI l nbO) (fun g => l.length - g.1) (fun g => [(12, .int .i64 (g.1 : Nat))]) [(1, _), (5, _), (10, _), (11, _)]
    (fun g => g.2.2.2 ++ (tbS tb g.2.1 g.2.2.1 (n + g.1) ++ L)) (0, m1, m2, [bB nbO (.pointer none) (.slice none 0 0)]) (.cons rfl (.cons rfl (.cons rfl (.cons rfl .nil)))) ⟨Nat.zero_le _, bldi_0 _⟩ (by ((focus (repeat (first | exact Sub.nil | refine Sub.cons rfl ?_ | (refine Sub.cons (congrArg some ?_) ?_; (focus go_num))))))) (fun _ H => H) ?_
  rintro ⟨k, k1, k2, B⟩ ⟨hk, hB⟩
  dsimp only at hk hB ⊢
  simp only [List.cons_append, List.nil_append]
  have htl := textC_len (l.take k) (fun c hc => (hl'.out c (List.mem_of_mem_take hc)).bare)
  have hkl : (l.take k).length = k := by rw [List.length_take]; omega
  rw [hkl] at htl
  by_cases hlt : k < l.length
  case neg =>
    obtain rfl : k = l.length := by omega
    rw [List.take_of_length_le (Nat.le_refl _)] at hB htl
    have hst := bldi_s (S := S) (w0 := w0) (L := tbS tb k1 k2 (n + l.length) ++ L) hB (by omega)
    repeat' (first | refine G_seq ?_ | refine G_then_n ?_ | refine G_cut_x ?_ | refine G_then_x ?_ | refine G_blk_x ?_ | refine G_exit ?_ | refine G_ret ?_ | refine G_cond_f rfl ?_ | ((refine G_region (id := 3) ?_ <;> (try (refine G_op1 ?_; ((apply K1_ev; exact rfl; ((focus ((apply E_bin (op := .lss) (t := 3); exact rfl; exact rfl; exact rfl; ((focus ((refine rb_lss_f ?_; first | (with_reducible assumption) | (decide; done) | omega)))))))))))) <;> (try (refine G_nil ?_)))) | ((refine G_region (id := 9) ?_ <;> (try (refine G_op1 ?_; (((refine K1_call (F := 27) (by kernel_rfl) rfl rfl hst ?_; rintro _ _ ⟨rfl, rfl⟩))))) <;> (try (refine G_op1 ?_; ((apply K1_ev; exact rfl; ((focus (exact E_assign rfl))))))) <;> (try (refine G_nil ?_)))))
    (refine G_done Tryd.results20 (.tmp rfl .nil) ?_)
    exact ⟨_, ⟨k1, k2, rfl, rfl⟩, by intro w H; refine H.sub ?_; (try simp only [List.cons_append, List.nil_append]); repeat (first | exact List.Sublist.refl _ | refine List.Sublist.cons_cons _ ?_ | refine List.Sublist.cons _ ?_ | refine List.sublist_append_of_sublist_right ?_)⟩
  obtain ⟨j, q, b, off, cs, T, fr, rfl, hj, hsz, hx⟩ := ((hs.upA (tbS tb k1 k2 (n + k))).upA B).elem hlt
  rw [show flatC l = l.flatMap CallD.cells from rfl, flatG_at (cells := CallD.cells) (m := 7) (fun _ => rfl) l k hlt] at hx
  have hok := hl'.out _ (List.getElem_mem hlt)
  have htk : textC (l.take (k + 1)) = textC (l.take k) ++ lnX (lnO l[k]) := by rw [List.take_succ_eq_append_getElem hlt, textC_snoc]
  have hlc := fun x => scline_x (S := S) (w0 := w0) (L := L) x B tb k1 k2 (n + k) (by omega) l[k] hok
  have htz := textC_len (l.take (k + 1)) (fun c hc => (hl'.out c (List.mem_of_mem_take hc)).bare)
  have hkl2 : (l.take (k + 1)).length = k + 1 := by rw [List.length_take]; omega
  rw [hkl2] at htz
  generalize l[k] = c at *
  obtain ⟨ct, cf, cn, c0, c1, t0, t1⟩ := c
  simp only [CallD.cells] at hx
  simp only [CallD.cells] at hlc
  clear hok hkl hkl2
  generalize lnO _ = o at *
  unfold lnV at hlc
  cases o with
  | none =>
    simp only [Option.getD_none, Option.isSome_none] at hlc
    dsimp only [lnX] at htk
    rw [List.append_nil] at htk
    have htk' := Lib.hid htk
    clear htk
    repeat' (first | refine G_seq ?_ | refine G_then_n ?_ | refine G_cut_n ?_ | refine G_blk_n ?_ | refine G_block ?_ | refine G_skip ?_ | refine G_cond_t rfl ?_ | refine G_cond_f rfl ?_ | ((refine G_region (id := 3) ?_ <;> (try (refine G_op1 ?_; ((apply K1_ev; exact rfl; ((focus ((apply E_bin (op := .lss) (t := 3); exact rfl; exact rfl; exact rfl; ((focus ((refine rb_lss_t ?_; first | (with_reducible assumption) | (decide; done) | omega)))))))))))) <;> (try (refine G_nil ?_)))) | ((refine G_region (id := 4) ?_ <;> (try (refine G_op1 ?_; ((apply K1_ev; exact rfl; ((focus ((apply E_indexAddr; exact rfl; exact rfl; ((focus (apply r_ixs Tryd.underlying32 sz_52; (focus omega); (focus omega); ((focus ((try simp only [Int.toNat_natCast]); (try simp only [Int.reduceToNat]); (try simp only [Nat.mul_one]); (try simp only [Nat.zero_mul]); (try simp only [Nat.reduceMul]); (try simp only [Nat.zero_add]); (try simp only [Nat.add_zero]); (try simp only [Nat.reduceAdd]); exact rfl)))))))))))))) <;> (try (refine G_op1 ?_; ((apply K1_ev; exact rfl; ((focus ((apply E_loadA (t := 52); exact rfl; (((focus (repeat (with_reducible assumption))))); kernel_rfl; kernel_rfl; exact sz_52; (((focus (with_reducible assumption)))); (((focus (with_reducible assumption)))))))))))) <;> (try (refine G_op1 ?_; ((refine K1_alloc (t := 52) rfl Tryd.zeroValue52 ?_; intro nb hnb; (try simp only [Value.cells]))))) <;> (try (refine G_op1 ?_; (((apply K1_storeW (t := 52); exact rfl; exact rfl; (((focus (repeat (exact fd0))))); kernel_rfl; (((focus (exact rfl)))); (((focus (exact rfl)))); (try simp only [List.set_cons_succ]); (try simp only [List.set_cons_zero])))))) <;> (try (refine G_nil ?_)))) | ((refine G_region (id := 5) ?_ <;> (try (refine G_op1 ?_; ((apply K1_ev; exact rfl; ((focus ((apply E_loadA (t := 52); exact rfl; (((focus (repeat (exact fd0))))); kernel_rfl; kernel_rfl; exact sz_52; (((focus (exact Nat.le_of_ble_eq_true rfl)))); (((focus (((try simp only [List.drop_succ_cons]); (try simp only [List.drop_zero]); (try simp only [List.take_succ_cons]); (try simp only [List.take_zero]); (try simp only [List.take_nil]); exact rfl))))))))))))) <;> (try (refine G_op1 ?_; ((apply K1_ev; exact rfl; ((focus (exact E_move rfl))))))) <;> (try (refine G_op1 ?_; (((refine K1_call (F := 19) (by kernel_rfl) rfl rfl (hlc _) ?_; rintro _ _ ⟨j1, j2, rfl, rfl⟩))))) <;> (try (refine G_op1 ?_; ((apply K1_ev; exact rfl; ((focus (exact E_move rfl))))))) <;> (try (refine G_op1 ?_; ((apply K1_ev; exact rfl; ((focus (exact E_extractL rfl rfl))))))) <;> (try (refine G_op1 ?_; ((apply K1_ev; exact rfl; ((focus (exact E_extractL rfl rfl))))))) <;> (try (refine G_op1 ?_; ((apply K1_ev; exact rfl; ((focus (exact E_assign rfl))))))) <;> (try (refine G_op1 ?_; ((apply K1_ev; exact rfl; ((focus (exact E_assign rfl))))))) <;> (try (refine G_nil ?_)))) | ((refine G_region (id := 6) ?_ <;> (try (refine G_op1 ?_; ((apply K1_ev; exact rfl; ((focus (exact E_move rfl))))))) <;> (try (refine G_nil ?_)))) | ((refine G_region (id := 8) ?_ <;> (try (refine G_op1 ?_; ((apply K1_ev; exact rfl; ((focus ((apply E_bin (op := .add) (t := 3); exact rfl; exact rfl; exact rfl; ((focus ((apply rb_add; (((focus ((try simp only [Int.reduceAdd]); (try simp only [Int.reduceSub]); (try simp only [Int.reduceMul]); (try simp only [Int.reduceMod]); (try simp only [Int.reduceDiv]); exact rfl)))); (((focus (refine IntWalk.i64_in _ ?_; omega)))))))))))))))) <;> (try (refine G_op1 ?_; ((apply K1_ev; exact rfl; ((focus (exact E_move rfl))))))) <;> (try (refine G_nil ?_)))))
    refine G_meet (k + 1, j1, j2, B) ⟨⟨by dsimp only; omega, by dsimp only; rw [htk'.out]; exact hB⟩, by dsimp only; omega⟩ (by ((focus (repeat (first | exact Sub.nil | refine Sub.cons rfl ?_ | (refine Sub.cons (congrArg some ?_) ?_; (focus go_num))))))) (fun _ H => H.tail)
  | some t =>
    simp only [Option.getD_some, Option.isSome_some] at hlc
    dsimp only [lnX] at htk
    rw [htk, List.length_append, List.length_append, List.length_singleton] at htz
    have h10 : (⟨#[10]⟩ : ByteArray) = mB8 [10] := rfl
    have hcat : mB8 t ++ (⟨#[10]⟩ : ByteArray) = mB8 (t ++ [10]) := by rw [h10, mB8_add]
    have hsz2 : (mB8 t ++ (⟨#[10]⟩ : ByteArray)).size = t.length + 1 := by rw [hcat, mB8_size, List.length_append]; rfl
    have hbw := fun x M => (bldi_t (S := S) (w0 := w0) (L := M) hB (by omega) (mB8 t ++ (⟨#[10]⟩ : ByteArray)) (by omega) (by omega)).weak (L1 := x :: (B ++ M)) (fun _ H => H.tail)
    rw [hcat, lB_mB8, ← htk, ← hcat] at hbw
    have hst : (mB8 t).size = t.length := mB8_size _
    have hs1 : (⟨#[10]⟩ : ByteArray).size = 1 := rfl
    clear h10 hcat htk hB
    repeat' (first | refine G_seq ?_ | refine G_then_n ?_ | refine G_cut_n ?_ | refine G_blk_n ?_ | refine G_block ?_ | refine G_skip ?_ | refine G_cond_t rfl ?_ | ((refine G_region (id := 3) ?_ <;> (try (refine G_op1 ?_; ((apply K1_ev; exact rfl; ((focus ((apply E_bin (op := .lss) (t := 3); exact rfl; exact rfl; exact rfl; ((focus ((refine rb_lss_t ?_; first | (with_reducible assumption) | (decide; done) | omega)))))))))))) <;> (try (refine G_nil ?_)))) | ((refine G_region (id := 4) ?_ <;> (try (refine G_op1 ?_; ((apply K1_ev; exact rfl; ((focus ((apply E_indexAddr; exact rfl; exact rfl; ((focus (apply r_ixs Tryd.underlying32 sz_52; (focus omega); (focus omega); ((focus ((try simp only [Int.toNat_natCast]); (try simp only [Int.reduceToNat]); (try simp only [Nat.mul_one]); (try simp only [Nat.zero_mul]); (try simp only [Nat.reduceMul]); (try simp only [Nat.zero_add]); (try simp only [Nat.add_zero]); (try simp only [Nat.reduceAdd]); exact rfl)))))))))))))) <;> (try (refine G_op1 ?_; ((apply K1_ev; exact rfl; ((focus ((apply E_loadA (t := 52); exact rfl; (((focus (repeat (with_reducible assumption))))); kernel_rfl; kernel_rfl; exact sz_52; (((focus (with_reducible assumption)))); (((focus (with_reducible assumption)))))))))))) <;> (try (refine G_op1 ?_; ((refine K1_alloc (t := 52) rfl Tryd.zeroValue52 ?_; intro nb hnb; (try simp only [Value.cells]))))) <;> (try (refine G_op1 ?_; (((apply K1_storeW (t := 52); exact rfl; exact rfl; (((focus (repeat (exact fd0))))); kernel_rfl; (((focus (exact rfl)))); (((focus (exact rfl)))); (try simp only [List.set_cons_succ]); (try simp only [List.set_cons_zero])))))) <;> (try (refine G_nil ?_)))) | ((refine G_region (id := 5) ?_ <;> (try (refine G_op1 ?_; ((apply K1_ev; exact rfl; ((focus ((apply E_loadA (t := 52); exact rfl; (((focus (repeat (exact fd0))))); kernel_rfl; kernel_rfl; exact sz_52; (((focus (exact Nat.le_of_ble_eq_true rfl)))); (((focus (((try simp only [List.drop_succ_cons]); (try simp only [List.drop_zero]); (try simp only [List.take_succ_cons]); (try simp only [List.take_zero]); (try simp only [List.take_nil]); exact rfl))))))))))))) <;> (try (refine G_op1 ?_; ((apply K1_ev; exact rfl; ((focus (exact E_move rfl))))))) <;> (try (refine G_op1 ?_; (((refine K1_call (F := 19) (by kernel_rfl) rfl rfl (hlc _) ?_; rintro _ _ ⟨j1, j2, rfl, rfl⟩))))) <;> (try (refine G_op1 ?_; ((apply K1_ev; exact rfl; ((focus (exact E_move rfl))))))) <;> (try (refine G_op1 ?_; ((apply K1_ev; exact rfl; ((focus (exact E_extractL rfl rfl))))))) <;> (try (refine G_op1 ?_; ((apply K1_ev; exact rfl; ((focus (exact E_extractL rfl rfl))))))) <;> (try (refine G_op1 ?_; ((apply K1_ev; exact rfl; ((focus (exact E_assign rfl))))))) <;> (try (refine G_op1 ?_; ((apply K1_ev; exact rfl; ((focus (exact E_assign rfl))))))) <;> (try (refine G_nil ?_)))) | ((refine G_region (id := 6) ?_ <;> (try (refine G_op1 ?_; ((apply K1_ev; exact rfl; ((focus (exact E_move rfl))))))) <;> (try (refine G_nil ?_)))) | ((refine G_region (id := 7) ?_ <;> (try (refine G_op1 ?_; ((apply K1_ev; exact rfl; ((focus (exact E_move rfl))))))) <;> (try (refine G_op1 ?_; ((apply K1_ev; exact rfl; ((focus ((apply E_bin (op := .add) (t := 9); exact rfl; exact rfl; exact rfl; ((focus (apply rb_stradd; ((focus (exact rfl))); (focus omega)))))))))))) <;> (try (refine G_op1 ?_; (((refine K1_call (F := 35) (by kernel_rfl) rfl rfl (hbw _ _) ?_; rintro _ _ ⟨rfl, B2, hB2, rfl⟩))))) <;> (try (refine G_nil ?_)))) | ((refine G_region (id := 8) ?_ <;> (try (refine G_op1 ?_; ((apply K1_ev; exact rfl; ((focus ((apply E_bin (op := .add) (t := 3); exact rfl; exact rfl; exact rfl; ((focus ((apply rb_add; (((focus ((try simp only [Int.reduceAdd]); (try simp only [Int.reduceSub]); (try simp only [Int.reduceMul]); (try simp only [Int.reduceMod]); (try simp only [Int.reduceDiv]); exact rfl)))); (((focus (refine IntWalk.i64_in _ ?_; omega)))))))))))))))) <;> (try (refine G_op1 ?_; ((apply K1_ev; exact rfl; ((focus (exact E_move rfl))))))) <;> (try (refine G_nil ?_)))))
    exact G_meet (k + 1, j1, j2, B2) ⟨⟨by dsimp only; omega, hB2⟩, by dsimp only; omega⟩ (by ((focus (repeat (first | exact Sub.nil | refine Sub.cons rfl ?_ | (refine Sub.cons (congrArg some ?_) ?_; (focus go_num))))))) (fun _ H => H)
end Go.Proofs.YtpdnigifoaoflaaDoor
