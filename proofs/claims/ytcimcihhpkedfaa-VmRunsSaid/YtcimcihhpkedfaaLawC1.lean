/- The laws of check: Awake, CheckMany. -/
import Derived.Test.YtcimcihhpkedfaaCheck3
import Derived.Test.YtcimcihhpkedfaaInsn2
namespace Go.Proofs.Ytcimcihhpkedfaa
open Go Go.RowKit
theorem sli_lit {L : List Blk} {b : Nat} {T : TypeId} {q : Bool} {fr : Nat × Nat} (l : List Ins) : Sli (⟨q, b, .cells (flat l).toArray T fr⟩ :: L) (some ⟨b, 0, none⟩) l.length 4 (flat l) :=
  Sli.of (i := 0) rfl (by simp [flat_len]) (by rw [List.drop_zero]; exact List.take_of_length_le (by rw [flat_len]; exact Nat.le_refl _))
theorem awake_chk : check [⟨6, 0, 0, 7⟩] = (0, 0) ∧ check [⟨32, 0, 0, 0⟩] = (0, 209) := by decide +kernel
set_option maxRecDepth 100000 in
theorem awake05_c {S w0 L} : Fn Try.prog 14 #[] S w0 L fun v L' => v = .bool true ∧ L = L' := by
  have hk := fun (L : List Blk) (b : Nat) (cap : Nat) (i : Ins) (hi : i.ok) => check_c (S := S) (w0 := w0) (L := ⟨true, b, .cells (flat [i]).toArray 27 (0, 0)⟩ :: L) [i] (by simpa using hi) (by unfold maxLen; simp) _ cap (sli_lit [i])
  simp only [flat, Ins.cells, List.flatMap_cons, List.flatMap_nil, List.append_nil, List.length_cons, List.length_nil, Nat.zero_add] at hk
  refine Fn0 Try.func14 Try.ntmps14 rfl ?_
  repeat' (first | refine G_seq ?_ | refine G_then_n ?_ | refine G_ret ?_ | ((refine G_region (id := 0) ?_ <;> (try (refine G_op1 ?_; ((apply K1_ev; exact rfl; ((focus (exact E_assign rfl))))))) <;> (try (refine G_nil ?_)))) | ((refine G_region (id := 1) ?_ <;> (try (refine G_op1 ?_; (((refine K1_call (F := 15) (by kernel_rfl) rfl rfl (return_c _) ?_; rintro _ _ ⟨rfl, rfl⟩))))) <;> (try (refine G_op1 ?_; ((refine K1_buildSlice (t := 24) (m := 1) (e := 27) (fun (vs : List (Nat × Value)) => (match vs with | [(_, x0)] => x0.cells.toList | _ => [] : List Value)) rfl rfl (fun w => by kernel_rfl) ?_; intro nb hnb; (try simp only [Value.cells]); (try simp only [List.cons_append]); (try simp only [List.nil_append]))))) <;> (try (refine G_op1 ?_; (((refine K1_call (F := 17) (by kernel_rfl) rfl rfl (hk _ _ _ ⟨_, _, _, _⟩ (by constructor <;> simp)) ?_; rintro _ _ ⟨rfl, rfl⟩))))) <;> (try (refine G_op1 ?_; ((apply K1_ev; exact rfl; ((focus (exact E_build (t := 31) (fun (vs : List (Nat × Value)) => (match vs with | [] => [Value.int .i64 0, Value.int .i64 0] | _ => [] : List Value)) rfl (fun w => by kernel_rfl)))); (try simp only [Value.cells]); (try simp only [List.cons_append]); (try simp only [List.nil_append]))))) <;> (try (refine G_op1 ?_; ((apply K1_ev; exact rfl; ((focus ((apply E_bin_agg (op := .eql) (t := 31); exact rfl; exact rfl; kernel_rfl; (apply rb_eql_agg Try.underlying31 (by kernel_rfl); apply EqF.int; (((focus (simp)))); exact Try.underlying3; exact rfl; exact rfl; exact rfl; exact EqF.int1 (by simp) Try.underlying29 rfl rfl rfl))))))))) <;> (try (refine G_op1 ?_; ((apply K1_ev; exact rfl; ((focus (exact E_move rfl))))))) <;> (try (refine G_op1 ?_; ((refine K1_yes rfl rfl rfl ?_; (((refine K1_call (F := 18) (by kernel_rfl) rfl rfl (load_c _) ?_; rintro _ _ ⟨rfl, rfl⟩))))))) <;> (try (refine G_op1 ?_; ((refine K1_yes rfl rfl rfl ?_; ((refine K1_buildSlice (t := 24) (m := 1) (e := 27) (fun (vs : List (Nat × Value)) => (match vs with | [(_, x0)] => x0.cells.toList | _ => [] : List Value)) rfl rfl (fun w => by kernel_rfl) ?_; intro nb hnb; (try simp only [Value.cells]); (try simp only [List.cons_append]); (try simp only [List.nil_append]))))))) <;> (try (refine G_op1 ?_; ((refine K1_yes rfl rfl rfl ?_; (((refine K1_call (F := 17) (by kernel_rfl) rfl rfl (hk _ _ _ ⟨_, _, _, _⟩ (by constructor <;> simp)) ?_; rintro _ _ ⟨rfl, rfl⟩))))))) <;> (try (refine G_op1 ?_; ((refine K1_yes rfl rfl rfl ?_; ((apply K1_ev; exact rfl; ((focus (exact E_build (t := 31) (fun (vs : List (Nat × Value)) => (match vs with | [(_, x0), (_, x1)] => [x0, x1] | _ => [] : List Value)) rfl (fun w => by kernel_rfl)))); (try simp only [Value.cells]); (try simp only [List.cons_append]); (try simp only [List.nil_append]))))))) <;> (try (refine G_op1 ?_; ((refine K1_yes rfl rfl rfl ?_; ((apply K1_ev; exact rfl; ((focus ((apply E_bin_agg (op := .eql) (t := 31); exact rfl; exact rfl; kernel_rfl; (apply rb_eql_agg Try.underlying31 (by kernel_rfl); apply EqF.int; (((focus (simp)))); exact Try.underlying3; exact rfl; exact rfl; exact rfl; exact EqF.int1 (by simp) Try.underlying29 rfl rfl rfl))))))))))) <;> (try (refine G_op1 ?_; ((apply K1_ev; exact rfl; ((focus (exact E_pick rfl rfl))))))) <;> (try (refine G_op1 ?_; ((apply K1_ev; exact rfl; ((focus (exact E_assign rfl))))))) <;> (try (refine G_nil ?_)))))
  (refine G_done Try.results14 (.tmp rfl .nil) ?_)
  exact ⟨L, ⟨by rw [awake_chk.2]; rfl, rfl⟩, (by intro w H; repeat (first | exact H | replace H := H.tail | replace H := H.dropA))⟩

def ret0 : Ins := ⟨6, 0, 0, 0⟩
theorem flat_rep (n : Nat) (i : Ins) : flat (List.replicate n i) = (List.replicate n i.cells).flatten := by
  simp [flat, List.flatMap_replicate]
theorem splice_flat (l : List Ins) (k : Nat) (i : Ins) (h : k < l.length) : splice (flat l) (k * 4) i.cells = flat (l.set k i) := by
  induction l generalizing k with
  | nil => simp at h
  | cons j l ih =>
    cases k with
    | zero => simp [splice, flat, List.flatMap_cons, Ins.cells]
    | succ k =>
      have := ih k (by simpa using h)
      have e : (k + 1) * 4 = j.cells.length + k * 4 := by simp [Ins.cells]; omega
      have e2 : j.cells.length + k * 4 + i.cells.length = j.cells.length + (k * 4 + i.cells.length) := by omega
      simp only [splice, flat, List.flatMap_cons, List.set_cons_succ] at this ⊢
      rw [e, List.take_length_add_append, e2, List.drop_length_add_append, List.append_assoc, List.append_assoc, ← List.append_assoc (List.take _ _), this]
theorem loadsGo_none (l : List Ins) (k : Nat) (st : List Int) (h : ∀ i ∈ l, isLd i = false) : loadsGo l k st = (0, 0) := by
  induction l generalizing k st with
  | nil => rfl
  | cons i l ih =>
    unfold loadsGo
    rw [h i (by simp)]
    simp only [Bool.false_and, Bool.false_eq_true, if_false]
    exact ih _ _ fun j hj => h j (by simp [hj])
theorem firstBad_rep (n m at_ : Nat) : firstBad n (List.replicate m ret0) at_ = none := by
  induction m generalizing at_ with
  | zero => rfl
  | succ m ih =>
    rw [List.replicate_succ, firstBad_cons]
    have : one ret0 at_ n = 0 := by simp [one, ret0, known]
    rw [this, if_neg (by simp)]; exact ih _
theorem check_many (m : Nat) (k : Int) (hm : 2 ≤ m) (hk : 0 ≤ k) : check (⟨5, 0, 0, k⟩ :: List.replicate (m - 1) ret0) = if m > 4096 then (4096, 205) else if k > (m : Int) - 2 then (0, 207) else (0, 0) := by
  have hl : (⟨5, 0, 0, k⟩ :: List.replicate (m - 1) ret0 : List Ins).length = m := by simp; omega
  unfold check
  rw [hl, if_neg (by omega)]
  by_cases h1 : m > 4096
  · rw [if_pos h1, if_pos h1]
  · rw [if_neg h1, if_neg h1, firstBad_cons]
    have ho : one ⟨5, 0, 0, k⟩ ((0 : Nat) : Int) m = if k > (m : Int) - 2 then 207 else 0 := by
      unfold one
      by_cases h2 : k > (m : Int) - 2
      · have h3 : (m : Int) - 1 ≤ k := by omega
        simp [known, h2, h3]
      · have h3 : ¬ (m : Int) - 1 ≤ k := by omega
        simp [known, h2, h3]
    rw [ho]
    by_cases h2 : k > (m : Int) - 2
    · simp [h2]
    · rw [if_neg h2, if_neg h2, if_neg (by simp), firstBad_rep]
      have hlast : (⟨5, 0, 0, k⟩ :: List.replicate (m - 1) ret0 : List Ins).getD (m - 1) ⟨0, 0, 0, 0⟩ = ret0 := by
        obtain ⟨q, rfl⟩ : ∃ q, m = q + 2 := ⟨m - 2, by omega⟩
        simp [List.getD_eq_getElem?_getD]
      rw [hlast]
      show (if isRet ret0 = true then _ else _) = _
      rw [if_pos (by decide)]
      unfold loads
      exact loadsGo_none _ _ _ (by intro i hi; simp at hi; rcases hi with rfl | ⟨_, rfl⟩ <;> simp [isLd, ret0])
theorem check_nil : check [] = (0, 203) := rfl

set_option maxRecDepth 100000 in
set_option maxHeartbeats 1000000 in
theorem checkMany_c {S w0 L} (a b : Int) (ha : 0 ≤ a ∧ a < 256) (hb : 0 ≤ b ∧ b < 65536) : Fn Try.prog 3 #[.int .u8 a, .int .u16 b] S w0 L fun v L' => v = .bool true ∧ L = L' := by
  refine Fn2 Try.func3 Try.ntmps3 rfl rfl ?_
  obtain ⟨m, hm⟩ : ∃ m : Nat, 4090 + a % 12 = (m : Int) := ⟨(4090 + a % 12).toNat, by omega⟩
  have hm1 : 4090 ≤ m ∧ m ≤ 4101 := by omega
  have hm' := Lib.hid hm
  repeat' (first | ((refine G_markr (id := 4) ?_)) | refine G_seq ?_ | refine G_then_n ?_ | refine G_skip ?_ | refine G_cond_f rfl ?_ | ((refine G_region (id := 0) ?_ <;> (try (refine G_op1 ?_; ((apply K1_ev; exact rfl; ((focus (exact E_assign rfl))))))) <;> (try (refine G_nil ?_)))) | ((refine G_region (id := 1) ?_ <;> (try (refine G_op1 ?_; (((refine K1_call (F := 14) (by kernel_rfl) rfl rfl (awake05_c) ?_; rintro _ _ ⟨rfl, rfl⟩))))) <;> (try (refine G_op1 ?_; ((apply K1_ev; exact rfl; ((focus ((apply E_un; exact rfl; ((focus (exact ru_not_t))))))))))) <;> (try (refine G_nil ?_)))) | ((refine G_region (id := 3) ?_ <;> (try (refine G_op1 ?_; ((apply K1_ev; exact rfl; ((focus (exact E_move rfl))))))) <;> (try (refine G_op1 ?_; ((apply K1_ev; exact rfl; ((focus ((apply E_bin (op := .rem) (t := 5); exact rfl; exact rfl; exact rfl; ((focus ((apply rb_rem; (focus omega); (focus omega); (((focus ((try simp only [Int.reduceAdd]); (try simp only [Int.reduceSub]); (try simp only [Int.reduceMul]); (try simp only [Int.reduceMod]); (try simp only [Int.reduceDiv]); exact rfl)))))))))))))))) <;> (try (refine G_op1 ?_; ((apply K1_ev; exact rfl; ((focus ((apply E_conv; exact rfl; ((focus (apply r_conv Try.underlying5 Try.underlying3; first | (refine IntWalk.i64_in _ ?_; omega) | (refine IntWalk.u8_in _ ?_; omega) | (refine IntWalk.u16_in _ ?_; omega) | (refine IntWalk.u32_in _ ?_; omega) | (refine IntWalk.u64_in _ ?_; omega) | (refine IntWalk.i32_in _ ?_; omega) | exact rfl))))))))))) <;> (try (refine G_op1 ?_; ((apply K1_ev; exact rfl; ((focus ((apply E_bin (op := .add) (t := 3); exact rfl; exact rfl; exact rfl; ((focus ((apply rb_add; (((focus ((try simp only [Int.reduceAdd]); (try simp only [Int.reduceSub]); (try simp only [Int.reduceMul]); (try simp only [Int.reduceMod]); (try simp only [Int.reduceDiv]); exact rfl)))); (((focus (refine IntWalk.i64_in _ ?_; omega)))))))))))))))) <;> (try (refine G_op1 ?_; ((apply K1_ev; exact rfl; ((focus (exact E_assign rfl))))))) <;> (try (refine G_nil ?_)))))
  refine ⟨?_⟩
  rw [hm]
  clear hm
  repeat' (first | refine G_seq ?_ | refine G_then_n ?_ | refine G_block ?_ | ((refine G_region (id := 4) ?_ <;> (try (refine G_op1 ?_; ((apply K1_ev; exact rfl; ((focus (exact E_move rfl))))))) <;> (try (refine G_op1 ?_; ((refine K1_makeSliceN (t := 24) (zc := [Value.int .u16 0, Value.int .u8 0, Value.int .u8 0, Value.int .u32 0]) rfl rfl rfl Try.underlying24 inf_27_i inf_27_z inf_27_s inf_27_b rfl ?_ ?_ ?_; (focus omega); (focus omega); intro nb hnb)))) <;> (try (refine G_op1 ?_; ((apply K1_ev; exact rfl; ((focus (exact E_assign rfl))))))) <;> (try (refine G_nil ?_)))) | ((refine G_region (id := 5) ?_ <;> (try (refine G_op1 ?_; ((apply K1_ev; exact rfl; ((focus (exact E_move rfl))))))) <;> (try (refine G_op1 ?_; ((apply K1_ev; exact rfl; ((focus ((apply E_builtin; exact rfl; exact (fun _ => BigFrame.builtin_len ..); apply r_len_slice_e Try.underlying24; ((focus ((try simp only [Int.cast_ofNat_Int]); exact rfl))))))))))) <;> (try (refine G_op1 ?_; ((apply K1_ev; exact rfl; ((focus (exact E_move rfl))))))) <;> (try (refine G_nil ?_)))))
  rw [show ([Value.int .u16 0, .int .u8 0, .int .u8 0, .int .u32 0] : List Value) = (Ins.mk 0 0 0 0).cells from rfl, ← flat_rep]
  obtain ⟨nbS, rfl⟩ : ∃ x, x = nb := ⟨_, rfl⟩
  refine G_loopk (γ := Nat) (fun k => k ≤ m) (fun k => m - k) (fun k => [(20, .int .i64 (k : Nat))]) [(1, _), (5, _), (6, _), (19, _)]
    (fun k => ⟨true, nbS, .cells (flat (List.replicate k ret0 ++ List.replicate (m - k) ⟨0, 0, 0, 0⟩)).toArray 27 (0, 0)⟩ :: L)
    0 (.cons rfl (.cons rfl (.cons rfl (.cons rfl .nil)))) (Nat.zero_le _) (by ((focus (repeat (first | exact Sub.nil | refine Sub.cons rfl ?_ | (refine Sub.cons (congrArg some ?_) ?_; (focus go_num))))))) (by simp) ?_
  intro k (hk : k ≤ m)
  simp only [List.cons_append, List.nil_append]
  have hfl : (flat (List.replicate k ret0 ++ List.replicate (m - k) ⟨0, 0, 0, 0⟩)).length = m * 4 := by rw [flat_len]; simp; omega
  by_cases hlt : k < m
  · have hle : k * 4 + 4 ≤ (flat (List.replicate k ret0 ++ List.replicate (m - k) ⟨0, 0, 0, 0⟩)).length := by omega
    clear hfl
    repeat' (first | refine G_seq ?_ | refine G_then_n ?_ | refine G_cut_n ?_ | refine G_blk_n ?_ | refine G_block ?_ | refine G_skip ?_ | refine G_cond_t rfl ?_ | ((refine G_region (id := 6) ?_ <;> (try (refine G_op1 ?_; ((apply K1_ev; exact rfl; ((focus ((apply E_bin (op := .lss) (t := 3); exact rfl; exact rfl; exact rfl; ((focus ((refine rb_lss_t ?_; first | (with_reducible assumption) | (decide; done) | omega)))))))))))) <;> (try (refine G_nil ?_)))) | ((refine G_region (id := 7) ?_ <;> (try (refine G_op1 ?_; ((apply K1_ev; exact rfl; ((focus (exact E_move rfl))))))) <;> (try (refine G_op1 ?_; ((apply K1_ev; exact rfl; ((focus (exact E_assign rfl))))))) <;> (try (refine G_nil ?_)))) | ((refine G_region (id := 8) ?_ <;> (try (refine G_op1 ?_; ((apply K1_ev; exact rfl; ((focus (exact E_move rfl))))))) <;> (try (refine G_op1 ?_; ((apply K1_ev; exact rfl; ((focus (exact E_move rfl))))))) <;> (try (refine G_op1 ?_; (((refine K1_call (F := 15) (by kernel_rfl) rfl rfl (return_c _) ?_; rintro _ _ ⟨rfl, rfl⟩))))) <;> (try (refine G_op1 ?_; ((apply K1_ev; exact rfl; ((focus ((apply E_indexAddr; exact rfl; exact rfl; ((focus (apply r_ixs Try.underlying24 sz_27; (focus omega); (focus omega); ((focus ((try simp only [Int.toNat_natCast]); (try simp only [Int.reduceToNat]); (try simp only [Nat.mul_one]); (try simp only [Nat.zero_mul]); (try simp only [Nat.reduceMul]); (try simp only [Nat.zero_add]); (try simp only [Nat.add_zero]); (try simp only [Nat.reduceAdd]); exact rfl)))))))))))))) <;> (try (refine G_op1 ?_; (((apply K1_storeN (t := 27); exact rfl; exact rfl; (((focus (repeat (exact fd0))))); exact sz_27; ((focus (exact rfl))); ((focus (((((focus (exact rfl)))))))); (((focus (with_reducible assumption)))); (try simp only [List.set_cons_succ]); (try simp only [List.set_cons_zero])))))) <;> (try (refine G_nil ?_)))) | ((refine G_region (id := 9) ?_ <;> (try (refine G_op1 ?_; ((apply K1_ev; exact rfl; ((focus ((apply E_bin (op := .add) (t := 3); exact rfl; exact rfl; exact rfl; ((focus ((apply rb_add; (((focus ((try simp only [Int.reduceAdd]); (try simp only [Int.reduceSub]); (try simp only [Int.reduceMul]); (try simp only [Int.reduceMod]); (try simp only [Int.reduceDiv]); exact rfl)))); (((focus (refine IntWalk.i64_in _ ?_; omega)))))))))))))))) <;> (try (refine G_op1 ?_; ((apply K1_ev; exact rfl; ((focus (exact E_move rfl))))))) <;> (try (refine G_nil ?_)))))
    refine G_meet (k + 1) ⟨by omega, by omega⟩ (by ((focus (repeat (first | exact Sub.nil | refine Sub.cons rfl ?_ | (refine Sub.cons (congrArg some ?_) ?_; (focus go_num))))))) ?_
    have e := splice_flat (List.replicate k ret0 ++ List.replicate (m - k) ⟨0, 0, 0, 0⟩) k ret0 (by simp; omega)
    have e2 : (List.replicate k ret0 ++ List.replicate (m - k) (⟨0, 0, 0, 0⟩ : Ins)).set k ret0 = List.replicate (k + 1) ret0 ++ List.replicate (m - (k + 1)) ⟨0, 0, 0, 0⟩ := by
      rw [List.set_append_right _ _ (by simp)]
      obtain ⟨q, hq⟩ : ∃ q, m - k = q + 1 := ⟨m - k - 1, by omega⟩
      have hq2 : m - (k + 1) = q := by omega
      rw [hq, hq2, List.replicate_succ' (n := k)]
      simp [List.replicate_succ]
    rw [e2] at e
    rw [← e]
    exact fun _ H => H
  · obtain rfl : k = m := by omega
    clear hfl
    rw [Nat.sub_self, List.replicate_zero, List.append_nil]
    obtain ⟨q, rfl⟩ : ∃ q, k = q + 1 := ⟨k - 1, by omega⟩
    have hle : 0 + 4 ≤ (flat (List.replicate (q + 1) ret0)).length := by rw [flat_len]; simp; omega
    repeat' (first | ((refine G_markb (id := 2) ?_)) | refine G_seq ?_ | refine G_then_n ?_ | refine G_cut_x ?_ | refine G_then_x ?_ | refine G_blk_x ?_ | refine G_exit ?_ | refine G_cond_f rfl ?_ | ((refine G_region (id := 6) ?_ <;> (try (refine G_op1 ?_; ((apply K1_ev; exact rfl; ((focus ((apply E_bin (op := .lss) (t := 3); exact rfl; exact rfl; exact rfl; ((focus ((refine rb_lss_f ?_; first | (with_reducible assumption) | (decide; done) | omega)))))))))))) <;> (try (refine G_nil ?_)))) | ((refine G_region (id := 10) ?_ <;> (try (refine G_op1 ?_; ((apply K1_ev; exact rfl; ((focus (exact E_move rfl))))))) <;> (try (refine G_op1 ?_; ((apply K1_ev; exact rfl; ((focus ((apply E_conv; exact rfl; ((focus (apply r_conv Try.underlying22 Try.underlying25; first | (refine IntWalk.i64_in _ ?_; omega) | (refine IntWalk.u8_in _ ?_; omega) | (refine IntWalk.u16_in _ ?_; omega) | (refine IntWalk.u32_in _ ?_; omega) | (refine IntWalk.u64_in _ ?_; omega) | (refine IntWalk.i32_in _ ?_; omega) | exact rfl))))))))))) <;> (try (refine G_op1 ?_; ((apply K1_ev; exact rfl; ((focus ((apply E_bin (op := .rem) (t := 25); exact rfl; exact rfl; exact rfl; ((focus ((apply rb_rem; (focus omega); (focus omega); (((focus ((try simp only [Int.reduceAdd]); (try simp only [Int.reduceSub]); (try simp only [Int.reduceMul]); (try simp only [Int.reduceMod]); (try simp only [Int.reduceDiv]); exact rfl)))))))))))))))) <;> (try (refine G_op1 ?_; ((apply K1_ev; exact rfl; ((focus (exact E_assign rfl))))))) <;> (try (refine G_nil ?_)))) | ((refine G_region (id := 11) ?_ <;> (try (refine G_op1 ?_; ((apply K1_ev; exact rfl; ((focus (exact E_move rfl))))))) <;> (try (refine G_op1 ?_; ((apply K1_ev; exact rfl; ((focus (exact E_move rfl))))))) <;> (try (refine G_op1 ?_; (((refine K1_call (F := 16) (by kernel_rfl) rfl rfl (skip_c _) ?_; rintro _ _ ⟨rfl, rfl⟩))))) <;> (try (refine G_op1 ?_; ((apply K1_ev; exact rfl; ((focus ((apply E_indexAddr; exact rfl; exact rfl; ((focus (apply r_ixs Try.underlying24 sz_27; (focus omega); (focus omega); ((focus ((try simp only [Int.toNat_natCast]); (try simp only [Int.reduceToNat]); (try simp only [Nat.mul_one]); (try simp only [Nat.zero_mul]); (try simp only [Nat.reduceMul]); (try simp only [Nat.zero_add]); (try simp only [Nat.add_zero]); (try simp only [Nat.reduceAdd]); exact rfl)))))))))))))) <;> (try (refine G_op1 ?_; (((apply K1_storeN (t := 27); exact rfl; exact rfl; (((focus (repeat (exact fd0))))); exact sz_27; ((focus (exact rfl))); ((focus (((((focus (exact rfl)))))))); (((focus (with_reducible assumption)))); (try simp only [List.set_cons_succ]); (try simp only [List.set_cons_zero])))))) <;> (try (refine G_nil ?_)))) | ((refine G_region (id := 12) ?_ <;> (try (refine G_op1 ?_; ((apply K1_ev; exact rfl; ((focus (exact E_build (t := 31) (fun (vs : List (Nat × Value)) => (match vs with | [] => [Value.int .i64 0, Value.int .i64 0] | _ => [] : List Value)) rfl (fun w => by kernel_rfl)))); (try simp only [Value.cells]); (try simp only [List.cons_append]); (try simp only [List.nil_append]))))) <;> (try (refine G_op1 ?_; ((refine K1_alloc (t := 31) rfl Try.zeroValue31 ?_; intro nb hnb; (try simp only [Value.cells]))))) <;> (try (refine G_op1 ?_; (((apply K1_storeW (t := 31); exact rfl; exact rfl; (((focus (repeat (exact fd0))))); kernel_rfl; (((focus (exact rfl)))); (((focus (exact rfl)))); (try simp only [List.set_cons_succ]); (try simp only [List.set_cons_zero])))))) <;> (try (refine G_nil ?_)))))
    refine ⟨?_⟩
    have hkr : 0 ≤ b % 5000 := by omega
    have hcm := check_many (q + 1) (b % 5000) (by omega) hkr
    simp only [Nat.add_sub_cancel] at hcm
    have e := splice_flat (List.replicate (q + 1) ret0) 0 ⟨5, 0, 0, b % 5000⟩ (by simp)
    rw [List.replicate_succ, List.set_cons_zero, Nat.zero_mul] at e
    simp only [Ins.cells] at e
    rw [List.replicate_succ, e]
    have hok : ∀ i ∈ ((⟨5, 0, 0, b % 5000⟩ : Ins) :: List.replicate q ret0), i.ok := by
      intro i hi
      simp only [List.mem_cons, List.mem_replicate] at hi
      rcases hi with rfl | ⟨_, rfl⟩
      · constructor <;> simp <;> omega
      · constructor <;> simp [ret0]
    have hlen : ((⟨5, 0, 0, b % 5000⟩ : Ins) :: List.replicate q ret0).length = q + 1 := by simp
    generalize hgl : ((⟨5, 0, 0, b % 5000⟩ : Ins) :: List.replicate q ret0) = l at *
    clear e hle hgl
    have hcm' := Lib.hid hcm
    clear hcm
    refine G_meetk (γ := Unit) (fun _ => True) (fun _ => []) [(6, _), (9, _)] (fun _ => ⟨true, nb, .cells #[.int .i64 (check l).1, .int .i64 (check l).2] 31 (0, 0)⟩ :: ⟨true, nbS, .cells (flat l).toArray 27 (0, 0)⟩ :: L) (.cons rfl (.cons rfl .nil)) ?_ ?_
    · repeat' (first | refine G_seq ?_ | refine G_then_n ?_ | refine G_cut_n ?_ | refine G_blk_n ?_ | refine G_block ?_ | refine G_skip ?_ | ((refine G_region (id := 13) ?_ <;> (try (refine G_op1 ?_; ((apply K1_ev; exact rfl; ((focus (exact E_move rfl))))))) <;> (try (refine G_op1 ?_; ((apply K1_ev; exact rfl; ((focus ((apply E_bin (op := .gtr) (t := 3); exact rfl; exact rfl; exact rfl; ((focus (exact rb_gtr))))))))))) <;> (try (refine G_op1 ?_; ((apply K1_ev; exact rfl; ((focus (exact E_assign rfl))))))) <;> (try (refine G_nil ?_)))) | ((refine G_region (id := 14) ?_ <;> (try (refine G_op1 ?_; ((apply K1_ev; exact rfl; ((focus (exact E_build (t := 31) (fun (vs : List (Nat × Value)) => (match vs with | [(_, x0), (_, x1)] => [x0, x1] | _ => [] : List Value)) rfl (fun w => by kernel_rfl)))); (try simp only [Value.cells]); (try simp only [List.cons_append]); (try simp only [List.nil_append]))))) <;> (try (refine G_op1 ?_; (((apply K1_storeW (t := 31); exact rfl; exact rfl; (((focus (repeat (exact fd0))))); kernel_rfl; (((focus (exact rfl)))); (((focus (exact rfl)))); (try simp only [List.set_cons_succ]); (try simp only [List.set_cons_zero])))))) <;> (try (refine G_nil ?_)))) | ((refine G_region (id := 15) ?_ <;> (try (refine G_op1 ?_; ((apply K1_ev; exact rfl; ((focus (exact E_move rfl))))))) <;> (try (refine G_op1 ?_; ((apply K1_ev; exact rfl; ((focus ((apply E_conv; exact rfl; ((focus (apply r_conv Try.underlying25 Try.underlying3; first | (refine IntWalk.i64_in _ ?_; omega) | (refine IntWalk.u8_in _ ?_; omega) | (refine IntWalk.u16_in _ ?_; omega) | (refine IntWalk.u32_in _ ?_; omega) | (refine IntWalk.u64_in _ ?_; omega) | (refine IntWalk.i32_in _ ?_; omega) | exact rfl))))))))))) <;> (try (refine G_op1 ?_; ((apply K1_ev; exact rfl; ((focus (exact E_move rfl))))))) <;> (try (refine G_op1 ?_; ((apply K1_ev; exact rfl; ((focus ((apply E_bin (op := .sub) (t := 3); exact rfl; exact rfl; exact rfl; ((focus ((apply rb_sub; (((focus ((try simp only [Int.reduceAdd]); (try simp only [Int.reduceSub]); (try simp only [Int.reduceMul]); (try simp only [Int.reduceMod]); (try simp only [Int.reduceDiv]); exact rfl)))); (((focus (refine IntWalk.i64_in _ ?_; omega)))))))))))))))) <;> (try (refine G_op1 ?_; ((apply K1_ev; exact rfl; ((focus ((apply E_bin (op := .gtr) (t := 3); exact rfl; exact rfl; exact rfl; ((focus (exact rb_gtr))))))))))) <;> (try (refine G_op1 ?_; ((apply K1_ev; exact rfl; ((focus (exact E_assign rfl))))))) <;> (try (refine G_nil ?_)))) | ((refine G_region (id := 16) ?_ <;> (try (refine G_op1 ?_; ((apply K1_ev; exact rfl; ((focus (exact E_build (t := 31) (fun (vs : List (Nat × Value)) => (match vs with | [(_, x0), (_, x1)] => [x0, x1] | _ => [] : List Value)) rfl (fun w => by kernel_rfl)))); (try simp only [Value.cells]); (try simp only [List.cons_append]); (try simp only [List.nil_append]))))) <;> (try (refine G_op1 ?_; (((apply K1_storeW (t := 31); exact rfl; exact rfl; (((focus (repeat (exact fd0))))); kernel_rfl; (((focus (exact rfl)))); (((focus (exact rfl)))); (try simp only [List.set_cons_succ]); (try simp only [List.set_cons_zero])))))) <;> (try (refine G_nil ?_)))) | ((((refine G_cond_d rfl (fun hc => ?_) (fun hc => ?_))) <;> (try subst hc))))
      all_goals
        refine G_meet () trivial (by ((focus (repeat (first | exact Sub.nil | refine Sub.cons rfl ?_ | (refine Sub.cons (congrArg some ?_) ?_; (focus go_num))))))) ?_
        rw [hcm'.out]
      · rw [if_pos (by omega)]; exact fun _ H => H
      · rw [if_neg (by omega), if_pos (by omega)]; exact fun _ H => H
      · rw [if_neg (by omega), if_neg (by omega)]; exact fun _ H => H
    · intro _ _
      simp only [List.nil_append]
      have hlen' := Lib.hid hlen
      have hck := fun (L : List Blk) (cap : Nat) => check_c (S := S) (w0 := w0) (L := ⟨true, nb, .cells #[.int .i64 (check l).1, .int .i64 (check l).2] 31 (0, 0)⟩ :: ⟨true, nbS, .cells (flat l).toArray 27 (0, 0)⟩ :: L) l hok (by rw [hlen]; unfold maxLen; omega) _ cap ((sli_lit l).up _)
      rw [hlen] at hck
      clear hlen hok hcm'
      repeat' (first | refine G_seq ?_ | refine G_then_n ?_ | refine G_ret ?_ | (((refine G_regionH (id := 17) (m := 10) (by kernel_rfl) rfl ?_) <;> (try ((apply H_take (i := 0); exact rfl; kernel_rfl; kernel_rfl; kernel_rfl; exact rfl; (((focus (intro w H; repeat (exact H))))); ((focus (apply Y_ev; (exact E_move rfl))))))) <;> (try ((apply H_take (i := 2); exact rfl; kernel_rfl; kernel_rfl; kernel_rfl; exact rfl; (((focus (intro w H; repeat (exact H))))); ((focus (apply Y_ev; ((apply E_loadA (t := 31); exact rfl; (((focus (repeat (exact fd0))))); kernel_rfl; kernel_rfl; exact sz_31; (((focus (exact Nat.le_of_ble_eq_true rfl)))); (((focus (((try simp only [List.drop_succ_cons]); (try simp only [List.drop_zero]); (try simp only [List.take_succ_cons]); (try simp only [List.take_zero]); (try simp only [List.take_nil]); exact rfl))))))))))))) <;> (try ((refine H_run (i := 1) rfl (by kernel_rfl) ?_; (((refine K1_call (F := 17) (by kernel_rfl) rfl rfl (hck _ _) ?_; rintro _ _ ⟨rfl, rfl⟩))); refine H_go ?_ ?_; (((focus (intro w H; repeat (exact H)))))))) <;> (try ((apply H_take (i := 3); exact rfl; kernel_rfl; kernel_rfl; kernel_rfl; exact rfl; (((focus (intro w H; repeat (exact H))))); ((focus (apply Y_ev; ((apply E_bin_agg (op := .eql) (t := 31); exact rfl; exact rfl; kernel_rfl; (apply rb_eql_agg Try.underlying31 (by kernel_rfl); apply EqF.int; (((focus (simp)))); exact Try.underlying3; exact rfl; exact rfl; exact rfl; exact EqF.int1 (by simp) Try.underlying29 rfl rfl rfl))))))))) <;> (try ((apply H_take (i := 4); exact rfl; kernel_rfl; kernel_rfl; kernel_rfl; exact rfl; (((focus (intro w H; repeat (exact H))))); ((focus (apply Y_ev; (exact E_move rfl))))))) <;> (try (((((refine G_again (dj := 51) rfl (fun hc => ?_) (fun hc => ?_))) <;> (try subst hc) <;> (first | ((apply H_take (i := 6); exact rfl; kernel_rfl; kernel_rfl; kernel_rfl; exact rfl; (((focus (intro w H; repeat (exact H))))); exact Y_no rfl rfl rfl)) | ((apply H_take (i := 6); exact rfl; kernel_rfl; kernel_rfl; kernel_rfl; exact rfl; (((focus (intro w H; repeat (exact H))))); ((focus (apply Y_yes; exact rfl; exact rfl; exact rfl; (exact E_build (t := 31) (fun (vs : List (Nat × Value)) => (match vs with | [(_, x0), (_, x1)] => [x0, x1] | _ => [] : List Value)) rfl (fun w => by kernel_rfl))))); (try simp only [Value.cells]); (try simp only [List.cons_append]); (try simp only [List.nil_append])))))))) <;> (try ((refine H_run (i := 5) rfl (by kernel_rfl) ?_; (first | refine K1_no rfl rfl rfl rfl ?_ | ((refine K1_yes rfl rfl rfl ?_; (((refine K1_call (F := 17) (by kernel_rfl) rfl rfl (check_c [] (by simp) (by unfold maxLen; simp) none 0 (Sli.nil _ 4)) ?_; rintro _ _ ⟨rfl, rfl⟩)))))); refine H_go ?_ ?_; (((focus (intro w H; repeat (exact H)))))))) <;> (try (((first | ((apply H_take (i := 7); exact rfl; kernel_rfl; kernel_rfl; kernel_rfl; exact rfl; (((focus (intro w H; repeat (exact H))))); exact Y_no rfl rfl rfl)) | ((apply H_take (i := 7); exact rfl; kernel_rfl; kernel_rfl; kernel_rfl; exact rfl; (((focus (intro w H; repeat (exact H))))); ((focus (apply Y_yes; exact rfl; exact rfl; exact rfl; ((apply E_bin_agg (op := .eql) (t := 31); exact rfl; exact rfl; kernel_rfl; (apply rb_eql_agg Try.underlying31 (by kernel_rfl); apply EqF.int; (((focus (simp)))); exact Try.underlying3; exact rfl; exact rfl; exact rfl; exact EqF.int1 (by simp) Try.underlying29 rfl rfl rfl)))))))))))) <;> (try ((apply H_take (i := 8); exact rfl; kernel_rfl; kernel_rfl; kernel_rfl; exact rfl; (((focus (intro w H; repeat (exact H))))); ((focus (apply Y_ev; (exact E_pick rfl rfl))))))) <;> (try ((apply H_take (i := 9); exact rfl; kernel_rfl; kernel_rfl; kernel_rfl; exact rfl; (((focus (intro w H; repeat (exact H))))); ((focus (apply Y_ev; (exact E_assign rfl))))))) <;> (try (refine H_done (by kernel_rfl) ?_)))))
      · (refine G_done Try.results3 (.tmp rfl .nil) ?_)
        exact ⟨L, ⟨rfl, rfl⟩, (by intro w H; repeat (first | exact H | replace H := H.tail | replace H := H.dropA))⟩
      · simp at hc
end Go.Proofs.Ytcimcihhpkedfaa
