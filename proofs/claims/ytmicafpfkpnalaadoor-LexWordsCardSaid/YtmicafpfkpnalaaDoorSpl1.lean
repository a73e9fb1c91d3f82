/- strings.Split at a separator of one byte; strings.Join. -/
import Derived.Test.YtmicafpfkpnalaaDoorGl8
import Derived.Test.YtmicafpfkpnalaaDoorGb
import Derived.Test.YtmicafpfkpnalaaDoorTys
import Derived.Test.YtmicafpfkpnalaaDoorLay
import Derived.Lib.Hide
namespace Go.Proofs.YtmicafpfkpnalaaDoor
open Go Go.RowKit
/-- a text's pieces between separators -/
def splitC (c : UInt8) : List UInt8 → List (List UInt8)
  | [] => [[]]
  | b :: r => if b = c then [] :: splitC c r else (b :: (splitC c r).headD []) :: (splitC c r).tail
theorem splitC_ne (c : UInt8) (l : List UInt8) : splitC c l ≠ [] := by
  cases l with
  | nil => simp [splitC]
  | cons b r => rw [splitC]; split <;> simp
theorem splitC_len (c : UInt8) (l : List UInt8) : (splitC c l).length = l.count c + 1 := by
  induction l with
  | nil => rfl
  | cons b r ih =>
    rw [splitC, List.count_cons]
    by_cases h : b = c
    · rw [if_pos h, List.length_cons, ih]; simp [h]
    · rw [if_neg h, List.length_cons, List.length_tail, ih]; simp [h]
theorem ix_none {c : UInt8} {l : List UInt8} (h : l.count c = 0) : splitC c l = [l] := by
  induction l with
  | nil => rfl
  | cons b r ih =>
    rw [List.count_cons] at h
    have hb : b ≠ c := by intro e; simp [e] at h
    rw [splitC, if_neg hb, ih (by omega)]; rfl
theorem ix_some {c : UInt8} {l : List UInt8} (h : 0 < l.count c) : ∃ m : Nat, Lib.indexByte l c = (m : Int) ∧ m < l.length ∧ splitC c l = l.take m :: splitC c (l.drop (m + 1)) ∧ l.count c = (l.drop (m + 1)).count c + 1 := by
  induction l with
  | nil => simp at h
  | cons b r ih =>
    rw [List.count_cons] at h
    by_cases hb : b = c
    · exact ⟨0, by simp [Lib.indexByte, hb], by simp, by rw [splitC, if_pos hb]; rfl, by rw [List.count_cons]; simp [hb]⟩
    · obtain ⟨m, h1, h2, h3, h4⟩ := ih (by simpa [hb] using h)
      refine ⟨m + 1, ?_, by simp; omega, ?_, ?_⟩
      · have e1 : (b == c) = false := by simpa using hb
        have e2 : ((m : Int) == -1) = false := by rw [beq_eq_false_iff_ne]; omega
        rw [Lib.indexByte, e1, h1, e2]; rfl
      · rw [splitC, if_neg hb, h3]; rfl
      · rw [List.count_cons, h4]; simp [hb]
def lB (s : ByteArray) : List UInt8 := s.data.toList
def mB8 (l : List UInt8) : ByteArray := ⟨l.toArray⟩
theorem lB_mB8 (l : List UInt8) : lB (mB8 l) = l := rfl
theorem mB8_lB (s : ByteArray) : mB8 (lB s) = s := by cases s; rfl
theorem lB_len (s : ByteArray) : (lB s).length = s.size := by cases s; rfl
theorem ext_take (s : ByteArray) (m : Nat) : s.extract 0 m = mB8 ((lB s).take m) := by
  rw [← mB8_lB (s.extract 0 m)]
  congr 1
  show (s.extract 0 m).data.toList = _
  rw [ByteArray.data_extract, Array.toList_extract]
  simp [lB, List.extract]
theorem ext_drop (s : ByteArray) (m : Nat) : s.extract m s.size = mB8 ((lB s).drop m) := by
  rw [← mB8_lB (s.extract m s.size)]
  congr 1
  have : s.size = s.data.toList.length := by cases s; rfl
  show (s.extract m s.size).data.toList = _
  rw [ByteArray.data_extract, Array.toList_extract, this]
  simp only [lB, List.extract]
  rw [List.take_of_length_le (by rw [List.length_drop]; omega)]
/-- pieces as cells -/
def strs (l : List (List UInt8)) : List Value := l.map fun x => .string (mB8 x)
theorem strs_len (l : List (List UInt8)) : (strs l).length = l.length := List.length_map ..
theorem HP.ofBelow {S : List Nat} {w0 w w' : World} {L : List Blk} (H : HP S w0 w L) (hb : Below w.heap.size w w') : HP S w0 w' L := by
  refine ⟨hb.os.trans H.os, hb.tape.trans H.tape, hb.output.trans H.output, Nat.le_trans H.size hb.size, fun k hk hn => ?_, fun p hp => ?_, H.own, H.sep⟩
  · rw [hb.block k (Nat.lt_of_lt_of_le hk H.size)]; exact H.keep k hk hn
  · have h := H.get p hp
    have hlt : p.b < w.heap.size := by
      rcases Nat.lt_or_ge p.b w.heap.size with h1 | h1
      · exact h1
      · rw [Array.getElem?_eq_none h1] at h; cases h
    rw [hb.block _ hlt]; exact h
theorem index1_c {S w0 L} (s : ByteArray) (c : UInt8) : Fn Tryd.prog 100 #[.string s, .string ⟨#[c]⟩] S w0 L fun v L' => v = .int .i64 (Lib.indexByte (lB s) c) ∧ L = L' :=
  .mk fun w H => (strings_Index_one s c w).mono fun e w' ⟨he, hw⟩ => ⟨_, _, he, ⟨rfl, rfl⟩, hw ▸ H⟩
theorem count1_c {S w0 L} (s : ByteArray) (c : UInt8) : Fn Tryd.prog 99 #[.string s, .string ⟨#[c]⟩] S w0 L fun v L' => v = .int .i64 ((lB s).count c : Nat) ∧ L = L' :=
  .mk fun w H => (strings_Count_one s c w).mono fun e w' ⟨he, hw⟩ => ⟨_, _, he, ⟨rfl, rfl⟩, hw ▸ H⟩
structure SpI (s : ByteArray) (c : UInt8) (g : Nat × ByteArray × List (List UInt8)) : Prop where
  len : g.2.2.length = g.1
  all : g.2.2 ++ splitC c (lB g.2.1) = splitC c (lB s)
  cnt : g.1 + (lB g.2.1).count c = (lB s).count c
  le : g.2.1.size ≤ s.size
theorem strs_fill (pre : List (List UInt8)) (x : List UInt8) (n : Nat) (hn : pre.length < n) : (strs pre ++ List.replicate (n - pre.length) (Value.string ⟨#[]⟩)).set pre.length (.string (mB8 x)) = strs (pre ++ [x]) ++ List.replicate (n - (pre.length + 1)) (Value.string ⟨#[]⟩) := by
  have e : n - pre.length = (n - (pre.length + 1)) + 1 := by omega
  have hl := strs_len pre
  rw [e, List.replicate_succ, List.set_append_right _ _ (by omega), hl, Nat.sub_self, List.set_cons_zero]
  simp [strs]
set_option maxRecDepth 100000 in
set_option maxHeartbeats 2000000 in
theorem split1_c {S w0 L} (s : ByteArray) (hs : s.size ≤ 1000000) (c : UInt8) : Fn Tryd.prog 43 #[.string s, .string ⟨#[c]⟩] S w0 L fun v L' => ∃ nb, v = .slice (some ⟨nb, 0, none⟩) (splitC c (lB s)).length (splitC c (lB s)).length ∧ ⟨true, nb, .cells (strs (splitC c (lB s))).toArray 9 (0, 0)⟩ :: L = L' := by
  have hgs : Fn Tryd.prog 73 #[.string s, .string ⟨#[c]⟩, .int .i64 0, .int .i64 (-1)] S w0 L fun v L' => ∃ nb, v = .slice (some ⟨nb, 0, none⟩) (splitC c (lB s)).length (splitC c (lB s)).length ∧ ⟨true, nb, .cells (strs (splitC c (lB s))).toArray 9 (0, 0)⟩ :: L = L' := by
    have hcs : (lB s).count c ≤ s.size := by rw [← lB_len]; exact List.count_le_length
    have hsl := splitC_len c (lB s)
    have hne : ¬ ((⟨#[c]⟩ : ByteArray) = ⟨#[]⟩) := by intro h; simp at h
    have hsz : (⟨#[c]⟩ : ByteArray).size = 1 := rfl
    refine Fn4 Tryd.func73 Tryd.ntmps73 rfl rfl ?_
    repeat' (first | ((refine G_markr (id := 8) ?_)) | refine G_seq ?_ | refine G_then_n ?_ | refine G_skip ?_ | refine G_cond_t rfl ?_ | refine G_cond_f rfl ?_ | ((refine G_region (id := 0) ?_ <;> (try (refine G_op1 ?_; ((apply K1_ev; exact rfl; ((focus (exact E_assign rfl))))))) <;> (try (refine G_nil ?_)))) | ((refine G_region (id := 1) ?_ <;> (try (refine G_op1 ?_; ((apply K1_ev; exact rfl; ((focus (exact E_move rfl))))))) <;> (try (refine G_op1 ?_; ((apply K1_ev; exact rfl; ((focus ((apply E_bin (op := .eql) (t := 3); exact rfl; exact rfl; exact rfl; ((focus ((refine rb_eql_f ?_; first | (with_reducible assumption) | (decide; done) | omega)))))))))))) <;> (try (refine G_nil ?_)))) | ((refine G_region (id := 3) ?_ <;> (try (refine G_op1 ?_; ((apply K1_ev; exact rfl; ((focus (exact E_move rfl))))))) <;> (try (refine G_op1 ?_; ((apply K1_ev; exact rfl; ((focus ((apply E_bin (op := .eql) (t := 9); exact rfl; exact rfl; exact rfl; ((focus (exact rb_streq))))))))))) <;> (try (refine G_nil ?_)))) | ((refine G_region (id := 5) ?_ <;> (try (refine G_op1 ?_; ((apply K1_ev; exact rfl; ((focus (exact E_move rfl))))))) <;> (try (refine G_op1 ?_; ((apply K1_ev; exact rfl; ((focus ((apply E_bin (op := .lss) (t := 3); exact rfl; exact rfl; exact rfl; ((focus ((refine rb_lss_t ?_; first | (with_reducible assumption) | (decide; done) | omega)))))))))))) <;> (try (refine G_nil ?_)))) | ((refine G_region (id := 6) ?_ <;> (try (refine G_op1 ?_; ((apply K1_ev; exact rfl; ((focus (exact E_move rfl))))))) <;> (try (refine G_op1 ?_; ((apply K1_ev; exact rfl; ((focus (exact E_move rfl))))))) <;> (try (refine G_op1 ?_; (((refine K1_call (F := 99) (by kernel_rfl) rfl rfl (count1_c _ _) ?_; rintro _ _ ⟨rfl, rfl⟩))))) <;> (try (refine G_op1 ?_; ((apply K1_ev; exact rfl; ((focus ((apply E_bin (op := .add) (t := 3); exact rfl; exact rfl; exact rfl; ((focus ((apply rb_add; (((focus ((try simp only [Int.reduceAdd]); (try simp only [Int.reduceSub]); (try simp only [Int.reduceMul]); (try simp only [Int.reduceMod]); (try simp only [Int.reduceDiv]); exact rfl)))); (((focus (refine IntWalk.i64_in _ ?_; omega)))))))))))))))) <;> (try (refine G_op1 ?_; ((apply K1_ev; exact rfl; ((focus (exact E_assign rfl))))))) <;> (try (refine G_nil ?_)))) | ((refine G_region (id := 7) ?_ <;> (try (refine G_op1 ?_; ((apply K1_ev; exact rfl; ((focus (exact E_move rfl))))))) <;> (try (refine G_op1 ?_; ((apply K1_ev; exact rfl; ((focus (exact E_move rfl))))))) <;> (try (refine G_op1 ?_; ((apply K1_ev; exact rfl; ((focus (exact E_builtin rfl (fun _ => BigFrame.builtin_len ..) (r_len_string Tryd.underlying9)))))))) <;> (try (refine G_op1 ?_; ((apply K1_ev; exact rfl; ((focus ((apply E_bin (op := .add) (t := 3); exact rfl; exact rfl; exact rfl; ((focus ((apply rb_add; (((focus ((try simp only [Int.reduceAdd]); (try simp only [Int.reduceSub]); (try simp only [Int.reduceMul]); (try simp only [Int.reduceMod]); (try simp only [Int.reduceDiv]); exact rfl)))); (((focus (refine IntWalk.i64_in _ ?_; omega)))))))))))))))) <;> (try (refine G_op1 ?_; ((apply K1_ev; exact rfl; ((focus (exact E_builtin rfl (fun _ => BigFrame.builtin_min ..) r_min))))))) <;> (try (refine G_op1 ?_; ((apply K1_ev; exact rfl; ((focus (exact E_assign rfl))))))) <;> (try (refine G_nil ?_)))))
    refine ⟨?_⟩
    have hmn : min (((lB s).count c : Nat) + 1 : Int) ((s.size : Int) + 1) = (((lB s).count c + 1 : Nat) : Int) := by omega
    simp only [hmn]
    repeat' (first | ((refine G_markb (id := 0) ?_)) | refine G_seq ?_ | refine G_then_n ?_ | ((refine G_region (id := 8) ?_ <;> (try (refine G_op1 ?_; ((apply K1_ev; exact rfl; ((focus (exact E_move rfl))))))) <;> (try (refine G_op1 ?_; ((refine K1_makeSlice (t := 55) rfl rfl rfl Tryd.underlying55 inf_9_i inf_9_z inf_9_s inf_9_b rfl ?_ ?_ ?_; (focus omega); (focus omega); intro nb hnb)))) <;> (try (refine G_op1 ?_; ((apply K1_ev; exact rfl; ((focus (exact E_assign rfl))))))) <;> (try (refine G_nil ?_)))) | ((refine G_region (id := 9) ?_ <;> (try (refine G_op1 ?_; ((apply K1_ev; exact rfl; ((focus (exact E_move rfl))))))) <;> (try (refine G_op1 ?_; ((apply K1_ev; exact rfl; ((focus ((apply E_bin (op := .sub) (t := 3); exact rfl; exact rfl; exact rfl; ((focus ((apply rb_sub; (((focus ((try simp only [Int.reduceAdd]); (try simp only [Int.reduceSub]); (try simp only [Int.reduceMul]); (try simp only [Int.reduceMod]); (try simp only [Int.reduceDiv]); exact rfl)))); (((focus (refine IntWalk.i64_in _ ?_; omega)))))))))))))))) <;> (try (refine G_op1 ?_; ((apply K1_ev; exact rfl; ((focus (exact E_assign rfl))))))) <;> (try (refine G_nil ?_)))) | ((refine G_region (id := 10) ?_ <;> (try (refine G_op1 ?_; ((apply K1_ev; exact rfl; ((focus (exact E_assign rfl))))))) <;> (try (refine G_nil ?_)))))
    refine ⟨?_⟩
    have hm1 : (((lB s).count c + 1 : Nat) : Int) - 1 = ((lB s).count c : Nat) := by omega
    simp only [hm1]
    refine G_block ?_
    refine G_loopk (γ := Nat × ByteArray × List (List UInt8)) (SpI s c) (fun g => (lB s).count c - g.1) (fun g => [(0, .string g.2.1), (10, .int .i64 (g.1 : Nat))]) [(1, _), (2, _), (3, _), (9, _)]
      (fun g => ⟨true, nb, .cells (strs g.2.2 ++ List.replicate ((lB s).count c + 1 - g.1) (Value.string ⟨#[]⟩)).toArray 9 (0, 0)⟩ :: L)
      (0, s, []) (.cons rfl (.cons rfl (.cons rfl (.cons rfl .nil)))) ⟨rfl, rfl, by simp, Nat.le_refl _⟩ (by ((focus (repeat (first | exact Sub.nil | refine Sub.cons rfl ?_ | (refine Sub.cons (congrArg some ?_) ?_; (focus go_num))))))) (fun _ H => H) ?_
    rintro ⟨i, r, pre⟩ ⟨hl, ha, hc, hr⟩
    dsimp only at hl ha hc hr ⊢
    by_cases hlt : i < (lB s).count c
    · obtain ⟨m, hx1, hx2, hx3, hx4⟩ := ix_some (c := c) (l := lB r) (by omega)
      have hixc := fun (L : List Blk) => index1_c (S := S) (w0 := w0) (L := L) r c
      rw [hx1] at hixc
      have hrl := lB_len r
      have hcl : (strs pre ++ List.replicate ((lB s).count c + 1 - i) (Value.string ⟨#[]⟩)).length = (lB s).count c + 1 := by rw [List.length_append, strs_len, List.length_replicate, hl]; omega
      have hcl2 : i < (strs pre ++ List.replicate ((lB s).count c + 1 - i) (Value.string ⟨#[]⟩)).toArray.size := by rw [List.size_toArray, hcl]; omega
      repeat' (first | refine G_seq ?_ | refine G_then_n ?_ | refine G_cut_n ?_ | refine G_blk_n ?_ | refine G_block ?_ | refine G_skip ?_ | refine G_cond_t rfl ?_ | refine G_cond_f rfl ?_ | ((refine G_region (id := 11) ?_ <;> (try (refine G_op1 ?_; ((apply K1_ev; exact rfl; ((focus (exact E_move rfl))))))) <;> (try (refine G_op1 ?_; ((apply K1_ev; exact rfl; ((focus (exact E_move rfl))))))) <;> (try (refine G_op1 ?_; ((apply K1_ev; exact rfl; ((focus ((apply E_bin (op := .lss) (t := 3); exact rfl; exact rfl; exact rfl; ((focus ((refine rb_lss_t ?_; first | (with_reducible assumption) | (decide; done) | omega)))))))))))) <;> (try (refine G_nil ?_)))) | ((refine G_region (id := 12) ?_ <;> (try (refine G_op1 ?_; ((apply K1_ev; exact rfl; ((focus (exact E_move rfl))))))) <;> (try (refine G_op1 ?_; ((apply K1_ev; exact rfl; ((focus (exact E_move rfl))))))) <;> (try (refine G_op1 ?_; (((refine K1_call (F := 100) (by kernel_rfl) rfl rfl (hixc _) ?_; rintro _ _ ⟨rfl, rfl⟩))))) <;> (try (refine G_op1 ?_; ((apply K1_ev; exact rfl; ((focus (exact E_assign rfl))))))) <;> (try (refine G_nil ?_)))) | ((refine G_region (id := 13) ?_ <;> (try (refine G_op1 ?_; ((apply K1_ev; exact rfl; ((focus (exact E_move rfl))))))) <;> (try (refine G_op1 ?_; ((apply K1_ev; exact rfl; ((focus ((apply E_bin (op := .lss) (t := 3); exact rfl; exact rfl; exact rfl; ((focus ((refine rb_lss_f ?_; first | (with_reducible assumption) | (decide; done) | omega)))))))))))) <;> (try (refine G_nil ?_)))) | ((refine G_region (id := 14) ?_ <;> (try (refine G_op1 ?_; ((apply K1_ev; exact rfl; ((focus (exact E_move rfl))))))) <;> (try (refine G_op1 ?_; ((apply K1_ev; exact rfl; ((focus (exact E_move rfl))))))) <;> (try (refine G_op1 ?_; ((apply K1_ev; exact rfl; ((focus (exact E_move rfl))))))) <;> (try (refine G_op1 ?_; ((apply K1_ev; exact rfl; ((focus (exact E_move rfl))))))) <;> (try (refine G_op1 ?_; ((apply K1_ev; exact rfl; ((focus (exact E_move rfl))))))) <;> (try (refine G_op1 ?_; ((apply K1_ev; exact rfl; ((focus ((apply E_bin (op := .add) (t := 3); exact rfl; exact rfl; exact rfl; ((focus ((apply rb_add; (((focus ((try simp only [Int.reduceAdd]); (try simp only [Int.reduceSub]); (try simp only [Int.reduceMul]); (try simp only [Int.reduceMod]); (try simp only [Int.reduceDiv]); exact rfl)))); (((focus (refine IntWalk.i64_in _ ?_; omega)))))))))))))))) <;> (try (refine G_op1 ?_; ((apply K1_ev; exact rfl; ((focus ((apply E_slice; exact rfl; exact rfl; exact rfl; exact rfl; ((focus (apply r_sl_str Tryd.underlying9; ((focus ((apply bd_01; (focus omega); (focus omega); ((((focus ((try simp only [Int.toNat_natCast]); (try simp only [Int.reduceToNat]); (try simp only [Nat.mul_one]); (try simp only [Nat.zero_mul]); (try simp only [Nat.reduceMul]); (try simp only [Nat.zero_add]); (try simp only [Nat.add_zero]); (try simp only [Nat.reduceAdd]); (try simp only [Nat.reduceSub]); exact rfl))))))))); ((focus (exact rfl)))))))))))))) <;> (try (refine G_op1 ?_; ((apply K1_ev; exact rfl; ((focus ((apply E_indexAddr; exact rfl; exact rfl; ((focus (apply r_ixs Tryd.underlying55 sz_9; (focus omega); (focus omega); ((focus ((try simp only [Int.toNat_natCast]); (try simp only [Int.reduceToNat]); (try simp only [Nat.mul_one]); (try simp only [Nat.zero_mul]); (try simp only [Nat.reduceMul]); (try simp only [Nat.zero_add]); (try simp only [Nat.add_zero]); (try simp only [Nat.reduceAdd]); exact rfl)))))))))))))) <;> (try (refine G_op1 ?_; ((apply K1_store1 (t := 9); exact rfl; exact rfl; (((focus (repeat (exact fd0))))); exact rfl; exact rfl; kernel_rfl; (((focus (omega)))); ((focus ((try simp only [List.set_cons_succ]); (try simp only [List.set_cons_zero]); exact rfl))); (try simp only [List.set_cons_succ]); (try simp only [List.set_cons_zero]))))) <;> (try (refine G_nil ?_)))) | ((refine G_region (id := 15) ?_ <;> (try (refine G_op1 ?_; ((apply K1_ev; exact rfl; ((focus (exact E_move rfl))))))) <;> (try (refine G_op1 ?_; ((apply K1_ev; exact rfl; ((focus (exact E_move rfl))))))) <;> (try (refine G_op1 ?_; ((apply K1_ev; exact rfl; ((focus (exact E_move rfl))))))) <;> (try (refine G_op1 ?_; ((apply K1_ev; exact rfl; ((focus (exact E_builtin rfl (fun _ => BigFrame.builtin_len ..) (r_len_string Tryd.underlying9)))))))) <;> (try (refine G_op1 ?_; ((apply K1_ev; exact rfl; ((focus ((apply E_bin (op := .add) (t := 3); exact rfl; exact rfl; exact rfl; ((focus ((apply rb_add; (((focus ((try simp only [Int.reduceAdd]); (try simp only [Int.reduceSub]); (try simp only [Int.reduceMul]); (try simp only [Int.reduceMod]); (try simp only [Int.reduceDiv]); exact rfl)))); (((focus (refine IntWalk.i64_in _ ?_; omega)))))))))))))))) <;> (try (refine G_op1 ?_; ((apply K1_ev; exact rfl; ((focus ((apply E_slice; exact rfl; exact rfl; exact rfl; exact rfl; ((focus (apply r_sl_str Tryd.underlying9; ((focus ((apply bd_10; (focus omega); (focus omega); ((((focus ((try simp only [Int.toNat_natCast]); (try simp only [Int.reduceToNat]); (try simp only [Nat.mul_one]); (try simp only [Nat.zero_mul]); (try simp only [Nat.reduceMul]); (try simp only [Nat.zero_add]); (try simp only [Nat.add_zero]); (try simp only [Nat.reduceAdd]); (try simp only [Nat.reduceSub]); exact rfl))))))))); ((focus (exact rfl)))))))))))))) <;> (try (refine G_op1 ?_; ((apply K1_ev; exact rfl; ((focus (exact E_assign rfl))))))) <;> (try (refine G_nil ?_)))) | ((refine G_region (id := 16) ?_ <;> (try (refine G_op1 ?_; ((apply K1_ev; exact rfl; ((focus (exact E_move rfl))))))) <;> (try (refine G_op1 ?_; ((apply K1_ev; exact rfl; ((focus ((apply E_bin (op := .add) (t := 3); exact rfl; exact rfl; exact rfl; ((focus ((apply rb_add; (((focus ((try simp only [Int.reduceAdd]); (try simp only [Int.reduceSub]); (try simp only [Int.reduceMul]); (try simp only [Int.reduceMod]); (try simp only [Int.reduceDiv]); exact rfl)))); (((focus (refine IntWalk.i64_in _ ?_; omega)))))))))))))))) <;> (try (refine G_op1 ?_; ((apply K1_ev; exact rfl; ((focus (exact E_assign rfl))))))) <;> (try (refine G_nil ?_)))))
      have e1 : r.extract ((m : Int) + ((⟨#[c]⟩ : ByteArray).size : Nat)).toNat r.size = mB8 ((lB r).drop (m + 1)) := by
        rw [hsz, show ((m : Int) + ((1 : Nat) : Int)).toNat = m + 1 by omega]; exact ext_drop _ _
      have e2 : r.extract 0 ((m : Int) + 0).toNat = mB8 ((lB r).take m) := by rw [Int.add_zero, Int.toNat_natCast]; exact ext_take _ _
      simp only [e1, e2]
      refine G_meet (i + 1, mB8 ((lB r).drop (m + 1)), pre ++ [(lB r).take m]) ⟨⟨by simp [hl], ?_, ?_, ?_⟩, by dsimp only; omega⟩ (by ((focus (repeat (first | exact Sub.nil | refine Sub.cons rfl ?_ | (refine Sub.cons (congrArg some ?_) ?_; (focus go_num))))))) ?_
      · show (pre ++ [(lB r).take m]) ++ splitC c ((lB r).drop (m + 1)) = _
        rw [List.append_assoc, List.singleton_append, ← hx3]; exact ha
      · show i + 1 + ((lB r).drop (m + 1)).count c = _
        omega
      · show (mB8 ((lB r).drop (m + 1))).size ≤ s.size
        rw [← lB_len, lB_mB8, List.length_drop]; omega
      · have hf := strs_fill pre ((lB r).take m) ((lB s).count c + 1) (by omega)
        rw [hl] at hf
        intro w H
        rw [← hf]; exact H
    · obtain rfl : i = (lB s).count c := by omega
      have h0 : (lB r).count c = 0 := by omega
      rw [ix_none h0] at ha
      have hcl : (strs pre ++ List.replicate ((lB s).count c + 1 - (lB s).count c) (Value.string ⟨#[]⟩)).length = (lB s).count c + 1 := by rw [List.length_append, strs_len, List.length_replicate, hl]; omega
      have hcl2 : (lB s).count c < (strs pre ++ List.replicate ((lB s).count c + 1 - (lB s).count c) (Value.string ⟨#[]⟩)).toArray.size := by rw [List.size_toArray, hcl]; omega
      repeat' (first | refine G_seq ?_ | refine G_then_n ?_ | refine G_cut_x ?_ | refine G_then_x ?_ | refine G_blk_x ?_ | refine G_exit ?_ | refine G_ret ?_ | refine G_cond_f rfl ?_ | ((refine G_region (id := 11) ?_ <;> (try (refine G_op1 ?_; ((apply K1_ev; exact rfl; ((focus (exact E_move rfl))))))) <;> (try (refine G_op1 ?_; ((apply K1_ev; exact rfl; ((focus (exact E_move rfl))))))) <;> (try (refine G_op1 ?_; ((apply K1_ev; exact rfl; ((focus ((apply E_bin (op := .lss) (t := 3); exact rfl; exact rfl; exact rfl; ((focus ((refine rb_lss_f ?_; first | (with_reducible assumption) | (decide; done) | omega)))))))))))) <;> (try (refine G_nil ?_)))) | ((refine G_region (id := 17) ?_ <;> (try (refine G_op1 ?_; ((apply K1_ev; exact rfl; ((focus (exact E_move rfl))))))) <;> (try (refine G_op1 ?_; ((apply K1_ev; exact rfl; ((focus (exact E_move rfl))))))) <;> (try (refine G_op1 ?_; ((apply K1_ev; exact rfl; ((focus (exact E_move rfl))))))) <;> (try (refine G_op1 ?_; ((apply K1_ev; exact rfl; ((focus ((apply E_indexAddr; exact rfl; exact rfl; ((focus (apply r_ixs Tryd.underlying55 sz_9; (focus omega); (focus omega); ((focus ((try simp only [Int.toNat_natCast]); (try simp only [Int.reduceToNat]); (try simp only [Nat.mul_one]); (try simp only [Nat.zero_mul]); (try simp only [Nat.reduceMul]); (try simp only [Nat.zero_add]); (try simp only [Nat.add_zero]); (try simp only [Nat.reduceAdd]); exact rfl)))))))))))))) <;> (try (refine G_op1 ?_; ((apply K1_store1 (t := 9); exact rfl; exact rfl; (((focus (repeat (exact fd0))))); exact rfl; exact rfl; kernel_rfl; (((focus (omega)))); ((focus ((try simp only [List.set_cons_succ]); (try simp only [List.set_cons_zero]); exact rfl))); (try simp only [List.set_cons_succ]); (try simp only [List.set_cons_zero]))))) <;> (try (refine G_nil ?_)))) | ((refine G_region (id := 18) ?_ <;> (try (refine G_op1 ?_; ((apply K1_ev; exact rfl; ((focus (exact E_move rfl))))))) <;> (try (refine G_op1 ?_; ((apply K1_ev; exact rfl; ((focus (exact E_move rfl))))))) <;> (try (refine G_op1 ?_; ((apply K1_ev; exact rfl; ((focus ((apply E_bin (op := .add) (t := 3); exact rfl; exact rfl; exact rfl; ((focus ((apply rb_add; (((focus ((try simp only [Int.reduceAdd]); (try simp only [Int.reduceSub]); (try simp only [Int.reduceMul]); (try simp only [Int.reduceMod]); (try simp only [Int.reduceDiv]); exact rfl)))); (((focus (refine IntWalk.i64_in _ ?_; omega)))))))))))))))) <;> (try (refine G_op1 ?_; ((apply K1_ev; exact rfl; ((focus ((apply E_slice; exact rfl; exact rfl; exact rfl; exact rfl; ((focus ((apply r_sl_s01 Tryd.underlying55 sz_9 <;> (first | omega | (((((focus ((try simp only [Int.toNat_natCast]); (try simp only [Int.reduceToNat]); (try simp only [Nat.mul_one]); (try simp only [Nat.zero_mul]); (try simp only [Nat.reduceMul]); (try simp only [Nat.zero_add]); (try simp only [Nat.add_zero]); (try simp only [Nat.reduceAdd]); (try simp only [Nat.reduceSub]); exact rfl))))))))))))))))))) <;> (try (refine G_op1 ?_; ((apply K1_ev; exact rfl; ((focus (exact E_assign rfl))))))) <;> (try (refine G_nil ?_)))))
      (refine G_done Tryd.results73 (.tmp rfl .nil) ?_)
      refine ⟨_, ⟨nb, by rw [hsl]; rfl, rfl⟩, ?_⟩
      have hf := strs_fill pre (lB r) ((lB s).count c + 1) (by omega)
      rw [hl, ha, Nat.sub_self, List.replicate_zero, List.append_nil, mB8_lB] at hf
      intro w H
      rw [← hf]; exact H
  refine Fn2 Tryd.func43 Tryd.ntmps43 rfl rfl ?_
  repeat' (first | refine G_seq ?_ | refine G_then_n ?_ | refine G_ret ?_ | ((refine G_region (id := 0) ?_ <;> (try (refine G_op1 ?_; ((apply K1_ev; exact rfl; ((focus (exact E_assign rfl))))))) <;> (try (refine G_nil ?_)))) | ((refine G_region (id := 1) ?_ <;> (try (refine G_op1 ?_; ((apply K1_ev; exact rfl; ((focus (exact E_move rfl))))))) <;> (try (refine G_op1 ?_; ((apply K1_ev; exact rfl; ((focus (exact E_move rfl))))))) <;> (try (refine G_op1 ?_; (((refine K1_call (F := 73) (by kernel_rfl) rfl rfl hgs ?_; rintro _ _ ⟨nb, rfl, rfl⟩))))) <;> (try (refine G_op1 ?_; ((apply K1_ev; exact rfl; ((focus (exact E_assign rfl))))))) <;> (try (refine G_nil ?_)))))
  (refine G_done Tryd.results43 (.tmp rfl .nil) ?_)
  exact ⟨_, ⟨_, rfl, rfl⟩, by intro w H; refine H.sub ?_; (try simp only [List.cons_append, List.nil_append]); repeat (first | exact List.Sublist.refl _ | refine List.Sublist.cons_cons _ ?_ | refine List.Sublist.cons _ ?_ | refine List.sublist_append_of_sublist_right ?_)⟩
end Go.Proofs.YtmicafpfkpnalaaDoor
