/- What stands ahead of a byte: strings.Cut; pieces of a text. -/
import Derived.Test.YtmicafpfkpnalaaDoorAsm1
import Derived.Test.YtmicafpfkpnalaaDoorGj
namespace Go.Proofs.YtmicafpfkpnalaaDoor
open Go Go.RowKit
theorem ixb_none {c : UInt8} {l : List UInt8} (h : l.count c = 0) : Lib.indexByte l c = -1 := by
  induction l with
  | nil => rfl
  | cons b r ih =>
    rw [List.count_cons] at h
    have hb : (b == c) = false := by
      cases hbc : b == c
      · rfl
      · rw [hbc] at h; simp at h
    rw [Lib.indexByte, hb, ih (by omega)]; rfl
theorem sidx1_c {S w0 L} (s : ByteArray) (c : UInt8) : Fn Tryd.prog 101 #[.string s, .string ⟨#[c]⟩] S w0 L fun v L' => v = .int .i64 (Lib.indexByte (lB s) c) ∧ L = L' :=
  .mk fun w H => (stringslite_Index_one s c w).mono fun e w' ⟨he, hw⟩ => ⟨_, _, he, ⟨rfl, rfl⟩, hw ▸ H⟩
/-- what stands ahead of a byte -/
def headF (c : UInt8) (l : List UInt8) : List UInt8 := (splitC c l).headD []
theorem headF_len (c : UInt8) (l : List UInt8) : (headF c l).length ≤ l.length := by
  unfold headF
  by_cases h : l.count c = 0
  · rw [ix_none h]; exact Nat.le_refl _
  · obtain ⟨m, h1, h2, h3, h4⟩ := ix_some (c := c) (l := l) (by omega)
    rw [h3, List.headD_cons, List.length_take]; omega
set_option maxRecDepth 100000 in
theorem cut1_c {S w0 L} (s : ByteArray) (c : UInt8) (hs : s.size ≤ 1000000) : Fn Tryd.prog 44 #[.string s, .string ⟨#[c]⟩] S w0 L fun v L' => ∃ x y, v = tupleOf [.string (mB8 (headF c (lB s))), x, y] ∧ L = L' := by
  have hix := fun (L : List Blk) => sidx1_c (S := S) (w0 := w0) (L := L) s c
  have e1 : (⟨#[c]⟩ : ByteArray).size = 1 := rfl
  have main : Fn Tryd.prog 74 #[.string s, .string ⟨#[c]⟩] S w0 L fun v L' => ∃ x y, v = tupleOf [.string (mB8 (headF c (lB s))), x, y] ∧ L = L' := by
    by_cases h : (lB s).count c = 0
    · have hh : mB8 (headF c (lB s)) = s := by unfold headF; rw [ix_none h, List.headD_cons, mB8_lB]
      rw [ixb_none h] at hix
      rw [hh]
      refine Fn2 Tryd.func74 Tryd.ntmps74 rfl rfl ?_
      repeat' (first | refine G_seq ?_ | refine G_then_n ?_ | refine G_skip ?_ | refine G_ret ?_ | refine G_cond_f rfl ?_ | ((refine G_region (id := 0) ?_ <;> (try (refine G_op1 ?_; ((apply K1_ev; exact rfl; ((focus (exact E_assign rfl))))))) <;> (try (refine G_op1 ?_; ((apply K1_ev; exact rfl; ((focus (exact E_assign rfl))))))) <;> (try (refine G_op1 ?_; ((apply K1_ev; exact rfl; ((focus (exact E_assign rfl))))))) <;> (try (refine G_nil ?_)))) | ((refine G_region (id := 1) ?_ <;> (try (refine G_op1 ?_; ((apply K1_ev; exact rfl; ((focus (exact E_move rfl))))))) <;> (try (refine G_op1 ?_; ((apply K1_ev; exact rfl; ((focus (exact E_move rfl))))))) <;> (try (refine G_op1 ?_; (((refine K1_call (F := 101) (by kernel_rfl) rfl rfl (hix _) ?_; rintro _ _ ⟨rfl, rfl⟩))))) <;> (try (refine G_op1 ?_; ((apply K1_ev; exact rfl; ((focus (exact E_assign rfl))))))) <;> (try (refine G_nil ?_)))) | ((refine G_region (id := 2) ?_ <;> (try (refine G_op1 ?_; ((apply K1_ev; exact rfl; ((focus (exact E_move rfl))))))) <;> (try (refine G_op1 ?_; ((apply K1_ev; exact rfl; ((focus ((apply E_bin (op := .geq) (t := 3); exact rfl; exact rfl; exact rfl; ((focus ((refine rb_geq_f ?_; first | (with_reducible assumption) | (decide; done) | omega)))))))))))) <;> (try (refine G_nil ?_)))) | ((refine G_region (id := 4) ?_ <;> (try (refine G_op1 ?_; ((apply K1_ev; exact rfl; ((focus (exact E_move rfl))))))) <;> (try (refine G_op1 ?_; ((apply K1_ev; exact rfl; ((focus (exact E_assign rfl))))))) <;> (try (refine G_op1 ?_; ((apply K1_ev; exact rfl; ((focus (exact E_assign rfl))))))) <;> (try (refine G_op1 ?_; ((apply K1_ev; exact rfl; ((focus (exact E_assign rfl))))))) <;> (try (refine G_nil ?_)))))
      (refine G_done Tryd.results74 (.tmp rfl (.tmp rfl (.tmp rfl .nil))) ?_)
      exact ⟨_, ⟨_, _, rfl, rfl⟩, by intro w H; refine H.sub ?_; (try simp only [List.cons_append, List.nil_append]); repeat (first | exact List.Sublist.refl _ | refine List.Sublist.cons_cons _ ?_ | refine List.Sublist.cons _ ?_ | refine List.sublist_append_of_sublist_right ?_)⟩
    · obtain ⟨m, h1, h2, h3, h4⟩ := ix_some (c := c) (l := lB s) (by omega)
      rw [lB_len] at h2
      have hh : mB8 (headF c (lB s)) = s.extract 0 m := by unfold headF; rw [h3, List.headD_cons, ext_take]
      rw [h1] at hix
      rw [hh]
      clear h3 h4
      refine Fn2 Tryd.func74 Tryd.ntmps74 rfl rfl ?_
      repeat' (first | refine G_seq ?_ | refine G_then_n ?_ | refine G_then_r ?_ | refine G_ret ?_ | refine G_cond_t rfl ?_ | ((refine G_region (id := 0) ?_ <;> (try (refine G_op1 ?_; ((apply K1_ev; exact rfl; ((focus (exact E_assign rfl))))))) <;> (try (refine G_op1 ?_; ((apply K1_ev; exact rfl; ((focus (exact E_assign rfl))))))) <;> (try (refine G_op1 ?_; ((apply K1_ev; exact rfl; ((focus (exact E_assign rfl))))))) <;> (try (refine G_nil ?_)))) | ((refine G_region (id := 1) ?_ <;> (try (refine G_op1 ?_; ((apply K1_ev; exact rfl; ((focus (exact E_move rfl))))))) <;> (try (refine G_op1 ?_; ((apply K1_ev; exact rfl; ((focus (exact E_move rfl))))))) <;> (try (refine G_op1 ?_; (((refine K1_call (F := 101) (by kernel_rfl) rfl rfl (hix _) ?_; rintro _ _ ⟨rfl, rfl⟩))))) <;> (try (refine G_op1 ?_; ((apply K1_ev; exact rfl; ((focus (exact E_assign rfl))))))) <;> (try (refine G_nil ?_)))) | ((refine G_region (id := 2) ?_ <;> (try (refine G_op1 ?_; ((apply K1_ev; exact rfl; ((focus (exact E_move rfl))))))) <;> (try (refine G_op1 ?_; ((apply K1_ev; exact rfl; ((focus ((apply E_bin (op := .geq) (t := 3); exact rfl; exact rfl; exact rfl; ((focus ((refine rb_geq_t ?_; first | (with_reducible assumption) | (decide; done) | omega)))))))))))) <;> (try (refine G_nil ?_)))) | (((refine G_regionH (id := 3) (m := 12) (by kernel_rfl) rfl ?_) <;> (try ((apply H_take (i := 0); exact rfl; kernel_rfl; kernel_rfl; kernel_rfl; exact rfl; (((focus (intro w H; repeat (exact H))))); ((focus (apply Y_ev; (exact E_move rfl))))))) <;> (try ((apply H_take (i := 1); exact rfl; kernel_rfl; kernel_rfl; kernel_rfl; exact rfl; (((focus (intro w H; repeat (exact H))))); ((focus (apply Y_ev; (exact E_move rfl))))))) <;> (try ((apply H_take (i := 2); exact rfl; kernel_rfl; kernel_rfl; kernel_rfl; exact rfl; (((focus (intro w H; repeat (exact H))))); ((focus (apply Y_ev; ((apply E_slice; exact rfl; exact rfl; exact rfl; exact rfl; ((focus (apply r_sl_str Tryd.underlying9; ((focus ((apply bd_01; (focus omega); (focus omega); ((((focus ((try simp only [Int.toNat_natCast]); (try simp only [Int.reduceToNat]); (try simp only [Nat.mul_one]); (try simp only [Nat.zero_mul]); (try simp only [Nat.reduceMul]); (try simp only [Nat.zero_add]); (try simp only [Nat.add_zero]); (try simp only [Nat.reduceAdd]); (try simp only [Nat.reduceSub]); exact rfl))))))))); ((focus (exact rfl)))))))))))))) <;> (try ((apply H_take (i := 3); exact rfl; kernel_rfl; kernel_rfl; kernel_rfl; exact rfl; (((focus (intro w H; repeat (exact H))))); ((focus (apply Y_ev; (exact E_move rfl))))))) <;> (try ((apply H_take (i := 4); exact rfl; kernel_rfl; kernel_rfl; kernel_rfl; exact rfl; (((focus (intro w H; repeat (exact H))))); ((focus (apply Y_ev; (exact E_move rfl))))))) <;> (try ((apply H_take (i := 5); exact rfl; kernel_rfl; kernel_rfl; kernel_rfl; exact rfl; (((focus (intro w H; repeat (exact H))))); ((focus (apply Y_ev; (exact E_move rfl))))))) <;> (try ((apply H_take (i := 6); exact rfl; kernel_rfl; kernel_rfl; kernel_rfl; exact rfl; (((focus (intro w H; repeat (exact H))))); ((focus (apply Y_ev; (exact E_builtin rfl (fun _ => BigFrame.builtin_len ..) (r_len_string Tryd.underlying9)))))))) <;> (try ((apply H_take (i := 7); exact rfl; kernel_rfl; kernel_rfl; kernel_rfl; exact rfl; (((focus (intro w H; repeat (exact H))))); ((focus (apply Y_ev; ((apply E_bin (op := .add) (t := 3); exact rfl; exact rfl; exact rfl; ((focus ((apply rb_add; (((focus ((try simp only [Int.reduceAdd]); (try simp only [Int.reduceSub]); (try simp only [Int.reduceMul]); (try simp only [Int.reduceMod]); (try simp only [Int.reduceDiv]); exact rfl)))); (((focus (refine IntWalk.i64_in _ ?_; omega)))))))))))))))) <;> (try ((apply H_take (i := 8); exact rfl; kernel_rfl; kernel_rfl; kernel_rfl; exact rfl; (((focus (intro w H; repeat (exact H))))); ((focus (apply Y_ev; ((apply E_slice; exact rfl; exact rfl; exact rfl; exact rfl; ((focus (apply r_sl_str Tryd.underlying9; ((focus ((apply bd_10; (focus omega); (focus omega); ((((focus ((try simp only [Int.toNat_natCast]); (try simp only [Int.reduceToNat]); (try simp only [Nat.mul_one]); (try simp only [Nat.zero_mul]); (try simp only [Nat.reduceMul]); (try simp only [Nat.zero_add]); (try simp only [Nat.add_zero]); (try simp only [Nat.reduceAdd]); (try simp only [Nat.reduceSub]); exact rfl))))))))); ((focus (exact rfl)))))))))))))) <;> (try ((apply H_take (i := 9); exact rfl; kernel_rfl; kernel_rfl; kernel_rfl; exact rfl; (((focus (intro w H; repeat (exact H))))); ((focus (apply Y_ev; (exact E_assign rfl))))))) <;> (try ((apply H_take (i := 10); exact rfl; kernel_rfl; kernel_rfl; kernel_rfl; exact rfl; (((focus (intro w H; repeat (exact H))))); ((focus (apply Y_ev; (exact E_assign rfl))))))) <;> (try ((apply H_take (i := 11); exact rfl; kernel_rfl; kernel_rfl; kernel_rfl; exact rfl; (((focus (intro w H; repeat (exact H))))); ((focus (apply Y_ev; (exact E_assign rfl))))))) <;> (try (refine H_done (by kernel_rfl) ?_)))))
      (refine G_done Tryd.results74 (.tmp rfl (.tmp rfl (.tmp rfl .nil))) ?_)
      exact ⟨_, ⟨_, _, rfl, rfl⟩, by intro w H; refine H.sub ?_; (try simp only [List.cons_append, List.nil_append]); repeat (first | exact List.Sublist.refl _ | refine List.Sublist.cons_cons _ ?_ | refine List.Sublist.cons _ ?_ | refine List.sublist_append_of_sublist_right ?_)⟩
  have main := Lib.hid main
  clear hix
  refine Fn2 Tryd.func44 Tryd.ntmps44 rfl rfl ?_
  repeat' (first | refine G_seq ?_ | refine G_then_n ?_ | refine G_ret ?_ | ((refine G_region (id := 0) ?_ <;> (try (refine G_op1 ?_; ((apply K1_ev; exact rfl; ((focus (exact E_assign rfl))))))) <;> (try (refine G_op1 ?_; ((apply K1_ev; exact rfl; ((focus (exact E_assign rfl))))))) <;> (try (refine G_op1 ?_; ((apply K1_ev; exact rfl; ((focus (exact E_assign rfl))))))) <;> (try (refine G_nil ?_)))) | ((refine G_region (id := 1) ?_ <;> (try (refine G_op1 ?_; ((apply K1_ev; exact rfl; ((focus (exact E_move rfl))))))) <;> (try (refine G_op1 ?_; ((apply K1_ev; exact rfl; ((focus (exact E_move rfl))))))) <;> (try (refine G_op1 ?_; (((refine K1_call (F := 74) (by kernel_rfl) rfl rfl main.out ?_; rintro _ _ ⟨x, y, rfl, rfl⟩))))) <;> (try (refine G_op1 ?_; ((apply K1_ev; exact rfl; ((focus (exact E_extractL rfl rfl))))))) <;> (try (refine G_op1 ?_; ((apply K1_ev; exact rfl; ((focus (exact E_extractL rfl rfl))))))) <;> (try (refine G_op1 ?_; ((apply K1_ev; exact rfl; ((focus (exact E_extractL rfl rfl))))))) <;> (try (refine G_op1 ?_; ((apply K1_ev; exact rfl; ((focus (exact E_assign rfl))))))) <;> (try (refine G_op1 ?_; ((apply K1_ev; exact rfl; ((focus (exact E_assign rfl))))))) <;> (try (refine G_op1 ?_; ((apply K1_ev; exact rfl; ((focus (exact E_assign rfl))))))) <;> (try (refine G_nil ?_)))))
  (refine G_done Tryd.results44 (.tmp rfl (.tmp rfl (.tmp rfl .nil))) ?_)
  exact ⟨_, ⟨_, _, rfl, rfl⟩, by intro w H; refine H.sub ?_; (try simp only [List.cons_append, List.nil_append]); repeat (first | exact List.Sublist.refl _ | refine List.Sublist.cons_cons _ ?_ | refine List.Sublist.cons _ ?_ | refine List.sublist_append_of_sublist_right ?_)⟩
theorem strs_at' (P : List (List UInt8)) (k : Nat) (h : k < P.length) : (strs P).toArray.toList[k]? = some (.string (mB8 P[k])) := by
  show (strs P)[k]? = _
  unfold strs
  rw [List.getElem?_map, List.getElem?_eq_getElem h]; rfl
theorem rb_strne_e {P : Program} {t : TypeId} {x y : ByteArray} (h : x = y) : RBin P .neq t (.string x) (.string y) (.bool false) := by
  subst h; exact rb_strne_s
theorem splitC_le (l : List UInt8) : ∀ x ∈ splitC 10 l, x.length ≤ l.length := by
  induction l with
  | nil => intro x hx; rw [splitC, List.mem_singleton] at hx; rw [hx]; exact Nat.le_refl _
  | cons b r ih =>
    intro x hx
    rw [splitC] at hx
    have hne := splitC_ne 10 r
    split at hx
    · rcases List.mem_cons.1 hx with rfl | hx
      · exact Nat.zero_le _
      · exact Nat.le_trans (ih x hx) (Nat.le_succ _)
    · cases hsr : splitC 10 r with
      | nil => exact absurd hsr hne
      | cons y ys =>
        rw [hsr] at hx ih
        rw [List.headD_cons, List.tail_cons] at hx
        rcases List.mem_cons.1 hx with rfl | hx
        · have := ih y (List.mem_cons_self ..)
          rw [List.length_cons, List.length_cons]; omega
        · exact Nat.le_trans (ih x (List.mem_cons_of_mem _ hx)) (Nat.le_succ _)
end Go.Proofs.YtmicafpfkpnalaaDoor
