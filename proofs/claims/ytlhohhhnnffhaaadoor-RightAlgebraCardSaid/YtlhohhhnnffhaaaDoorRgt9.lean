/- Counts of rights, what both have, what either has; RightAlgebra, walked. -/
import Derived.Test.YtlhohhhnnffhaaaDoorRgt8
namespace Go.Proofs.YtlhohhhnnffhaaaDoor
open Go Go.RowKit
theorem hasF_iff (n m : Nat) : hasF n m = true ↔ ∀ j, m.testBit j = true → n.testBit j = true := by
  unfold hasF
  have e : iandn (m : Int) (n : Int) = ((m ^^^ (m &&& n) : Nat) : Int) := rfl
  rw [e, decide_eq_true_iff]
  have hz : ((m ^^^ (m &&& n) : Nat) : Int) = 0 ↔ m ^^^ (m &&& n) = 0 := by omega
  rw [hz]
  constructor
  · intro h j hj
    have := congrArg (fun x => x.testBit j) h
    simp only [Nat.testBit_xor, Nat.testBit_and, hj, Nat.zero_testBit] at this
    cases hn : n.testBit j
    · rw [hn] at this; cases this
    · rfl
  · intro h
    apply Nat.eq_of_testBit_eq
    intro j
    rw [Nat.testBit_xor, Nat.testBit_and, Nat.zero_testBit]
    cases hm : m.testBit j
    · rfl
    · rw [h j hm]; rfl
theorem bits16 (n : Nat) : (bitsL n).length = ((List.range 8).filter (n / 256).testBit).length + ((List.range 8).filter (n % 256).testBit).length := by
  have e : List.range 16 = List.range 8 ++ (List.range 8).map (· + 8) := by decide
  unfold bitsL
  rw [e, List.filter_append, List.length_append, List.filter_map, List.length_map, Nat.add_comm]
  congr 1
  · congr 1
    apply List.filter_congr
    intro j _
    show n.testBit (j + 8) = (n / 256).testBit j
    rw [show 256 = 2 ^ 8 from rfl, Nat.testBit_div_two_pow, Nat.add_comm]
  · congr 1
    apply List.filter_congr
    intro j hj
    rw [show 256 = 2 ^ 8 from rfl, Nat.testBit_mod_two_pow, decide_eq_true (List.mem_range.1 hj), Bool.true_and]
set_option maxRecDepth 100000 in
theorem count_c {S w0 L} (n : Nat) (hn : n < 65536) : Fn Tryd.prog 18 #[.int .u16 (n : Int)] S w0 L fun v L' => v = .int .i64 ((bitsL n).length : Nat) ∧ L = L' := by
  have hc := fun (L : List Blk) => cnt16_c (S := S) (w0 := w0) (L := L) n hn
  simp only [← bits16] at hc
  refine Fn1 Tryd.func18 Tryd.ntmps18 rfl rfl ?_
  repeat' (first | refine G_seq ?_ | refine G_then_n ?_ | refine G_ret ?_ | ((refine G_region (id := 0) ?_ <;> (try (refine G_op1 ?_; ((apply K1_ev; exact rfl; ((focus (exact E_assign rfl))))))) <;> (try (refine G_nil ?_)))) | ((refine G_region (id := 1) ?_ <;> (try (refine G_op1 ?_; ((apply K1_ev; exact rfl; ((focus (exact E_move rfl))))))) <;> (try (refine G_op1 ?_; (((refine K1_call (F := 32) (by kernel_rfl) rfl rfl (hc _) ?_; rintro _ _ ⟨rfl, rfl⟩))))) <;> (try (refine G_op1 ?_; ((apply K1_ev; exact rfl; ((focus (exact E_assign rfl))))))) <;> (try (refine G_nil ?_)))))
  (refine G_done Tryd.results18 (.tmp rfl .nil) ?_)
  exact ⟨_, ⟨rfl, rfl⟩, by intro w H; refine H.sub ?_; (try simp only [List.cons_append, List.nil_append]); repeat (first | exact List.Sublist.refl _ | refine List.Sublist.cons_cons _ ?_ | refine List.Sublist.cons _ ?_ | refine List.sublist_append_of_sublist_right ?_)⟩
theorem count_both (p q : Nat → Bool) (l : List Nat) : (l.filter p).length + (l.filter q).length = (l.filter fun j => p j && q j).length + (l.filter fun j => p j || q j).length := by
  induction l with
  | nil => rfl
  | cons x r ih =>
    cases hp : p x <;> cases hq : q x <;> simp [hp, hq, List.filter_cons] <;> omega
theorem bits_both (a b : Nat) : (bitsL a).length + (bitsL b).length = (bitsL (a &&& b)).length + (bitsL (a ||| b)).length := by
  unfold bitsL
  rw [count_both]
  congr 1
  · congr 1; apply List.filter_congr; intro j _; rw [Nat.testBit_and]
  · congr 1; apply List.filter_congr; intro j _; rw [Nat.testBit_or]
theorem bits_le (n : Nat) : (bitsL n).length ≤ 16 := by
  have := List.length_filter_le n.testBit (List.range 16)
  rwa [List.length_range] at this
theorem has_both (a b c : Nat) : hasF a (a &&& b) = true ∧ hasF b (a &&& b) = true ∧ hasF (a ||| b) a = true ∧ hasF (a ||| b) b = true ∧ (hasF a b = true → hasF b c = true → hasF a c = true) := by
  refine ⟨(hasF_iff _ _).2 fun j h => ?_, (hasF_iff _ _).2 fun j h => ?_, (hasF_iff _ _).2 fun j h => ?_, (hasF_iff _ _).2 fun j h => ?_, fun h1 h2 => (hasF_iff _ _).2 fun j h => (hasF_iff _ _).1 h1 j ((hasF_iff _ _).1 h2 j h)⟩
  · rw [Nat.testBit_and, Bool.and_eq_true] at h; exact h.1
  · rw [Nat.testBit_and, Bool.and_eq_true] at h; exact h.2
  · rw [Nat.testBit_or, h]; rfl
  · rw [Nat.testBit_or, h, Bool.or_true]
theorem bits_known (n : Nat) : bitsL (n &&& 51199) = tixs n := by
  unfold bitsL tixs ixs
  rw [List.filter_filter]
  apply List.filter_congr
  intro j hj
  rw [Nat.testBit_and]
  congr 1
  have : ∀ k : Fin 16, (51199 : Nat).testBit k.val = nmd k.val := by decide +kernel
  exact this ⟨j, List.mem_range.1 hj⟩
theorem text_one : ∀ i ∈ ixs, textF (2 ^ i) = wd i := by decide +kernel
theorem setV_at (X : List Nat) (k : Nat) (h : k < X.length) : (setV X)[k]? = some (.int .u16 ((2 ^ X[k] : Nat) : Int)) := by
  unfold setV
  rw [List.getElem?_map, List.getElem?_eq_getElem h]; rfl
set_option maxRecDepth 100000 in
set_option maxHeartbeats 4000000 in
theorem rightAlgebra_c {S w0 L} (a b c : Nat) (ha : a < 65536) (hb : b < 65536) (hc : c < 65536) : Fn Tryd.prog 6 #[.int .u16 (a : Int), .int .u16 (b : Int), .int .u16 (c : Int)] S w0 L fun v L' => v = .bool true ∧ L = L' := by
  have hx1 : a &&& b < 65536 := Nat.lt_of_le_of_lt Nat.and_le_left ha
  have hx2 : a ||| b < 65536 := Nat.or_lt_two_pow (n := 16) ha hb
  have hx3 : a &&& 51199 < 65536 := Nat.lt_of_le_of_lt Nat.and_le_left ha
  have e1 : ((a &&& b : Nat) : Int) = iand (a : Int) (b : Int) := rfl
  have e2 : ((a ||| b : Nat) : Int) = ior (a : Int) (b : Int) := rfl
  have e3 : ((a &&& 51199 : Nat) : Int) = iand (a : Int) 51199 := rfl
  obtain ⟨p1, p2, p3, p4, p5⟩ := has_both a b c
  have h1 := fun (L : List Blk) => has_c (S := S) (w0 := w0) (L := L) a (a &&& b) ha hx1
  have h2 := fun (L : List Blk) => has_c (S := S) (w0 := w0) (L := L) b (a &&& b) hb hx1
  have h3 := fun (L : List Blk) => has_c (S := S) (w0 := w0) (L := L) (a ||| b) a hx2 ha
  have h4 := fun (L : List Blk) => has_c (S := S) (w0 := w0) (L := L) (a ||| b) b hx2 hb
  have h5 := fun (L : List Blk) => has_c (S := S) (w0 := w0) (L := L) a b ha hb
  have h6 := fun (L : List Blk) => has_c (S := S) (w0 := w0) (L := L) b c hb hc
  have h7 := fun (L : List Blk) => has_c (S := S) (w0 := w0) (L := L) a c ha hc
  have c1 := fun (L : List Blk) => count_c (S := S) (w0 := w0) (L := L) a ha
  have c2 := fun (L : List Blk) => count_c (S := S) (w0 := w0) (L := L) b hb
  have c3 := fun (L : List Blk) => count_c (S := S) (w0 := w0) (L := L) (a &&& b) hx1
  have c4 := fun (L : List Blk) => count_c (S := S) (w0 := w0) (L := L) (a ||| b) hx2
  have hea := fun (L : List Blk) => each_c (S := S) (w0 := w0) (L := L) (a &&& 51199) hx3
  rw [bits_known] at hea
  simp only [p1, e1] at h1
  simp only [p2, e1] at h2
  simp only [p3, e2] at h3
  simp only [p4, e2] at h4
  simp only [e1] at c3
  simp only [e2] at c4
  simp only [e3] at hea
  have hbb := bits_both a b
  have l1 := bits_le a
  have l2 := bits_le b
  have l3 := bits_le (a &&& b)
  have l4 := bits_le (a ||| b)
  have htx := fun (L : List Blk) => text_c (S := S) (w0 := w0) (L := L) a ha
  have hT : textF a = if tixs a = [] then ⟨#[45]⟩ else mB8 (joinT (tixs a)) := rfl
  have hXm := tixs_sub a
  have hXl : (tixs a).length ≤ 13 := by rw [← ixs_len]; exact List.length_filter_le _ _
  have b1 : iand (a : Int) (b : Int) < 65536 := by rw [← e1]; omega
  have b2 : ior (a : Int) (b : Int) < 65536 := by rw [← e2]; omega
  have b3 : 0 ≤ iand (a : Int) (b : Int) := by rw [← e1]; omega
  have b4 : 0 ≤ ior (a : Int) (b : Int) := by rw [← e2]; omega
  generalize (bitsL a).length = na at *
  generalize (bitsL b).length = nb0 at *
  generalize (bitsL (a &&& b)).length = nc at *
  generalize (bitsL (a ||| b)).length = nd at *
  generalize tixs a = X at *
  clear hx1 hx2 hx3 e1 e2 e3 p1 p2 p3 p4
  refine Fn3 Tryd.func6 Tryd.ntmps6 rfl rfl ?_
  cases q5 : hasF a b <;> cases q6 : hasF b c <;> cases q7 : hasF a c
  all_goals (try (exact absurd (p5 q5 q6) (by rw [q7]; decide)))
  all_goals
    rw [q5] at h5
    rw [q6] at h6
    rw [q7] at h7
    clear p5 q5 q6 q7
  all_goals repeat' (first | ((refine G_markb (id := 0) ?_)) | refine G_seq ?_ | refine G_then_n ?_ | refine G_skip ?_ | refine G_cond_f rfl ?_ | ((refine G_region (id := 0) ?_ <;> (try (refine G_op1 ?_; ((apply K1_ev; exact rfl; ((focus (exact E_assign rfl))))))) <;> (try (refine G_nil ?_)))) | ((refine G_region (id := 1) ?_ <;> (try (refine G_op1 ?_; (((refine K1_call (F := 9) (by kernel_rfl) rfl rfl (awake02_c) ?_; rintro _ _ ⟨rfl, rfl⟩))))) <;> (try (refine G_op1 ?_; ((apply K1_ev; exact rfl; ((focus ((apply E_un; exact rfl; ((focus (exact ru_not_t))))))))))) <;> (try (refine G_nil ?_)))) | ((refine G_region (id := 3) ?_ <;> (try (refine G_op1 ?_; ((apply K1_ev; exact rfl; ((focus (exact E_move rfl))))))) <;> (try (refine G_op1 ?_; ((apply K1_ev; exact rfl; ((focus (exact E_move rfl))))))) <;> (try (refine G_op1 ?_; ((apply K1_ev; exact rfl; ((focus (exact E_move rfl))))))) <;> (try (refine G_op1 ?_; ((apply K1_ev; exact rfl; ((focus (exact E_assign rfl))))))) <;> (try (refine G_op1 ?_; ((apply K1_ev; exact rfl; ((focus (exact E_assign rfl))))))) <;> (try (refine G_op1 ?_; ((apply K1_ev; exact rfl; ((focus (exact E_assign rfl))))))) <;> (try (refine G_nil ?_)))) | ((refine G_region (id := 4) ?_ <;> (try (refine G_op1 ?_; ((apply K1_ev; exact rfl; ((focus (exact E_move rfl))))))) <;> (try (refine G_op1 ?_; ((apply K1_ev; exact rfl; ((focus (exact E_move rfl))))))) <;> (try (refine G_op1 ?_; ((apply K1_ev; exact rfl; ((focus ((apply E_bin (op := .and) (t := 26); exact rfl; exact rfl; exact rfl; ((focus ((refine rb_and ?_ ?_; (((focus ((refine ⟨rfl, ⟨?_, ?_⟩⟩; (focus omega); ((((focus (simp only [IntKind.bits]; omega)))))))))); (((focus ((refine ⟨rfl, ⟨?_, ?_⟩⟩; (focus omega); ((((focus (simp only [IntKind.bits]; omega)))))))))))))))))))))) <;> (try (refine G_op1 ?_; ((apply K1_ev; exact rfl; ((focus (exact E_move rfl))))))) <;> (try (refine G_op1 ?_; ((apply K1_ev; exact rfl; ((focus (exact E_move rfl))))))) <;> (try (refine G_op1 ?_; ((apply K1_ev; exact rfl; ((focus ((apply E_bin (op := .or) (t := 26); exact rfl; exact rfl; exact rfl; ((focus ((refine rb_or ?_ ?_; (((focus ((refine ⟨rfl, ⟨?_, ?_⟩⟩; (focus omega); ((((focus (simp only [IntKind.bits]; omega)))))))))); (((focus ((refine ⟨rfl, ⟨?_, ?_⟩⟩; (focus omega); ((((focus (simp only [IntKind.bits]; omega)))))))))))))))))))))) <;> (try (refine G_op1 ?_; ((apply K1_ev; exact rfl; ((focus (exact E_assign rfl))))))) <;> (try (refine G_op1 ?_; ((apply K1_ev; exact rfl; ((focus (exact E_assign rfl))))))) <;> (try (refine G_nil ?_)))) | ((refine G_region (id := 5) ?_ <;> (try (refine G_op1 ?_; ((apply K1_ev; exact rfl; ((focus (exact E_move rfl))))))) <;> (try (refine G_op1 ?_; ((apply K1_ev; exact rfl; ((focus (exact E_move rfl))))))) <;> (try (refine G_op1 ?_; (((refine K1_call (F := 16) (by kernel_rfl) rfl rfl (h1 _) ?_; rintro _ _ ⟨rfl, rfl⟩))))) <;> (try (refine G_op1 ?_; ((apply K1_ev; exact rfl; ((focus ((apply E_un; exact rfl; ((focus (exact ru_not_t))))))))))) <;> (try (refine G_op1 ?_; ((apply K1_ev; exact rfl; ((focus (exact E_move rfl))))))) <;> (try (refine G_op1 ?_; ((refine K1_yes rfl rfl rfl ?_; ((apply K1_ev; exact rfl; ((focus (exact E_move rfl))))))))) <;> (try (refine G_op1 ?_; ((refine K1_yes rfl rfl rfl ?_; ((apply K1_ev; exact rfl; ((focus (exact E_move rfl))))))))) <;> (try (refine G_op1 ?_; ((refine K1_yes rfl rfl rfl ?_; (((refine K1_call (F := 16) (by kernel_rfl) rfl rfl (h2 _) ?_; rintro _ _ ⟨rfl, rfl⟩))))))) <;> (try (refine G_op1 ?_; ((refine K1_yes rfl rfl rfl ?_; ((apply K1_ev; exact rfl; ((focus ((apply E_un; exact rfl; ((focus (exact ru_not_t))))))))))))) <;> (try (refine G_op1 ?_; ((apply K1_ev; exact rfl; ((focus (exact E_pick rfl rfl))))))) <;> (try (refine G_op1 ?_; ((apply K1_ev; exact rfl; ((focus (exact E_move rfl))))))) <;> (try (refine G_op1 ?_; ((refine K1_yes rfl rfl rfl ?_; ((apply K1_ev; exact rfl; ((focus (exact E_move rfl))))))))) <;> (try (refine G_op1 ?_; ((refine K1_yes rfl rfl rfl ?_; ((apply K1_ev; exact rfl; ((focus (exact E_move rfl))))))))) <;> (try (refine G_op1 ?_; ((refine K1_yes rfl rfl rfl ?_; (((refine K1_call (F := 16) (by kernel_rfl) rfl rfl (h3 _) ?_; rintro _ _ ⟨rfl, rfl⟩))))))) <;> (try (refine G_op1 ?_; ((refine K1_yes rfl rfl rfl ?_; ((apply K1_ev; exact rfl; ((focus ((apply E_un; exact rfl; ((focus (exact ru_not_t))))))))))))) <;> (try (refine G_op1 ?_; ((apply K1_ev; exact rfl; ((focus (exact E_pick rfl rfl))))))) <;> (try (refine G_op1 ?_; ((apply K1_ev; exact rfl; ((focus (exact E_move rfl))))))) <;> (try (refine G_op1 ?_; ((refine K1_yes rfl rfl rfl ?_; ((apply K1_ev; exact rfl; ((focus (exact E_move rfl))))))))) <;> (try (refine G_op1 ?_; ((refine K1_yes rfl rfl rfl ?_; ((apply K1_ev; exact rfl; ((focus (exact E_move rfl))))))))) <;> (try (refine G_op1 ?_; ((refine K1_yes rfl rfl rfl ?_; (((refine K1_call (F := 16) (by kernel_rfl) rfl rfl (h4 _) ?_; rintro _ _ ⟨rfl, rfl⟩))))))) <;> (try (refine G_op1 ?_; ((refine K1_yes rfl rfl rfl ?_; ((apply K1_ev; exact rfl; ((focus ((apply E_un; exact rfl; ((focus (exact ru_not_t))))))))))))) <;> (try (refine G_op1 ?_; ((apply K1_ev; exact rfl; ((focus (exact E_pick rfl rfl))))))) <;> (try (refine G_op1 ?_; ((apply K1_ev; exact rfl; ((focus (exact E_move rfl))))))) <;> (try (refine G_op1 ?_; ((refine K1_yes rfl rfl rfl ?_; ((apply K1_ev; exact rfl; ((focus (exact E_move rfl))))))))) <;> (try (refine G_op1 ?_; ((refine K1_yes rfl rfl rfl ?_; (((refine K1_call (F := 18) (by kernel_rfl) rfl rfl (c1 _) ?_; rintro _ _ ⟨rfl, rfl⟩))))))) <;> (try (refine G_op1 ?_; ((refine K1_yes rfl rfl rfl ?_; ((apply K1_ev; exact rfl; ((focus (exact E_move rfl))))))))) <;> (try (refine G_op1 ?_; ((refine K1_yes rfl rfl rfl ?_; (((refine K1_call (F := 18) (by kernel_rfl) rfl rfl (c2 _) ?_; rintro _ _ ⟨rfl, rfl⟩))))))) <;> (try (refine G_op1 ?_; ((refine K1_yes rfl rfl rfl ?_; ((apply K1_ev; exact rfl; ((focus ((apply E_bin (op := .add) (t := 3); exact rfl; exact rfl; exact rfl; ((focus ((apply rb_add; (((focus ((try simp only [Int.reduceAdd]); (try simp only [Int.reduceSub]); (try simp only [Int.reduceMul]); (try simp only [Int.reduceMod]); (try simp only [Int.reduceDiv]); exact rfl)))); (((focus (refine IntWalk.i64_in _ ?_; omega)))))))))))))))))) <;> (try (refine G_op1 ?_; ((refine K1_yes rfl rfl rfl ?_; ((apply K1_ev; exact rfl; ((focus (exact E_move rfl))))))))) <;> (try (refine G_op1 ?_; ((refine K1_yes rfl rfl rfl ?_; (((refine K1_call (F := 18) (by kernel_rfl) rfl rfl (c3 _) ?_; rintro _ _ ⟨rfl, rfl⟩))))))) <;> (try (refine G_op1 ?_; ((refine K1_yes rfl rfl rfl ?_; ((apply K1_ev; exact rfl; ((focus (exact E_move rfl))))))))) <;> (try (refine G_op1 ?_; ((refine K1_yes rfl rfl rfl ?_; (((refine K1_call (F := 18) (by kernel_rfl) rfl rfl (c4 _) ?_; rintro _ _ ⟨rfl, rfl⟩))))))) <;> (try (refine G_op1 ?_; ((refine K1_yes rfl rfl rfl ?_; ((apply K1_ev; exact rfl; ((focus ((apply E_bin (op := .add) (t := 3); exact rfl; exact rfl; exact rfl; ((focus ((apply rb_add; (((focus ((try simp only [Int.reduceAdd]); (try simp only [Int.reduceSub]); (try simp only [Int.reduceMul]); (try simp only [Int.reduceMod]); (try simp only [Int.reduceDiv]); exact rfl)))); (((focus (refine IntWalk.i64_in _ ?_; omega)))))))))))))))))) <;> (try (refine G_op1 ?_; ((refine K1_yes rfl rfl rfl ?_; ((apply K1_ev; exact rfl; ((focus ((apply E_bin (op := .neq) (t := 3); exact rfl; exact rfl; exact rfl; ((focus ((refine rb_neq_f ?_; first | rfl | (with_reducible assumption) | (decide; done) | omega)))))))))))))) <;> (try (refine G_op1 ?_; ((apply K1_ev; exact rfl; ((focus (exact E_pick rfl rfl))))))) <;> (try (refine G_op1 ?_; ((apply K1_ev; exact rfl; ((focus (exact E_move rfl))))))) <;> (try (refine G_op1 ?_; ((refine K1_yes rfl rfl rfl ?_; ((apply K1_ev; exact rfl; ((focus (exact E_move rfl))))))))) <;> (try (refine G_op1 ?_; ((refine K1_yes rfl rfl rfl ?_; ((apply K1_ev; exact rfl; ((focus (exact E_move rfl))))))))) <;> (try (refine G_op1 ?_; ((refine K1_yes rfl rfl rfl ?_; (((refine K1_call (F := 16) (by kernel_rfl) rfl rfl (h5 _) ?_; rintro _ _ ⟨rfl, rfl⟩))))))) <;> (try (refine G_op1 ?_; ((refine K1_yes rfl rfl rfl ?_; ((apply K1_ev; exact rfl; ((focus (exact E_move rfl))))))))) <;> (try (refine G_op1 ?_; (first | refine K1_no rfl rfl rfl rfl ?_ | ((refine K1_yes rfl rfl rfl ?_; ((apply K1_ev; exact rfl; ((focus (exact E_move rfl)))))))))) <;> (try (refine G_op1 ?_; (first | refine K1_no rfl rfl rfl rfl ?_ | ((refine K1_yes rfl rfl rfl ?_; ((apply K1_ev; exact rfl; ((focus (exact E_move rfl)))))))))) <;> (try (refine G_op1 ?_; (first | refine K1_no rfl rfl rfl rfl ?_ | ((refine K1_yes rfl rfl rfl ?_; (((refine K1_call (F := 16) (by kernel_rfl) rfl rfl (h6 _) ?_; rintro _ _ ⟨rfl, rfl⟩)))))))) <;> (try (refine G_op1 ?_; ((refine K1_yes rfl rfl rfl ?_; ((apply K1_ev; exact rfl; ((focus (exact E_pick rfl rfl))))))))) <;> (try (refine G_op1 ?_; ((refine K1_yes rfl rfl rfl ?_; ((apply K1_ev; exact rfl; ((focus (exact E_move rfl))))))))) <;> (try (refine G_op1 ?_; (first | refine K1_no rfl rfl rfl rfl ?_ | ((refine K1_yes rfl rfl rfl ?_; ((apply K1_ev; exact rfl; ((focus (exact E_move rfl)))))))))) <;> (try (refine G_op1 ?_; (first | refine K1_no rfl rfl rfl rfl ?_ | ((refine K1_yes rfl rfl rfl ?_; ((apply K1_ev; exact rfl; ((focus (exact E_move rfl)))))))))) <;> (try (refine G_op1 ?_; (first | refine K1_no rfl rfl rfl rfl ?_ | ((refine K1_yes rfl rfl rfl ?_; (((refine K1_call (F := 16) (by kernel_rfl) rfl rfl (h7 _) ?_; rintro _ _ ⟨rfl, rfl⟩)))))))) <;> (try (refine G_op1 ?_; (first | refine K1_no rfl rfl rfl rfl ?_ | ((refine K1_yes rfl rfl rfl ?_; ((apply K1_ev; exact rfl; ((focus ((apply E_un; exact rfl; ((focus (exact ru_not_t)))))))))))))) <;> (try (refine G_op1 ?_; ((refine K1_yes rfl rfl rfl ?_; ((apply K1_ev; exact rfl; ((focus (exact E_pick rfl rfl))))))))) <;> (try (refine G_op1 ?_; ((apply K1_ev; exact rfl; ((focus (exact E_pick rfl rfl))))))) <;> (try (refine G_nil ?_)))) | ((refine G_region (id := 7) ?_ <;> (try (refine G_op1 ?_; ((apply K1_ev; exact rfl; ((focus (exact E_assign rfl))))))) <;> (try (refine G_nil ?_)))) | ((refine G_region (id := 8) ?_ <;> (try (refine G_op1 ?_; ((apply K1_ev; exact rfl; ((focus (exact E_move rfl))))))) <;> (try (refine G_op1 ?_; ((apply K1_ev; exact rfl; ((focus ((apply E_bin (op := .and) (t := 26); exact rfl; exact rfl; exact rfl; ((focus ((refine rb_and ?_ ?_; (((focus ((refine ⟨rfl, ⟨?_, ?_⟩⟩; (focus omega); ((((focus (simp only [IntKind.bits]; omega)))))))))); (((focus ((refine ⟨rfl, ⟨?_, ?_⟩⟩; (focus omega); ((((focus (simp only [IntKind.bits]; omega)))))))))))))))))))))) <;> (try (refine G_op1 ?_; (((refine K1_call (F := 19) (by kernel_rfl) rfl rfl (hea _) ?_; rintro _ _ ⟨eo, hown, rfl⟩; obtain ⟨oa, oc, rfl, hsl⟩ := hown.sli L))))) <;> (try (refine G_op1 ?_; ((apply K1_ev; exact rfl; ((focus ((apply E_builtin; exact rfl; exact (fun _ => BigFrame.builtin_len ..); apply r_len_slice_e Tryd.underlying38; ((focus ((try simp only [Int.cast_ofNat_Int]); exact rfl))))))))))) <;> (try (refine G_op1 ?_; ((apply K1_ev; exact rfl; ((focus (exact E_move rfl))))))) <;> (try (refine G_nil ?_)))))
  all_goals refine ⟨?_⟩
  all_goals clear h1 h2 h3 h4 h5 h6 h7 c1 c2 c3 c4 hbb l1 l2 l3 l4 b1 b2 b3 b4
  all_goals
    refine G_block ?_
    refine G_loopk (γ := Nat) (fun k => k ≤ X.length) (fun k => X.length - k) (fun k => [(81, .int .i64 (k : Nat)), (12, .string (mB8 (joinT (X.take k))))]) [(7, _), (79, _), (80, _)]
      (fun _ => eo ++ L) 0 (.cons rfl (.cons rfl (.cons rfl .nil))) (Nat.zero_le _) (by ((focus (repeat (first | exact Sub.nil | refine Sub.cons rfl ?_ | (refine Sub.cons (congrArg some ?_) ?_; (focus go_num))))))) (fun _ H => H) ?_
    intro k (hk : k ≤ X.length)
    by_cases hlt : k < X.length
    · obtain ⟨j, q, b, off, cs, T, fr, rfl, hj, hsz, hx⟩ := hsl.elem1 hlt
      rw [setV_at X k hlt] at hx
      have hmem := hXm X[k] (List.getElem_mem hlt)
      have h16 := ixs_lt _ hmem
      have hto := fun (L : List Blk) => text_c (S := S) (w0 := w0) (L := L) (2 ^ X[k]) (Nat.pow_lt_pow_right (by omega) h16)
      rw [text_one _ hmem] at hto
      have hsn := joinT_snoc (X.take k) X[k]
      rw [← List.take_succ_eq_append_getElem hlt] at hsn
      have hjl := lens_le (X.take k) (fun i hi => ixs_lt i (hXm i (List.mem_of_mem_take hi)))
      have htl : (X.take k).length ≤ k := List.length_take_le ..
      have hjs : (mB8 (joinT (X.take k))).size = (joinT (X.take k)).length := by rw [← lB_len, lB_mB8]
      have e0 : (⟨#[]⟩ : ByteArray).size = 0 := rfl
      have e4 : (⟨#[44]⟩ : ByteArray).size = 1 := rfl
      have e6 : (mB8 (joinT (X.take k)) ++ ⟨#[44]⟩).size = (mB8 (joinT (X.take k))).size + 1 := ByteArray.size_append
      have hws := wd_size _ h16
      have htm : ∀ i ∈ X.take k, i ∈ ixs := fun i hi => hXm i (List.mem_of_mem_take hi)
      have hsn' := Lib.hid hsn
      clear hsn
      generalize X[k] = xi at *
      by_cases h0 : X.take k = []
      · rw [h0, if_pos rfl] at hsn'
        rw [h0]
        have he : mB8 (joinT []) = ⟨#[]⟩ := rfl
        rw [he]
        repeat' (first | refine G_seq ?_ | refine G_then_n ?_ | refine G_cut_n ?_ | refine G_blk_n ?_ | refine G_block ?_ | refine G_skip ?_ | refine G_cond_t rfl ?_ | refine G_cond_f rfl ?_ | ((refine G_region (id := 9) ?_ <;> (try (refine G_op1 ?_; ((apply K1_ev; exact rfl; ((focus ((apply E_bin (op := .lss) (t := 3); exact rfl; exact rfl; exact rfl; ((focus ((refine rb_lss_t ?_; first | (with_reducible assumption) | (decide; done) | omega)))))))))))) <;> (try (refine G_nil ?_)))) | ((refine G_region (id := 10) ?_ <;> (try (refine G_op1 ?_; ((apply K1_ev; exact rfl; ((focus ((apply E_indexAddr; exact rfl; exact rfl; ((focus (apply r_ixs Tryd.underlying38 sz_26; (focus omega); (focus omega); ((focus ((try simp only [Int.toNat_natCast]); (try simp only [Int.reduceToNat]); (try simp only [Nat.mul_one]); (try simp only [Nat.zero_mul]); (try simp only [Nat.reduceMul]); (try simp only [Nat.zero_add]); (try simp only [Nat.add_zero]); (try simp only [Nat.reduceAdd]); exact rfl)))))))))))))) <;> (try (refine G_op1 ?_; ((apply K1_ev; exact rfl; ((focus ((apply E_load1 (t := 26); exact rfl; (((focus (repeat (with_reducible assumption))))); kernel_rfl; kernel_rfl; (((focus (with_reducible assumption)))))))))))) <;> (try (refine G_op1 ?_; ((apply K1_ev; exact rfl; ((focus (exact E_assign rfl))))))) <;> (try (refine G_nil ?_)))) | ((refine G_region (id := 11) ?_ <;> (try (refine G_op1 ?_; ((apply K1_ev; exact rfl; ((focus (exact E_move rfl))))))) <;> (try (refine G_op1 ?_; ((apply K1_ev; exact rfl; ((focus ((apply E_bin (op := .neq) (t := 9); exact rfl; exact rfl; exact rfl; ((focus (exact rb_strne_s))))))))))) <;> (try (refine G_nil ?_)))) | ((refine G_region (id := 13) ?_ <;> (try (refine G_op1 ?_; ((apply K1_ev; exact rfl; ((focus (exact E_move rfl))))))) <;> (try (refine G_op1 ?_; ((apply K1_ev; exact rfl; ((focus (exact E_move rfl))))))) <;> (try (refine G_op1 ?_; (((refine K1_call (F := 13) (by kernel_rfl) rfl rfl (hto _) ?_; rintro _ _ ⟨rfl, rfl⟩))))) <;> (try (refine G_op1 ?_; ((apply K1_ev; exact rfl; ((focus ((apply E_bin (op := .add) (t := 9); exact rfl; exact rfl; exact rfl; ((focus (apply rb_stradd; ((focus (exact rfl))); ((focus (omega)))))))))))))) <;> (try (refine G_op1 ?_; ((apply K1_ev; exact rfl; ((focus (exact E_assign rfl))))))) <;> (try (refine G_nil ?_)))) | ((refine G_region (id := 14) ?_ <;> (try (refine G_op1 ?_; ((apply K1_ev; exact rfl; ((focus ((apply E_bin (op := .add) (t := 3); exact rfl; exact rfl; exact rfl; ((focus ((apply rb_add; (((focus ((try simp only [Int.reduceAdd]); (try simp only [Int.reduceSub]); (try simp only [Int.reduceMul]); (try simp only [Int.reduceMod]); (try simp only [Int.reduceDiv]); exact rfl)))); (((focus (refine IntWalk.i64_in _ ?_; omega)))))))))))))))) <;> (try (refine G_op1 ?_; ((apply K1_ev; exact rfl; ((focus (exact E_move rfl))))))) <;> (try (refine G_nil ?_)))))
        refine G_meet (k + 1) ⟨by omega, by omega⟩ ?_ (fun _ H => H)
        have e7 : (⟨#[]⟩ : ByteArray) ++ wd xi = mB8 (joinT (X.take (k + 1))) := by rw [hsn'.out, ← mB8_lB (wd xi)]; exact mB8_app [] _
        simp only [e7]
        ((focus (repeat (first | exact Sub.nil | refine Sub.cons rfl ?_ | (refine Sub.cons (congrArg some ?_) ?_; (focus go_num))))))
      · have h9 := hsn'.out
        rw [if_neg h0] at h9
        have h9' := Lib.hid h9
        have hne : ¬ mB8 (joinT (X.take k)) = ⟨#[]⟩ := fun e => joinT_ne h0 htm (by rw [← lB_mB8 (joinT (X.take k)), e]; rfl)
        clear h9 hsn' h0
        generalize hJ : joinT (X.take k) = J at *
        clear hJ
        repeat' (first | refine G_seq ?_ | refine G_then_n ?_ | refine G_cut_n ?_ | refine G_blk_n ?_ | refine G_block ?_ | refine G_skip ?_ | refine G_cond_t rfl ?_ | ((refine G_region (id := 9) ?_ <;> (try (refine G_op1 ?_; ((apply K1_ev; exact rfl; ((focus ((apply E_bin (op := .lss) (t := 3); exact rfl; exact rfl; exact rfl; ((focus ((refine rb_lss_t ?_; first | (with_reducible assumption) | (decide; done) | omega)))))))))))) <;> (try (refine G_nil ?_)))) | ((refine G_region (id := 10) ?_ <;> (try (refine G_op1 ?_; ((apply K1_ev; exact rfl; ((focus ((apply E_indexAddr; exact rfl; exact rfl; ((focus (apply r_ixs Tryd.underlying38 sz_26; (focus omega); (focus omega); ((focus ((try simp only [Int.toNat_natCast]); (try simp only [Int.reduceToNat]); (try simp only [Nat.mul_one]); (try simp only [Nat.zero_mul]); (try simp only [Nat.reduceMul]); (try simp only [Nat.zero_add]); (try simp only [Nat.add_zero]); (try simp only [Nat.reduceAdd]); exact rfl)))))))))))))) <;> (try (refine G_op1 ?_; ((apply K1_ev; exact rfl; ((focus ((apply E_load1 (t := 26); exact rfl; (((focus (repeat (with_reducible assumption))))); kernel_rfl; kernel_rfl; (((focus (with_reducible assumption)))))))))))) <;> (try (refine G_op1 ?_; ((apply K1_ev; exact rfl; ((focus (exact E_assign rfl))))))) <;> (try (refine G_nil ?_)))) | ((refine G_region (id := 11) ?_ <;> (try (refine G_op1 ?_; ((apply K1_ev; exact rfl; ((focus (exact E_move rfl))))))) <;> (try (refine G_op1 ?_; ((apply K1_ev; exact rfl; ((focus ((apply E_bin (op := .neq) (t := 9); exact rfl; exact rfl; exact rfl; ((focus ((apply rb_strne_h; ((focus (with_reducible assumption))))))))))))))) <;> (try (refine G_nil ?_)))) | ((refine G_region (id := 12) ?_ <;> (try (refine G_op1 ?_; ((apply K1_ev; exact rfl; ((focus (exact E_move rfl))))))) <;> (try (refine G_op1 ?_; ((apply K1_ev; exact rfl; ((focus ((apply E_bin (op := .add) (t := 9); exact rfl; exact rfl; exact rfl; ((focus (apply rb_stradd; ((focus (exact rfl))); ((focus (omega)))))))))))))) <;> (try (refine G_op1 ?_; ((apply K1_ev; exact rfl; ((focus (exact E_assign rfl))))))) <;> (try (refine G_nil ?_)))) | ((refine G_region (id := 13) ?_ <;> (try (refine G_op1 ?_; ((apply K1_ev; exact rfl; ((focus (exact E_move rfl))))))) <;> (try (refine G_op1 ?_; ((apply K1_ev; exact rfl; ((focus (exact E_move rfl))))))) <;> (try (refine G_op1 ?_; (((refine K1_call (F := 13) (by kernel_rfl) rfl rfl (hto _) ?_; rintro _ _ ⟨rfl, rfl⟩))))) <;> (try (refine G_op1 ?_; ((apply K1_ev; exact rfl; ((focus ((apply E_bin (op := .add) (t := 9); exact rfl; exact rfl; exact rfl; ((focus (apply rb_stradd; ((focus (exact rfl))); ((focus (omega)))))))))))))) <;> (try (refine G_op1 ?_; ((apply K1_ev; exact rfl; ((focus (exact E_assign rfl))))))) <;> (try (refine G_nil ?_)))) | ((refine G_region (id := 14) ?_ <;> (try (refine G_op1 ?_; ((apply K1_ev; exact rfl; ((focus ((apply E_bin (op := .add) (t := 3); exact rfl; exact rfl; exact rfl; ((focus ((apply rb_add; (((focus ((try simp only [Int.reduceAdd]); (try simp only [Int.reduceSub]); (try simp only [Int.reduceMul]); (try simp only [Int.reduceMod]); (try simp only [Int.reduceDiv]); exact rfl)))); (((focus (refine IntWalk.i64_in _ ?_; omega)))))))))))))))) <;> (try (refine G_op1 ?_; ((apply K1_ev; exact rfl; ((focus (exact E_move rfl))))))) <;> (try (refine G_nil ?_)))))
        refine G_meet (k + 1) ⟨by omega, by omega⟩ ?_ (fun _ H => H)
        have e7 : mB8 J ++ ⟨#[44]⟩ ++ wd xi = mB8 (joinT (X.take (k + 1))) := by
          rw [h9'.out, ← mB8_lB (wd xi)]
          show mB8 J ++ mB8 [44] ++ mB8 (lB (wd xi)) = _
          rw [mB8_app, mB8_app, List.append_assoc]; rfl
        simp only [e7]
        ((focus (repeat (first | exact Sub.nil | refine Sub.cons rfl ?_ | (refine Sub.cons (congrArg some ?_) ?_; (focus go_num))))))
    · obtain rfl : k = X.length := by omega
      rw [List.take_length]
      rw [hT] at htx
      by_cases h0 : X = []
      · rw [if_pos h0] at htx
        have he : mB8 (joinT X) = ⟨#[]⟩ := by rw [h0]; rfl
        rw [he]
        clear h0 he hT
        repeat' (first | refine G_seq ?_ | refine G_then_n ?_ | refine G_cut_x ?_ | refine G_then_x ?_ | refine G_blk_x ?_ | refine G_exit ?_ | refine G_ret ?_ | refine G_cond_f rfl ?_ | ((refine G_region (id := 9) ?_ <;> (try (refine G_op1 ?_; ((apply K1_ev; exact rfl; ((focus ((apply E_bin (op := .lss) (t := 3); exact rfl; exact rfl; exact rfl; ((focus ((refine rb_lss_f ?_; first | (with_reducible assumption) | (decide; done) | omega)))))))))))) <;> (try (refine G_nil ?_)))) | ((refine G_region (id := 15) ?_ <;> (try (refine G_op1 ?_; ((apply K1_ev; exact rfl; ((focus (exact E_move rfl))))))) <;> (try (refine G_op1 ?_; ((apply K1_ev; exact rfl; ((focus ((apply E_bin (op := .eql) (t := 9); exact rfl; exact rfl; exact rfl; ((focus (exact rb_streq_s))))))))))) <;> (try (refine G_op1 ?_; ((apply K1_ev; exact rfl; ((focus (exact E_move rfl))))))) <;> (try (refine G_op1 ?_; ((refine K1_yes rfl rfl rfl ?_; ((apply K1_ev; exact rfl; ((focus (exact E_move rfl))))))))) <;> (try (refine G_op1 ?_; ((refine K1_yes rfl rfl rfl ?_; (((refine K1_call (F := 13) (by kernel_rfl) rfl rfl (htx _) ?_; rintro _ _ ⟨rfl, rfl⟩))))))) <;> (try (refine G_op1 ?_; ((refine K1_yes rfl rfl rfl ?_; ((apply K1_ev; exact rfl; ((focus ((apply E_bin (op := .eql) (t := 9); exact rfl; exact rfl; exact rfl; ((focus (exact rb_streq_s))))))))))))) <;> (try (refine G_op1 ?_; ((apply K1_ev; exact rfl; ((focus (exact E_pick rfl rfl))))))) <;> (try (refine G_op1 ?_; ((apply K1_ev; exact rfl; ((focus (exact E_move rfl))))))) <;> (try (refine G_op1 ?_; (refine K1_no rfl rfl rfl rfl ?_))) <;> (try (refine G_op1 ?_; (refine K1_no rfl rfl rfl rfl ?_))) <;> (try (refine G_op1 ?_; (refine K1_no rfl rfl rfl rfl ?_))) <;> (try (refine G_op1 ?_; (refine K1_nou rfl rfl rfl ?_))) <;> (try (refine G_op1 ?_; (refine K1_nou rfl rfl rfl ?_))) <;> (try (refine G_op1 ?_; (refine K1_nou rfl rfl rfl ?_))) <;> (try (refine G_op1 ?_; (refine K1_nou rfl rfl rfl ?_))) <;> (try (refine G_op1 ?_; (refine K1_no rfl rfl rfl rfl ?_))) <;> (try (refine G_op1 ?_; ((apply K1_ev; exact rfl; ((focus (exact E_pick rfl rfl))))))) <;> (try (refine G_op1 ?_; ((apply K1_ev; exact rfl; ((focus (exact E_assign rfl))))))) <;> (try (refine G_nil ?_)))))
        (refine G_done Tryd.results6 (.tmp rfl .nil) ?_)
        exact ⟨_, ⟨rfl, rfl⟩, by intro w H; refine H.sub ?_; (try simp only [List.cons_append, List.nil_append]); repeat (first | exact List.Sublist.refl _ | refine List.Sublist.cons_cons _ ?_ | refine List.Sublist.cons _ ?_ | refine List.sublist_append_of_sublist_right ?_)⟩
      · rw [if_neg h0] at htx
        have hne : ¬ mB8 (joinT X) = ⟨#[]⟩ := fun e => joinT_ne h0 hXm (by rw [← lB_mB8 (joinT X), e]; rfl)
        clear h0 hT
        generalize mB8 (joinT X) = J at *
        repeat' (first | refine G_seq ?_ | refine G_then_n ?_ | refine G_cut_x ?_ | refine G_then_x ?_ | refine G_blk_x ?_ | refine G_exit ?_ | refine G_ret ?_ | refine G_cond_f rfl ?_ | ((refine G_region (id := 9) ?_ <;> (try (refine G_op1 ?_; ((apply K1_ev; exact rfl; ((focus ((apply E_bin (op := .lss) (t := 3); exact rfl; exact rfl; exact rfl; ((focus ((refine rb_lss_f ?_; first | (with_reducible assumption) | (decide; done) | omega)))))))))))) <;> (try (refine G_nil ?_)))) | ((refine G_region (id := 15) ?_ <;> (try (refine G_op1 ?_; ((apply K1_ev; exact rfl; ((focus (exact E_move rfl))))))) <;> (try (refine G_op1 ?_; ((apply K1_ev; exact rfl; ((focus ((apply E_bin (op := .eql) (t := 9); exact rfl; exact rfl; exact rfl; ((focus ((apply rb_streq_n; ((focus (exact decide_eq_false (by assumption)))))))))))))))) <;> (try (refine G_op1 ?_; ((apply K1_ev; exact rfl; ((focus (exact E_move rfl))))))) <;> (try (refine G_op1 ?_; (refine K1_no rfl rfl rfl rfl ?_))) <;> (try (refine G_op1 ?_; (refine K1_no rfl rfl rfl rfl ?_))) <;> (try (refine G_op1 ?_; (refine K1_no rfl rfl rfl rfl ?_))) <;> (try (refine G_op1 ?_; ((apply K1_ev; exact rfl; ((focus (exact E_pick rfl rfl))))))) <;> (try (refine G_op1 ?_; ((apply K1_ev; exact rfl; ((focus (exact E_move rfl))))))) <;> (try (refine G_op1 ?_; ((refine K1_yes rfl rfl rfl ?_; ((apply K1_ev; exact rfl; ((focus (exact E_move rfl))))))))) <;> (try (refine G_op1 ?_; ((refine K1_yes rfl rfl rfl ?_; ((apply K1_ev; exact rfl; ((focus ((apply E_bin (op := .neq) (t := 9); exact rfl; exact rfl; exact rfl; ((focus ((apply rb_strne_h; ((focus (with_reducible assumption))))))))))))))))) <;> (try (refine G_op1 ?_; ((refine K1_yes rfl rfl rfl ?_; ((apply K1_ev; exact rfl; ((focus (exact E_move rfl))))))))) <;> (try (refine G_op1 ?_; ((refine K1_yes rfl rfl rfl ?_; ((apply K1_ev; exact rfl; ((focus (exact E_move rfl))))))))) <;> (try (refine G_op1 ?_; ((refine K1_yes rfl rfl rfl ?_; (((refine K1_call (F := 13) (by kernel_rfl) rfl rfl (htx _) ?_; rintro _ _ ⟨rfl, rfl⟩))))))) <;> (try (refine G_op1 ?_; ((refine K1_yes rfl rfl rfl ?_; ((apply K1_ev; exact rfl; ((focus (exact E_move rfl))))))))) <;> (try (refine G_op1 ?_; ((refine K1_yes rfl rfl rfl ?_; ((apply K1_ev; exact rfl; ((focus ((apply E_bin (op := .eql) (t := 9); exact rfl; exact rfl; exact rfl; ((focus (exact rb_streq_s))))))))))))) <;> (try (refine G_op1 ?_; ((refine K1_yes rfl rfl rfl ?_; ((apply K1_ev; exact rfl; ((focus (exact E_pick rfl rfl))))))))) <;> (try (refine G_op1 ?_; ((apply K1_ev; exact rfl; ((focus (exact E_pick rfl rfl))))))) <;> (try (refine G_op1 ?_; ((apply K1_ev; exact rfl; ((focus (exact E_assign rfl))))))) <;> (try (refine G_nil ?_)))))
        (refine G_done Tryd.results6 (.tmp rfl .nil) ?_)
        exact ⟨_, ⟨rfl, rfl⟩, by intro w H; refine H.sub ?_; (try simp only [List.cons_append, List.nil_append]); repeat (first | exact List.Sublist.refl _ | refine List.Sublist.cons_cons _ ?_ | refine List.Sublist.cons _ ?_ | refine List.sublist_append_of_sublist_right ?_)⟩
theorem rightAlgebra_i {S w0 L} (a b c : Int) (ha : 0 ≤ a ∧ a < 65536) (hb : 0 ≤ b ∧ b < 65536) (hc : 0 ≤ c ∧ c < 65536) : Fn Tryd.prog 6 #[.int .u16 a, .int .u16 b, .int .u16 c] S w0 L fun v L' => v = .bool true ∧ L = L' := by
  obtain ⟨n, rfl⟩ := Int.eq_ofNat_of_zero_le ha.1
  obtain ⟨m, rfl⟩ := Int.eq_ofNat_of_zero_le hb.1
  obtain ⟨k, rfl⟩ := Int.eq_ofNat_of_zero_le hc.1
  exact rightAlgebra_c n m k (by omega) (by omega) (by omega)
end Go.Proofs.YtlhohhhnnffhaaaDoor
