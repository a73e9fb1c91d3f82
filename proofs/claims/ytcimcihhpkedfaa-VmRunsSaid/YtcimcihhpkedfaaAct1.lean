/- Which of two actions counts. -/
import Derived.Test.YtcimcihhpkedfaaGl7
import Derived.Test.YtcimcihhpkedfaaTys
namespace Go.Proofs.Ytcimcihhpkedfaa
open Go Go.RowKit
def kindOf (a : Int) : Int := if iandn a 65535 = 327680 ∨ iandn a 65535 = 2147221504 ∨ iandn a 65535 = 2147418112 then iandn a 65535 else 2147483648
def strOf (k : Int) : Int := if k = 2147483648 then 3 else if k = 327680 then 2 else if k = 2147221504 then 1 else 0
def stronger (a b : Int) : Int := if strOf (kindOf b) > strOf (kindOf a) then b else a
set_option maxRecDepth 100000 in
theorem kind_c {S w0 L} (a : Int) (h : 0 ≤ a ∧ a < 4294967296) : Fn Try.prog 71 #[.int .u32 a] S w0 L fun v L' => v = .int .u32 (kindOf a) ∧ L = L' := by
  have h8 := iandn_le a 65535 h.1
  obtain ⟨q, hq⟩ : ∃ q, q = iandn a 65535 := ⟨_, rfl⟩
  have hj : kindOf a = kindOf a := rfl
  conv at hj => rhs; rw [kindOf]
  have hj' := Lib.hid hj
  clear hj
  refine Fn1 Try.func71 Try.ntmps71 rfl rfl ?_
  repeat' (first | refine G_seq ?_ | refine G_then_n ?_ | refine G_then_r ?_ | refine G_blk_n ?_ | refine G_blk_r ?_ | refine G_block ?_ | refine G_skip ?_ | refine G_ret ?_ | refine G_cond_t rfl ?_ | ((refine G_region (id := 0) ?_ <;> (try (refine G_op1 ?_; ((apply K1_ev; exact rfl; ((focus (exact E_assign rfl))))))) <;> (try (refine G_nil ?_)))) | ((refine G_region (id := 1) ?_ <;> (try (refine G_op1 ?_; ((apply K1_ev; exact rfl; ((focus (exact E_move rfl))))))) <;> (try (refine G_op1 ?_; ((apply K1_ev; exact rfl; ((focus ((apply E_bin (op := .andNot) (t := 54); exact rfl; exact rfl; exact rfl; ((focus ((refine rb_andn ?_ ?_; (((focus ((refine ⟨rfl, ⟨?_, ?_⟩⟩; (focus omega); ((((focus (simp only [IntKind.bits]; omega)))))))))); (((focus ((refine ⟨rfl, ⟨?_, ?_⟩⟩; (focus omega); ((((focus (simp only [IntKind.bits]; omega)))))))))))))))))))))) <;> (try (refine G_op1 ?_; ((apply K1_ev; exact rfl; ((focus (exact E_assign rfl))))))) <;> (try (refine G_nil ?_)))) | ((refine G_region (id := 2) ?_ <;> (try (refine G_op1 ?_; ((apply K1_ev; exact rfl; ((focus (exact E_move rfl))))))) <;> (try (refine G_nil ?_)))) | ((refine G_region (id := 3) ?_ <;> (try (refine G_op1 ?_; ((apply K1_ev; exact rfl; ((focus ((apply E_bin (op := .eql) (t := 54); exact rfl; exact rfl; exact rfl; ((focus (exact rb_eql))))))))))) <;> (try (refine G_op1 ?_; ((apply K1_ev; exact rfl; ((focus (exact E_assign rfl))))))) <;> (try (refine G_nil ?_)))) | ((refine G_region (id := 4) ?_ <;> (try (refine G_op1 ?_; ((apply K1_ev; exact rfl; ((focus ((apply E_bin (op := .eql) (t := 54); exact rfl; exact rfl; exact rfl; ((focus (exact rb_eql))))))))))) <;> (try (refine G_op1 ?_; ((apply K1_ev; exact rfl; ((focus (exact E_assign rfl))))))) <;> (try (refine G_nil ?_)))) | ((refine G_region (id := 5) ?_ <;> (try (refine G_op1 ?_; ((apply K1_ev; exact rfl; ((focus ((apply E_bin (op := .eql) (t := 54); exact rfl; exact rfl; exact rfl; ((focus (exact rb_eql))))))))))) <;> (try (refine G_op1 ?_; ((apply K1_ev; exact rfl; ((focus (exact E_assign rfl))))))) <;> (try (refine G_nil ?_)))) | ((refine G_region (id := 6) ?_ <;> (try (refine G_op1 ?_; ((apply K1_ev; exact rfl; ((focus (exact E_move rfl))))))) <;> (try (refine G_op1 ?_; ((apply K1_ev; exact rfl; ((focus (exact E_assign rfl))))))) <;> (try (refine G_nil ?_)))) | ((refine G_region (id := 7) ?_ <;> (try (refine G_op1 ?_; ((apply K1_ev; exact rfl; ((focus (exact E_assign rfl))))))) <;> (try (refine G_nil ?_)))) | ((((refine G_cond_d rfl (fun hc => ?_) (fun hc => ?_))) <;> (try subst hc))))
  all_goals
    (refine G_done Try.results71 (.tmp rfl .nil) ?_)
    refine ⟨_, ⟨?_, rfl⟩, fun _ H => H⟩
    show Value.int _ _ = _
    rw [hj'.out]
    simp [*]
set_option maxRecDepth 100000 in
theorem strength_c {S w0 L} (a : Int) (h : 0 ≤ a ∧ a < 4294967296) : Fn Try.prog 68 #[.int .u32 a] S w0 L fun v L' => v = .int .i64 (strOf (kindOf a)) ∧ L = L' := by
  have hk := fun (L : List Blk) => kind_c (S := S) (w0 := w0) (L := L) a h
  generalize kindOf a = k at *
  refine Fn1 Try.func68 Try.ntmps68 rfl rfl ?_
  repeat' (first | refine G_seq ?_ | refine G_then_n ?_ | refine G_then_r ?_ | refine G_blk_n ?_ | refine G_blk_r ?_ | refine G_block ?_ | refine G_skip ?_ | refine G_ret ?_ | ((refine G_region (id := 0) ?_ <;> (try (refine G_op1 ?_; ((apply K1_ev; exact rfl; ((focus (exact E_assign rfl))))))) <;> (try (refine G_nil ?_)))) | ((refine G_region (id := 1) ?_ <;> (try (refine G_op1 ?_; ((apply K1_ev; exact rfl; ((focus (exact E_move rfl))))))) <;> (try (refine G_op1 ?_; (((refine K1_call (F := 71) (by kernel_rfl) rfl rfl (hk _) ?_; rintro _ _ ⟨rfl, rfl⟩))))) <;> (try (refine G_nil ?_)))) | ((refine G_region (id := 2) ?_ <;> (try (refine G_op1 ?_; ((apply K1_ev; exact rfl; ((focus ((apply E_bin (op := .eql) (t := 54); exact rfl; exact rfl; exact rfl; ((focus (exact rb_eql))))))))))) <;> (try (refine G_op1 ?_; ((apply K1_ev; exact rfl; ((focus (exact E_assign rfl))))))) <;> (try (refine G_nil ?_)))) | ((refine G_region (id := 3) ?_ <;> (try (refine G_op1 ?_; ((apply K1_ev; exact rfl; ((focus (exact E_assign rfl))))))) <;> (try (refine G_nil ?_)))) | ((refine G_region (id := 4) ?_ <;> (try (refine G_op1 ?_; ((apply K1_ev; exact rfl; ((focus ((apply E_bin (op := .eql) (t := 54); exact rfl; exact rfl; exact rfl; ((focus (exact rb_eql))))))))))) <;> (try (refine G_op1 ?_; ((apply K1_ev; exact rfl; ((focus (exact E_assign rfl))))))) <;> (try (refine G_nil ?_)))) | ((refine G_region (id := 5) ?_ <;> (try (refine G_op1 ?_; ((apply K1_ev; exact rfl; ((focus (exact E_assign rfl))))))) <;> (try (refine G_nil ?_)))) | ((refine G_region (id := 6) ?_ <;> (try (refine G_op1 ?_; ((apply K1_ev; exact rfl; ((focus ((apply E_bin (op := .eql) (t := 54); exact rfl; exact rfl; exact rfl; ((focus (exact rb_eql))))))))))) <;> (try (refine G_op1 ?_; ((apply K1_ev; exact rfl; ((focus (exact E_assign rfl))))))) <;> (try (refine G_nil ?_)))) | ((refine G_region (id := 7) ?_ <;> (try (refine G_op1 ?_; ((apply K1_ev; exact rfl; ((focus (exact E_assign rfl))))))) <;> (try (refine G_nil ?_)))) | ((refine G_region (id := 8) ?_ <;> (try (refine G_op1 ?_; ((apply K1_ev; exact rfl; ((focus (exact E_assign rfl))))))) <;> (try (refine G_nil ?_)))) | ((((refine G_cond_d rfl (fun hc => ?_) (fun hc => ?_))) <;> (try subst hc))))
  all_goals
    (refine G_done Try.results68 (.tmp rfl .nil) ?_)
    refine ⟨_, ⟨?_, rfl⟩, fun _ H => H⟩
    show Value.int _ _ = _
    clear hk
    rw [strOf]; simp [*]
set_option maxRecDepth 100000 in
theorem stronger_c {S w0 L} (a b : Int) (h : 0 ≤ a ∧ a < 4294967296) (hb : 0 ≤ b ∧ b < 4294967296) : Fn Try.prog 58 #[.int .u32 a, .int .u32 b] S w0 L fun v L' => v = .int .u32 (stronger a b) ∧ L = L' := by
  have h1 := fun (L : List Blk) => strength_c (S := S) (w0 := w0) (L := L) a h
  have h2 := fun (L : List Blk) => strength_c (S := S) (w0 := w0) (L := L) b hb
  have hj : stronger a b = stronger a b := rfl
  conv at hj => rhs; rw [stronger]
  generalize strOf (kindOf a) = x at *
  generalize strOf (kindOf b) = y at *
  have hj' := Lib.hid hj
  clear hj
  refine Fn2 Try.func58 Try.ntmps58 rfl rfl ?_
  repeat' (first | refine G_seq ?_ | refine G_then_n ?_ | refine G_then_r ?_ | refine G_skip ?_ | refine G_ret ?_ | ((refine G_region (id := 0) ?_ <;> (try (refine G_op1 ?_; ((apply K1_ev; exact rfl; ((focus (exact E_assign rfl))))))) <;> (try (refine G_nil ?_)))) | ((refine G_region (id := 1) ?_ <;> (try (refine G_op1 ?_; ((apply K1_ev; exact rfl; ((focus (exact E_move rfl))))))) <;> (try (refine G_op1 ?_; (((refine K1_call (F := 68) (by kernel_rfl) rfl rfl (h2 _) ?_; rintro _ _ ⟨rfl, rfl⟩))))) <;> (try (refine G_op1 ?_; ((apply K1_ev; exact rfl; ((focus (exact E_move rfl))))))) <;> (try (refine G_op1 ?_; (((refine K1_call (F := 68) (by kernel_rfl) rfl rfl (h1 _) ?_; rintro _ _ ⟨rfl, rfl⟩))))) <;> (try (refine G_op1 ?_; ((apply K1_ev; exact rfl; ((focus ((apply E_bin (op := .gtr) (t := 3); exact rfl; exact rfl; exact rfl; ((focus (exact rb_gtr))))))))))) <;> (try (refine G_nil ?_)))) | ((refine G_region (id := 2) ?_ <;> (try (refine G_op1 ?_; ((apply K1_ev; exact rfl; ((focus (exact E_move rfl))))))) <;> (try (refine G_op1 ?_; ((apply K1_ev; exact rfl; ((focus (exact E_assign rfl))))))) <;> (try (refine G_nil ?_)))) | ((refine G_region (id := 3) ?_ <;> (try (refine G_op1 ?_; ((apply K1_ev; exact rfl; ((focus (exact E_move rfl))))))) <;> (try (refine G_op1 ?_; ((apply K1_ev; exact rfl; ((focus (exact E_assign rfl))))))) <;> (try (refine G_nil ?_)))) | ((((refine G_cond_d rfl (fun hc => ?_) (fun hc => ?_))) <;> (try subst hc))))
  all_goals
    (refine G_done Try.results58 (.tmp rfl .nil) ?_)
    refine ⟨_, ⟨?_, rfl⟩, fun _ H => H⟩
    show Value.int _ _ = _
    rw [hj'.out]
    clear h1 h2
    simp [*]
def refStr (a : Int) : Int := if a / 65536 = 5 then 2 else if a / 65536 = 32764 then 1 else if a / 65536 = 32767 then 0 else 3
set_option maxRecDepth 100000 in
theorem refStr_c {S w0 L} (a : Int) (h : 0 ≤ a ∧ a < 4294967296) : Fn Try.prog 57 #[.int .u32 a] S w0 L fun v L' => v = .int .i64 (refStr a) ∧ L = L' := by
  refine Fn1 Try.func57 Try.ntmps57 rfl rfl ?_
  repeat' (first | refine G_seq ?_ | refine G_then_n ?_ | refine G_then_r ?_ | refine G_blk_n ?_ | refine G_blk_r ?_ | refine G_block ?_ | refine G_skip ?_ | refine G_ret ?_ | ((refine G_region (id := 0) ?_ <;> (try (refine G_op1 ?_; ((apply K1_ev; exact rfl; ((focus (exact E_assign rfl))))))) <;> (try (refine G_nil ?_)))) | ((refine G_region (id := 1) ?_ <;> (try (refine G_op1 ?_; ((apply K1_ev; exact rfl; ((focus (exact E_move rfl))))))) <;> (try (refine G_op1 ?_; ((apply K1_ev; exact rfl; ((focus ((apply E_bin (op := .quo) (t := 25); exact rfl; exact rfl; exact rfl; ((focus ((apply rb_quo; (focus omega); (focus omega); (((focus ((try simp only [Int.reduceAdd]); (try simp only [Int.reduceSub]); (try simp only [Int.reduceMul]); (try simp only [Int.reduceMod]); (try simp only [Int.reduceDiv]); exact rfl)))); (((focus (refine IntWalk.u32_in _ ?_; omega)))))))))))))))) <;> (try (refine G_nil ?_)))) | ((refine G_region (id := 2) ?_ <;> (try (refine G_op1 ?_; ((apply K1_ev; exact rfl; ((focus ((apply E_bin (op := .eql) (t := 25); exact rfl; exact rfl; exact rfl; ((focus (exact rb_eql))))))))))) <;> (try (refine G_op1 ?_; ((apply K1_ev; exact rfl; ((focus (exact E_assign rfl))))))) <;> (try (refine G_nil ?_)))) | ((refine G_region (id := 3) ?_ <;> (try (refine G_op1 ?_; ((apply K1_ev; exact rfl; ((focus (exact E_assign rfl))))))) <;> (try (refine G_nil ?_)))) | ((refine G_region (id := 4) ?_ <;> (try (refine G_op1 ?_; ((apply K1_ev; exact rfl; ((focus ((apply E_bin (op := .eql) (t := 25); exact rfl; exact rfl; exact rfl; ((focus (exact rb_eql))))))))))) <;> (try (refine G_op1 ?_; ((apply K1_ev; exact rfl; ((focus (exact E_assign rfl))))))) <;> (try (refine G_nil ?_)))) | ((refine G_region (id := 5) ?_ <;> (try (refine G_op1 ?_; ((apply K1_ev; exact rfl; ((focus (exact E_assign rfl))))))) <;> (try (refine G_nil ?_)))) | ((refine G_region (id := 6) ?_ <;> (try (refine G_op1 ?_; ((apply K1_ev; exact rfl; ((focus ((apply E_bin (op := .eql) (t := 25); exact rfl; exact rfl; exact rfl; ((focus (exact rb_eql))))))))))) <;> (try (refine G_op1 ?_; ((apply K1_ev; exact rfl; ((focus (exact E_assign rfl))))))) <;> (try (refine G_nil ?_)))) | ((refine G_region (id := 7) ?_ <;> (try (refine G_op1 ?_; ((apply K1_ev; exact rfl; ((focus (exact E_assign rfl))))))) <;> (try (refine G_nil ?_)))) | ((refine G_region (id := 8) ?_ <;> (try (refine G_op1 ?_; ((apply K1_ev; exact rfl; ((focus (exact E_assign rfl))))))) <;> (try (refine G_nil ?_)))) | ((((refine G_cond_d rfl (fun hc => ?_) (fun hc => ?_))) <;> (try subst hc))))
  all_goals
    (refine G_done Try.results57 (.tmp rfl .nil) ?_)
    refine ⟨_, ⟨?_, rfl⟩, fun _ H => H⟩
    show Value.int _ _ = _
    rw [refStr]; simp [*]
def refStronger (a b : Int) : Int := if refStr b > refStr a then b else a
set_option maxRecDepth 100000 in
theorem refStronger_c {S w0 L} (a b : Int) (h : 0 ≤ a ∧ a < 4294967296) (hb : 0 ≤ b ∧ b < 4294967296) : Fn Try.prog 40 #[.int .u32 a, .int .u32 b] S w0 L fun v L' => v = .int .u32 (refStronger a b) ∧ L = L' := by
  have h1 := fun (L : List Blk) => refStr_c (S := S) (w0 := w0) (L := L) a h
  have h2 := fun (L : List Blk) => refStr_c (S := S) (w0 := w0) (L := L) b hb
  have hj : refStronger a b = refStronger a b := rfl
  conv at hj => rhs; rw [refStronger]
  generalize refStr a = x at *
  generalize refStr b = y at *
  have hj' := Lib.hid hj
  clear hj
  refine Fn2 Try.func40 Try.ntmps40 rfl rfl ?_
  repeat' (first | refine G_seq ?_ | refine G_then_n ?_ | refine G_then_r ?_ | refine G_skip ?_ | refine G_ret ?_ | ((refine G_region (id := 0) ?_ <;> (try (refine G_op1 ?_; ((apply K1_ev; exact rfl; ((focus (exact E_assign rfl))))))) <;> (try (refine G_nil ?_)))) | ((refine G_region (id := 1) ?_ <;> (try (refine G_op1 ?_; ((apply K1_ev; exact rfl; ((focus (exact E_move rfl))))))) <;> (try (refine G_op1 ?_; (((refine K1_call (F := 57) (by kernel_rfl) rfl rfl (h2 _) ?_; rintro _ _ ⟨rfl, rfl⟩))))) <;> (try (refine G_op1 ?_; ((apply K1_ev; exact rfl; ((focus (exact E_move rfl))))))) <;> (try (refine G_op1 ?_; (((refine K1_call (F := 57) (by kernel_rfl) rfl rfl (h1 _) ?_; rintro _ _ ⟨rfl, rfl⟩))))) <;> (try (refine G_op1 ?_; ((apply K1_ev; exact rfl; ((focus ((apply E_bin (op := .gtr) (t := 3); exact rfl; exact rfl; exact rfl; ((focus (exact rb_gtr))))))))))) <;> (try (refine G_nil ?_)))) | ((refine G_region (id := 2) ?_ <;> (try (refine G_op1 ?_; ((apply K1_ev; exact rfl; ((focus (exact E_move rfl))))))) <;> (try (refine G_op1 ?_; ((apply K1_ev; exact rfl; ((focus (exact E_assign rfl))))))) <;> (try (refine G_nil ?_)))) | ((refine G_region (id := 3) ?_ <;> (try (refine G_op1 ?_; ((apply K1_ev; exact rfl; ((focus (exact E_move rfl))))))) <;> (try (refine G_op1 ?_; ((apply K1_ev; exact rfl; ((focus (exact E_assign rfl))))))) <;> (try (refine G_nil ?_)))) | ((((refine G_cond_d rfl (fun hc => ?_) (fun hc => ?_))) <;> (try subst hc))))
  all_goals
    (refine G_done Try.results40 (.tmp rfl .nil) ?_)
    refine ⟨_, ⟨?_, rfl⟩, fun _ H => H⟩
    show Value.int _ _ = _
    rw [hj'.out]
    clear h1 h2
    simp [*]
theorem nat_xor_mod (x n : Nat) : x ^^^ (x % 2 ^ n) = x - x % 2 ^ n := by
  have e : x ^^^ (x % 2 ^ n) = (x >>> n) <<< n := by
    apply Nat.eq_of_testBit_eq
    intro i
    rw [Nat.testBit_xor, Nat.testBit_mod_two_pow, Nat.testBit_shiftLeft, Nat.testBit_shiftRight]
    by_cases h : i < n
    · have h2 : ¬ n ≤ i := by omega
      simp [h, h2]
    · have h2 : n ≤ i := by omega
      have h3 : n + (i - n) = i := by omega
      simp [h, h2, h3]
  rw [e, Nat.shiftLeft_eq, Nat.shiftRight_eq_div_pow]
  have := Nat.div_add_mod x (2 ^ n)
  rw [Nat.mul_comm] at this
  omega
theorem iandn_mask (a : Int) (n : Nat) (h : 0 ≤ a) : iandn a (2 ^ n - 1) = a - a % 2 ^ n := by
  obtain ⟨x, rfl⟩ : ∃ x : Nat, a = x := ⟨a.toNat, by omega⟩
  have h2 : ((2 : Int) ^ n - 1).toNat = 2 ^ n - 1 := by
    have : ((2 ^ n : Nat) : Int) = (2 : Int) ^ n := by simp
    have h3 := Nat.two_pow_pos n
    omega
  unfold iandn
  rw [h2, Int.toNat_natCast, Nat.and_two_pow_sub_one_eq_mod, nat_xor_mod]
  have h3 := Nat.mod_le x (2 ^ n)
  have h4 : ((x % 2 ^ n : Nat) : Int) = (x : Int) % 2 ^ n := by simp
  omega
theorem str_eq (a : Int) (h : 0 ≤ a ∧ a < 4294967296) : strOf (kindOf a) = refStr a := by
  have e := iandn_mask a 16 h.1
  rw [show (2 : Int) ^ 16 - 1 = 65535 from rfl, show (2 : Int) ^ 16 = 65536 from rfl] at e
  unfold strOf kindOf refStr
  rw [e]
  (repeat' split) <;> omega
theorem stronger_eq (a b : Int) (h : 0 ≤ a ∧ a < 4294967296) (hb : 0 ≤ b ∧ b < 4294967296) : stronger a b = refStronger a b := by
  rw [stronger, refStronger, str_eq a h, str_eq b hb]
end Go.Proofs.Ytcimcihhpkedfaa
