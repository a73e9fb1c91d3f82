/- (*atomic.Int64).Load, Add. -/
import Derived.Test.YtpbpgbkpciffgaaAtm
import Derived.Test.YtpbpgbkpciffgaaTys
namespace Go.Proofs.Ytpbpgbkpciffgaa
open Go Go.RowKit
set_option maxRecDepth 100000 in
theorem aadd_c {S w0 L} (b off T : Nat) (cs : List Value) (u v : Int) (hv : cs.toArray.toList[off]? = some (.int .i64 u)) : Fn Try.prog 45 #[.pointer (some ⟨b, off, none⟩), .int .i64 v] S w0 (⟨true, b, .cells cs.toArray T (0, 0)⟩ :: L) fun r L' => r = .int .i64 (IntKind.i64.wrap (u + v)) ∧ ⟨true, b, .cells (cs.set off (.int .i64 (IntKind.i64.wrap (u + v)))).toArray T (0, 0)⟩ :: L = L' := by
  refine Fn2 Try.func45 Try.ntmps45 rfl rfl ?_
  repeat' (first | refine G_seq ?_ | refine G_then_n ?_ | refine G_ret ?_ | ((refine G_region (id := 0) ?_ <;> (try (refine G_op1 ?_; ((apply K1_ev; exact rfl; ((focus (exact E_assign rfl))))))) <;> (try (refine G_nil ?_)))) | ((refine G_region (id := 1) ?_ <;> (try (refine G_op1 ?_; ((apply K1_ev; exact rfl; ((focus (exact E_move rfl))))))) <;> (try (refine G_op1 ?_; ((apply K1_ev; exact rfl; ((focus (exact E_nilCheck rfl))))))) <;> (try (refine G_op1 ?_; ((apply K1_ev; exact rfl; ((focus ((apply E_fieldAddr; exact rfl; ((focus (apply r_fieldAt fo_114_2; (try simp only [Int.toNat_natCast]); (try simp only [Int.reduceToNat]); (try simp only [Nat.mul_one]); (try simp only [Nat.zero_mul]); (try simp only [Nat.reduceMul]); (try simp only [Nat.zero_add]); (try simp only [Nat.add_zero]); (try simp only [Nat.reduceAdd]); exact rfl))))))))))) <;> (try (refine G_op1 ?_; ((apply K1_ev; exact rfl; ((focus (exact E_move rfl))))))) <;> (try (refine G_op1 ?_; (((refine K1_aadd (i := 0) Try.func65 (by kernel_rfl) (by kernel_rfl) (by kernel_rfl) (by kernel_rfl) rfl rfl rfl rfl hv ?_; (try simp only [List.set_cons_zero]); (try simp only [List.setIfInBounds_toArray])))))) <;> (try (refine G_op1 ?_; ((apply K1_ev; exact rfl; ((focus (exact E_assign rfl))))))) <;> (try (refine G_nil ?_)))))
  (refine G_done Try.results45 (.tmp rfl .nil) ?_)
  exact ⟨_, ⟨rfl, rfl⟩, fun _ H => H⟩
end Go.Proofs.Ytpbpgbkpciffgaa
