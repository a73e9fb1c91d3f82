/- Instructions as data; the makers of instructions (for seats that do not reach check). -/
import Derived.Test.YtojkmhfpnkhfaaaTys
import Derived.Test.YtojkmhfpnkhfaaaGl5
namespace Go.Proofs.Ytojkmhfpnkhfaaa
open Go Go.RowKit
theorem iand7 (c : Int) (h : 0 ≤ c) : iand c 7 = c % 8 := iand_mask c 3 h
set_option maxRecDepth 100000 in
theorem class_c {S w0 L} (c : Int) (h : 0 ≤ c ∧ c < 65536) : Fn Try.prog 26 #[.int .u16 c] S w0 L fun v L' => v = .int .u16 (c % 8) ∧ L = L' := by
  refine Fn1 Try.func26 Try.ntmps26 rfl rfl ?_
  repeat' (first | refine G_seq ?_ | refine G_then_n ?_ | refine G_ret ?_ | ((refine G_region (id := 0) ?_ <;> (try (refine G_op1 ?_; ((apply K1_ev; exact rfl; ((focus (exact E_assign rfl))))))) <;> (try (refine G_nil ?_)))) | ((refine G_region (id := 1) ?_ <;> (try (refine G_op1 ?_; ((apply K1_ev; exact rfl; ((focus (exact E_move rfl))))))) <;> (try (refine G_op1 ?_; ((apply K1_ev; exact rfl; ((focus ((apply E_bin (op := .and) (t := 22); exact rfl; exact rfl; exact rfl; ((focus ((refine rb_and ?_ ?_; (((focus ((refine ⟨rfl, ⟨?_, ?_⟩⟩; (focus omega); ((((focus (simp only [IntKind.bits]; omega)))))))))); (((focus ((refine ⟨rfl, ⟨?_, ?_⟩⟩; (focus omega); ((((focus (simp only [IntKind.bits]; omega)))))))))))))))))))))) <;> (try (refine G_op1 ?_; ((apply K1_ev; exact rfl; ((focus (exact E_assign rfl))))))) <;> (try (refine G_nil ?_)))))
  refine G_done Try.results26 (.tmp rfl .nil) ⟨L, ⟨?_, rfl⟩, fun _ H => H⟩
  rw [iand7 c h.1]; rfl
structure Ins where
  code : Int
  jt : Int
  jf : Int
  k : Int
def Ins.cells (i : Ins) : List Value := [.int .u16 i.code, .int .u8 i.jt, .int .u8 i.jf, .int .u32 i.k]
def Ins.v (i : Ins) : Value := .agg #[.int .u16 i.code, .int .u8 i.jt, .int .u8 i.jf, .int .u32 i.k]
structure Ins.ok (i : Ins) : Prop where
  c : 0 ≤ i.code ∧ i.code < 65536
  t : 0 ≤ i.jt ∧ i.jt < 256
  f : 0 ≤ i.jf ∧ i.jf < 256
  k : 0 ≤ i.k ∧ i.k < 4294967296
def flat (l : List Ins) : List Value := l.flatMap Ins.cells
theorem flat_len (l : List Ins) : (flat l).length = l.length * 4 := by
  induction l with
  | nil => rfl
  | cons i l ih => simp only [flat, List.flatMap_cons, List.length_append] at ih ⊢; rw [ih]; simp [Ins.cells]; omega
theorem flat_at (l : List Ins) (k : Nat) (h : k < l.length) : ((flat l).drop (k * 4)).take 4 = (l[k]).cells := by
  induction l generalizing k with
  | nil => simp at h
  | cons i l ih =>
    cases k with
    | zero => simp [flat, List.flatMap_cons, Ins.cells]
    | succ k =>
      have := ih k (by simpa using h)
      simp only [flat, List.flatMap_cons, List.getElem_cons_succ] at this ⊢
      have e : (k + 1) * 4 = i.cells.length + k * 4 := by simp [Ins.cells]; omega
      rw [e, ← List.drop_drop, List.drop_left]; exact this

set_option maxRecDepth 100000 in
theorem return_c {S w0 L} (k : Int) : Fn Try.prog 24 #[.int .u32 k] S w0 L fun v L' => v = (Ins.mk 6 0 0 k).v ∧ L = L' := by
  refine Fn1 Try.func24 Try.ntmps24 rfl rfl ?_
  repeat' (first | refine G_seq ?_ | refine G_then_n ?_ | refine G_ret ?_ | ((refine G_region (id := 0) ?_ <;> (try (refine G_op1 ?_; ((refine K1_alloc (t := 63) rfl Try.zeroValue63 ?_; intro nb hnb; (try simp only [Value.cells]))))) <;> (try (refine G_nil ?_)))) | ((refine G_region (id := 1) ?_ <;> (try (refine G_op1 ?_; ((apply K1_ev; exact rfl; ((focus (exact E_move rfl))))))) <;> (try (refine G_op1 ?_; ((apply K1_ev; exact rfl; ((focus (exact E_build (t := 63) (fun (vs : List (Nat × Value)) => (match vs with | [(_, x0), (_, x1)] => [x0, Value.int .u8 0, Value.int .u8 0, x1] | _ => [] : List Value)) rfl (fun w => by kernel_rfl)))); (try simp only [Value.cells]); (try simp only [List.cons_append]); (try simp only [List.nil_append]))))) <;> (try (refine G_op1 ?_; (((apply K1_storeW (t := 63); exact rfl; exact rfl; (((focus (repeat (exact fd0))))); kernel_rfl; (((focus (exact rfl)))); (((focus (exact rfl)))); (try simp only [List.set_cons_succ]); (try simp only [List.set_cons_zero])))))) <;> (try (refine G_nil ?_)))))
  (apply G_doneA Try.results24; exact rfl; (((focus (repeat (first | exact fd0 | (with_reducible assumption) | apply fdA | apply fdS))))); kernel_rfl; kernel_rfl; exact sz_63; ((focus (first | (with_reducible assumption) | exact rfl | (simp; done)))))
  exact ⟨L, ⟨rfl, rfl⟩, (by intro w H; repeat (first | exact H | replace H := H.tail | replace H := H.dropA))⟩
set_option maxRecDepth 100000 in
theorem load_c {S w0 L} (k : Int) : Fn Try.prog 47 #[.int .u32 k] S w0 L fun v L' => v = (Ins.mk 32 0 0 k).v ∧ L = L' := by
  refine Fn1 Try.func47 Try.ntmps47 rfl rfl ?_
  repeat' (first | refine G_seq ?_ | refine G_then_n ?_ | refine G_ret ?_ | ((refine G_region (id := 0) ?_ <;> (try (refine G_op1 ?_; ((refine K1_alloc (t := 63) rfl Try.zeroValue63 ?_; intro nb hnb; (try simp only [Value.cells]))))) <;> (try (refine G_nil ?_)))) | ((refine G_region (id := 1) ?_ <;> (try (refine G_op1 ?_; ((apply K1_ev; exact rfl; ((focus (exact E_move rfl))))))) <;> (try (refine G_op1 ?_; ((apply K1_ev; exact rfl; ((focus (exact E_build (t := 63) (fun (vs : List (Nat × Value)) => (match vs with | [(_, x0), (_, x1)] => [x0, Value.int .u8 0, Value.int .u8 0, x1] | _ => [] : List Value)) rfl (fun w => by kernel_rfl)))); (try simp only [Value.cells]); (try simp only [List.cons_append]); (try simp only [List.nil_append]))))) <;> (try (refine G_op1 ?_; (((apply K1_storeW (t := 63); exact rfl; exact rfl; (((focus (repeat (exact fd0))))); kernel_rfl; (((focus (exact rfl)))); (((focus (exact rfl)))); (try simp only [List.set_cons_succ]); (try simp only [List.set_cons_zero])))))) <;> (try (refine G_nil ?_)))))
  (apply G_doneA Try.results47; exact rfl; (((focus (repeat (first | exact fd0 | (with_reducible assumption) | apply fdA | apply fdS))))); kernel_rfl; kernel_rfl; exact sz_63; ((focus (first | (with_reducible assumption) | exact rfl | (simp; done)))))
  exact ⟨L, ⟨rfl, rfl⟩, (by intro w H; repeat (first | exact H | replace H := H.tail | replace H := H.dropA))⟩
set_option maxRecDepth 100000 in
theorem skip_c {S w0 L} (k : Int) : Fn Try.prog 28 #[.int .u32 k] S w0 L fun v L' => v = (Ins.mk 5 0 0 k).v ∧ L = L' := by
  refine Fn1 Try.func28 Try.ntmps28 rfl rfl ?_
  repeat' (first | refine G_seq ?_ | refine G_then_n ?_ | refine G_ret ?_ | ((refine G_region (id := 0) ?_ <;> (try (refine G_op1 ?_; ((refine K1_alloc (t := 63) rfl Try.zeroValue63 ?_; intro nb hnb; (try simp only [Value.cells]))))) <;> (try (refine G_nil ?_)))) | ((refine G_region (id := 1) ?_ <;> (try (refine G_op1 ?_; ((apply K1_ev; exact rfl; ((focus (exact E_move rfl))))))) <;> (try (refine G_op1 ?_; ((apply K1_ev; exact rfl; ((focus (exact E_build (t := 63) (fun (vs : List (Nat × Value)) => (match vs with | [(_, x0), (_, x1)] => [x0, Value.int .u8 0, Value.int .u8 0, x1] | _ => [] : List Value)) rfl (fun w => by kernel_rfl)))); (try simp only [Value.cells]); (try simp only [List.cons_append]); (try simp only [List.nil_append]))))) <;> (try (refine G_op1 ?_; (((apply K1_storeW (t := 63); exact rfl; exact rfl; (((focus (repeat (exact fd0))))); kernel_rfl; (((focus (exact rfl)))); (((focus (exact rfl)))); (try simp only [List.set_cons_succ]); (try simp only [List.set_cons_zero])))))) <;> (try (refine G_nil ?_)))))
  (apply G_doneA Try.results28; exact rfl; (((focus (repeat (first | exact fd0 | (with_reducible assumption) | apply fdA | apply fdS))))); kernel_rfl; kernel_rfl; exact sz_63; ((focus (first | (with_reducible assumption) | exact rfl | (simp; done)))))
  exact ⟨L, ⟨rfl, rfl⟩, (by intro w H; repeat (first | exact H | replace H := H.tail | replace H := H.dropA))⟩
set_option maxRecDepth 100000 in
theorem if_c {S w0 L} (how k jt jf : Int) (h : 0 ≤ how ∧ how < 65536) : Fn Try.prog 27 #[.int .u16 how, .int .u32 k, .int .u8 jt, .int .u8 jf] S w0 L fun v L' => v = (Ins.mk (ior (ior 5 how) 0) jt jf k).v ∧ L = L' := by
  have h1 := ior_lt 5 how 16 (by omega) (by omega)
  refine Fn4 Try.func27 Try.ntmps27 rfl rfl ?_
  repeat' (first | refine G_seq ?_ | refine G_then_n ?_ | refine G_ret ?_ | ((refine G_region (id := 0) ?_ <;> (try (refine G_op1 ?_; ((refine K1_alloc (t := 63) rfl Try.zeroValue63 ?_; intro nb hnb; (try simp only [Value.cells]))))) <;> (try (refine G_nil ?_)))) | ((refine G_region (id := 1) ?_ <;> (try (refine G_op1 ?_; ((apply K1_ev; exact rfl; ((focus (exact E_move rfl))))))) <;> (try (refine G_op1 ?_; ((apply K1_ev; exact rfl; ((focus ((apply E_bin (op := .or) (t := 22); exact rfl; exact rfl; exact rfl; ((focus ((refine rb_or ?_ ?_; (((focus ((refine ⟨rfl, ⟨?_, ?_⟩⟩; (focus omega); ((((focus (simp only [IntKind.bits]; omega)))))))))); (((focus ((refine ⟨rfl, ⟨?_, ?_⟩⟩; (focus omega); ((((focus (simp only [IntKind.bits]; omega)))))))))))))))))))))) <;> (try (refine G_op1 ?_; ((apply K1_ev; exact rfl; ((focus ((apply E_bin (op := .or) (t := 22); exact rfl; exact rfl; exact rfl; ((focus ((refine rb_or ?_ ?_; (((focus ((refine ⟨rfl, ⟨?_, ?_⟩⟩; (focus omega); ((((focus (simp only [IntKind.bits]; omega)))))))))); (((focus ((refine ⟨rfl, ⟨?_, ?_⟩⟩; (focus omega); ((((focus (simp only [IntKind.bits]; omega)))))))))))))))))))))) <;> (try (refine G_op1 ?_; ((apply K1_ev; exact rfl; ((focus (exact E_move rfl))))))) <;> (try (refine G_op1 ?_; ((apply K1_ev; exact rfl; ((focus (exact E_move rfl))))))) <;> (try (refine G_op1 ?_; ((apply K1_ev; exact rfl; ((focus (exact E_move rfl))))))) <;> (try (refine G_op1 ?_; ((apply K1_ev; exact rfl; ((focus (exact E_build (t := 63) (fun (vs : List (Nat × Value)) => (match vs with | [(_, x0), (_, x1), (_, x2), (_, x3)] => [x0, x1, x2, x3] | _ => [] : List Value)) rfl (fun w => by kernel_rfl)))); (try simp only [Value.cells]); (try simp only [List.cons_append]); (try simp only [List.nil_append]))))) <;> (try (refine G_op1 ?_; (((apply K1_storeW (t := 63); exact rfl; exact rfl; (((focus (repeat (exact fd0))))); kernel_rfl; (((focus (exact rfl)))); (((focus (exact rfl)))); (try simp only [List.set_cons_succ]); (try simp only [List.set_cons_zero])))))) <;> (try (refine G_nil ?_)))))
  (apply G_doneA Try.results27; exact rfl; (((focus (repeat (first | exact fd0 | (with_reducible assumption) | apply fdA | apply fdS))))); kernel_rfl; kernel_rfl; exact sz_63; ((focus (first | (with_reducible assumption) | exact rfl | (simp; done)))))
  exact ⟨L, ⟨rfl, rfl⟩, (by intro w H; repeat (first | exact H | replace H := H.tail | replace H := H.dropA))⟩
set_option maxRecDepth 100000 in
theorem mask_c {S w0 L} (k : Int) : Fn Try.prog 48 #[.int .u32 k] S w0 L fun v L' => v = (Ins.mk 84 0 0 k).v ∧ L = L' := by
  refine Fn1 Try.func48 Try.ntmps48 rfl rfl ?_
  repeat' (first | refine G_seq ?_ | refine G_then_n ?_ | refine G_ret ?_ | ((refine G_region (id := 0) ?_ <;> (try (refine G_op1 ?_; ((refine K1_alloc (t := 63) rfl Try.zeroValue63 ?_; intro nb hnb; (try simp only [Value.cells]))))) <;> (try (refine G_nil ?_)))) | ((refine G_region (id := 1) ?_ <;> (try (refine G_op1 ?_; ((apply K1_ev; exact rfl; ((focus (exact E_move rfl))))))) <;> (try (refine G_op1 ?_; ((apply K1_ev; exact rfl; ((focus (exact E_build (t := 63) (fun (vs : List (Nat × Value)) => (match vs with | [(_, x0), (_, x1)] => [x0, Value.int .u8 0, Value.int .u8 0, x1] | _ => [] : List Value)) rfl (fun w => by kernel_rfl)))); (try simp only [Value.cells]); (try simp only [List.cons_append]); (try simp only [List.nil_append]))))) <;> (try (refine G_op1 ?_; (((apply K1_storeW (t := 63); exact rfl; exact rfl; (((focus (repeat (exact fd0))))); kernel_rfl; (((focus (exact rfl)))); (((focus (exact rfl)))); (try simp only [List.set_cons_succ]); (try simp only [List.set_cons_zero])))))) <;> (try (refine G_nil ?_)))))
  (apply G_doneA Try.results48; exact rfl; (((focus (repeat (first | exact fd0 | (with_reducible assumption) | apply fdA | apply fdS))))); kernel_rfl; kernel_rfl; exact sz_63; ((focus (first | (with_reducible assumption) | exact rfl | (simp; done)))))
  exact ⟨L, ⟨rfl, rfl⟩, (by intro w H; repeat (first | exact H | replace H := H.tail | replace H := H.dropA))⟩
end Go.Proofs.Ytojkmhfpnkhfaaa
