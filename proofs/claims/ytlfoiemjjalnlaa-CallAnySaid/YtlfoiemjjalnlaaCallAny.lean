/- The law CallAny returns true at every input and leaves its arguments as they were. No condition. -/
import Derived.Test.YtlfoiemjjalnlaaLawL3
import Derived.Test.YtlfoiemjjalnlaaOpnL
import Derived.Test.YtlfoiemjjalnlaaOpnW
import Derived.SizedLaws
import Derived.Test.YtlfoiemjjalnlaaGl6
namespace Go.Proofs.Ytlfoiemjjalnlaa
open Go.ChangeShapes Go.WideShapes Go.ChangeAt Go.RowKit

theorem ownCallAny : ownKnob Try.prog.godebug = none := by kernel_rfl
theorem laidCallAny : laidOutB Try.prog = true := by kernel_rfl

set_option maxRecDepth 100000 in
theorem callAny_lifted (os : Os) (started : os.Started) (H : Type) (enc : TypeId × Value → H) :
    ReturnsInHanded {} Try.checked os 3 .any (Rows.callAnySpec.pre6 enc Try.prog Try.f3 Rows.callAnyRow.domain false) (Rows.callAnySpec.post enc Try.prog Try.f3 false true false false) := by
  refine returnsInHanded_of_change_sized (C := Try.checked) ownCallAny started (by kernel_rfl) Try.func3
    (ChangeSpec.witness6 (enc := enc) (C := Try.checked) false ⟨#[], #[.slice none 0 0, .slice none 0 0], []⟩ 8 (by kernel_rfl) (by kernel_rfl) (by kernel_rfl) (by kernel_rfl)) ?_
  intro W base args ds gs before hval0 hW hcnd hsz0 _
  have hsz : (DataW.weightsEach Try.prog (Try.f3.params.toList ++ Rows.callAnySpec.plain.varTypes Try.prog) (ds ++ gs)).all (· ≤ reachBytes) = true := hsz0
  have hval : ∀ (j : Nat) t v, Try.f3.params[j]? = some t → args[j]? = some v → Value.okWide Try.prog W .any base t v := hval0
  have hW' := hW
  obtain ⟨p, q, hA0, hV, rfl, hfz, hnd⟩ := hW
  have hA : DataW.TrodAll enc Try.prog W 0 (fun _ => true) true Try.f3.params.toList args.toList ds p := hA0
  rw [Try.params3] at hA hval hsz
  obtain ⟨v0, vs0, d0, ds0, p0, q0, hargs, rfl, rfl, h0, r0⟩ := trodAll_cons hA
  obtain ⟨v1, vs1, d1, ds1, p1, q1, rfl, rfl, rfl, h1, r1⟩ := trodAll_cons r0
  obtain ⟨rfl, rfl, rfl⟩ := trodAll_nil r1
  obtain rfl : args = #[v0, v1] := by cases args; simp_all
  obtain ⟨rfl, rfl⟩ := trodVars_none hV
  have k0 := h0
  have lt0 : ∀ x ∈ p0, x.block < W.heap.size := by obtain ⟨m, hm⟩ := k0; exact DataW.trod_lt m _ _ _ hm
  have k1 := h1
  have lt1 : ∀ x ∈ p1, x.block < W.heap.size := by obtain ⟨m, hm⟩ := k1; exact DataW.trod_lt m _ _ _ hm
  obtain ⟨A0, len0, C0, rfl⟩ := okWide_slice Try.underlying22 (hval 0 22 v0 rfl rfl)
  obtain ⟨f0, hf0⟩ := h0
  obtain ⟨a0, B0, rfl, b0, s0, ro0, m0, q0⟩ := slice_list (cells := u8v) (ok := u8ok) Try.underlying22 (sz := 1) (by kernel_rfl) (by omega) (fun _ _ => rfl) (fun _ _ _ h => u8_open h) (by simpa [Value.cells] using hf0)
  have y0 := slice_len_w (m := 140737488351232) Try.underlying22 (by simpa [Value.cells] using hf0) (by kernel_rfl) (fun n hn => of_decide_eq_true (List.all_eq_true.1 hsz n (DataW.weights_mem_each (j := 0) rfl rfl n hn)))
  obtain ⟨A1, len1, C1, rfl⟩ := okWide_slice Try.underlying22 (hval 1 22 v1 rfl rfl)
  obtain ⟨f1, hf1⟩ := h1
  obtain ⟨a1, B1, rfl, b1, s1, ro1, m1, q1⟩ := slice_list (cells := u8v) (ok := u8ok) Try.underlying22 (sz := 1) (by kernel_rfl) (by omega) (fun _ _ => rfl) (fun _ _ _ h => u8_open h) (by simpa [Value.cells] using hf1)
  have y1 := slice_len_w (m := 140737488351232) Try.underlying22 (by simpa [Value.cells] using hf1) (by kernel_rfl) (fun n hn => of_decide_eq_true (List.all_eq_true.1 hsz n (DataW.weights_mem_each (j := 1) rfl rfl n hn)))
  have S0 := (Sli.left (L := B1) s0)
  have S1 := (s1).upA B0
  clear hA0 hval0
  refine ((callAny_c (S := []) (w0 := W) (L := (B0 ++ B1)) a0 b0 A0 a0.length C0 (by rw [← u8v_flat]; exact S0) q0.1 q0.2 a1 b1 A1 a1.length C1 (by rw [← u8v_flat]; exact S1) y1).out W (HP.ro (ro0.app ro1))).mono fun e W' ⟨v, L', he, ⟨hv, _⟩, H'⟩ => ?_
  subst he hv
  have bel := H'.below
  exact ⟨_, rfl, _, _, _, [], _, [], hW', trodAll_mk1 (shut_bool Try.underlying4 _), (trodAll_cons_mk (Below.trod laidCallAny (by kernel_rfl) (of_decide_eq_true (by kernel_rfl)) k0 bel lt0) (trodAll_cons_mk (Below.trod laidCallAny (by kernel_rfl) (of_decide_eq_true (by kernel_rfl)) k1 bel lt1) trodAll_mk0)), rfl, bel.frame _, fun h => by cases h⟩

theorem callAny_holds : Rows.CallAnySaid :=
  OpenClaim.holds_of_wide 3 Try.f3 rfl rfl rfl rfl rfl rfl rfl ⟨rfl, rfl, rfl, rfl, rfl⟩ rfl rfl rfl rfl rfl (by kernel_rfl) Try.func3 (by kernel_rfl)
    (of_decide_eq_true (by kernel_rfl)) (by unfold Func.isWrapper; first | (rw [if_pos (by decide +kernel)]; kernel_rfl) | (rw [if_neg (by decide +kernel)]; exact ⟨rfl, rfl⟩))
    (fun os started H enc _ => callAny_lifted os started H enc)
#print axioms callAny_holds
end Go.Proofs.Ytlfoiemjjalnlaa
