/- The law CallBytes returns true at every input and leaves its arguments as they were. No condition. -/
import Derived.Test.YtlfoiemjjalnlaaLawL5
import Derived.Test.YtlfoiemjjalnlaaOpnL
import Derived.Test.YtlfoiemjjalnlaaGl6
namespace Go.Proofs.Ytlfoiemjjalnlaa
open Go.ChangeShapes Go.WideShapes Go.ChangeAt Go.RowKit

theorem ownCallBytes : ownKnob Try.prog.godebug = none := by kernel_rfl
theorem laidCallBytes : laidOutB Try.prog = true := by kernel_rfl

set_option maxRecDepth 100000 in
theorem callBytes_lifted (os : Os) (started : os.Started) (H : Type) (enc : TypeId × Value → H) :
    ReturnsInHanded {} Try.checked os 4 .any (Rows.callBytesSpec.pre6 enc Try.prog Try.f4 Rows.callBytesRow.domain false) (Rows.callBytesSpec.post enc Try.prog Try.f4 false true false false) := by
  refine returnsInHanded_of_change (C := Try.checked) ownCallBytes started (by kernel_rfl) Try.func4
    (ChangeSpec.witness6 (enc := enc) (C := Try.checked) false ⟨#[], #[.slice none 0 0, .slice none 0 0, .slice none 0 0], []⟩ 8 (by kernel_rfl) (by kernel_rfl) (by kernel_rfl) (by kernel_rfl)) ?_
  intro W base args ds gs before hval0 hW hcnd _
  have hval : ∀ (j : Nat) t v, Try.f4.params[j]? = some t → args[j]? = some v → Value.okWide Try.prog W .any base t v := hval0
  have hW' := hW
  obtain ⟨p, q, hA0, hV, rfl, hfz, hnd⟩ := hW
  have hA : DataW.TrodAll enc Try.prog W 0 (fun _ => true) true Try.f4.params.toList args.toList ds p := hA0
  rw [Try.params4] at hA hval
  obtain ⟨v0, vs0, d0, ds0, p0, q0, hargs, rfl, rfl, h0, r0⟩ := trodAll_cons hA
  obtain ⟨v1, vs1, d1, ds1, p1, q1, rfl, rfl, rfl, h1, r1⟩ := trodAll_cons r0
  obtain ⟨v2, vs2, d2, ds2, p2, q2, rfl, rfl, rfl, h2, r2⟩ := trodAll_cons r1
  obtain ⟨rfl, rfl, rfl⟩ := trodAll_nil r2
  obtain rfl : args = #[v0, v1, v2] := by cases args; simp_all
  obtain ⟨rfl, rfl⟩ := trodVars_none hV
  have k0 := h0
  have lt0 : ∀ x ∈ p0, x.block < W.heap.size := by obtain ⟨m, hm⟩ := k0; exact DataW.trod_lt m _ _ _ hm
  have k1 := h1
  have lt1 : ∀ x ∈ p1, x.block < W.heap.size := by obtain ⟨m, hm⟩ := k1; exact DataW.trod_lt m _ _ _ hm
  have k2 := h2
  have lt2 : ∀ x ∈ p2, x.block < W.heap.size := by obtain ⟨m, hm⟩ := k2; exact DataW.trod_lt m _ _ _ hm
  obtain ⟨A0, len0, C0, rfl⟩ := okWide_slice Try.underlying43 (hval 0 43 v0 rfl rfl)
  obtain ⟨f0, hf0⟩ := h0
  obtain ⟨a0, B0, rfl, b0, s0, ro0, m0, q0⟩ := slice_list (cells := CallD.cells) (ok := CallD.ok) Try.underlying43 (sz := 7) (by kernel_rfl) (by omega) (fun _ _ => rfl) (fun _ _ _ h => call_open h) (by simpa [Value.cells] using hf0)
  obtain ⟨A1, len1, C1, rfl⟩ := okWide_slice Try.underlying22 (hval 1 22 v1 rfl rfl)
  obtain ⟨f1, hf1⟩ := h1
  obtain ⟨a1, B1, rfl, b1, s1, ro1, m1, q1⟩ := slice_list (cells := u8v) (ok := u8ok) Try.underlying22 (sz := 1) (by kernel_rfl) (by omega) (fun _ _ => rfl) (fun _ _ _ h => u8_open h) (by simpa [Value.cells] using hf1)
  obtain ⟨A2, len2, C2, rfl⟩ := okWide_slice Try.underlying22 (hval 2 22 v2 rfl rfl)
  obtain ⟨f2, hf2⟩ := h2
  obtain ⟨a2, B2, rfl, b2, s2, ro2, m2, q2⟩ := slice_list (cells := u8v) (ok := u8ok) Try.underlying22 (sz := 1) (by kernel_rfl) (by omega) (fun _ _ => rfl) (fun _ _ _ h => u8_open h) (by simpa [Value.cells] using hf2)
  have S0 := (Sli.left (L := (B1 ++ B2)) s0)
  have S1 := ((Sli.left (L := B2) s1)).upA B0
  have S2 := ((s2).upA B1).upA B0
  clear hA0 hval0
  refine ((callBytes_c (S := []) (w0 := W) (L := (B0 ++ (B1 ++ B2))) a0 b0 m0 A0 C0 S0 a1 b1 m1 A1 C1 (by rw [← u8v_flat]; exact S1) a2 b2 m2 A2 C2 (by rw [← u8v_flat]; exact S2)).out W (HP.ro (ro0.app (ro1.app ro2)))).mono fun e W' ⟨v, L', he, ⟨hv, _⟩, H'⟩ => ?_
  subst he hv
  have bel := H'.below
  exact ⟨_, rfl, _, _, _, [], _, [], hW', trodAll_mk1 (shut_bool Try.underlying4 _), (trodAll_cons_mk (Below.trod laidCallBytes (by kernel_rfl) (of_decide_eq_true (by kernel_rfl)) k0 bel lt0) (trodAll_cons_mk (Below.trod laidCallBytes (by kernel_rfl) (of_decide_eq_true (by kernel_rfl)) k1 bel lt1) (trodAll_cons_mk (Below.trod laidCallBytes (by kernel_rfl) (of_decide_eq_true (by kernel_rfl)) k2 bel lt2) trodAll_mk0))), rfl, bel.frame _, fun h => by cases h⟩

theorem callBytes_holds : Rows.CallBytesSaid :=
  OpenClaim.holds_of_wide 4 Try.f4 rfl rfl rfl rfl rfl rfl rfl ⟨rfl, rfl, rfl, rfl, rfl⟩ rfl rfl rfl rfl rfl (by kernel_rfl) Try.func4 (by kernel_rfl)
    (of_decide_eq_true (by kernel_rfl)) (by unfold Func.isWrapper; first | (rw [if_pos (by decide +kernel)]; kernel_rfl) | (rw [if_neg (by decide +kernel)]; exact ⟨rfl, rfl⟩))
    (fun os started H enc _ => callBytes_lifted os started H enc)
#print axioms callBytes_holds
end Go.Proofs.Ytlfoiemjjalnlaa
