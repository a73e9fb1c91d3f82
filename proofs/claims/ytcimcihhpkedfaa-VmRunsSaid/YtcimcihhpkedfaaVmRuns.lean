/- The law VmRuns returns true at every input and leaves its arguments as they were. No condition. -/
import Derived.Test.YtcimcihhpkedfaaLawVa
import Derived.Test.YtcimcihhpkedfaaOpnI
import Derived.Test.YtcimcihhpkedfaaOpnR
import Derived.Test.YtcimcihhpkedfaaGl6
namespace Go.Proofs.Ytcimcihhpkedfaa
open Go.ChangeShapes Go.WideShapes Go.ChangeAt Go.RowKit

theorem ownVmRuns : ownKnob Try.prog.godebug = none := by kernel_rfl
theorem laidVmRuns : laidOutB Try.prog = true := by kernel_rfl

set_option maxRecDepth 100000 in
theorem vmRuns_lifted (os : Os) (started : os.Started) (H : Type) (enc : TypeId × Value → H) :
    ReturnsInHanded {} Try.checked os 11 .any (Rows.vmRunsSpec.pre6 enc Try.prog Try.f11 Rows.vmRunsRow.domain false) (Rows.vmRunsSpec.post enc Try.prog Try.f11 false true false false) := by
  refine returnsInHanded_of_change (C := Try.checked) ownVmRuns started (by kernel_rfl) Try.func11
    (ChangeSpec.witness6 (enc := enc) (C := Try.checked) false ⟨#[], #[.slice none 0 0, .slice none 0 0, .int .u8 0, .slice none 0 0], []⟩ 8 (by kernel_rfl) (by kernel_rfl) (by kernel_rfl) (by kernel_rfl)) ?_
  intro W base args ds gs before hval0 hW hcnd _
  have hval : ∀ (j : Nat) t v, Try.f11.params[j]? = some t → args[j]? = some v → Value.okWide Try.prog W .any base t v := hval0
  have hW' := hW
  obtain ⟨p, q, hA0, hV, rfl, hfz, hnd⟩ := hW
  have hA : DataW.TrodAll enc Try.prog W 0 (fun _ => true) true Try.f11.params.toList args.toList ds p := hA0
  rw [Try.params11] at hA hval
  obtain ⟨v0, vs0, d0, ds0, p0, q0, hargs, rfl, rfl, h0, r0⟩ := trodAll_cons hA
  obtain ⟨v1, vs1, d1, ds1, p1, q1, rfl, rfl, rfl, h1, r1⟩ := trodAll_cons r0
  obtain ⟨v2, vs2, d2, ds2, p2, q2, rfl, rfl, rfl, h2, r2⟩ := trodAll_cons r1
  obtain ⟨v3, vs3, d3, ds3, p3, q3, rfl, rfl, rfl, h3, r3⟩ := trodAll_cons r2
  obtain ⟨rfl, rfl, rfl⟩ := trodAll_nil r3
  obtain rfl : args = #[v0, v1, v2, v3] := by cases args; simp_all
  obtain ⟨rfl, rfl⟩ := trodVars_none hV
  have k0 := h0
  have lt0 : ∀ x ∈ p0, x.block < W.heap.size := by obtain ⟨m, hm⟩ := k0; exact DataW.trod_lt m _ _ _ hm
  have k1 := h1
  have lt1 : ∀ x ∈ p1, x.block < W.heap.size := by obtain ⟨m, hm⟩ := k1; exact DataW.trod_lt m _ _ _ hm
  have k2 := h2
  have lt2 : ∀ x ∈ p2, x.block < W.heap.size := by obtain ⟨m, hm⟩ := k2; exact DataW.trod_lt m _ _ _ hm
  have k3 := h3
  have lt3 : ∀ x ∈ p3, x.block < W.heap.size := by obtain ⟨m, hm⟩ := k3; exact DataW.trod_lt m _ _ _ hm
  obtain ⟨a2, rfl, rfl, rfl, w2⟩ := open_int Try.underlying5 (hval 2 5 v2 rfl rfl) h2
  have b2 := wf_u8 w2
  obtain ⟨A0, len0, C0, rfl⟩ := okWide_slice Try.underlying24 (hval 0 24 v0 rfl rfl)
  obtain ⟨f0, hf0⟩ := h0
  obtain ⟨a0, B0, rfl, b0, s0, ro0, m0, q0⟩ := slice_list (cells := Ins.cells) (ok := Ins.ok) Try.underlying24 (sz := 4) (by kernel_rfl) (by omega) (fun _ _ => rfl) (fun _ _ _ h => ins_openI h) (by simpa [Value.cells] using hf0)
  obtain ⟨A1, len1, C1, rfl⟩ := okWide_slice Try.underlying36 (hval 1 36 v1 rfl rfl)
  obtain ⟨f1, hf1⟩ := h1
  obtain ⟨a1, B1, rfl, b1, s1, ro1, m1, q1⟩ := slice_list (cells := Sml.cells) (ok := Sml.ok) Try.underlying36 (sz := 9) (by kernel_rfl) (by omega) (fun _ _ => rfl) (fun _ _ _ h => small_open h) (by simpa [Value.cells] using hf1)
  obtain ⟨A3, len3, C3, rfl⟩ := okWide_slice Try.underlying69 (hval 3 69 v3 rfl rfl)
  obtain ⟨f3, hf3⟩ := h3
  obtain ⟨a3, B3, rfl, b3, s3, ro3, m3, q3⟩ := slice_list (cells := Rec.cells) (ok := Rec.ok) Try.underlying69 (sz := 9) (by kernel_rfl) (by omega) (fun _ h => rec_lenR h) (fun _ _ _ h => rec_openR h) (by simpa [Value.cells] using hf3)
  have S0 := (Sli.left (L := (B1 ++ B3)) s0)
  have S1 := ((Sli.left (L := B3) s1)).upA B0
  have S3 := ((s3).upA B1).upA B0
  clear hA0 hval0
  refine ((vmRuns_c (S := []) (w0 := W) (L := (B0 ++ (B1 ++ B3))) a0 b0 m0 A0 C0 S0 a1 b1 m1 A1 C1 S1 a2 b2 a3 b3 A3 C3 S3).out W (HP.ro (ro0.app (ro1.app ro3)))).mono fun e W' ⟨v, L', he, ⟨hv, _⟩, H'⟩ => ?_
  subst he hv
  have bel := H'.below
  exact ⟨_, rfl, _, _, _, [], _, [], hW', trodAll_mk1 (shut_bool Try.underlying4 _), (trodAll_cons_mk (Below.trod laidVmRuns (by kernel_rfl) (of_decide_eq_true (by kernel_rfl)) k0 bel lt0) (trodAll_cons_mk (Below.trod laidVmRuns (by kernel_rfl) (of_decide_eq_true (by kernel_rfl)) k1 bel lt1) (trodAll_cons_mk (Below.trod laidVmRuns (by kernel_rfl) (of_decide_eq_true (by kernel_rfl)) k2 bel lt2) (trodAll_cons_mk (Below.trod laidVmRuns (by kernel_rfl) (of_decide_eq_true (by kernel_rfl)) k3 bel lt3) trodAll_mk0)))), rfl, bel.frame _, fun h => by cases h⟩

theorem vmRuns_holds : Rows.VmRunsSaid :=
  OpenClaim.holds_of_wide 11 Try.f11 rfl rfl rfl rfl rfl rfl rfl ⟨rfl, rfl, rfl, rfl, rfl⟩ rfl rfl rfl rfl rfl (by kernel_rfl) Try.func11 (by kernel_rfl)
    (of_decide_eq_true (by kernel_rfl)) (by unfold Func.isWrapper; first | (rw [if_pos (by decide +kernel)]; kernel_rfl) | (rw [if_neg (by decide +kernel)]; exact ⟨rfl, rfl⟩))
    (fun os started H enc _ => vmRuns_lifted os started H enc)
#print axioms vmRuns_holds
end Go.Proofs.Ytcimcihhpkedfaa
