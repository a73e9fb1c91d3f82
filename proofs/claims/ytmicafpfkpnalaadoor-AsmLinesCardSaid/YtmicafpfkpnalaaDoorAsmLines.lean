/- The law AsmLines returns true at every input and leaves its arguments as they were. No condition. -/
import Derived.Test.YtmicafpfkpnalaaDoorLawY3
import Derived.Test.YtmicafpfkpnalaaDoorOpnU
import Derived.Test.YtmicafpfkpnalaaDoorCards
import Derived.Test.YtmicafpfkpnalaaDoorTie
import Derived.SevenTiedAt
import Derived.Lay
import Derived.LaidOnce
import Derived.ProofKit
import Derived.Test.YtmicafpfkpnalaaDoorTab
import Derived.Test.YtmicafpfkpnalaaDoorGl6
namespace Go.Proofs.YtmicafpfkpnalaaDoor
open Go.ChangeShapes Go.WideShapes Go.ChangeAt Go.RowKit

theorem ownAsmLines : ownKnob Tryd.prog.godebug = none := by kernel_rfl
theorem laidAsmLines : laidOutB Tryd.prog = true := by kernel_rfl

set_option maxRecDepth 100000 in
theorem asmLines_lifted (os : Os) (started : os.Started) (H : Type) (enc : TypeId × Value → H) :
    ReturnsInHanded {} Tryd.checked os 4 .any (fun w args => (Rows.asmLinesSpec.pre enc Tryd.prog Tryd.f4 [] false w args ∧ laidMetH Tryd.prog Rows.asmLinesRow.laid w) ∧ sizedMet enc Tryd.prog Tryd.f4 (OpenSpec.ofChange Rows.asmLinesSpec) false w args)
      (Rows.asmLinesSpec.post enc Tryd.prog Tryd.f4 false true false false) := by
  refine returnsInHanded_of_change_and (C := Tryd.checked) (X := fun w _ => laidMetH Tryd.prog Rows.asmLinesRow.laid w) (fun _ _ _ hh h => h.of_heap hh) ownAsmLines started (by kernel_rfl) Tryd.func4
    (ChangeSpec.witness_shaped (enc := enc) (C := Tryd.checked) (os := os) (X := fun w _ => laidMetH Tryd.prog Rows.asmLinesRow.laid w) false (World.laidAll Tryd.prog os Rows.asmLinesRow.laid) #[.slice none 0 0, .int .u8 0] 8 (World.laidAll_os _ _ _)
      (World.shaped_of_ZipB (by kernel_rfl) (by kernel_rfl)) (by kernel_rfl) (by kernel_rfl) (by kernel_rfl)
      (by rw [MakeChecks.laidMetH_plain _ _ _ (by kernel_rfl)]; exact laidMet_laidAll _ (by kernel_rfl) (by kernel_rfl))) ?_
  intro W base args ds gs before hval0 hW _ _ hX _
  have hTab := tab_of hX
  have hval : ∀ (j : Nat) t v, Tryd.f4.params[j]? = some t → args[j]? = some v → Value.okWide Tryd.prog W .any base t v := hval0
  have hW' := hW
  obtain ⟨p, q, hA0, hV, rfl, hfz, hnd⟩ := hW
  have hA : DataW.TrodAll enc Tryd.prog W 0 (fun _ => true) true Tryd.f4.params.toList args.toList ds p := hA0
  rw [Tryd.params4] at hA hval
  obtain ⟨v0, vs0, d0, ds0, p0, q0, hargs, rfl, rfl, h0, r0⟩ := trodAll_cons hA
  obtain ⟨v1, vs1, d1, ds1, p1, q1, rfl, rfl, rfl, h1, r1⟩ := trodAll_cons r0
  obtain ⟨rfl, rfl, rfl⟩ := trodAll_nil r1
  obtain rfl : args = #[v0, v1] := by cases args; simp_all
  obtain ⟨rfl, rfl⟩ := trodVars_none hV
  have k0 := h0
  have lt0 : ∀ x ∈ p0, x.block < W.heap.size := by obtain ⟨m, hm⟩ := k0; exact DataW.trod_lt m _ _ _ hm
  have k1 := h1
  have lt1 : ∀ x ∈ p1, x.block < W.heap.size := by obtain ⟨m, hm⟩ := k1; exact DataW.trod_lt m _ _ _ hm
  obtain ⟨a1, rfl, rfl, rfl, w1⟩ := open_int Tryd.underlying5 (hval 1 5 v1 rfl rfl) h1
  have b1 := wf_u8 w1
  obtain ⟨A0, len0, C0, rfl⟩ := okWide_slice Tryd.underlying28 (hval 0 28 v0 rfl rfl)
  obtain ⟨f0, hf0⟩ := h0
  obtain ⟨a0, B0, rfl, b0, s0, ro0, m0, q0⟩ := slice_list (cells := u8v) (ok := u8ok) Tryd.underlying28 (sz := 1) (by kernel_rfl) (by omega) (fun _ _ => rfl) (fun _ _ _ h => u8_open h) (by simpa [Value.cells] using hf0)
  have S0 := s0
  clear hA0 hval0
  refine ((asmLines_c (L := B0) hTab a0 b0 m0 A0 C0 (by rw [← u8v_flat]; exact S0) a1 b1).out W (HP.ro ro0)).mono fun e W' ⟨v, L', he, ⟨hv, _⟩, H'⟩ => ?_
  subst he hv
  have bel := H'.below
  exact ⟨_, rfl, _, _, _, [], _, [], hW', trodAll_mk1 (shut_bool Tryd.underlying4 _), (trodAll_cons_mk (Below.trod laidAsmLines (by kernel_rfl) (of_decide_eq_true (by kernel_rfl)) k0 bel lt0) (trodAll_cons_mk (Below.trod laidAsmLines (by kernel_rfl) (of_decide_eq_true (by kernel_rfl)) k1 bel lt1) trodAll_mk0)), rfl, bel.frame _, fun h => by cases h⟩

theorem asmLines_said : Rows.AsmLinesSaid :=
  OpenClaim.holds_of_wide 4 Tryd.f4 rfl rfl rfl rfl rfl rfl rfl ⟨rfl, rfl, rfl, rfl, rfl⟩ rfl rfl rfl rfl rfl (by kernel_rfl) Tryd.func4 (by kernel_rfl)
    (of_decide_eq_true (by kernel_rfl)) (by unfold Func.isWrapper; first | (rw [if_pos (by decide +kernel)]; kernel_rfl) | (rw [if_neg (by decide +kernel)]; exact ⟨rfl, rfl⟩))
    (fun os started H enc _ => asmLines_lifted os started H enc)
theorem asmLines_plain (f : FuncId) (fn : Func) (hf : Tryd.pinned.checked.prog.funcNamed "pinfold/pinfoldlaw07.AsmLines" = some f) (hfn : Tryd.pinned.checked.prog.funcs[f]? = some fn) :
    false = Tryd.pinned.checked.prog.looks [] ∧ ∀ (j : Nat) t, fn.params[j]? = some t → Tryd.pinned.checked.prog.wantsStandIn t = false := by
  obtain rfl : f = 4 := Option.some.inj ((show Tryd.prog.funcNamed "pinfold/pinfoldlaw07.AsmLines" = some 4 by kernel_rfl).symm.trans hf) |>.symm
  obtain rfl : fn = Tryd.f4 := (Option.some.inj (Tryd.func4.symm.trans hfn)).symm
  refine ⟨by kernel_rfl, fun j t ht => ?_⟩
  rw [Tryd.params4] at ht
  have hm : t ∈ [28, 5] := by simpa using Array.mem_of_getElem? ht
  have hall : ([28, 5].all fun u => !Tryd.prog.wantsStandIn u) = true := by kernel_rfl
  exact (show Tryd.prog.wantsStandIn t = false by simpa using List.all_eq_true.1 hall t hm)
theorem asmLines_holds : Rows.AsmLinesCardSaid :=
  Claim7.holds_tied_plain_at .later [] _ _ _ _ asmLines_said (fun _ h => by cases h) (by kernel_rfl) (fun _ h => by cases h) asmLines_row_tie rfl ⟨rfl, rfl⟩ (by kernel_rfl) rfl asmLines_plain (by kernel_rfl)
#print axioms asmLines_holds
end Go.Proofs.YtmicafpfkpnalaaDoor
