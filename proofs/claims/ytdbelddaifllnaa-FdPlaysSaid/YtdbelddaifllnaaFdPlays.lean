/- The law FdPlays returns true at every input and leaves its argument as it was. No condition. -/
import Derived.Test.YtdbelddaifllnaaW7
import Derived.Test.YtdbelddaifllnaaFdNone
namespace Go.Proofs.Ytdbelddaifllnaa
open Go.ChangeShapes Go.WideShapes Go.ChangeAt Go.RowKit

theorem eleven {cs : List Value} (h : cs.length = 11) : ∃ a b c d e f g h i j k, cs = [a, b, c, d, e, f, g, h, i, j, k] := by
  match cs, h with
  | [a, b, c, d, e, f, g, h, i, j, k], _ => exact ⟨a, b, c, d, e, f, g, h, i, j, k, rfl⟩

theorem isAct_of_trod {H : Type} {enc : TypeId × Value → H} {w : World} {base : Nat} {spare : Nat → Bool} {held : Bool} {fuel : Nat} {cs : List Value} {x : DataW H × List MemPlace}
    (h : DataW.trod enc Try.prog w base spare held fuel 38 cs = some x) : ∃ k n y raw o, IsAct cs.toArray k n y raw o := by
  obtain ⟨n, rfl, hlen, hf⟩ := trod_fields Try.underlying38 h
  have h11 : Try.prog.cellsOf 38 = 11 := by kernel_rfl
  rw [h11] at hlen
  obtain ⟨a, b, c, d, e, f, g, h', i, j, k, rfl⟩ := eleven hlen
  obtain ⟨y0, h0⟩ := hf 0 _ rfl
  obtain ⟨y1, h1⟩ := hf 1 _ rfl
  obtain ⟨y2, h2⟩ := hf 2 _ rfl
  obtain ⟨y3, h3⟩ := hf 3 _ rfl
  obtain ⟨y4, h4⟩ := hf 4 _ rfl
  have c5 : Try.prog.cellsOf 5 = 1 := by kernel_rfl
  have c35 : Try.prog.cellsOf 35 = 7 := by kernel_rfl
  have c36 : Try.prog.cellsOf 36 = 1 := by kernel_rfl
  have c4 : Try.prog.cellsOf 4 = 1 := by kernel_rfl
  simp only [c5, c35, c36, c4, List.drop_succ_cons, List.drop_zero, List.take_succ_cons, List.take_zero] at h0 h1 h2 h3 h4
  obtain ⟨q0, rfl, w0⟩ := trod_int_cell Try.underlying5 h0
  obtain ⟨q1, rfl, w1⟩ := trod_int_cell Try.underlying5 h1
  have hop := isOpen_of_trod h2
  obtain ⟨q3, rfl, w3⟩ := trod_int_cell Try.underlying36 h3
  obtain ⟨q4, rfl⟩ := trod_bool_cell Try.underlying4 h4
  have b0 := bounds_u8 w0
  have b1 := bounds_u8 w1
  have b3 := bounds_u64 w3
  exact ⟨q0, q1, q3, q4, #[c, d, e, f, g, h', i], hop, rfl, by omega, by omega, by omega, by omega, by omega, by omega⟩

theorem HP.start_ro {w : World} {b : Nat} {o : Obj} (h : w.heap[b]? = some o) : HP [] w w [⟨false, b, o⟩] :=
  ⟨rfl, rfl, rfl, Nat.le_refl _, fun _ _ _ => rfl, by simpa using h, by simp, by simp⟩

theorem acts_of_trod {H : Type} {enc : TypeId × Value → H} {w : World} {base : Nat} {spare : Nat → Bool} {held : Bool} {fuel : Nat} {a : Option Addr} {len cap : Nat} {x : DataW H × List MemPlace}
    (h : DataW.trod enc Try.prog w base spare held fuel 22 [.slice a len cap] = some x) : len ≤ maxLen ∧ ∃ ro, Acts w a len ro := by
  by_cases h0 : 0 < len
  · obtain ⟨b, off, acs, T, fr, n, rfl, hb, h1, h2, hel⟩ := slice_block Try.underlying22 (sz := 11) (by kernel_rfl) (by omega) h h0
    refine ⟨by omega, [⟨false, b, .cells acs T fr⟩], HP.start_ro hb, fun _ => ⟨b, off, acs, T, fr, rfl, rfl, fun i hi => ?_⟩⟩
    obtain ⟨cs, y, _, hy, hsz, hex⟩ := hel i hi
    obtain ⟨k, n, z, raw, o, hact⟩ := isAct_of_trod hy
    exact ⟨cs.toArray, k, n, z, raw, o, hact, hsz, hex⟩
  · exact ⟨by omega, [], HP.start w, fun h => absurd h h0⟩

set_option maxRecDepth 100000 in
theorem fdPlays_lifted (os : Os) (started : os.Started) (H : Type) (enc : TypeId × Value → H) :
    ReturnsInHanded {} Try.checked os 3 .any (Rows.fdPlaysSpec.pre6 enc Try.prog Try.f3 Rows.fdPlaysRow.domain false) (Rows.fdPlaysSpec.post enc Try.prog Try.f3 false true false false) := by
  refine returnsInHanded_of_change (C := Try.checked) own started (by kernel_rfl) Try.func3
    (ChangeSpec.witness6 (enc := enc) (C := Try.checked) false ⟨#[], #[.slice none 0 0], []⟩ 8 (by kernel_rfl) (by kernel_rfl) (by kernel_rfl) (by kernel_rfl)) ?_
  intro W base args ds gs before hval0 hW hcnd _
  have hval : ∀ (j : Nat) t v, Try.f3.params[j]? = some t → args[j]? = some v → Value.okWide Try.prog W .any base t v := hval0
  have hW' := hW
  obtain ⟨p, q, hA0, hV, rfl, hfz, hnd⟩ := hW
  have hA : DataW.TrodAll enc Try.prog W 0 (fun _ => true) true Try.f3.params.toList args.toList ds p := hA0
  rw [Try.params3] at hA hval
  obtain ⟨v0, vs0, d0, ds0, p0, q0, hargs, rfl, rfl, h0, r0⟩ := trodAll_cons hA
  obtain ⟨rfl, rfl, rfl⟩ := trodAll_nil r0
  obtain rfl : args = #[v0] := by cases args; simp_all
  obtain ⟨rfl, rfl⟩ := trodVars_none hV
  have k0 := h0
  have lt0 : ∀ x ∈ p0, x.block < W.heap.size := by obtain ⟨m, hm⟩ := k0; exact DataW.trod_lt m _ _ _ hm
  obtain ⟨a0, len0, cap0, rfl⟩ := okWide_slice Try.underlying22 (hval 0 22 v0 rfl rfl)
  obtain ⟨fuel, hf⟩ := h0
  obtain ⟨hl, ro, hacts⟩ := acts_of_trod (by simpa [Value.cells] using hf)
  clear hA0 hval0
  refine (fdPlays a0 len0 cap0 W ro hl hacts).mono fun e W' ⟨he, bel⟩ => ?_
  subst he
  exact ⟨_, rfl, _, _, _, [], _, [], hW', trodAll_mk1 (shut_bool Try.underlying4 _), (trodAll_cons_mk (Below.trod laidOut (by kernel_rfl) (of_decide_eq_true (by kernel_rfl)) k0 bel lt0) trodAll_mk0), rfl, bel.frame _, fun h => by cases h⟩

theorem fdPlays_holds : Rows.FdPlaysSaid :=
  OpenClaim.holds_of_wide 3 Try.f3 rfl rfl rfl rfl rfl rfl rfl ⟨rfl, rfl, rfl, rfl, rfl⟩ rfl rfl rfl rfl rfl (by kernel_rfl) Try.func3 (by kernel_rfl)
    (of_decide_eq_true (by kernel_rfl)) (by unfold Func.isWrapper; first | (rw [if_pos (by decide +kernel)]; kernel_rfl) | (rw [if_neg (by decide +kernel)]; exact ⟨rfl, rfl⟩))
    (fun os started H enc _ => fdPlays_lifted os started H enc)
#print axioms fdPlays_holds
end Go.Proofs.Ytdbelddaifllnaa
