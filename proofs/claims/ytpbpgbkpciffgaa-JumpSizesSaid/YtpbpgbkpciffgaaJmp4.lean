/- jump.Make, walked. -/
import Derived.Test.YtpbpgbkpciffgaaJmp3
namespace Go.Proofs.Ytpbpgbkpciffgaa
open Go Go.RowKit
def flatP (l : List Prt) : List Value := l.flatMap Prt.cells
theorem flatP_len (l : List Prt) : (flatP l).length = l.length * 7 := by
  induction l with
  | nil => rfl
  | cons i l ih => simp only [flatP, List.flatMap_cons, List.length_append] at ih ⊢; rw [ih]; simp [Prt.cells]; omega
theorem flatP_at (l : List Prt) (k : Nat) (h : k < l.length) : ((flatP l).drop (k * 7)).take 7 = (l[k]).cells := by
  induction l generalizing k with
  | nil => simp at h
  | cons i l ih =>
    cases k with
    | zero => simp [flatP, List.flatMap_cons, Prt.cells]
    | succ k =>
      have := ih k (by simpa using h)
      simp only [flatP, List.flatMap_cons, List.getElem_cons_succ] at this ⊢
      have e : (k + 1) * 7 = i.cells.length + k * 7 := by simp [Prt.cells]; omega
      rw [e, ← List.drop_drop, List.drop_left]; exact this
def mkGo : List Prt → Int × Mk
  | [] => (0, ⟨[], []⟩)
  | p :: r => if (mkGo r).1 ≠ 0 then mkGo r else if ((mkGo r).2.part p).1 ≠ 0 then (mkGo r).2.part p else if ((mkGo r).2.part p).2.out.length > 4096 then (205, ((mkGo r).2.part p).2) else (mkGo r).2.part p
def make (l : List Prt) : Int × List Ins := ((mkGo l).1, if (mkGo l).1 = 0 then (mkGo l).2.out.reverse else [])
theorem mkGo_err (a b : List Prt) (h : (mkGo b).1 ≠ 0) : mkGo (a ++ b) = mkGo b := by
  induction a with
  | nil => rfl
  | cons p a ih => rw [List.cons_append, mkGo, ih, if_pos h]
theorem mkGo_at {l : List Prt} {k : Nat} (hk : k < l.length) {s : Mk} (h : mkGo (l.drop (k + 1)) = (0, s)) :
    mkGo (l.drop k) = if (s.part l[k]).1 ≠ 0 then s.part l[k] else if (s.part l[k]).2.out.length > 4096 then (205, (s.part l[k]).2) else s.part l[k] := by
  rw [List.drop_eq_getElem_cons hk, mkGo, h, if_neg (by simp)]
theorem make_err {l : List Prt} {k : Nat} {e : Int} (he : e ≠ 0) (h : (mkGo (l.drop k)).1 = e) : make l = (e, []) := by
  have h2 := mkGo_err (l.take k) (l.drop k) (by rw [h]; exact he)
  rw [List.take_append_drop] at h2
  unfold make
  rw [h2, h, if_neg he]
structure MkI (l : List Prt) (g : Nat × Mk × Value × List Blk) : Prop where
  le : g.1 ≤ l.length
  go : mkGo (l.drop g.1) = (0, g.2.1)
  ok : g.2.1.ok
  ln : g.2.1.out.length ≤ 4096
  own : Own 43 4 g.2.2.1 g.2.1.out.length (flat g.2.1.out) g.2.2.2
structure MkJ (out : List Ins) (g : Nat × Value × List Blk) : Prop where
  le : g.1 ≤ out.length
  own : Own 43 4 g.2.1 (out.length - g.1) (flat (out.drop g.1).reverse) g.2.2
set_option maxRecDepth 100000 in
set_option maxHeartbeats 4000000 in
theorem make_c {S w0 L} (l : List Prt) (hl : ∀ p ∈ l, p.ok) (hm : l.length ≤ maxLen) (a : Option Addr) (cap : Nat) (hs : Sli L a l.length 7 (flatP l)) :
    Fn Try.prog 24 #[.slice a l.length cap] S w0 L fun r L' => ∃ v e, r = tupleOf [v, .int .i64 (make l).1] ∧ Own 43 4 v (make l).2.length (flat (make l).2) e ∧ e ++ L = L' := by
  unfold maxLen at hm
  refine Fn1 Try.func24 Try.ntmps24 rfl rfl ?_
  repeat' (first | ((refine G_markb (id := 0) ?_)) | refine G_seq ?_ | refine G_then_n ?_ | ((refine G_region (id := 0) ?_ <;> (try (refine G_op1 ?_; ((apply K1_ev; exact rfl; ((focus (exact E_assign rfl))))))) <;> (try (refine G_op1 ?_; ((apply K1_ev; exact rfl; ((focus (exact E_assign rfl))))))) <;> (try (refine G_nil ?_)))) | ((refine G_region (id := 1) ?_ <;> (try (refine G_op1 ?_; (refine K1_makeMap rfl ?_; intro nb hnb))) <;> (try (refine G_op1 ?_; ((apply K1_ev; exact rfl; ((focus (exact E_build (t := 134) (fun (vs : List (Nat × Value)) => (match vs with | [(_, x0)] => [Value.slice none 0 0, x0] | _ => [] : List Value)) rfl (fun w => by kernel_rfl)))); (try simp only [Value.cells]); (try simp only [List.cons_append]); (try simp only [List.nil_append]))))) <;> (try (refine G_op1 ?_; ((refine K1_box (t := 134) rfl rfl ?_; intro nb hnb; (try simp only [Value.cells]))))) <;> (try (refine G_op1 ?_; ((apply K1_ev; exact rfl; ((focus (exact E_assign rfl))))))) <;> (try (refine G_nil ?_)))) | ((refine G_region (id := 2) ?_ <;> (try (refine G_op1 ?_; ((apply K1_ev; exact rfl; ((focus (exact E_move rfl))))))) <;> (try (refine G_op1 ?_; ((apply K1_ev; exact rfl; ((focus ((apply E_builtin; exact rfl; exact (fun _ => BigFrame.builtin_len ..); apply r_len_slice_e Try.underlying82; ((focus ((try simp only [Int.cast_ofNat_Int]); exact rfl))))))))))) <;> (try (refine G_op1 ?_; ((apply K1_ev; exact rfl; ((focus ((apply E_bin (op := .sub) (t := 3); exact rfl; exact rfl; exact rfl; ((focus ((apply rb_sub; (((focus ((try simp only [Int.reduceAdd]); (try simp only [Int.reduceSub]); (try simp only [Int.reduceMul]); (try simp only [Int.reduceMod]); (try simp only [Int.reduceDiv]); exact rfl)))); (((focus (refine IntWalk.i64_in _ ?_; omega)))))))))))))))) <;> (try (refine G_op1 ?_; ((apply K1_ev; exact rfl; ((focus (exact E_assign rfl))))))) <;> (try (refine G_nil ?_)))))
  refine ⟨?_⟩
  obtain ⟨nbM, rfl⟩ : ∃ x, x = nb := ⟨_, rfl⟩
  obtain ⟨pm, rfl⟩ : ∃ x, x = nb := ⟨_, rfl⟩
  refine G_block ?_
  refine G_loopk (γ := Nat × Mk × Value × List Blk) (MkI l) (fun g => g.1) (fun g => [(5, .int .i64 ((g.1 : Nat) - 1))]) [(0, _), (4, _)]
    (fun g => mkB nbM g.2.2.1 pm :: mapB pm (plV g.2.1.pl) :: (g.2.2.2 ++ L))
    (l.length, ⟨[], []⟩, .slice none 0 0, []) (.cons rfl (.cons rfl .nil)) ⟨Nat.le_refl _, by rw [List.drop_length]; rfl, ⟨by simp, by simp, by simp⟩, by simp, Own.nil _ _⟩ (by ((focus (repeat (first | exact Sub.nil | refine Sub.cons rfl ?_ | (refine Sub.cons (congrArg some ?_) ?_; (focus go_num))))))) (fun _ H => H) ?_
  rintro ⟨k, s, v, e⟩ ⟨hk, hgo, hok, hln, hown⟩
  dsimp only at hk hgo hok hln hown ⊢
  simp only [List.cons_append, List.nil_append]
  cases k with
  | zero =>
    rw [List.drop_zero] at hgo
    have hmk : make l = (0, s.out.reverse) := by unfold make; rw [hgo, if_pos rfl]
    rw [hmk]
    have hoo := hok.out
    generalize s.pl = pl at *
    generalize s.out = out at *
    clear hok hgo hmk
    obtain ⟨ao, co, rfl, hso⟩ := hown.sli L
    clear hown
    rw [show (((0 : Nat) : Int) - 1) = -1 by omega]
    repeat' (first | ((refine G_markb (id := 2) ?_)) | refine G_seq ?_ | refine G_then_n ?_ | refine G_cut_x ?_ | refine G_then_x ?_ | refine G_blk_x ?_ | refine G_exit ?_ | refine G_cond_f rfl ?_ | ((refine G_region (id := 3) ?_ <;> (try (refine G_op1 ?_; ((apply K1_ev; exact rfl; ((focus (exact E_move rfl))))))) <;> (try (refine G_op1 ?_; ((apply K1_ev; exact rfl; ((focus ((apply E_bin (op := .geq) (t := 3); exact rfl; exact rfl; exact rfl; ((focus ((refine rb_geq_f ?_; first | (with_reducible assumption) | (decide; done) | omega)))))))))))) <;> (try (refine G_nil ?_)))) | ((refine G_region (id := 10) ?_ <;> (try (refine G_op1 ?_; ((apply K1_ev; exact rfl; ((focus (exact E_move rfl))))))) <;> (try (refine G_op1 ?_; ((apply K1_ev; exact rfl; ((focus (exact E_nilCheck rfl))))))) <;> (try (refine G_op1 ?_; ((apply K1_ev; exact rfl; ((focus ((apply E_fieldAddr; exact rfl; ((focus (apply r_fieldAt fo_134_0; (try simp only [Int.toNat_natCast]); (try simp only [Int.reduceToNat]); (try simp only [Nat.mul_one]); (try simp only [Nat.zero_mul]); (try simp only [Nat.reduceMul]); (try simp only [Nat.zero_add]); (try simp only [Nat.add_zero]); (try simp only [Nat.reduceAdd]); exact rfl))))))))))) <;> (try (refine G_op1 ?_; ((apply K1_ev; exact rfl; ((focus ((apply E_load1 (t := 45); exact rfl; (((focus (repeat (exact fd0))))); kernel_rfl; kernel_rfl; (((focus (exact rfl)))))))))))) <;> (try (refine G_op1 ?_; ((apply K1_ev; exact rfl; ((focus ((apply E_builtin; exact rfl; exact (fun _ => BigFrame.builtin_len ..); apply r_len_slice_e Try.underlying45; ((focus ((try simp only [Int.cast_ofNat_Int]); exact rfl))))))))))) <;> (try (refine G_op1 ?_; ((refine K1_makeSlice0 (t := 45) (zc := [Value.int .u16 0, Value.int .u8 0, Value.int .u8 0, Value.int .u32 0]) rfl rfl rfl Try.underlying45 inf_43_i inf_43_z inf_43_s inf_43_b rfl ?_ ?_ ?_; (focus omega); ((focus (unfold maxLen; omega))); intro vA eA hownA)))) <;> (try (refine G_op1 ?_; ((apply K1_ev; exact rfl; ((focus (exact E_assign rfl))))))) <;> (try (refine G_nil ?_)))) | ((refine G_region (id := 11) ?_ <;> (try (refine G_op1 ?_; ((apply K1_ev; exact rfl; ((focus (exact E_move rfl))))))) <;> (try (refine G_op1 ?_; ((apply K1_ev; exact rfl; ((focus (exact E_nilCheck rfl))))))) <;> (try (refine G_op1 ?_; ((apply K1_ev; exact rfl; ((focus ((apply E_fieldAddr; exact rfl; ((focus (apply r_fieldAt fo_134_0; (try simp only [Int.toNat_natCast]); (try simp only [Int.reduceToNat]); (try simp only [Nat.mul_one]); (try simp only [Nat.zero_mul]); (try simp only [Nat.reduceMul]); (try simp only [Nat.zero_add]); (try simp only [Nat.add_zero]); (try simp only [Nat.reduceAdd]); exact rfl))))))))))) <;> (try (refine G_op1 ?_; ((apply K1_ev; exact rfl; ((focus ((apply E_load1 (t := 45); exact rfl; (((focus (repeat (first | exact fd0 | apply fdA))))); kernel_rfl; kernel_rfl; (((focus (exact rfl)))))))))))) <;> (try (refine G_op1 ?_; ((apply K1_ev; exact rfl; ((focus ((apply E_builtin; exact rfl; exact (fun _ => BigFrame.builtin_len ..); apply r_len_slice_e Try.underlying45; ((focus ((try simp only [Int.cast_ofNat_Int]); exact rfl))))))))))) <;> (try (refine G_op1 ?_; ((apply K1_ev; exact rfl; ((focus ((apply E_bin (op := .sub) (t := 3); exact rfl; exact rfl; exact rfl; ((focus ((apply rb_sub; (((focus ((try simp only [Int.reduceAdd]); (try simp only [Int.reduceSub]); (try simp only [Int.reduceMul]); (try simp only [Int.reduceMod]); (try simp only [Int.reduceDiv]); exact rfl)))); (((focus (refine IntWalk.i64_in _ ?_; omega)))))))))))))))) <;> (try (refine G_op1 ?_; ((apply K1_ev; exact rfl; ((focus (exact E_assign rfl))))))) <;> (try (refine G_nil ?_)))))
    refine ⟨?_⟩
    refine G_block ?_
    refine G_loopk (γ := Nat × Value × List Blk) (MkJ out) (fun g => g.1) (fun g => [(7, g.2.1), (8, .int .i64 ((g.1 : Nat) - 1))]) [(4, _)]
      (fun g => g.2.2 ++ mkB nbM (.slice ao out.length co) pm :: mapB pm (plV pl) :: (e ++ L))
      (out.length, vA, eA) (.cons rfl .nil) ⟨Nat.le_refl _, by rw [List.drop_length, Nat.sub_self]; exact hownA⟩ (by ((focus (repeat (first | exact Sub.nil | refine Sub.cons rfl ?_ | (refine Sub.cons (congrArg some ?_) ?_; (focus go_num))))))) (fun _ H => H) ?_
    rintro ⟨k, v2, e2⟩ ⟨hk2, hown2⟩
    dsimp only at hk2 hown2 ⊢
    simp only [List.cons_append, List.nil_append]
    cases k with
    | zero =>
      rw [List.drop_zero, Nat.sub_zero] at hown2
      rw [show (((0 : Nat) : Int) - 1) = -1 by omega]
      repeat' (first | refine G_seq ?_ | refine G_then_n ?_ | refine G_cut_x ?_ | refine G_then_x ?_ | refine G_blk_x ?_ | refine G_exit ?_ | refine G_ret ?_ | refine G_cond_f rfl ?_ | ((refine G_region (id := 12) ?_ <;> (try (refine G_op1 ?_; ((apply K1_ev; exact rfl; ((focus (exact E_move rfl))))))) <;> (try (refine G_op1 ?_; ((apply K1_ev; exact rfl; ((focus ((apply E_bin (op := .geq) (t := 3); exact rfl; exact rfl; exact rfl; ((focus ((refine rb_geq_f ?_; first | (with_reducible assumption) | (decide; done) | omega)))))))))))) <;> (try (refine G_nil ?_)))) | ((refine G_region (id := 15) ?_ <;> (try (refine G_op1 ?_; ((apply K1_ev; exact rfl; ((focus (exact E_move rfl))))))) <;> (try (refine G_op1 ?_; ((apply K1_ev; exact rfl; ((focus (exact E_assign rfl))))))) <;> (try (refine G_op1 ?_; ((apply K1_ev; exact rfl; ((focus (exact E_assign rfl))))))) <;> (try (refine G_nil ?_)))))
      (refine G_done Try.results24 (.tmp rfl (.tmp rfl .nil)) ?_)
      exact ⟨_, ⟨v2, e2, rfl, by rw [List.length_reverse]; exact hown2, rfl⟩, fun w H => H.sub ((List.Sublist.refl e2).append (((List.sublist_append_right e L).cons _).cons _))⟩
    | succ k =>
      rw [show (((k + 1 : Nat) : Int) - 1) = (k : Int) by omega]
      have hlt : k < out.length := by omega
      obtain ⟨i0, q, b, off, cs, T, fr, rfl, hi0, hsz, hx⟩ := (((hso.up (mapB pm (plV pl))).up (mkB nbM (.slice ao out.length co) pm)).upA e2).elem hlt
      rw [flat_at out k hlt] at hx
      have hd : (out.drop k).reverse = (out.drop (k + 1)).reverse ++ [out[k]] := by rw [List.drop_eq_getElem_cons hlt, List.reverse_cons]
      have hd' := Lib.hid hd
      clear hd
      generalize (out.drop (k + 1)).reverse = od at *
      generalize out[k] = i at *
      obtain ⟨c, jt, jf, kk⟩ := i
      simp only [Ins.cells] at hx
      repeat' (first | refine G_seq ?_ | refine G_then_n ?_ | refine G_cut_n ?_ | refine G_blk_n ?_ | refine G_block ?_ | refine G_skip ?_ | refine G_cond_t rfl ?_ | ((refine G_region (id := 12) ?_ <;> (try (refine G_op1 ?_; ((apply K1_ev; exact rfl; ((focus (exact E_move rfl))))))) <;> (try (refine G_op1 ?_; ((apply K1_ev; exact rfl; ((focus ((apply E_bin (op := .geq) (t := 3); exact rfl; exact rfl; exact rfl; ((focus ((refine rb_geq_t ?_; first | (with_reducible assumption) | (decide; done) | omega)))))))))))) <;> (try (refine G_nil ?_)))) | ((refine G_region (id := 14) ?_ <;> (try (refine G_op1 ?_; ((apply K1_ev; exact rfl; ((focus (exact E_move rfl))))))) <;> (try (refine G_op1 ?_; ((apply K1_ev; exact rfl; ((focus (exact E_move rfl))))))) <;> (try (refine G_op1 ?_; ((apply K1_ev; exact rfl; ((focus (exact E_nilCheck rfl))))))) <;> (try (refine G_op1 ?_; ((apply K1_ev; exact rfl; ((focus ((apply E_fieldAddr; exact rfl; ((focus (apply r_fieldAt fo_134_0; (try simp only [Int.toNat_natCast]); (try simp only [Int.reduceToNat]); (try simp only [Nat.mul_one]); (try simp only [Nat.zero_mul]); (try simp only [Nat.reduceMul]); (try simp only [Nat.zero_add]); (try simp only [Nat.add_zero]); (try simp only [Nat.reduceAdd]); exact rfl))))))))))) <;> (try (refine G_op1 ?_; ((apply K1_ev; exact rfl; ((focus ((apply E_load1 (t := 45); exact rfl; (((focus (repeat (first | exact fd0 | apply fdA))))); kernel_rfl; kernel_rfl; (((focus (exact rfl)))))))))))) <;> (try (refine G_op1 ?_; ((apply K1_ev; exact rfl; ((focus (exact E_move rfl))))))) <;> (try (refine G_op1 ?_; ((apply K1_ev; exact rfl; ((focus ((apply E_indexAddr; exact rfl; exact rfl; ((focus (apply r_ixs Try.underlying45 sz_43; (focus omega); (focus omega); ((focus ((try simp only [Int.toNat_natCast]); (try simp only [Int.reduceToNat]); (try simp only [Nat.mul_one]); (try simp only [Nat.zero_mul]); (try simp only [Nat.reduceMul]); (try simp only [Nat.zero_add]); (try simp only [Nat.add_zero]); (try simp only [Nat.reduceAdd]); exact rfl)))))))))))))) <;> (try (refine G_op1 ?_; ((apply K1_ev; exact rfl; ((focus ((apply E_loadA (t := 43); exact rfl; (((focus (repeat (with_reducible assumption))))); kernel_rfl; kernel_rfl; exact sz_43; (((focus (with_reducible assumption)))); (((focus (with_reducible assumption)))))))))))) <;> (try (refine G_op1 ?_; ((refine K1_buildSlice (t := 45) (m := 1) (e := 43) (fun (vs : List (Nat × Value)) => (match vs with | [(_, x0)] => x0.cells.toList | _ => [] : List Value)) rfl rfl (fun w => by kernel_rfl) ?_; intro nb hnb; (try simp only [Value.cells]); (try simp only [List.cons_append]); (try simp only [List.nil_append]))))) <;> (try (refine G_op1 ?_; (((apply K1_append; exact rfl; exact Try.underlying45; exact inf_43_i; exact inf_43_z; exact inf_43_s; exact inf_43_b; exact rfl; exact rfl; exact rfl; (((focus (with_reducible assumption)))); (((focus (repeat (exact fd0))))); (((focus (exact Nat.le_of_ble_eq_true rfl)))); (((focus (((try simp only [List.drop_succ_cons]); (try simp only [List.drop_zero]); (try simp only [List.take_succ_cons]); (try simp only [List.take_zero]); (try simp only [List.take_nil]); exact rfl))))); (((focus (exact rfl)))); ((focus (unfold maxLen; omega))); (focus omega); (((focus (intro w H; repeat (first | exact H | (replace H := H.tail)))))); exact rfl; (((focus ((try simp only [Nat.zero_add]); (try simp only [Nat.reduceAdd]); exact rfl)))); (((focus ((try simp only [Nat.zero_mul]); (try simp only [List.take_zero]); (try simp only [List.nil_append]); (try simp only [List.cons_append]); (try simp only [List.nil_append]); exact rfl)))); intro vA eA hownA))))) <;> (try (refine G_op1 ?_; ((apply K1_ev; exact rfl; ((focus (exact E_assign rfl))))))) <;> (try (refine G_nil ?_)))) | ((refine G_region (id := 13) ?_ <;> (try (refine G_op1 ?_; ((apply K1_ev; exact rfl; ((focus (exact E_move rfl))))))) <;> (try (refine G_op1 ?_; ((apply K1_ev; exact rfl; ((focus ((apply E_bin (op := .sub) (t := 3); exact rfl; exact rfl; exact rfl; ((focus ((apply rb_sub; (((focus ((try simp only [Int.reduceAdd]); (try simp only [Int.reduceSub]); (try simp only [Int.reduceMul]); (try simp only [Int.reduceMod]); (try simp only [Int.reduceDiv]); exact rfl)))); (((focus (refine IntWalk.i64_in _ ?_; omega)))))))))))))))) <;> (try (refine G_op1 ?_; ((apply K1_ev; exact rfl; ((focus (exact E_assign rfl))))))) <;> (try (refine G_nil ?_)))))
      refine G_meet (k, vA, eA) ⟨⟨by dsimp only; omega, ?_⟩, by dsimp only; omega⟩ (by ((focus (repeat (first | exact Sub.nil | refine Sub.cons rfl ?_ | (refine Sub.cons (congrArg some ?_) ?_; (focus go_num))))))) (fun _ H => H)
      dsimp only
      rw [hd'.out, flat_snoc']
      have e1 : out.length - k = out.length - (k + 1) + 1 := by omega
      rw [e1]
      exact hownA
  | succ k =>
    rw [show (((k + 1 : Nat) : Int) - 1) = (k : Int) by omega]
    have hlt : k < l.length := by omega
    obtain ⟨i0, q, b, off, cs, T, fr, rfl, hi0, hsz, hx⟩ := (((hs.upA e).up (mapB pm (plV s.pl))).up (mkB nbM v pm)).elem hlt
    rw [flatP_at l k hlt] at hx
    have hpk := hl _ (List.getElem_mem hlt)
    have hat := mkGo_at hlt hgo
    have hpo := part_ok hok hpk hln
    have hpc := fun (L : List Blk) => part_c (S := S) (w0 := w0) (L := L) nbM pm s hok v e hown l[k] hpk
    have hmerr := fun (e : Int) (he : e ≠ 0) => make_err (l := l) (k := k) (e := e) he
    generalize l[k] = p at *
    obtain ⟨kind, to, els, ⟨c, jt, jf, kk⟩⟩ := p
    simp only [Prt.cells, Prt.v] at hx hpc
    generalize Mk.part s ⟨kind, to, els, ⟨c, jt, jf, kk⟩⟩ = q2 at *
    obtain ⟨er, s2⟩ := q2
    dsimp only at *
    have hat' := Lib.hid hat
    have hmerr' := Lib.hid hmerr
    clear hat hmerr hgo hown hok hl
    repeat' (first | ((refine G_markr (id := 6) ?_)) | refine G_seq ?_ | refine G_then_n ?_ | refine G_block ?_ | refine G_skip ?_ | refine G_cond_t rfl ?_ | ((refine G_region (id := 3) ?_ <;> (try (refine G_op1 ?_; ((apply K1_ev; exact rfl; ((focus (exact E_move rfl))))))) <;> (try (refine G_op1 ?_; ((apply K1_ev; exact rfl; ((focus ((apply E_bin (op := .geq) (t := 3); exact rfl; exact rfl; exact rfl; ((focus ((refine rb_geq_t ?_; first | (with_reducible assumption) | (decide; done) | omega)))))))))))) <;> (try (refine G_nil ?_)))) | ((refine G_region (id := 5) ?_ <;> (try (refine G_op1 ?_; ((apply K1_ev; exact rfl; ((focus (exact E_move rfl))))))) <;> (try (refine G_op1 ?_; ((apply K1_ev; exact rfl; ((focus (exact E_move rfl))))))) <;> (try (refine G_op1 ?_; ((apply K1_ev; exact rfl; ((focus (exact E_move rfl))))))) <;> (try (refine G_op1 ?_; ((apply K1_ev; exact rfl; ((focus ((apply E_indexAddr; exact rfl; exact rfl; ((focus (apply r_ixs Try.underlying82 sz_88; (focus omega); (focus omega); ((focus ((try simp only [Int.toNat_natCast]); (try simp only [Int.reduceToNat]); (try simp only [Nat.mul_one]); (try simp only [Nat.zero_mul]); (try simp only [Nat.reduceMul]); (try simp only [Nat.zero_add]); (try simp only [Nat.add_zero]); (try simp only [Nat.reduceAdd]); exact rfl)))))))))))))) <;> (try (refine G_op1 ?_; ((apply K1_ev; exact rfl; ((focus ((apply E_loadA (t := 88); exact rfl; (((focus (repeat (with_reducible assumption))))); kernel_rfl; kernel_rfl; exact sz_88; (((focus (with_reducible assumption)))); (((focus (with_reducible assumption)))))))))))) <;> (try (refine G_op1 ?_; (((refine K1_call (F := 43) (by kernel_rfl) rfl rfl (hpc _) ?_; rintro _ _ ⟨rfl, v1, e1, ho1, rfl⟩))))) <;> (try (refine G_op1 ?_; ((apply K1_ev; exact rfl; ((focus (exact E_assign rfl))))))) <;> (try (refine G_nil ?_)))))
    refine ⟨?_⟩
    by_cases he0 : er = 0
    · subst he0
      rw [if_neg (by simp)] at hat'
      obtain ⟨ao, co, rfl, hso⟩ := ho1.sli L
      have hle2 := hpo.le
      by_cases hmany : s2.out.length > 4096
      · have hmk := hmerr'.out 205 (by omega) (by rw [hat'.out, if_pos hmany])
        rw [hmk]
        repeat' (first | refine G_seq ?_ | refine G_then_n ?_ | refine G_cut_r ?_ | refine G_then_r ?_ | refine G_blk_r ?_ | refine G_skip ?_ | refine G_ret ?_ | refine G_cond_t rfl ?_ | refine G_cond_f rfl ?_ | ((refine G_region (id := 6) ?_ <;> (try (refine G_op1 ?_; ((apply K1_ev; exact rfl; ((focus (exact E_move rfl))))))) <;> (try (refine G_op1 ?_; ((apply K1_ev; exact rfl; ((focus ((apply E_bin (op := .neq) (t := 30); exact rfl; exact rfl; exact rfl; ((focus ((refine rb_neq_f ?_; first | rfl | (with_reducible assumption) | (decide; done) | omega)))))))))))) <;> (try (refine G_nil ?_)))) | ((refine G_region (id := 8) ?_ <;> (try (refine G_op1 ?_; ((apply K1_ev; exact rfl; ((focus (exact E_move rfl))))))) <;> (try (refine G_op1 ?_; ((apply K1_ev; exact rfl; ((focus (exact E_nilCheck rfl))))))) <;> (try (refine G_op1 ?_; ((apply K1_ev; exact rfl; ((focus ((apply E_fieldAddr; exact rfl; ((focus (apply r_fieldAt fo_134_0; (try simp only [Int.toNat_natCast]); (try simp only [Int.reduceToNat]); (try simp only [Nat.mul_one]); (try simp only [Nat.zero_mul]); (try simp only [Nat.reduceMul]); (try simp only [Nat.zero_add]); (try simp only [Nat.add_zero]); (try simp only [Nat.reduceAdd]); exact rfl))))))))))) <;> (try (refine G_op1 ?_; ((apply K1_ev; exact rfl; ((focus ((apply E_load1 (t := 45); exact rfl; (((focus (repeat (exact fd0))))); kernel_rfl; kernel_rfl; (((focus (exact rfl)))))))))))) <;> (try (refine G_op1 ?_; ((apply K1_ev; exact rfl; ((focus ((apply E_builtin; exact rfl; exact (fun _ => BigFrame.builtin_len ..); apply r_len_slice_e Try.underlying45; ((focus ((try simp only [Int.cast_ofNat_Int]); exact rfl))))))))))) <;> (try (refine G_op1 ?_; ((apply K1_ev; exact rfl; ((focus ((apply E_bin (op := .gtr) (t := 3); exact rfl; exact rfl; exact rfl; ((focus ((refine rb_gtr_t ?_; first | (with_reducible assumption) | (decide; done) | omega)))))))))))) <;> (try (refine G_nil ?_)))) | ((refine G_region (id := 9) ?_ <;> (try (refine G_op1 ?_; ((apply K1_ev; exact rfl; ((focus (exact E_assign rfl))))))) <;> (try (refine G_op1 ?_; ((apply K1_ev; exact rfl; ((focus (exact E_assign rfl))))))) <;> (try (refine G_nil ?_)))))
        (refine G_done Try.results24 (.tmp rfl (.tmp rfl .nil)) ?_)
        exact ⟨_, ⟨_, [], rfl, Own.nil _ _, rfl⟩, fun w H => H.sub (((List.sublist_append_right e1 L).cons _).cons _)⟩
      · repeat' (first | refine G_seq ?_ | refine G_then_n ?_ | refine G_cut_n ?_ | refine G_blk_n ?_ | refine G_skip ?_ | refine G_cond_f rfl ?_ | ((refine G_region (id := 6) ?_ <;> (try (refine G_op1 ?_; ((apply K1_ev; exact rfl; ((focus (exact E_move rfl))))))) <;> (try (refine G_op1 ?_; ((apply K1_ev; exact rfl; ((focus ((apply E_bin (op := .neq) (t := 30); exact rfl; exact rfl; exact rfl; ((focus ((refine rb_neq_f ?_; first | rfl | (with_reducible assumption) | (decide; done) | omega)))))))))))) <;> (try (refine G_nil ?_)))) | ((refine G_region (id := 8) ?_ <;> (try (refine G_op1 ?_; ((apply K1_ev; exact rfl; ((focus (exact E_move rfl))))))) <;> (try (refine G_op1 ?_; ((apply K1_ev; exact rfl; ((focus (exact E_nilCheck rfl))))))) <;> (try (refine G_op1 ?_; ((apply K1_ev; exact rfl; ((focus ((apply E_fieldAddr; exact rfl; ((focus (apply r_fieldAt fo_134_0; (try simp only [Int.toNat_natCast]); (try simp only [Int.reduceToNat]); (try simp only [Nat.mul_one]); (try simp only [Nat.zero_mul]); (try simp only [Nat.reduceMul]); (try simp only [Nat.zero_add]); (try simp only [Nat.add_zero]); (try simp only [Nat.reduceAdd]); exact rfl))))))))))) <;> (try (refine G_op1 ?_; ((apply K1_ev; exact rfl; ((focus ((apply E_load1 (t := 45); exact rfl; (((focus (repeat (exact fd0))))); kernel_rfl; kernel_rfl; (((focus (exact rfl)))))))))))) <;> (try (refine G_op1 ?_; ((apply K1_ev; exact rfl; ((focus ((apply E_builtin; exact rfl; exact (fun _ => BigFrame.builtin_len ..); apply r_len_slice_e Try.underlying45; ((focus ((try simp only [Int.cast_ofNat_Int]); exact rfl))))))))))) <;> (try (refine G_op1 ?_; ((apply K1_ev; exact rfl; ((focus ((apply E_bin (op := .gtr) (t := 3); exact rfl; exact rfl; exact rfl; ((focus ((refine rb_gtr_f ?_; first | (with_reducible assumption) | (decide; done) | omega)))))))))))) <;> (try (refine G_nil ?_)))) | ((refine G_region (id := 4) ?_ <;> (try (refine G_op1 ?_; ((apply K1_ev; exact rfl; ((focus (exact E_move rfl))))))) <;> (try (refine G_op1 ?_; ((apply K1_ev; exact rfl; ((focus ((apply E_bin (op := .sub) (t := 3); exact rfl; exact rfl; exact rfl; ((focus ((apply rb_sub; (((focus ((try simp only [Int.reduceAdd]); (try simp only [Int.reduceSub]); (try simp only [Int.reduceMul]); (try simp only [Int.reduceMod]); (try simp only [Int.reduceDiv]); exact rfl)))); (((focus (refine IntWalk.i64_in _ ?_; omega)))))))))))))))) <;> (try (refine G_op1 ?_; ((apply K1_ev; exact rfl; ((focus (exact E_assign rfl))))))) <;> (try (refine G_nil ?_)))))
        refine G_meet (k, s2, _, e1) ⟨⟨by dsimp only; omega, by rw [hat'.out, if_neg hmany], hpo, by dsimp only; omega, ho1⟩, by dsimp only; omega⟩ (by ((focus (repeat (first | exact Sub.nil | refine Sub.cons rfl ?_ | (refine Sub.cons (congrArg some ?_) ?_; (focus go_num))))))) (fun _ H => H)
    · have hmk := hmerr'.out er he0 (by rw [hat'.out, if_pos he0])
      rw [hmk]
      repeat' (first | refine G_seq ?_ | refine G_then_n ?_ | refine G_cut_r ?_ | refine G_then_r ?_ | refine G_blk_r ?_ | refine G_ret ?_ | refine G_cond_t rfl ?_ | ((refine G_region (id := 6) ?_ <;> (try (refine G_op1 ?_; ((apply K1_ev; exact rfl; ((focus (exact E_move rfl))))))) <;> (try (refine G_op1 ?_; ((apply K1_ev; exact rfl; ((focus ((apply E_bin (op := .neq) (t := 30); exact rfl; exact rfl; exact rfl; ((focus ((refine rb_neq_t ?_; first | (with_reducible assumption) | (decide; done) | omega)))))))))))) <;> (try (refine G_nil ?_)))) | ((refine G_region (id := 7) ?_ <;> (try (refine G_op1 ?_; ((apply K1_ev; exact rfl; ((focus (exact E_move rfl))))))) <;> (try (refine G_op1 ?_; ((apply K1_ev; exact rfl; ((focus (exact E_assign rfl))))))) <;> (try (refine G_op1 ?_; ((apply K1_ev; exact rfl; ((focus (exact E_assign rfl))))))) <;> (try (refine G_nil ?_)))))
      (refine G_done Try.results24 (.tmp rfl (.tmp rfl .nil)) ?_)
      exact ⟨_, ⟨_, [], rfl, Own.nil _ _, rfl⟩, fun w H => H.sub (((List.sublist_append_right e1 L).cons _).cons _)⟩
end Go.Proofs.Ytpbpgbkpciffgaa
