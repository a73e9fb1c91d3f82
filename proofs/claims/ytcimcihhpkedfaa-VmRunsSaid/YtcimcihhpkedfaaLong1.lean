/- check.Longest, walked. -/
import Derived.Test.YtcimcihhpkedfaaProg1
import Derived.Test.YtcimcihhpkedfaaCheck3
import Derived.Test.YtcimcihhpkedfaaGl7
import Derived.Test.YtcimcihhpkedfaaGl8
namespace Go.Proofs.Ytcimcihhpkedfaa
open Go Go.RowKit
def updL (ws : List Nat) (k : Nat) (st : List Int) : List Int := ws.foldl (fun st x => st.set k (max (st.getD k 0) (st.getD x 0))) st
def stepL (i : Ins) (k : Nat) (st : List Int) : List Int := (updL (ways i k) k st).set k ((updL (ways i k) k st).getD k 0 + 1)
def longGo (l : List Ins) : Nat → List Int → List Int
  | 0, st => st
  | k + 1, st => longGo l k (stepL (l.getD k ⟨0, 0, 0, 0⟩) k st)
def longest (l : List Ins) : Int := (longGo l l.length (List.replicate l.length 0)).getD 0 0
theorem updL_succ (ws : List Nat) (j : Nat) (h : j < ws.length) (k : Nat) (st : List Int) :
    updL (ws.take (j + 1)) k st = (updL (ws.take j) k st).set k (max ((updL (ws.take j) k st).getD k 0) ((updL (ws.take j) k st).getD ws[j] 0)) := by
  unfold updL
  rw [List.take_succ_eq_append_getElem h, List.foldl_append]
  rfl
theorem updL_len (ws : List Nat) (k : Nat) (st : List Int) : (updL ws k st).length = st.length := by
  unfold updL
  induction ws generalizing st with
  | nil => rfl
  | cons w ws ih => rw [List.foldl_cons, ih]; simp
theorem getD_rng {st : List Int} {b : Int} (hb : 0 ≤ b) (h : ∀ x ∈ st, 0 ≤ x ∧ x ≤ b) (k : Nat) : 0 ≤ st.getD k 0 ∧ st.getD k 0 ≤ b := by
  rw [List.getD_eq_getElem?_getD]
  cases hx : st[k]? with
  | none => simp; exact hb
  | some y => exact h y (List.mem_of_getElem? hx)
theorem set_rng {st : List Int} {b : Int} (h : ∀ x ∈ st, 0 ≤ x ∧ x ≤ b) (k : Nat) (v : Int) (hv : 0 ≤ v ∧ v ≤ b) : ∀ x ∈ st.set k v, 0 ≤ x ∧ x ≤ b := by
  intro x hx
  rcases List.mem_or_eq_of_mem_set hx with h2 | rfl
  · exact h x h2
  · exact hv
theorem updL_rng (ws : List Nat) (k : Nat) (b : Int) (hb : 0 ≤ b) (st : List Int) (h : ∀ x ∈ st, 0 ≤ x ∧ x ≤ b) : ∀ x ∈ updL ws k st, 0 ≤ x ∧ x ≤ b := by
  unfold updL
  induction ws generalizing st with
  | nil => exact h
  | cons w ws ih =>
    rw [List.foldl_cons]
    refine ih _ (set_rng h _ _ ?_)
    have h1 := getD_rng hb h k
    have h2 := getD_rng hb h w
    omega
theorem i64s_set (l : List Int) (k : Nat) (v : Int) : (i64s l).set k (.int .i64 v) = i64s (l.set k v) := by simp [i64s, List.map_set]
theorem i64s_at {l : List Int} {k : Nat} {x : Int} (h : l[k]? = some x) : (i64s l)[k]? = some (.int .i64 x) := by simp [i64s, h]
structure LngI (l : List Ins) (g : Nat × List Int) : Prop where
  le : g.1 ≤ l.length
  len : g.2.length = l.length
  rng : ∀ x ∈ g.2, 0 ≤ x ∧ x ≤ (l.length : Int) - g.1
  go : longest l = (longGo l g.1 g.2).getD 0 0
set_option maxRecDepth 100000 in
set_option maxHeartbeats 2000000 in
theorem longest_c {S w0 L} (l : List Ins) (hl : ∀ i ∈ l, i.ok) (hck : check l = (0, 0)) (h0 : 0 < l.length) (hm : l.length ≤ 4096) (hw : ∀ (k : Nat) (h : k < l.length), ∀ x ∈ ways l[k] k, k < x ∧ x < l.length) (a : Option Addr) (cap : Nat) (hs : Sli L a l.length 4 (flat l)) :
    Fn Try.prog 21 #[.slice a l.length cap] S w0 L fun v L' => v = .int .i64 (longest l) ∧ L = L' := by
  have hchk := check_c (S := S) (w0 := w0) (L := L) l hl (by unfold maxLen; omega) a cap hs
  rw [hck] at hchk
  simp only [wrongV] at hchk
  refine Fn1 Try.func21 Try.ntmps21 rfl rfl ?_
  repeat' (first | ((refine G_markb (id := 0) ?_)) | refine G_seq ?_ | refine G_then_n ?_ | refine G_skip ?_ | refine G_cond_f rfl ?_ | ((refine G_region (id := 0) ?_ <;> (try (refine G_op1 ?_; ((apply K1_ev; exact rfl; ((focus (exact E_assign rfl))))))) <;> (try (refine G_nil ?_)))) | ((refine G_region (id := 1) ?_ <;> (try (refine G_op1 ?_; ((apply K1_ev; exact rfl; ((focus (exact E_move rfl))))))) <;> (try (refine G_op1 ?_; (((refine K1_call (F := 17) (by kernel_rfl) rfl rfl (hchk) ?_; rintro _ _ ⟨rfl, rfl⟩))))) <;> (try (refine G_op1 ?_; ((apply K1_ev; exact rfl; ((focus (exact E_build (t := 31) (fun (vs : List (Nat × Value)) => (match vs with | [] => [Value.int .i64 0, Value.int .i64 0] | _ => [] : List Value)) rfl (fun w => by kernel_rfl)))); (try simp only [Value.cells]); (try simp only [List.cons_append]); (try simp only [List.nil_append]))))) <;> (try (refine G_op1 ?_; ((apply K1_ev; exact rfl; ((focus ((apply E_bin_agg (op := .neq) (t := 31); exact rfl; exact rfl; kernel_rfl; (apply rb_neq_agg Try.underlying31 (by kernel_rfl); apply EqF.int; (((focus (simp)))); exact Try.underlying3; exact rfl; exact rfl; exact rfl; exact EqF.int1 (by simp) Try.underlying29 rfl rfl rfl))))))))) <;> (try (refine G_nil ?_)))) | ((refine G_region (id := 3) ?_ <;> (try (refine G_op1 ?_; ((apply K1_ev; exact rfl; ((focus (exact E_move rfl))))))) <;> (try (refine G_op1 ?_; ((apply K1_ev; exact rfl; ((focus ((apply E_builtin; exact rfl; exact (fun _ => BigFrame.builtin_len ..); apply r_len_slice_e Try.underlying24; ((focus ((try simp only [Int.cast_ofNat_Int]); exact rfl))))))))))) <;> (try (refine G_op1 ?_; ((refine K1_makeSlice (t := 74) rfl rfl rfl Try.underlying74 inf_3_i inf_3_z inf_3_s inf_3_b rfl ?_ ?_ ?_; (focus omega); (focus omega); intro nb hnb)))) <;> (try (refine G_op1 ?_; ((apply K1_ev; exact rfl; ((focus (exact E_assign rfl))))))) <;> (try (refine G_nil ?_)))) | ((refine G_region (id := 4) ?_ <;> (try (refine G_op1 ?_; ((apply K1_ev; exact rfl; ((focus (exact E_move rfl))))))) <;> (try (refine G_op1 ?_; ((apply K1_ev; exact rfl; ((focus ((apply E_builtin; exact rfl; exact (fun _ => BigFrame.builtin_len ..); apply r_len_slice_e Try.underlying24; ((focus ((try simp only [Int.cast_ofNat_Int]); exact rfl))))))))))) <;> (try (refine G_op1 ?_; ((apply K1_ev; exact rfl; ((focus ((apply E_bin (op := .sub) (t := 3); exact rfl; exact rfl; exact rfl; ((focus ((apply rb_sub; (((focus ((try simp only [Int.reduceAdd]); (try simp only [Int.reduceSub]); (try simp only [Int.reduceMul]); (try simp only [Int.reduceMod]); (try simp only [Int.reduceDiv]); exact rfl)))); (((focus (refine IntWalk.i64_in _ ?_; omega)))))))))))))))) <;> (try (refine G_op1 ?_; ((apply K1_ev; exact rfl; ((focus (exact E_assign rfl))))))) <;> (try (refine G_nil ?_)))))
  refine ⟨?_⟩
  obtain ⟨nbM, rfl⟩ : ∃ x, x = nb := ⟨_, rfl⟩
  refine G_block ?_
  refine G_loopk (γ := Nat × List Int) (LngI l) (fun g => g.1) (fun g => [(4, .int .i64 ((g.1 : Nat) - 1))]) [(0, _), (3, _)]
    (fun g => ⟨true, nbM, .cells (i64s g.2).toArray 3 (0, 0)⟩ :: L)
    (l.length, List.replicate l.length 0) (.cons rfl (.cons rfl .nil)) ⟨Nat.le_refl _, by simp, ?_, rfl⟩ (by ((focus (repeat (first | exact Sub.nil | refine Sub.cons rfl ?_ | (refine Sub.cons (congrArg some ?_) ?_; (focus go_num))))))) ?_ ?_
  · intro x hx
    have := List.eq_of_mem_replicate hx
    dsimp only
    omega
  · intro w H
    simpa [i64s] using H
  rintro ⟨k, st⟩ ⟨hk, hst, hrg, hgo⟩
  dsimp only at hk hst hrg hgo ⊢
  simp only [List.cons_append, List.nil_append]
  cases k with
  | zero =>
    have hx0 : (i64s st).toArray.toList[0]? = some (.int .i64 (st.getD 0 0)) := by
      have : st[0]? = some (st.getD 0 0) := by rw [List.getD_eq_getElem?_getD, List.getElem?_eq_getElem (by omega)]; rfl
      exact i64s_at this
    have hsz : (i64s st).toArray.size = l.length := by simp [i64s, hst]
    have hgo' := Lib.hid hgo
    clear hgo hw hl
    repeat' (first | refine G_seq ?_ | refine G_then_n ?_ | refine G_cut_x ?_ | refine G_then_x ?_ | refine G_blk_x ?_ | refine G_exit ?_ | refine G_ret ?_ | refine G_cond_f rfl ?_ | ((refine G_region (id := 5) ?_ <;> (try (refine G_op1 ?_; ((apply K1_ev; exact rfl; ((focus (exact E_move rfl))))))) <;> (try (refine G_op1 ?_; ((apply K1_ev; exact rfl; ((focus ((apply E_bin (op := .geq) (t := 3); exact rfl; exact rfl; exact rfl; ((focus ((refine rb_geq_f ?_; first | (with_reducible assumption) | (decide; done) | omega)))))))))))) <;> (try (refine G_nil ?_)))) | ((refine G_region (id := 13) ?_ <;> (try (refine G_op1 ?_; ((apply K1_ev; exact rfl; ((focus (exact E_move rfl))))))) <;> (try (refine G_op1 ?_; ((apply K1_ev; exact rfl; ((focus ((apply E_indexAddr; exact rfl; exact rfl; ((focus (apply r_ixs Try.underlying74 sz_3; (focus omega); (focus omega); ((focus ((try simp only [Int.toNat_natCast]); (try simp only [Int.reduceToNat]); (try simp only [Nat.mul_one]); (try simp only [Nat.zero_mul]); (try simp only [Nat.reduceMul]); (try simp only [Nat.zero_add]); (try simp only [Nat.add_zero]); (try simp only [Nat.reduceAdd]); exact rfl)))))))))))))) <;> (try (refine G_op1 ?_; ((apply K1_ev; exact rfl; ((focus ((apply E_load1 (t := 3); exact rfl; (((focus (repeat (exact fd0))))); kernel_rfl; kernel_rfl; (((focus (with_reducible assumption)))))))))))) <;> (try (refine G_op1 ?_; ((apply K1_ev; exact rfl; ((focus (exact E_assign rfl))))))) <;> (try (refine G_nil ?_)))))
    (refine G_done Try.results21 (.tmp rfl .nil) ?_)
    refine ⟨_, ⟨?_, rfl⟩, fun w H => H.tail⟩
    rw [hgo'.out]; rfl
  | succ k =>
    rw [show (((k + 1 : Nat) : Int) - 1) = (k : Int) by omega]
    have hlt : k < l.length := by omega
    obtain ⟨i0, q, b, off, cs, T, fr, rfl, hi0, hsz, hx⟩ := (hs.up ⟨true, nbM, .cells (i64s st).toArray 3 (0, 0)⟩).elem hlt
    rw [flat_at l k hlt] at hx
    have hok := hl _ (List.getElem_mem hlt)
    have hwk := Lib.hid (hw k hlt)
    have hgo2 : longest l = (longGo l k (stepL l[k] k st)).getD 0 0 := by
      have hd : l.getD k ⟨0, 0, 0, 0⟩ = l[k] := by rw [List.getD_eq_getElem?_getD, List.getElem?_eq_getElem hlt]; rfl
      rw [hgo, longGo, hd]
    have hgo' := Lib.hid hgo2
    clear hgo hgo2 hw hl
    have hwc := fun (L : List Blk) => ways_c (S := S) (w0 := w0) (L := L) l[k] hok k (by omega)
    generalize l[k] = i at *
    obtain ⟨c, jt, jf, kk⟩ := i
    have hst' := Lib.hid hst
    have hrg' := Lib.hid hrg
    simp only [Ins.cells, Ins.v] at hx hwc
    clear hst hrg hok
    repeat' (first | ((refine G_markb (id := 2) ?_)) | refine G_seq ?_ | refine G_then_n ?_ | refine G_block ?_ | refine G_skip ?_ | refine G_cond_t rfl ?_ | ((refine G_region (id := 5) ?_ <;> (try (refine G_op1 ?_; ((apply K1_ev; exact rfl; ((focus (exact E_move rfl))))))) <;> (try (refine G_op1 ?_; ((apply K1_ev; exact rfl; ((focus ((apply E_bin (op := .geq) (t := 3); exact rfl; exact rfl; exact rfl; ((focus ((refine rb_geq_t ?_; first | (with_reducible assumption) | (decide; done) | omega)))))))))))) <;> (try (refine G_nil ?_)))) | ((refine G_region (id := 7) ?_ <;> (try (refine G_op1 ?_; ((apply K1_ev; exact rfl; ((focus (exact E_move rfl))))))) <;> (try (refine G_op1 ?_; ((apply K1_ev; exact rfl; ((focus (exact E_move rfl))))))) <;> (try (refine G_op1 ?_; ((apply K1_ev; exact rfl; ((focus ((apply E_indexAddr; exact rfl; exact rfl; ((focus (apply r_ixs Try.underlying24 sz_27; (focus omega); (focus omega); ((focus ((try simp only [Int.toNat_natCast]); (try simp only [Int.reduceToNat]); (try simp only [Nat.mul_one]); (try simp only [Nat.zero_mul]); (try simp only [Nat.reduceMul]); (try simp only [Nat.zero_add]); (try simp only [Nat.add_zero]); (try simp only [Nat.reduceAdd]); exact rfl)))))))))))))) <;> (try (refine G_op1 ?_; ((apply K1_ev; exact rfl; ((focus ((apply E_loadA (t := 27); exact rfl; (((focus (repeat (with_reducible assumption))))); kernel_rfl; kernel_rfl; exact sz_27; (((focus (with_reducible assumption)))); (((focus (with_reducible assumption)))))))))))) <;> (try (refine G_op1 ?_; ((apply K1_ev; exact rfl; ((focus (exact E_move rfl))))))) <;> (try (refine G_op1 ?_; (((refine K1_call (F := 46) (by kernel_rfl) rfl rfl (hwc _) ?_; rintro _ _ ⟨wa, wcap, we, rfl, hwS, rfl⟩))))) <;> (try (refine G_op1 ?_; ((apply K1_ev; exact rfl; ((focus ((apply E_builtin; exact rfl; exact (fun _ => BigFrame.builtin_len ..); apply r_len_slice_e Try.underlying74; ((focus ((try simp only [Int.cast_ofNat_Int]); exact rfl))))))))))) <;> (try (refine G_op1 ?_; ((apply K1_ev; exact rfl; ((focus (exact E_move rfl))))))) <;> (try (refine G_nil ?_)))))
    refine ⟨?_⟩
    have hl5 := ways_le ⟨c, jt, jf, kk⟩ k
    have hstep : stepL ⟨c, jt, jf, kk⟩ k st = (updL (ways ⟨c, jt, jf, kk⟩ k) k st).set k ((updL (ways ⟨c, jt, jf, kk⟩ k) k st).getD k 0 + 1) := rfl
    have hstep' := Lib.hid hstep
    clear hstep
    generalize stepL ⟨c, jt, jf, kk⟩ k st = st2 at *
    generalize ways ⟨c, jt, jf, kk⟩ k = ws at *
    refine G_blocks (L' := ⟨true, nbM, .cells (i64s (updL (ws.take 0) k st)).toArray 3 (0, 0)⟩ :: (we ++ L)) (fun w H => HP.swap1 H) ?_
    refine G_block ?_
    refine G_loopk (γ := Nat) (fun j => j ≤ ws.length) (fun j => ws.length - j) (fun j => [(28, .int .i64 (j : Nat))]) [(0, _), (3, _), (4, _), (26, _), (27, _)]
      (fun j => ⟨true, nbM, .cells (i64s (updL (ws.take j) k st)).toArray 3 (0, 0)⟩ :: (we ++ L))
      0 (.cons rfl (.cons rfl (.cons rfl (.cons rfl (.cons rfl .nil))))) (Nat.zero_le _) (by ((focus (repeat (first | exact Sub.nil | refine Sub.cons rfl ?_ | (refine Sub.cons (congrArg some ?_) ?_; (focus go_num))))))) (fun _ H => H) ?_
    intro j (hj : j ≤ ws.length)
    simp only [List.cons_append, List.nil_append]
    have hul := updL_len (ws.take j) k st
    rw [hst'.out] at hul
    have hur := updL_rng (ws.take j) k _ (by omega) st hrg'.out
    by_cases hjt : j < ws.length
    · obtain ⟨wi, wq, wb, woff, wcs, wT, wfr, rfl, hwi, hwsz, hwx⟩ := ((Sli.left (L := L) hwS).up ⟨true, nbM, .cells (i64s (updL (ws.take j) k st)).toArray 3 (0, 0)⟩).elem1 hjt
      have hnx := hwk.out ws[j] (List.getElem_mem hjt)
      have hms := updL_succ ws j hjt k st
      rw [ints_get (List.getElem?_eq_getElem hjt)] at hwx
      generalize ws[j] = nx at *
      have hy1 := getD_rng (by omega) hur k
      have hy2 := getD_rng (by omega) hur nx
      generalize updL (ws.take j) k st = sj at *
      have e1 : sj[k]? = some (sj.getD k 0) := by rw [List.getD_eq_getElem?_getD, List.getElem?_eq_getElem (by omega)]; rfl
      have e2 : sj[nx]? = some (sj.getD nx 0) := by rw [List.getD_eq_getElem?_getD, List.getElem?_eq_getElem (by omega)]; rfl
      have f1 : (i64s sj).toArray.toList[k]? = some (.int .i64 (sj.getD k 0)) := i64s_at e1
      have f2 : (i64s sj).toArray.toList[nx]? = some (.int .i64 (sj.getD nx 0)) := i64s_at e2
      have hsz : (i64s sj).length = l.length := by simp [i64s, hul]
      have hms2 := Lib.hid hms
      have hul' := Lib.hid hul
      generalize sj.getD k 0 = y1 at *
      generalize sj.getD nx 0 = y2 at *
      clear hms e1 e2 hur hul
      repeat' (first | refine G_seq ?_ | refine G_then_n ?_ | refine G_cut_n ?_ | refine G_blk_n ?_ | refine G_block ?_ | refine G_skip ?_ | refine G_cond_t rfl ?_ | ((refine G_region (id := 8) ?_ <;> (try (refine G_op1 ?_; ((apply K1_ev; exact rfl; ((focus ((apply E_bin (op := .lss) (t := 3); exact rfl; exact rfl; exact rfl; ((focus ((refine rb_lss_t ?_; first | (with_reducible assumption) | (decide; done) | omega)))))))))))) <;> (try (refine G_nil ?_)))) | ((refine G_region (id := 9) ?_ <;> (try (refine G_op1 ?_; ((apply K1_ev; exact rfl; ((focus ((apply E_indexAddr; exact rfl; exact rfl; ((focus (apply r_ixs Try.underlying74 sz_3; (focus omega); (focus omega); ((focus ((try simp only [Int.toNat_natCast]); (try simp only [Int.reduceToNat]); (try simp only [Nat.mul_one]); (try simp only [Nat.zero_mul]); (try simp only [Nat.reduceMul]); (try simp only [Nat.zero_add]); (try simp only [Nat.add_zero]); (try simp only [Nat.reduceAdd]); exact rfl)))))))))))))) <;> (try (refine G_op1 ?_; ((apply K1_ev; exact rfl; ((focus ((apply E_load1 (t := 3); exact rfl; (((focus (repeat (with_reducible assumption))))); kernel_rfl; kernel_rfl; (((focus (with_reducible assumption)))))))))))) <;> (try (refine G_op1 ?_; ((apply K1_ev; exact rfl; ((focus (exact E_assign rfl))))))) <;> (try (refine G_nil ?_)))) | (((apply G_regionHb (i := 0) (id := 10) (m := 13); ((focus ((try simp only [List.eraseIdx_cons_succ]); (try simp only [List.eraseIdx_cons_zero]); exact rfl))); kernel_rfl; exact rfl) <;> (try ((apply H_take (i := 0); exact rfl; kernel_rfl; kernel_rfl; kernel_rfl; exact rfl; (((focus (intro w H; first | exact H | exact H.drop1 | exact H.tail | exact H.tail.drop1 | exact H.tail.tail.drop1 | (refine H.sub ?_; (repeat fail); done) | (repeat fail))))); ((focus (apply Y_ev; (exact E_move rfl))))))) <;> (try ((apply H_take (i := 1); exact rfl; kernel_rfl; kernel_rfl; kernel_rfl; exact rfl; (((focus (intro w H; first | exact H | exact H.drop1 | exact H.tail | exact H.tail.drop1 | exact H.tail.tail.drop1 | (refine H.sub ?_; (repeat fail); done) | (repeat fail))))); ((focus (apply Y_ev; (exact E_move rfl))))))) <;> (try ((apply H_take (i := 2); exact rfl; kernel_rfl; kernel_rfl; kernel_rfl; exact rfl; (((focus (intro w H; first | exact H | exact H.drop1 | exact H.tail | exact H.tail.drop1 | exact H.tail.tail.drop1 | (refine H.sub ?_; (repeat fail); done) | (repeat fail))))); ((focus (apply Y_ev; (exact E_move rfl))))))) <;> (try ((apply H_take (i := 3); exact rfl; kernel_rfl; kernel_rfl; kernel_rfl; exact rfl; (((focus (intro w H; first | exact H | exact H.drop1 | exact H.tail | exact H.tail.drop1 | exact H.tail.tail.drop1 | (refine H.sub ?_; (repeat fail); done) | (repeat fail))))); ((focus (apply Y_ev; (exact E_move rfl))))))) <;> (try ((apply H_take (i := 4); exact rfl; kernel_rfl; kernel_rfl; kernel_rfl; exact rfl; (((focus (intro w H; first | exact H | exact H.drop1 | exact H.tail | exact H.tail.drop1 | exact H.tail.tail.drop1 | (refine H.sub ?_; (repeat fail); done) | (repeat fail))))); ((focus (apply Y_ev; ((apply E_indexAddr; exact rfl; exact rfl; ((focus (apply r_ixs Try.underlying74 sz_3; (focus omega); (focus omega); ((focus ((try simp only [Int.toNat_natCast]); (try simp only [Int.reduceToNat]); (try simp only [Nat.mul_one]); (try simp only [Nat.zero_mul]); (try simp only [Nat.reduceMul]); (try simp only [Nat.zero_add]); (try simp only [Nat.add_zero]); (try simp only [Nat.reduceAdd]); exact rfl)))))))))))))) <;> (try ((apply H_take (i := 6); exact rfl; kernel_rfl; kernel_rfl; kernel_rfl; exact rfl; (((focus (intro w H; first | exact H | exact H.drop1 | exact H.tail | exact H.tail.drop1 | exact H.tail.tail.drop1 | (refine H.sub ?_; (repeat fail); done) | (repeat fail))))); ((focus (apply Y_ev; (exact E_move rfl))))))) <;> (try ((apply H_take (i := 7); exact rfl; kernel_rfl; kernel_rfl; kernel_rfl; exact rfl; (((focus (intro w H; first | exact H | exact H.drop1 | exact H.tail | exact H.tail.drop1 | exact H.tail.tail.drop1 | (refine H.sub ?_; (repeat fail); done) | (repeat fail))))); ((focus (apply Y_ev; (exact E_move rfl))))))) <;> (try ((apply H_take (i := 8); exact rfl; kernel_rfl; kernel_rfl; kernel_rfl; exact rfl; (((focus (intro w H; first | exact H | exact H.drop1 | exact H.tail | exact H.tail.drop1 | exact H.tail.tail.drop1 | (refine H.sub ?_; (repeat fail); done) | (repeat fail))))); ((focus (apply Y_ev; ((apply E_indexAddr; exact rfl; exact rfl; ((focus (apply r_ixs Try.underlying74 sz_3; (focus omega); (focus omega); ((focus ((try simp only [Int.toNat_natCast]); (try simp only [Int.reduceToNat]); (try simp only [Nat.mul_one]); (try simp only [Nat.zero_mul]); (try simp only [Nat.reduceMul]); (try simp only [Nat.zero_add]); (try simp only [Nat.add_zero]); (try simp only [Nat.reduceAdd]); exact rfl)))))))))))))) <;> (try ((refine H_run2t (i := 5) (j := 9) rfl rfl (by kernel_rfl) ?_ ?_ <;> (first | ((refine TagA.mk ?_; ((((apply K1_ev; exact rfl; ((focus ((apply E_load1 (t := 3); exact rfl; (((focus (repeat (exact fd0))))); kernel_rfl; kernel_rfl; (((focus (with_reducible assumption)))))))))); refine H_go ?_ ?_; (((focus (intro w H; first | exact H | exact H.drop1 | exact H.tail | exact H.tail.drop1 | exact H.tail.tail.drop1 | (refine H.sub ?_; (repeat fail); done) | (repeat fail)))))) <;> (try ((refine H_run (i := 9) rfl (by kernel_rfl) ?_; ((apply K1_ev; exact rfl; ((focus ((apply E_load1 (t := 3); exact rfl; (((focus (repeat (exact fd0))))); kernel_rfl; kernel_rfl; (((focus (with_reducible assumption)))))))))); refine H_go ?_ ?_; (((focus (intro w H; first | exact H | exact H.drop1 | exact H.tail | exact H.tail.drop1 | exact H.tail.tail.drop1 | (refine H.sub ?_; (repeat fail); done) | (repeat fail)))))))) <;> (try ((apply H_take (i := 10); exact rfl; kernel_rfl; kernel_rfl; kernel_rfl; exact rfl; (((focus (intro w H; first | exact H | exact H.drop1 | exact H.tail | exact H.tail.drop1 | exact H.tail.tail.drop1 | (refine H.sub ?_; (repeat fail); done) | (repeat fail))))); ((focus (apply Y_ev; (exact E_builtin rfl (fun _ => BigFrame.builtin_max ..) r_max))))))) <;> (try ((apply H_take (i := 11); exact rfl; kernel_rfl; kernel_rfl; kernel_rfl; exact rfl; (((focus (intro w H; first | exact H | exact H.drop1 | exact H.tail | exact H.tail.drop1 | exact H.tail.tail.drop1 | (refine H.sub ?_; (repeat fail); done) | (repeat fail))))); ((focus (apply Y_ev; ((apply E_indexAddr; exact rfl; exact rfl; ((focus (apply r_ixs Try.underlying74 sz_3; (focus omega); (focus omega); ((focus ((try simp only [Int.toNat_natCast]); (try simp only [Int.reduceToNat]); (try simp only [Nat.mul_one]); (try simp only [Nat.zero_mul]); (try simp only [Nat.reduceMul]); (try simp only [Nat.zero_add]); (try simp only [Nat.add_zero]); (try simp only [Nat.reduceAdd]); exact rfl)))))))))))))) <;> (try ((refine H_run (i := 12) rfl (by kernel_rfl) ?_; ((apply K1_store1 (t := 3); exact rfl; exact rfl; (((focus (repeat (exact fd0))))); exact rfl; exact rfl; kernel_rfl; (((focus (omega)))); ((focus ((try simp only [List.set_cons_succ]); (try simp only [List.set_cons_zero]); exact rfl))); (try simp only [List.set_cons_succ]); (try simp only [List.set_cons_zero]))); refine H_go ?_ ?_; (((focus (intro w H; first | exact H | exact H.drop1 | exact H.tail | exact H.tail.drop1 | exact H.tail.tail.drop1 | (refine H.sub ?_; (repeat fail); done) | (repeat fail)))))))) <;> (try (refine H_done (by kernel_rfl) ?_))))) | ((refine TagB.mk ?_; ((((apply K1_ev; exact rfl; ((focus ((apply E_load1 (t := 3); exact rfl; (((focus (repeat (exact fd0))))); kernel_rfl; kernel_rfl; (((focus (with_reducible assumption)))))))))); refine H_go ?_ ?_; (((focus (intro w H; first | exact H | exact H.drop1 | exact H.tail | exact H.tail.drop1 | exact H.tail.tail.drop1 | (refine H.sub ?_; (repeat fail); done) | (repeat fail)))))) <;> (try ((refine H_run (i := 5) rfl (by kernel_rfl) ?_; ((apply K1_ev; exact rfl; ((focus ((apply E_load1 (t := 3); exact rfl; (((focus (repeat (exact fd0))))); kernel_rfl; kernel_rfl; (((focus (with_reducible assumption)))))))))); refine H_go ?_ ?_; (((focus (intro w H; first | exact H | exact H.drop1 | exact H.tail | exact H.tail.drop1 | exact H.tail.tail.drop1 | (refine H.sub ?_; (repeat fail); done) | (repeat fail)))))))) <;> (try ((apply H_take (i := 10); exact rfl; kernel_rfl; kernel_rfl; kernel_rfl; exact rfl; (((focus (intro w H; first | exact H | exact H.drop1 | exact H.tail | exact H.tail.drop1 | exact H.tail.tail.drop1 | (refine H.sub ?_; (repeat fail); done) | (repeat fail))))); ((focus (apply Y_ev; (exact E_builtin rfl (fun _ => BigFrame.builtin_max ..) r_max))))))) <;> (try ((apply H_take (i := 11); exact rfl; kernel_rfl; kernel_rfl; kernel_rfl; exact rfl; (((focus (intro w H; first | exact H | exact H.drop1 | exact H.tail | exact H.tail.drop1 | exact H.tail.tail.drop1 | (refine H.sub ?_; (repeat fail); done) | (repeat fail))))); ((focus (apply Y_ev; ((apply E_indexAddr; exact rfl; exact rfl; ((focus (apply r_ixs Try.underlying74 sz_3; (focus omega); (focus omega); ((focus ((try simp only [Int.toNat_natCast]); (try simp only [Int.reduceToNat]); (try simp only [Nat.mul_one]); (try simp only [Nat.zero_mul]); (try simp only [Nat.reduceMul]); (try simp only [Nat.zero_add]); (try simp only [Nat.add_zero]); (try simp only [Nat.reduceAdd]); exact rfl)))))))))))))) <;> (try ((refine H_run (i := 12) rfl (by kernel_rfl) ?_; ((apply K1_store1 (t := 3); exact rfl; exact rfl; (((focus (repeat (exact fd0))))); exact rfl; exact rfl; kernel_rfl; (((focus (omega)))); ((focus ((try simp only [List.set_cons_succ]); (try simp only [List.set_cons_zero]); exact rfl))); (try simp only [List.set_cons_succ]); (try simp only [List.set_cons_zero]))); refine H_go ?_ ?_; (((focus (intro w H; first | exact H | exact H.drop1 | exact H.tail | exact H.tail.drop1 | exact H.tail.tail.drop1 | (refine H.sub ?_; (repeat fail); done) | (repeat fail)))))))) <;> (try (refine H_done (by kernel_rfl) ?_))))))))))) | ((refine G_region (id := 11) ?_ <;> (try (refine G_op1 ?_; ((apply K1_ev; exact rfl; ((focus ((apply E_bin (op := .add) (t := 3); exact rfl; exact rfl; exact rfl; ((focus ((apply rb_add; (((focus ((try simp only [Int.reduceAdd]); (try simp only [Int.reduceSub]); (try simp only [Int.reduceMul]); (try simp only [Int.reduceMod]); (try simp only [Int.reduceDiv]); exact rfl)))); (((focus (refine IntWalk.i64_in _ ?_; omega)))))))))))))))) <;> (try (refine G_op1 ?_; ((apply K1_ev; exact rfl; ((focus (exact E_move rfl))))))) <;> (try (refine G_nil ?_)))))
      all_goals
        refine G_meet (j + 1) ⟨by omega, by omega⟩ (by ((focus (repeat (first | exact Sub.nil | refine Sub.cons rfl ?_ | (refine Sub.cons (congrArg some ?_) ?_; (focus go_num))))))) ?_
        intro w H
        rw [hms2.out, ← i64s_set]
        exact H
    · obtain rfl : j = ws.length := by omega
      rw [List.take_length] at hul hur ⊢
      have hy1 := getD_rng (by omega) hur k
      have hs2 : st2.length = l.length := by rw [hstep'.out, List.length_set]; exact hul
      generalize updL ws k st = sj at *
      have e1 : sj[k]? = some (sj.getD k 0) := by rw [List.getD_eq_getElem?_getD, List.getElem?_eq_getElem (by omega)]; rfl
      have f1 : (i64s sj).toArray.toList[k]? = some (.int .i64 (sj.getD k 0)) := i64s_at e1
      have hsz : (i64s sj).length = l.length := by simp [i64s, hul]
      generalize sj.getD k 0 = y1 at *
      clear e1
      repeat' (first | refine G_seq ?_ | refine G_then_n ?_ | refine G_cut_n ?_ | refine G_cut_x ?_ | refine G_then_x ?_ | refine G_blk_n ?_ | refine G_blk_x ?_ | refine G_exit ?_ | refine G_cond_f rfl ?_ | ((refine G_region (id := 8) ?_ <;> (try (refine G_op1 ?_; ((apply K1_ev; exact rfl; ((focus ((apply E_bin (op := .lss) (t := 3); exact rfl; exact rfl; exact rfl; ((focus ((refine rb_lss_f ?_; first | (with_reducible assumption) | (decide; done) | omega)))))))))))) <;> (try (refine G_nil ?_)))) | ((refine G_region (id := 12) ?_ <;> (try (refine G_op1 ?_; ((apply K1_ev; exact rfl; ((focus (exact E_move rfl))))))) <;> (try (refine G_op1 ?_; ((apply K1_ev; exact rfl; ((focus (exact E_move rfl))))))) <;> (try (refine G_op1 ?_; ((apply K1_ev; exact rfl; ((focus ((apply E_indexAddr; exact rfl; exact rfl; ((focus (apply r_ixs Try.underlying74 sz_3; (focus omega); (focus omega); ((focus ((try simp only [Int.toNat_natCast]); (try simp only [Int.reduceToNat]); (try simp only [Nat.mul_one]); (try simp only [Nat.zero_mul]); (try simp only [Nat.reduceMul]); (try simp only [Nat.zero_add]); (try simp only [Nat.add_zero]); (try simp only [Nat.reduceAdd]); exact rfl)))))))))))))) <;> (try (refine G_op1 ?_; ((apply K1_ev; exact rfl; ((focus ((apply E_load1 (t := 3); exact rfl; (((focus (repeat (exact fd0))))); kernel_rfl; kernel_rfl; (((focus (with_reducible assumption)))))))))))) <;> (try (refine G_op1 ?_; ((apply K1_ev; exact rfl; ((focus ((apply E_bin (op := .add) (t := 3); exact rfl; exact rfl; exact rfl; ((focus ((apply rb_add; (((focus ((try simp only [Int.reduceAdd]); (try simp only [Int.reduceSub]); (try simp only [Int.reduceMul]); (try simp only [Int.reduceMod]); (try simp only [Int.reduceDiv]); exact rfl)))); (((focus (refine IntWalk.i64_in _ ?_; omega)))))))))))))))) <;> (try (refine G_op1 ?_; ((apply K1_ev; exact rfl; ((focus ((apply E_indexAddr; exact rfl; exact rfl; ((focus (apply r_ixs Try.underlying74 sz_3; (focus omega); (focus omega); ((focus ((try simp only [Int.toNat_natCast]); (try simp only [Int.reduceToNat]); (try simp only [Nat.mul_one]); (try simp only [Nat.zero_mul]); (try simp only [Nat.reduceMul]); (try simp only [Nat.zero_add]); (try simp only [Nat.add_zero]); (try simp only [Nat.reduceAdd]); exact rfl)))))))))))))) <;> (try (refine G_op1 ?_; ((apply K1_store1 (t := 3); exact rfl; exact rfl; (((focus (repeat (exact fd0))))); exact rfl; exact rfl; kernel_rfl; (((focus (omega)))); ((focus ((try simp only [List.set_cons_succ]); (try simp only [List.set_cons_zero]); exact rfl))); (try simp only [List.set_cons_succ]); (try simp only [List.set_cons_zero]))))) <;> (try (refine G_nil ?_)))) | ((refine G_region (id := 6) ?_ <;> (try (refine G_op1 ?_; ((apply K1_ev; exact rfl; ((focus (exact E_move rfl))))))) <;> (try (refine G_op1 ?_; ((apply K1_ev; exact rfl; ((focus ((apply E_bin (op := .sub) (t := 3); exact rfl; exact rfl; exact rfl; ((focus ((apply rb_sub; (((focus ((try simp only [Int.reduceAdd]); (try simp only [Int.reduceSub]); (try simp only [Int.reduceMul]); (try simp only [Int.reduceMod]); (try simp only [Int.reduceDiv]); exact rfl)))); (((focus (refine IntWalk.i64_in _ ?_; omega)))))))))))))))) <;> (try (refine G_op1 ?_; ((apply K1_ev; exact rfl; ((focus (exact E_assign rfl))))))) <;> (try (refine G_nil ?_)))))
      refine G_meet (k, st2) ⟨⟨by dsimp only; omega, hs2, ?_, hgo'.out⟩, by dsimp only; omega⟩ (by ((focus (repeat (first | exact Sub.nil | refine Sub.cons rfl ?_ | (refine Sub.cons (congrArg some ?_) ?_; (focus go_num))))))) ?_
      · dsimp only
        rw [hstep'.out]
        exact set_rng (fun x h => by have := hur x h; omega) _ _ (by omega)
      · intro w H
        dsimp only
        rw [hstep'.out, ← i64s_set]
        exact H.sub ((List.sublist_append_right we L).cons_cons _)
end Go.Proofs.Ytcimcihhpkedfaa
