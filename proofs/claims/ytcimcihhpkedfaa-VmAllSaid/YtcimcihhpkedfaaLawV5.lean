/- VmAll: filters together. -/
import Derived.Test.YtcimcihhpkedfaaLawV1
import Derived.Test.YtcimcihhpkedfaaAct1
namespace Go.Proofs.Ytcimcihhpkedfaa
open Go Go.RowKit
/-- a filter of one answer -/
structure FE where
  n : Nat
  g : Nat
  cap : Nat
  cur : List Value
  k : Int
  r : Int
structure FE.ok (f : FE) : Prop where
  src : IsSrc f.cur [⟨6, 0, 0, f.k⟩] f.cap
  k : 0 ≤ f.k ∧ f.k < 4294967296
  r : 0 ≤ f.r ∧ f.r < 1000
def FE.b (f : FE) : List Blk := [flB f.n (.slice (some ⟨f.g, 0, none⟩) 1 f.cap) f.r f.r, srB f.g f.cur]
def fesB (l : List FE) : List Blk := l.flatMap FE.b
def FE.run (f : FE) : FE := { f with r := f.r + 1 }
theorem fesB_app (a b : List FE) : fesB (a ++ b) = fesB a ++ fesB b := by simp [fesB]
def FE.p (f : FE) : Value := .pointer (some ⟨f.n, 0, none⟩)
theorem HP.bring2 {S : List Nat} {w0 w : World} {r p a b : Blk} {D X : List Blk} (H : HP S w0 w (r :: p :: (D ++ (a :: b :: X)))) : HP S w0 w (a :: b :: r :: p :: (D ++ X)) :=
  H.perm (by
    have h1 : (r :: p :: (D ++ (a :: b :: X))).Perm (r :: p :: (a :: b :: (D ++ X))) := by
      refine .cons _ (.cons _ ?_)
      have : ([a, b] ++ X) = a :: b :: X := rfl
      rw [← this, ← List.append_assoc]
      exact (List.perm_append_comm.append_right X).trans (by rw [List.append_assoc]; exact .refl _)
    refine h1.trans ?_
    exact (List.perm_append_comm (l₁ := [r, p]) (l₂ := [a, b])).append_right (D ++ X))
theorem HP.back2 {S : List Nat} {w0 w : World} {r p a b : Blk} {D X : List Blk} (H : HP S w0 w (a :: b :: r :: p :: (D ++ X))) : HP S w0 w (r :: p :: ((D ++ [a, b]) ++ X)) :=
  H.perm (by
    have h0 : (a :: b :: r :: p :: (D ++ X)).Perm (r :: p :: a :: b :: (D ++ X)) := (List.perm_append_comm (l₁ := [a, b]) (l₂ := [r, p])).append_right (D ++ X)
    refine h0.trans (.cons _ (.cons _ ?_))
    exact (List.perm_append_comm (l₁ := [a, b]) (l₂ := D)).append_right X)
def allGo (l : List FE) : Int := l.foldl (fun o f => stronger o f.k) 2147418112
theorem stronger_rng {a b : Int} (h : 0 ≤ a ∧ a < 4294967296) (hb : 0 ≤ b ∧ b < 4294967296) : 0 ≤ stronger a b ∧ stronger a b < 4294967296 := by unfold stronger; split <;> assumption
theorem allGo_rng (l : List FE) (h : ∀ f ∈ l, f.ok) : 0 ≤ allGo l ∧ allGo l < 4294967296 := by
  unfold allGo
  have key : ∀ (l : List FE) (o : Int), (∀ f ∈ l, f.ok) → (0 ≤ o ∧ o < 4294967296) → 0 ≤ l.foldl (fun o f => stronger o f.k) o ∧ l.foldl (fun o f => stronger o f.k) o < 4294967296 := by
    intro l
    induction l with
    | nil => intro o _ ho; exact ho
    | cons f l ih => intro o hl ho; exact ih _ (fun g hg => hl g (by simp [hg])) (stronger_rng ho (hl f (by simp)).k)
  exact key l _ h (by omega)
theorem allGo_app (l : List FE) (f : FE) : allGo (l ++ [f]) = stronger (allGo l) f.k := by simp [allGo]
set_option maxRecDepth 100000 in
set_option maxHeartbeats 1000000 in
theorem allNil_c {S w0 L} (r : Rec) : Fn Try.prog 41 #[.slice none 0 0, .agg r.cells.toArray] S w0 L fun v L' => v = .int .u32 2147418112 ∧ L = L' := by
  refine Fn2 Try.func41 Try.ntmps41 rfl rfl ?_
  repeat' (first | ((refine G_markb (id := 0) ?_)) | refine G_seq ?_ | refine G_then_n ?_ | ((refine G_region (id := 0) ?_ <;> (try (refine G_op1 ?_; ((refine K1_box (t := 60) rfl rfl ?_; intro nb hnb; (try simp only [Value.cells]))))) <;> (try (refine G_op1 ?_; ((apply K1_ev; exact rfl; ((focus (exact E_assign rfl))))))) <;> (try (refine G_nil ?_)))) | ((refine G_region (id := 1) ?_ <;> (try (refine G_op1 ?_; ((apply K1_ev; exact rfl; ((focus (exact E_assign rfl))))))) <;> (try (refine G_nil ?_)))) | ((refine G_region (id := 2) ?_ <;> (try (refine G_op1 ?_; ((apply K1_ev; exact rfl; ((focus (exact E_move rfl))))))) <;> (try (refine G_op1 ?_; ((apply K1_ev; exact rfl; ((focus ((apply E_builtin; exact rfl; exact (fun _ => BigFrame.builtin_len ..); apply r_len_slice_e Try.underlying90; ((focus ((try simp only [Int.cast_ofNat_Int]); exact rfl))))))))))) <;> (try (refine G_op1 ?_; ((apply K1_ev; exact rfl; ((focus ((apply E_bin (op := .sub) (t := 3); exact rfl; exact rfl; exact rfl; ((focus ((apply rb_sub; (((focus ((try simp only [Int.reduceAdd]); (try simp only [Int.reduceSub]); (try simp only [Int.reduceMul]); (try simp only [Int.reduceMod]); (try simp only [Int.reduceDiv]); exact rfl)))); (((focus (refine IntWalk.i64_in _ ?_; omega)))))))))))))))) <;> (try (refine G_op1 ?_; ((apply K1_ev; exact rfl; ((focus (exact E_assign rfl))))))) <;> (try (refine G_nil ?_)))))
  refine ⟨?_⟩
  refine G_block ?_
  refine G_loopk (γ := Unit) (fun _ => True) (fun _ => 0) (fun _ => [(5, .int .u32 2147418112), (6, .int .i64 (-1))]) [(0, _), (3, _)] (fun _ => L) () (.cons rfl (.cons rfl .nil)) trivial (by ((focus (repeat (first | exact Sub.nil | refine Sub.cons rfl ?_ | (refine Sub.cons (congrArg some ?_) ?_; (focus go_num))))))) (fun _ H => H.tail) ?_
  intro _ _
  simp only [List.cons_append, List.nil_append]
  repeat' (first | refine G_seq ?_ | refine G_then_n ?_ | refine G_cut_x ?_ | refine G_then_x ?_ | refine G_blk_x ?_ | refine G_exit ?_ | refine G_ret ?_ | refine G_cond_f rfl ?_ | ((refine G_region (id := 3) ?_ <;> (try (refine G_op1 ?_; ((apply K1_ev; exact rfl; ((focus (exact E_move rfl))))))) <;> (try (refine G_op1 ?_; ((apply K1_ev; exact rfl; ((focus ((apply E_bin (op := .geq) (t := 3); exact rfl; exact rfl; exact rfl; ((focus ((refine rb_geq_f ?_; first | (with_reducible assumption) | (decide; done) | omega)))))))))))) <;> (try (refine G_nil ?_)))) | ((refine G_region (id := 7) ?_ <;> (try (refine G_op1 ?_; ((apply K1_ev; exact rfl; ((focus (exact E_move rfl))))))) <;> (try (refine G_op1 ?_; ((apply K1_ev; exact rfl; ((focus (exact E_assign rfl))))))) <;> (try (refine G_nil ?_)))))
  (refine G_done Try.results41 (.tmp rfl .nil) ?_)
  exact ⟨_, ⟨rfl, rfl⟩, by intro w H; refine H.sub ?_; (try simp only [List.cons_append, List.nil_append]); repeat (first | exact List.Sublist.refl _ | refine List.Sublist.cons_cons _ ?_ | refine List.Sublist.cons _ ?_ | refine List.sublist_append_of_sublist_right ?_)⟩
set_option maxRecDepth 100000 in
set_option maxHeartbeats 1000000 in
theorem all_fn {S w0 L} (fs : List FE) (hf : ∀ f ∈ fs, f.ok) (r : Rec) (hr : r.ok) (gp capP : Nat) (curP : Array Value) (hlen : fs.length ≤ 100) (hp : ∀ j (h : j < fs.length), curP.toList[fs.length - 1 - j]? = some (fs[j]).p) (hcs : fs.length ≤ curP.size) :
    Fn Try.prog 41 #[.slice (some ⟨gp, 0, none⟩) fs.length capP, .agg r.cells.toArray] S w0 (⟨true, gp, .cells curP 50 (0, 0)⟩ :: (fesB fs ++ L)) fun v L' =>
      v = .int .u32 (allGo fs) ∧ ⟨true, gp, .cells curP 50 (0, 0)⟩ :: (fesB (fs.map FE.run) ++ L) = L' := by
  have hr9 := rec_cells hr
  have hs9 := rec_size hr
  refine Fn2 Try.func41 Try.ntmps41 rfl rfl ?_
  repeat' (first | ((refine G_markb (id := 0) ?_)) | refine G_seq ?_ | refine G_then_n ?_ | ((refine G_region (id := 0) ?_ <;> (try (refine G_op1 ?_; ((refine K1_box (t := 60) rfl rfl ?_; intro nb hnb; (try simp only [Value.cells]))))) <;> (try (refine G_op1 ?_; ((apply K1_ev; exact rfl; ((focus (exact E_assign rfl))))))) <;> (try (refine G_nil ?_)))) | ((refine G_region (id := 1) ?_ <;> (try (refine G_op1 ?_; ((apply K1_ev; exact rfl; ((focus (exact E_assign rfl))))))) <;> (try (refine G_nil ?_)))) | ((refine G_region (id := 2) ?_ <;> (try (refine G_op1 ?_; ((apply K1_ev; exact rfl; ((focus (exact E_move rfl))))))) <;> (try (refine G_op1 ?_; ((apply K1_ev; exact rfl; ((focus ((apply E_builtin; exact rfl; exact (fun _ => BigFrame.builtin_len ..); apply r_len_slice_e Try.underlying90; ((focus ((try simp only [Int.cast_ofNat_Int]); exact rfl))))))))))) <;> (try (refine G_op1 ?_; ((apply K1_ev; exact rfl; ((focus ((apply E_bin (op := .sub) (t := 3); exact rfl; exact rfl; exact rfl; ((focus ((apply rb_sub; (((focus ((try simp only [Int.reduceAdd]); (try simp only [Int.reduceSub]); (try simp only [Int.reduceMul]); (try simp only [Int.reduceMod]); (try simp only [Int.reduceDiv]); exact rfl)))); (((focus (refine IntWalk.i64_in _ ?_; omega)))))))))))))))) <;> (try (refine G_op1 ?_; ((apply K1_ev; exact rfl; ((focus (exact E_assign rfl))))))) <;> (try (refine G_nil ?_)))))
  refine ⟨?_⟩
  obtain ⟨nbR, rfl⟩ : ∃ x, x = nb := ⟨_, rfl⟩
  refine G_block ?_
  refine G_loopk (γ := Nat) (fun j => j ≤ fs.length) (fun j => fs.length - j) (fun j => [(5, .int .u32 (allGo (fs.take j))), (6, .int .i64 ((fs.length : Int) - 1 - j))]) [(0, _), (3, _)]
    (fun j => ⟨true, nbR, .cells r.cells.toArray 60 (0, 0)⟩ :: ⟨true, gp, .cells curP 50 (0, 0)⟩ :: (fesB ((fs.take j).map FE.run) ++ (fesB (fs.drop j) ++ L)))
    0 (.cons rfl (.cons rfl .nil)) (Nat.zero_le _) (by ((focus (repeat (first | exact Sub.nil | refine Sub.cons rfl ?_ | (refine Sub.cons (congrArg some ?_) ?_; (focus go_num))))))) (fun _ H => H) ?_
  intro j (hj : j ≤ fs.length)
  simp only [List.cons_append, List.nil_append]
  have hrg := allGo_rng (fs.take j) (fun f h => hf f (List.mem_of_mem_take h))
  by_cases hlt : j < fs.length
  · have hpj := hp j hlt
    have hfj := hf _ (List.getElem_mem hlt)
    have hdr := List.drop_eq_getElem_cons hlt
    have htk : fs.take (j + 1) = fs.take j ++ [fs[j]] := by rw [List.take_add_one, List.getElem?_eq_getElem hlt]; rfl
    generalize fs[j] = f at *
    rw [hdr]
    have hag : allGo (fs.take (j + 1)) = stronger (allGo (fs.take j)) f.k := by rw [htk, allGo_app]
    refine G_blocks (L' := flB f.n (.slice (some ⟨f.g, 0, none⟩) 1 f.cap) f.r f.r :: srB f.g f.cur :: ⟨true, nbR, .cells r.cells.toArray 60 (0, 0)⟩ :: ⟨true, gp, .cells curP 50 (0, 0)⟩ :: (fesB ((fs.take j).map FE.run) ++ (fesB (fs.drop (j + 1)) ++ L))) (fun w H => HP.bring2 H) ?_
    obtain ⟨hsrc, hk, hrr⟩ := hfj
    obtain ⟨fn, fg, fcap, fcur, fk, fr⟩ := f
    dsimp only at *
    simp only [FE.p] at hpj
    have hix : ((fs.length : Int) - 1 - (j : Nat)).toNat = fs.length - 1 - j := by omega
    rw [← hix] at hpj
    have hrun := fun (L : List Blk) => run_c (S := S) (w0 := w0) (L := L) fn fg fcap fr fr fcur [⟨6, 0, 0, fk⟩] r (ret_ok hk) (by simp) hsrc hr (by omega) (by omega)
    simp only [ret_run, List.length_cons, List.length_nil, Nat.zero_add] at hrun
    have hst := fun (L : List Blk) => stronger_c (S := S) (w0 := w0) (L := L) (allGo (fs.take j)) fk hrg hk
    have hag' := Lib.hid hag
    have htk' := Lib.hid htk
    clear hag htk hdr hp hf hsrc hix
    generalize allGo (fs.take j) = og at *
    repeat' (first | refine G_seq ?_ | refine G_then_n ?_ | refine G_cut_n ?_ | refine G_blk_n ?_ | refine G_block ?_ | refine G_skip ?_ | refine G_cond_t rfl ?_ | ((refine G_region (id := 3) ?_ <;> (try (refine G_op1 ?_; ((apply K1_ev; exact rfl; ((focus (exact E_move rfl))))))) <;> (try (refine G_op1 ?_; ((apply K1_ev; exact rfl; ((focus ((apply E_bin (op := .geq) (t := 3); exact rfl; exact rfl; exact rfl; ((focus ((refine rb_geq_t ?_; first | (with_reducible assumption) | (decide; done) | omega)))))))))))) <;> (try (refine G_nil ?_)))) | (((apply G_regionHb (i := 0) (id := 5) (m := 11); ((focus ((try simp only [List.eraseIdx_cons_succ]); (try simp only [List.eraseIdx_cons_zero]); exact rfl))); kernel_rfl; exact rfl) <;> (try ((apply H_take (i := 0); exact rfl; kernel_rfl; kernel_rfl; kernel_rfl; exact rfl; (((focus (intro w H; first | exact H | exact H.drop1 | exact H.tail | exact H.tail.drop1 | exact H.tail.tail.drop1 | (repeat fail))))); ((focus (apply Y_ev; (exact E_move rfl))))))) <;> (try ((apply H_take (i := 1); exact rfl; kernel_rfl; kernel_rfl; kernel_rfl; exact rfl; (((focus (intro w H; first | exact H | exact H.drop1 | exact H.tail | exact H.tail.drop1 | exact H.tail.tail.drop1 | (repeat fail))))); ((focus (apply Y_ev; (exact E_move rfl))))))) <;> (try ((apply H_take (i := 2); exact rfl; kernel_rfl; kernel_rfl; kernel_rfl; exact rfl; (((focus (intro w H; first | exact H | exact H.drop1 | exact H.tail | exact H.tail.drop1 | exact H.tail.tail.drop1 | (repeat fail))))); ((focus (apply Y_ev; ((apply E_indexAddr; exact rfl; exact rfl; ((focus (apply r_ixs Try.underlying90 sz_50; (focus omega); (focus omega); ((focus ((try simp only [Int.toNat_natCast]); (try simp only [Int.reduceToNat]); (try simp only [Nat.mul_one]); (try simp only [Nat.zero_mul]); (try simp only [Nat.reduceMul]); (try simp only [Nat.zero_add]); (try simp only [Nat.add_zero]); (try simp only [Nat.reduceAdd]); exact rfl)))))))))))))) <;> (try ((apply H_take (i := 3); exact rfl; kernel_rfl; kernel_rfl; kernel_rfl; exact rfl; (((focus (intro w H; first | exact H | exact H.drop1 | exact H.tail | exact H.tail.drop1 | exact H.tail.tail.drop1 | (repeat fail))))); ((focus (apply Y_ev; ((apply E_load1 (t := 50); exact rfl; (((focus (repeat (first | exact fd0 | apply fdS))))); kernel_rfl; kernel_rfl; (((focus (with_reducible assumption)))))))))))) <;> (try ((apply H_take (i := 4); exact rfl; kernel_rfl; kernel_rfl; kernel_rfl; exact rfl; (((focus (intro w H; first | exact H | exact H.drop1 | exact H.tail | exact H.tail.drop1 | exact H.tail.tail.drop1 | (repeat fail))))); ((focus (apply Y_ev; ((apply E_loadA (t := 60); exact rfl; (((focus (repeat (first | exact fd0 | apply fdS))))); kernel_rfl; kernel_rfl; exact sz_60; (((focus (with_reducible assumption)))); (((focus (with_reducible assumption)))))))))))) <;> (try ((refine H_run (i := 5) rfl (by kernel_rfl) ?_; (((refine K1_call (F := 29) (by kernel_rfl) rfl rfl (hrun _) ?_; rintro _ _ ⟨rfl, rfl⟩))); refine H_go ?_ ?_; (((focus (intro w H; first | exact H | exact H.drop1 | exact H.tail | exact H.tail.drop1 | exact H.tail.tail.drop1 | (repeat fail)))))))) <;> (try ((apply H_take (i := 6); exact rfl; kernel_rfl; kernel_rfl; kernel_rfl; exact rfl; (((focus (intro w H; first | exact H | exact H.drop1 | exact H.tail | exact H.tail.drop1 | exact H.tail.tail.drop1 | (repeat fail))))); ((focus (apply Y_ev; (exact E_move rfl))))))) <;> (try ((apply H_take (i := 7); exact rfl; kernel_rfl; kernel_rfl; kernel_rfl; exact rfl; (((focus (intro w H; first | exact H | exact H.drop1 | exact H.tail | exact H.tail.drop1 | exact H.tail.tail.drop1 | (repeat fail))))); ((focus (apply Y_ev; (exact E_extractL rfl rfl))))))) <;> (try ((apply H_take (i := 8); exact rfl; kernel_rfl; kernel_rfl; kernel_rfl; exact rfl; (((focus (intro w H; first | exact H | exact H.drop1 | exact H.tail | exact H.tail.drop1 | exact H.tail.tail.drop1 | (repeat fail))))); ((focus (apply Y_ev; (exact E_extractL rfl rfl))))))) <;> (try ((apply H_take (i := 9); exact rfl; kernel_rfl; kernel_rfl; kernel_rfl; exact rfl; (((focus (intro w H; first | exact H | exact H.drop1 | exact H.tail | exact H.tail.drop1 | exact H.tail.tail.drop1 | (repeat fail))))); ((focus (apply Y_ev; (exact E_assign rfl))))))) <;> (try ((apply H_take (i := 10); exact rfl; kernel_rfl; kernel_rfl; kernel_rfl; exact rfl; (((focus (intro w H; first | exact H | exact H.drop1 | exact H.tail | exact H.tail.drop1 | exact H.tail.tail.drop1 | (repeat fail))))); ((focus (apply Y_ev; (exact E_assign rfl))))))) <;> (try (refine H_done (by kernel_rfl) ?_)))) | ((refine G_region (id := 6) ?_ <;> (try (refine G_op1 ?_; ((apply K1_ev; exact rfl; ((focus (exact E_move rfl))))))) <;> (try (refine G_op1 ?_; ((apply K1_ev; exact rfl; ((focus (exact E_move rfl))))))) <;> (try (refine G_op1 ?_; (((refine K1_call (F := 58) (by kernel_rfl) rfl rfl (hst _) ?_; rintro _ _ ⟨rfl, rfl⟩))))) <;> (try (refine G_op1 ?_; ((apply K1_ev; exact rfl; ((focus (exact E_assign rfl))))))) <;> (try (refine G_nil ?_)))) | ((refine G_region (id := 4) ?_ <;> (try (refine G_op1 ?_; ((apply K1_ev; exact rfl; ((focus (exact E_move rfl))))))) <;> (try (refine G_op1 ?_; ((apply K1_ev; exact rfl; ((focus ((apply E_bin (op := .sub) (t := 3); exact rfl; exact rfl; exact rfl; ((focus ((apply rb_sub; (((focus ((try simp only [Int.reduceAdd]); (try simp only [Int.reduceSub]); (try simp only [Int.reduceMul]); (try simp only [Int.reduceMod]); (try simp only [Int.reduceDiv]); exact rfl)))); (((focus (refine IntWalk.i64_in _ ?_; omega)))))))))))))))) <;> (try (refine G_op1 ?_; ((apply K1_ev; exact rfl; ((focus (exact E_assign rfl))))))) <;> (try (refine G_nil ?_)))))
    have ee : fesB ((fs.take (j + 1)).map FE.run) = fesB ((fs.take j).map FE.run) ++ [flB fn (.slice (some ⟨fg, 0, none⟩) 1 fcap) (fr + 1) (fr + 1), srB fg fcur] := by rw [htk'.out, List.map_append, fesB_app]; rfl
    refine G_meet (j + 1) ⟨by omega, by omega⟩ (Sub.cons (congrArg some (congrArg (Value.int .u32) ?_)) ?_) ?_
    · exact hag'.out.symm
    · ((focus (repeat (first | exact Sub.nil | refine Sub.cons rfl ?_ | (refine Sub.cons (congrArg some ?_) ?_; (focus go_num))))))
    · intro w H
      rw [ee]; exact HP.back2 H
  · obtain rfl : j = fs.length := by omega
    repeat' (first | refine G_seq ?_ | refine G_then_n ?_ | refine G_cut_x ?_ | refine G_then_x ?_ | refine G_blk_x ?_ | refine G_exit ?_ | refine G_ret ?_ | refine G_cond_f rfl ?_ | ((refine G_region (id := 3) ?_ <;> (try (refine G_op1 ?_; ((apply K1_ev; exact rfl; ((focus (exact E_move rfl))))))) <;> (try (refine G_op1 ?_; ((apply K1_ev; exact rfl; ((focus ((apply E_bin (op := .geq) (t := 3); exact rfl; exact rfl; exact rfl; ((focus ((refine rb_geq_f ?_; first | (with_reducible assumption) | (decide; done) | omega)))))))))))) <;> (try (refine G_nil ?_)))) | ((refine G_region (id := 7) ?_ <;> (try (refine G_op1 ?_; ((apply K1_ev; exact rfl; ((focus (exact E_move rfl))))))) <;> (try (refine G_op1 ?_; ((apply K1_ev; exact rfl; ((focus (exact E_assign rfl))))))) <;> (try (refine G_nil ?_)))))
    (refine G_done Try.results41 (.tmp rfl .nil) ?_)
    refine ⟨_, ⟨?_, rfl⟩, ?_⟩
    · rw [List.take_length]; rfl
    · intro w H
      have := H.tail
      rw [List.take_length, List.drop_length] at this
      exact this
end Go.Proofs.Ytcimcihhpkedfaa
