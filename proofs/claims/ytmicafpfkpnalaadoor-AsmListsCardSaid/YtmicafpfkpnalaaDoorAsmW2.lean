/- A line's words as an instruction. -/
import Derived.Test.YtmicafpfkpnalaaDoorAsmW1
namespace Go.Proofs.YtmicafpfkpnalaaDoor
open Go Go.RowKit
def u64s (l : List Nat) : List Value := l.map fun (x : Nat) => Value.int .u64 (x : Int)
theorem u64s_at {l : List Nat} {k : Nat} (h : k < l.length) : (u64s l)[k]? = some (.int .u64 (l[k] : Nat)) := by simp [u64s, h]
set_option maxRecDepth 100000 in
theorem limits0_c {S w0 L} : Fn Tryd.prog 77 #[.int .u8 ((0 : Nat) : Int)] S w0 L fun v L' => v = .slice none 0 0 ∧ L = L' := by
  refine Fn1 Tryd.func77 Tryd.ntmps77 rfl rfl ?_
  repeat' (first | refine G_seq ?_ | refine G_nil ?_ | refine G_then_n ?_ | refine G_cut_n ?_ | refine G_cut_x ?_ | refine G_cut_r ?_ | refine G_then_x ?_ | refine G_then_r ?_ | refine G_blk_n ?_ | refine G_blk_r ?_ | refine G_blk_x ?_ | refine G_blk_y rfl ?_ | refine G_block ?_ | refine G_skip ?_ | refine G_exit ?_ | refine G_ret ?_ | refine G_cond_t rfl ?_ | refine G_cond_f rfl ?_ | (refine G_region (id := 0) ?_ <;> (try (refine G_op1 ?_; (first | (apply K1_ev; exact rfl; ((focus (exact E_assign rfl))))))) <;> (try (refine G_nil ?_))) | (refine G_region (id := 1) ?_ <;> (try (refine G_op1 ?_; (first | (apply K1_ev; exact rfl; ((focus (exact E_move rfl))))))) <;> (try (refine G_nil ?_))) | (refine G_region (id := 2) ?_ <;> (try (refine G_op1 ?_; (first | (apply K1_ev; exact rfl; ((focus ((apply E_bin (op := .eql) (t := 113); exact rfl; exact rfl; exact rfl; ((focus (first | (refine rb_eql_t' ?_; first | rfl | (with_reducible assumption) | (decide; done) | omega) | (refine rb_eql_f ?_; first | (with_reducible assumption) | (decide; done) | omega) | exact rb_eql))))))))))) <;> (try (refine G_op1 ?_; (first | (apply K1_ev; exact rfl; ((focus (exact E_assign rfl))))))) <;> (try (refine G_nil ?_))) | (refine G_region (id := 3) ?_ <;> (try (refine G_op1 ?_; (first | (refine K1_buildSlice (t := 189) (m := 1) (e := 22) (fun (vs : List (Nat × Value)) => (match vs with | [(_, x0)] => [x0] | _ => [] : List Value)) rfl rfl (fun w => by kernel_rfl) ?_; intro nb hnb; (try simp only [Value.cells]); (try simp only [List.cons_append]); (try simp only [List.nil_append]))))) <;> (try (refine G_op1 ?_; (first | (apply K1_ev; exact rfl; ((focus (exact E_assign rfl))))))) <;> (try (refine G_nil ?_))) | (refine G_region (id := 4) ?_ <;> (try (refine G_op1 ?_; (first | (apply K1_ev; exact rfl; ((focus ((apply E_bin (op := .eql) (t := 113); exact rfl; exact rfl; exact rfl; ((focus (first | (refine rb_eql_t' ?_; first | rfl | (with_reducible assumption) | (decide; done) | omega) | (refine rb_eql_f ?_; first | (with_reducible assumption) | (decide; done) | omega) | exact rb_eql))))))))))) <;> (try (refine G_op1 ?_; (first | (apply K1_ev; exact rfl; ((focus (exact E_assign rfl))))))) <;> (try (refine G_nil ?_))) | (refine G_region (id := 5) ?_ <;> (try (refine G_op1 ?_; (first | (refine K1_buildSlice (t := 189) (m := 2) (e := 22) (fun (vs : List (Nat × Value)) => (match vs with | [(_, x0), (_, x1)] => [x0, x1] | _ => [] : List Value)) rfl rfl (fun w => by kernel_rfl) ?_; intro nb hnb; (try simp only [Value.cells]); (try simp only [List.cons_append]); (try simp only [List.nil_append]))))) <;> (try (refine G_op1 ?_; (first | (apply K1_ev; exact rfl; ((focus (exact E_assign rfl))))))) <;> (try (refine G_nil ?_))) | (refine G_region (id := 6) ?_ <;> (try (refine G_op1 ?_; (first | (apply K1_ev; exact rfl; ((focus ((apply E_bin (op := .eql) (t := 113); exact rfl; exact rfl; exact rfl; ((focus (first | (refine rb_eql_t' ?_; first | rfl | (with_reducible assumption) | (decide; done) | omega) | (refine rb_eql_f ?_; first | (with_reducible assumption) | (decide; done) | omega) | exact rb_eql))))))))))) <;> (try (refine G_op1 ?_; (first | (apply K1_ev; exact rfl; ((focus (exact E_assign rfl))))))) <;> (try (refine G_nil ?_))) | (refine G_region (id := 7) ?_ <;> (try (refine G_op1 ?_; (first | (refine K1_buildSlice (t := 189) (m := 3) (e := 22) (fun (vs : List (Nat × Value)) => (match vs with | [(_, x0), (_, x1), (_, x2)] => [x0, x1, x2] | _ => [] : List Value)) rfl rfl (fun w => by kernel_rfl) ?_; intro nb hnb; (try simp only [Value.cells]); (try simp only [List.cons_append]); (try simp only [List.nil_append]))))) <;> (try (refine G_op1 ?_; (first | (apply K1_ev; exact rfl; ((focus (exact E_assign rfl))))))) <;> (try (refine G_nil ?_))) | (refine G_region (id := 8) ?_ <;> (try (refine G_op1 ?_; (first | (apply K1_ev; exact rfl; ((focus (exact E_assign rfl))))))) <;> (try (refine G_nil ?_))) | ((first | (refine G_cond_nd rfl (fun hc => ?_) (fun hc => ?_)) | (refine G_cond_d rfl (fun hc => ?_) (fun hc => ?_)) | (refine G_cond rfl (fun hc => ?_) (fun hc => ?_))) <;> (try subst hc)))
  (refine G_done Tryd.results77 (.tmp rfl .nil) ?_)
  exact ⟨_, ⟨rfl, rfl⟩, by intro w H; refine H.sub ?_; (try simp only [List.cons_append, List.nil_append]); repeat (first | exact List.Sublist.refl _ | refine List.Sublist.cons_cons _ ?_ | refine List.Sublist.cons _ ?_ | refine List.sublist_append_of_sublist_right ?_)⟩
set_option maxRecDepth 100000 in
theorem limits_c {S w0 L} (f : Nat) (hf : f = 1 ∨ f = 2 ∨ f = 3) : Fn Tryd.prog 77 #[.int .u8 (f : Int)] S w0 L fun v L' => ∃ g, v = .slice (some ⟨g, 0, none⟩) (limF f).length (limF f).length ∧ ⟨true, g, .cells (u64s (limF f)).toArray 22 (0, 0)⟩ :: L = L' := by
  rcases hf with rfl | rfl | rfl
  all_goals
    refine Fn1 Tryd.func77 Tryd.ntmps77 rfl rfl ?_
    repeat' (first | refine G_seq ?_ | refine G_nil ?_ | refine G_then_n ?_ | refine G_cut_n ?_ | refine G_cut_x ?_ | refine G_cut_r ?_ | refine G_then_x ?_ | refine G_then_r ?_ | refine G_blk_n ?_ | refine G_blk_r ?_ | refine G_blk_x ?_ | refine G_blk_y rfl ?_ | refine G_block ?_ | refine G_skip ?_ | refine G_exit ?_ | refine G_ret ?_ | refine G_cond_t rfl ?_ | refine G_cond_f rfl ?_ | (refine G_region (id := 0) ?_ <;> (try (refine G_op1 ?_; (first | (apply K1_ev; exact rfl; ((focus (exact E_assign rfl))))))) <;> (try (refine G_nil ?_))) | (refine G_region (id := 1) ?_ <;> (try (refine G_op1 ?_; (first | (apply K1_ev; exact rfl; ((focus (exact E_move rfl))))))) <;> (try (refine G_nil ?_))) | (refine G_region (id := 2) ?_ <;> (try (refine G_op1 ?_; (first | (apply K1_ev; exact rfl; ((focus ((apply E_bin (op := .eql) (t := 113); exact rfl; exact rfl; exact rfl; ((focus (first | (refine rb_eql_t' ?_; first | rfl | (with_reducible assumption) | (decide; done) | omega) | (refine rb_eql_f ?_; first | (with_reducible assumption) | (decide; done) | omega) | exact rb_eql))))))))))) <;> (try (refine G_op1 ?_; (first | (apply K1_ev; exact rfl; ((focus (exact E_assign rfl))))))) <;> (try (refine G_nil ?_))) | (refine G_region (id := 3) ?_ <;> (try (refine G_op1 ?_; (first | (refine K1_buildSlice (t := 189) (m := 1) (e := 22) (fun (vs : List (Nat × Value)) => (match vs with | [(_, x0)] => [x0] | _ => [] : List Value)) rfl rfl (fun w => by kernel_rfl) ?_; intro nb hnb; (try simp only [Value.cells]); (try simp only [List.cons_append]); (try simp only [List.nil_append]))))) <;> (try (refine G_op1 ?_; (first | (apply K1_ev; exact rfl; ((focus (exact E_assign rfl))))))) <;> (try (refine G_nil ?_))) | (refine G_region (id := 4) ?_ <;> (try (refine G_op1 ?_; (first | (apply K1_ev; exact rfl; ((focus ((apply E_bin (op := .eql) (t := 113); exact rfl; exact rfl; exact rfl; ((focus (first | (refine rb_eql_t' ?_; first | rfl | (with_reducible assumption) | (decide; done) | omega) | (refine rb_eql_f ?_; first | (with_reducible assumption) | (decide; done) | omega) | exact rb_eql))))))))))) <;> (try (refine G_op1 ?_; (first | (apply K1_ev; exact rfl; ((focus (exact E_assign rfl))))))) <;> (try (refine G_nil ?_))) | (refine G_region (id := 5) ?_ <;> (try (refine G_op1 ?_; (first | (refine K1_buildSlice (t := 189) (m := 2) (e := 22) (fun (vs : List (Nat × Value)) => (match vs with | [(_, x0), (_, x1)] => [x0, x1] | _ => [] : List Value)) rfl rfl (fun w => by kernel_rfl) ?_; intro nb hnb; (try simp only [Value.cells]); (try simp only [List.cons_append]); (try simp only [List.nil_append]))))) <;> (try (refine G_op1 ?_; (first | (apply K1_ev; exact rfl; ((focus (exact E_assign rfl))))))) <;> (try (refine G_nil ?_))) | (refine G_region (id := 6) ?_ <;> (try (refine G_op1 ?_; (first | (apply K1_ev; exact rfl; ((focus ((apply E_bin (op := .eql) (t := 113); exact rfl; exact rfl; exact rfl; ((focus (first | (refine rb_eql_t' ?_; first | rfl | (with_reducible assumption) | (decide; done) | omega) | (refine rb_eql_f ?_; first | (with_reducible assumption) | (decide; done) | omega) | exact rb_eql))))))))))) <;> (try (refine G_op1 ?_; (first | (apply K1_ev; exact rfl; ((focus (exact E_assign rfl))))))) <;> (try (refine G_nil ?_))) | (refine G_region (id := 7) ?_ <;> (try (refine G_op1 ?_; (first | (refine K1_buildSlice (t := 189) (m := 3) (e := 22) (fun (vs : List (Nat × Value)) => (match vs with | [(_, x0), (_, x1), (_, x2)] => [x0, x1, x2] | _ => [] : List Value)) rfl rfl (fun w => by kernel_rfl) ?_; intro nb hnb; (try simp only [Value.cells]); (try simp only [List.cons_append]); (try simp only [List.nil_append]))))) <;> (try (refine G_op1 ?_; (first | (apply K1_ev; exact rfl; ((focus (exact E_assign rfl))))))) <;> (try (refine G_nil ?_))) | (refine G_region (id := 8) ?_ <;> (try (refine G_op1 ?_; (first | (apply K1_ev; exact rfl; ((focus (exact E_assign rfl))))))) <;> (try (refine G_nil ?_))) | ((first | (refine G_cond_nd rfl (fun hc => ?_) (fun hc => ?_)) | (refine G_cond_d rfl (fun hc => ?_) (fun hc => ?_)) | (refine G_cond rfl (fun hc => ?_) (fun hc => ?_))) <;> (try subst hc)))
    (refine G_done Tryd.results77 (.tmp rfl .nil) ?_)
    exact ⟨_, ⟨_, rfl, rfl⟩, fun _ H => H⟩
/-- an array's four numbers -/
def nC (ns : List Nat) : List Value := [.int .u64 (ns.getD 0 0 : Nat), .int .u64 (ns.getD 1 0 : Nat), .int .u64 (ns.getD 2 0 : Nat), .int .u64 (ns.getD 3 0 : Nat)]
theorem nC_set (ns : List Nat) (v : Nat) (h : ns.length < 4) : (nC ns).set ns.length (.int .u64 (v : Nat)) = nC (ns ++ [v]) := by
  match ns, h with
  | [], _ => rfl
  | [a], _ => rfl
  | [a, b], _ => rfl
  | [a, b, c], _ => rfl
structure NmI (ms : List Nat) (xs : List (List UInt8)) (ns : List Nat) : Prop where
  le : ns.length ≤ ms.length
  eq : numsGo ms xs [] = numsGo (ms.drop ns.length) (xs.drop ns.length) ns
  bd : ∀ j, ns.getD j 0 ≤ ms.getD j 0
theorem getD_snoc (ns : List Nat) (v j : Nat) : (ns ++ [v]).getD j 0 = if j = ns.length then v else ns.getD j 0 := by
  simp only [List.getD_eq_getElem?_getD, List.getElem?_append]
  by_cases h : j < ns.length
  · rw [if_pos h, if_neg (by omega)]
  · rw [if_neg h]
    by_cases h2 : j = ns.length
    · subst h2; simp
    · rw [if_neg h2, List.getElem?_eq_none (l := ns) (by omega)]
      have : ([v] : List Nat)[j - ns.length]? = none := List.getElem?_eq_none (by simp; omega)
      rw [this]
theorem NmI.step {ms : List Nat} {xs : List (List UInt8)} {ns : List Nat} (H : NmI ms xs ns) (h : ns.length < ms.length) (hx : ns.length < xs.length) {v : Nat} (hv : numF xs[ns.length] = some v) (hm : v ≤ ms[ns.length]) : NmI ms xs (ns ++ [v]) := by
  refine ⟨by rw [List.length_append, List.length_singleton]; omega, ?_, fun j => ?_⟩
  · rw [H.eq, List.drop_eq_getElem_cons h, List.drop_eq_getElem_cons hx, numsGo, hv]
    dsimp only
    rw [if_neg (by omega), List.length_append, List.length_singleton]
  · rw [getD_snoc]
    split
    · rename_i e
      subst e
      rw [List.getD_eq_getElem?_getD, List.getElem?_eq_getElem h]; exact hm
    · exact H.bd j
theorem NmI.none {ms : List Nat} {xs : List (List UInt8)} {ns : List Nat} (H : NmI ms xs ns) (h : ns.length < ms.length) (hx : ns.length < xs.length) (hv : numF xs[ns.length] = none) : numsGo ms xs [] = (202, ns) := by
  rw [H.eq, List.drop_eq_getElem_cons h, List.drop_eq_getElem_cons hx, numsGo, hv]
theorem NmI.more {ms : List Nat} {xs : List (List UInt8)} {ns : List Nat} (H : NmI ms xs ns) (h : ns.length < ms.length) (hx : ns.length < xs.length) {v : Nat} (hv : numF xs[ns.length] = some v) (hm : v > ms[ns.length]) : numsGo ms xs [] = (204, ns) := by
  rw [H.eq, List.drop_eq_getElem_cons h, List.drop_eq_getElem_cons hx, numsGo, hv]
  dsimp only
  rw [if_pos hm]
theorem NmI.all {ms : List Nat} {xs : List (List UInt8)} {ns : List Nat} (H : NmI ms xs ns) (h : ns.length = ms.length) : numsGo ms xs [] = (0, ns) := by
  rw [H.eq, h, List.drop_length, numsGo]
  intro m ms' y ys h; cases h
theorem zIns_v : zIns.v = .agg #[.int .u16 0, .int .u8 0, .int .u8 0, .int .u32 0] := rfl
theorem numbered_len {is : Bool} {c f : Nat} {ms : List Nat} {l : List (List UInt8)} (h : ¬ l.length = ms.length + 1) : numbered is c f ms l = (zIns, 203) := by unfold numbered; rw [if_pos h]
theorem numbered_bad {is : Bool} {c f : Nat} {ms : List Nat} {l : List (List UInt8)} (h : l.length = ms.length + 1) {e : Nat} {ns : List Nat} (hn : numsGo ms l.tail [] = (e + 1, ns)) : numbered is c f ms l = (zIns, e + 1) := by
  unfold numbered; rw [if_neg (fun hh => hh h), hn]
theorem numbered_ok {is : Bool} {c f : Nat} {ms : List Nat} {l : List (List UInt8)} (h : l.length = ms.length + 1) {ns : List Nat} (hn : numsGo ms l.tail [] = (0, ns)) : numbered is c f ms l = (insOf is c f ns, 0) := by
  unfold numbered; rw [if_neg (fun hh => hh h), hn]
theorem tab_keep {P : Program} {w0 w : World} {L : List Blk} {n : String} {k : IntKind} {zs : List Int} (h : Lib.TabIs P w0 n k zs) (H : HP [] w0 w L) : Lib.TabIs P w n k zs := by
  unfold Lib.TabIs World.var? at h ⊢
  cases hg : P.globalNamed n with
  | none => rw [hg] at h; cases h
  | some g =>
    rw [hg] at h
    dsimp only [Option.bind_some] at h ⊢
    have hlt : g < w0.heap.size := by
      rcases Nat.lt_or_ge g w0.heap.size with h1 | h1
      · exact h1
      · rw [Array.getElem?_eq_none h1] at h; cases h
    rw [H.keep g hlt (by simp)]; exact h
theorem fields_c {w0 L} (hT : Lib.TabIs Tryd.prog w0 "strings.asciiSpace" .u8 Lib.asciiSpaceTab) (s : ByteArray) (hs : s.size ≤ 1000000) (ha : ∀ b ∈ lB s, b.toNat < 128) : Fn Tryd.prog 45 #[.string s] [] w0 L fun v L' => ∃ nb, v = .slice (some ⟨nb, 0, none⟩) (Lib.fields (lB s)).length (Lib.fields (lB s)).length ∧ ⟨true, nb, .cells (strs (Lib.fields (lB s))).toArray 9 (0, 0)⟩ :: L = L' :=
  .mk fun w H => (strings_Fields s w (by omega) (fun j b hj => ha b (List.mem_of_getElem? hj)) (tab_keep hT H)).mono fun e w' ⟨he, hw⟩ => ⟨_, _, he, ⟨_, rfl, rfl⟩, hw ▸ H.alloc _⟩
end Go.Proofs.YtmicafpfkpnalaaDoor
