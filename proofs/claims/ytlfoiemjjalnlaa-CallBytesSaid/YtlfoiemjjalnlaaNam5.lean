/- Table.All, walked: the map's entries in whatever order, put in order. -/
import Derived.Test.YtlfoiemjjalnlaaNam4
import Derived.Test.YtlfoiemjjalnlaaGrm
namespace Go.Proofs.Ytlfoiemjjalnlaa
open Go Go.RowKit
theorem byNum_len : (byNum clls).length = 30 := by kernel_rfl
theorem byNum_get {q : Nat} {p : Value × Value} (h : (byNum clls)[q]? = some p) : ∃ c, clls[q]? = some c ∧ p = (.int .u32 c.num, .agg #[.int .u32 c.num, .string c.name, .int .i64 c.args]) := by
  unfold byNum at h
  rw [List.getElem?_map, Option.map_eq_some_iff] at h
  obtain ⟨c, h1, rfl⟩ := h
  exact ⟨c, h1, rfl⟩
def C0 : Cll := ⟨0, ⟨#[]⟩, 0⟩
/-- who has come, as calls -/
def come (seen : List Nat) : List Cll := seen.map fun q => clls.getD q C0
theorem come_snoc (seen : List Nat) (q : Nat) (c : Cll) (h : clls[q]? = some c) : come (seen ++ [q]) = come seen ++ [c] := by
  simp [come, List.getD_eq_getElem?_getD, h]
theorem come_len (seen : List Nat) : (come seen).length = seen.length := List.length_map ..
theorem flatN_snoc (l : List Cll) (c : Cll) : flatN (l ++ [c]) = flatN l ++ c.cells := by simp [flatN]
structure AllI (g : List Nat × Value × List Blk) : Prop where
  nd : g.1.Nodup
  lt : ∀ q ∈ g.1, q < 30
  own : Own 48 3 g.2.1 g.1.length (flatN (come g.1)) g.2.2
theorem nodup_len {l : List Nat} (h : l.Nodup) {n : Nat} (hl : ∀ q ∈ l, q < n) : l.length ≤ n := by
  have h2 : l.length ≤ (List.range n).length := List.Nodup.length_le_of_subset h (fun q hq => List.mem_range.2 (hl q hq))
  simpa using h2
theorem come_perm {seen : List Nat} (hn : seen.Nodup) (hl : ∀ q ∈ seen, q < 30) (hd : ∀ q, q < 30 → q ∈ seen) : (come seen).Perm clls := by
  have h1 : seen.Perm (List.range 30) := by
    rw [List.perm_ext_iff_of_nodup hn List.nodup_range]
    intro q
    rw [List.mem_range]
    exact ⟨hl q, hd q⟩
  have h2 : come (List.range 30) = clls := by kernel_rfl
  rw [← h2]
  exact h1.map _
theorem names_len (c : Cll) (hc : c ∈ clls) : c.name.size ≤ maxLen := by
  have : ∀ c ∈ clls, c.name.size ≤ 20 := by decide +kernel
  have := this c hc
  unfold maxLen; omega
set_option maxRecDepth 100000 in
set_option maxHeartbeats 4000000 in
/-- All of a table that is made: what comes of it is put in order by F (its contract: hsort). -/
theorem all1_c {S w0 L} (b m1 m2 : Nat) (a m : Int) (ha : 0 ≤ a ∧ a < 4000000000000000000)
    (hsort : ∀ (L : List Blk) (g cap : Nat) (cur : Array Value) (l : List Cll), l.Perm clls → cur.size = cap * 3 → cur.toList.take 90 = flatN l →
      Fn Try.prog 23 #[.slice (some ⟨g, 0, none⟩) 30 cap, .func (.func 24) #[] #[]] S w0 (⟨true, g, .cells cur 48 (0, 0)⟩ :: L) fun v L' => v = tupleOf [] ∧ ∃ cur2 : Array Value, cur2.size = cap * 3 ∧ cur2.toList.take 90 = flatN clls ∧ ⟨true, g, .cells cur2 48 (0, 0)⟩ :: L = L') :
    Fn Try.prog 12 #[.pointer (some ⟨b, 0, none⟩)] S w0 (tbl1 b m1 m2 a m :: mapB m1 (byName clls) :: mapB m2 (byNum clls) :: L) fun v L' =>
      ∃ e, Own 48 3 v 30 (flatN clls) e ∧ e ++ (tbl1 b m1 m2 (a + 1) m :: mapB m1 (byName clls) :: mapB m2 (byNum clls) :: L) = L' := by
  have hask := fun (L : List Blk) => ask1_c (S := S) (w0 := w0) (L := L) b m1 m2 a m ha
  refine Fn1 Try.func12 Try.ntmps12 rfl rfl ?_
  repeat' (first | ((refine G_markb (id := 0) ?_)) | refine G_seq ?_ | refine G_then_n ?_ | refine G_skip ?_ | refine G_cond_f rfl ?_ | ((refine G_region (id := 0) ?_ <;> (try (refine G_op1 ?_; ((apply K1_ev; exact rfl; ((focus (exact E_assign rfl))))))) <;> (try (refine G_nil ?_)))) | ((refine G_region (id := 1) ?_ <;> (try (refine G_op1 ?_; ((apply K1_ev; exact rfl; ((focus (exact E_move rfl))))))) <;> (try (refine G_op1 ?_; (((refine K1_call (F := 22) (by kernel_rfl) rfl rfl (hask _) ?_; rintro _ _ ⟨rfl, rfl⟩))))) <;> (try (refine G_op1 ?_; ((apply K1_ev; exact rfl; ((focus ((apply E_un; exact rfl; ((focus (exact ru_not_t))))))))))) <;> (try (refine G_nil ?_)))) | ((refine G_region (id := 3) ?_ <;> (try (refine G_op1 ?_; ((apply K1_ev; exact rfl; ((focus (exact E_assign rfl))))))) <;> (try (refine G_nil ?_)))) | ((refine G_region (id := 4) ?_ <;> (try (refine G_op1 ?_; ((apply K1_ev; exact rfl; ((focus (exact E_move rfl))))))) <;> (try (refine G_op1 ?_; ((apply K1_ev; exact rfl; ((focus (exact E_nilCheck rfl))))))) <;> (try (refine G_op1 ?_; ((apply K1_ev; exact rfl; ((focus ((apply E_fieldAddr; exact rfl; ((focus (apply r_fieldAt fo_80_2; (try simp only [Int.toNat_natCast]); (try simp only [Int.reduceToNat]); (try simp only [Nat.mul_one]); (try simp only [Nat.zero_mul]); (try simp only [Nat.reduceMul]); (try simp only [Nat.zero_add]); (try simp only [Nat.add_zero]); (try simp only [Nat.reduceAdd]); exact rfl))))))))))) <;> (try (refine G_op1 ?_; ((apply K1_ev; exact rfl; ((focus ((apply E_load1 (t := 75); exact rfl; (((focus (repeat (exact fd0))))); kernel_rfl; kernel_rfl; (((focus (exact rfl)))))))))))) <;> (try (refine G_op1 ?_; ((apply K1_rangeMap; exact rfl; exact rfl; (((focus (repeat (first | exact fd0 | apply fdS))))); exact Try.underlying75; intro nb hnb)))) <;> (try (refine G_nil ?_)))))
  refine ⟨?_⟩
  obtain ⟨nbI, rfl⟩ : ∃ x, x = nb := ⟨_, rfl⟩
  refine G_block ?_
  refine G_loopk (γ := List Nat × Value × List Blk) AllI (fun g => 30 - g.1.length) (fun g => [(3, g.2.1)]) [(13, _)]
    (fun g => g.2.2 ++ (mitB nbI m2 (byNum clls).length g.1 :: tbl1 b m1 m2 (a + 1) m :: mapB m1 (byName clls) :: mapB m2 (byNum clls) :: L))
    ([], .slice none 0 0, []) (.cons rfl .nil) ⟨List.nodup_nil, by simp, Own.nil _ _⟩ (by ((focus (repeat (first | exact Sub.nil | refine Sub.cons rfl ?_ | (refine Sub.cons (congrArg some ?_) ?_; (focus go_num))))))) (fun _ H => H) ?_
  rintro ⟨seen, v, e⟩ ⟨hnd, hlt, hown⟩
  dsimp only at hnd hlt hown ⊢
  simp only [List.cons_append, List.nil_append]
  have hsl := nodup_len hnd hlt
  have hfr : ∀ q, q ∉ seen → q < 30 → seen.length < 30 := by
    intro q h1 h2
    have h3 : (seen ++ [q]).Nodup := by
      rw [List.nodup_append]
      exact ⟨hnd, by simp, fun x hx y hy => by rw [List.mem_singleton.1 hy]; rintro rfl; exact h1 hx⟩
    have := nodup_len h3 (n := 30) (fun x hx => by rcases List.mem_append.1 hx with hx | hx; exact hlt x hx; rw [List.mem_singleton.1 hx]; exact h2)
    rw [List.length_append] at this
    simp at this
    omega
  repeat' (first | ((refine G_markr (id := 8) ?_)) | ((refine G_markb (id := 1) ?_)) | refine G_seq ?_ | refine G_then_n ?_ | refine G_cut_x ?_ | refine G_then_x ?_ | refine G_blk_x ?_ | refine G_skip ?_ | refine G_exit ?_ | refine G_cond_t rfl ?_ | refine G_cond_f rfl ?_ | ((refine G_region (id := 5) ?_ <;> (try (refine G_op1 ?_; ((apply K1_nextMap; exact rfl; exact rfl; (((focus (repeat (first | exact fd0 | apply fdA))))); (((focus (repeat (first | exact fd0 | apply fdA | apply fdS))))); rotate_left; (intro qN pN hqN hsN; (try simp only [set_app]); (try simp only [List.set_cons_succ]); (try simp only [List.set_cons_zero])); rotate_right; intro hDone)))) <;> (try (refine G_op1 ?_; ((apply K1_ev; exact rfl; ((focus (exact E_extractL rfl rfl))))))) <;> (try (refine G_nil ?_)))))
  · refine ⟨?_⟩
    have hp := come_perm hnd hlt (fun q hq => hDone q (by rw [byNum_len]; exact hq))
    have hl30 : seen.length = 30 := by have := hp.length_eq; rw [come_len, clls_len] at this; exact this
    rw [hl30] at hown
    obtain ⟨g, cap, cur, rfl, rfl, h1, h2, h3, h4⟩ := hown.some (by omega)
    simp only [List.cons_append, List.nil_append]
    have hs := fun (L : List Blk) => hsort L g cap cur (come seen) hp h3 h4
    clear hDone hfr hown hask hp h4
    repeat' (first | refine G_seq ?_ | refine G_then_n ?_ | refine G_ret ?_ | ((refine G_region (id := 8) ?_ <;> (try (refine G_op1 ?_; ((apply K1_ev; exact rfl; ((focus (exact E_move rfl))))))) <;> (try (refine G_op1 ?_; (((refine K1_call (F := 23) (by kernel_rfl) rfl rfl (hs _) ?_; rintro _ _ ⟨rfl, cur2, hc1, hc2, rfl⟩))))) <;> (try (refine G_nil ?_)))) | ((refine G_region (id := 9) ?_ <;> (try (refine G_op1 ?_; ((apply K1_ev; exact rfl; ((focus (exact E_move rfl))))))) <;> (try (refine G_op1 ?_; ((apply K1_ev; exact rfl; ((focus (exact E_assign rfl))))))) <;> (try (refine G_nil ?_)))))
    (refine G_done Try.results12 (.tmp rfl .nil) ?_)
    exact ⟨_, ⟨[⟨true, g, .cells cur2 48 (0, 0)⟩], ⟨by rw [flatN_len, clls_len], .inr ⟨g, cap, cur2, rfl, rfl, h1, h2, hc1, hc2⟩⟩, rfl⟩, by intro w H; refine H.sub ?_; (try simp only [List.cons_append, List.nil_append]); repeat (first | exact List.Sublist.refl _ | refine List.Sublist.cons_cons _ ?_ | refine List.Sublist.cons _ ?_ | refine List.sublist_append_of_sublist_right ?_)⟩
  · refine ⟨?_⟩
    obtain ⟨c, hc1, rfl⟩ := byNum_get hqN
    have hq30 : qN < 30 := by have := (List.getElem?_eq_some_iff.1 hqN).1; rw [byNum_len] at this; exact this
    have hcl := names_len c (List.mem_of_getElem? hc1)
    have hcs := come_snoc seen qN c hc1
    have hlt1 := hfr qN hsN hq30
    obtain ⟨cn, cs, ca⟩ := c
    dsimp only at hqN hcl ⊢
    have hcs' := Lib.hid hcs
    have hnd2 : (seen ++ [qN]).Nodup := by
      rw [List.nodup_append]
      exact ⟨hnd, by simp, fun x hx y hy => by rw [List.mem_singleton.1 hy]; rintro rfl; exact hsN hx⟩
    have hnd' := Lib.hid hnd2
    have hlt' := Lib.hid hlt
    clear hcs hnd2 hnd hlt hfr hask hsort hc1 hsN
    repeat' (first | refine G_seq ?_ | refine G_then_n ?_ | refine G_cut_n ?_ | refine G_blk_n ?_ | refine G_block ?_ | ((refine G_region (id := 6) ?_ <;> (try (refine G_op1 ?_; ((apply K1_ev; exact rfl; ((focus ((apply E_entryMap; exact rfl; (((focus (repeat (first | exact fd0 | apply fdA))))); (((focus (repeat (first | exact fd0 | apply fdA | apply fdS))))); (with_reducible assumption))))))))) <;> (try (refine G_op1 ?_; ((apply K1_ev; exact rfl; ((focus (exact E_extractL rfl rfl))))))) <;> (try (refine G_op1 ?_; ((refine K1_alloc (t := 48) rfl Try.zeroValue48 ?_; intro nb hnb; (try simp only [Value.cells]))))) <;> (try (refine G_op1 ?_; (((apply K1_storeW (t := 48); exact rfl; exact rfl; (((focus (repeat (exact fd0))))); kernel_rfl; (((focus (exact rfl)))); (((focus (exact rfl)))); (try simp only [List.set_cons_succ]); (try simp only [List.set_cons_zero])))))) <;> (try (refine G_nil ?_)))) | ((refine G_region (id := 7) ?_ <;> (try (refine G_op1 ?_; ((apply K1_ev; exact rfl; ((focus (exact E_move rfl))))))) <;> (try (refine G_op1 ?_; ((apply K1_ev; exact rfl; ((focus ((apply E_loadA (t := 48); exact rfl; (((focus (repeat (exact fd0))))); kernel_rfl; kernel_rfl; exact sz_48; (((focus (exact Nat.le_of_ble_eq_true rfl)))); (((focus (((try simp only [List.drop_succ_cons]); (try simp only [List.drop_zero]); (try simp only [List.take_succ_cons]); (try simp only [List.take_zero]); (try simp only [List.take_nil]); exact rfl))))))))))))) <;> (try (refine G_op1 ?_; ((refine K1_buildSlice (t := 45) (m := 1) (e := 48) (fun (vs : List (Nat × Value)) => (match vs with | [(_, x0)] => x0.cells.toList | _ => [] : List Value)) rfl rfl (fun w => by kernel_rfl) ?_; intro nb hnb; (try simp only [Value.cells]); (try simp only [List.cons_append]); (try simp only [List.nil_append]))))) <;> (try (refine G_op1 ?_; (((apply K1_append; exact rfl; exact Try.underlying45; exact inf_48_i; exact inf_48_z; exact inf_48_s; exact inf_48_b; exact rfl; exact rfl; exact rfl; (((focus (with_reducible assumption)))); (((focus (repeat (exact fd0))))); (((focus (exact Nat.le_of_ble_eq_true rfl)))); (((focus (((try simp only [List.drop_succ_cons]); (try simp only [List.drop_zero]); (try simp only [List.take_succ_cons]); (try simp only [List.take_zero]); (try simp only [List.take_nil]); exact rfl))))); (((focus (exact rfl)))); ((focus (unfold maxLen; omega))); (focus omega); (((focus (intro w H; repeat (first | exact H | (replace H := H.tail)))))); exact rfl; (((focus ((try simp only [Nat.zero_add]); (try simp only [Nat.reduceAdd]); exact rfl)))); (((focus ((try simp only [Nat.zero_mul]); (try simp only [List.take_zero]); (try simp only [List.nil_append]); (try simp only [List.cons_append]); (try simp only [List.nil_append]); exact rfl)))); intro vA eA hownA))))) <;> (try (refine G_op1 ?_; ((apply K1_ev; exact rfl; ((focus (exact E_assign rfl))))))) <;> (try (refine G_nil ?_)))))
    refine G_meet (seen ++ [qN], vA, eA) ⟨⟨hnd'.out, ?_, ?_⟩, ?_⟩ (by ((focus (repeat (first | exact Sub.nil | refine Sub.cons rfl ?_ | (refine Sub.cons (congrArg some ?_) ?_; (focus go_num))))))) ?_
    · intro q hq
      rcases List.mem_append.1 hq with hq | hq
      · exact hlt'.out q hq
      · rw [List.mem_singleton.1 hq]; exact hq30
    · dsimp only
      rw [hcs'.out, flatN_snoc, List.length_append]
      exact hownA
    · dsimp only
      rw [List.length_append]
      simp
      omega
    · intro w H
      exact H.sub (List.Sublist.append_left (by (try simp only [List.cons_append, List.nil_append]); repeat (first | exact List.Sublist.refl _ | refine List.Sublist.cons_cons _ ?_ | refine List.Sublist.cons _ ?_)) _)
set_option maxRecDepth 100000 in
set_option maxHeartbeats 4000000 in
/-- All of a table that isn't made yet: what comes of it is put in order by F (its contract: hsort). -/
theorem all0m_c {S w0 L} (b : Nat) (a m : Int) (ha : 0 ≤ a ∧ a < 4000000000000000000) (hm : 0 ≤ m ∧ m < 4000000000000000000)
    (hsort : ∀ (L : List Blk) (g cap : Nat) (cur : Array Value) (l : List Cll), l.Perm clls → cur.size = cap * 3 → cur.toList.take 90 = flatN l →
      Fn Try.prog 23 #[.slice (some ⟨g, 0, none⟩) 30 cap, .func (.func 24) #[] #[]] S w0 (⟨true, g, .cells cur 48 (0, 0)⟩ :: L) fun v L' => v = tupleOf [] ∧ ∃ cur2 : Array Value, cur2.size = cap * 3 ∧ cur2.toList.take 90 = flatN clls ∧ ⟨true, g, .cells cur2 48 (0, 0)⟩ :: L = L') :
    Fn Try.prog 12 #[.pointer (some ⟨b, 0, none⟩)] S w0 (tbl0 b a m :: L) fun v L' =>
      ∃ m1 m2 e, Own 48 3 v 30 (flatN clls) e ∧ e ++ (tbl1 b m1 m2 (a + 1) (m + 1) :: mapB m1 (byName clls) :: mapB m2 (byNum clls) :: L) = L' := by
  have hask := fun (L : List Blk) => ask0_c (S := S) (w0 := w0) (L := L) b a m ha hm
  refine Fn1 Try.func12 Try.ntmps12 rfl rfl ?_
  repeat' (first | ((refine G_markb (id := 0) ?_)) | refine G_seq ?_ | refine G_then_n ?_ | refine G_skip ?_ | refine G_cond_f rfl ?_ | ((refine G_region (id := 0) ?_ <;> (try (refine G_op1 ?_; ((apply K1_ev; exact rfl; ((focus (exact E_assign rfl))))))) <;> (try (refine G_nil ?_)))) | ((refine G_region (id := 1) ?_ <;> (try (refine G_op1 ?_; ((apply K1_ev; exact rfl; ((focus (exact E_move rfl))))))) <;> (try (refine G_op1 ?_; (((apply K1_call (F := 22); kernel_rfl; exact rfl; exact rfl; apply hask; rintro _ _ ⟨m1, m2, rfl, rfl⟩; (try simp only [List.eraseIdx_cons_succ]); (try simp only [List.eraseIdx_cons_zero])))))) <;> (try (refine G_op1 ?_; ((apply K1_ev; exact rfl; ((focus ((apply E_un; exact rfl; ((focus (exact ru_not_t))))))))))) <;> (try (refine G_nil ?_)))) | ((refine G_region (id := 3) ?_ <;> (try (refine G_op1 ?_; ((apply K1_ev; exact rfl; ((focus (exact E_assign rfl))))))) <;> (try (refine G_nil ?_)))) | ((refine G_region (id := 4) ?_ <;> (try (refine G_op1 ?_; ((apply K1_ev; exact rfl; ((focus (exact E_move rfl))))))) <;> (try (refine G_op1 ?_; ((apply K1_ev; exact rfl; ((focus (exact E_nilCheck rfl))))))) <;> (try (refine G_op1 ?_; ((apply K1_ev; exact rfl; ((focus ((apply E_fieldAddr; exact rfl; ((focus (apply r_fieldAt fo_80_2; (try simp only [Int.toNat_natCast]); (try simp only [Int.reduceToNat]); (try simp only [Nat.mul_one]); (try simp only [Nat.zero_mul]); (try simp only [Nat.reduceMul]); (try simp only [Nat.zero_add]); (try simp only [Nat.add_zero]); (try simp only [Nat.reduceAdd]); exact rfl))))))))))) <;> (try (refine G_op1 ?_; ((apply K1_ev; exact rfl; ((focus ((apply E_load1 (t := 75); exact rfl; (((focus (repeat (exact fd0))))); kernel_rfl; kernel_rfl; (((focus (exact rfl)))))))))))) <;> (try (refine G_op1 ?_; ((apply K1_rangeMap; exact rfl; exact rfl; (((focus (repeat (first | exact fd0 | apply fdS))))); exact Try.underlying75; intro nb hnb)))) <;> (try (refine G_nil ?_)))))
  refine ⟨?_⟩
  obtain ⟨nbI, rfl⟩ : ∃ x, x = nb := ⟨_, rfl⟩
  refine G_block ?_
  refine G_loopk (γ := List Nat × Value × List Blk) AllI (fun g => 30 - g.1.length) (fun g => [(3, g.2.1)]) [(13, _)]
    (fun g => g.2.2 ++ (mitB nbI m2 (byNum clls).length g.1 :: tbl1 b m1 m2 (a + 1) (m + 1) :: mapB m1 (byName clls) :: mapB m2 (byNum clls) :: L))
    ([], .slice none 0 0, []) (.cons rfl .nil) ⟨List.nodup_nil, by simp, Own.nil _ _⟩ (by ((focus (repeat (first | exact Sub.nil | refine Sub.cons rfl ?_ | (refine Sub.cons (congrArg some ?_) ?_; (focus go_num))))))) (fun _ H => H) ?_
  rintro ⟨seen, v, e⟩ ⟨hnd, hlt, hown⟩
  dsimp only at hnd hlt hown ⊢
  simp only [List.cons_append, List.nil_append]
  have hsl := nodup_len hnd hlt
  have hfr : ∀ q, q ∉ seen → q < 30 → seen.length < 30 := by
    intro q h1 h2
    have h3 : (seen ++ [q]).Nodup := by
      rw [List.nodup_append]
      exact ⟨hnd, by simp, fun x hx y hy => by rw [List.mem_singleton.1 hy]; rintro rfl; exact h1 hx⟩
    have := nodup_len h3 (n := 30) (fun x hx => by rcases List.mem_append.1 hx with hx | hx; exact hlt x hx; rw [List.mem_singleton.1 hx]; exact h2)
    rw [List.length_append] at this
    simp at this
    omega
  repeat' (first | ((refine G_markr (id := 8) ?_)) | ((refine G_markb (id := 1) ?_)) | refine G_seq ?_ | refine G_then_n ?_ | refine G_cut_x ?_ | refine G_then_x ?_ | refine G_blk_x ?_ | refine G_skip ?_ | refine G_exit ?_ | refine G_cond_t rfl ?_ | refine G_cond_f rfl ?_ | ((refine G_region (id := 5) ?_ <;> (try (refine G_op1 ?_; ((apply K1_nextMap; exact rfl; exact rfl; (((focus (repeat (first | exact fd0 | apply fdA))))); (((focus (repeat (first | exact fd0 | apply fdA | apply fdS))))); rotate_left; (intro qN pN hqN hsN; (try simp only [set_app]); (try simp only [List.set_cons_succ]); (try simp only [List.set_cons_zero])); rotate_right; intro hDone)))) <;> (try (refine G_op1 ?_; ((apply K1_ev; exact rfl; ((focus (exact E_extractL rfl rfl))))))) <;> (try (refine G_nil ?_)))))
  · refine ⟨?_⟩
    have hp := come_perm hnd hlt (fun q hq => hDone q (by rw [byNum_len]; exact hq))
    have hl30 : seen.length = 30 := by have := hp.length_eq; rw [come_len, clls_len] at this; exact this
    rw [hl30] at hown
    obtain ⟨g, cap, cur, rfl, rfl, h1, h2, h3, h4⟩ := hown.some (by omega)
    simp only [List.cons_append, List.nil_append]
    have hs := fun (L : List Blk) => hsort L g cap cur (come seen) hp h3 h4
    clear hDone hfr hown hask hp h4
    repeat' (first | refine G_seq ?_ | refine G_then_n ?_ | refine G_ret ?_ | ((refine G_region (id := 8) ?_ <;> (try (refine G_op1 ?_; ((apply K1_ev; exact rfl; ((focus (exact E_move rfl))))))) <;> (try (refine G_op1 ?_; (((refine K1_call (F := 23) (by kernel_rfl) rfl rfl (hs _) ?_; rintro _ _ ⟨rfl, cur2, hc1, hc2, rfl⟩))))) <;> (try (refine G_nil ?_)))) | ((refine G_region (id := 9) ?_ <;> (try (refine G_op1 ?_; ((apply K1_ev; exact rfl; ((focus (exact E_move rfl))))))) <;> (try (refine G_op1 ?_; ((apply K1_ev; exact rfl; ((focus (exact E_assign rfl))))))) <;> (try (refine G_nil ?_)))))
    (refine G_done Try.results12 (.tmp rfl .nil) ?_)
    exact ⟨_, ⟨m1, m2, [⟨true, g, .cells cur2 48 (0, 0)⟩], ⟨by rw [flatN_len, clls_len], .inr ⟨g, cap, cur2, rfl, rfl, h1, h2, hc1, hc2⟩⟩, rfl⟩, by intro w H; refine H.sub ?_; (try simp only [List.cons_append, List.nil_append]); repeat (first | exact List.Sublist.refl _ | refine List.Sublist.cons_cons _ ?_ | refine List.Sublist.cons _ ?_ | refine List.sublist_append_of_sublist_right ?_)⟩
  · refine ⟨?_⟩
    obtain ⟨c, hc1, rfl⟩ := byNum_get hqN
    have hq30 : qN < 30 := by have := (List.getElem?_eq_some_iff.1 hqN).1; rw [byNum_len] at this; exact this
    have hcl := names_len c (List.mem_of_getElem? hc1)
    have hcs := come_snoc seen qN c hc1
    have hlt1 := hfr qN hsN hq30
    obtain ⟨cn, cs, ca⟩ := c
    dsimp only at hqN hcl ⊢
    have hcs' := Lib.hid hcs
    have hnd2 : (seen ++ [qN]).Nodup := by
      rw [List.nodup_append]
      exact ⟨hnd, by simp, fun x hx y hy => by rw [List.mem_singleton.1 hy]; rintro rfl; exact hsN hx⟩
    have hnd' := Lib.hid hnd2
    have hlt' := Lib.hid hlt
    clear hcs hnd2 hnd hlt hfr hask hsort hc1 hsN
    repeat' (first | refine G_seq ?_ | refine G_then_n ?_ | refine G_cut_n ?_ | refine G_blk_n ?_ | refine G_block ?_ | ((refine G_region (id := 6) ?_ <;> (try (refine G_op1 ?_; ((apply K1_ev; exact rfl; ((focus ((apply E_entryMap; exact rfl; (((focus (repeat (first | exact fd0 | apply fdA))))); (((focus (repeat (first | exact fd0 | apply fdA | apply fdS))))); (with_reducible assumption))))))))) <;> (try (refine G_op1 ?_; ((apply K1_ev; exact rfl; ((focus (exact E_extractL rfl rfl))))))) <;> (try (refine G_op1 ?_; ((refine K1_alloc (t := 48) rfl Try.zeroValue48 ?_; intro nb hnb; (try simp only [Value.cells]))))) <;> (try (refine G_op1 ?_; (((apply K1_storeW (t := 48); exact rfl; exact rfl; (((focus (repeat (exact fd0))))); kernel_rfl; (((focus (exact rfl)))); (((focus (exact rfl)))); (try simp only [List.set_cons_succ]); (try simp only [List.set_cons_zero])))))) <;> (try (refine G_nil ?_)))) | ((refine G_region (id := 7) ?_ <;> (try (refine G_op1 ?_; ((apply K1_ev; exact rfl; ((focus (exact E_move rfl))))))) <;> (try (refine G_op1 ?_; ((apply K1_ev; exact rfl; ((focus ((apply E_loadA (t := 48); exact rfl; (((focus (repeat (exact fd0))))); kernel_rfl; kernel_rfl; exact sz_48; (((focus (exact Nat.le_of_ble_eq_true rfl)))); (((focus (((try simp only [List.drop_succ_cons]); (try simp only [List.drop_zero]); (try simp only [List.take_succ_cons]); (try simp only [List.take_zero]); (try simp only [List.take_nil]); exact rfl))))))))))))) <;> (try (refine G_op1 ?_; ((refine K1_buildSlice (t := 45) (m := 1) (e := 48) (fun (vs : List (Nat × Value)) => (match vs with | [(_, x0)] => x0.cells.toList | _ => [] : List Value)) rfl rfl (fun w => by kernel_rfl) ?_; intro nb hnb; (try simp only [Value.cells]); (try simp only [List.cons_append]); (try simp only [List.nil_append]))))) <;> (try (refine G_op1 ?_; (((apply K1_append; exact rfl; exact Try.underlying45; exact inf_48_i; exact inf_48_z; exact inf_48_s; exact inf_48_b; exact rfl; exact rfl; exact rfl; (((focus (with_reducible assumption)))); (((focus (repeat (exact fd0))))); (((focus (exact Nat.le_of_ble_eq_true rfl)))); (((focus (((try simp only [List.drop_succ_cons]); (try simp only [List.drop_zero]); (try simp only [List.take_succ_cons]); (try simp only [List.take_zero]); (try simp only [List.take_nil]); exact rfl))))); (((focus (exact rfl)))); ((focus (unfold maxLen; omega))); (focus omega); (((focus (intro w H; repeat (first | exact H | (replace H := H.tail)))))); exact rfl; (((focus ((try simp only [Nat.zero_add]); (try simp only [Nat.reduceAdd]); exact rfl)))); (((focus ((try simp only [Nat.zero_mul]); (try simp only [List.take_zero]); (try simp only [List.nil_append]); (try simp only [List.cons_append]); (try simp only [List.nil_append]); exact rfl)))); intro vA eA hownA))))) <;> (try (refine G_op1 ?_; ((apply K1_ev; exact rfl; ((focus (exact E_assign rfl))))))) <;> (try (refine G_nil ?_)))))
    refine G_meet (seen ++ [qN], vA, eA) ⟨⟨hnd'.out, ?_, ?_⟩, ?_⟩ (by ((focus (repeat (first | exact Sub.nil | refine Sub.cons rfl ?_ | (refine Sub.cons (congrArg some ?_) ?_; (focus go_num))))))) ?_
    · intro q hq
      rcases List.mem_append.1 hq with hq | hq
      · exact hlt'.out q hq
      · rw [List.mem_singleton.1 hq]; exact hq30
    · dsimp only
      rw [hcs'.out, flatN_snoc, List.length_append]
      exact hownA
    · dsimp only
      rw [List.length_append]
      simp
      omega
    · intro w H
      exact H.sub (List.Sublist.append_left (by (try simp only [List.cons_append, List.nil_append]); repeat (first | exact List.Sublist.refl _ | refine List.Sublist.cons_cons _ ?_ | refine List.Sublist.cons _ ?_)) _)
end Go.Proofs.Ytlfoiemjjalnlaa
