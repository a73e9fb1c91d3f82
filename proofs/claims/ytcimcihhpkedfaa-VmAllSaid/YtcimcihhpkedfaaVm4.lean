/- The run of a filter: Filter.Run. -/
import Derived.Test.YtcimcihhpkedfaaVm3
import Derived.Test.YtcimcihhpkedfaaLawC1
import Derived.Test.YtcimcihhpkedfaaGl8
import Derived.Test.YtcimcihhpkedfaaAtm2
namespace Go.Proofs.Ytcimcihhpkedfaa
open Go Go.RowKit
theorem stp_pos {m : Mch} {i : Ins} (hi : i.ok) : m.pos ≤ (stp m i).pos ∧ (stp m i).pos ≤ m.pos + 4294967296 := by
  have h2 := hi.k
  have h3 := hi.t
  have h4 := hi.f
  have hr : (red m i).pos = m.pos := by
    unfold red
    dsimp only
    repeat' split
    all_goals rfl
  unfold stp
  repeat' split
  all_goals first
    | (dsimp only; omega)
    | (rw [hr]; omega)
    | skip
  unfold jmp
  dsimp only
  split
  · omega
  · split <;> omega
abbrev flB (n : Nat) (sv : Value) (a b : Int) : Blk := ⟨true, n, .cells [sv, .int .i64 a, .int .i64 b].toArray 109 (0, 0)⟩
abbrev srB (g : Nat) (cur : List Value) : Blk := ⟨true, g, .cells cur.toArray 27 (0, 0)⟩
structure IsSrc (cur : List Value) (l : List Ins) (cap : Nat) : Prop where
  len : l.length * 4 ≤ cur.length
  sz : cur.length = cap * 4
  le : l.length ≤ cap
  take : cur.take (l.length * 4) = flat l
  capl : cap ≤ maxLen
theorem IsSrc.at_ {cur : List Value} {l : List Ins} {cap : Nat} (h : IsSrc cur l cap) {k : Nat} (hk : k < l.length) : (cur.toArray.toList.drop (0 + k * 4)).take 4 = (l[k]).cells := by
  have := flat_at l k hk
  rw [← h.take, List.drop_take, List.take_take, Nat.min_eq_left (by omega)] at this
  simpa using this
def m0 (r : Rec) : Mch := ⟨0, 0, List.replicate 16 0, 0, r, 0, false⟩
theorem m0_ok {r : Rec} (h : r.ok) : (m0 r).ok := by
  refine ⟨by simp [m0], by simp [m0], by simp [m0], ?_, h, by simp [m0], by simp [m0]⟩
  intro s hs
  have := List.eq_of_mem_replicate hs
  omega
def runF (l : List Ins) (r : Rec) : Int × Nat :=
  let q := runGo l l.length (m0 r) 0
  (if q.1.en then q.1.act else 2147483648, q.2)
structure RunI (l : List Ins) (q : Mch × Nat) (g : Mch × Nat) : Prop where
  ok : g.1.ok
  lo : (g.2 : Int) ≤ g.1.pos
  hi : g.1.pos ≤ g.2 * 5000000000
  le : g.2 ≤ l.length
  go : q = runGo l (l.length - g.2) g.1 g.2
theorem RunI.next {l : List Ins} {q : Mch × Nat} {m : Mch} {n : Nat} (h : RunI l q (m, n)) (hl : ∀ i ∈ l, i.ok) (h2 : l.length ≤ 4096) (he : m.en = false) (hp : m.pos.toNat < l.length) :
    RunI l q (stp { m with pos := m.pos + 1 } l[m.pos.toNat], n + 1) := by
  obtain ⟨h1, h3, h4, h5, h6⟩ := h
  dsimp only at *
  have hp0 := h1.pos
  have hi := hl _ (List.getElem_mem hp)
  have hm1 : Mch.ok { m with pos := m.pos + 1 } := ⟨h1.a, h1.x, h1.sc, h1.scr, h1.rc, ⟨by show 0 ≤ m.pos + 1; omega, by show m.pos + 1 < 9000000000000000000; omega⟩, h1.act⟩
  have hps := stp_pos (m := { m with pos := m.pos + 1 }) hi
  dsimp only at hps
  refine ⟨stp_ok hm1 hi (by show m.pos + 1 + 5000000000 < 9000000000000000000; omega), ?_, ?_, ?_, ?_⟩
  · dsimp only; omega
  · dsimp only; omega
  · dsimp only; omega
  · dsimp only
    rw [h6]
    obtain ⟨f, hf⟩ : ∃ f, l.length - n = f + 1 := ⟨l.length - n - 1, by omega⟩
    have hf2 : l.length - (n + 1) = f := by omega
    rw [hf, hf2, runGo, if_neg]
    · rw [List.getD_eq_getElem?_getD, List.getElem?_eq_getElem hp]; rfl
    · rw [he]
      rintro (h | h)
      · simp at h
      · omega
theorem RunI.end_ {l : List Ins} {q : Mch × Nat} {m : Mch} {n : Nat} (h : RunI l q (m, n)) (he : m.en = true ∨ (l.length : Int) ≤ m.pos) : q = (m, n) := by
  rw [h.go]
  dsimp only
  cases l.length - n with
  | zero => rfl
  | succ f => rw [runGo, if_pos he]
theorem m0_cells (r : Rec) : (m0 r).cells = [Value.int .u32 0, .int .u32 0, .int .u32 0, .int .u32 0, .int .u32 0, .int .u32 0, .int .u32 0, .int .u32 0, .int .u32 0, .int .u32 0, .int .u32 0, .int .u32 0, .int .u32 0, .int .u32 0, .int .u32 0, .int .u32 0, .int .u32 0, .int .u32 0, .int .i64 0] ++ (r.cells ++ [.int .u32 0, .bool false]) := by
  simp [m0, Mch.cells, List.replicate_succ]
set_option maxRecDepth 100000 in
set_option maxHeartbeats 1000000 in
theorem run_c {S w0 L} (n g cap : Nat) (a b : Int) (cur : List Value) (l : List Ins) (r : Rec) (hl : ∀ i ∈ l, i.ok) (h2 : l.length ≤ 4096) (hs : IsSrc cur l cap) (hr : r.ok) (ha : 0 ≤ a ∧ a < 4000000000000000000) (hb : 0 ≤ b ∧ b < 4000000000000000000) :
    Fn Try.prog 29 #[.pointer (some ⟨n, 0, none⟩), .agg r.cells.toArray] S w0 (flB n (.slice (some ⟨g, 0, none⟩) l.length cap) a b :: srB g cur :: L) fun v L' =>
      v = tupleOf [.int .u32 (runF l r).1, .int .i64 ((runF l r).2 : Nat)] ∧ flB n (.slice (some ⟨g, 0, none⟩) l.length cap) (a + 1) (b + ((runF l r).2 : Nat)) :: srB g cur :: L = L' := by
  obtain ⟨num, arch, at_, args⟩ := r
  obtain ⟨a0, a1, a2, a3, a4, a5, rfl⟩ : ∃ a0 a1 a2 a3 a4 a5, args = [a0, a1, a2, a3, a4, a5] := by
    match args, hr.len with
    | [_, _, _, _, _, _], _ => exact ⟨_, _, _, _, _, _, rfl⟩
  have hcl : Rec.cells ⟨num, arch, at_, [a0, a1, a2, a3, a4, a5]⟩ = [.int .u32 num, .int .u32 arch, .int .u64 at_, .int .u64 a0, .int .u64 a1, .int .u64 a2, .int .u64 a3, .int .u64 a4, .int .u64 a5] := rfl
  rw [hcl]
  generalize hrr : (⟨num, arch, at_, [a0, a1, a2, a3, a4, a5]⟩ : Rec) = r at *
  refine Fn2 Try.func29 Try.ntmps29 rfl rfl ?_
  repeat' (first | ((refine G_markr (id := 4) ?_)) | refine G_seq ?_ | refine G_then_n ?_ | refine G_skip ?_ | refine G_cond_f rfl ?_ | ((refine G_region (id := 0) ?_ <;> (try (refine G_op1 ?_; ((refine K1_box (t := 60) rfl rfl ?_; intro nb hnb; (try simp only [Value.cells]))))) <;> (try (refine G_op1 ?_; ((apply K1_ev; exact rfl; ((focus (exact E_assign rfl))))))) <;> (try (refine G_op1 ?_; ((apply K1_ev; exact rfl; ((focus (exact E_assign rfl))))))) <;> (try (refine G_nil ?_)))) | ((refine G_region (id := 1) ?_ <;> (try (refine G_op1 ?_; ((apply K1_ev; exact rfl; ((focus (exact E_move rfl))))))) <;> (try (refine G_op1 ?_; ((apply K1_ev; exact rfl; ((focus ((apply E_bin (op := .eql) (t := 50); exact rfl; exact rfl; exact rfl; ((focus (exact rb_peq_sn Try.underlying50))))))))))) <;> (try (refine G_nil ?_)))) | ((refine G_region (id := 3) ?_ <;> (try (refine G_op1 ?_; ((apply K1_ev; exact rfl; ((focus ((apply E_loadA (t := 60); exact rfl; (((focus (repeat (exact fd0))))); kernel_rfl; kernel_rfl; exact sz_60; (((focus (exact Nat.le_of_ble_eq_true rfl)))); (((focus (((try simp only [List.drop_succ_cons]); (try simp only [List.drop_zero]); (try simp only [List.take_succ_cons]); (try simp only [List.take_zero]); (try simp only [List.take_nil]); exact rfl))))))))))))) <;> (try (refine G_op1 ?_; ((apply K1_ev; exact rfl; ((focus (exact E_build (t := 111) (fun (vs : List (Nat × Value)) => (match vs with | [(_, x0)] => [Value.int .u32 0, Value.int .u32 0, Value.int .u32 0, Value.int .u32 0, Value.int .u32 0, Value.int .u32 0, Value.int .u32 0, Value.int .u32 0, Value.int .u32 0, Value.int .u32 0, Value.int .u32 0, Value.int .u32 0, Value.int .u32 0, Value.int .u32 0, Value.int .u32 0, Value.int .u32 0, Value.int .u32 0, Value.int .u32 0, Value.int .i64 0] ++ (x0.cells.toList ++ [Value.int .u32 0, Value.bool false]) | _ => [] : List Value)) rfl (fun w => by kernel_rfl)))); (try simp only [Value.cells]); (try simp only [List.cons_append]); (try simp only [List.nil_append]))))) <;> (try (refine G_op1 ?_; ((refine K1_alloc (t := 111) rfl Try.zeroValue111 ?_; intro nb hnb; (try simp only [Value.cells]))))) <;> (try (refine G_op1 ?_; (((apply K1_storeW (t := 111); exact rfl; exact rfl; (((focus (repeat (exact fd0))))); kernel_rfl; (((focus (exact rfl)))); (((focus (exact rfl)))); (try simp only [List.set_cons_succ]); (try simp only [List.set_cons_zero])))))) <;> (try (refine G_nil ?_)))))
  refine ⟨?_⟩
  obtain ⟨nbM, rfl⟩ : ∃ x, x = nb := ⟨_, rfl⟩
  refine G_blocks (L' := mB nbM (m0 r) :: flB n (.slice (some ⟨g, 0, none⟩) l.length cap) a b :: srB g cur :: L) ?_ ?_
  · intro w H
    have h := H.drop1
    show HP _ _ _ (⟨true, nbM, .cells (m0 r).cells.toArray _ (0, 0)⟩ :: _)
    rw [m0_cells, hcl]; exact h
  repeat' (first | refine G_seq ?_ | refine G_then_n ?_ | refine G_block ?_ | ((refine G_region (id := 4) ?_ <;> (try (refine G_op1 ?_; ((apply K1_ev; exact rfl; ((focus (exact E_assign rfl))))))) <;> (try (refine G_nil ?_)))))
  refine G_loopk (γ := Mch × Nat) (RunI l (runGo l l.length (m0 r) 0)) (fun g => l.length - g.2) (fun g => [(7, .int .i64 (g.2 : Nat))]) [(0, _), (6, _)]
    (fun q => mB nbM q.1 :: flB n (.slice (some ⟨g, 0, none⟩) l.length cap) a b :: srB g cur :: L)
    (m0 r, 0) (.cons rfl (.cons rfl .nil)) ⟨m0_ok hr, by simp [m0], by simp [m0], Nat.zero_le _, rfl⟩ (by ((focus (repeat (first | exact Sub.nil | refine Sub.cons rfl ?_ | (refine Sub.cons (congrArg some ?_) ?_; (focus go_num))))))) (fun _ H => H) ?_
  rintro ⟨m, k⟩ hI
  simp only [List.cons_append, List.nil_append]
  have hok := hI.ok
  dsimp only at hok
  have g18 := Mch.g18 hok
  have g29 := Mch.g29 hok
  have g28 := Mch.g28 hok
  have hpos := hok.pos
  have hlo : (k : Int) ≤ m.pos := hI.lo
  have hhi : m.pos ≤ k * 5000000000 := hI.hi
  have hkl : k ≤ l.length := hI.le
  by_cases hgo : m.en = false ∧ m.pos.toNat < l.length
  · obtain ⟨he, hp⟩ := hgo
    rw [he] at g29
    have hx := hs.at_ hp
    have hio := hl _ (List.getElem_mem hp)
    have hnx := hI.next hl h2 he hp
    have hsz : m.pos.toNat * 4 + 4 ≤ cur.toArray.size := by have := hs.len; simp; omega
    rw [Nat.zero_add] at hx
    generalize l[m.pos.toNat] = i at *
    obtain ⟨c, jt, jf, kk⟩ := i
    have hst := fun (L : List Blk) => step_c (S := S) (w0 := w0) (L := L) nbM m hok (by have := h2; omega) ⟨c, jt, jf, kk⟩ hio
    simp only [Ins.cells, Ins.v] at hx hst
    have hnx' := Lib.hid hnx
    clear hnx g28
    repeat' (first | refine G_seq ?_ | refine G_then_n ?_ | refine G_cut_n ?_ | refine G_blk_n ?_ | refine G_block ?_ | refine G_skip ?_ | refine G_cond_t rfl ?_ | (((refine G_regionH (id := 5) (m := 13) (by kernel_rfl) rfl ?_) <;> (try ((apply H_take (i := 0); exact rfl; kernel_rfl; kernel_rfl; kernel_rfl; exact rfl; (((focus (intro w H; repeat (exact H))))); ((focus (apply Y_ev; ((apply E_fieldAddr; exact rfl; ((focus (apply r_fieldAt fo_111_6; (try simp only [Int.toNat_natCast]); (try simp only [Int.reduceToNat]); (try simp only [Nat.mul_one]); (try simp only [Nat.zero_mul]); (try simp only [Nat.reduceMul]); (try simp only [Nat.zero_add]); (try simp only [Nat.add_zero]); (try simp only [Nat.reduceAdd]); exact rfl))))))))))) <;> (try ((apply H_take (i := 1); exact rfl; kernel_rfl; kernel_rfl; kernel_rfl; exact rfl; (((focus (intro w H; repeat (exact H))))); ((focus (apply Y_ev; ((apply E_load1 (t := 4); exact rfl; (((focus (repeat (exact fd0))))); kernel_rfl; kernel_rfl; (((focus (with_reducible assumption)))))))))))) <;> (try ((apply H_take (i := 2); exact rfl; kernel_rfl; kernel_rfl; kernel_rfl; exact rfl; (((focus (intro w H; repeat (exact H))))); ((focus (apply Y_ev; ((apply E_un; exact rfl; ((focus (exact ru_not_f))))))))))) <;> (try ((apply H_take (i := 3); exact rfl; kernel_rfl; kernel_rfl; kernel_rfl; exact rfl; (((focus (intro w H; repeat (exact H))))); ((focus (apply Y_ev; (exact E_move rfl))))))) <;> (try ((((apply H_take (i := 4); exact rfl; kernel_rfl; kernel_rfl; kernel_rfl; exact rfl; (((focus (intro w H; repeat (exact H))))); ((focus (apply Y_yes; exact rfl; exact rfl; exact rfl; ((apply E_fieldAddr; exact rfl; ((focus (apply r_fieldAt fo_111_3; (try simp only [Int.toNat_natCast]); (try simp only [Int.reduceToNat]); (try simp only [Nat.mul_one]); (try simp only [Nat.zero_mul]); (try simp only [Nat.reduceMul]); (try simp only [Nat.zero_add]); (try simp only [Nat.add_zero]); (try simp only [Nat.reduceAdd]); exact rfl))))))))))))) <;> (try ((((apply H_take (i := 5); exact rfl; kernel_rfl; kernel_rfl; kernel_rfl; exact rfl; (((focus (intro w H; repeat (exact H))))); ((focus (apply Y_yes; exact rfl; exact rfl; exact rfl; ((apply E_load1 (t := 3); exact rfl; (((focus (repeat (exact fd0))))); kernel_rfl; kernel_rfl; (((focus (with_reducible assumption)))))))))))))) <;> (try ((((apply H_take (i := 6); exact rfl; kernel_rfl; kernel_rfl; kernel_rfl; exact rfl; (((focus (intro w H; repeat (exact H))))); ((focus (apply Y_yes; exact rfl; exact rfl; exact rfl; (exact E_move rfl))))))))) <;> (try ((((apply H_take (i := 7); exact rfl; kernel_rfl; kernel_rfl; kernel_rfl; exact rfl; (((focus (intro w H; repeat (exact H))))); ((focus (apply Y_yes; exact rfl; exact rfl; exact rfl; (exact E_nilCheck rfl))))))))) <;> (try ((((apply H_take (i := 8); exact rfl; kernel_rfl; kernel_rfl; kernel_rfl; exact rfl; (((focus (intro w H; repeat (exact H))))); ((focus (apply Y_yes; exact rfl; exact rfl; exact rfl; ((apply E_fieldAddr; exact rfl; ((focus (apply r_fieldAt fo_109_0; (try simp only [Int.toNat_natCast]); (try simp only [Int.reduceToNat]); (try simp only [Nat.mul_one]); (try simp only [Nat.zero_mul]); (try simp only [Nat.reduceMul]); (try simp only [Nat.zero_add]); (try simp only [Nat.add_zero]); (try simp only [Nat.reduceAdd]); exact rfl))))))))))))) <;> (try ((((apply H_take (i := 9); exact rfl; kernel_rfl; kernel_rfl; kernel_rfl; exact rfl; (((focus (intro w H; repeat (exact H))))); ((focus (apply Y_yes; exact rfl; exact rfl; exact rfl; ((apply E_load1 (t := 24); exact rfl; (((focus (repeat (first | exact fd0 | apply fdS))))); kernel_rfl; kernel_rfl; (((focus (exact rfl)))))))))))))) <;> (try ((((apply H_take (i := 10); exact rfl; kernel_rfl; kernel_rfl; kernel_rfl; exact rfl; (((focus (intro w H; repeat (exact H))))); ((focus (apply Y_yes; exact rfl; exact rfl; exact rfl; ((apply E_builtin; exact rfl; exact (fun _ => BigFrame.builtin_len ..); apply r_len_slice_e Try.underlying24; ((focus ((try simp only [Int.cast_ofNat_Int]); exact rfl))))))))))))) <;> (try ((((apply H_take (i := 11); exact rfl; kernel_rfl; kernel_rfl; kernel_rfl; exact rfl; (((focus (intro w H; repeat (exact H))))); ((focus (apply Y_yes; exact rfl; exact rfl; exact rfl; ((apply E_bin (op := .lss) (t := 3); exact rfl; exact rfl; exact rfl; ((focus ((refine rb_lss_t ?_; first | (with_reducible assumption) | (decide; done) | omega)))))))))))))) <;> (try ((apply H_take (i := 12); exact rfl; kernel_rfl; kernel_rfl; kernel_rfl; exact rfl; (((focus (intro w H; repeat (exact H))))); ((focus (apply Y_ev; (exact E_pick rfl rfl))))))) <;> (try (refine H_done (by kernel_rfl) ?_)))) | (((apply G_regionHb (i := 0) (id := 6) (m := 9); ((focus ((try simp only [List.eraseIdx_cons_succ]); (try simp only [List.eraseIdx_cons_zero]); exact rfl))); kernel_rfl; exact rfl) <;> (try ((apply H_take (i := 0); exact rfl; kernel_rfl; kernel_rfl; kernel_rfl; exact rfl; (((focus (intro w H; first | exact H | exact H.drop1 | exact H.tail | exact H.tail.drop1 | exact H.tail.tail.drop1 | (repeat fail))))); ((focus (apply Y_ev; (exact E_move rfl))))))) <;> (try ((apply H_take (i := 1); exact rfl; kernel_rfl; kernel_rfl; kernel_rfl; exact rfl; (((focus (intro w H; first | exact H | exact H.drop1 | exact H.tail | exact H.tail.drop1 | exact H.tail.tail.drop1 | (repeat fail))))); ((focus (apply Y_ev; (exact E_nilCheck rfl))))))) <;> (try ((apply H_take (i := 2); exact rfl; kernel_rfl; kernel_rfl; kernel_rfl; exact rfl; (((focus (intro w H; first | exact H | exact H.drop1 | exact H.tail | exact H.tail.drop1 | exact H.tail.tail.drop1 | (repeat fail))))); ((focus (apply Y_ev; ((apply E_fieldAddr; exact rfl; ((focus (apply r_fieldAt fo_109_0; (try simp only [Int.toNat_natCast]); (try simp only [Int.reduceToNat]); (try simp only [Nat.mul_one]); (try simp only [Nat.zero_mul]); (try simp only [Nat.reduceMul]); (try simp only [Nat.zero_add]); (try simp only [Nat.add_zero]); (try simp only [Nat.reduceAdd]); exact rfl))))))))))) <;> (try ((apply H_take (i := 3); exact rfl; kernel_rfl; kernel_rfl; kernel_rfl; exact rfl; (((focus (intro w H; first | exact H | exact H.drop1 | exact H.tail | exact H.tail.drop1 | exact H.tail.tail.drop1 | (repeat fail))))); ((focus (apply Y_ev; ((apply E_load1 (t := 24); exact rfl; (((focus (repeat (exact fd0))))); kernel_rfl; kernel_rfl; (((focus (exact rfl)))))))))))) <;> (try ((apply H_take (i := 4); exact rfl; kernel_rfl; kernel_rfl; kernel_rfl; exact rfl; (((focus (intro w H; first | exact H | exact H.drop1 | exact H.tail | exact H.tail.drop1 | exact H.tail.tail.drop1 | (repeat fail))))); ((focus (apply Y_ev; ((apply E_fieldAddr; exact rfl; ((focus (apply r_fieldAt fo_111_3; (try simp only [Int.toNat_natCast]); (try simp only [Int.reduceToNat]); (try simp only [Nat.mul_one]); (try simp only [Nat.zero_mul]); (try simp only [Nat.reduceMul]); (try simp only [Nat.zero_add]); (try simp only [Nat.add_zero]); (try simp only [Nat.reduceAdd]); exact rfl))))))))))) <;> (try ((refine H_run (i := 5) rfl (by kernel_rfl) ?_; ((apply K1_ev; exact rfl; ((focus ((apply E_load1 (t := 3); exact rfl; (((focus (repeat (exact fd0))))); kernel_rfl; kernel_rfl; (((focus (with_reducible assumption)))))))))); refine H_go ?_ ?_; (((focus (intro w H; first | exact H | exact H.drop1 | exact H.tail | exact H.tail.drop1 | exact H.tail.tail.drop1 | (repeat fail)))))))) <;> (try ((apply H_take (i := 6); exact rfl; kernel_rfl; kernel_rfl; kernel_rfl; exact rfl; (((focus (intro w H; first | exact H | exact H.drop1 | exact H.tail | exact H.tail.drop1 | exact H.tail.tail.drop1 | (repeat fail))))); ((focus (apply Y_ev; ((apply E_indexAddr; exact rfl; exact rfl; ((focus (apply r_ixs Try.underlying24 sz_27; (focus omega); (focus omega); ((focus ((try simp only [Int.toNat_natCast]); (try simp only [Int.reduceToNat]); (try simp only [Nat.mul_one]); (try simp only [Nat.zero_mul]); (try simp only [Nat.reduceMul]); (try simp only [Nat.zero_add]); (try simp only [Nat.add_zero]); (try simp only [Nat.reduceAdd]); exact rfl)))))))))))))) <;> (try ((apply H_take (i := 7); exact rfl; kernel_rfl; kernel_rfl; kernel_rfl; exact rfl; (((focus (intro w H; first | exact H | exact H.drop1 | exact H.tail | exact H.tail.drop1 | exact H.tail.tail.drop1 | (repeat fail))))); ((focus (apply Y_ev; ((apply E_loadA (t := 27); exact rfl; (((focus (repeat (first | exact fd0 | apply fdS))))); kernel_rfl; kernel_rfl; exact sz_27; (((focus (with_reducible assumption)))); (((focus (with_reducible assumption)))))))))))) <;> (try ((refine H_run (i := 8) rfl (by kernel_rfl) ?_; (((refine K1_call (F := 48) (by kernel_rfl) rfl rfl (hst _) ?_; rintro _ _ ⟨rfl, rfl⟩))); refine H_go ?_ ?_; (((focus (intro w H; first | exact H | exact H.drop1 | exact H.tail | exact H.tail.drop1 | exact H.tail.tail.drop1 | (repeat fail)))))))) <;> (try (refine H_done (by kernel_rfl) ?_)))) | ((refine G_region (id := 7) ?_ <;> (try (refine G_op1 ?_; ((apply K1_ev; exact rfl; ((focus (exact E_move rfl))))))) <;> (try (refine G_op1 ?_; ((apply K1_ev; exact rfl; ((focus ((apply E_bin (op := .add) (t := 3); exact rfl; exact rfl; exact rfl; ((focus ((apply rb_add; (((focus ((try simp only [Int.reduceAdd]); (try simp only [Int.reduceSub]); (try simp only [Int.reduceMul]); (try simp only [Int.reduceMod]); (try simp only [Int.reduceDiv]); exact rfl)))); (((focus (refine IntWalk.i64_in _ ?_; omega)))))))))))))))) <;> (try (refine G_op1 ?_; ((apply K1_ev; exact rfl; ((focus (exact E_assign rfl))))))) <;> (try (refine G_nil ?_)))))
    refine G_meet (_, k + 1) ⟨hnx'.out, by show _ - (k + 1) < _ - k; omega⟩ (by ((focus (repeat (first | exact Sub.nil | refine Sub.cons rfl ?_ | (refine Sub.cons (congrArg some ?_) ?_; (focus go_num))))))) (fun _ H => H)
  · have hE : m.en = true ∨ (l.length : Int) ≤ m.pos := by
      cases he : m.en with
      | true => exact .inl rfl
      | false =>
        refine .inr ?_
        rcases Int.lt_or_le m.pos l.length with h | h
        · exact absurd ⟨he, by omega⟩ hgo
        · exact h
    have hq := hI.end_ hE
    have hrun : runF l r = (if m.en then m.act else 2147483648, k) := by rw [runF, hq]
    have hrun' := Lib.hid hrun
    have e1 : IntKind.i64.wrap (a + 1) = a + 1 := IntWalk.i64_in _ (by omega)
    have e2 : IntKind.i64.wrap (b + (k : Nat)) = b + (k : Nat) := IntWalk.i64_in _ (by have := h2; omega)
    have ha1 := fun (L : List Blk) => aadd_c (S := S) (w0 := w0) (L := L) n 1 109 [.slice (some ⟨g, 0, none⟩) l.length cap, .int .i64 a, .int .i64 b] a 1 rfl
    have ha2 := fun (L : List Blk) => aadd_c (S := S) (w0 := w0) (L := L) n 2 109 [.slice (some ⟨g, 0, none⟩) l.length cap, .int .i64 (a + 1), .int .i64 b] b (k : Nat) rfl
    simp only [e1, List.set_cons_succ, List.set_cons_zero] at ha1
    simp only [e2, List.set_cons_succ, List.set_cons_zero] at ha2
    have hE' := Lib.hid hE
    clear hrun hq hI hgo e1 e2 hE
    cases he : m.en with
    | true =>
      rw [he] at g29
      repeat' (first | refine G_seq ?_ | refine G_then_n ?_ | refine G_cut_x ?_ | refine G_then_x ?_ | refine G_blk_x ?_ | refine G_skip ?_ | refine G_exit ?_ | refine G_ret ?_ | refine G_cond_f rfl ?_ | (((refine G_regionH (id := 5) (m := 13) (by kernel_rfl) rfl ?_) <;> (try ((apply H_take (i := 0); exact rfl; kernel_rfl; kernel_rfl; kernel_rfl; exact rfl; (((focus (intro w H; repeat (exact H))))); ((focus (apply Y_ev; ((apply E_fieldAddr; exact rfl; ((focus (apply r_fieldAt fo_111_6; (try simp only [Int.toNat_natCast]); (try simp only [Int.reduceToNat]); (try simp only [Nat.mul_one]); (try simp only [Nat.zero_mul]); (try simp only [Nat.reduceMul]); (try simp only [Nat.zero_add]); (try simp only [Nat.add_zero]); (try simp only [Nat.reduceAdd]); exact rfl))))))))))) <;> (try ((apply H_take (i := 1); exact rfl; kernel_rfl; kernel_rfl; kernel_rfl; exact rfl; (((focus (intro w H; repeat (exact H))))); ((focus (apply Y_ev; ((apply E_load1 (t := 4); exact rfl; (((focus (repeat (exact fd0))))); kernel_rfl; kernel_rfl; (((focus (with_reducible assumption)))))))))))) <;> (try ((apply H_take (i := 2); exact rfl; kernel_rfl; kernel_rfl; kernel_rfl; exact rfl; (((focus (intro w H; repeat (exact H))))); ((focus (apply Y_ev; ((apply E_un; exact rfl; ((focus (exact ru_not_t))))))))))) <;> (try ((apply H_take (i := 3); exact rfl; kernel_rfl; kernel_rfl; kernel_rfl; exact rfl; (((focus (intro w H; repeat (exact H))))); ((focus (apply Y_ev; (exact E_move rfl))))))) <;> (try ((((apply H_take (i := 4); exact rfl; kernel_rfl; kernel_rfl; kernel_rfl; exact rfl; (((focus (intro w H; repeat (exact H))))); exact Y_no rfl rfl rfl))))) <;> (try ((((apply H_take (i := 5); exact rfl; kernel_rfl; kernel_rfl; kernel_rfl; exact rfl; (((focus (intro w H; repeat (exact H))))); exact Y_no rfl rfl rfl))))) <;> (try ((((apply H_take (i := 6); exact rfl; kernel_rfl; kernel_rfl; kernel_rfl; exact rfl; (((focus (intro w H; repeat (exact H))))); exact Y_no rfl rfl rfl))))) <;> (try ((((apply H_take (i := 7); exact rfl; kernel_rfl; kernel_rfl; kernel_rfl; exact rfl; (((focus (intro w H; repeat (exact H))))); exact Y_no rfl rfl rfl))))) <;> (try ((((apply H_take (i := 8); exact rfl; kernel_rfl; kernel_rfl; kernel_rfl; exact rfl; (((focus (intro w H; repeat (exact H))))); exact Y_no rfl rfl rfl))))) <;> (try ((((apply H_take (i := 9); exact rfl; kernel_rfl; kernel_rfl; kernel_rfl; exact rfl; (((focus (intro w H; repeat (exact H))))); exact Y_no rfl rfl rfl))))) <;> (try ((((apply H_take (i := 10); exact rfl; kernel_rfl; kernel_rfl; kernel_rfl; exact rfl; (((focus (intro w H; repeat (exact H))))); exact Y_no rfl rfl rfl))))) <;> (try ((((apply H_take (i := 11); exact rfl; kernel_rfl; kernel_rfl; kernel_rfl; exact rfl; (((focus (intro w H; repeat (exact H))))); exact Y_no rfl rfl rfl))))) <;> (try ((apply H_take (i := 12); exact rfl; kernel_rfl; kernel_rfl; kernel_rfl; exact rfl; (((focus (intro w H; repeat (exact H))))); ((focus (apply Y_ev; (exact E_pick rfl rfl))))))) <;> (try (refine H_done (by kernel_rfl) ?_)))) | ((refine G_region (id := 8) ?_ <;> (try (refine G_op1 ?_; ((apply K1_ev; exact rfl; ((focus (exact E_move rfl))))))) <;> (try (refine G_op1 ?_; ((apply K1_ev; exact rfl; ((focus (exact E_nilCheck rfl))))))) <;> (try (refine G_op1 ?_; ((apply K1_ev; exact rfl; ((focus ((apply E_fieldAddr; exact rfl; ((focus (apply r_fieldAt fo_109_1; (try simp only [Int.toNat_natCast]); (try simp only [Int.reduceToNat]); (try simp only [Nat.mul_one]); (try simp only [Nat.zero_mul]); (try simp only [Nat.reduceMul]); (try simp only [Nat.zero_add]); (try simp only [Nat.add_zero]); (try simp only [Nat.reduceAdd]); exact rfl))))))))))) <;> (try (refine G_op1 ?_; (((refine K1_call (F := 49) (by kernel_rfl) rfl rfl ((ha1 _).swp) ?_; rintro _ _ ⟨rfl, rfl⟩))))) <;> (try (refine G_nil ?_)))) | ((refine G_region (id := 9) ?_ <;> (try (refine G_op1 ?_; ((apply K1_ev; exact rfl; ((focus (exact E_move rfl))))))) <;> (try (refine G_op1 ?_; ((apply K1_ev; exact rfl; ((focus (exact E_nilCheck rfl))))))) <;> (try (refine G_op1 ?_; ((apply K1_ev; exact rfl; ((focus ((apply E_fieldAddr; exact rfl; ((focus (apply r_fieldAt fo_109_2; (try simp only [Int.toNat_natCast]); (try simp only [Int.reduceToNat]); (try simp only [Nat.mul_one]); (try simp only [Nat.zero_mul]); (try simp only [Nat.reduceMul]); (try simp only [Nat.zero_add]); (try simp only [Nat.add_zero]); (try simp only [Nat.reduceAdd]); exact rfl))))))))))) <;> (try (refine G_op1 ?_; ((apply K1_ev; exact rfl; ((focus (exact E_move rfl))))))) <;> (try (refine G_op1 ?_; (((refine K1_call (F := 49) (by kernel_rfl) rfl rfl ((ha2 _).swp) ?_; rintro _ _ ⟨rfl, rfl⟩))))) <;> (try (refine G_nil ?_)))) | ((refine G_region (id := 10) ?_ <;> (try (refine G_op1 ?_; ((apply K1_ev; exact rfl; ((focus ((apply E_fieldAddr; exact rfl; ((focus (apply r_fieldAt fo_111_6; (try simp only [Int.toNat_natCast]); (try simp only [Int.reduceToNat]); (try simp only [Nat.mul_one]); (try simp only [Nat.zero_mul]); (try simp only [Nat.reduceMul]); (try simp only [Nat.zero_add]); (try simp only [Nat.add_zero]); (try simp only [Nat.reduceAdd]); exact rfl))))))))))) <;> (try (refine G_op1 ?_; ((apply K1_ev; exact rfl; ((focus ((apply E_load1 (t := 4); exact rfl; (((focus (repeat (exact fd0))))); kernel_rfl; kernel_rfl; (((focus (with_reducible assumption)))))))))))) <;> (try (refine G_op1 ?_; ((apply K1_ev; exact rfl; ((focus ((apply E_un; exact rfl; ((focus (exact ru_not_t))))))))))) <;> (try (refine G_nil ?_)))) | ((refine G_region (id := 12) ?_ <;> (try (refine G_op1 ?_; ((apply K1_ev; exact rfl; ((focus ((apply E_fieldAddr; exact rfl; ((focus (apply r_fieldAt fo_111_5; (try simp only [Int.toNat_natCast]); (try simp only [Int.reduceToNat]); (try simp only [Nat.mul_one]); (try simp only [Nat.zero_mul]); (try simp only [Nat.reduceMul]); (try simp only [Nat.zero_add]); (try simp only [Nat.add_zero]); (try simp only [Nat.reduceAdd]); exact rfl))))))))))) <;> (try (refine G_op1 ?_; ((apply K1_ev; exact rfl; ((focus ((apply E_load1 (t := 54); exact rfl; (((focus (repeat (exact fd0))))); kernel_rfl; kernel_rfl; (((focus (with_reducible assumption)))))))))))) <;> (try (refine G_op1 ?_; ((apply K1_ev; exact rfl; ((focus (exact E_move rfl))))))) <;> (try (refine G_op1 ?_; ((apply K1_ev; exact rfl; ((focus (exact E_assign rfl))))))) <;> (try (refine G_op1 ?_; ((apply K1_ev; exact rfl; ((focus (exact E_assign rfl))))))) <;> (try (refine G_nil ?_)))))
      (refine G_done Try.results29 (.tmp rfl (.tmp rfl .nil)) ?_)
      have hr2 : (runF l r).2 = k := by rw [hrun'.out]
      refine ⟨_, ⟨?_, rfl⟩, ?_⟩
      · rw [hrun'.out, he]; rfl
      · rw [hr2]; exact fun _ H => H.tail
    | false =>
      rw [he] at g29
      have hp2 : (l.length : Int) ≤ m.pos := by rcases hE'.out with h | h; · simp [he] at h
                                                · exact h
      repeat' (first | refine G_seq ?_ | refine G_then_n ?_ | refine G_cut_x ?_ | refine G_then_x ?_ | refine G_then_r ?_ | refine G_blk_x ?_ | refine G_exit ?_ | refine G_ret ?_ | refine G_cond_t rfl ?_ | refine G_cond_f rfl ?_ | (((refine G_regionH (id := 5) (m := 13) (by kernel_rfl) rfl ?_) <;> (try ((apply H_take (i := 0); exact rfl; kernel_rfl; kernel_rfl; kernel_rfl; exact rfl; (((focus (intro w H; repeat (exact H))))); ((focus (apply Y_ev; ((apply E_fieldAddr; exact rfl; ((focus (apply r_fieldAt fo_111_6; (try simp only [Int.toNat_natCast]); (try simp only [Int.reduceToNat]); (try simp only [Nat.mul_one]); (try simp only [Nat.zero_mul]); (try simp only [Nat.reduceMul]); (try simp only [Nat.zero_add]); (try simp only [Nat.add_zero]); (try simp only [Nat.reduceAdd]); exact rfl))))))))))) <;> (try ((apply H_take (i := 1); exact rfl; kernel_rfl; kernel_rfl; kernel_rfl; exact rfl; (((focus (intro w H; repeat (exact H))))); ((focus (apply Y_ev; ((apply E_load1 (t := 4); exact rfl; (((focus (repeat (exact fd0))))); kernel_rfl; kernel_rfl; (((focus (with_reducible assumption)))))))))))) <;> (try ((apply H_take (i := 2); exact rfl; kernel_rfl; kernel_rfl; kernel_rfl; exact rfl; (((focus (intro w H; repeat (exact H))))); ((focus (apply Y_ev; ((apply E_un; exact rfl; ((focus (exact ru_not_f))))))))))) <;> (try ((apply H_take (i := 3); exact rfl; kernel_rfl; kernel_rfl; kernel_rfl; exact rfl; (((focus (intro w H; repeat (exact H))))); ((focus (apply Y_ev; (exact E_move rfl))))))) <;> (try ((((apply H_take (i := 4); exact rfl; kernel_rfl; kernel_rfl; kernel_rfl; exact rfl; (((focus (intro w H; repeat (exact H))))); ((focus (apply Y_yes; exact rfl; exact rfl; exact rfl; ((apply E_fieldAddr; exact rfl; ((focus (apply r_fieldAt fo_111_3; (try simp only [Int.toNat_natCast]); (try simp only [Int.reduceToNat]); (try simp only [Nat.mul_one]); (try simp only [Nat.zero_mul]); (try simp only [Nat.reduceMul]); (try simp only [Nat.zero_add]); (try simp only [Nat.add_zero]); (try simp only [Nat.reduceAdd]); exact rfl))))))))))))) <;> (try ((((apply H_take (i := 5); exact rfl; kernel_rfl; kernel_rfl; kernel_rfl; exact rfl; (((focus (intro w H; repeat (exact H))))); ((focus (apply Y_yes; exact rfl; exact rfl; exact rfl; ((apply E_load1 (t := 3); exact rfl; (((focus (repeat (exact fd0))))); kernel_rfl; kernel_rfl; (((focus (with_reducible assumption)))))))))))))) <;> (try ((((apply H_take (i := 6); exact rfl; kernel_rfl; kernel_rfl; kernel_rfl; exact rfl; (((focus (intro w H; repeat (exact H))))); ((focus (apply Y_yes; exact rfl; exact rfl; exact rfl; (exact E_move rfl))))))))) <;> (try ((((apply H_take (i := 7); exact rfl; kernel_rfl; kernel_rfl; kernel_rfl; exact rfl; (((focus (intro w H; repeat (exact H))))); ((focus (apply Y_yes; exact rfl; exact rfl; exact rfl; (exact E_nilCheck rfl))))))))) <;> (try ((((apply H_take (i := 8); exact rfl; kernel_rfl; kernel_rfl; kernel_rfl; exact rfl; (((focus (intro w H; repeat (exact H))))); ((focus (apply Y_yes; exact rfl; exact rfl; exact rfl; ((apply E_fieldAddr; exact rfl; ((focus (apply r_fieldAt fo_109_0; (try simp only [Int.toNat_natCast]); (try simp only [Int.reduceToNat]); (try simp only [Nat.mul_one]); (try simp only [Nat.zero_mul]); (try simp only [Nat.reduceMul]); (try simp only [Nat.zero_add]); (try simp only [Nat.add_zero]); (try simp only [Nat.reduceAdd]); exact rfl))))))))))))) <;> (try ((((apply H_take (i := 9); exact rfl; kernel_rfl; kernel_rfl; kernel_rfl; exact rfl; (((focus (intro w H; repeat (exact H))))); ((focus (apply Y_yes; exact rfl; exact rfl; exact rfl; ((apply E_load1 (t := 24); exact rfl; (((focus (repeat (first | exact fd0 | apply fdS))))); kernel_rfl; kernel_rfl; (((focus (exact rfl)))))))))))))) <;> (try ((((apply H_take (i := 10); exact rfl; kernel_rfl; kernel_rfl; kernel_rfl; exact rfl; (((focus (intro w H; repeat (exact H))))); ((focus (apply Y_yes; exact rfl; exact rfl; exact rfl; ((apply E_builtin; exact rfl; exact (fun _ => BigFrame.builtin_len ..); apply r_len_slice_e Try.underlying24; ((focus ((try simp only [Int.cast_ofNat_Int]); exact rfl))))))))))))) <;> (try ((((apply H_take (i := 11); exact rfl; kernel_rfl; kernel_rfl; kernel_rfl; exact rfl; (((focus (intro w H; repeat (exact H))))); ((focus (apply Y_yes; exact rfl; exact rfl; exact rfl; ((apply E_bin (op := .lss) (t := 3); exact rfl; exact rfl; exact rfl; ((focus ((refine rb_lss_f ?_; first | (with_reducible assumption) | (decide; done) | omega)))))))))))))) <;> (try ((apply H_take (i := 12); exact rfl; kernel_rfl; kernel_rfl; kernel_rfl; exact rfl; (((focus (intro w H; repeat (exact H))))); ((focus (apply Y_ev; (exact E_pick rfl rfl))))))) <;> (try (refine H_done (by kernel_rfl) ?_)))) | ((refine G_region (id := 8) ?_ <;> (try (refine G_op1 ?_; ((apply K1_ev; exact rfl; ((focus (exact E_move rfl))))))) <;> (try (refine G_op1 ?_; ((apply K1_ev; exact rfl; ((focus (exact E_nilCheck rfl))))))) <;> (try (refine G_op1 ?_; ((apply K1_ev; exact rfl; ((focus ((apply E_fieldAddr; exact rfl; ((focus (apply r_fieldAt fo_109_1; (try simp only [Int.toNat_natCast]); (try simp only [Int.reduceToNat]); (try simp only [Nat.mul_one]); (try simp only [Nat.zero_mul]); (try simp only [Nat.reduceMul]); (try simp only [Nat.zero_add]); (try simp only [Nat.add_zero]); (try simp only [Nat.reduceAdd]); exact rfl))))))))))) <;> (try (refine G_op1 ?_; (((refine K1_call (F := 49) (by kernel_rfl) rfl rfl ((ha1 _).swp) ?_; rintro _ _ ⟨rfl, rfl⟩))))) <;> (try (refine G_nil ?_)))) | ((refine G_region (id := 9) ?_ <;> (try (refine G_op1 ?_; ((apply K1_ev; exact rfl; ((focus (exact E_move rfl))))))) <;> (try (refine G_op1 ?_; ((apply K1_ev; exact rfl; ((focus (exact E_nilCheck rfl))))))) <;> (try (refine G_op1 ?_; ((apply K1_ev; exact rfl; ((focus ((apply E_fieldAddr; exact rfl; ((focus (apply r_fieldAt fo_109_2; (try simp only [Int.toNat_natCast]); (try simp only [Int.reduceToNat]); (try simp only [Nat.mul_one]); (try simp only [Nat.zero_mul]); (try simp only [Nat.reduceMul]); (try simp only [Nat.zero_add]); (try simp only [Nat.add_zero]); (try simp only [Nat.reduceAdd]); exact rfl))))))))))) <;> (try (refine G_op1 ?_; ((apply K1_ev; exact rfl; ((focus (exact E_move rfl))))))) <;> (try (refine G_op1 ?_; (((refine K1_call (F := 49) (by kernel_rfl) rfl rfl ((ha2 _).swp) ?_; rintro _ _ ⟨rfl, rfl⟩))))) <;> (try (refine G_nil ?_)))) | ((refine G_region (id := 10) ?_ <;> (try (refine G_op1 ?_; ((apply K1_ev; exact rfl; ((focus ((apply E_fieldAddr; exact rfl; ((focus (apply r_fieldAt fo_111_6; (try simp only [Int.toNat_natCast]); (try simp only [Int.reduceToNat]); (try simp only [Nat.mul_one]); (try simp only [Nat.zero_mul]); (try simp only [Nat.reduceMul]); (try simp only [Nat.zero_add]); (try simp only [Nat.add_zero]); (try simp only [Nat.reduceAdd]); exact rfl))))))))))) <;> (try (refine G_op1 ?_; ((apply K1_ev; exact rfl; ((focus ((apply E_load1 (t := 4); exact rfl; (((focus (repeat (exact fd0))))); kernel_rfl; kernel_rfl; (((focus (with_reducible assumption)))))))))))) <;> (try (refine G_op1 ?_; ((apply K1_ev; exact rfl; ((focus ((apply E_un; exact rfl; ((focus (exact ru_not_f))))))))))) <;> (try (refine G_nil ?_)))) | ((refine G_region (id := 11) ?_ <;> (try (refine G_op1 ?_; ((apply K1_ev; exact rfl; ((focus (exact E_move rfl))))))) <;> (try (refine G_op1 ?_; ((apply K1_ev; exact rfl; ((focus (exact E_assign rfl))))))) <;> (try (refine G_op1 ?_; ((apply K1_ev; exact rfl; ((focus (exact E_assign rfl))))))) <;> (try (refine G_nil ?_)))))
      (refine G_done Try.results29 (.tmp rfl (.tmp rfl .nil)) ?_)
      have hr2 : (runF l r).2 = k := by rw [hrun'.out]
      refine ⟨_, ⟨?_, rfl⟩, ?_⟩
      · rw [hrun'.out, he]; rfl
      · rw [hr2]; exact fun _ H => H.tail
end Go.Proofs.Ytcimcihhpkedfaa
