/- Instructions as a text: asm.Text computes textF. -/
import Derived.Test.YtmicafpfkpnalaaDoorTxt1
import Derived.Test.YtmicafpfkpnalaaDoorBld
import Derived.Test.YtmicafpfkpnalaaDoorAsmW4
namespace Go.Proofs.YtmicafpfkpnalaaDoor
open Go Go.RowKit
def textF (l : List Ins) : List UInt8 := l.flatMap fun i => lineT i ++ [10]
theorem textF_snoc (l : List Ins) (i : Ins) : textF (l ++ [i]) = textF l ++ (lineT i ++ [10]) := by simp [textF]
theorem rawLn_len (i : Ins) (hi : i.ok) : (rawLn i).length ≤ 28 := by
  have lc := dI_len (x := i.code) 5 (by omega) (by have := hi.1; omega) hi.1.1
  have lt := dI_len (x := i.jt) 3 (by omega) (by have := hi.2; omega) hi.2.1
  have lf := dI_len (x := i.jf) 3 (by omega) (by have := hi.3; omega) hi.3.1
  have lk := dI_len (x := i.k) 10 (by omega) (by have := hi.4; omega) hi.4.1
  unfold rawLn
  simp only [List.length_append, List.length_cons, List.length_nil]
  omega
theorem lineT_len (i : Ins) (hi : i.ok) : (lineT i).length ≤ 28 := by
  have lt := dI_len (x := i.jt) 3 (by omega) (by have := hi.2; omega) hi.2.1
  have lf := dI_len (x := i.jf) 3 (by omega) (by have := hi.3; omega) hi.3.1
  have lk := dI_len (x := i.k) 10 (by omega) (by have := hi.4; omega) hi.4.1
  have lr := rawLn_len i hi
  unfold lineT
  cases hq : wdAt i.code.toNat wds with
  | none => exact lr
  | some w =>
    have hw := (wds_rng _ (wdAt_mem hq)).2.2
    dsimp only
    split
    · split
      · omega
      · exact lr
    · split
      · split
        · simp only [List.length_append, List.length_cons, List.length_nil]; omega
        · exact lr
      · split
        · split
          · simp only [List.length_append, List.length_cons, List.length_nil]; omega
          · exact lr
        · simp only [List.length_append, List.length_cons, List.length_nil]; omega
theorem textF_len (l : List Ins) (hl : ∀ i ∈ l, i.ok) : (textF l).length ≤ 29 * l.length := by
  induction l with
  | nil => simp [textF]
  | cons i r ih =>
    have h1 := lineT_len i (hl i (List.mem_cons_self ..))
    have h2 := ih (fun j hj => hl j (List.mem_cons_of_mem _ hj))
    unfold textF at h2 ⊢
    rw [List.flatMap_cons, List.length_append, List.length_append, List.length_singleton, List.length_cons]
    omega
theorem Fn.weak {P : Program} {F : FuncId} {args : Array Value} {S : List Nat} {w0 : World} {L1 L2 : List Blk} {R : Value → List Blk → Prop} (hL : ∀ w, HP S w0 w L1 → HP S w0 w L2) (hc : Fn P F args S w0 L2 R) : Fn P F args S w0 L1 R := .mk fun w H => hc.out w (hL w H)
theorem byCode_new (k : Nat) (h : k < 41) : fd (.int .u16) (.int .u16 ((wds[k]'h).code : Int)) (byCode (wds.take k)) 0 = some none := fd_newCode fun c hc => (wds_new ⟨k, h⟩ c hc).2
theorem byCode_snoc (l : List Wd) (w : Wd) : byCode (l ++ [w]) = byCode l ++ [(.int .u16 (w.code : Int), w.v)] := by simp [byCode]
theorem byCode_len (l : List Wd) : (byCode l).length = l.length := by simp [byCode]
structure TxI (l : List Ins) (b : Nat) (g : Nat × Value × Value × List Blk) : Prop where
  le : g.1 ≤ l.length
  pp : g.2.1 = .pointer none ∨ g.2.1 = bP b
  own : Own 5 1 g.2.2.1 (textF (l.take g.1)).length (Lib.byteCells (textF (l.take g.1))) g.2.2.2
  nn : g.2.2.1 = .slice none 0 0 ∨ 0 < (textF (l.take g.1)).length
set_option maxRecDepth 100000 in
set_option maxHeartbeats 4000000 in
theorem text_c {S w0 L} (l : List Ins) (hl : ∀ i ∈ l, i.ok) (hne : 0 < l.length) (hlen : l.length ≤ 5000) (a : Option Addr) (cap : Nat) (hs : Sli L a l.length 4 (flat l)) : Fn Tryd.prog 18 #[.slice a l.length cap] S w0 L fun v L' => v = .string (mB8 (textF l)) ∧ L = L' := by
  have hwd := fun (L : List Blk) => words_c (S := S) (w0 := w0) (L := L)
  refine Fn1 Tryd.func18 Tryd.ntmps18 rfl rfl ?_
  repeat' (first | ((refine G_markb (id := 0) ?_)) | refine G_seq ?_ | refine G_then_n ?_ | ((refine G_region (id := 0) ?_ <;> (try (refine G_op1 ?_; ((apply K1_ev; exact rfl; ((focus (exact E_assign rfl))))))) <;> (try (refine G_nil ?_)))) | ((refine G_region (id := 1) ?_ <;> (try (refine G_op1 ?_; (refine K1_makeMap rfl ?_; intro nb hnb))) <;> (try (refine G_op1 ?_; ((apply K1_ev; exact rfl; ((focus (exact E_assign rfl))))))) <;> (try (refine G_nil ?_)))) | ((refine G_region (id := 2) ?_ <;> (try (refine G_op1 ?_; (((refine K1_call (F := 42) (by kernel_rfl) rfl rfl (hwd _) ?_; rintro _ _ ⟨eW, hWo, rfl⟩; rcases own_cases hWo with ⟨-, h0, -, -⟩ | ⟨gW, capW, curW, rfl, rfl, hW1, hW2, hW3, hW4⟩; ((focus (exact absurd h0 (by decide)))); simp only [List.cons_append, List.nil_append]))))) <;> (try (refine G_op1 ?_; ((apply K1_ev; exact rfl; ((focus ((apply E_builtin; exact rfl; exact (fun _ => BigFrame.builtin_len ..); apply r_len_slice_e Tryd.underlying111; ((focus ((try simp only [Int.cast_ofNat_Int]); exact rfl))))))))))) <;> (try (refine G_op1 ?_; ((apply K1_ev; exact rfl; ((focus (exact E_move rfl))))))) <;> (try (refine G_nil ?_)))))
  refine ⟨?_⟩
  obtain ⟨mk, rfl⟩ : ∃ x, x = nb := ⟨_, rfl⟩
  have hWk : ∀ k (h : k < 41), (curW.toList.drop (k * 3)).take 3 = [.int .u16 ((wds[k]'h).code : Int), .string (mB8 (wds[k]'h).text), .int .u8 ((wds[k]'h).form : Int)] := fun k h => by
    have := flatW_at wds k h
    rw [← hW4, List.drop_take, List.take_take, Nat.min_eq_left (by omega)] at this
    exact this
  have hWs : ∀ k, k < 41 → k * 3 + 3 ≤ curW.size := fun k h => by rw [hW3]; omega
  clear hWo hW4 hW3
  have hW2' : capW ≤ maxLen := hW2
  unfold maxLen at hW2'
  refine G_block ?_
  refine G_loopk (γ := Nat) (fun k => k ≤ 41) (fun k => 41 - k) (fun k => [(12, .int .i64 (k : Nat))]) [(0, _), (3, _), (10, _), (11, _)]
    (fun k => mapB mk (byCode (wds.take k)) :: ⟨true, gW, .cells curW 115 (0, 0)⟩ :: L)
    0 (.cons rfl (.cons rfl (.cons rfl (.cons rfl .nil)))) (Nat.zero_le _) (by ((focus (repeat (first | exact Sub.nil | refine Sub.cons rfl ?_ | (refine Sub.cons (congrArg some ?_) ?_; (focus go_num))))))) (fun _ H => H.perm (.swap _ _ _)) ?_
  intro k (hk : k ≤ 41)
  simp only [List.cons_append, List.nil_append]
  by_cases hlt : k < 41
  · have hx := hWk k hlt
    have hxs := hWs k hlt
    have hf := byCode_new k hlt
    have hs1 : wds.take (k + 1) = wds.take k ++ [wds[k]'hlt] := by rw [List.take_add_one, List.getElem?_eq_getElem (h := hlt)]; rfl
    have hkl : (byCode (wds.take k)).length = k := by rw [byCode_len, List.length_take, wds_len]; omega
    generalize wds[k]'hlt = wd at hx hf hs1
    obtain ⟨c, t, f⟩ := wd
    dsimp only at hx hf
    have hs1' := Lib.hid hs1
    generalize hkv : byCode (wds.take k) = kv at *
    have hkv' := Lib.hid hkv
    have hl' := Lib.hid hl
    clear hs1 hkv hWk hWs hl
    repeat' (first | refine G_seq ?_ | refine G_then_n ?_ | refine G_cut_n ?_ | refine G_blk_n ?_ | refine G_block ?_ | refine G_skip ?_ | refine G_cond_t rfl ?_ | ((refine G_region (id := 3) ?_ <;> (try (refine G_op1 ?_; ((apply K1_ev; exact rfl; ((focus ((apply E_bin (op := .lss) (t := 3); exact rfl; exact rfl; exact rfl; ((focus ((refine rb_lss_t ?_; first | (with_reducible assumption) | (decide; done) | omega)))))))))))) <;> (try (refine G_nil ?_)))) | ((refine G_region (id := 4) ?_ <;> (try (refine G_op1 ?_; ((apply K1_ev; exact rfl; ((focus ((apply E_indexAddr; exact rfl; exact rfl; ((focus (apply r_ixs Tryd.underlying111 sz_115; (focus omega); (focus omega); ((focus ((try simp only [Int.toNat_natCast]); (try simp only [Int.reduceToNat]); (try simp only [Nat.mul_one]); (try simp only [Nat.zero_mul]); (try simp only [Nat.reduceMul]); (try simp only [Nat.zero_add]); (try simp only [Nat.add_zero]); (try simp only [Nat.reduceAdd]); exact rfl)))))))))))))) <;> (try (refine G_op1 ?_; ((apply K1_ev; exact rfl; ((focus ((apply E_loadA (t := 115); exact rfl; (((focus (repeat (first | exact fd0 | apply fdS))))); kernel_rfl; kernel_rfl; exact sz_115; (((focus (with_reducible assumption)))); (((focus (with_reducible assumption)))))))))))) <;> (try (refine G_op1 ?_; ((refine K1_alloc (t := 115) rfl Tryd.zeroValue115 ?_; intro nb hnb; (try simp only [Value.cells]))))) <;> (try (refine G_op1 ?_; (((apply K1_storeW (t := 115); exact rfl; exact rfl; (((focus (repeat (exact fd0))))); kernel_rfl; (((focus (exact rfl)))); (((focus (exact rfl)))); (try simp only [List.set_cons_succ]); (try simp only [List.set_cons_zero])))))) <;> (try (refine G_nil ?_)))) | ((refine G_region (id := 5) ?_ <;> (try (refine G_op1 ?_; ((apply K1_ev; exact rfl; ((focus (exact E_move rfl))))))) <;> (try (refine G_op1 ?_; ((apply K1_ev; exact rfl; ((focus ((apply E_fieldAddr; exact rfl; ((focus (apply r_fieldAt fo_115_0; (try simp only [Int.toNat_natCast]); (try simp only [Int.reduceToNat]); (try simp only [Nat.mul_one]); (try simp only [Nat.zero_mul]); (try simp only [Nat.reduceMul]); (try simp only [Nat.zero_add]); (try simp only [Nat.add_zero]); (try simp only [Nat.reduceAdd]); exact rfl))))))))))) <;> (try (refine G_op1 ?_; ((apply K1_ev; exact rfl; ((focus ((apply E_load1 (t := 29); exact rfl; (((focus (repeat (exact fd0))))); kernel_rfl; kernel_rfl; (((focus (exact rfl)))))))))))) <;> (try (refine G_op1 ?_; ((apply K1_ev; exact rfl; ((focus ((apply E_loadA (t := 115); exact rfl; (((focus (repeat (exact fd0))))); kernel_rfl; kernel_rfl; exact sz_115; (((focus (exact Nat.le_of_ble_eq_true rfl)))); (((focus (((try simp only [List.drop_succ_cons]); (try simp only [List.drop_zero]); (try simp only [List.take_succ_cons]); (try simp only [List.take_zero]); (try simp only [List.take_nil]); exact rfl))))))))))))) <;> (try (refine G_op1 ?_; ((apply K1_mapUpdate; exact rfl; exact rfl; exact rfl; (((focus (repeat (first | exact fd0 | apply fdS))))); exact Tryd.underlying122; exact Tryd.underlying29; ((focus (exact rfl))); (((focus (with_reducible assumption)))); (try simp only [List.set_cons_succ]); (try simp only [List.set_cons_zero]))))) <;> (try (refine G_nil ?_)))) | ((refine G_region (id := 6) ?_ <;> (try (refine G_op1 ?_; ((apply K1_ev; exact rfl; ((focus ((apply E_bin (op := .add) (t := 3); exact rfl; exact rfl; exact rfl; ((focus ((apply rb_add; (((focus ((try simp only [Int.reduceAdd]); (try simp only [Int.reduceSub]); (try simp only [Int.reduceMul]); (try simp only [Int.reduceMod]); (try simp only [Int.reduceDiv]); exact rfl)))); (((focus (refine IntWalk.i64_in _ ?_; omega)))))))))))))))) <;> (try (refine G_op1 ?_; ((apply K1_ev; exact rfl; ((focus (exact E_move rfl))))))) <;> (try (refine G_nil ?_)))))
    refine G_meet (k + 1) ⟨by omega, by omega⟩ (by ((focus (repeat (first | exact Sub.nil | refine Sub.cons rfl ?_ | (refine Sub.cons (congrArg some ?_) ?_; (focus go_num))))))) ?_
    have eb : byCode (wds.take (k + 1)) = kv ++ [(Value.int .u16 (c : Int), Value.agg #[.int .u16 (c : Int), .string (mB8 t), .int .u8 (f : Int)])] := by rw [hs1'.out, byCode_snoc, hkv'.out]; rfl
    rw [eb]
    exact fun _ H => H.tail
  · obtain rfl : k = 41 := by omega
    rw [show wds.take 41 = wds from List.take_of_length_le (Nat.le_refl _)]
    clear hWk hWs hk hlt hW1 hW2 hW2' hwd
    have hl' := Lib.hid hl
    clear hl
    repeat' (first | ((refine G_markb (id := 2) ?_)) | refine G_seq ?_ | refine G_then_n ?_ | refine G_cut_x ?_ | refine G_then_x ?_ | refine G_blk_x ?_ | refine G_exit ?_ | refine G_cond_f rfl ?_ | ((refine G_region (id := 3) ?_ <;> (try (refine G_op1 ?_; ((apply K1_ev; exact rfl; ((focus ((apply E_bin (op := .lss) (t := 3); exact rfl; exact rfl; exact rfl; ((focus ((refine rb_lss_f ?_; first | (with_reducible assumption) | (decide; done) | omega)))))))))))) <;> (try (refine G_nil ?_)))) | ((refine G_region (id := 7) ?_ <;> (try (refine G_op1 ?_; ((refine K1_alloc (t := 125) rfl Tryd.zeroValue125 ?_; intro nb hnb; (try simp only [Value.cells]))))) <;> (try (refine G_nil ?_)))) | ((refine G_region (id := 8) ?_ <;> (try (refine G_op1 ?_; ((apply K1_ev; exact rfl; ((focus (exact E_move rfl))))))) <;> (try (refine G_op1 ?_; ((apply K1_ev; exact rfl; ((focus ((apply E_builtin; exact rfl; exact (fun _ => BigFrame.builtin_len ..); apply r_len_slice_e Tryd.underlying37; ((focus ((try simp only [Int.cast_ofNat_Int]); exact rfl))))))))))) <;> (try (refine G_op1 ?_; ((apply K1_ev; exact rfl; ((focus (exact E_move rfl))))))) <;> (try (refine G_nil ?_)))))
    refine ⟨?_⟩
    obtain ⟨nbO, rfl⟩ : ∃ x, x = nb := ⟨_, rfl⟩
    generalize hkv : byCode wds = kv
    have hkv' := Lib.hid hkv
    clear hkv
    refine G_block ?_
    refine G_loopk (γ := Nat × Value × Value × List Blk) (TxI l nbO) (fun g => l.length - g.1) (fun g => [(23, .int .i64 (g.1 : Nat))]) [(3, _), (6, _), (21, _), (22, _)]
      (fun g => bB nbO g.2.1 g.2.2.1 :: (g.2.2.2 ++ (mapB mk kv :: L)))
      (0, .pointer none, .slice none 0 0, []) (.cons rfl (.cons rfl (.cons rfl (.cons rfl .nil)))) ⟨Nat.zero_le _, .inl rfl, Own.nil _ _, .inl rfl⟩ (by ((focus (repeat (first | exact Sub.nil | refine Sub.cons rfl ?_ | (refine Sub.cons (congrArg some ?_) ?_; (focus go_num))))))) (by intro w H; refine H.sub ?_; (try simp only [List.cons_append, List.nil_append]); repeat (first | exact List.Sublist.refl _ | refine List.Sublist.cons_cons _ ?_ | refine List.Sublist.cons _ ?_ | refine List.sublist_append_of_sublist_right ?_)) ?_
    rintro ⟨k, p, v, e⟩ ⟨hk, hpp, hown, hnn⟩
    dsimp only at hk hpp hown hnn ⊢
    simp only [List.cons_append, List.nil_append]
    have htl := textF_len (l.take k) (fun i hi => hl'.out i (List.mem_of_mem_take hi))
    have hkl : (l.take k).length = k := by rw [List.length_take]; omega
    rw [hkl] at htl
    by_cases hlt : k < l.length
    · obtain ⟨j, q, b, off, cs, T, fr, rfl, hj, hsz, hx⟩ := (((hs.up (mapB mk kv)).upA e).up (bB nbO p v)).elem hlt
      rw [flat_at l k hlt] at hx
      have hok := hl'.out _ (List.getElem_mem hlt)
      have htk : textF (l.take (k + 1)) = textF (l.take k) ++ (lineT l[k] ++ [10]) := by rw [List.take_succ_eq_append_getElem hlt, textF_snoc]
      generalize l[k] = i at *
      have hlc := fun x => (line_c (S := S) (w0 := w0) (L := x :: bB nbO p v :: (e ++ L)) mk i hok).permI (L1 := x :: bB nbO p v :: (e ++ (mapB mk (byCode wds) :: L))) (List.perm_middle (l₁ := x :: bB nbO p v :: e))
      rw [hkv'.out] at hlc
      have hll := lineT_len i hok
      have h10 : (⟨#[10]⟩ : ByteArray) = mB8 [10] := rfl
      have hcat : mB8 (lineT i) ++ (⟨#[10]⟩ : ByteArray) = mB8 (lineT i ++ [10]) := by rw [h10, mB8_add]
      have hbw := fun x => (bwrite_c (S := S) (w0 := w0) (L := mapB mk kv :: L) nbO p v hpp _ _ e (by omega) hown hnn (mB8 (lineT i) ++ (⟨#[10]⟩ : ByteArray)) (by rw [hcat, mB8_size, List.length_append, List.length_singleton]; omega) (by rw [hcat, mB8_size, List.length_append, List.length_singleton]; omega)).weak (L1 := x :: bB nbO p v :: (e ++ (mapB mk kv :: L))) (fun _ H => H.tail)
      have hz : (textF (l.take k)).length + (mB8 (lineT i) ++ (⟨#[10]⟩ : ByteArray)).size = (textF (l.take (k + 1))).length := by rw [htk, hcat, mB8_size]; simp only [List.length_append]
      have hby : Lib.byteCells (textF (l.take k)) ++ sBytes (mB8 (lineT i) ++ (⟨#[10]⟩ : ByteArray)) = Lib.byteCells (textF (l.take (k + 1))) := by
        rw [htk, hcat]
        unfold Lib.byteCells
        rw [List.map_append]; rfl
      rw [hz, hby] at hbw
      have hsl : (mB8 (lineT i)).size ≤ 28 := by rw [mB8_size]; exact hll
      have hs1 : (⟨#[10]⟩ : ByteArray).size = 1 := rfl
      have hpos : 0 < (textF (l.take (k + 1))).length := by rw [htk, List.length_append, List.length_append, List.length_singleton]; omega
      have hpos' := Lib.hid hpos
      obtain ⟨ic, it, ijf, ik⟩ := i
      unfold Ins.v at hlc
      simp only [Ins.cells] at hx
      dsimp only at hlc
      clear hz hby hcat htk hpos h10 hown hnn hpp hll
      repeat' (first | refine G_seq ?_ | refine G_then_n ?_ | refine G_cut_n ?_ | refine G_blk_n ?_ | refine G_block ?_ | refine G_skip ?_ | refine G_cond_t rfl ?_ | ((refine G_region (id := 9) ?_ <;> (try (refine G_op1 ?_; ((apply K1_ev; exact rfl; ((focus ((apply E_bin (op := .lss) (t := 3); exact rfl; exact rfl; exact rfl; ((focus ((refine rb_lss_t ?_; first | (with_reducible assumption) | (decide; done) | omega)))))))))))) <;> (try (refine G_nil ?_)))) | ((refine G_region (id := 10) ?_ <;> (try (refine G_op1 ?_; ((apply K1_ev; exact rfl; ((focus ((apply E_indexAddr; exact rfl; exact rfl; ((focus (apply r_ixs Tryd.underlying37 sz_32; (focus omega); (focus omega); ((focus ((try simp only [Int.toNat_natCast]); (try simp only [Int.reduceToNat]); (try simp only [Nat.mul_one]); (try simp only [Nat.zero_mul]); (try simp only [Nat.reduceMul]); (try simp only [Nat.zero_add]); (try simp only [Nat.add_zero]); (try simp only [Nat.reduceAdd]); exact rfl)))))))))))))) <;> (try (refine G_op1 ?_; ((apply K1_ev; exact rfl; ((focus ((apply E_loadA (t := 32); exact rfl; (((focus (repeat (with_reducible assumption))))); kernel_rfl; kernel_rfl; exact sz_32; (((focus (with_reducible assumption)))); (((focus (with_reducible assumption)))))))))))) <;> (try (refine G_op1 ?_; ((refine K1_alloc (t := 32) rfl Tryd.zeroValue32 ?_; intro nb hnb; (try simp only [Value.cells]))))) <;> (try (refine G_op1 ?_; (((apply K1_storeW (t := 32); exact rfl; exact rfl; (((focus (repeat (exact fd0))))); kernel_rfl; (((focus (exact rfl)))); (((focus (exact rfl)))); (try simp only [List.set_cons_succ]); (try simp only [List.set_cons_zero])))))) <;> (try (refine G_nil ?_)))) | ((refine G_region (id := 11) ?_ <;> (try (refine G_op1 ?_; ((apply K1_ev; exact rfl; ((focus (exact E_move rfl))))))) <;> (try (refine G_op1 ?_; ((apply K1_ev; exact rfl; ((focus ((apply E_loadA (t := 32); exact rfl; (((focus (repeat (exact fd0))))); kernel_rfl; kernel_rfl; exact sz_32; (((focus (exact Nat.le_of_ble_eq_true rfl)))); (((focus (((try simp only [List.drop_succ_cons]); (try simp only [List.drop_zero]); (try simp only [List.take_succ_cons]); (try simp only [List.take_zero]); (try simp only [List.take_nil]); exact rfl))))))))))))) <;> (try (refine G_op1 ?_; (((refine K1_call (F := 48) (by kernel_rfl) rfl rfl (hlc _) ?_; rintro _ _ ⟨rfl, rfl⟩))))) <;> (try (refine G_op1 ?_; ((apply K1_ev; exact rfl; ((focus ((apply E_bin (op := .add) (t := 9); exact rfl; exact rfl; exact rfl; ((focus (apply rb_stradd; ((focus (exact rfl))); ((focus (omega)))))))))))))) <;> (try (refine G_op1 ?_; (((refine K1_call (F := 47) (by kernel_rfl) rfl rfl (hbw _) ?_; rintro _ _ ⟨rfl, v2, e2, ho2, rfl⟩))))) <;> (try (refine G_nil ?_)))) | ((refine G_region (id := 12) ?_ <;> (try (refine G_op1 ?_; ((apply K1_ev; exact rfl; ((focus ((apply E_bin (op := .add) (t := 3); exact rfl; exact rfl; exact rfl; ((focus ((apply rb_add; (((focus ((try simp only [Int.reduceAdd]); (try simp only [Int.reduceSub]); (try simp only [Int.reduceMul]); (try simp only [Int.reduceMod]); (try simp only [Int.reduceDiv]); exact rfl)))); (((focus (refine IntWalk.i64_in _ ?_; omega)))))))))))))))) <;> (try (refine G_op1 ?_; ((apply K1_ev; exact rfl; ((focus (exact E_move rfl))))))) <;> (try (refine G_nil ?_)))))
      exact G_meet (k + 1, bP nbO, v2, e2) ⟨⟨by dsimp only; omega, .inr rfl, ho2, .inr hpos'.out⟩, by dsimp only; omega⟩ (by ((focus (repeat (first | exact Sub.nil | refine Sub.cons rfl ?_ | (refine Sub.cons (congrArg some ?_) ?_; (focus go_num))))))) (fun _ H => H)
    · obtain rfl : k = l.length := by omega
      rw [List.take_of_length_le (Nat.le_refl _)] at hown hnn htl
      have hpos : 0 < (textF l).length := by
        rcases hnn with rfl | h
        · exfalso
          cases l with
          | nil => simp at hne
          | cons i r =>
            rcases own_cases hown with ⟨-, h0, -, -⟩ | ⟨g, c, cc, hh, -⟩
            · unfold textF at h0
              rw [List.flatMap_cons, List.length_append, List.length_append, List.length_singleton] at h0
              omega
            · cases hh
        · exact h
      have hbs := (bstring_c (S := S) (w0 := w0) (L := mapB mk kv :: L) nbO p v (textF l) e hpos (by omega) hown)
      repeat' (first | refine G_seq ?_ | refine G_then_n ?_ | refine G_cut_x ?_ | refine G_then_x ?_ | refine G_blk_x ?_ | refine G_exit ?_ | refine G_ret ?_ | refine G_cond_f rfl ?_ | ((refine G_region (id := 9) ?_ <;> (try (refine G_op1 ?_; ((apply K1_ev; exact rfl; ((focus ((apply E_bin (op := .lss) (t := 3); exact rfl; exact rfl; exact rfl; ((focus ((refine rb_lss_f ?_; first | (with_reducible assumption) | (decide; done) | omega)))))))))))) <;> (try (refine G_nil ?_)))) | ((refine G_region (id := 13) ?_ <;> (try (refine G_op1 ?_; (((refine K1_call (F := 49) (by kernel_rfl) rfl rfl hbs ?_; rintro _ _ ⟨rfl, rfl⟩))))) <;> (try (refine G_op1 ?_; ((apply K1_ev; exact rfl; ((focus (exact E_assign rfl))))))) <;> (try (refine G_nil ?_)))))
      (refine G_done Tryd.results18 (.tmp rfl .nil) ?_)
      exact ⟨_, ⟨rfl, rfl⟩, by intro w H; refine H.sub ?_; (try simp only [List.cons_append, List.nil_append]); repeat (first | exact List.Sublist.refl _ | refine List.Sublist.cons_cons _ ?_ | refine List.Sublist.cons _ ?_ | refine List.sublist_append_of_sublist_right ?_)⟩
end Go.Proofs.YtmicafpfkpnalaaDoor
