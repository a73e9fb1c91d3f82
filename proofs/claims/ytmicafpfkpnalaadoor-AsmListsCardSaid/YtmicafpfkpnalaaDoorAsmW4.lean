/- A text as instructions: asm.Parse computes parseF. -/
import Derived.Test.YtmicafpfkpnalaaDoorAsmW3
namespace Go.Proofs.YtmicafpfkpnalaaDoor
open Go Go.RowKit
theorem Fn.permI {P : Program} {F : FuncId} {args : Array Value} {S : List Nat} {w0 : World} {L1 L2 : List Blk} {Q : Value → Prop} (hp : L1.Perm L2) (hc : Fn P F args S w0 L2 fun v L' => Q v ∧ L2 = L') : Fn P F args S w0 L1 fun v L' => Q v ∧ L1 = L' :=
  .mk fun w H => (hc.out w (H.perm hp)).mono fun e w' ⟨v, L', he, ⟨hQ, hL⟩, H'⟩ => ⟨v, L1, he, ⟨hQ, rfl⟩, (hL ▸ H').perm hp.symm⟩
theorem perm_mid2 {α : Type} (a : α) (e : List α) (b m : α) (l : List α) : (a :: (e ++ (b :: m :: l))).Perm (m :: a :: (e ++ (b :: l))) := by
  have h : (e ++ (b :: m :: l)).Perm (m :: (e ++ (b :: l))) := by
    have := List.perm_middle (l₁ := e ++ [b]) (a := m) (l₂ := l)
    simpa using this
  exact (h.cons a).trans (.swap _ _ _)
theorem own_sl {E size : Nat} {v : Value} {n : Nat} {xs : List Value} {e : List Blk} (h : Own E size v n xs e) : ∃ a c, v = .slice a n c := by
  rcases own_cases h with ⟨rfl, rfl, -, -⟩ | ⟨g, cap, cur, rfl, -⟩
  · exact ⟨_, _, rfl⟩
  · exact ⟨_, _, rfl⟩
def ParR (l : List UInt8) (L : List Blk) (v : Value) (L' : List Blk) : Prop := ∃ vo e, v = tupleOf [vo, .int .i64 ((parseF l).2.1 : Nat), .int .i64 ((parseF l).2.2 : Nat)] ∧ Own 32 4 vo (parseF l).1.length (flat (parseF l).1) e ∧ e ++ L = L'
structure PaI (P : List (List UInt8)) (g : Nat × Value × List Blk × List Ins) : Prop where
  le : g.1 ≤ P.length
  ln : g.2.2.2.length ≤ 4096
  eq : parseGo 0 P [] = parseGo g.1 (P.drop g.1) g.2.2.2
  own : Own 32 4 g.2.1 g.2.2.2.length (flat g.2.2.2) g.2.2.1
theorem byText_new (k : Nat) (h : k < 41) : fd .string (.string (mB8 (wds[k]'h).text)) (byText (wds.take k)) 0 = some none := fd_newText fun c hc => (wds_new ⟨k, h⟩ c hc).1
theorem byText_snoc (l : List Wd) (w : Wd) : byText (l ++ [w]) = byText l ++ [(.string (mB8 w.text), w.v)] := by simp [byText]
theorem byText_len (l : List Wd) : (byText l).length = l.length := by simp [byText]
theorem flat_snoc' (a : List Ins) (i : Ins) : flat (a ++ [i]) = flat a ++ i.cells := by simp [flat]
theorem headF_mem (c : UInt8) (p : List UInt8) : ∀ b ∈ headF c p, b ∈ p := by
  unfold headF
  by_cases h0 : p.count c = 0
  · rw [ix_none h0]; exact fun b h => h
  · obtain ⟨m, h1, h2, h3, h4⟩ := ix_some (c := c) (l := p) (by omega)
    rw [h3, List.headD_cons]
    exact fun b h => List.mem_of_mem_take h
theorem splitC_mem (c : UInt8) (l : List UInt8) : ∀ x ∈ splitC c l, ∀ b ∈ x, b ∈ l := by
  induction l with
  | nil => intro x hx b hb; rw [splitC, List.mem_singleton] at hx; subst hx; cases hb
  | cons a r ih =>
    intro x hx b hb
    rw [splitC] at hx
    have hne := splitC_ne c r
    split at hx
    · rcases List.mem_cons.1 hx with rfl | hx
      · cases hb
      · exact List.mem_cons_of_mem _ (ih x hx b hb)
    · cases hsr : splitC c r with
      | nil => exact absurd hsr hne
      | cons y ys =>
        rw [hsr] at hx ih
        rw [List.headD_cons, List.tail_cons] at hx
        rcases List.mem_cons.1 hx with rfl | hx
        · rcases List.mem_cons.1 hb with rfl | hb
          · exact List.mem_cons_self ..
          · exact List.mem_cons_of_mem _ (ih y (List.mem_cons_self ..) b hb)
        · exact List.mem_cons_of_mem _ (ih x (List.mem_cons_of_mem _ hx) b hb)
theorem fieldsGo_sz : ∀ (l cur : List UInt8), (∀ x ∈ Lib.fieldsGo cur l, x.length ≤ cur.length + l.length) ∧ (Lib.fieldsGo cur l).length ≤ cur.length + l.length := by
  intro l
  induction l with
  | nil =>
    intro cur
    rw [Lib.fieldsGo]
    cases cur with
    | nil => simp
    | cons a r => simp
  | cons b r ih =>
    intro cur
    rw [Lib.fieldsGo]
    by_cases hb : Lib.isSp b = true
    · rw [if_pos hb]
      obtain ⟨h1, h2⟩ := ih []
      cases cur with
      | nil =>
        rw [if_pos (by rfl)]
        exact ⟨fun x hx => by have := h1 x hx; simp only [List.length_cons, List.length_nil] at *; omega, by simp only [List.length_cons, List.length_nil] at *; omega⟩
      | cons a s =>
        rw [if_neg (by simp)]
        refine ⟨fun x hx => ?_, by simp only [List.length_cons, List.length_nil] at *; omega⟩
        rcases List.mem_cons.1 hx with rfl | hx
        · simp only [List.length_cons]; omega
        · have := h1 x hx; simp only [List.length_cons, List.length_nil] at *; omega
    · rw [if_neg hb]
      obtain ⟨h1, h2⟩ := ih (cur ++ [b])
      exact ⟨fun x hx => by have := h1 x hx; simp only [List.length_append, List.length_cons, List.length_nil] at *; omega, by simp only [List.length_append, List.length_cons, List.length_nil] at *; omega⟩
theorem fields_sz (l : List UInt8) : (∀ x ∈ Lib.fields l, x.length ≤ l.length) ∧ (Lib.fields l).length ≤ l.length := by
  have := fieldsGo_sz l []
  simpa [Lib.fields] using this
set_option maxRecDepth 100000 in
set_option maxHeartbeats 4000000 in
theorem parse_c {w0 L} (hT : Lib.TabIs Tryd.prog w0 "strings.asciiSpace" .u8 Lib.asciiSpaceTab) (s : ByteArray) (hs : s.size ≤ 1000000) (ha : s.size ≤ 65536 → ∀ b ∈ lB s, b.toNat < 128) : Fn Tryd.prog 17 #[.string s] [] w0 L (ParR (lB s) L) := by
  by_cases hbig : s.size > 65536
  · have hx : parseF (lB s) = ([], 0, 36) := by unfold parseF; rw [if_pos (by rw [lB_len]; exact hbig)]
    have hx' := Lib.hid hx
    clear hx
    refine Fn1 Tryd.func17 Tryd.ntmps17 rfl rfl ?_
    repeat' (first | refine G_seq ?_ | refine G_then_n ?_ | refine G_then_r ?_ | refine G_ret ?_ | refine G_cond_t rfl ?_ | ((refine G_region (id := 0) ?_ <;> (try (refine G_op1 ?_; ((apply K1_ev; exact rfl; ((focus (exact E_assign rfl))))))) <;> (try (refine G_op1 ?_; ((apply K1_ev; exact rfl; ((focus (exact E_assign rfl))))))) <;> (try (refine G_op1 ?_; ((apply K1_ev; exact rfl; ((focus (exact E_assign rfl))))))) <;> (try (refine G_nil ?_)))) | ((refine G_region (id := 1) ?_ <;> (try (refine G_op1 ?_; ((apply K1_ev; exact rfl; ((focus (exact E_move rfl))))))) <;> (try (refine G_op1 ?_; ((apply K1_ev; exact rfl; ((focus (exact E_builtin rfl (fun _ => BigFrame.builtin_len ..) (r_len_string Tryd.underlying9)))))))) <;> (try (refine G_op1 ?_; ((apply K1_ev; exact rfl; ((focus ((apply E_bin (op := .gtr) (t := 3); exact rfl; exact rfl; exact rfl; ((focus ((refine rb_gtr_t ?_; first | (with_reducible assumption) | (decide; done) | omega)))))))))))) <;> (try (refine G_nil ?_)))) | ((refine G_region (id := 2) ?_ <;> (try (refine G_op1 ?_; ((apply K1_ev; exact rfl; ((focus (exact E_assign rfl))))))) <;> (try (refine G_op1 ?_; ((apply K1_ev; exact rfl; ((focus (exact E_assign rfl))))))) <;> (try (refine G_op1 ?_; ((apply K1_ev; exact rfl; ((focus (exact E_assign rfl))))))) <;> (try (refine G_nil ?_)))))
    (refine G_done Tryd.results17 (.tmp rfl (.tmp rfl (.tmp rfl .nil))) ?_)
    refine ⟨_, ⟨.slice none 0 0, [], ?_, ?_, rfl⟩, by intro w H; refine H.sub ?_; (try simp only [List.cons_append, List.nil_append]); repeat (first | exact List.Sublist.refl _ | refine List.Sublist.cons_cons _ ?_ | refine List.Sublist.cons _ ?_ | refine List.sublist_append_of_sublist_right ?_)⟩
    · rw [hx'.out]; rfl
    · rw [hx'.out]; exact Own.nil _ _
  have ha := ha (by omega)
  have hlx : parseF (lB s) = parseGo 0 (splitC 10 (lB s)) [] := by unfold parseF; rw [if_neg (by rw [lB_len]; exact hbig)]
  have hlx' := Lib.hid hlx
  clear hlx
  have hsp := fun (L : List Blk) => split1_c (S := []) (w0 := w0) (L := L) s hs 10
  have hlen := splitC_len 10 (lB s)
  have hcl : (lB s).count 10 ≤ s.size := by rw [← lB_len]; exact List.count_le_length
  have hpl : ∀ x ∈ splitC 10 (lB s), x.length ≤ s.size := by
    intro x hx
    have := splitC_le (lB s) x hx
    rwa [lB_len] at this
  have hpa : ∀ x ∈ splitC 10 (lB s), ∀ b ∈ x, b.toNat < 128 := fun x hx b hb => ha b (splitC_mem 10 (lB s) x hx b hb)
  generalize splitC 10 (lB s) = P at *
  have hN : P.length ≤ 65537 := by omega
  have hwd := fun (L : List Blk) => words_c (S := []) (w0 := w0) (L := L)
  clear hlen hcl ha
  refine Fn1 Tryd.func17 Tryd.ntmps17 rfl rfl ?_
  repeat' (first | ((refine G_markb (id := 0) ?_)) | refine G_seq ?_ | refine G_then_n ?_ | refine G_skip ?_ | refine G_cond_f rfl ?_ | ((refine G_region (id := 0) ?_ <;> (try (refine G_op1 ?_; ((apply K1_ev; exact rfl; ((focus (exact E_assign rfl))))))) <;> (try (refine G_op1 ?_; ((apply K1_ev; exact rfl; ((focus (exact E_assign rfl))))))) <;> (try (refine G_op1 ?_; ((apply K1_ev; exact rfl; ((focus (exact E_assign rfl))))))) <;> (try (refine G_nil ?_)))) | ((refine G_region (id := 1) ?_ <;> (try (refine G_op1 ?_; ((apply K1_ev; exact rfl; ((focus (exact E_move rfl))))))) <;> (try (refine G_op1 ?_; ((apply K1_ev; exact rfl; ((focus (exact E_builtin rfl (fun _ => BigFrame.builtin_len ..) (r_len_string Tryd.underlying9)))))))) <;> (try (refine G_op1 ?_; ((apply K1_ev; exact rfl; ((focus ((apply E_bin (op := .gtr) (t := 3); exact rfl; exact rfl; exact rfl; ((focus ((refine rb_gtr_f ?_; first | (with_reducible assumption) | (decide; done) | omega)))))))))))) <;> (try (refine G_nil ?_)))) | ((refine G_region (id := 3) ?_ <;> (try (refine G_op1 ?_; (refine K1_makeMap rfl ?_; intro nb hnb))) <;> (try (refine G_op1 ?_; ((apply K1_ev; exact rfl; ((focus (exact E_assign rfl))))))) <;> (try (refine G_nil ?_)))) | ((refine G_region (id := 4) ?_ <;> (try (refine G_op1 ?_; (((refine K1_call (F := 42) (by kernel_rfl) rfl rfl (hwd _) ?_; rintro _ _ ⟨eW, hWo, rfl⟩; rcases own_cases hWo with ⟨-, h0, -, -⟩ | ⟨gW, capW, curW, rfl, rfl, hW1, hW2, hW3, hW4⟩; ((focus (exact absurd h0 (by decide)))); simp only [List.cons_append, List.nil_append]))))) <;> (try (refine G_op1 ?_; ((apply K1_ev; exact rfl; ((focus ((apply E_builtin; exact rfl; exact (fun _ => BigFrame.builtin_len ..); apply r_len_slice_e Tryd.underlying111; ((focus ((try simp only [Int.cast_ofNat_Int]); exact rfl))))))))))) <;> (try (refine G_op1 ?_; ((apply K1_ev; exact rfl; ((focus (exact E_move rfl))))))) <;> (try (refine G_nil ?_)))))
  refine ⟨?_⟩
  obtain ⟨mk, rfl⟩ : ∃ x, x = nb := ⟨_, rfl⟩
  have hWk : ∀ k (h : k < 41), (curW.toList.drop (k * 3)).take 3 = [.int .u16 ((wds[k]'h).code : Int), .string (mB8 (wds[k]'h).text), .int .u8 ((wds[k]'h).form : Int)] := fun k h => by
    have := flatW_at wds k h
    rw [← hW4, List.drop_take, List.take_take, Nat.min_eq_left (by omega)] at this
    exact this
  have hWs : ∀ k, k < 41 → k * 3 + 3 ≤ curW.size := fun k h => by rw [hW3]; omega
  clear hWo hW4 hW3
  have hW2' : capW ≤ maxLen := hW2
  unfold maxLen at hW2'
  refine G_block ?_
  refine G_loopk (γ := Nat) (fun k => k ≤ 41) (fun k => 41 - k) (fun k => [(20, .int .i64 (k : Nat))]) [(0, _), (5, _), (18, _), (19, _)]
    (fun k => mapB mk (byText (wds.take k)) :: ⟨true, gW, .cells curW 115 (0, 0)⟩ :: L)
    0 (.cons rfl (.cons rfl (.cons rfl (.cons rfl .nil)))) (Nat.zero_le _) (by ((focus (repeat (first | exact Sub.nil | refine Sub.cons rfl ?_ | (refine Sub.cons (congrArg some ?_) ?_; (focus go_num))))))) (fun _ H => H.perm (.swap _ _ _)) ?_
  intro k (hk : k ≤ 41)
  simp only [List.cons_append, List.nil_append]
  by_cases hlt : k < 41
  · have hx := hWk k hlt
    have hxs := hWs k hlt
    have hf := byText_new k hlt
    have hs1 : wds.take (k + 1) = wds.take k ++ [wds[k]'hlt] := by rw [List.take_add_one, List.getElem?_eq_getElem (h := hlt)]; rfl
    have hkl : (byText (wds.take k)).length = k := by rw [byText_len, List.length_take, wds_len]; omega
    generalize wds[k]'hlt = wd at hx hf hs1
    obtain ⟨c, t, f⟩ := wd
    dsimp only at hx hf
    have hs1' := Lib.hid hs1
    generalize hkv : byText (wds.take k) = kv at *
    have hkv' := Lib.hid hkv
    have hpl' := Lib.hid hpl
    have hpa' := Lib.hid hpa
    clear hs1 hkv hWk hWs hpl hpa
    repeat' (first | refine G_seq ?_ | refine G_then_n ?_ | refine G_cut_n ?_ | refine G_blk_n ?_ | refine G_block ?_ | refine G_skip ?_ | refine G_cond_t rfl ?_ | ((refine G_region (id := 5) ?_ <;> (try (refine G_op1 ?_; ((apply K1_ev; exact rfl; ((focus ((apply E_bin (op := .lss) (t := 3); exact rfl; exact rfl; exact rfl; ((focus ((refine rb_lss_t ?_; first | (with_reducible assumption) | (decide; done) | omega)))))))))))) <;> (try (refine G_nil ?_)))) | ((refine G_region (id := 6) ?_ <;> (try (refine G_op1 ?_; ((apply K1_ev; exact rfl; ((focus ((apply E_indexAddr; exact rfl; exact rfl; ((focus (apply r_ixs Tryd.underlying111 sz_115; (focus omega); (focus omega); ((focus ((try simp only [Int.toNat_natCast]); (try simp only [Int.reduceToNat]); (try simp only [Nat.mul_one]); (try simp only [Nat.zero_mul]); (try simp only [Nat.reduceMul]); (try simp only [Nat.zero_add]); (try simp only [Nat.add_zero]); (try simp only [Nat.reduceAdd]); exact rfl)))))))))))))) <;> (try (refine G_op1 ?_; ((apply K1_ev; exact rfl; ((focus ((apply E_loadA (t := 115); exact rfl; (((focus (repeat (first | exact fd0 | apply fdS))))); kernel_rfl; kernel_rfl; exact sz_115; (((focus (with_reducible assumption)))); (((focus (with_reducible assumption)))))))))))) <;> (try (refine G_op1 ?_; ((refine K1_alloc (t := 115) rfl Tryd.zeroValue115 ?_; intro nb hnb; (try simp only [Value.cells]))))) <;> (try (refine G_op1 ?_; (((apply K1_storeW (t := 115); exact rfl; exact rfl; (((focus (repeat (exact fd0))))); kernel_rfl; (((focus (exact rfl)))); (((focus (exact rfl)))); (try simp only [List.set_cons_succ]); (try simp only [List.set_cons_zero])))))) <;> (try (refine G_nil ?_)))) | ((refine G_region (id := 7) ?_ <;> (try (refine G_op1 ?_; ((apply K1_ev; exact rfl; ((focus (exact E_move rfl))))))) <;> (try (refine G_op1 ?_; ((apply K1_ev; exact rfl; ((focus ((apply E_fieldAddr; exact rfl; ((focus (apply r_fieldAt fo_115_1; (try simp only [Int.toNat_natCast]); (try simp only [Int.reduceToNat]); (try simp only [Nat.mul_one]); (try simp only [Nat.zero_mul]); (try simp only [Nat.reduceMul]); (try simp only [Nat.zero_add]); (try simp only [Nat.add_zero]); (try simp only [Nat.reduceAdd]); exact rfl))))))))))) <;> (try (refine G_op1 ?_; ((apply K1_ev; exact rfl; ((focus ((apply E_load1 (t := 9); exact rfl; (((focus (repeat (exact fd0))))); kernel_rfl; kernel_rfl; (((focus (exact rfl)))))))))))) <;> (try (refine G_op1 ?_; ((apply K1_ev; exact rfl; ((focus ((apply E_loadA (t := 115); exact rfl; (((focus (repeat (exact fd0))))); kernel_rfl; kernel_rfl; exact sz_115; (((focus (exact Nat.le_of_ble_eq_true rfl)))); (((focus (((try simp only [List.drop_succ_cons]); (try simp only [List.drop_zero]); (try simp only [List.take_succ_cons]); (try simp only [List.take_zero]); (try simp only [List.take_nil]); exact rfl))))))))))))) <;> (try (refine G_op1 ?_; ((apply K1_mapUpdate; exact rfl; exact rfl; exact rfl; (((focus (repeat (first | exact fd0 | apply fdS))))); exact Tryd.underlying110; exact Tryd.underlying9; ((focus (exact trivial))); (((focus (with_reducible assumption)))); (try simp only [List.set_cons_succ]); (try simp only [List.set_cons_zero]))))) <;> (try (refine G_nil ?_)))) | ((refine G_region (id := 8) ?_ <;> (try (refine G_op1 ?_; ((apply K1_ev; exact rfl; ((focus ((apply E_bin (op := .add) (t := 3); exact rfl; exact rfl; exact rfl; ((focus ((apply rb_add; (((focus ((try simp only [Int.reduceAdd]); (try simp only [Int.reduceSub]); (try simp only [Int.reduceMul]); (try simp only [Int.reduceMod]); (try simp only [Int.reduceDiv]); exact rfl)))); (((focus (refine IntWalk.i64_in _ ?_; omega)))))))))))))))) <;> (try (refine G_op1 ?_; ((apply K1_ev; exact rfl; ((focus (exact E_move rfl))))))) <;> (try (refine G_nil ?_)))))
    refine G_meet (k + 1) ⟨by omega, by omega⟩ (by ((focus (repeat (first | exact Sub.nil | refine Sub.cons rfl ?_ | (refine Sub.cons (congrArg some ?_) ?_; (focus go_num))))))) ?_
    have eb : byText (wds.take (k + 1)) = kv ++ [(Value.string (mB8 t), Value.agg #[.int .u16 (c : Int), .string (mB8 t), .int .u8 (f : Int)])] := by rw [hs1'.out, byText_snoc, hkv'.out]; rfl
    rw [eb]
    exact fun _ H => H.tail
  · obtain rfl : k = 41 := by omega
    rw [show wds.take 41 = wds from List.take_of_length_le (Nat.le_refl _)]
    clear hWk hWs hk hlt
    have hpl' := Lib.hid hpl
    have hpa' := Lib.hid hpa
    clear hpl hpa
    repeat' (first | ((refine G_markb (id := 2) ?_)) | refine G_seq ?_ | refine G_then_n ?_ | refine G_cut_x ?_ | refine G_then_x ?_ | refine G_blk_x ?_ | refine G_exit ?_ | refine G_cond_f rfl ?_ | ((refine G_region (id := 5) ?_ <;> (try (refine G_op1 ?_; ((apply K1_ev; exact rfl; ((focus ((apply E_bin (op := .lss) (t := 3); exact rfl; exact rfl; exact rfl; ((focus ((refine rb_lss_f ?_; first | (with_reducible assumption) | (decide; done) | omega)))))))))))) <;> (try (refine G_nil ?_)))) | ((refine G_region (id := 9) ?_ <;> (try (refine G_op1 ?_; ((apply K1_ev; exact rfl; ((focus (exact E_assign rfl))))))) <;> (try (refine G_nil ?_)))) | ((refine G_region (id := 10) ?_ <;> (try (refine G_op1 ?_; ((apply K1_ev; exact rfl; ((focus (exact E_move rfl))))))) <;> (try (refine G_op1 ?_; (((apply K1_call (F := 43); kernel_rfl; exact rfl; exact rfl; apply hsp; rintro _ _ ⟨nbP, rfl, rfl⟩; (try simp only [List.eraseIdx_cons_succ]); (try simp only [List.eraseIdx_cons_zero])))))) <;> (try (refine G_op1 ?_; ((apply K1_ev; exact rfl; ((focus ((apply E_builtin; exact rfl; exact (fun _ => BigFrame.builtin_len ..); apply r_len_slice_e Tryd.underlying55; ((focus ((try simp only [Int.cast_ofNat_Int]); exact rfl))))))))))) <;> (try (refine G_op1 ?_; ((apply K1_ev; exact rfl; ((focus (exact E_move rfl))))))) <;> (try (refine G_nil ?_)))))
    refine ⟨?_⟩
    generalize hkv : byText wds = kv
    have hkv' := Lib.hid hkv
    clear hkv hsp hwd hW1 hW2 hW2'
    refine G_block ?_
    refine G_loopk (γ := Nat × Value × List Blk × List Ins) (PaI P) (fun g => P.length - g.1) (fun g => [(32, .int .i64 (g.1 : Nat)), (8, g.2.1)]) [(5, _), (30, _), (31, _)]
      (fun g => g.2.2.1 ++ (⟨true, nbP, .cells (strs P).toArray 9 (0, 0)⟩ :: mapB mk kv :: L))
      (0, .slice none 0 0, [], []) (.cons rfl (.cons rfl (.cons rfl .nil))) ⟨Nat.zero_le _, Nat.zero_le _, rfl, Own.nil _ _⟩ (by ((focus (repeat (first | exact Sub.nil | refine Sub.cons rfl ?_ | (refine Sub.cons (congrArg some ?_) ?_; (focus go_num))))))) (by intro w H; refine H.sub ?_; (try simp only [List.cons_append, List.nil_append]); repeat (first | exact List.Sublist.refl _ | refine List.Sublist.cons_cons _ ?_ | refine List.Sublist.cons _ ?_ | refine List.sublist_append_of_sublist_right ?_)) ?_
    rintro ⟨k, vo, eo, out⟩ ⟨hk, hol, heq, hown⟩
    dsimp only at hk hol heq hown ⊢
    simp only [List.cons_append, List.nil_append]
    have hsz : (strs P).toArray.size = P.length := by rw [List.size_toArray, strs_len]
    by_cases hlt : k < P.length
    case neg =>
      obtain rfl : k = P.length := by omega
      rw [List.drop_length, parseGo] at heq
      have heq' := Lib.hid heq
      have hown' := Lib.hid hown
      clear heq hown
      repeat' (first | refine G_seq ?_ | refine G_then_n ?_ | refine G_cut_x ?_ | refine G_then_x ?_ | refine G_blk_x ?_ | refine G_exit ?_ | refine G_ret ?_ | refine G_cond_f rfl ?_ | ((refine G_region (id := 11) ?_ <;> (try (refine G_op1 ?_; ((apply K1_ev; exact rfl; ((focus ((apply E_bin (op := .lss) (t := 3); exact rfl; exact rfl; exact rfl; ((focus ((refine rb_lss_f ?_; first | (with_reducible assumption) | (decide; done) | omega)))))))))))) <;> (try (refine G_nil ?_)))) | ((refine G_region (id := 23) ?_ <;> (try (refine G_op1 ?_; ((apply K1_ev; exact rfl; ((focus (exact E_move rfl))))))) <;> (try (refine G_op1 ?_; ((apply K1_ev; exact rfl; ((focus (exact E_assign rfl))))))) <;> (try (refine G_op1 ?_; ((apply K1_ev; exact rfl; ((focus (exact E_assign rfl))))))) <;> (try (refine G_op1 ?_; ((apply K1_ev; exact rfl; ((focus (exact E_assign rfl))))))) <;> (try (refine G_nil ?_)))))
      (refine G_done Tryd.results17 (.tmp rfl (.tmp rfl (.tmp rfl .nil))) ?_)
      refine ⟨_, ⟨vo, eo, ?_, ?_, rfl⟩, fun w H => H.sub (List.Sublist.append_left (.cons _ (.cons _ (List.Sublist.refl _))) _)⟩
      · rw [hlx'.out, heq'.out]; rfl
      · rw [hlx'.out, heq'.out]; exact hown'.out
    have hx := strs_at' P k hlt
    have hxl := hpl'.out P[k] (List.getElem_mem hlt)
    have hxa := hpa'.out P[k] (List.getElem_mem hlt)
    rw [List.drop_eq_getElem_cons hlt, parseGo] at heq
    generalize P[k] = pc at hx heq hxl hxa
    have hct := fun (L : List Blk) => cut1_c (S := []) (w0 := w0) (L := L) (mB8 pc) 35 (by rw [mB8_size]; omega)
    rw [lB_mB8] at hct
    have htl := headF_len 35 pc
    have hta : ∀ b ∈ headF 35 pc, b.toNat < 128 := fun b hb => hxa b (headF_mem 35 pc b hb)
    generalize headF 35 pc = t at *
    have hfd := fun (L : List Blk) => fields_c (w0 := w0) (L := L) hT (mB8 t) (by rw [mB8_size]; omega) (by rw [lB_mB8]; exact hta)
    rw [lB_mB8] at hfd
    obtain ⟨hf1, hf2⟩ := fields_sz t
    have hsn : (k : Int) + 1 = ((k + 1 : Nat) : Int) := rfl
    cases hq : Lib.fields t with
    | nil =>
      rw [hq] at hfd heq
      dsimp only at heq
      have heq' := Lib.hid heq
      have hown' := Lib.hid hown
      clear heq hown hq hf1 hf2 hta
      repeat' (first | refine G_seq ?_ | refine G_then_n ?_ | refine G_cut_n ?_ | refine G_then_x ?_ | refine G_blk_x ?_ | refine G_block ?_ | refine G_skip ?_ | refine G_exit ?_ | refine G_cond_t rfl ?_ | ((refine G_region (id := 11) ?_ <;> (try (refine G_op1 ?_; ((apply K1_ev; exact rfl; ((focus ((apply E_bin (op := .lss) (t := 3); exact rfl; exact rfl; exact rfl; ((focus ((refine rb_lss_t ?_; first | (with_reducible assumption) | (decide; done) | omega)))))))))))) <;> (try (refine G_nil ?_)))) | ((refine G_region (id := 12) ?_ <;> (try (refine G_op1 ?_; ((apply K1_ev; exact rfl; ((focus (exact E_move rfl))))))) <;> (try (refine G_op1 ?_; ((apply K1_ev; exact rfl; ((focus ((apply E_indexAddr; exact rfl; exact rfl; ((focus (apply r_ixs Tryd.underlying55 sz_9; (focus omega); (focus omega); ((focus ((try simp only [Int.toNat_natCast]); (try simp only [Int.reduceToNat]); (try simp only [Nat.mul_one]); (try simp only [Nat.zero_mul]); (try simp only [Nat.reduceMul]); (try simp only [Nat.zero_add]); (try simp only [Nat.add_zero]); (try simp only [Nat.reduceAdd]); exact rfl)))))))))))))) <;> (try (refine G_op1 ?_; ((apply K1_ev; exact rfl; ((focus ((apply E_load1 (t := 9); exact rfl; (((focus (repeat (first | exact fd0 | apply fdA))))); kernel_rfl; kernel_rfl; (((focus (with_reducible assumption)))))))))))) <;> (try (refine G_op1 ?_; ((apply K1_ev; exact rfl; ((focus (exact E_assign rfl))))))) <;> (try (refine G_op1 ?_; ((apply K1_ev; exact rfl; ((focus (exact E_assign rfl))))))) <;> (try (refine G_nil ?_)))) | ((refine G_region (id := 13) ?_ <;> (try (refine G_op1 ?_; ((apply K1_ev; exact rfl; ((focus (exact E_move rfl))))))) <;> (try (refine G_op1 ?_; (((refine K1_call (F := 44) (by kernel_rfl) rfl rfl (hct _) ?_; rintro _ _ ⟨xc, yc, rfl, rfl⟩))))) <;> (try (refine G_op1 ?_; ((apply K1_ev; exact rfl; ((focus (exact E_move rfl))))))) <;> (try (refine G_op1 ?_; ((apply K1_ev; exact rfl; ((focus (exact E_extractL rfl rfl))))))) <;> (try (refine G_op1 ?_; ((apply K1_ev; exact rfl; ((focus (exact E_extractL rfl rfl))))))) <;> (try (refine G_op1 ?_; ((apply K1_ev; exact rfl; ((focus (exact E_extractL rfl rfl))))))) <;> (try (refine G_op1 ?_; ((apply K1_ev; exact rfl; ((focus (exact E_assign rfl))))))) <;> (try (refine G_nil ?_)))) | ((refine G_region (id := 14) ?_ <;> (try (refine G_op1 ?_; ((apply K1_ev; exact rfl; ((focus (exact E_move rfl))))))) <;> (try (refine G_op1 ?_; (((apply K1_call (F := 45); kernel_rfl; exact rfl; exact rfl; apply hfd; rintro _ _ ⟨nbF, rfl, rfl⟩; (try simp only [List.eraseIdx_cons_succ]); (try simp only [List.eraseIdx_cons_zero])))))) <;> (try (refine G_op1 ?_; ((apply K1_ev; exact rfl; ((focus (exact E_assign rfl))))))) <;> (try (refine G_nil ?_)))) | ((refine G_region (id := 15) ?_ <;> (try (refine G_op1 ?_; ((apply K1_ev; exact rfl; ((focus (exact E_move rfl))))))) <;> (try (refine G_op1 ?_; ((apply K1_ev; exact rfl; ((focus ((apply E_builtin; exact rfl; exact (fun _ => BigFrame.builtin_len ..); apply r_len_slice_e Tryd.underlying55; ((focus ((try simp only [Int.cast_ofNat_Int]); exact rfl))))))))))) <;> (try (refine G_op1 ?_; ((apply K1_ev; exact rfl; ((focus ((apply E_bin (op := .eql) (t := 3); exact rfl; exact rfl; exact rfl; ((focus ((refine rb_eql_t' ?_; first | rfl | (with_reducible assumption) | (decide; done) | omega)))))))))))) <;> (try (refine G_nil ?_)))) | ((refine G_region (id := 22) ?_ <;> (try (refine G_op1 ?_; ((apply K1_ev; exact rfl; ((focus ((apply E_bin (op := .add) (t := 3); exact rfl; exact rfl; exact rfl; ((focus ((apply rb_add; (((focus ((try simp only [Int.reduceAdd]); (try simp only [Int.reduceSub]); (try simp only [Int.reduceMul]); (try simp only [Int.reduceMod]); (try simp only [Int.reduceDiv]); exact rfl)))); (((focus (refine IntWalk.i64_in _ ?_; omega)))))))))))))))) <;> (try (refine G_op1 ?_; ((apply K1_ev; exact rfl; ((focus (exact E_move rfl))))))) <;> (try (refine G_nil ?_)))))
      refine G_meet (k + 1, vo, eo, out) ⟨⟨by dsimp only; omega, hol, heq'.out, hown'.out⟩, by dsimp only; omega⟩ (by ((focus (repeat (first | exact Sub.nil | refine Sub.cons rfl ?_ | (refine Sub.cons (congrArg some ?_) ?_; (focus go_num))))))) (by intro w H; refine H.sub ?_; (try simp only [List.cons_append, List.nil_append]); repeat (first | exact List.Sublist.refl _ | refine List.Sublist.cons_cons _ ?_ | refine List.Sublist.cons _ ?_ | refine List.sublist_append_of_sublist_right ?_))
    | cons x xs =>
      rw [hq] at hfd heq hf1 hf2
      rw [List.length_cons] at hfd hf2
      dsimp only at heq
      have hpd := fun nl => (parsed_c (S := []) (w0 := w0) (L := eo ++ (⟨true, nbP, .cells (strs P).toArray 9 (0, 0)⟩ :: L)) mk nl x xs (fun y hy => by have := hf1 y (List.mem_cons_of_mem _ hy); omega) (by omega)).permI (L1 := LB nl (x :: xs) :: (eo ++ (⟨true, nbP, .cells (strs P).toArray 9 (0, 0)⟩ :: mapB mk (byText wds) :: L))) (perm_mid2 _ _ _ _ _)
      rw [hkv'.out] at hpd
      generalize parsedF (x :: xs) = pf at *
      obtain ⟨pi, pe⟩ := pf
      dsimp only at hpd heq
      by_cases hpe : pe = 0
      · subst hpe
        obtain ⟨ic, it, ijf, ik⟩ := pi
        rw [if_neg (fun h => h rfl)] at heq
        unfold Ins.v at hpd
        by_cases hmany : out.length = 4096
        · rw [if_pos hmany] at heq
          have heq' := Lib.hid heq
          have hown' := Lib.hid hown
          clear heq hq hf1 hf2 hta
          obtain ⟨ao, co, rfl⟩ := own_sl hown
          rw [hmany]
          clear hown
          repeat' (first | refine G_seq ?_ | refine G_then_n ?_ | refine G_cut_r ?_ | refine G_then_r ?_ | refine G_blk_r ?_ | refine G_block ?_ | refine G_skip ?_ | refine G_ret ?_ | refine G_cond_t rfl ?_ | refine G_cond_f rfl ?_ | ((refine G_region (id := 11) ?_ <;> (try (refine G_op1 ?_; ((apply K1_ev; exact rfl; ((focus ((apply E_bin (op := .lss) (t := 3); exact rfl; exact rfl; exact rfl; ((focus ((refine rb_lss_t ?_; first | (with_reducible assumption) | (decide; done) | omega)))))))))))) <;> (try (refine G_nil ?_)))) | ((refine G_region (id := 12) ?_ <;> (try (refine G_op1 ?_; ((apply K1_ev; exact rfl; ((focus (exact E_move rfl))))))) <;> (try (refine G_op1 ?_; ((apply K1_ev; exact rfl; ((focus ((apply E_indexAddr; exact rfl; exact rfl; ((focus (apply r_ixs Tryd.underlying55 sz_9; (focus omega); (focus omega); ((focus ((try simp only [Int.toNat_natCast]); (try simp only [Int.reduceToNat]); (try simp only [Nat.mul_one]); (try simp only [Nat.zero_mul]); (try simp only [Nat.reduceMul]); (try simp only [Nat.zero_add]); (try simp only [Nat.add_zero]); (try simp only [Nat.reduceAdd]); exact rfl)))))))))))))) <;> (try (refine G_op1 ?_; ((apply K1_ev; exact rfl; ((focus ((apply E_load1 (t := 9); exact rfl; (((focus (repeat (first | exact fd0 | apply fdA))))); kernel_rfl; kernel_rfl; (((focus (with_reducible assumption)))))))))))) <;> (try (refine G_op1 ?_; ((apply K1_ev; exact rfl; ((focus (exact E_assign rfl))))))) <;> (try (refine G_op1 ?_; ((apply K1_ev; exact rfl; ((focus (exact E_assign rfl))))))) <;> (try (refine G_nil ?_)))) | ((refine G_region (id := 13) ?_ <;> (try (refine G_op1 ?_; ((apply K1_ev; exact rfl; ((focus (exact E_move rfl))))))) <;> (try (refine G_op1 ?_; (((refine K1_call (F := 44) (by kernel_rfl) rfl rfl (hct _) ?_; rintro _ _ ⟨xc, yc, rfl, rfl⟩))))) <;> (try (refine G_op1 ?_; ((apply K1_ev; exact rfl; ((focus (exact E_move rfl))))))) <;> (try (refine G_op1 ?_; ((apply K1_ev; exact rfl; ((focus (exact E_extractL rfl rfl))))))) <;> (try (refine G_op1 ?_; ((apply K1_ev; exact rfl; ((focus (exact E_extractL rfl rfl))))))) <;> (try (refine G_op1 ?_; ((apply K1_ev; exact rfl; ((focus (exact E_extractL rfl rfl))))))) <;> (try (refine G_op1 ?_; ((apply K1_ev; exact rfl; ((focus (exact E_assign rfl))))))) <;> (try (refine G_nil ?_)))) | ((refine G_region (id := 14) ?_ <;> (try (refine G_op1 ?_; ((apply K1_ev; exact rfl; ((focus (exact E_move rfl))))))) <;> (try (refine G_op1 ?_; (((apply K1_call (F := 45); kernel_rfl; exact rfl; exact rfl; apply hfd; rintro _ _ ⟨nbF, rfl, rfl⟩; (try simp only [List.eraseIdx_cons_succ]); (try simp only [List.eraseIdx_cons_zero])))))) <;> (try (refine G_op1 ?_; ((apply K1_ev; exact rfl; ((focus (exact E_assign rfl))))))) <;> (try (refine G_nil ?_)))) | ((refine G_region (id := 15) ?_ <;> (try (refine G_op1 ?_; ((apply K1_ev; exact rfl; ((focus (exact E_move rfl))))))) <;> (try (refine G_op1 ?_; ((apply K1_ev; exact rfl; ((focus ((apply E_builtin; exact rfl; exact (fun _ => BigFrame.builtin_len ..); apply r_len_slice_e Tryd.underlying55; ((focus ((try simp only [Int.cast_ofNat_Int]); exact rfl))))))))))) <;> (try (refine G_op1 ?_; ((apply K1_ev; exact rfl; ((focus ((apply E_bin (op := .eql) (t := 3); exact rfl; exact rfl; exact rfl; ((focus ((refine rb_eql_f ?_; first | (with_reducible assumption) | (decide; done) | omega)))))))))))) <;> (try (refine G_nil ?_)))) | ((refine G_region (id := 16) ?_ <;> (try (refine G_op1 ?_; ((apply K1_ev; exact rfl; ((focus (exact E_move rfl))))))) <;> (try (refine G_op1 ?_; ((apply K1_ev; exact rfl; ((focus (exact E_move rfl))))))) <;> (try (refine G_op1 ?_; (((apply K1_call (F := 46); kernel_rfl; exact rfl; exact rfl; apply hpd _; rintro _ _ ⟨rfl, rfl⟩; (try simp only [List.eraseIdx_cons_succ]); (try simp only [List.eraseIdx_cons_zero])))))) <;> (try (refine G_op1 ?_; ((apply K1_ev; exact rfl; ((focus (exact E_move rfl))))))) <;> (try (refine G_op1 ?_; ((apply K1_ev; exact rfl; ((focus (exact E_extractL rfl rfl))))))) <;> (try (refine G_op1 ?_; ((apply K1_ev; exact rfl; ((focus (exact E_extractL rfl rfl))))))) <;> (try (refine G_op1 ?_; ((refine K1_alloc (t := 32) rfl Tryd.zeroValue32 ?_; intro nb hnb; (try simp only [Value.cells]))))) <;> (try (refine G_op1 ?_; (((apply K1_storeW (t := 32); exact rfl; exact rfl; (((focus (repeat (exact fd0))))); kernel_rfl; (((focus (exact rfl)))); (((focus (exact rfl)))); (try simp only [List.set_cons_succ]); (try simp only [List.set_cons_zero])))))) <;> (try (refine G_op1 ?_; ((apply K1_ev; exact rfl; ((focus (exact E_assign rfl))))))) <;> (try (refine G_nil ?_)))) | ((refine G_region (id := 17) ?_ <;> (try (refine G_op1 ?_; ((apply K1_ev; exact rfl; ((focus (exact E_move rfl))))))) <;> (try (refine G_op1 ?_; ((apply K1_ev; exact rfl; ((focus ((apply E_bin (op := .neq) (t := 33); exact rfl; exact rfl; exact rfl; ((focus ((refine rb_neq_f ?_; first | rfl | (with_reducible assumption) | (decide; done) | omega)))))))))))) <;> (try (refine G_nil ?_)))) | ((refine G_region (id := 19) ?_ <;> (try (refine G_op1 ?_; ((apply K1_ev; exact rfl; ((focus (exact E_move rfl))))))) <;> (try (refine G_op1 ?_; ((apply K1_ev; exact rfl; ((focus ((apply E_builtin; exact rfl; exact (fun _ => BigFrame.builtin_len ..); apply r_len_slice_e Tryd.underlying37; ((focus ((try simp only [Int.cast_ofNat_Int]); exact rfl))))))))))) <;> (try (refine G_op1 ?_; ((apply K1_ev; exact rfl; ((focus ((apply E_bin (op := .eql) (t := 3); exact rfl; exact rfl; exact rfl; ((focus ((refine rb_eql_t' ?_; first | rfl | (with_reducible assumption) | (decide; done) | omega)))))))))))) <;> (try (refine G_nil ?_)))) | ((refine G_region (id := 20) ?_ <;> (try (refine G_op1 ?_; ((apply K1_ev; exact rfl; ((focus (exact E_move rfl))))))) <;> (try (refine G_op1 ?_; ((apply K1_ev; exact rfl; ((focus ((apply E_bin (op := .add) (t := 3); exact rfl; exact rfl; exact rfl; ((focus ((apply rb_add; (((focus ((try simp only [Int.reduceAdd]); (try simp only [Int.reduceSub]); (try simp only [Int.reduceMul]); (try simp only [Int.reduceMod]); (try simp only [Int.reduceDiv]); exact rfl)))); (((focus (refine IntWalk.i64_in _ ?_; omega)))))))))))))))) <;> (try (refine G_op1 ?_; ((apply K1_ev; exact rfl; ((focus (exact E_assign rfl))))))) <;> (try (refine G_op1 ?_; ((apply K1_ev; exact rfl; ((focus (exact E_assign rfl))))))) <;> (try (refine G_op1 ?_; ((apply K1_ev; exact rfl; ((focus (exact E_assign rfl))))))) <;> (try (refine G_nil ?_)))))
          (refine G_done Tryd.results17 (.tmp rfl (.tmp rfl (.tmp rfl .nil))) ?_)
          refine ⟨_, ⟨.slice none 0 0, [], ?_, ?_, rfl⟩, by intro w H; refine H.sub ?_; (try simp only [List.cons_append, List.nil_append]); repeat (first | exact List.Sublist.refl _ | refine List.Sublist.cons_cons _ ?_ | refine List.Sublist.cons _ ?_ | refine List.sublist_append_of_sublist_right ?_)⟩
          · rw [hlx'.out, heq'.out]; rfl
          · rw [hlx'.out, heq'.out]; exact Own.nil _ _
        · rw [if_neg hmany] at heq
          have heq' := Lib.hid heq
          clear heq hq hf1 hf2 hta
          obtain ⟨ao, co, rfl⟩ := own_sl hown
          repeat' (first | refine G_seq ?_ | refine G_then_n ?_ | refine G_cut_n ?_ | refine G_blk_n ?_ | refine G_block ?_ | refine G_skip ?_ | refine G_cond_t rfl ?_ | refine G_cond_f rfl ?_ | ((refine G_region (id := 11) ?_ <;> (try (refine G_op1 ?_; ((apply K1_ev; exact rfl; ((focus ((apply E_bin (op := .lss) (t := 3); exact rfl; exact rfl; exact rfl; ((focus ((refine rb_lss_t ?_; first | (with_reducible assumption) | (decide; done) | omega)))))))))))) <;> (try (refine G_nil ?_)))) | ((refine G_region (id := 12) ?_ <;> (try (refine G_op1 ?_; ((apply K1_ev; exact rfl; ((focus (exact E_move rfl))))))) <;> (try (refine G_op1 ?_; ((apply K1_ev; exact rfl; ((focus ((apply E_indexAddr; exact rfl; exact rfl; ((focus (apply r_ixs Tryd.underlying55 sz_9; (focus omega); (focus omega); ((focus ((try simp only [Int.toNat_natCast]); (try simp only [Int.reduceToNat]); (try simp only [Nat.mul_one]); (try simp only [Nat.zero_mul]); (try simp only [Nat.reduceMul]); (try simp only [Nat.zero_add]); (try simp only [Nat.add_zero]); (try simp only [Nat.reduceAdd]); exact rfl)))))))))))))) <;> (try (refine G_op1 ?_; ((apply K1_ev; exact rfl; ((focus ((apply E_load1 (t := 9); exact rfl; (((focus (repeat (first | exact fd0 | apply fdA))))); kernel_rfl; kernel_rfl; (((focus (with_reducible assumption)))))))))))) <;> (try (refine G_op1 ?_; ((apply K1_ev; exact rfl; ((focus (exact E_assign rfl))))))) <;> (try (refine G_op1 ?_; ((apply K1_ev; exact rfl; ((focus (exact E_assign rfl))))))) <;> (try (refine G_nil ?_)))) | ((refine G_region (id := 13) ?_ <;> (try (refine G_op1 ?_; ((apply K1_ev; exact rfl; ((focus (exact E_move rfl))))))) <;> (try (refine G_op1 ?_; (((refine K1_call (F := 44) (by kernel_rfl) rfl rfl (hct _) ?_; rintro _ _ ⟨xc, yc, rfl, rfl⟩))))) <;> (try (refine G_op1 ?_; ((apply K1_ev; exact rfl; ((focus (exact E_move rfl))))))) <;> (try (refine G_op1 ?_; ((apply K1_ev; exact rfl; ((focus (exact E_extractL rfl rfl))))))) <;> (try (refine G_op1 ?_; ((apply K1_ev; exact rfl; ((focus (exact E_extractL rfl rfl))))))) <;> (try (refine G_op1 ?_; ((apply K1_ev; exact rfl; ((focus (exact E_extractL rfl rfl))))))) <;> (try (refine G_op1 ?_; ((apply K1_ev; exact rfl; ((focus (exact E_assign rfl))))))) <;> (try (refine G_nil ?_)))) | ((refine G_region (id := 14) ?_ <;> (try (refine G_op1 ?_; ((apply K1_ev; exact rfl; ((focus (exact E_move rfl))))))) <;> (try (refine G_op1 ?_; (((apply K1_call (F := 45); kernel_rfl; exact rfl; exact rfl; apply hfd; rintro _ _ ⟨nbF, rfl, rfl⟩; (try simp only [List.eraseIdx_cons_succ]); (try simp only [List.eraseIdx_cons_zero])))))) <;> (try (refine G_op1 ?_; ((apply K1_ev; exact rfl; ((focus (exact E_assign rfl))))))) <;> (try (refine G_nil ?_)))) | ((refine G_region (id := 15) ?_ <;> (try (refine G_op1 ?_; ((apply K1_ev; exact rfl; ((focus (exact E_move rfl))))))) <;> (try (refine G_op1 ?_; ((apply K1_ev; exact rfl; ((focus ((apply E_builtin; exact rfl; exact (fun _ => BigFrame.builtin_len ..); apply r_len_slice_e Tryd.underlying55; ((focus ((try simp only [Int.cast_ofNat_Int]); exact rfl))))))))))) <;> (try (refine G_op1 ?_; ((apply K1_ev; exact rfl; ((focus ((apply E_bin (op := .eql) (t := 3); exact rfl; exact rfl; exact rfl; ((focus ((refine rb_eql_f ?_; first | (with_reducible assumption) | (decide; done) | omega)))))))))))) <;> (try (refine G_nil ?_)))) | ((refine G_region (id := 16) ?_ <;> (try (refine G_op1 ?_; ((apply K1_ev; exact rfl; ((focus (exact E_move rfl))))))) <;> (try (refine G_op1 ?_; ((apply K1_ev; exact rfl; ((focus (exact E_move rfl))))))) <;> (try (refine G_op1 ?_; (((apply K1_call (F := 46); kernel_rfl; exact rfl; exact rfl; apply hpd _; rintro _ _ ⟨rfl, rfl⟩; (try simp only [List.eraseIdx_cons_succ]); (try simp only [List.eraseIdx_cons_zero])))))) <;> (try (refine G_op1 ?_; ((apply K1_ev; exact rfl; ((focus (exact E_move rfl))))))) <;> (try (refine G_op1 ?_; ((apply K1_ev; exact rfl; ((focus (exact E_extractL rfl rfl))))))) <;> (try (refine G_op1 ?_; ((apply K1_ev; exact rfl; ((focus (exact E_extractL rfl rfl))))))) <;> (try (refine G_op1 ?_; ((refine K1_alloc (t := 32) rfl Tryd.zeroValue32 ?_; intro nb hnb; (try simp only [Value.cells]))))) <;> (try (refine G_op1 ?_; (((apply K1_storeW (t := 32); exact rfl; exact rfl; (((focus (repeat (exact fd0))))); kernel_rfl; (((focus (exact rfl)))); (((focus (exact rfl)))); (try simp only [List.set_cons_succ]); (try simp only [List.set_cons_zero])))))) <;> (try (refine G_op1 ?_; ((apply K1_ev; exact rfl; ((focus (exact E_assign rfl))))))) <;> (try (refine G_nil ?_)))) | ((refine G_region (id := 17) ?_ <;> (try (refine G_op1 ?_; ((apply K1_ev; exact rfl; ((focus (exact E_move rfl))))))) <;> (try (refine G_op1 ?_; ((apply K1_ev; exact rfl; ((focus ((apply E_bin (op := .neq) (t := 33); exact rfl; exact rfl; exact rfl; ((focus ((refine rb_neq_f ?_; first | rfl | (with_reducible assumption) | (decide; done) | omega)))))))))))) <;> (try (refine G_nil ?_)))) | ((refine G_region (id := 19) ?_ <;> (try (refine G_op1 ?_; ((apply K1_ev; exact rfl; ((focus (exact E_move rfl))))))) <;> (try (refine G_op1 ?_; ((apply K1_ev; exact rfl; ((focus ((apply E_builtin; exact rfl; exact (fun _ => BigFrame.builtin_len ..); apply r_len_slice_e Tryd.underlying37; ((focus ((try simp only [Int.cast_ofNat_Int]); exact rfl))))))))))) <;> (try (refine G_op1 ?_; ((apply K1_ev; exact rfl; ((focus ((apply E_bin (op := .eql) (t := 3); exact rfl; exact rfl; exact rfl; ((focus ((refine rb_eql_f ?_; first | (with_reducible assumption) | (decide; done) | omega)))))))))))) <;> (try (refine G_nil ?_)))) | ((refine G_region (id := 21) ?_ <;> (try (refine G_op1 ?_; ((apply K1_ev; exact rfl; ((focus (exact E_move rfl))))))) <;> (try (refine G_op1 ?_; ((apply K1_ev; exact rfl; ((focus ((apply E_loadA (t := 32); exact rfl; (((focus (repeat (exact fd0))))); kernel_rfl; kernel_rfl; exact sz_32; (((focus (exact Nat.le_of_ble_eq_true rfl)))); (((focus (((try simp only [List.drop_succ_cons]); (try simp only [List.drop_zero]); (try simp only [List.take_succ_cons]); (try simp only [List.take_zero]); (try simp only [List.take_nil]); exact rfl))))))))))))) <;> (try (refine G_op1 ?_; ((refine K1_buildSlice (t := 37) (m := 1) (e := 32) (fun (vs : List (Nat × Value)) => (match vs with | [(_, x0)] => x0.cells.toList | _ => [] : List Value)) rfl rfl (fun w => by kernel_rfl) ?_; intro nb hnb; (try simp only [Value.cells]); (try simp only [List.cons_append]); (try simp only [List.nil_append]))))) <;> (try (refine G_op1 ?_; (((apply K1_append; exact rfl; exact Tryd.underlying37; exact inf_32_i; exact inf_32_z; exact inf_32_s; exact inf_32_b; exact rfl; exact rfl; exact rfl; (((focus (with_reducible assumption)))); (((focus (repeat (exact fd0))))); (((focus (exact Nat.le_of_ble_eq_true rfl)))); (((focus (((try simp only [List.drop_succ_cons]); (try simp only [List.drop_zero]); (try simp only [List.take_succ_cons]); (try simp only [List.take_zero]); (try simp only [List.take_nil]); exact rfl))))); (((focus (exact rfl)))); ((focus (unfold maxLen; omega))); (focus omega); (((focus (intro w H; repeat (first | exact H | (replace H := H.tail)))))); exact rfl; (((focus ((try simp only [Nat.zero_add]); (try simp only [Nat.reduceAdd]); exact rfl)))); (((focus ((try simp only [Nat.zero_mul]); (try simp only [List.take_zero]); (try simp only [List.nil_append]); (try simp only [List.cons_append]); (try simp only [List.nil_append]); exact rfl)))); intro vA eA hownA))))) <;> (try (refine G_op1 ?_; ((apply K1_ev; exact rfl; ((focus (exact E_assign rfl))))))) <;> (try (refine G_nil ?_)))) | ((refine G_region (id := 22) ?_ <;> (try (refine G_op1 ?_; ((apply K1_ev; exact rfl; ((focus ((apply E_bin (op := .add) (t := 3); exact rfl; exact rfl; exact rfl; ((focus ((apply rb_add; (((focus ((try simp only [Int.reduceAdd]); (try simp only [Int.reduceSub]); (try simp only [Int.reduceMul]); (try simp only [Int.reduceMod]); (try simp only [Int.reduceDiv]); exact rfl)))); (((focus (refine IntWalk.i64_in _ ?_; omega)))))))))))))))) <;> (try (refine G_op1 ?_; ((apply K1_ev; exact rfl; ((focus (exact E_move rfl))))))) <;> (try (refine G_nil ?_)))))
          refine G_meet (k + 1, vA, eA, out ++ [⟨ic, it, ijf, ik⟩]) ⟨⟨by dsimp only; omega, by dsimp only; rw [List.length_append, List.length_singleton]; omega, heq'.out, ?_⟩, by dsimp only; omega⟩ (by ((focus (repeat (first | exact Sub.nil | refine Sub.cons rfl ?_ | (refine Sub.cons (congrArg some ?_) ?_; (focus go_num))))))) (fun _ H => H)
          dsimp only
          rw [List.length_append, flat_snoc']
          exact hownA
      · rw [if_pos hpe] at heq
        have heq' := Lib.hid heq
        clear heq hown hq hf1 hf2 hta
        repeat' (first | refine G_seq ?_ | refine G_then_n ?_ | refine G_cut_r ?_ | refine G_then_r ?_ | refine G_blk_r ?_ | refine G_block ?_ | refine G_skip ?_ | refine G_ret ?_ | refine G_cond_t rfl ?_ | refine G_cond_f rfl ?_ | ((refine G_region (id := 11) ?_ <;> (try (refine G_op1 ?_; ((apply K1_ev; exact rfl; ((focus ((apply E_bin (op := .lss) (t := 3); exact rfl; exact rfl; exact rfl; ((focus ((refine rb_lss_t ?_; first | (with_reducible assumption) | (decide; done) | omega)))))))))))) <;> (try (refine G_nil ?_)))) | ((refine G_region (id := 12) ?_ <;> (try (refine G_op1 ?_; ((apply K1_ev; exact rfl; ((focus (exact E_move rfl))))))) <;> (try (refine G_op1 ?_; ((apply K1_ev; exact rfl; ((focus ((apply E_indexAddr; exact rfl; exact rfl; ((focus (apply r_ixs Tryd.underlying55 sz_9; (focus omega); (focus omega); ((focus ((try simp only [Int.toNat_natCast]); (try simp only [Int.reduceToNat]); (try simp only [Nat.mul_one]); (try simp only [Nat.zero_mul]); (try simp only [Nat.reduceMul]); (try simp only [Nat.zero_add]); (try simp only [Nat.add_zero]); (try simp only [Nat.reduceAdd]); exact rfl)))))))))))))) <;> (try (refine G_op1 ?_; ((apply K1_ev; exact rfl; ((focus ((apply E_load1 (t := 9); exact rfl; (((focus (repeat (first | exact fd0 | apply fdA))))); kernel_rfl; kernel_rfl; (((focus (with_reducible assumption)))))))))))) <;> (try (refine G_op1 ?_; ((apply K1_ev; exact rfl; ((focus (exact E_assign rfl))))))) <;> (try (refine G_op1 ?_; ((apply K1_ev; exact rfl; ((focus (exact E_assign rfl))))))) <;> (try (refine G_nil ?_)))) | ((refine G_region (id := 13) ?_ <;> (try (refine G_op1 ?_; ((apply K1_ev; exact rfl; ((focus (exact E_move rfl))))))) <;> (try (refine G_op1 ?_; (((refine K1_call (F := 44) (by kernel_rfl) rfl rfl (hct _) ?_; rintro _ _ ⟨xc, yc, rfl, rfl⟩))))) <;> (try (refine G_op1 ?_; ((apply K1_ev; exact rfl; ((focus (exact E_move rfl))))))) <;> (try (refine G_op1 ?_; ((apply K1_ev; exact rfl; ((focus (exact E_extractL rfl rfl))))))) <;> (try (refine G_op1 ?_; ((apply K1_ev; exact rfl; ((focus (exact E_extractL rfl rfl))))))) <;> (try (refine G_op1 ?_; ((apply K1_ev; exact rfl; ((focus (exact E_extractL rfl rfl))))))) <;> (try (refine G_op1 ?_; ((apply K1_ev; exact rfl; ((focus (exact E_assign rfl))))))) <;> (try (refine G_nil ?_)))) | ((refine G_region (id := 14) ?_ <;> (try (refine G_op1 ?_; ((apply K1_ev; exact rfl; ((focus (exact E_move rfl))))))) <;> (try (refine G_op1 ?_; (((apply K1_call (F := 45); kernel_rfl; exact rfl; exact rfl; apply hfd; rintro _ _ ⟨nbF, rfl, rfl⟩; (try simp only [List.eraseIdx_cons_succ]); (try simp only [List.eraseIdx_cons_zero])))))) <;> (try (refine G_op1 ?_; ((apply K1_ev; exact rfl; ((focus (exact E_assign rfl))))))) <;> (try (refine G_nil ?_)))) | ((refine G_region (id := 15) ?_ <;> (try (refine G_op1 ?_; ((apply K1_ev; exact rfl; ((focus (exact E_move rfl))))))) <;> (try (refine G_op1 ?_; ((apply K1_ev; exact rfl; ((focus ((apply E_builtin; exact rfl; exact (fun _ => BigFrame.builtin_len ..); apply r_len_slice_e Tryd.underlying55; ((focus ((try simp only [Int.cast_ofNat_Int]); exact rfl))))))))))) <;> (try (refine G_op1 ?_; ((apply K1_ev; exact rfl; ((focus ((apply E_bin (op := .eql) (t := 3); exact rfl; exact rfl; exact rfl; ((focus ((refine rb_eql_f ?_; first | (with_reducible assumption) | (decide; done) | omega)))))))))))) <;> (try (refine G_nil ?_)))) | ((refine G_region (id := 16) ?_ <;> (try (refine G_op1 ?_; ((apply K1_ev; exact rfl; ((focus (exact E_move rfl))))))) <;> (try (refine G_op1 ?_; ((apply K1_ev; exact rfl; ((focus (exact E_move rfl))))))) <;> (try (refine G_op1 ?_; (((apply K1_call (F := 46); kernel_rfl; exact rfl; exact rfl; apply hpd _; rintro _ _ ⟨rfl, rfl⟩; (try simp only [List.eraseIdx_cons_succ]); (try simp only [List.eraseIdx_cons_zero])))))) <;> (try (refine G_op1 ?_; ((apply K1_ev; exact rfl; ((focus (exact E_move rfl))))))) <;> (try (refine G_op1 ?_; ((apply K1_ev; exact rfl; ((focus (exact E_extractL rfl rfl))))))) <;> (try (refine G_op1 ?_; ((apply K1_ev; exact rfl; ((focus (exact E_extractL rfl rfl))))))) <;> (try (refine G_op1 ?_; ((refine K1_alloc (t := 32) rfl Tryd.zeroValue32 ?_; intro nb hnb; (try simp only [Value.cells]))))) <;> (try (refine G_op1 ?_; (((apply K1_storeW (t := 32); exact rfl; exact rfl; (((focus (repeat (exact fd0))))); kernel_rfl; (((focus (exact rfl)))); (((focus (exact rfl)))); (try simp only [List.set_cons_succ]); (try simp only [List.set_cons_zero])))))) <;> (try (refine G_op1 ?_; ((apply K1_ev; exact rfl; ((focus (exact E_assign rfl))))))) <;> (try (refine G_nil ?_)))) | ((refine G_region (id := 17) ?_ <;> (try (refine G_op1 ?_; ((apply K1_ev; exact rfl; ((focus (exact E_move rfl))))))) <;> (try (refine G_op1 ?_; ((apply K1_ev; exact rfl; ((focus ((apply E_bin (op := .neq) (t := 33); exact rfl; exact rfl; exact rfl; ((focus ((refine rb_neq_t ?_; first | (with_reducible assumption) | (decide; done) | omega)))))))))))) <;> (try (refine G_nil ?_)))) | ((refine G_region (id := 18) ?_ <;> (try (refine G_op1 ?_; ((apply K1_ev; exact rfl; ((focus (exact E_move rfl))))))) <;> (try (refine G_op1 ?_; ((apply K1_ev; exact rfl; ((focus ((apply E_bin (op := .add) (t := 3); exact rfl; exact rfl; exact rfl; ((focus ((apply rb_add; (((focus ((try simp only [Int.reduceAdd]); (try simp only [Int.reduceSub]); (try simp only [Int.reduceMul]); (try simp only [Int.reduceMod]); (try simp only [Int.reduceDiv]); exact rfl)))); (((focus (refine IntWalk.i64_in _ ?_; omega)))))))))))))))) <;> (try (refine G_op1 ?_; ((apply K1_ev; exact rfl; ((focus (exact E_move rfl))))))) <;> (try (refine G_op1 ?_; ((apply K1_ev; exact rfl; ((focus (exact E_assign rfl))))))) <;> (try (refine G_op1 ?_; ((apply K1_ev; exact rfl; ((focus (exact E_assign rfl))))))) <;> (try (refine G_op1 ?_; ((apply K1_ev; exact rfl; ((focus (exact E_assign rfl))))))) <;> (try (refine G_nil ?_)))))
        (refine G_done Tryd.results17 (.tmp rfl (.tmp rfl (.tmp rfl .nil))) ?_)
        refine ⟨_, ⟨.slice none 0 0, [], ?_, ?_, rfl⟩, by intro w H; refine H.sub ?_; (try simp only [List.cons_append, List.nil_append]); repeat (first | exact List.Sublist.refl _ | refine List.Sublist.cons_cons _ ?_ | refine List.Sublist.cons _ ?_ | refine List.sublist_append_of_sublist_right ?_)⟩
        · rw [hlx'.out, heq'.out]; rfl
        · rw [hlx'.out, heq'.out]; exact Own.nil _ _
end Go.Proofs.YtmicafpfkpnalaaDoor
