/- Lines, words, calls as data; scripts as texts: plain facts. -/
import Derived.Test.YtpdnigifoaoflaaDoorCut1
import Derived.Test.YtpdnigifoaoflaaDoorGj
import Derived.Test.YtpdnigifoaoflaaDoorLay2
import Derived.Lib.Fields
import Derived.Test.YtpdnigifoaoflaaDoorNamR
import Derived.Test.YtpdnigifoaoflaaDoorGb
import Derived.Test.YtpdnigifoaoflaaDoorGk
namespace Go.Proofs.YtpdnigifoaoflaaDoor
open Go Go.RowKit
theorem mB8_inj {a b : List UInt8} (h : mB8 a = mB8 b) : a = b := by rw [← lB_mB8 a, h, lB_mB8]
theorem tab_keep {P : Program} {w0 w : World} {L : List Blk} {n : String} {k : IntKind} {zs : List Int} (h : Lib.TabIs P w0 n k zs) (H : HP [] w0 w L) : Lib.TabIs P w n k zs := by
  unfold Lib.TabIs World.var? at h ⊢
  cases hg : P.globalNamed n with
  | none => rw [hg] at h; cases h
  | some g =>
    rw [hg] at h
    dsimp only [Option.bind_some] at h ⊢
    have hlt : g < w0.heap.size := by
      rcases Nat.lt_or_ge g w0.heap.size with h1 | h1
      · exact h1
      · rw [Array.getElem?_eq_none h1] at h; cases h
    rw [H.keep g hlt (by simp)]; exact h
theorem fields_c {w0 L} (hT : Lib.TabIs Tryd.prog w0 "strings.asciiSpace" .u8 Lib.asciiSpaceTab) (s : ByteArray) (hs : s.size ≤ 1000000) (ha : ∀ b ∈ lB s, b.toNat < 128) : Fn Tryd.prog 23 #[.string s] [] w0 L fun v L' => ∃ nb, v = .slice (some ⟨nb, 0, none⟩) (Lib.fields (lB s)).length (Lib.fields (lB s)).length ∧ ⟨true, nb, .cells (strs (Lib.fields (lB s))).toArray 9 (0, 0)⟩ :: L = L' :=
  .mk fun w H => (strings_Fields s w (by omega) (fun j b hj => ha b (List.mem_of_getElem? hj)) (tab_keep hT H)).mono fun e w' ⟨he, hw⟩ => ⟨_, _, he, ⟨_, rfl, rfl⟩, hw ▸ H.alloc _⟩
theorem strs_get {l : List (List UInt8)} {k : Nat} (h : k < l.length) : (strs l).toArray.toList[k]? = some (.string (mB8 l[k])) := by
  show (strs l)[k]? = _
  simp [strs, h]
abbrev LB (nl : Nat) (l : List (List UInt8)) : Blk := ⟨true, nl, .cells (strs l).toArray 9 (0, 0)⟩
theorem Fn.permI {P : Program} {F : FuncId} {args : Array Value} {S : List Nat} {w0 : World} {L1 L2 : List Blk} {Q : Value → Prop} (hp : L1.Perm L2) (hc : Fn P F args S w0 L2 fun v L' => Q v ∧ L2 = L') : Fn P F args S w0 L1 fun v L' => Q v ∧ L1 = L' :=
  .mk fun w H => (hc.out w (H.perm hp)).mono fun e w' ⟨v, L', he, ⟨hQ, hL⟩, H'⟩ => ⟨v, L1, he, ⟨hQ, rfl⟩, (hL ▸ H').perm hp.symm⟩
theorem perm_mid2 {α : Type} (a : α) (e : List α) (b m : α) (l : List α) : (a :: (e ++ (b :: m :: l))).Perm (m :: a :: (e ++ (b :: l))) := by
  have h : (e ++ (b :: m :: l)).Perm (m :: (e ++ (b :: l))) := by
    have := List.perm_middle (l₁ := e ++ [b]) (a := m) (l₂ := l)
    simpa using this
  exact (h.cons a).trans (.swap _ _ _)
theorem own_sl {E size : Nat} {v : Value} {n : Nat} {xs : List Value} {e : List Blk} (h : Own E size v n xs e) : ∃ a c, v = .slice a n c := by
  rcases own_cases h with ⟨rfl, rfl, -, -⟩ | ⟨g, cap, cur, rfl, -⟩
  · exact ⟨_, _, rfl⟩
  · exact ⟨_, _, rfl⟩
theorem headF_mem (c : UInt8) (p : List UInt8) : ∀ b ∈ headF c p, b ∈ p := by
  unfold headF
  by_cases h0 : p.count c = 0
  · rw [ix_none h0]; exact fun b h => h
  · obtain ⟨m, h1, h2, h3, h4⟩ := ix_some (c := c) (l := p) (by omega)
    rw [h3, List.headD_cons]
    exact fun b h => List.mem_of_mem_take h
theorem splitC_mem (c : UInt8) (l : List UInt8) : ∀ x ∈ splitC c l, ∀ b ∈ x, b ∈ l := by
  induction l with
  | nil => intro x hx b hb; rw [splitC, List.mem_singleton] at hx; subst hx; cases hb
  | cons a r ih =>
    intro x hx b hb
    rw [splitC] at hx
    have hne := splitC_ne c r
    split at hx
    · rcases List.mem_cons.1 hx with rfl | hx
      · cases hb
      · exact List.mem_cons_of_mem _ (ih x hx b hb)
    · cases hsr : splitC c r with
      | nil => exact absurd hsr hne
      | cons y ys =>
        rw [hsr] at hx ih
        rw [List.headD_cons, List.tail_cons] at hx
        rcases List.mem_cons.1 hx with rfl | hx
        · rcases List.mem_cons.1 hb with rfl | hb
          · exact List.mem_cons_self ..
          · exact List.mem_cons_of_mem _ (ih y (List.mem_cons_self ..) b hb)
        · exact List.mem_cons_of_mem _ (ih x (List.mem_cons_of_mem _ hx) b hb)
theorem fieldsGo_sz : ∀ (l cur : List UInt8), (∀ x ∈ Lib.fieldsGo cur l, x.length ≤ cur.length + l.length) ∧ (Lib.fieldsGo cur l).length ≤ cur.length + l.length := by
  intro l
  induction l with
  | nil =>
    intro cur
    rw [Lib.fieldsGo]
    cases cur with
    | nil => simp
    | cons a r => simp
  | cons b r ih =>
    intro cur
    rw [Lib.fieldsGo]
    by_cases hb : Lib.isSp b = true
    · rw [if_pos hb]
      obtain ⟨h1, h2⟩ := ih []
      cases cur with
      | nil =>
        rw [if_pos (by rfl)]
        exact ⟨fun x hx => by have := h1 x hx; simp only [List.length_cons, List.length_nil] at *; omega, by simp only [List.length_cons, List.length_nil] at *; omega⟩
      | cons a s =>
        rw [if_neg (by simp)]
        refine ⟨fun x hx => ?_, by simp only [List.length_cons, List.length_nil] at *; omega⟩
        rcases List.mem_cons.1 hx with rfl | hx
        · simp only [List.length_cons]; omega
        · have := h1 x hx; simp only [List.length_cons, List.length_nil] at *; omega
    · rw [if_neg hb]
      obtain ⟨h1, h2⟩ := ih (cur ++ [b])
      exact ⟨fun x hx => by have := h1 x hx; simp only [List.length_append, List.length_cons, List.length_nil] at *; omega, by simp only [List.length_append, List.length_cons, List.length_nil] at *; omega⟩
theorem fields_sz (l : List UInt8) : (∀ x ∈ Lib.fields l, x.length ≤ l.length) ∧ (Lib.fields l).length ≤ l.length := by
  have := fieldsGo_sz l []
  simpa [Lib.fields] using this
theorem splitC_line {c : UInt8} {a b : List UInt8} (h : c ∉ a) : splitC c (a ++ c :: b) = a :: splitC c b := by
  induction a with
  | nil => rw [List.nil_append, splitC, if_pos rfl]
  | cons x r ih =>
    have hx : ¬ x = c := fun e => h (e ▸ List.mem_cons_self ..)
    rw [List.cons_append, splitC, if_neg hx, ih (fun hm => h (List.mem_cons_of_mem _ hm))]; rfl
theorem splitC_lines (X : List (List UInt8)) (h : ∀ t ∈ X, (10 : UInt8) ∉ t) (rest : List UInt8) : splitC 10 (X.flatMap (fun t => t ++ [10]) ++ rest) = X ++ splitC 10 rest := by
  induction X with
  | nil => rfl
  | cons t r ih =>
    rw [List.flatMap_cons, List.append_assoc, List.append_assoc, List.singleton_append, splitC_line (h t (List.mem_cons_self ..)), ih (fun q hq => h q (List.mem_cons_of_mem _ hq))]; rfl
theorem map_at {α β : Type} {f g : α → β} {l : List α} (h : l.map f = l.map g) {x : α} (hx : x ∈ l) : f x = g x := by
  induction l with
  | nil => cases hx
  | cons a r ih =>
    rw [List.map_cons, List.map_cons] at h
    injection h with h1 h2
    rcases List.mem_cons.1 hx with rfl | hx
    · exact h1
    · exact ih h2 hx
theorem fieldsGo_word (w cur r : List UInt8) (h : ∀ b ∈ w, Lib.isSp b = false) : Lib.fieldsGo cur (w ++ r) = Lib.fieldsGo (cur ++ w) r := by
  induction w generalizing cur with
  | nil => rw [List.nil_append, List.append_nil]
  | cons b w ih =>
    rw [List.cons_append, Lib.fieldsGo_more cur b _ (h b (List.mem_cons_self ..)), ih _ (fun c hc => h c (List.mem_cons_of_mem _ hc)), List.append_assoc]; rfl
theorem Fn.weak {P : Program} {F : FuncId} {args : Array Value} {S : List Nat} {w0 : World} {L1 L2 : List Blk} {R : Value → List Blk → Prop} (hL : ∀ w, HP S w0 w L1 → HP S w0 w L2) (hc : Fn P F args S w0 L2 R) : Fn P F args S w0 L1 R := .mk fun w H => hc.out w (hL w H)
theorem fm_at {α : Type} {f : α → List Value} {m : Nat} (hf : ∀ x, (f x).length = m) (l : List α) (k : Nat) (h : k < l.length) : ((l.flatMap f).drop (k * m)).take m = f l[k] := by
  induction l generalizing k with
  | nil => simp at h
  | cons x r ih =>
    cases k with
    | zero =>
      rw [List.flatMap_cons, Nat.zero_mul, List.drop_zero, List.take_append_of_le_length (by rw [hf]; exact Nat.le_refl _), List.take_of_length_le (by rw [hf]; exact Nat.le_refl _)]; rfl
    | succ k =>
      rw [List.flatMap_cons, List.drop_append, List.drop_eq_nil_of_le (by rw [hf, Nat.succ_mul]; omega), List.nil_append, hf, show (k + 1) * m - m = k * m by rw [Nat.succ_mul]; omega, ih k (by simpa using h)]
      rfl
structure CallD where
  task : Int
  frn : Bool
  num : Int
  n0 : Int
  n1 : Int
  t0 : ByteArray
  t1 : ByteArray
def CallD.cells (c : CallD) : List Value := [.int .u8 c.task, .bool c.frn, .int .u32 c.num, .int .u64 c.n0, .int .u64 c.n1, .string c.t0, .string c.t1]
structure CallD.ok (c : CallD) : Prop where
  task : 0 ≤ c.task ∧ c.task < 256
  num : 0 ≤ c.num ∧ c.num < 4294967296
  n0 : 0 ≤ c.n0 ∧ c.n0 < 18446744073709551616
  n1 : 0 ≤ c.n1 ∧ c.n1 < 18446744073709551616
  t0 : c.t0.size ≤ maxLen
  t1 : c.t1.size ≤ maxLen
def light (c : CallD) : Bool := decide (c.t0.size ≤ 300) && decide (c.t1.size ≤ 300)
theorem flatG_at {X : Type} {cells : X → List Value} {m : Nat} (hm : ∀ x, (cells x).length = m) (l : List X) (k : Nat) (h : k < l.length) : ((l.flatMap cells).drop (k * m)).take m = cells l[k] := by
  induction l generalizing k with
  | nil => simp at h
  | cons i l ih =>
    cases k with
    | zero => simp only [List.flatMap_cons, Nat.zero_mul, List.drop_zero, List.getElem_cons_zero]; rw [← hm i]; exact List.take_left
    | succ k =>
      have := ih k (by simpa using h)
      simp only [List.flatMap_cons, List.getElem_cons_succ]
      rw [Nat.add_mul, Nat.one_mul, Nat.add_comm, ← hm i, List.drop_length_add_append, hm i]; exact this
set_option maxRecDepth 100000 in
set_option maxHeartbeats 1000000 in
theorem light_c {S w0 L} (l : List CallD) (a : Option Addr) (len cap : Nat) (hlen : l.length = len) (hs : Sli L a len 7 (l.flatMap CallD.cells)) (hm : len ≤ maxLen) : Fn Tryd.prog 15 #[.slice a len cap] S w0 L fun v L' => v = .bool (l.all light) ∧ L = L' := by
  unfold maxLen at hm
  refine Fn1 Tryd.func15 Tryd.ntmps15 rfl rfl ?_
  repeat' (first | ((refine G_markb (id := 0) ?_)) | refine G_seq ?_ | refine G_then_n ?_ | ((refine G_region (id := 0) ?_ <;> (try (refine G_op1 ?_; ((apply K1_ev; exact rfl; ((focus (exact E_assign rfl))))))) <;> (try (refine G_nil ?_)))) | ((refine G_region (id := 1) ?_ <;> (try (refine G_op1 ?_; ((apply K1_ev; exact rfl; ((focus (exact E_move rfl))))))) <;> (try (refine G_op1 ?_; ((apply K1_ev; exact rfl; ((focus ((apply E_builtin; exact rfl; exact (fun _ => BigFrame.builtin_len ..); apply r_len_slice_e Tryd.underlying32; ((focus ((try simp only [Int.cast_ofNat_Int]); exact rfl))))))))))) <;> (try (refine G_op1 ?_; ((apply K1_ev; exact rfl; ((focus (exact E_move rfl))))))) <;> (try (refine G_nil ?_)))))
  refine ⟨?_⟩
  refine G_block ?_
  refine G_loopk (γ := Nat) (fun k => k ≤ len ∧ l.all light = (l.drop k).all light) (fun k => len - k) (fun k => [(7, .int .i64 (k : Nat))]) [(5, _), (6, _)]
    (fun k => L) 0 (.cons rfl (.cons rfl .nil)) ⟨Nat.zero_le _, rfl⟩ (by ((focus (repeat (first | exact Sub.nil | refine Sub.cons rfl ?_ | (refine Sub.cons (congrArg some ?_) ?_; (focus go_num))))))) (fun _ H => H) ?_
  rintro k ⟨(hk : k ≤ len), hgo⟩
  have hgo' := Lib.hid hgo
  clear hgo
  simp only [List.cons_append, List.nil_append]
  by_cases hlt : k < len
  · obtain ⟨j, q, b, off, cs, T, fr, rfl, hj, hsz, hx⟩ := hs.elem hlt
    rw [flatG_at (cells := CallD.cells) (m := 7) (fun _ => rfl) l k (by omega)] at hx
    have hg := hgo'.out
    rw [List.drop_eq_getElem_cons (by omega), List.all_cons] at hg
    generalize l[k]'(by omega) = c at *
    obtain ⟨ct, cf, cn, c0, c1, t0, t1⟩ := c
    simp only [CallD.cells, light] at hx hg
    have hg' := Lib.hid hg
    clear hg
    repeat' (first | refine G_seq ?_ | refine G_then_n ?_ | refine G_cut_n ?_ | refine G_cut_r ?_ | refine G_then_r ?_ | refine G_blk_n ?_ | refine G_blk_r ?_ | refine G_block ?_ | refine G_skip ?_ | refine G_ret ?_ | refine G_cond_t rfl ?_ | ((refine G_region (id := 2) ?_ <;> (try (refine G_op1 ?_; ((apply K1_ev; exact rfl; ((focus ((apply E_bin (op := .lss) (t := 3); exact rfl; exact rfl; exact rfl; ((focus ((refine rb_lss_t ?_; first | (with_reducible assumption) | (decide; done) | omega)))))))))))) <;> (try (refine G_nil ?_)))) | ((refine G_region (id := 3) ?_ <;> (try (refine G_op1 ?_; ((apply K1_ev; exact rfl; ((focus ((apply E_indexAddr; exact rfl; exact rfl; ((focus (apply r_ixs Tryd.underlying32 sz_52; (focus omega); (focus omega); ((focus ((try simp only [Int.toNat_natCast]); (try simp only [Int.reduceToNat]); (try simp only [Nat.mul_one]); (try simp only [Nat.zero_mul]); (try simp only [Nat.reduceMul]); (try simp only [Nat.zero_add]); (try simp only [Nat.add_zero]); (try simp only [Nat.reduceAdd]); exact rfl)))))))))))))) <;> (try (refine G_op1 ?_; ((apply K1_ev; exact rfl; ((focus ((apply E_loadA (t := 52); exact rfl; (((focus (repeat (with_reducible assumption))))); kernel_rfl; kernel_rfl; exact sz_52; (((focus (with_reducible assumption)))); (((focus (with_reducible assumption)))))))))))) <;> (try (refine G_op1 ?_; ((refine K1_alloc (t := 52) rfl Tryd.zeroValue52 ?_; intro nb hnb; (try simp only [Value.cells]))))) <;> (try (refine G_op1 ?_; (((apply K1_storeW (t := 52); exact rfl; exact rfl; (((focus (repeat (exact fd0))))); kernel_rfl; (((focus (exact rfl)))); (((focus (exact rfl)))); (try simp only [List.set_cons_succ]); (try simp only [List.set_cons_zero])))))) <;> (try (refine G_nil ?_)))) | ((refine G_region (id := 4) ?_ <;> (try (refine G_op1 ?_; ((apply K1_ev; exact rfl; ((focus ((apply E_fieldAddr; exact rfl; ((focus (apply r_fieldAt fo_52_4; (try simp only [Int.toNat_natCast]); (try simp only [Int.reduceToNat]); (try simp only [Nat.mul_one]); (try simp only [Nat.zero_mul]); (try simp only [Nat.reduceMul]); (try simp only [Nat.zero_add]); (try simp only [Nat.add_zero]); (try simp only [Nat.reduceAdd]); exact rfl))))))))))) <;> (try (refine G_op1 ?_; ((apply K1_ev; exact rfl; ((focus ((apply E_indexAddr; exact rfl; exact rfl; ((focus (apply r_ixa Tryd.underlying50 sz_9; (focus omega); (focus omega); ((focus ((try simp only [Int.toNat_natCast]); (try simp only [Int.reduceToNat]); (try simp only [Nat.mul_one]); (try simp only [Nat.zero_mul]); (try simp only [Nat.reduceMul]); (try simp only [Nat.zero_add]); (try simp only [Nat.add_zero]); (try simp only [Nat.reduceAdd]); exact rfl)))))))))))))) <;> (try (refine G_op1 ?_; ((apply K1_ev; exact rfl; ((focus ((apply E_load1 (t := 9); exact rfl; (((focus (repeat (exact fd0))))); kernel_rfl; kernel_rfl; (((focus (exact rfl)))))))))))) <;> (try (refine G_op1 ?_; ((apply K1_ev; exact rfl; ((focus (exact E_builtin rfl (fun _ => BigFrame.builtin_len ..) (r_len_string Tryd.underlying9)))))))) <;> (try (refine G_op1 ?_; ((apply K1_ev; exact rfl; ((focus ((apply E_bin (op := .gtr) (t := 3); exact rfl; exact rfl; exact rfl; ((focus (exact rb_gtr))))))))))) <;> (try (refine G_op1 ?_; ((apply K1_ev; exact rfl; ((focus (exact E_move rfl))))))) <;> (try (refine G_op1 ?_; ((((refine K1_guard_d rfl rfl (fun hc => ?_) (fun hc => ?_))) <;> (try subst hc) <;> (first | refine K1_no rfl rfl rfl rfl ?_ | ((refine K1_yes rfl rfl rfl ?_; ((apply K1_ev; exact rfl; ((focus ((apply E_fieldAddr; exact rfl; ((focus (apply r_fieldAt fo_52_4; (try simp only [Int.toNat_natCast]); (try simp only [Int.reduceToNat]); (try simp only [Nat.mul_one]); (try simp only [Nat.zero_mul]); (try simp only [Nat.reduceMul]); (try simp only [Nat.zero_add]); (try simp only [Nat.add_zero]); (try simp only [Nat.reduceAdd]); exact rfl)))))))))))))))) <;> (try (refine G_op1 ?_; (first | refine K1_no rfl rfl rfl rfl ?_ | ((refine K1_yes rfl rfl rfl ?_; ((apply K1_ev; exact rfl; ((focus ((apply E_indexAddr; exact rfl; exact rfl; ((focus (apply r_ixa Tryd.underlying50 sz_9; (focus omega); (focus omega); ((focus ((try simp only [Int.toNat_natCast]); (try simp only [Int.reduceToNat]); (try simp only [Nat.mul_one]); (try simp only [Nat.zero_mul]); (try simp only [Nat.reduceMul]); (try simp only [Nat.zero_add]); (try simp only [Nat.add_zero]); (try simp only [Nat.reduceAdd]); exact rfl))))))))))))))))) <;> (try (refine G_op1 ?_; (first | refine K1_no rfl rfl rfl rfl ?_ | ((refine K1_yes rfl rfl rfl ?_; ((apply K1_ev; exact rfl; ((focus ((apply E_load1 (t := 9); exact rfl; (((focus (repeat (exact fd0))))); kernel_rfl; kernel_rfl; (((focus (exact rfl))))))))))))))) <;> (try (refine G_op1 ?_; (first | refine K1_no rfl rfl rfl rfl ?_ | ((refine K1_yes rfl rfl rfl ?_; ((apply K1_ev; exact rfl; ((focus (exact E_builtin rfl (fun _ => BigFrame.builtin_len ..) (r_len_string Tryd.underlying9))))))))))) <;> (try (refine G_op1 ?_; (first | refine K1_no rfl rfl rfl rfl ?_ | ((refine K1_yes rfl rfl rfl ?_; ((apply K1_ev; exact rfl; ((focus ((apply E_bin (op := .gtr) (t := 3); exact rfl; exact rfl; exact rfl; ((focus (exact rb_gtr)))))))))))))) <;> (try (refine G_op1 ?_; ((apply K1_ev; exact rfl; ((focus (exact E_pick rfl rfl))))))) <;> (try (refine G_nil ?_)))) | ((refine G_region (id := 5) ?_ <;> (try (refine G_op1 ?_; ((apply K1_ev; exact rfl; ((focus (exact E_assign rfl))))))) <;> (try (refine G_nil ?_)))) | ((refine G_region (id := 6) ?_ <;> (try (refine G_op1 ?_; ((apply K1_ev; exact rfl; ((focus ((apply E_bin (op := .add) (t := 3); exact rfl; exact rfl; exact rfl; ((focus ((apply rb_add; (((focus ((try simp only [Int.reduceAdd]); (try simp only [Int.reduceSub]); (try simp only [Int.reduceMul]); (try simp only [Int.reduceMod]); (try simp only [Int.reduceDiv]); exact rfl)))); (((focus (refine IntWalk.i64_in _ ?_; omega)))))))))))))))) <;> (try (refine G_op1 ?_; ((apply K1_ev; exact rfl; ((focus (exact E_move rfl))))))) <;> (try (refine G_nil ?_)))) | ((((refine G_cond_d rfl (fun hc => ?_) (fun hc => ?_))) <;> (try subst hc))))
    all_goals first
      | ((refine G_done Tryd.results15 (.tmp rfl .nil) ?_)
         refine ⟨_, ⟨?_, rfl⟩, by intro w H; refine H.sub ?_; (try simp only [List.cons_append, List.nil_append]); repeat (first | exact List.Sublist.refl _ | refine List.Sublist.cons_cons _ ?_ | refine List.Sublist.cons _ ?_ | refine List.sublist_append_of_sublist_right ?_)⟩
         rw [hg'.out]
         refine congrArg Value.bool ?_
         have e : (decide (t0.size ≤ 300) && decide (t1.size ≤ 300)) = false := by simp; omega
         rw [e]; rfl)
      | (refine G_meet (k + 1) ⟨⟨by show k + 1 ≤ _; omega, ?_⟩, by show _ - (k + 1) < _ - k; omega⟩ (by ((focus (repeat (first | exact Sub.nil | refine Sub.cons rfl ?_ | (refine Sub.cons (congrArg some ?_) ?_; (focus go_num))))))) (fun _ H => H.tail)
         have e : (decide (t0.size ≤ 300) && decide (t1.size ≤ 300)) = true := by simp; omega
         rw [hg'.out, e]; rfl)
  · obtain rfl : k = len := by omega
    repeat' (first | refine G_seq ?_ | refine G_then_n ?_ | refine G_cut_x ?_ | refine G_then_x ?_ | refine G_blk_x ?_ | refine G_exit ?_ | refine G_ret ?_ | refine G_cond_f rfl ?_ | ((refine G_region (id := 2) ?_ <;> (try (refine G_op1 ?_; ((apply K1_ev; exact rfl; ((focus ((apply E_bin (op := .lss) (t := 3); exact rfl; exact rfl; exact rfl; ((focus ((refine rb_lss_f ?_; first | (with_reducible assumption) | (decide; done) | omega)))))))))))) <;> (try (refine G_nil ?_)))) | ((refine G_region (id := 7) ?_ <;> (try (refine G_op1 ?_; ((apply K1_ev; exact rfl; ((focus (exact E_assign rfl))))))) <;> (try (refine G_nil ?_)))))
    (refine G_done Tryd.results15 (.tmp rfl .nil) ?_)
    refine ⟨_, ⟨?_, rfl⟩, by intro w H; refine H.sub ?_; (try simp only [List.cons_append, List.nil_append]); repeat (first | exact List.Sublist.refl _ | refine List.Sublist.cons_cons _ ?_ | refine List.Sublist.cons _ ?_ | refine List.sublist_append_of_sublist_right ?_)⟩
    rw [hgo'.out, List.drop_of_length_le (by omega)]; rfl
def clsT (n : Int) : Nat := if n ∈ ([2, 4, 77, 78, 80, 83, 84, 87, 89, 166] : List Int) then 1 else if n ∈ ([82, 86, 88, 165] : List Int) then 2 else if n = 1 then 3 else 0
def tsel (c : Nat) (arg : Int) : Bool := (decide (arg = 0) && (c == 1 || c == 2)) || (decide (arg = 1) && (c == 2 || c == 3))
theorem clsT_none {n : Int} (h : cnumF n clls = none) : clsT n = 0 := by
  by_cases h1 : n ∈ ([2, 4, 77, 78, 80, 83, 84, 87, 89, 166] : List Int)
  · simp only [List.mem_cons, List.not_mem_nil, or_false] at h1
    rcases h1 with rfl | rfl | rfl | rfl | rfl | rfl | rfl | rfl | rfl | rfl
    all_goals
      exfalso
      have h2 := congrArg Option.isSome h
      exact Bool.noConfusion (h2.symm.trans (by kernel_rfl) : (Option.isSome (none : Option Cll)) = true)
  by_cases h2 : n ∈ ([82, 86, 88, 165] : List Int)
  · simp only [List.mem_cons, List.not_mem_nil, or_false] at h2
    rcases h2 with rfl | rfl | rfl | rfl
    all_goals
      exfalso
      have h2 := congrArg Option.isSome h
      exact Bool.noConfusion (h2.symm.trans (by kernel_rfl) : (Option.isSome (none : Option Cll)) = true)
  by_cases h3 : n = 1
  · subst h3
    exfalso
    have h2 := congrArg Option.isSome h
    exact Bool.noConfusion (h2.symm.trans (by kernel_rfl) : (Option.isSome (none : Option Cll)) = true)
  unfold clsT
  rw [if_neg h1, if_neg h2, if_neg h3]
set_option maxRecDepth 100000 in
set_option maxHeartbeats 2000000 in
theorem textu_c {S w0 L} (n : Int) (hn : 0 ≤ n ∧ n < 4294967296) : Fn Tryd.prog 49 #[.int .u32 n] S w0 L fun v L' => v = .agg #[.bool (clsT n == 1 || clsT n == 2), .bool (clsT n == 2 || clsT n == 3)] ∧ L = L' := by
  by_cases h1 : n ∈ ([2, 4, 77, 78, 80, 83, 84, 87, 89, 166] : List Int)
  · have e : clsT n = 1 := by unfold clsT; rw [if_pos h1]
    rw [e]
    simp only [List.mem_cons, List.not_mem_nil, or_false] at h1
    clear e
    rcases h1 with rfl | rfl | rfl | rfl | rfl | rfl | rfl | rfl | rfl | rfl
    all_goals
      refine Fn1 Tryd.func49 Tryd.ntmps49 rfl rfl ?_
      repeat' (first | refine G_seq ?_ | refine G_then_n ?_ | refine G_then_r ?_ | refine G_blk_r ?_ | refine G_block ?_ | refine G_skip ?_ | refine G_ret ?_ | refine G_cond_t rfl ?_ | refine G_cond_f rfl ?_ | ((refine G_region (id := 0) ?_ <;> (try (refine G_op1 ?_; ((refine K1_alloc (t := 124) rfl Tryd.zeroValue124 ?_; intro nb hnb; (try simp only [Value.cells]))))) <;> (try (refine G_nil ?_)))) | ((refine G_region (id := 1) ?_ <;> (try (refine G_op1 ?_; ((apply K1_ev; exact rfl; ((focus (exact E_move rfl))))))) <;> (try (refine G_nil ?_)))) | ((refine G_region (id := 2) ?_ <;> (try (refine G_op1 ?_; ((apply K1_ev; exact rfl; ((focus ((apply E_bin (op := .eql) (t := 47); exact rfl; exact rfl; exact rfl; ((focus (first | ((refine rb_eql_t' ?_; first | rfl | (with_reducible assumption) | (decide; done) | omega)) | ((refine rb_eql_f ?_; first | (with_reducible assumption) | (decide; done) | omega))))))))))))) <;> (try (refine G_op1 ?_; ((apply K1_ev; exact rfl; ((focus (exact E_assign rfl))))))) <;> (try (refine G_nil ?_)))) | ((refine G_region (id := 3) ?_ <;> (try (refine G_op1 ?_; ((apply K1_ev; exact rfl; ((focus ((apply E_bin (op := .eql) (t := 47); exact rfl; exact rfl; exact rfl; ((focus (first | ((refine rb_eql_t' ?_; first | rfl | (with_reducible assumption) | (decide; done) | omega)) | ((refine rb_eql_f ?_; first | (with_reducible assumption) | (decide; done) | omega))))))))))))) <;> (try (refine G_op1 ?_; ((apply K1_ev; exact rfl; ((focus (exact E_assign rfl))))))) <;> (try (refine G_nil ?_)))) | ((refine G_region (id := 4) ?_ <;> (try (refine G_op1 ?_; ((apply K1_ev; exact rfl; ((focus ((apply E_bin (op := .eql) (t := 47); exact rfl; exact rfl; exact rfl; ((focus (first | ((refine rb_eql_t' ?_; first | rfl | (with_reducible assumption) | (decide; done) | omega)) | ((refine rb_eql_f ?_; first | (with_reducible assumption) | (decide; done) | omega))))))))))))) <;> (try (refine G_op1 ?_; ((apply K1_ev; exact rfl; ((focus (exact E_assign rfl))))))) <;> (try (refine G_nil ?_)))) | ((refine G_region (id := 5) ?_ <;> (try (refine G_op1 ?_; ((apply K1_ev; exact rfl; ((focus ((apply E_bin (op := .eql) (t := 47); exact rfl; exact rfl; exact rfl; ((focus (first | ((refine rb_eql_t' ?_; first | rfl | (with_reducible assumption) | (decide; done) | omega)) | ((refine rb_eql_f ?_; first | (with_reducible assumption) | (decide; done) | omega))))))))))))) <;> (try (refine G_op1 ?_; ((apply K1_ev; exact rfl; ((focus (exact E_assign rfl))))))) <;> (try (refine G_nil ?_)))) | ((refine G_region (id := 6) ?_ <;> (try (refine G_op1 ?_; ((apply K1_ev; exact rfl; ((focus ((apply E_bin (op := .eql) (t := 47); exact rfl; exact rfl; exact rfl; ((focus (first | ((refine rb_eql_t' ?_; first | rfl | (with_reducible assumption) | (decide; done) | omega)) | ((refine rb_eql_f ?_; first | (with_reducible assumption) | (decide; done) | omega))))))))))))) <;> (try (refine G_op1 ?_; ((apply K1_ev; exact rfl; ((focus (exact E_assign rfl))))))) <;> (try (refine G_nil ?_)))) | ((refine G_region (id := 7) ?_ <;> (try (refine G_op1 ?_; ((apply K1_ev; exact rfl; ((focus ((apply E_bin (op := .eql) (t := 47); exact rfl; exact rfl; exact rfl; ((focus (first | ((refine rb_eql_t' ?_; first | rfl | (with_reducible assumption) | (decide; done) | omega)) | ((refine rb_eql_f ?_; first | (with_reducible assumption) | (decide; done) | omega))))))))))))) <;> (try (refine G_op1 ?_; ((apply K1_ev; exact rfl; ((focus (exact E_assign rfl))))))) <;> (try (refine G_nil ?_)))) | ((refine G_region (id := 8) ?_ <;> (try (refine G_op1 ?_; ((apply K1_ev; exact rfl; ((focus ((apply E_bin (op := .eql) (t := 47); exact rfl; exact rfl; exact rfl; ((focus (first | ((refine rb_eql_t' ?_; first | rfl | (with_reducible assumption) | (decide; done) | omega)) | ((refine rb_eql_f ?_; first | (with_reducible assumption) | (decide; done) | omega))))))))))))) <;> (try (refine G_op1 ?_; ((apply K1_ev; exact rfl; ((focus (exact E_assign rfl))))))) <;> (try (refine G_nil ?_)))) | ((refine G_region (id := 9) ?_ <;> (try (refine G_op1 ?_; ((apply K1_ev; exact rfl; ((focus ((apply E_bin (op := .eql) (t := 47); exact rfl; exact rfl; exact rfl; ((focus (first | ((refine rb_eql_t' ?_; first | rfl | (with_reducible assumption) | (decide; done) | omega)) | ((refine rb_eql_f ?_; first | (with_reducible assumption) | (decide; done) | omega))))))))))))) <;> (try (refine G_op1 ?_; ((apply K1_ev; exact rfl; ((focus (exact E_assign rfl))))))) <;> (try (refine G_nil ?_)))) | ((refine G_region (id := 10) ?_ <;> (try (refine G_op1 ?_; ((apply K1_ev; exact rfl; ((focus ((apply E_bin (op := .eql) (t := 47); exact rfl; exact rfl; exact rfl; ((focus (first | ((refine rb_eql_t' ?_; first | rfl | (with_reducible assumption) | (decide; done) | omega)) | ((refine rb_eql_f ?_; first | (with_reducible assumption) | (decide; done) | omega))))))))))))) <;> (try (refine G_op1 ?_; ((apply K1_ev; exact rfl; ((focus (exact E_assign rfl))))))) <;> (try (refine G_nil ?_)))) | ((refine G_region (id := 11) ?_ <;> (try (refine G_op1 ?_; ((apply K1_ev; exact rfl; ((focus ((apply E_bin (op := .eql) (t := 47); exact rfl; exact rfl; exact rfl; ((focus ((refine rb_eql_t' ?_; first | rfl | (with_reducible assumption) | (decide; done) | omega)))))))))))) <;> (try (refine G_op1 ?_; ((apply K1_ev; exact rfl; ((focus (exact E_assign rfl))))))) <;> (try (refine G_nil ?_)))) | ((refine G_region (id := 12) ?_ <;> (try (refine G_op1 ?_; ((apply K1_ev; exact rfl; ((focus (exact E_build (t := 124) (fun (vs : List (Nat × Value)) => (match vs with | [(_, x0), (_, x1)] => [x0, x1] | _ => [] : List Value)) rfl (fun w => by kernel_rfl)))); (try simp only [Value.cells]); (try simp only [List.cons_append]); (try simp only [List.nil_append]))))) <;> (try (refine G_op1 ?_; (((apply K1_storeW (t := 124); exact rfl; exact rfl; (((focus (repeat (exact fd0))))); kernel_rfl; (((focus (exact rfl)))); (((focus (exact rfl)))); (try simp only [List.set_cons_succ]); (try simp only [List.set_cons_zero])))))) <;> (try (refine G_nil ?_)))))
      (apply G_doneA Tryd.results49; exact rfl; (((focus (repeat (first | exact fd0 | (with_reducible assumption) | apply fdA | apply fdS))))); kernel_rfl; kernel_rfl; exact sz_124; ((focus (first | (with_reducible assumption) | exact rfl | (simp; done)))))
      exact ⟨_, ⟨rfl, rfl⟩, by intro w H; refine H.sub ?_; (try simp only [List.cons_append, List.nil_append]); repeat (first | exact List.Sublist.refl _ | refine List.Sublist.cons_cons _ ?_ | refine List.Sublist.cons _ ?_ | refine List.sublist_append_of_sublist_right ?_)⟩
  by_cases h2 : n ∈ ([82, 86, 88, 165] : List Int)
  · have e : clsT n = 2 := by unfold clsT; rw [if_neg h1, if_pos h2]
    rw [e]
    simp only [List.mem_cons, List.not_mem_nil, or_false] at h2
    clear e h1
    rcases h2 with rfl | rfl | rfl | rfl
    all_goals
      refine Fn1 Tryd.func49 Tryd.ntmps49 rfl rfl ?_
      repeat' (first | refine G_seq ?_ | refine G_then_n ?_ | refine G_then_r ?_ | refine G_blk_r ?_ | refine G_block ?_ | refine G_skip ?_ | refine G_ret ?_ | refine G_cond_t rfl ?_ | refine G_cond_f rfl ?_ | ((refine G_region (id := 0) ?_ <;> (try (refine G_op1 ?_; ((refine K1_alloc (t := 124) rfl Tryd.zeroValue124 ?_; intro nb hnb; (try simp only [Value.cells]))))) <;> (try (refine G_nil ?_)))) | ((refine G_region (id := 1) ?_ <;> (try (refine G_op1 ?_; ((apply K1_ev; exact rfl; ((focus (exact E_move rfl))))))) <;> (try (refine G_nil ?_)))) | ((refine G_region (id := 2) ?_ <;> (try (refine G_op1 ?_; ((apply K1_ev; exact rfl; ((focus ((apply E_bin (op := .eql) (t := 47); exact rfl; exact rfl; exact rfl; ((focus ((refine rb_eql_f ?_; first | (with_reducible assumption) | (decide; done) | omega)))))))))))) <;> (try (refine G_op1 ?_; ((apply K1_ev; exact rfl; ((focus (exact E_assign rfl))))))) <;> (try (refine G_nil ?_)))) | ((refine G_region (id := 3) ?_ <;> (try (refine G_op1 ?_; ((apply K1_ev; exact rfl; ((focus ((apply E_bin (op := .eql) (t := 47); exact rfl; exact rfl; exact rfl; ((focus ((refine rb_eql_f ?_; first | (with_reducible assumption) | (decide; done) | omega)))))))))))) <;> (try (refine G_op1 ?_; ((apply K1_ev; exact rfl; ((focus (exact E_assign rfl))))))) <;> (try (refine G_nil ?_)))) | ((refine G_region (id := 4) ?_ <;> (try (refine G_op1 ?_; ((apply K1_ev; exact rfl; ((focus ((apply E_bin (op := .eql) (t := 47); exact rfl; exact rfl; exact rfl; ((focus ((refine rb_eql_f ?_; first | (with_reducible assumption) | (decide; done) | omega)))))))))))) <;> (try (refine G_op1 ?_; ((apply K1_ev; exact rfl; ((focus (exact E_assign rfl))))))) <;> (try (refine G_nil ?_)))) | ((refine G_region (id := 5) ?_ <;> (try (refine G_op1 ?_; ((apply K1_ev; exact rfl; ((focus ((apply E_bin (op := .eql) (t := 47); exact rfl; exact rfl; exact rfl; ((focus ((refine rb_eql_f ?_; first | (with_reducible assumption) | (decide; done) | omega)))))))))))) <;> (try (refine G_op1 ?_; ((apply K1_ev; exact rfl; ((focus (exact E_assign rfl))))))) <;> (try (refine G_nil ?_)))) | ((refine G_region (id := 6) ?_ <;> (try (refine G_op1 ?_; ((apply K1_ev; exact rfl; ((focus ((apply E_bin (op := .eql) (t := 47); exact rfl; exact rfl; exact rfl; ((focus ((refine rb_eql_f ?_; first | (with_reducible assumption) | (decide; done) | omega)))))))))))) <;> (try (refine G_op1 ?_; ((apply K1_ev; exact rfl; ((focus (exact E_assign rfl))))))) <;> (try (refine G_nil ?_)))) | ((refine G_region (id := 7) ?_ <;> (try (refine G_op1 ?_; ((apply K1_ev; exact rfl; ((focus ((apply E_bin (op := .eql) (t := 47); exact rfl; exact rfl; exact rfl; ((focus ((refine rb_eql_f ?_; first | (with_reducible assumption) | (decide; done) | omega)))))))))))) <;> (try (refine G_op1 ?_; ((apply K1_ev; exact rfl; ((focus (exact E_assign rfl))))))) <;> (try (refine G_nil ?_)))) | ((refine G_region (id := 8) ?_ <;> (try (refine G_op1 ?_; ((apply K1_ev; exact rfl; ((focus ((apply E_bin (op := .eql) (t := 47); exact rfl; exact rfl; exact rfl; ((focus ((refine rb_eql_f ?_; first | (with_reducible assumption) | (decide; done) | omega)))))))))))) <;> (try (refine G_op1 ?_; ((apply K1_ev; exact rfl; ((focus (exact E_assign rfl))))))) <;> (try (refine G_nil ?_)))) | ((refine G_region (id := 9) ?_ <;> (try (refine G_op1 ?_; ((apply K1_ev; exact rfl; ((focus ((apply E_bin (op := .eql) (t := 47); exact rfl; exact rfl; exact rfl; ((focus ((refine rb_eql_f ?_; first | (with_reducible assumption) | (decide; done) | omega)))))))))))) <;> (try (refine G_op1 ?_; ((apply K1_ev; exact rfl; ((focus (exact E_assign rfl))))))) <;> (try (refine G_nil ?_)))) | ((refine G_region (id := 10) ?_ <;> (try (refine G_op1 ?_; ((apply K1_ev; exact rfl; ((focus ((apply E_bin (op := .eql) (t := 47); exact rfl; exact rfl; exact rfl; ((focus ((refine rb_eql_f ?_; first | (with_reducible assumption) | (decide; done) | omega)))))))))))) <;> (try (refine G_op1 ?_; ((apply K1_ev; exact rfl; ((focus (exact E_assign rfl))))))) <;> (try (refine G_nil ?_)))) | ((refine G_region (id := 11) ?_ <;> (try (refine G_op1 ?_; ((apply K1_ev; exact rfl; ((focus ((apply E_bin (op := .eql) (t := 47); exact rfl; exact rfl; exact rfl; ((focus ((refine rb_eql_f ?_; first | (with_reducible assumption) | (decide; done) | omega)))))))))))) <;> (try (refine G_op1 ?_; ((apply K1_ev; exact rfl; ((focus (exact E_assign rfl))))))) <;> (try (refine G_nil ?_)))) | ((refine G_region (id := 13) ?_ <;> (try (refine G_op1 ?_; ((apply K1_ev; exact rfl; ((focus ((apply E_bin (op := .eql) (t := 47); exact rfl; exact rfl; exact rfl; ((focus (first | ((refine rb_eql_t' ?_; first | rfl | (with_reducible assumption) | (decide; done) | omega)) | ((refine rb_eql_f ?_; first | (with_reducible assumption) | (decide; done) | omega))))))))))))) <;> (try (refine G_op1 ?_; ((apply K1_ev; exact rfl; ((focus (exact E_assign rfl))))))) <;> (try (refine G_nil ?_)))) | ((refine G_region (id := 14) ?_ <;> (try (refine G_op1 ?_; ((apply K1_ev; exact rfl; ((focus ((apply E_bin (op := .eql) (t := 47); exact rfl; exact rfl; exact rfl; ((focus (first | ((refine rb_eql_t' ?_; first | rfl | (with_reducible assumption) | (decide; done) | omega)) | ((refine rb_eql_f ?_; first | (with_reducible assumption) | (decide; done) | omega))))))))))))) <;> (try (refine G_op1 ?_; ((apply K1_ev; exact rfl; ((focus (exact E_assign rfl))))))) <;> (try (refine G_nil ?_)))) | ((refine G_region (id := 15) ?_ <;> (try (refine G_op1 ?_; ((apply K1_ev; exact rfl; ((focus ((apply E_bin (op := .eql) (t := 47); exact rfl; exact rfl; exact rfl; ((focus (first | ((refine rb_eql_t' ?_; first | rfl | (with_reducible assumption) | (decide; done) | omega)) | ((refine rb_eql_f ?_; first | (with_reducible assumption) | (decide; done) | omega))))))))))))) <;> (try (refine G_op1 ?_; ((apply K1_ev; exact rfl; ((focus (exact E_assign rfl))))))) <;> (try (refine G_nil ?_)))) | ((refine G_region (id := 16) ?_ <;> (try (refine G_op1 ?_; ((apply K1_ev; exact rfl; ((focus ((apply E_bin (op := .eql) (t := 47); exact rfl; exact rfl; exact rfl; ((focus ((refine rb_eql_t' ?_; first | rfl | (with_reducible assumption) | (decide; done) | omega)))))))))))) <;> (try (refine G_op1 ?_; ((apply K1_ev; exact rfl; ((focus (exact E_assign rfl))))))) <;> (try (refine G_nil ?_)))) | ((refine G_region (id := 17) ?_ <;> (try (refine G_op1 ?_; ((apply K1_ev; exact rfl; ((focus (exact E_build (t := 124) (fun (vs : List (Nat × Value)) => (match vs with | [(_, x0), (_, x1)] => [x0, x1] | _ => [] : List Value)) rfl (fun w => by kernel_rfl)))); (try simp only [Value.cells]); (try simp only [List.cons_append]); (try simp only [List.nil_append]))))) <;> (try (refine G_op1 ?_; (((apply K1_storeW (t := 124); exact rfl; exact rfl; (((focus (repeat (exact fd0))))); kernel_rfl; (((focus (exact rfl)))); (((focus (exact rfl)))); (try simp only [List.set_cons_succ]); (try simp only [List.set_cons_zero])))))) <;> (try (refine G_nil ?_)))))
      (apply G_doneA Tryd.results49; exact rfl; (((focus (repeat (first | exact fd0 | (with_reducible assumption) | apply fdA | apply fdS))))); kernel_rfl; kernel_rfl; exact sz_124; ((focus (first | (with_reducible assumption) | exact rfl | (simp; done)))))
      exact ⟨_, ⟨rfl, rfl⟩, by intro w H; refine H.sub ?_; (try simp only [List.cons_append, List.nil_append]); repeat (first | exact List.Sublist.refl _ | refine List.Sublist.cons_cons _ ?_ | refine List.Sublist.cons _ ?_ | refine List.sublist_append_of_sublist_right ?_)⟩
  by_cases h3 : n = 1
  · have e : clsT n = 3 := by unfold clsT; rw [if_neg h1, if_neg h2, if_pos h3]
    rw [e]
    clear e h1 h2
    subst h3
    refine Fn1 Tryd.func49 Tryd.ntmps49 rfl rfl ?_
    repeat' (first | refine G_seq ?_ | refine G_then_n ?_ | refine G_then_r ?_ | refine G_blk_r ?_ | refine G_block ?_ | refine G_ret ?_ | refine G_cond_t rfl ?_ | refine G_cond_f rfl ?_ | ((refine G_region (id := 0) ?_ <;> (try (refine G_op1 ?_; ((refine K1_alloc (t := 124) rfl Tryd.zeroValue124 ?_; intro nb hnb; (try simp only [Value.cells]))))) <;> (try (refine G_nil ?_)))) | ((refine G_region (id := 1) ?_ <;> (try (refine G_op1 ?_; ((apply K1_ev; exact rfl; ((focus (exact E_move rfl))))))) <;> (try (refine G_nil ?_)))) | ((refine G_region (id := 2) ?_ <;> (try (refine G_op1 ?_; ((apply K1_ev; exact rfl; ((focus ((apply E_bin (op := .eql) (t := 47); exact rfl; exact rfl; exact rfl; ((focus ((refine rb_eql_f ?_; first | (with_reducible assumption) | (decide; done) | omega)))))))))))) <;> (try (refine G_op1 ?_; ((apply K1_ev; exact rfl; ((focus (exact E_assign rfl))))))) <;> (try (refine G_nil ?_)))) | ((refine G_region (id := 3) ?_ <;> (try (refine G_op1 ?_; ((apply K1_ev; exact rfl; ((focus ((apply E_bin (op := .eql) (t := 47); exact rfl; exact rfl; exact rfl; ((focus ((refine rb_eql_f ?_; first | (with_reducible assumption) | (decide; done) | omega)))))))))))) <;> (try (refine G_op1 ?_; ((apply K1_ev; exact rfl; ((focus (exact E_assign rfl))))))) <;> (try (refine G_nil ?_)))) | ((refine G_region (id := 4) ?_ <;> (try (refine G_op1 ?_; ((apply K1_ev; exact rfl; ((focus ((apply E_bin (op := .eql) (t := 47); exact rfl; exact rfl; exact rfl; ((focus ((refine rb_eql_f ?_; first | (with_reducible assumption) | (decide; done) | omega)))))))))))) <;> (try (refine G_op1 ?_; ((apply K1_ev; exact rfl; ((focus (exact E_assign rfl))))))) <;> (try (refine G_nil ?_)))) | ((refine G_region (id := 5) ?_ <;> (try (refine G_op1 ?_; ((apply K1_ev; exact rfl; ((focus ((apply E_bin (op := .eql) (t := 47); exact rfl; exact rfl; exact rfl; ((focus ((refine rb_eql_f ?_; first | (with_reducible assumption) | (decide; done) | omega)))))))))))) <;> (try (refine G_op1 ?_; ((apply K1_ev; exact rfl; ((focus (exact E_assign rfl))))))) <;> (try (refine G_nil ?_)))) | ((refine G_region (id := 6) ?_ <;> (try (refine G_op1 ?_; ((apply K1_ev; exact rfl; ((focus ((apply E_bin (op := .eql) (t := 47); exact rfl; exact rfl; exact rfl; ((focus ((refine rb_eql_f ?_; first | (with_reducible assumption) | (decide; done) | omega)))))))))))) <;> (try (refine G_op1 ?_; ((apply K1_ev; exact rfl; ((focus (exact E_assign rfl))))))) <;> (try (refine G_nil ?_)))) | ((refine G_region (id := 7) ?_ <;> (try (refine G_op1 ?_; ((apply K1_ev; exact rfl; ((focus ((apply E_bin (op := .eql) (t := 47); exact rfl; exact rfl; exact rfl; ((focus ((refine rb_eql_f ?_; first | (with_reducible assumption) | (decide; done) | omega)))))))))))) <;> (try (refine G_op1 ?_; ((apply K1_ev; exact rfl; ((focus (exact E_assign rfl))))))) <;> (try (refine G_nil ?_)))) | ((refine G_region (id := 8) ?_ <;> (try (refine G_op1 ?_; ((apply K1_ev; exact rfl; ((focus ((apply E_bin (op := .eql) (t := 47); exact rfl; exact rfl; exact rfl; ((focus ((refine rb_eql_f ?_; first | (with_reducible assumption) | (decide; done) | omega)))))))))))) <;> (try (refine G_op1 ?_; ((apply K1_ev; exact rfl; ((focus (exact E_assign rfl))))))) <;> (try (refine G_nil ?_)))) | ((refine G_region (id := 9) ?_ <;> (try (refine G_op1 ?_; ((apply K1_ev; exact rfl; ((focus ((apply E_bin (op := .eql) (t := 47); exact rfl; exact rfl; exact rfl; ((focus ((refine rb_eql_f ?_; first | (with_reducible assumption) | (decide; done) | omega)))))))))))) <;> (try (refine G_op1 ?_; ((apply K1_ev; exact rfl; ((focus (exact E_assign rfl))))))) <;> (try (refine G_nil ?_)))) | ((refine G_region (id := 10) ?_ <;> (try (refine G_op1 ?_; ((apply K1_ev; exact rfl; ((focus ((apply E_bin (op := .eql) (t := 47); exact rfl; exact rfl; exact rfl; ((focus ((refine rb_eql_f ?_; first | (with_reducible assumption) | (decide; done) | omega)))))))))))) <;> (try (refine G_op1 ?_; ((apply K1_ev; exact rfl; ((focus (exact E_assign rfl))))))) <;> (try (refine G_nil ?_)))) | ((refine G_region (id := 11) ?_ <;> (try (refine G_op1 ?_; ((apply K1_ev; exact rfl; ((focus ((apply E_bin (op := .eql) (t := 47); exact rfl; exact rfl; exact rfl; ((focus ((refine rb_eql_f ?_; first | (with_reducible assumption) | (decide; done) | omega)))))))))))) <;> (try (refine G_op1 ?_; ((apply K1_ev; exact rfl; ((focus (exact E_assign rfl))))))) <;> (try (refine G_nil ?_)))) | ((refine G_region (id := 13) ?_ <;> (try (refine G_op1 ?_; ((apply K1_ev; exact rfl; ((focus ((apply E_bin (op := .eql) (t := 47); exact rfl; exact rfl; exact rfl; ((focus ((refine rb_eql_f ?_; first | (with_reducible assumption) | (decide; done) | omega)))))))))))) <;> (try (refine G_op1 ?_; ((apply K1_ev; exact rfl; ((focus (exact E_assign rfl))))))) <;> (try (refine G_nil ?_)))) | ((refine G_region (id := 14) ?_ <;> (try (refine G_op1 ?_; ((apply K1_ev; exact rfl; ((focus ((apply E_bin (op := .eql) (t := 47); exact rfl; exact rfl; exact rfl; ((focus ((refine rb_eql_f ?_; first | (with_reducible assumption) | (decide; done) | omega)))))))))))) <;> (try (refine G_op1 ?_; ((apply K1_ev; exact rfl; ((focus (exact E_assign rfl))))))) <;> (try (refine G_nil ?_)))) | ((refine G_region (id := 15) ?_ <;> (try (refine G_op1 ?_; ((apply K1_ev; exact rfl; ((focus ((apply E_bin (op := .eql) (t := 47); exact rfl; exact rfl; exact rfl; ((focus ((refine rb_eql_f ?_; first | (with_reducible assumption) | (decide; done) | omega)))))))))))) <;> (try (refine G_op1 ?_; ((apply K1_ev; exact rfl; ((focus (exact E_assign rfl))))))) <;> (try (refine G_nil ?_)))) | ((refine G_region (id := 16) ?_ <;> (try (refine G_op1 ?_; ((apply K1_ev; exact rfl; ((focus ((apply E_bin (op := .eql) (t := 47); exact rfl; exact rfl; exact rfl; ((focus ((refine rb_eql_f ?_; first | (with_reducible assumption) | (decide; done) | omega)))))))))))) <;> (try (refine G_op1 ?_; ((apply K1_ev; exact rfl; ((focus (exact E_assign rfl))))))) <;> (try (refine G_nil ?_)))) | ((refine G_region (id := 18) ?_ <;> (try (refine G_op1 ?_; ((apply K1_ev; exact rfl; ((focus ((apply E_bin (op := .eql) (t := 47); exact rfl; exact rfl; exact rfl; ((focus ((refine rb_eql_t' ?_; first | rfl | (with_reducible assumption) | (decide; done) | omega)))))))))))) <;> (try (refine G_op1 ?_; ((apply K1_ev; exact rfl; ((focus (exact E_assign rfl))))))) <;> (try (refine G_nil ?_)))) | ((refine G_region (id := 19) ?_ <;> (try (refine G_op1 ?_; ((apply K1_ev; exact rfl; ((focus (exact E_build (t := 124) (fun (vs : List (Nat × Value)) => (match vs with | [(_, x0), (_, x1)] => [x0, x1] | _ => [] : List Value)) rfl (fun w => by kernel_rfl)))); (try simp only [Value.cells]); (try simp only [List.cons_append]); (try simp only [List.nil_append]))))) <;> (try (refine G_op1 ?_; (((apply K1_storeW (t := 124); exact rfl; exact rfl; (((focus (repeat (exact fd0))))); kernel_rfl; (((focus (exact rfl)))); (((focus (exact rfl)))); (try simp only [List.set_cons_succ]); (try simp only [List.set_cons_zero])))))) <;> (try (refine G_nil ?_)))))
    (apply G_doneA Tryd.results49; exact rfl; (((focus (repeat (first | exact fd0 | (with_reducible assumption) | apply fdA | apply fdS))))); kernel_rfl; kernel_rfl; exact sz_124; ((focus (first | (with_reducible assumption) | exact rfl | (simp; done)))))
    exact ⟨_, ⟨rfl, rfl⟩, by intro w H; refine H.sub ?_; (try simp only [List.cons_append, List.nil_append]); repeat (first | exact List.Sublist.refl _ | refine List.Sublist.cons_cons _ ?_ | refine List.Sublist.cons _ ?_ | refine List.sublist_append_of_sublist_right ?_)⟩
  have e : clsT n = 0 := by unfold clsT; rw [if_neg h1, if_neg h2, if_neg h3]
  rw [e]
  clear e
  simp only [List.mem_cons, List.not_mem_nil, or_false, not_or] at h1 h2
  obtain ⟨x0, x1, x2, x3, x4, x5, x6, x7, x8, x9⟩ := h1
  obtain ⟨y0, y1, y2, y3⟩ := h2
  refine Fn1 Tryd.func49 Tryd.ntmps49 rfl rfl ?_
  repeat' (first | refine G_seq ?_ | refine G_then_n ?_ | refine G_blk_n ?_ | refine G_block ?_ | refine G_skip ?_ | refine G_ret ?_ | refine G_cond_f rfl ?_ | ((refine G_region (id := 0) ?_ <;> (try (refine G_op1 ?_; ((refine K1_alloc (t := 124) rfl Tryd.zeroValue124 ?_; intro nb hnb; (try simp only [Value.cells]))))) <;> (try (refine G_nil ?_)))) | ((refine G_region (id := 1) ?_ <;> (try (refine G_op1 ?_; ((apply K1_ev; exact rfl; ((focus (exact E_move rfl))))))) <;> (try (refine G_nil ?_)))) | ((refine G_region (id := 2) ?_ <;> (try (refine G_op1 ?_; ((apply K1_ev; exact rfl; ((focus ((apply E_bin (op := .eql) (t := 47); exact rfl; exact rfl; exact rfl; ((focus ((refine rb_eql_f ?_; first | (with_reducible assumption) | (decide; done) | omega)))))))))))) <;> (try (refine G_op1 ?_; ((apply K1_ev; exact rfl; ((focus (exact E_assign rfl))))))) <;> (try (refine G_nil ?_)))) | ((refine G_region (id := 3) ?_ <;> (try (refine G_op1 ?_; ((apply K1_ev; exact rfl; ((focus ((apply E_bin (op := .eql) (t := 47); exact rfl; exact rfl; exact rfl; ((focus ((refine rb_eql_f ?_; first | (with_reducible assumption) | (decide; done) | omega)))))))))))) <;> (try (refine G_op1 ?_; ((apply K1_ev; exact rfl; ((focus (exact E_assign rfl))))))) <;> (try (refine G_nil ?_)))) | ((refine G_region (id := 4) ?_ <;> (try (refine G_op1 ?_; ((apply K1_ev; exact rfl; ((focus ((apply E_bin (op := .eql) (t := 47); exact rfl; exact rfl; exact rfl; ((focus ((refine rb_eql_f ?_; first | (with_reducible assumption) | (decide; done) | omega)))))))))))) <;> (try (refine G_op1 ?_; ((apply K1_ev; exact rfl; ((focus (exact E_assign rfl))))))) <;> (try (refine G_nil ?_)))) | ((refine G_region (id := 5) ?_ <;> (try (refine G_op1 ?_; ((apply K1_ev; exact rfl; ((focus ((apply E_bin (op := .eql) (t := 47); exact rfl; exact rfl; exact rfl; ((focus ((refine rb_eql_f ?_; first | (with_reducible assumption) | (decide; done) | omega)))))))))))) <;> (try (refine G_op1 ?_; ((apply K1_ev; exact rfl; ((focus (exact E_assign rfl))))))) <;> (try (refine G_nil ?_)))) | ((refine G_region (id := 6) ?_ <;> (try (refine G_op1 ?_; ((apply K1_ev; exact rfl; ((focus ((apply E_bin (op := .eql) (t := 47); exact rfl; exact rfl; exact rfl; ((focus ((refine rb_eql_f ?_; first | (with_reducible assumption) | (decide; done) | omega)))))))))))) <;> (try (refine G_op1 ?_; ((apply K1_ev; exact rfl; ((focus (exact E_assign rfl))))))) <;> (try (refine G_nil ?_)))) | ((refine G_region (id := 7) ?_ <;> (try (refine G_op1 ?_; ((apply K1_ev; exact rfl; ((focus ((apply E_bin (op := .eql) (t := 47); exact rfl; exact rfl; exact rfl; ((focus ((refine rb_eql_f ?_; first | (with_reducible assumption) | (decide; done) | omega)))))))))))) <;> (try (refine G_op1 ?_; ((apply K1_ev; exact rfl; ((focus (exact E_assign rfl))))))) <;> (try (refine G_nil ?_)))) | ((refine G_region (id := 8) ?_ <;> (try (refine G_op1 ?_; ((apply K1_ev; exact rfl; ((focus ((apply E_bin (op := .eql) (t := 47); exact rfl; exact rfl; exact rfl; ((focus ((refine rb_eql_f ?_; first | (with_reducible assumption) | (decide; done) | omega)))))))))))) <;> (try (refine G_op1 ?_; ((apply K1_ev; exact rfl; ((focus (exact E_assign rfl))))))) <;> (try (refine G_nil ?_)))) | ((refine G_region (id := 9) ?_ <;> (try (refine G_op1 ?_; ((apply K1_ev; exact rfl; ((focus ((apply E_bin (op := .eql) (t := 47); exact rfl; exact rfl; exact rfl; ((focus ((refine rb_eql_f ?_; first | (with_reducible assumption) | (decide; done) | omega)))))))))))) <;> (try (refine G_op1 ?_; ((apply K1_ev; exact rfl; ((focus (exact E_assign rfl))))))) <;> (try (refine G_nil ?_)))) | ((refine G_region (id := 10) ?_ <;> (try (refine G_op1 ?_; ((apply K1_ev; exact rfl; ((focus ((apply E_bin (op := .eql) (t := 47); exact rfl; exact rfl; exact rfl; ((focus ((refine rb_eql_f ?_; first | (with_reducible assumption) | (decide; done) | omega)))))))))))) <;> (try (refine G_op1 ?_; ((apply K1_ev; exact rfl; ((focus (exact E_assign rfl))))))) <;> (try (refine G_nil ?_)))) | ((refine G_region (id := 11) ?_ <;> (try (refine G_op1 ?_; ((apply K1_ev; exact rfl; ((focus ((apply E_bin (op := .eql) (t := 47); exact rfl; exact rfl; exact rfl; ((focus ((refine rb_eql_f ?_; first | (with_reducible assumption) | (decide; done) | omega)))))))))))) <;> (try (refine G_op1 ?_; ((apply K1_ev; exact rfl; ((focus (exact E_assign rfl))))))) <;> (try (refine G_nil ?_)))) | ((refine G_region (id := 13) ?_ <;> (try (refine G_op1 ?_; ((apply K1_ev; exact rfl; ((focus ((apply E_bin (op := .eql) (t := 47); exact rfl; exact rfl; exact rfl; ((focus ((refine rb_eql_f ?_; first | (with_reducible assumption) | (decide; done) | omega)))))))))))) <;> (try (refine G_op1 ?_; ((apply K1_ev; exact rfl; ((focus (exact E_assign rfl))))))) <;> (try (refine G_nil ?_)))) | ((refine G_region (id := 14) ?_ <;> (try (refine G_op1 ?_; ((apply K1_ev; exact rfl; ((focus ((apply E_bin (op := .eql) (t := 47); exact rfl; exact rfl; exact rfl; ((focus ((refine rb_eql_f ?_; first | (with_reducible assumption) | (decide; done) | omega)))))))))))) <;> (try (refine G_op1 ?_; ((apply K1_ev; exact rfl; ((focus (exact E_assign rfl))))))) <;> (try (refine G_nil ?_)))) | ((refine G_region (id := 15) ?_ <;> (try (refine G_op1 ?_; ((apply K1_ev; exact rfl; ((focus ((apply E_bin (op := .eql) (t := 47); exact rfl; exact rfl; exact rfl; ((focus ((refine rb_eql_f ?_; first | (with_reducible assumption) | (decide; done) | omega)))))))))))) <;> (try (refine G_op1 ?_; ((apply K1_ev; exact rfl; ((focus (exact E_assign rfl))))))) <;> (try (refine G_nil ?_)))) | ((refine G_region (id := 16) ?_ <;> (try (refine G_op1 ?_; ((apply K1_ev; exact rfl; ((focus ((apply E_bin (op := .eql) (t := 47); exact rfl; exact rfl; exact rfl; ((focus ((refine rb_eql_f ?_; first | (with_reducible assumption) | (decide; done) | omega)))))))))))) <;> (try (refine G_op1 ?_; ((apply K1_ev; exact rfl; ((focus (exact E_assign rfl))))))) <;> (try (refine G_nil ?_)))) | ((refine G_region (id := 18) ?_ <;> (try (refine G_op1 ?_; ((apply K1_ev; exact rfl; ((focus ((apply E_bin (op := .eql) (t := 47); exact rfl; exact rfl; exact rfl; ((focus ((refine rb_eql_f ?_; first | (with_reducible assumption) | (decide; done) | omega)))))))))))) <;> (try (refine G_op1 ?_; ((apply K1_ev; exact rfl; ((focus (exact E_assign rfl))))))) <;> (try (refine G_nil ?_)))) | ((refine G_region (id := 20) ?_ <;> (try (refine G_op1 ?_; ((apply K1_ev; exact rfl; ((focus (exact E_build (t := 124) (fun (vs : List (Nat × Value)) => (match vs with | [] => [Value.bool false, Value.bool false] | _ => [] : List Value)) rfl (fun w => by kernel_rfl)))); (try simp only [Value.cells]); (try simp only [List.cons_append]); (try simp only [List.nil_append]))))) <;> (try (refine G_op1 ?_; (((apply K1_storeW (t := 124); exact rfl; exact rfl; (((focus (repeat (exact fd0))))); kernel_rfl; (((focus (exact rfl)))); (((focus (exact rfl)))); (try simp only [List.set_cons_succ]); (try simp only [List.set_cons_zero])))))) <;> (try (refine G_nil ?_)))))
  (apply G_doneA Tryd.results49; exact rfl; (((focus (repeat (first | exact fd0 | (with_reducible assumption) | apply fdA | apply fdS))))); kernel_rfl; kernel_rfl; exact sz_124; ((focus (first | (with_reducible assumption) | exact rfl | (simp; done)))))
  exact ⟨_, ⟨rfl, rfl⟩, by intro w H; refine H.sub ?_; (try simp only [List.cons_append, List.nil_append]); repeat (first | exact List.Sublist.refl _ | refine List.Sublist.cons_cons _ ?_ | refine List.Sublist.cons _ ?_ | refine List.sublist_append_of_sublist_right ?_)⟩
set_option maxRecDepth 100000 in
set_option maxHeartbeats 2000000 in
theorem textual_c {S w0 L} (n : Int) (hn : 0 ≤ n ∧ n < 4294967296) (arg : Int) : Fn Tryd.prog 34 #[.int .u32 n, .int .i64 arg] S w0 L fun v L' => v = .bool (tsel (clsT n) arg) ∧ L = L' := by
  have ht := fun (L : List Blk) => textu_c (S := S) (w0 := w0) (L := L) n hn
  generalize clsT n = c at *
  by_cases h0 : arg = 0
  · subst h0
    have e : tsel c 0 = (c == 1 || c == 2) := by simp [tsel]
    rw [e]
    refine Fn2 Tryd.func34 Tryd.ntmps34 rfl rfl ?_
    repeat' (first | refine G_seq ?_ | refine G_then_n ?_ | refine G_ret ?_ | ((refine G_region (id := 0) ?_ <;> (try (refine G_op1 ?_; ((apply K1_ev; exact rfl; ((focus (exact E_assign rfl))))))) <;> (try (refine G_nil ?_)))) | ((refine G_region (id := 1) ?_ <;> (try (refine G_op1 ?_; ((apply K1_ev; exact rfl; ((focus (exact E_move rfl))))))) <;> (try (refine G_op1 ?_; ((apply K1_ev; exact rfl; ((focus ((apply E_bin (op := .geq) (t := 3); exact rfl; exact rfl; exact rfl; ((focus ((refine rb_geq_t ?_; first | (with_reducible assumption) | (decide; done) | omega)))))))))))) <;> (try (refine G_op1 ?_; ((apply K1_ev; exact rfl; ((focus (exact E_move rfl))))))) <;> (try (refine G_op1 ?_; ((refine K1_yes rfl rfl rfl ?_; ((apply K1_ev; exact rfl; ((focus (exact E_move rfl))))))))) <;> (try (refine G_op1 ?_; ((refine K1_yes rfl rfl rfl ?_; ((apply K1_ev; exact rfl; ((focus ((apply E_bin (op := .lss) (t := 3); exact rfl; exact rfl; exact rfl; ((focus ((refine rb_lss_t ?_; first | (with_reducible assumption) | (decide; done) | omega)))))))))))))) <;> (try (refine G_op1 ?_; ((apply K1_ev; exact rfl; ((focus (exact E_pick rfl rfl))))))) <;> (try (refine G_op1 ?_; ((apply K1_ev; exact rfl; ((focus (exact E_move rfl))))))) <;> (try (refine G_op1 ?_; ((refine K1_yes rfl rfl rfl ?_; ((apply K1_ev; exact rfl; ((focus (exact E_move rfl))))))))) <;> (try (refine G_op1 ?_; ((refine K1_yes rfl rfl rfl ?_; (((refine K1_call (F := 49) (by kernel_rfl) rfl rfl (ht _) ?_; rintro _ _ ⟨rfl, rfl⟩))))))) <;> (try (refine G_op1 ?_; ((refine K1_yes rfl rfl rfl ?_; ((apply K1_ev; exact rfl; ((focus (exact E_move rfl))))))))) <;> (try (refine G_op1 ?_; ((refine K1_yes rfl rfl rfl ?_; ((apply K1_ev; exact rfl; ((focus ((apply E_index; exact rfl; exact rfl; ((focus (apply r_ixv Tryd.underlying124; kernel_rfl; kernel_rfl; exact sz_4; (focus omega); (focus omega); (((focus (exact rfl))))))))))))))))) <;> (try (refine G_op1 ?_; ((apply K1_ev; exact rfl; ((focus (exact E_pick rfl rfl))))))) <;> (try (refine G_op1 ?_; ((apply K1_ev; exact rfl; ((focus (exact E_assign rfl))))))) <;> (try (refine G_nil ?_)))))
    (refine G_done Tryd.results34 (.tmp rfl .nil) ?_)
    exact ⟨_, ⟨rfl, rfl⟩, by intro w H; refine H.sub ?_; (try simp only [List.cons_append, List.nil_append]); repeat (first | exact List.Sublist.refl _ | refine List.Sublist.cons_cons _ ?_ | refine List.Sublist.cons _ ?_ | refine List.sublist_append_of_sublist_right ?_)⟩
  by_cases h1 : arg = 1
  · subst h1
    have e : tsel c 1 = (c == 2 || c == 3) := by simp [tsel]
    rw [e]
    refine Fn2 Tryd.func34 Tryd.ntmps34 rfl rfl ?_
    repeat' (first | refine G_seq ?_ | refine G_then_n ?_ | refine G_ret ?_ | ((refine G_region (id := 0) ?_ <;> (try (refine G_op1 ?_; ((apply K1_ev; exact rfl; ((focus (exact E_assign rfl))))))) <;> (try (refine G_nil ?_)))) | ((refine G_region (id := 1) ?_ <;> (try (refine G_op1 ?_; ((apply K1_ev; exact rfl; ((focus (exact E_move rfl))))))) <;> (try (refine G_op1 ?_; ((apply K1_ev; exact rfl; ((focus ((apply E_bin (op := .geq) (t := 3); exact rfl; exact rfl; exact rfl; ((focus ((refine rb_geq_t ?_; first | (with_reducible assumption) | (decide; done) | omega)))))))))))) <;> (try (refine G_op1 ?_; ((apply K1_ev; exact rfl; ((focus (exact E_move rfl))))))) <;> (try (refine G_op1 ?_; ((refine K1_yes rfl rfl rfl ?_; ((apply K1_ev; exact rfl; ((focus (exact E_move rfl))))))))) <;> (try (refine G_op1 ?_; ((refine K1_yes rfl rfl rfl ?_; ((apply K1_ev; exact rfl; ((focus ((apply E_bin (op := .lss) (t := 3); exact rfl; exact rfl; exact rfl; ((focus ((refine rb_lss_t ?_; first | (with_reducible assumption) | (decide; done) | omega)))))))))))))) <;> (try (refine G_op1 ?_; ((apply K1_ev; exact rfl; ((focus (exact E_pick rfl rfl))))))) <;> (try (refine G_op1 ?_; ((apply K1_ev; exact rfl; ((focus (exact E_move rfl))))))) <;> (try (refine G_op1 ?_; ((refine K1_yes rfl rfl rfl ?_; ((apply K1_ev; exact rfl; ((focus (exact E_move rfl))))))))) <;> (try (refine G_op1 ?_; ((refine K1_yes rfl rfl rfl ?_; (((refine K1_call (F := 49) (by kernel_rfl) rfl rfl (ht _) ?_; rintro _ _ ⟨rfl, rfl⟩))))))) <;> (try (refine G_op1 ?_; ((refine K1_yes rfl rfl rfl ?_; ((apply K1_ev; exact rfl; ((focus (exact E_move rfl))))))))) <;> (try (refine G_op1 ?_; ((refine K1_yes rfl rfl rfl ?_; ((apply K1_ev; exact rfl; ((focus ((apply E_index; exact rfl; exact rfl; ((focus (apply r_ixv Tryd.underlying124; kernel_rfl; kernel_rfl; exact sz_4; (focus omega); (focus omega); (((focus (exact rfl))))))))))))))))) <;> (try (refine G_op1 ?_; ((apply K1_ev; exact rfl; ((focus (exact E_pick rfl rfl))))))) <;> (try (refine G_op1 ?_; ((apply K1_ev; exact rfl; ((focus (exact E_assign rfl))))))) <;> (try (refine G_nil ?_)))))
    (refine G_done Tryd.results34 (.tmp rfl .nil) ?_)
    exact ⟨_, ⟨rfl, rfl⟩, by intro w H; refine H.sub ?_; (try simp only [List.cons_append, List.nil_append]); repeat (first | exact List.Sublist.refl _ | refine List.Sublist.cons_cons _ ?_ | refine List.Sublist.cons _ ?_ | refine List.sublist_append_of_sublist_right ?_)⟩
  have e : tsel c arg = false := by simp [tsel, h0, h1]
  rw [e]
  clear e
  refine Fn2 Tryd.func34 Tryd.ntmps34 rfl rfl ?_
  repeat' (first | refine G_seq ?_ | refine G_then_n ?_ | refine G_ret ?_ | ((refine G_region (id := 0) ?_ <;> (try (refine G_op1 ?_; ((apply K1_ev; exact rfl; ((focus (exact E_assign rfl))))))) <;> (try (refine G_nil ?_)))) | ((refine G_region (id := 1) ?_ <;> (try (refine G_op1 ?_; ((apply K1_ev; exact rfl; ((focus (exact E_move rfl))))))) <;> (try (refine G_op1 ?_; ((apply K1_ev; exact rfl; ((focus ((apply E_bin (op := .geq) (t := 3); exact rfl; exact rfl; exact rfl; ((focus (exact rb_geq))))))))))) <;> (try (refine G_op1 ?_; ((apply K1_ev; exact rfl; ((focus (exact E_move rfl))))))) <;> (try (refine G_op1 ?_; ((((refine K1_guard_d rfl rfl (fun hc => ?_) (fun hc => ?_))) <;> (try subst hc) <;> (first | refine K1_no rfl rfl rfl rfl ?_ | ((refine K1_yes rfl rfl rfl ?_; ((apply K1_ev; exact rfl; ((focus (exact E_move rfl)))))))))))) <;> (try (refine G_op1 ?_; (first | refine K1_no rfl rfl rfl rfl ?_ | ((refine K1_yes rfl rfl rfl ?_; ((apply K1_ev; exact rfl; ((focus ((apply E_bin (op := .lss) (t := 3); exact rfl; exact rfl; exact rfl; ((focus ((refine rb_lss_f ?_; first | (with_reducible assumption) | (decide; done) | omega))))))))))))))) <;> (try (refine G_op1 ?_; ((apply K1_ev; exact rfl; ((focus (exact E_pick rfl rfl))))))) <;> (try (refine G_op1 ?_; ((apply K1_ev; exact rfl; ((focus (exact E_move rfl))))))) <;> (try (refine G_op1 ?_; (refine K1_no rfl rfl rfl rfl ?_))) <;> (try (refine G_op1 ?_; (refine K1_no rfl rfl rfl rfl ?_))) <;> (try (refine G_op1 ?_; (refine K1_no rfl rfl rfl rfl ?_))) <;> (try (refine G_op1 ?_; (refine K1_no rfl rfl rfl rfl ?_))) <;> (try (refine G_op1 ?_; ((apply K1_ev; exact rfl; ((focus (exact E_pick rfl rfl))))))) <;> (try (refine G_op1 ?_; ((apply K1_ev; exact rfl; ((focus (exact E_assign rfl))))))) <;> (try (refine G_nil ?_)))))
  all_goals
    (refine G_done Tryd.results34 (.tmp rfl .nil) ?_)
    exact ⟨_, ⟨rfl, rfl⟩, by intro w H; refine H.sub ?_; (try simp only [List.cons_append, List.nil_append]); repeat (first | exact List.Sublist.refl _ | refine List.Sublist.cons_cons _ ?_ | refine List.Sublist.cons _ ?_ | refine List.sublist_append_of_sublist_right ?_)⟩
/-- a table that was asked n times -/
def tbS (b m1 m2 n : Nat) : List Blk := if n = 0 then [tbl0 b 0 0] else [tbl1 b m1 m2 n 1, mapB m1 (byName clls), mapB m2 (byNum clls)]
theorem tbS_succ (b m1 m2 n : Nat) : tbS b m1 m2 (n + 1) = [tbl1 b m1 m2 ((n : Int) + 1) 1, mapB m1 (byName clls), mapB m2 (byNum clls)] := by
  unfold tbS
  rw [if_neg (by omega), Int.natCast_add, Int.natCast_one]
theorem namS_c {S w0 L} (b m1 m2 n : Nat) (hn : n ≤ 100000) (s : ByteArray) : Fn Tryd.prog 43 #[.pointer (some ⟨b, 0, none⟩), .string s] S w0 (tbS b m1 m2 n ++ L) fun v L' => ∃ m1' m2', v = gotV (nameF s clls) ∧ tbS b m1' m2' (n + 1) ++ L = L' := by
  cases n with
  | zero =>
    refine (named0_c (S := S) (w0 := w0) (L := L) b 0 0 (by omega) (by omega) s).mono ?_
    rintro v L' ⟨x, y, rfl, rfl⟩
    exact ⟨_, ⟨x, y, rfl, rfl⟩, fun _ H => H⟩
  | succ n =>
    rw [tbS_succ]
    refine (named1_c (S := S) (w0 := w0) (L := L) b m1 m2 _ 1 (by omega) s).mono ?_
    rintro v L' ⟨rfl, rfl⟩
    exact ⟨_, ⟨m1, m2, rfl, by rw [tbS_succ, Int.natCast_add, Int.natCast_one]; rfl⟩, fun _ H => H⟩
theorem namX_c {S w0 L} (X : Blk) (b m1 m2 n : Nat) (hn : n ≤ 100000) (s : ByteArray) : Fn Tryd.prog 43 #[.pointer (some ⟨b, 0, none⟩), .string s] S w0 (X :: (tbS b m1 m2 n ++ L)) fun v L' => ∃ m1' m2', v = gotV (nameF s clls) ∧ tbS b m1' m2' (n + 1) ++ (X :: L) = L' :=
  .mk fun w H => (namS_c (S := S) (w0 := w0) (L := X :: L) b m1 m2 n hn s).out w (HP.swapA (e := [X]) (tbS b m1 m2 n) H)
theorem cnumS_c {S w0 L} (b m1 m2 n : Nat) (hn : n ≤ 100000) (s : Int) : Fn Tryd.prog 32 #[.pointer (some ⟨b, 0, none⟩), .int .u32 s] S w0 (tbS b m1 m2 n ++ L) fun v L' => ∃ m1' m2', v = gotV (cnumF s clls) ∧ tbS b m1' m2' (n + 1) ++ L = L' := by
  cases n with
  | zero =>
    refine (numbered0_c (S := S) (w0 := w0) (L := L) b 0 0 (by omega) (by omega) s).mono ?_
    rintro v L' ⟨x, y, rfl, rfl⟩
    exact ⟨_, ⟨x, y, rfl, rfl⟩, fun _ H => H⟩
  | succ n =>
    rw [tbS_succ]
    refine (numbered1_c (S := S) (w0 := w0) (L := L) b m1 m2 _ 1 (by omega) s).mono ?_
    rintro v L' ⟨rfl, rfl⟩
    exact ⟨_, ⟨m1, m2, rfl, by rw [tbS_succ, Int.natCast_add, Int.natCast_one]; rfl⟩, fun _ H => H⟩
/-- may a byte stand as it is -/
def plB (c : UInt8) : Bool := decide (32 < c.toNat) && (decide (c.toNat < 127) && (!decide (c.toNat = 35) && !decide (c.toNat = 37)))
def hxB (n : Nat) : UInt8 := (lB D16).getD n 0
def qB (c : UInt8) : List UInt8 := if plB c = true then [c] else [37, hxB (c.toNat / 16), hxB (c.toNat % 16)]
def quoteF (s : List UInt8) : List UInt8 := if s = [] then [45] else if s = [45] then [37, 50, 100] else s.flatMap qB
def unqGo : List UInt8 → List UInt8 → List UInt8 × Nat
  | [], out => (out, 0)
  | c :: r, out => if c.toNat = 37 then (match r with
    | a :: b :: r' => if dgt a < 16 ∧ dgt b < 16 then unqGo r' (out ++ [UInt8.ofNat (16 * dgt a + dgt b)]) else ([], 202)
    | _ => ([], 203)) else if plB c = true then unqGo r (out ++ [c]) else ([], 202)
def unqF (s : List UInt8) : List UInt8 × Nat := if s = [45] then ([], 0) else unqGo s []
def zcl : CallD := ⟨0, false, 0, 0, 0, ⟨#[]⟩, ⟨#[]⟩⟩
def CallD.setN (c : CallD) (i v : Nat) : CallD := if i = 0 then ⟨c.task, c.frn, c.num, v, c.n1, c.t0, c.t1⟩ else ⟨c.task, c.frn, c.num, c.n0, v, c.t0, c.t1⟩
def CallD.setT (c : CallD) (i : Nat) (v : ByteArray) : CallD := if i = 0 then ⟨c.task, c.frn, c.num, c.n0, c.n1, v, c.t1⟩ else ⟨c.task, c.frn, c.num, c.n0, c.n1, c.t0, v⟩
/-- a word as an argument -/
def argF (c : CallD) (i : Nat) (s : List UInt8) : CallD × Nat :=
  if tsel (clsT c.num) i = true then (if (unqF s).2 ≠ 0 then (c, (unqF s).2) else if 128 < (unqF s).1.length then (c, 36) else (c.setT i (mB8 (unqF s).1), 0))
  else match numF s with
    | some n => (c.setN i n, 0)
    | none => (c, 202)
def argsGo : CallD → Nat → List (List UInt8) → CallD × Nat
  | c, _, [] => (c, 0)
  | c, i, s :: r => if (argF c i s).2 ≠ 0 then ((argF c i s).1, (argF c i s).2) else argsGo (argF c i s).1 (i + 1) r
def bangF (x : List UInt8) : Bool := x.getLast? == some 33
def trimF (x : List UInt8) : List UInt8 := if bangF x = true then x.dropLast else x
/-- a line's words as a call -/
def wdsF (x : List UInt8) (xs : List (List UInt8)) : CallD × Nat :=
  match numF (trimF x) with
  | none => (zcl, 202)
  | some w => if 127 < w then (zcl, 204) else match xs with
    | [] => (zcl, 203)
    | nm :: args => match nameF (mB8 nm) clls with
      | none => (⟨w, bangF x, 0, 0, 0, ⟨#[]⟩, ⟨#[]⟩⟩, 38)
      | some m => if (args.length : Int) ≠ m.args then (⟨w, bangF x, 0, 0, 0, ⟨#[]⟩, ⟨#[]⟩⟩, 203) else argsGo ⟨w, bangF x, m.num, 0, 0, ⟨#[]⟩, ⟨#[]⟩⟩ 0 args
/-- lines as calls -/
def scrGo : Nat → List (List UInt8) → List CallD → List CallD × Nat × Nat
  | _, [], out => (out, 0, 0)
  | n, p :: ps, out => match Lib.fields (headF 35 p) with
    | [] => scrGo (n + 1) ps out
    | x :: xs => if (wdsF x xs).2 ≠ 0 then ([], n + 1, (wdsF x xs).2) else if out.length = 1024 then ([], n + 1, 205) else scrGo (n + 1) ps (out ++ [(wdsF x xs).1])
def scrF (l : List UInt8) : List CallD × Nat × Nat := scrGo 0 (splitC 10 l) []
def flatC (l : List CallD) : List Value := l.flatMap CallD.cells
theorem flatC_len (l : List CallD) : (flatC l).length = l.length * 7 := by
  induction l with
  | nil => rfl
  | cons x r ih => rw [flatC, List.flatMap_cons, List.length_append]; rw [flatC] at ih; rw [ih, List.length_cons]; simp only [CallD.cells, List.length_cons, List.length_nil]; omega
theorem flatC_snoc (a : List CallD) (i : CallD) : flatC (a ++ [i]) = flatC a ++ i.cells := by simp [flatC]
theorem CallD.set_num (c : CallD) (i v : Nat) (t : ByteArray) : (c.setN i v).num = c.num ∧ (c.setT i t).num = c.num := by
  unfold CallD.setN CallD.setT
  by_cases h : i = 0
  · rw [if_pos h, if_pos h]; exact ⟨rfl, rfl⟩
  · rw [if_neg h, if_neg h]; exact ⟨rfl, rfl⟩
theorem argF_num (c : CallD) (i : Nat) (s : List UInt8) : (argF c i s).1.num = c.num := by
  unfold argF
  split
  · split
    · rfl
    · split
      · rfl
      · exact (c.set_num i 0 _).2
  · split
    · exact (c.set_num i _ ⟨#[]⟩).1
    · rfl
end Go.Proofs.YtpdnigifoaoflaaDoor
