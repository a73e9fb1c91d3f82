/- The law ScriptBack. -/
import Derived.Test.YtpdnigifoaoflaaDoorGk
import Derived.Test.YtpdnigifoaoflaaDoorGl8
import Derived.Test.YtpdnigifoaoflaaDoorSmD
import Derived.Test.YtpdnigifoaoflaaDoorLawS0
import Derived.ChangeKeysEq
namespace Go.Proofs.YtpdnigifoaoflaaDoor
open Go Go.RowKit
section
variable {P : Program} {n : Nat} {l : List (Nat × Value)} {S : List Nat} {w0 : World} {L : List Blk} {K : Act → World → Prop} {k : Kont} {ops : Array Oper} {d : Tmp} {ty : TypeId} {pos : String} {af : Array Edge}
theorem K1_appendSl {E size bytes : Nat} {t tt : TypeId} {inf : TypeInfo} {z : Value} {s y : Operand} {v : Value} {m : Nat} {xs : List Value} {e L0 : List Blk} {ya : Option Addr} {cnt cap : Nat} {news : List Value}
    (hd : Nat.blt d n = true) (ht : P.underlying t = some (.slice E)) (hi : P.info? E = some inf) (hz : inf.zero = some z) (hsize : inf.size = size) (hby : inf.bytes = bytes) (hzs : z.cells.size = size)
    (hs : ev l s = some v) (hy : ev l y = some (.slice ya cnt cap)) (hown : Own E size v m xs e) (hsl : Sli L ya cnt size news)
    (hone : news.all (·.oneCell') = true) (h63 : m + cnt ≤ maxLen) (hbytes : (m + cnt) * bytes ≤ 140737488355328) (hL : ∀ w, HP S w0 w L → HP S w0 w (e ++ L0)) (htt : tt = t) {mm : Nat} {xn : List Value} (hmm : m + cnt = mm) (hxn : xs ++ news = xn)
    (h : ∀ v' e', Own E size v' mm xn e' → G n ((d, v') :: l) S w0 (e' ++ L0) K) :
    G n l S w0 L (K1 P ops k ⟨some d, .call { callee := .builtin .append, args := #[s, y], argTypes := #[t, tt] }, ty, pos, af, none⟩ K) := by
  by_cases h0 : cnt = 0
  · subst h0 htt hmm hxn
    have hn : news = [] := List.eq_nil_of_length_eq_zero (by rw [hsl.1, Nat.zero_mul])
    subst hn
    have hv : ∃ sa cp, v = .slice sa m cp ∧ m ≤ cp := by
      rcases hown.2 with ⟨rfl, rfl, _⟩ | ⟨g, c, cur, rfl, _, h1, _⟩
      · exact ⟨none, 0, rfl, Nat.le_refl _⟩
      · exact ⟨_, c, rfl, h1⟩
    obtain ⟨sa, cp, rfl, hle⟩ := hv
    have h2 := h (.slice sa m cp) e (by rw [Nat.add_zero, List.append_nil]; exact hown)
    exact K1_append0 hd ht hi hs hy hle rfl (G_blocks hL h2)
  · rcases hsl.2 with h1 | ⟨i, q, b, off, cs, T, fr, rfl, hb, hle, hnews⟩
    · exact absurd h1 h0
    · exact K1_append hd ht hi hz hsize hby hzs hs hy hown hb hle hnews hone h63 hbytes hL htt hmm hxn h
end
theorem own_sliA {E size : Nat} {a : Option Addr} {c n : Nat} {xs : List Value} {e : List Blk} (h : Own E size (.slice a n c) n xs e) (L : List Blk) : Sli (e ++ L) a n size xs := by
  obtain ⟨a', c', h1, h2⟩ := h.sli L
  cases h1
  exact h2
theorem call_cell (l : List CallD) : (flatC l).all (·.oneCell') = true := by
  rw [List.all_eq_true]
  intro u hu
  obtain ⟨t, -, ht⟩ := List.mem_flatMap.1 hu
  simp only [CallD.cells, List.mem_cons, List.not_mem_nil, or_false] at ht
  rcases ht with rfl | rfl | rfl | rfl | rfl | rfl | rfl <;> rfl
theorem wr_ne (a b : Int) : RBin Tryd.prog .neq 34 (.agg #[.int .i64 a, .int .i64 b]) (.agg #[.int .i64 a, .int .i64 b]) (.bool false) := by
  apply RBin.mk
  intro w
  go_simp
theorem cl_ne (t : Int) (f : Bool) (n a b : Int) (x y : ByteArray) : RBin Tryd.prog .neq 52 (.agg #[.int .u8 t, .bool f, .int .u32 n, .int .u64 a, .int .u64 b, .string x, .string y]) (.agg #[.int .u8 t, .bool f, .int .u32 n, .int .u64 a, .int .u64 b, .string x, .string y]) (.bool false) := by
  have h49 : ∀ w, (Op.equalIn 9999 49 (Value.agg #[Value.int IntKind.u64 a, Value.int IntKind.u64 b]) (Value.agg #[Value.int IntKind.u64 a, Value.int IntKind.u64 b])).run Tryd.prog w = .ok true w := by
    intro w
    rw [run_equalIn_array w 9998 _ _ Tryd.underlying49 inf_48_i]
    simp only [show List.range 2 = [0, 1] from rfl, Op.eqItems, show Tryd.prog.cellsOf 48 = 1 by kernel_rfl]
    go_simp
  have h50 : ∀ w, (Op.equalIn 9999 50 (Value.agg #[Value.string x, Value.string y]) (Value.agg #[Value.string x, Value.string y])).run Tryd.prog w = .ok true w := by
    intro w
    rw [run_equalIn_array w 9998 _ _ Tryd.underlying50 inf_9_i]
    simp only [show List.range 2 = [0, 1] from rfl, Op.eqItems, show Tryd.prog.cellsOf 9 = 1 by kernel_rfl]
    go_simp
  apply RBin.mk
  intro w
  go_simp
theorem splc_len (CS : List Value) (o : Nat) (vs : List Value) (h : o + vs.length ≤ CS.length) : (splice CS o vs).length = CS.length := by
  unfold splice
  rw [List.length_append, List.length_append, List.length_take, List.length_drop]
  omega
theorem splice_get (CS : List Value) (o : Nat) (vs : List Value) (h : o + vs.length ≤ CS.length) : ((splice CS o vs).drop o).take vs.length = vs := by
  unfold splice
  have e : (CS.take o).length = o := by rw [List.length_take]; omega
  rw [List.append_assoc, List.drop_append_of_le_length (by omega), List.drop_of_length_le (by omega), List.nil_append, List.take_left]
theorem splice_flat (X : List CallD) (k : Nat) (hk : k < X.length) (c : CallD) (CS : List Value) (h : CS.take (X.length * 7) = flatC X) : (splice CS (k * 7) c.cells).take (X.length * 7) = flatC (X.set k c) := by
  have h7 : c.cells.length = 7 := rfl
  have hl : (flatC X).length = X.length * 7 := flatC_len X
  have hCS : CS = flatC X ++ CS.drop (X.length * 7) := by rw [← h, List.take_append_drop]
  have hX : flatC X = flatC (X.take k) ++ (X[k].cells ++ flatC (X.drop (k + 1))) := by
    have := congrArg flatC (List.take_append_drop k X)
    rw [List.drop_eq_getElem_cons hk] at this
    rw [← this, flatC, List.flatMap_append, List.flatMap_cons]; rfl
  have hk1 : (flatC (X.take k)).length = k * 7 := by rw [flatC_len, List.length_take]; congr 1; omega
  have hk2 : (flatC (X.drop (k + 1))).length = (X.length - (k + 1)) * 7 := by rw [flatC_len, List.length_drop]
  have h7' : X[k].cells.length = 7 := rfl
  have e1 : CS.take (k * 7) = flatC (X.take k) := by
    rw [hCS, hX, List.append_assoc, ← hk1, List.take_left]
  have e2 : CS.drop (k * 7 + 7) = flatC (X.drop (k + 1)) ++ CS.drop (X.length * 7) := by
    have : CS = (flatC (X.take k) ++ X[k].cells) ++ (flatC (X.drop (k + 1)) ++ CS.drop (X.length * 7)) := by
      have h2 := hCS
      rw [hX] at h2
      simpa [List.append_assoc] using h2
    have hl2 : (flatC (X.take k) ++ X[k].cells).length = k * 7 + 7 := by rw [List.length_append, hk1, h7']
    have h3 := congrArg (fun z => z.drop (k * 7 + 7)) this
    rw [← hl2] at h3 ⊢
    exact h3.trans List.drop_left
  have hset : flatC (X.set k c) = flatC (X.take k) ++ (c.cells ++ flatC (X.drop (k + 1))) := by
    rw [List.set_eq_take_append_cons_drop, if_pos hk]
    simp [flatC]
  unfold splice
  rw [h7, e1, e2, hset, List.append_assoc, ← List.append_assoc c.cells, ← List.append_assoc]
  have hlen : (flatC (X.take k) ++ (c.cells ++ flatC (X.drop (k + 1)))).length = X.length * 7 := by
    rw [List.length_append, List.length_append, hk1, hk2, h7]
    have : X.length = k + 1 + (X.length - (k + 1)) := by omega
    generalize X.length - (k + 1) = r at *
    rw [this]; omega
  rw [← hlen, List.take_left]
theorem sctext_x {S w0 L} (A B : List Blk) (tb m1 m2 n : Nat) (hn : n ≤ 90000) (l : List CallD) (hl : ∀ c ∈ l, GoodC c) (hlen : l.length ≤ 200) (a : Option Addr) (cap : Nat) (hs : Sli (A ++ (B ++ L)) a l.length 7 (flatC l)) :
    Fn Tryd.prog 20 #[.slice a l.length cap, .pointer (some ⟨tb, 0, none⟩)] S w0 (A ++ (B ++ (tbS tb m1 m2 n ++ L))) fun v L' => ∃ m1' m2', v = .string (mB8 (textC l)) ∧ A ++ (B ++ (tbS tb m1' m2' (n + l.length) ++ L)) = L' :=
  .mk fun w H => ((sctext_c (S := S) (w0 := w0) (L := A ++ (B ++ L)) tb m1 m2 n hn l hl hlen a cap hs).out w (by
    have h := HP.swapA (e := A ++ B) (tbS tb m1 m2 n) (by rw [List.append_assoc]; exact H)
    rw [List.append_assoc] at h; exact h)).mono fun e w' ⟨v, L', he, ⟨k1, k2, hv, hL⟩, H'⟩ => ⟨v, _, he, ⟨k1, k2, hv, rfl⟩, by
    have h := HP.swapA (e := tbS tb k1 k2 (n + l.length)) (A ++ B) (by rw [List.append_assoc]; exact hL ▸ H')
    rw [List.append_assoc] at h; exact h⟩
theorem scr_x {w0 L} (A B : List Blk) (hT : Lib.TabIs Tryd.prog w0 "strings.asciiSpace" .u8 Lib.asciiSpaceTab) {tb m1 m2 n : Nat} {s : ByteArray} {l : List CallD} {a e : Nat} (hs : s.size ≤ 80000) (hn : n ≤ 1000) (ha : ∀ b ∈ lB s, b.toNat < 128) (h : scrF (lB s) = (l, a, e)) :
    Fn Tryd.prog 10 #[.string s, .pointer (some ⟨tb, 0, none⟩)] [] w0 (A ++ (B ++ (tbS tb m1 m2 n ++ L))) fun v L' => ∃ m1' m2' n' vo eo, n ≤ n' ∧ n' ≤ n + s.size + 1 ∧ v = tupleOf [vo, .agg #[.int .i64 (a : Nat), .int .i64 (e : Nat)]] ∧ Own 52 7 vo l.length (flatC l) eo ∧ eo ++ (tbS tb m1' m2' n' ++ (A ++ (B ++ L))) = L' :=
  .mk fun w H => (scr_of (L := A ++ (B ++ L)) hT hs hn ha h).out w (by
    have h := HP.swapA (e := A ++ B) (tbS tb m1 m2 n) (by rw [List.append_assoc]; exact H)
    rw [List.append_assoc] at h; exact h)
structure S0I (l : List SmD) (g : Nat × Value × List Blk × List CallD) : Prop where
  le : g.1 ≤ l.length
  len : g.2.2.2.length = g.1
  own : Own 52 7 g.2.1 g.2.2.2.length (flatC g.2.2.2) g.2.2.1
  good : ∀ c ∈ g.2.2.2, GoodX c
structure SbG where
  k : Nat
  X : List CallD
  eX : List Blk
  m1 : Nat
  m2 : Nat
  vw : Value
  ew : List Blk
structure SbI (N : Nat) (vX : Value) (g : SbG) : Prop where
  le : g.k ≤ N
  len : g.X.length = N
  okx : ∀ c ∈ g.X, GoodX c
  good : ∀ c ∈ g.X.take g.k, GoodC c
  ownX : Own 52 7 vX N (flatC g.X) g.eX
  own : Own 52 7 g.vw ((g.X.take g.k).filter isC).length (flatC ((g.X.take g.k).filter isC)) g.ew
theorem take_set (X : List CallD) (k : Nat) (h : k < X.length) (c : CallD) : (X.set k c).take (k + 1) = X.take k ++ [c] := by
  rw [List.take_add_one, List.getElem?_set_self h, List.take_set_of_le (Nat.le_refl _)]; rfl
set_option maxRecDepth 100000 in
set_option maxHeartbeats 8000000 in
theorem scriptBack_c {w0 L} (hT : Lib.TabIs Tryd.prog w0 "strings.asciiSpace" .u8 Lib.asciiSpaceTab) (l : List SmD) (hl : ∀ x ∈ l, x.ok L) (hm : l.length ≤ maxLen) (a : Option Addr) (cap : Nat) (hsl : Sli L a l.length 17 (l.flatMap SmD.cells))
    (cs : List CallD) (hcs : ∀ c ∈ cs, c.ok) (hcm : cs.length ≤ maxLen) (a2 : Option Addr) (cap2 : Nat) (hss : Sli L a2 cs.length 7 (flatC cs)) :
    Fn Tryd.prog 6 #[.slice a l.length cap, .slice a2 cs.length cap2] [] w0 L fun v L' => v = .bool true ∧ L = L' := by
  have haw := fun (L : List Blk) => awake28_c (L := L) hT
  have h26 := light26_c (S := []) (w0 := w0) (L := L) l a l.length cap rfl hsl hm
  have h25 := light_c (S := []) (w0 := w0) (L := L) cs a2 cs.length cap2 rfl hss hcm
  unfold maxLen at hm hcm
  cases hA : l.all slight
  · rw [hA] at h26
    refine Fn2 Tryd.func6 Tryd.ntmps6 rfl rfl ?_
    repeat' (first | refine G_seq ?_ | refine G_then_n ?_ | refine G_then_r ?_ | refine G_skip ?_ | refine G_ret ?_ | refine G_cond_t rfl ?_ | refine G_cond_f rfl ?_ | ((refine G_region (id := 0) ?_ <;> (try (refine G_op1 ?_; ((apply K1_ev; exact rfl; ((focus (exact E_assign rfl))))))) <;> (try (refine G_nil ?_)))) | ((refine G_region (id := 1) ?_ <;> (try (refine G_op1 ?_; (((refine K1_call (F := 7) (by kernel_rfl) rfl rfl (haw _) ?_; rintro _ _ ⟨rfl, rfl⟩))))) <;> (try (refine G_op1 ?_; ((apply K1_ev; exact rfl; ((focus ((apply E_un; exact rfl; ((focus (exact ru_not_t))))))))))) <;> (try (refine G_nil ?_)))) | ((refine G_region (id := 3) ?_ <;> (try (refine G_op1 ?_; ((apply K1_ev; exact rfl; ((focus (exact E_move rfl))))))) <;> (try (refine G_op1 ?_; (((refine K1_call (F := 14) (by kernel_rfl) rfl rfl (h26) ?_; rintro _ _ ⟨rfl, rfl⟩))))) <;> (try (refine G_op1 ?_; ((apply K1_ev; exact rfl; ((focus ((apply E_un; exact rfl; ((focus (exact ru_not_f))))))))))) <;> (try (refine G_op1 ?_; ((apply K1_ev; exact rfl; ((focus (exact E_move rfl))))))) <;> (try (refine G_op1 ?_; (refine K1_no rfl rfl rfl rfl ?_))) <;> (try (refine G_op1 ?_; (refine K1_no rfl rfl rfl rfl ?_))) <;> (try (refine G_op1 ?_; (refine K1_no rfl rfl rfl rfl ?_))) <;> (try (refine G_op1 ?_; ((apply K1_ev; exact rfl; ((focus (exact E_pick rfl rfl))))))) <;> (try (refine G_op1 ?_; ((apply K1_ev; exact rfl; ((focus (exact E_move rfl))))))) <;> (try (refine G_op1 ?_; (refine K1_no rfl rfl rfl rfl ?_))) <;> (try (refine G_op1 ?_; (refine K1_no rfl rfl rfl rfl ?_))) <;> (try (refine G_op1 ?_; (refine K1_no rfl rfl rfl rfl ?_))) <;> (try (refine G_op1 ?_; ((apply K1_ev; exact rfl; ((focus (exact E_pick rfl rfl))))))) <;> (try (refine G_op1 ?_; ((apply K1_ev; exact rfl; ((focus (exact E_move rfl))))))) <;> (try (refine G_op1 ?_; (refine K1_no rfl rfl rfl rfl ?_))) <;> (try (refine G_op1 ?_; (refine K1_no rfl rfl rfl rfl ?_))) <;> (try (refine G_op1 ?_; (refine K1_no rfl rfl rfl rfl ?_))) <;> (try (refine G_op1 ?_; ((apply K1_ev; exact rfl; ((focus (exact E_pick rfl rfl))))))) <;> (try (refine G_nil ?_)))) | ((refine G_region (id := 4) ?_ <;> (try (refine G_op1 ?_; ((apply K1_ev; exact rfl; ((focus (exact E_assign rfl))))))) <;> (try (refine G_nil ?_)))))
    (refine G_done Tryd.results6 (.tmp rfl .nil) ?_)
    exact ⟨_, ⟨rfl, rfl⟩, by intro w H; refine H.sub ?_; (try simp only [List.cons_append, List.nil_append]); repeat (first | exact List.Sublist.refl _ | refine List.Sublist.cons_cons _ ?_ | refine List.Sublist.cons _ ?_ | refine List.sublist_append_of_sublist_right ?_)⟩
  rw [hA] at h26
  cases hB : cs.all light
  · rw [hB] at h25
    refine Fn2 Tryd.func6 Tryd.ntmps6 rfl rfl ?_
    repeat' (first | refine G_seq ?_ | refine G_then_n ?_ | refine G_then_r ?_ | refine G_skip ?_ | refine G_ret ?_ | refine G_cond_t rfl ?_ | refine G_cond_f rfl ?_ | ((refine G_region (id := 0) ?_ <;> (try (refine G_op1 ?_; ((apply K1_ev; exact rfl; ((focus (exact E_assign rfl))))))) <;> (try (refine G_nil ?_)))) | ((refine G_region (id := 1) ?_ <;> (try (refine G_op1 ?_; (((refine K1_call (F := 7) (by kernel_rfl) rfl rfl (haw _) ?_; rintro _ _ ⟨rfl, rfl⟩))))) <;> (try (refine G_op1 ?_; ((apply K1_ev; exact rfl; ((focus ((apply E_un; exact rfl; ((focus (exact ru_not_t))))))))))) <;> (try (refine G_nil ?_)))) | ((refine G_region (id := 3) ?_ <;> (try (refine G_op1 ?_; ((apply K1_ev; exact rfl; ((focus (exact E_move rfl))))))) <;> (try (refine G_op1 ?_; (((refine K1_call (F := 14) (by kernel_rfl) rfl rfl (h26) ?_; rintro _ _ ⟨rfl, rfl⟩))))) <;> (try (refine G_op1 ?_; ((apply K1_ev; exact rfl; ((focus ((apply E_un; exact rfl; ((focus (exact ru_not_t))))))))))) <;> (try (refine G_op1 ?_; ((apply K1_ev; exact rfl; ((focus (exact E_move rfl))))))) <;> (try (refine G_op1 ?_; ((refine K1_yes rfl rfl rfl ?_; ((apply K1_ev; exact rfl; ((focus (exact E_move rfl))))))))) <;> (try (refine G_op1 ?_; ((refine K1_yes rfl rfl rfl ?_; (((refine K1_call (F := 15) (by kernel_rfl) rfl rfl (h25) ?_; rintro _ _ ⟨rfl, rfl⟩))))))) <;> (try (refine G_op1 ?_; ((refine K1_yes rfl rfl rfl ?_; ((apply K1_ev; exact rfl; ((focus ((apply E_un; exact rfl; ((focus (exact ru_not_f))))))))))))) <;> (try (refine G_op1 ?_; ((apply K1_ev; exact rfl; ((focus (exact E_pick rfl rfl))))))) <;> (try (refine G_op1 ?_; ((apply K1_ev; exact rfl; ((focus (exact E_move rfl))))))) <;> (try (refine G_op1 ?_; (refine K1_no rfl rfl rfl rfl ?_))) <;> (try (refine G_op1 ?_; (refine K1_no rfl rfl rfl rfl ?_))) <;> (try (refine G_op1 ?_; (refine K1_no rfl rfl rfl rfl ?_))) <;> (try (refine G_op1 ?_; ((apply K1_ev; exact rfl; ((focus (exact E_pick rfl rfl))))))) <;> (try (refine G_op1 ?_; ((apply K1_ev; exact rfl; ((focus (exact E_move rfl))))))) <;> (try (refine G_op1 ?_; (refine K1_no rfl rfl rfl rfl ?_))) <;> (try (refine G_op1 ?_; (refine K1_no rfl rfl rfl rfl ?_))) <;> (try (refine G_op1 ?_; (refine K1_no rfl rfl rfl rfl ?_))) <;> (try (refine G_op1 ?_; ((apply K1_ev; exact rfl; ((focus (exact E_pick rfl rfl))))))) <;> (try (refine G_nil ?_)))) | ((refine G_region (id := 4) ?_ <;> (try (refine G_op1 ?_; ((apply K1_ev; exact rfl; ((focus (exact E_assign rfl))))))) <;> (try (refine G_nil ?_)))))
    (refine G_done Tryd.results6 (.tmp rfl .nil) ?_)
    exact ⟨_, ⟨rfl, rfl⟩, by intro w H; refine H.sub ?_; (try simp only [List.cons_append, List.nil_append]); repeat (first | exact List.Sublist.refl _ | refine List.Sublist.cons_cons _ ?_ | refine List.Sublist.cons _ ?_ | refine List.sublist_append_of_sublist_right ?_)⟩
  rw [hB] at h25
  by_cases h60 : 60 < l.length
  · refine Fn2 Tryd.func6 Tryd.ntmps6 rfl rfl ?_
    repeat' (first | refine G_seq ?_ | refine G_then_n ?_ | refine G_then_r ?_ | refine G_skip ?_ | refine G_ret ?_ | refine G_cond_t rfl ?_ | refine G_cond_f rfl ?_ | ((refine G_region (id := 0) ?_ <;> (try (refine G_op1 ?_; ((apply K1_ev; exact rfl; ((focus (exact E_assign rfl))))))) <;> (try (refine G_nil ?_)))) | ((refine G_region (id := 1) ?_ <;> (try (refine G_op1 ?_; (((refine K1_call (F := 7) (by kernel_rfl) rfl rfl (haw _) ?_; rintro _ _ ⟨rfl, rfl⟩))))) <;> (try (refine G_op1 ?_; ((apply K1_ev; exact rfl; ((focus ((apply E_un; exact rfl; ((focus (exact ru_not_t))))))))))) <;> (try (refine G_nil ?_)))) | ((refine G_region (id := 3) ?_ <;> (try (refine G_op1 ?_; ((apply K1_ev; exact rfl; ((focus (exact E_move rfl))))))) <;> (try (refine G_op1 ?_; (((refine K1_call (F := 14) (by kernel_rfl) rfl rfl (h26) ?_; rintro _ _ ⟨rfl, rfl⟩))))) <;> (try (refine G_op1 ?_; ((apply K1_ev; exact rfl; ((focus ((apply E_un; exact rfl; ((focus (exact ru_not_t))))))))))) <;> (try (refine G_op1 ?_; ((apply K1_ev; exact rfl; ((focus (exact E_move rfl))))))) <;> (try (refine G_op1 ?_; ((refine K1_yes rfl rfl rfl ?_; ((apply K1_ev; exact rfl; ((focus (exact E_move rfl))))))))) <;> (try (refine G_op1 ?_; ((refine K1_yes rfl rfl rfl ?_; (((refine K1_call (F := 15) (by kernel_rfl) rfl rfl (h25) ?_; rintro _ _ ⟨rfl, rfl⟩))))))) <;> (try (refine G_op1 ?_; ((refine K1_yes rfl rfl rfl ?_; ((apply K1_ev; exact rfl; ((focus ((apply E_un; exact rfl; ((focus (exact ru_not_t))))))))))))) <;> (try (refine G_op1 ?_; ((apply K1_ev; exact rfl; ((focus (exact E_pick rfl rfl))))))) <;> (try (refine G_op1 ?_; ((apply K1_ev; exact rfl; ((focus (exact E_move rfl))))))) <;> (try (refine G_op1 ?_; ((refine K1_yes rfl rfl rfl ?_; ((apply K1_ev; exact rfl; ((focus (exact E_move rfl))))))))) <;> (try (refine G_op1 ?_; ((refine K1_yes rfl rfl rfl ?_; ((apply K1_ev; exact rfl; ((focus ((apply E_builtin; exact rfl; exact (fun _ => BigFrame.builtin_len ..); apply r_len_slice_e Tryd.underlying43; ((focus ((try simp only [Int.cast_ofNat_Int]); exact rfl))))))))))))) <;> (try (refine G_op1 ?_; ((refine K1_yes rfl rfl rfl ?_; ((apply K1_ev; exact rfl; ((focus ((apply E_bin (op := .gtr) (t := 3); exact rfl; exact rfl; exact rfl; ((focus ((refine rb_gtr_t ?_; first | (with_reducible assumption) | (decide; done) | omega)))))))))))))) <;> (try (refine G_op1 ?_; ((apply K1_ev; exact rfl; ((focus (exact E_pick rfl rfl))))))) <;> (try (refine G_op1 ?_; ((apply K1_ev; exact rfl; ((focus (exact E_move rfl))))))) <;> (try (refine G_op1 ?_; (refine K1_no rfl rfl rfl rfl ?_))) <;> (try (refine G_op1 ?_; (refine K1_no rfl rfl rfl rfl ?_))) <;> (try (refine G_op1 ?_; (refine K1_no rfl rfl rfl rfl ?_))) <;> (try (refine G_op1 ?_; ((apply K1_ev; exact rfl; ((focus (exact E_pick rfl rfl))))))) <;> (try (refine G_nil ?_)))) | ((refine G_region (id := 4) ?_ <;> (try (refine G_op1 ?_; ((apply K1_ev; exact rfl; ((focus (exact E_assign rfl))))))) <;> (try (refine G_nil ?_)))))
    (refine G_done Tryd.results6 (.tmp rfl .nil) ?_)
    exact ⟨_, ⟨rfl, rfl⟩, by intro w H; refine H.sub ?_; (try simp only [List.cons_append, List.nil_append]); repeat (first | exact List.Sublist.refl _ | refine List.Sublist.cons_cons _ ?_ | refine List.Sublist.cons _ ?_ | refine List.sublist_append_of_sublist_right ?_)⟩
  by_cases h20 : 20 < cs.length
  · refine Fn2 Tryd.func6 Tryd.ntmps6 rfl rfl ?_
    repeat' (first | refine G_seq ?_ | refine G_then_n ?_ | refine G_then_r ?_ | refine G_skip ?_ | refine G_ret ?_ | refine G_cond_t rfl ?_ | refine G_cond_f rfl ?_ | ((refine G_region (id := 0) ?_ <;> (try (refine G_op1 ?_; ((apply K1_ev; exact rfl; ((focus (exact E_assign rfl))))))) <;> (try (refine G_nil ?_)))) | ((refine G_region (id := 1) ?_ <;> (try (refine G_op1 ?_; (((refine K1_call (F := 7) (by kernel_rfl) rfl rfl (haw _) ?_; rintro _ _ ⟨rfl, rfl⟩))))) <;> (try (refine G_op1 ?_; ((apply K1_ev; exact rfl; ((focus ((apply E_un; exact rfl; ((focus (exact ru_not_t))))))))))) <;> (try (refine G_nil ?_)))) | ((refine G_region (id := 3) ?_ <;> (try (refine G_op1 ?_; ((apply K1_ev; exact rfl; ((focus (exact E_move rfl))))))) <;> (try (refine G_op1 ?_; (((refine K1_call (F := 14) (by kernel_rfl) rfl rfl (h26) ?_; rintro _ _ ⟨rfl, rfl⟩))))) <;> (try (refine G_op1 ?_; ((apply K1_ev; exact rfl; ((focus ((apply E_un; exact rfl; ((focus (exact ru_not_t))))))))))) <;> (try (refine G_op1 ?_; ((apply K1_ev; exact rfl; ((focus (exact E_move rfl))))))) <;> (try (refine G_op1 ?_; ((refine K1_yes rfl rfl rfl ?_; ((apply K1_ev; exact rfl; ((focus (exact E_move rfl))))))))) <;> (try (refine G_op1 ?_; ((refine K1_yes rfl rfl rfl ?_; (((refine K1_call (F := 15) (by kernel_rfl) rfl rfl (h25) ?_; rintro _ _ ⟨rfl, rfl⟩))))))) <;> (try (refine G_op1 ?_; ((refine K1_yes rfl rfl rfl ?_; ((apply K1_ev; exact rfl; ((focus ((apply E_un; exact rfl; ((focus (exact ru_not_t))))))))))))) <;> (try (refine G_op1 ?_; ((apply K1_ev; exact rfl; ((focus (exact E_pick rfl rfl))))))) <;> (try (refine G_op1 ?_; ((apply K1_ev; exact rfl; ((focus (exact E_move rfl))))))) <;> (try (refine G_op1 ?_; ((refine K1_yes rfl rfl rfl ?_; ((apply K1_ev; exact rfl; ((focus (exact E_move rfl))))))))) <;> (try (refine G_op1 ?_; ((refine K1_yes rfl rfl rfl ?_; ((apply K1_ev; exact rfl; ((focus ((apply E_builtin; exact rfl; exact (fun _ => BigFrame.builtin_len ..); apply r_len_slice_e Tryd.underlying43; ((focus ((try simp only [Int.cast_ofNat_Int]); exact rfl))))))))))))) <;> (try (refine G_op1 ?_; ((refine K1_yes rfl rfl rfl ?_; ((apply K1_ev; exact rfl; ((focus ((apply E_bin (op := .gtr) (t := 3); exact rfl; exact rfl; exact rfl; ((focus ((refine rb_gtr_f ?_; first | (with_reducible assumption) | (decide; done) | omega)))))))))))))) <;> (try (refine G_op1 ?_; ((apply K1_ev; exact rfl; ((focus (exact E_pick rfl rfl))))))) <;> (try (refine G_op1 ?_; ((apply K1_ev; exact rfl; ((focus (exact E_move rfl))))))) <;> (try (refine G_op1 ?_; ((refine K1_yes rfl rfl rfl ?_; ((apply K1_ev; exact rfl; ((focus (exact E_move rfl))))))))) <;> (try (refine G_op1 ?_; ((refine K1_yes rfl rfl rfl ?_; ((apply K1_ev; exact rfl; ((focus ((apply E_builtin; exact rfl; exact (fun _ => BigFrame.builtin_len ..); apply r_len_slice_e Tryd.underlying32; ((focus ((try simp only [Int.cast_ofNat_Int]); exact rfl))))))))))))) <;> (try (refine G_op1 ?_; ((refine K1_yes rfl rfl rfl ?_; ((apply K1_ev; exact rfl; ((focus ((apply E_bin (op := .gtr) (t := 3); exact rfl; exact rfl; exact rfl; ((focus ((refine rb_gtr_t ?_; first | (with_reducible assumption) | (decide; done) | omega)))))))))))))) <;> (try (refine G_op1 ?_; ((apply K1_ev; exact rfl; ((focus (exact E_pick rfl rfl))))))) <;> (try (refine G_nil ?_)))) | ((refine G_region (id := 4) ?_ <;> (try (refine G_op1 ?_; ((apply K1_ev; exact rfl; ((focus (exact E_assign rfl))))))) <;> (try (refine G_nil ?_)))))
    (refine G_done Tryd.results6 (.tmp rfl .nil) ?_)
    exact ⟨_, ⟨rfl, rfl⟩, by intro w H; refine H.sub ?_; (try simp only [List.cons_append, List.nil_append]); repeat (first | exact List.Sublist.refl _ | refine List.Sublist.cons_cons _ ?_ | refine List.Sublist.cons _ ?_ | refine List.sublist_append_of_sublist_right ?_)⟩
  have hA' := Lib.hid (List.all_eq_true.1 hA)
  have hB' := Lib.hid (List.all_eq_true.1 hB)
  have hcc := call_cell cs
  have hl' := Lib.hid hl
  have hcs' := Lib.hid hcs
  clear hA hB hl hcs
  refine Fn2 Tryd.func6 Tryd.ntmps6 rfl rfl ?_
  repeat' (first | ((refine G_markb (id := 0) ?_)) | refine G_seq ?_ | refine G_then_n ?_ | refine G_skip ?_ | refine G_cond_f rfl ?_ | ((refine G_region (id := 0) ?_ <;> (try (refine G_op1 ?_; ((apply K1_ev; exact rfl; ((focus (exact E_assign rfl))))))) <;> (try (refine G_nil ?_)))) | ((refine G_region (id := 1) ?_ <;> (try (refine G_op1 ?_; (((refine K1_call (F := 7) (by kernel_rfl) rfl rfl (haw _) ?_; rintro _ _ ⟨rfl, rfl⟩))))) <;> (try (refine G_op1 ?_; ((apply K1_ev; exact rfl; ((focus ((apply E_un; exact rfl; ((focus (exact ru_not_t))))))))))) <;> (try (refine G_nil ?_)))) | ((refine G_region (id := 3) ?_ <;> (try (refine G_op1 ?_; ((apply K1_ev; exact rfl; ((focus (exact E_move rfl))))))) <;> (try (refine G_op1 ?_; (((refine K1_call (F := 14) (by kernel_rfl) rfl rfl (h26) ?_; rintro _ _ ⟨rfl, rfl⟩))))) <;> (try (refine G_op1 ?_; ((apply K1_ev; exact rfl; ((focus ((apply E_un; exact rfl; ((focus (exact ru_not_t))))))))))) <;> (try (refine G_op1 ?_; ((apply K1_ev; exact rfl; ((focus (exact E_move rfl))))))) <;> (try (refine G_op1 ?_; ((refine K1_yes rfl rfl rfl ?_; ((apply K1_ev; exact rfl; ((focus (exact E_move rfl))))))))) <;> (try (refine G_op1 ?_; ((refine K1_yes rfl rfl rfl ?_; (((refine K1_call (F := 15) (by kernel_rfl) rfl rfl (h25) ?_; rintro _ _ ⟨rfl, rfl⟩))))))) <;> (try (refine G_op1 ?_; ((refine K1_yes rfl rfl rfl ?_; ((apply K1_ev; exact rfl; ((focus ((apply E_un; exact rfl; ((focus (exact ru_not_t))))))))))))) <;> (try (refine G_op1 ?_; ((apply K1_ev; exact rfl; ((focus (exact E_pick rfl rfl))))))) <;> (try (refine G_op1 ?_; ((apply K1_ev; exact rfl; ((focus (exact E_move rfl))))))) <;> (try (refine G_op1 ?_; ((refine K1_yes rfl rfl rfl ?_; ((apply K1_ev; exact rfl; ((focus (exact E_move rfl))))))))) <;> (try (refine G_op1 ?_; ((refine K1_yes rfl rfl rfl ?_; ((apply K1_ev; exact rfl; ((focus ((apply E_builtin; exact rfl; exact (fun _ => BigFrame.builtin_len ..); apply r_len_slice_e Tryd.underlying43; ((focus ((try simp only [Int.cast_ofNat_Int]); exact rfl))))))))))))) <;> (try (refine G_op1 ?_; ((refine K1_yes rfl rfl rfl ?_; ((apply K1_ev; exact rfl; ((focus ((apply E_bin (op := .gtr) (t := 3); exact rfl; exact rfl; exact rfl; ((focus ((refine rb_gtr_f ?_; first | (with_reducible assumption) | (decide; done) | omega)))))))))))))) <;> (try (refine G_op1 ?_; ((apply K1_ev; exact rfl; ((focus (exact E_pick rfl rfl))))))) <;> (try (refine G_op1 ?_; ((apply K1_ev; exact rfl; ((focus (exact E_move rfl))))))) <;> (try (refine G_op1 ?_; ((refine K1_yes rfl rfl rfl ?_; ((apply K1_ev; exact rfl; ((focus (exact E_move rfl))))))))) <;> (try (refine G_op1 ?_; ((refine K1_yes rfl rfl rfl ?_; ((apply K1_ev; exact rfl; ((focus ((apply E_builtin; exact rfl; exact (fun _ => BigFrame.builtin_len ..); apply r_len_slice_e Tryd.underlying32; ((focus ((try simp only [Int.cast_ofNat_Int]); exact rfl))))))))))))) <;> (try (refine G_op1 ?_; ((refine K1_yes rfl rfl rfl ?_; ((apply K1_ev; exact rfl; ((focus ((apply E_bin (op := .gtr) (t := 3); exact rfl; exact rfl; exact rfl; ((focus ((refine rb_gtr_f ?_; first | (with_reducible assumption) | (decide; done) | omega)))))))))))))) <;> (try (refine G_op1 ?_; ((apply K1_ev; exact rfl; ((focus (exact E_pick rfl rfl))))))) <;> (try (refine G_nil ?_)))) | ((refine G_region (id := 5) ?_ <;> (try (refine G_op1 ?_; (((apply K1_call (F := 9); kernel_rfl; exact rfl; exact rfl; apply new_c; rintro _ _ ⟨bt, rfl, rfl⟩; (try simp only [List.eraseIdx_cons_succ]); (try simp only [List.eraseIdx_cons_zero])))))) <;> (try (refine G_op1 ?_; ((apply K1_ev; exact rfl; ((focus (exact E_assign rfl))))))) <;> (try (refine G_nil ?_)))) | ((refine G_region (id := 6) ?_ <;> (try (refine G_op1 ?_; ((apply K1_ev; exact rfl; ((focus (exact E_assign rfl))))))) <;> (try (refine G_op1 ?_; ((apply K1_ev; exact rfl; ((focus (exact E_assign rfl))))))) <;> (try (refine G_nil ?_)))) | ((refine G_region (id := 7) ?_ <;> (try (refine G_op1 ?_; ((apply K1_ev; exact rfl; ((focus (exact E_move rfl))))))) <;> (try (refine G_op1 ?_; ((apply K1_ev; exact rfl; ((focus ((apply E_builtin; exact rfl; exact (fun _ => BigFrame.builtin_len ..); apply r_len_slice_e Tryd.underlying43; ((focus ((try simp only [Int.cast_ofNat_Int]); exact rfl))))))))))) <;> (try (refine G_op1 ?_; ((apply K1_ev; exact rfl; ((focus (exact E_move rfl))))))) <;> (try (refine G_nil ?_)))))
  refine ⟨?_⟩
  clear haw h26 h25
  refine G_block ?_
  refine G_loopk (γ := Nat × Value × List Blk × List CallD) (S0I l) (fun g => l.length - g.1) (fun g => [(6, g.2.1), (43, .int .i64 (g.1 : Nat))]) [(1, _), (5, _), (7, _), (41, _), (42, _)]
    (fun g => g.2.2.1 ++ (tbl0 bt 0 0 :: L)) (0, .slice none 0 0, [], []) (.cons rfl (.cons rfl (.cons rfl (.cons rfl (.cons rfl .nil))))) ⟨Nat.zero_le _, rfl, Own.nil _ _, fun c h => (by cases h)⟩ (by ((focus (repeat (first | exact Sub.nil | refine Sub.cons rfl ?_ | (refine Sub.cons (congrArg some ?_) ?_; (focus go_num))))))) (fun _ H => H) ?_
  rintro ⟨k, vo, eo, X⟩ ⟨hk, hlen, hown, hgood⟩
  dsimp only at hk hlen hown hgood ⊢
  simp only [List.cons_append, List.nil_append]
  obtain ⟨ao, co, rfl⟩ := own_sl hown
  have hgood' := Lib.hid hgood
  clear hgood
  by_cases hlt : k < l.length
  · obtain ⟨j, q, b, off, csx, T, fr, rfl, hj, hsz, hx⟩ := ((hsl.up (tbl0 bt 0 0)).upA eo).elem hlt
    rw [flatG_at (cells := SmD.cells) (m := 17) (fun _ => rfl) l k hlt] at hx
    have hok := hl'.out _ (List.getElem_mem hlt)
    have hsg := hA'.out _ (List.getElem_mem hlt)
    generalize l[k] = s at hx hok hsg
    have hcall := fun (x : Blk) => call26_c (S := []) (w0 := w0) (L := x :: (eo ++ (tbl0 bt 0 0 :: L))) s (((hok.r (M := [tbl0 bt 0 0])).r (M := eo)).r (M := [x])) hsg
    obtain ⟨k1, k2, k3, k4, pl, pA, pC, ol, oA, oC, tx, f1, f2, ⟨ct, cf, cn, c0, c1, t0, t1⟩, rw⟩ := s
    simp only [SmD.cells] at hx hcall
    clear hok hsg
    repeat' (first | refine G_seq ?_ | refine G_then_n ?_ | refine G_cut_n ?_ | refine G_blk_n ?_ | refine G_block ?_ | refine G_skip ?_ | refine G_cond_t rfl ?_ | ((refine G_region (id := 8) ?_ <;> (try (refine G_op1 ?_; ((apply K1_ev; exact rfl; ((focus ((apply E_bin (op := .lss) (t := 3); exact rfl; exact rfl; exact rfl; ((focus ((refine rb_lss_t ?_; first | (with_reducible assumption) | (decide; done) | omega)))))))))))) <;> (try (refine G_nil ?_)))) | ((refine G_region (id := 9) ?_ <;> (try (refine G_op1 ?_; ((apply K1_ev; exact rfl; ((focus ((apply E_indexAddr; exact rfl; exact rfl; ((focus (apply r_ixs Tryd.underlying43 sz_54; (focus omega); (focus omega); ((focus ((try simp only [Int.toNat_natCast]); (try simp only [Int.reduceToNat]); (try simp only [Nat.mul_one]); (try simp only [Nat.zero_mul]); (try simp only [Nat.reduceMul]); (try simp only [Nat.zero_add]); (try simp only [Nat.add_zero]); (try simp only [Nat.reduceAdd]); exact rfl)))))))))))))) <;> (try (refine G_op1 ?_; ((apply K1_ev; exact rfl; ((focus ((apply E_loadA (t := 54); exact rfl; (((focus (repeat (with_reducible assumption))))); kernel_rfl; kernel_rfl; exact sz_54; (((focus (with_reducible assumption)))); (((focus (with_reducible assumption)))))))))))) <;> (try (refine G_op1 ?_; ((refine K1_alloc (t := 54) rfl Tryd.zeroValue54 ?_; intro nb hnb; (try simp only [Value.cells]))))) <;> (try (refine G_op1 ?_; (((apply K1_storeW (t := 54); exact rfl; exact rfl; (((focus (repeat (exact fd0))))); kernel_rfl; (((focus (exact rfl)))); (((focus (exact rfl)))); (try simp only [List.set_cons_succ]); (try simp only [List.set_cons_zero])))))) <;> (try (refine G_nil ?_)))) | ((refine G_region (id := 10) ?_ <;> (try (refine G_op1 ?_; ((apply K1_ev; exact rfl; ((focus (exact E_move rfl))))))) <;> (try (refine G_op1 ?_; ((apply K1_ev; exact rfl; ((focus ((apply E_loadA (t := 54); exact rfl; (((focus (repeat (exact fd0))))); kernel_rfl; kernel_rfl; exact sz_54; (((focus (exact Nat.le_of_ble_eq_true rfl)))); (((focus (((try simp only [List.drop_succ_cons]); (try simp only [List.drop_zero]); (try simp only [List.take_succ_cons]); (try simp only [List.take_zero]); (try simp only [List.take_nil]); exact rfl))))))))))))) <;> (try (refine G_op1 ?_; (((refine K1_call (F := 16) (by kernel_rfl) rfl rfl (hcall _) ?_; rintro _ _ ⟨dt, df, dn, da, db, dx, dy, rfl, hG, rfl⟩))))) <;> (try (refine G_op1 ?_; ((refine K1_buildSlice (t := 32) (m := 1) (e := 52) (fun (vs : List (Nat × Value)) => (match vs with | [(_, x0)] => x0.cells.toList | _ => [] : List Value)) rfl rfl (fun w => by kernel_rfl) ?_; intro nb hnb; (try simp only [Value.cells]); (try simp only [List.cons_append]); (try simp only [List.nil_append]))))) <;> (try (refine G_op1 ?_; ((((apply K1_append; exact rfl; exact Tryd.underlying32; exact inf_52_i; exact inf_52_z; exact inf_52_s; exact inf_52_b; exact rfl; exact rfl; exact rfl; (((focus (with_reducible assumption)))); (((focus (repeat (exact fd0))))); (((focus (exact Nat.le_of_ble_eq_true rfl)))); (((focus (((try simp only [List.drop_succ_cons]); (try simp only [List.drop_zero]); (try simp only [List.take_succ_cons]); (try simp only [List.take_zero]); (try simp only [List.take_nil]); exact rfl))))); (((focus (exact rfl)))); ((focus (unfold maxLen; omega))); (focus omega); (((focus (intro w H; repeat (first | exact H | (replace H := H.tail)))))); exact rfl; (((focus ((try simp only [Nat.zero_add]); (try simp only [Nat.reduceAdd]); exact rfl)))); (((focus ((try simp only [Nat.zero_mul]); (try simp only [List.take_zero]); (try simp only [List.nil_append]); (try simp only [List.cons_append]); (try simp only [List.nil_append]); exact rfl)))); intro vA eA hownA)))))) <;> (try (refine G_op1 ?_; ((apply K1_ev; exact rfl; ((focus (exact E_assign rfl))))))) <;> (try (refine G_nil ?_)))) | ((refine G_region (id := 11) ?_ <;> (try (refine G_op1 ?_; ((apply K1_ev; exact rfl; ((focus ((apply E_bin (op := .add) (t := 3); exact rfl; exact rfl; exact rfl; ((focus ((apply rb_add; (((focus ((try simp only [Int.reduceAdd]); (try simp only [Int.reduceSub]); (try simp only [Int.reduceMul]); (try simp only [Int.reduceMod]); (try simp only [Int.reduceDiv]); exact rfl)))); (((focus (refine IntWalk.i64_in _ ?_; omega)))))))))))))))) <;> (try (refine G_op1 ?_; ((apply K1_ev; exact rfl; ((focus (exact E_move rfl))))))) <;> (try (refine G_nil ?_)))))
    refine G_meet (k + 1, vA, eA, X ++ [⟨dt, df, dn, da, db, dx, dy⟩]) ⟨⟨by dsimp only; omega, by dsimp only; rw [List.length_append, hlen]; rfl, ?_, ?_⟩, by dsimp only; omega⟩ (by ((focus (repeat (first | exact Sub.nil | refine Sub.cons rfl ?_ | (refine Sub.cons (congrArg some ?_) ?_; (focus go_num))))))) (fun _ H => H)
    · dsimp only
      rw [List.length_append, flatC_snoc]
      exact hownA
    · intro c hc
      rcases List.mem_append.1 hc with hc | hc
      · exact hgood'.out c hc
      · rw [List.mem_singleton.1 hc]; exact hG
  obtain rfl : k = l.length := by omega
  have hss2 := (hss.up (tbl0 bt 0 0)).upA eo
  repeat' (first | ((refine G_markr (id := 13) ?_)) | refine G_seq ?_ | refine G_then_n ?_ | refine G_cut_x ?_ | refine G_then_x ?_ | refine G_blk_x ?_ | refine G_exit ?_ | refine G_cond_f rfl ?_ | ((refine G_region (id := 8) ?_ <;> (try (refine G_op1 ?_; ((apply K1_ev; exact rfl; ((focus ((apply E_bin (op := .lss) (t := 3); exact rfl; exact rfl; exact rfl; ((focus ((refine rb_lss_f ?_; first | (with_reducible assumption) | (decide; done) | omega)))))))))))) <;> (try (refine G_nil ?_)))) | ((refine G_region (id := 12) ?_ <;> (try (refine G_op1 ?_; ((apply K1_ev; exact rfl; ((focus (exact E_move rfl))))))) <;> (try (refine G_op1 ?_; ((apply K1_ev; exact rfl; ((focus (exact E_move rfl))))))) <;> (try (refine G_op1 ?_; (((apply K1_appendSl; exact rfl; exact Tryd.underlying32; exact inf_52_i; exact inf_52_z; exact inf_52_s; exact inf_52_b; exact rfl; exact rfl; exact rfl; (((focus (with_reducible assumption)))); ((focus (with_reducible assumption))); ((focus (with_reducible assumption))); ((focus (unfold maxLen; omega))); (focus omega); (((focus (intro w H; repeat (exact H))))); exact rfl; (((focus ((try simp only [Nat.zero_add]); (try simp only [Nat.reduceAdd]); exact rfl)))); (((focus ((try simp only [Nat.zero_mul]); (try simp only [List.take_zero]); (try simp only [List.nil_append]); (try simp only [List.cons_append]); (try simp only [List.nil_append]); exact rfl)))); intro vA eA hownA))))) <;> (try (refine G_op1 ?_; ((apply K1_ev; exact rfl; ((focus (exact E_assign rfl))))))) <;> (try (refine G_nil ?_)))))
  refine ⟨?_⟩
  obtain ⟨XX, N, hN, hNl, hXg, hXw⟩ : ∃ (XX : List CallD) (N : Nat), XX.length = N ∧ N ≤ 80 ∧ (∀ c ∈ XX, GoodX c) ∧ Own 52 7 vA N (flatC XX) eA := by
    refine ⟨X ++ cs, _, rfl, by rw [List.length_append]; omega, fun c hc => ?_, ?_⟩
    · rcases List.mem_append.1 hc with hc | hc
      · exact hgood'.out c hc
      · have h2 := hB'.out c hc
        unfold light at h2
        simp only [Bool.and_eq_true, decide_eq_true_eq] at h2
        exact ⟨hcs'.out c hc, h2.1, h2.2⟩
    · rw [List.length_append, flatC, List.flatMap_append]; exact hownA
  obtain ⟨eX0, rfl⟩ : ∃ x, x = eA := ⟨_, rfl⟩
  obtain ⟨aX, cX, rfl⟩ := own_sl hXw
  have hXg' := Lib.hid hXg
  clear hownA hown hgood' hss2 hXg hss hcc hsl hlen
  repeat' (first | ((refine G_markb (id := 2) ?_)) | refine G_then_n ?_ | ((refine G_region (id := 13) ?_ <;> (try (refine G_op1 ?_; ((apply K1_ev; exact rfl; ((focus (exact E_move rfl))))))) <;> (try (refine G_op1 ?_; ((apply K1_ev; exact rfl; ((focus ((apply E_builtin; exact rfl; exact (fun _ => BigFrame.builtin_len ..); apply r_len_slice_e Tryd.underlying32; ((focus ((try simp only [Int.cast_ofNat_Int]); exact rfl))))))))))) <;> (try (refine G_op1 ?_; ((apply K1_ev; exact rfl; ((focus (exact E_move rfl))))))) <;> (try (refine G_nil ?_)))))
  refine ⟨?_⟩
  refine G_block ?_
  refine G_loopk (γ := SbG) (SbI N (.slice aX N cX)) (fun g => N - g.k) (fun g => [(7, g.vw), (58, .int .i64 (g.k : Nat))]) [(5, _), (6, _), (56, _), (57, _)]
    (fun g => g.eX ++ (g.ew ++ (tbS bt g.m1 g.m2 g.k ++ L))) ⟨0, XX, eX0, 0, 0, .slice none 0 0, []⟩ (.cons rfl (.cons rfl (.cons rfl (.cons rfl .nil)))) ⟨Nat.zero_le _, hN, hXg'.out, fun c h => (by cases h), hXw, Own.nil _ _⟩ (by ((focus (repeat (first | exact Sub.nil | refine Sub.cons rfl ?_ | (refine Sub.cons (congrArg some ?_) ?_; (focus go_num))))))) (fun _ H => H) ?_
  clear hXw hXg' hN
  rintro ⟨k, X, eX, m1, m2, vw, ew⟩ ⟨hk, hlen, hgood, hbare, hXw, hWw⟩
  dsimp only at hk hlen hgood hbare hXw hWw ⊢
  simp only [List.cons_append, List.nil_append]
  by_cases hlt : k < N
  · have hgk := hgood _ (List.getElem_mem (show k < X.length by omega))
    have hfa := flatG_at (cells := CallD.cells) (m := 7) (fun _ => rfl) X k (show k < X.length by omega)
    obtain ⟨g1, cap1, cur1, hv1, rfl, q1, q2, q3, q4⟩ := hXw.some (by omega)
    injection hv1 with h1 h2 h3
    subst h1 h3
    obtain ⟨CS, rfl⟩ : ∃ CS : List Value, cur1 = CS.toArray := ⟨cur1.toList, by simp⟩
    have hx1 : (CS.toArray.toList.drop (k * 7)).take 7 = X[k].cells := by
      rw [← hfa, show X.flatMap CallD.cells = flatC X from rfl, ← q4, List.drop_take, List.take_take, Nat.min_eq_left (by omega)]
    have hz1 : k * 7 + 7 ≤ CS.toArray.size := by omega
    have hzl : CS.toArray.size = CS.length := by simp
    generalize X[k] = c at *
    obtain ⟨ct, cf, cn, c0, c1, t0, t1⟩ := c
    have hit := iand127 ct hgk.ok.task
    have hct : 0 ≤ ct ∧ ct < 256 := hgk.ok.task
    have hbe := fun (L : List Blk) => bareE_c (S := []) (w0 := w0) (L := L) (iand ct 127) cf cn c0 c1 t0 t1 ⟨by dsimp only; omega, hgk.ok.num, hgk.ok.n0, hgk.ok.n1, hgk.ok.t0, hgk.ok.t1⟩
    simp only [CallD.cells] at hx1
    have hgood' := Lib.hid hgood
    have hbare' := Lib.hid hbare
    have q4' := Lib.hid q4
    unfold maxLen at q2
    obtain ⟨aw, cw, rfl⟩ := own_sl hWw
    clear hgood hbare q4 hfa hXw hgk
    simp only [List.cons_append, List.nil_append]
    repeat' (first | ((refine G_markr (id := 18) ?_)) | refine G_seq ?_ | refine G_then_n ?_ | refine G_block ?_ | refine G_skip ?_ | refine G_cond_t rfl ?_ | ((refine G_region (id := 14) ?_ <;> (try (refine G_op1 ?_; ((apply K1_ev; exact rfl; ((focus ((apply E_bin (op := .lss) (t := 3); exact rfl; exact rfl; exact rfl; ((focus ((refine rb_lss_t ?_; first | (with_reducible assumption) | (decide; done) | omega)))))))))))) <;> (try (refine G_nil ?_)))) | ((refine G_region (id := 15) ?_ <;> (try (refine G_op1 ?_; ((apply K1_ev; exact rfl; ((focus (exact E_move rfl))))))) <;> (try (refine G_op1 ?_; ((apply K1_ev; exact rfl; ((focus ((apply E_indexAddr; exact rfl; exact rfl; ((focus (apply r_ixs Tryd.underlying32 sz_52; (focus omega); (focus omega); ((focus ((try simp only [Int.toNat_natCast]); (try simp only [Int.reduceToNat]); (try simp only [Nat.mul_one]); (try simp only [Nat.zero_mul]); (try simp only [Nat.reduceMul]); (try simp only [Nat.zero_add]); (try simp only [Nat.add_zero]); (try simp only [Nat.reduceAdd]); exact rfl)))))))))))))) <;> (try (refine G_op1 ?_; ((apply K1_ev; exact rfl; ((focus ((apply E_loadA (t := 52); exact rfl; (((focus (repeat (exact fd0))))); kernel_rfl; kernel_rfl; exact sz_52; (((focus (with_reducible assumption)))); (((focus (with_reducible assumption)))))))))))) <;> (try (refine G_op1 ?_; ((refine K1_alloc (t := 52) rfl Tryd.zeroValue52 ?_; intro nb hnb; (try simp only [Value.cells]))))) <;> (try (refine G_op1 ?_; ((apply K1_ev; exact rfl; ((focus (exact E_assign rfl))))))) <;> (try (refine G_op1 ?_; (((apply K1_storeW (t := 52); exact rfl; exact rfl; (((focus (repeat (exact fd0))))); kernel_rfl; (((focus (exact rfl)))); (((focus (exact rfl)))); (try simp only [List.set_cons_succ]); (try simp only [List.set_cons_zero])))))) <;> (try (refine G_nil ?_)))) | ((refine G_region (id := 16) ?_ <;> (try (refine G_op1 ?_; ((apply K1_ev; exact rfl; ((focus ((apply E_fieldAddr; exact rfl; ((focus (apply r_fieldAt fo_52_0; (try simp only [Int.toNat_natCast]); (try simp only [Int.reduceToNat]); (try simp only [Nat.mul_one]); (try simp only [Nat.zero_mul]); (try simp only [Nat.reduceMul]); (try simp only [Nat.zero_add]); (try simp only [Nat.add_zero]); (try simp only [Nat.reduceAdd]); exact rfl))))))))))) <;> (try (refine G_op1 ?_; ((apply K1_ev; exact rfl; ((focus ((apply E_load1 (t := 46); exact rfl; (((focus (repeat (exact fd0))))); kernel_rfl; kernel_rfl; (((focus (exact rfl)))))))))))) <;> (try (refine G_op1 ?_; ((apply K1_ev; exact rfl; ((focus ((apply E_bin (op := .and) (t := 46); exact rfl; exact rfl; exact rfl; ((focus ((refine rb_and ?_ ?_; (((focus ((refine ⟨rfl, ⟨?_, ?_⟩⟩; (focus omega); ((((focus (simp only [IntKind.bits]; omega)))))))))); (((focus ((refine ⟨rfl, ⟨?_, ?_⟩⟩; (focus omega); ((((focus (simp only [IntKind.bits]; omega)))))))))))))))))))))) <;> (try (refine G_op1 ?_; ((apply K1_ev; exact rfl; ((focus ((apply E_fieldAddr; exact rfl; ((focus (apply r_fieldAt fo_52_0; (try simp only [Int.toNat_natCast]); (try simp only [Int.reduceToNat]); (try simp only [Nat.mul_one]); (try simp only [Nat.zero_mul]); (try simp only [Nat.reduceMul]); (try simp only [Nat.zero_add]); (try simp only [Nat.add_zero]); (try simp only [Nat.reduceAdd]); exact rfl))))))))))) <;> (try (refine G_op1 ?_; ((apply K1_store1 (t := 46); exact rfl; exact rfl; (((focus (repeat (exact fd0))))); exact rfl; exact rfl; kernel_rfl; (((focus (exact Nat.le_of_ble_eq_true rfl)))); ((focus ((try simp only [List.set_cons_succ]); (try simp only [List.set_cons_zero]); exact rfl))); (try simp only [List.set_cons_succ]); (try simp only [List.set_cons_zero]))))) <;> (try (refine G_nil ?_)))) | ((refine G_region (id := 17) ?_ <;> (try (refine G_op1 ?_; ((apply K1_ev; exact rfl; ((focus (exact E_move rfl))))))) <;> (try (refine G_op1 ?_; ((apply K1_ev; exact rfl; ((focus (exact E_move rfl))))))) <;> (try (refine G_op1 ?_; ((apply K1_ev; exact rfl; ((focus ((apply E_loadA (t := 52); exact rfl; (((focus (repeat (exact fd0))))); kernel_rfl; kernel_rfl; exact sz_52; (((focus (exact Nat.le_of_ble_eq_true rfl)))); (((focus (((try simp only [List.drop_succ_cons]); (try simp only [List.drop_zero]); (try simp only [List.take_succ_cons]); (try simp only [List.take_zero]); (try simp only [List.take_nil]); exact rfl))))))))))))) <;> (try (refine G_op1 ?_; (((refine K1_call (F := 17) (by kernel_rfl) rfl rfl (hbe _) ?_; rintro _ _ ⟨dt, df, da, db, dx, dy, rfl, hG, rfl⟩))))) <;> (try (refine G_op1 ?_; ((apply K1_ev; exact rfl; ((focus ((apply E_indexAddr; exact rfl; exact rfl; ((focus (apply r_ixs Tryd.underlying32 sz_52; (focus omega); (focus omega); ((focus ((try simp only [Int.toNat_natCast]); (try simp only [Int.reduceToNat]); (try simp only [Nat.mul_one]); (try simp only [Nat.zero_mul]); (try simp only [Nat.reduceMul]); (try simp only [Nat.zero_add]); (try simp only [Nat.add_zero]); (try simp only [Nat.reduceAdd]); exact rfl)))))))))))))) <;> (try (refine G_op1 ?_; (((apply K1_storeN (t := 52); exact rfl; exact rfl; (((focus (repeat (first | exact fd0 | apply fdS))))); exact sz_52; ((focus (exact rfl))); ((focus (((((focus (exact rfl)))))))); (((focus (omega)))); (try simp only [List.set_cons_succ]); (try simp only [List.set_cons_zero])))))) <;> (try (refine G_nil ?_)))))
    refine ⟨?_⟩
    have hsp1 := splice_get CS (k * 7) [.int .u8 dt, .bool df, .int .u32 cn, .int .u64 da, .int .u64 db, .string dx, .string dy] (by simp only [List.length_cons, List.length_nil]; omega)
    have hsp2 := splc_len CS (k * 7) [.int .u8 dt, .bool df, .int .u32 cn, .int .u64 da, .int .u64 db, .string dx, .string dy] (by simp only [List.length_cons, List.length_nil]; omega)
    have hsp3 := splice_flat X k (by omega) ⟨dt, df, cn, da, db, dx, dy⟩ CS (by rw [hlen]; exact q4'.out)
    rw [hlen] at hsp3
    simp only [CallD.cells] at hsp3
    have hS7 : ([.int .u8 dt, .bool df, .int .u32 cn, .int .u64 da, .int .u64 db, .string dx, .string dy] : List Value).length = 7 := rfl
    rw [hS7] at hsp1
    clear hx1
    generalize splice CS (k * 7) [.int .u8 dt, .bool df, .int .u32 cn, .int .u64 da, .int .u64 db, .string dx, .string dy] = CS2 at *
    have hy1 : (CS2.toArray.toList.drop (k * 7)).take 7 = [.int .u8 dt, .bool df, .int .u32 cn, .int .u64 da, .int .u64 db, .string dx, .string dy] := hsp1
    have hy2 : k * 7 + 7 ≤ CS2.toArray.size := by simp; omega
    have hsp3' := Lib.hid hsp3
    clear hsp1 hsp3
    have hnr := hG.ok.num
    dsimp only at hnr
    have hfd := fun (L : List Blk) => refFind_c (S := []) (w0 := w0) (L := L) cn
    have hlc : ∀ x y z, Fn Tryd.prog 19 #[.agg #[.int .u8 dt, .bool df, .int .u32 cn, .int .u64 da, .int .u64 db, .string dx, .string dy], .pointer (some ⟨bt, 0, none⟩)] [] w0 (x :: y :: z :: (ew ++ (tbS bt m1 m2 k ++ L))) fun v L' => ∃ m1' m2', v = lnV (lnO ⟨dt, df, cn, da, db, dx, dy⟩) ∧ x :: y :: z :: (ew ++ (tbS bt m1' m2' (k + 1) ++ L)) = L' :=
      fun x y z => scline_x (S := []) (w0 := w0) (L := L) x (y :: z :: ew) bt m1 m2 k (by omega) ⟨dt, df, cn, da, db, dx, dy⟩ hG
    have hG' := Lib.hid hG
    have hout : ∀ m1' m2' vw' ew', Own 52 7 vw' (((X.take k).filter isC) ++ [CallD.mk dt df cn da db dx dy].filter isC).length (flatC (((X.take k).filter isC) ++ [CallD.mk dt df cn da db dx dy].filter isC)) ew' →
        SbI N (.slice (some ⟨g1, 0, none⟩) N cX) ⟨k + 1, X.set k ⟨dt, df, cn, da, db, dx, dy⟩, [⟨true, g1, .cells CS2.toArray 52 (0, 0)⟩], m1', m2', vw', ew'⟩ := by
      intro m1' m2' vw' ew' ho
      refine ⟨by dsimp only; omega, by dsimp only; rw [List.length_set]; exact hlen, fun c hc => ?_, ?_, ?_, ?_⟩
      · rcases List.mem_or_eq_of_mem_set hc with hc | rfl
        · exact hgood'.out c hc
        · exact ⟨hG'.out.ok, hG'.out.s0, hG'.out.s1⟩
      · dsimp only
        rw [take_set X k (by omega)]
        intro c hc
        rcases List.mem_append.1 hc with hc | hc
        · exact hbare'.out c hc
        · rw [List.mem_singleton.1 hc]; exact hG'.out
      · exact own_mk q1 (by unfold maxLen; exact q2) (by simp; omega) hsp3'.out
      · dsimp only
        rw [take_set X k (by omega), List.filter_append]
        exact ho
    have hout' := Lib.hid hout
    clear hout hG hbare' hgood' q4' hsp3' hG'
    have hWl : ((X.take k).filter isC).length ≤ 80 := by
      have h1 := List.length_filter_le isC (X.take k)
      have h2 := List.length_take_le k X
      omega
    generalize (X.take k).filter isC = WW at *
    cases hmm : cnumF cn clls with
    | none =>
      have hln : lnO ⟨dt, df, cn, da, db, dx, dy⟩ = none := by unfold lnO; dsimp only; rw [hmm]; rfl
      have his : isC ⟨dt, df, cn, da, db, dx, dy⟩ = false := by unfold isC; dsimp only; rw [hmm]; rfl
      rw [hln] at hlc
      rw [hmm] at hfd
      simp only [rgotV, refV, Option.isSome_none] at hfd
      unfold lnV at hlc
      simp only [Option.getD_none, Option.isSome_none] at hlc
      have he8 : mB8 [] = ⟨#[]⟩ := rfl
      rw [he8] at hlc
      clear hmm hln
      repeat' (first | refine G_seq ?_ | refine G_then_n ?_ | refine G_cut_n ?_ | refine G_blk_n ?_ | refine G_skip ?_ | refine G_cond_f rfl ?_ | ((refine G_region (id := 18) ?_ <;> (try (refine G_op1 ?_; ((apply K1_ev; exact rfl; ((focus ((apply E_fieldAddr; exact rfl; ((focus (apply r_fieldAt fo_52_2; (try simp only [Int.toNat_natCast]); (try simp only [Int.reduceToNat]); (try simp only [Nat.mul_one]); (try simp only [Nat.zero_mul]); (try simp only [Nat.reduceMul]); (try simp only [Nat.zero_add]); (try simp only [Nat.add_zero]); (try simp only [Nat.reduceAdd]); exact rfl))))))))))) <;> (try (refine G_op1 ?_; ((apply K1_ev; exact rfl; ((focus ((apply E_load1 (t := 47); exact rfl; (((focus (repeat (exact fd0))))); kernel_rfl; kernel_rfl; (((focus (exact rfl)))))))))))) <;> (try (refine G_op1 ?_; ((apply K1_ev; exact rfl; ((focus ((apply E_conv; exact rfl; ((focus (apply r_conv Tryd.underlying47 Tryd.underlying3; first | (refine IntWalk.i64_in _ ?_; omega) | (refine IntWalk.u8_in _ ?_; omega) | (refine IntWalk.u16_in _ ?_; omega) | (refine IntWalk.u32_in _ ?_; omega) | (refine IntWalk.u64_in _ ?_; omega) | (refine IntWalk.i32_in _ ?_; omega) | exact rfl))))))))))) <;> (try (refine G_op1 ?_; (((refine K1_call (F := 18) (by kernel_rfl) rfl rfl (hfd _) ?_; rintro _ _ ⟨rfl, rfl⟩))))) <;> (try (refine G_op1 ?_; ((apply K1_ev; exact rfl; ((focus (exact E_move rfl))))))) <;> (try (refine G_op1 ?_; ((apply K1_ev; exact rfl; ((focus (exact E_extractL rfl rfl))))))) <;> (try (refine G_op1 ?_; ((apply K1_ev; exact rfl; ((focus (exact E_extractL rfl rfl))))))) <;> (try (refine G_op1 ?_; ((refine K1_alloc (t := 58) rfl Tryd.zeroValue58 ?_; intro nb hnb; (try simp only [Value.cells]))))) <;> (try (refine G_op1 ?_; (((apply K1_storeW (t := 58); exact rfl; exact rfl; (((focus (repeat (exact fd0))))); kernel_rfl; (((focus (exact rfl)))); (((focus (exact rfl)))); (try simp only [List.set_cons_succ]); (try simp only [List.set_cons_zero])))))) <;> (try (refine G_op1 ?_; ((apply K1_ev; exact rfl; ((focus (exact E_assign rfl))))))) <;> (try (refine G_nil ?_)))) | ((refine G_region (id := 19) ?_ <;> (try (refine G_op1 ?_; ((apply K1_ev; exact rfl; ((focus (exact E_move rfl))))))) <;> (try (refine G_op1 ?_; ((apply K1_ev; exact rfl; ((focus (exact E_move rfl))))))) <;> (try (refine G_op1 ?_; ((apply K1_ev; exact rfl; ((focus ((apply E_indexAddr; exact rfl; exact rfl; ((focus (apply r_ixs Tryd.underlying32 sz_52; (focus omega); (focus omega); ((focus ((try simp only [Int.toNat_natCast]); (try simp only [Int.reduceToNat]); (try simp only [Nat.mul_one]); (try simp only [Nat.zero_mul]); (try simp only [Nat.reduceMul]); (try simp only [Nat.zero_add]); (try simp only [Nat.add_zero]); (try simp only [Nat.reduceAdd]); exact rfl)))))))))))))) <;> (try (refine G_op1 ?_; ((apply K1_ev; exact rfl; ((focus ((apply E_loadA (t := 52); exact rfl; (((focus (repeat (first | exact fd0 | apply fdS))))); kernel_rfl; kernel_rfl; exact sz_52; (((focus (with_reducible assumption)))); (((focus (with_reducible assumption)))))))))))) <;> (try (refine G_op1 ?_; ((apply K1_ev; exact rfl; ((focus (exact E_move rfl))))))) <;> (try (refine G_op1 ?_; (((refine K1_call (F := 19) (by kernel_rfl) rfl rfl (hlc _ _ _) ?_; rintro _ _ ⟨j1, j2, rfl, rfl⟩))))) <;> (try (refine G_op1 ?_; ((apply K1_ev; exact rfl; ((focus (exact E_move rfl))))))) <;> (try (refine G_op1 ?_; ((apply K1_ev; exact rfl; ((focus (exact E_extractL rfl rfl))))))) <;> (try (refine G_op1 ?_; ((apply K1_ev; exact rfl; ((focus (exact E_extractL rfl rfl))))))) <;> (try (refine G_op1 ?_; ((apply K1_ev; exact rfl; ((focus (exact E_assign rfl))))))) <;> (try (refine G_op1 ?_; ((apply K1_ev; exact rfl; ((focus (exact E_assign rfl))))))) <;> (try (refine G_nil ?_)))) | ((refine G_region (id := 20) ?_ <;> (try (refine G_op1 ?_; ((apply K1_ev; exact rfl; ((focus (exact E_move rfl))))))) <;> (try (refine G_op1 ?_; ((apply K1_ev; exact rfl; ((focus (exact E_move rfl))))))) <;> (try (refine G_op1 ?_; ((apply K1_ev; exact rfl; ((focus ((apply E_bin (op := .neq) (t := 4); exact rfl; exact rfl; exact rfl; ((focus (exact rb_bne_s Tryd.underlying4))))))))))) <;> (try (refine G_op1 ?_; ((apply K1_ev; exact rfl; ((focus (exact E_move rfl))))))) <;> (try (refine G_op1 ?_; ((refine K1_yes rfl rfl rfl ?_; ((apply K1_ev; exact rfl; ((focus (exact E_move rfl))))))))) <;> (try (refine G_op1 ?_; ((refine K1_yes rfl rfl rfl ?_; ((apply K1_ev; exact rfl; ((focus ((apply E_un; exact rfl; ((focus (exact ru_not_f))))))))))))) <;> (try (refine G_op1 ?_; ((refine K1_yes rfl rfl rfl ?_; ((apply K1_ev; exact rfl; ((focus (exact E_move rfl))))))))) <;> (try (refine G_op1 ?_; ((refine K1_yes rfl rfl rfl ?_; ((apply K1_ev; exact rfl; ((focus (exact E_move rfl))))))))) <;> (try (refine G_op1 ?_; ((refine K1_yes rfl rfl rfl ?_; ((apply K1_ev; exact rfl; ((focus ((apply E_bin (op := .neq) (t := 9); exact rfl; exact rfl; exact rfl; ((focus (exact rb_strne_s))))))))))))) <;> (try (refine G_op1 ?_; ((refine K1_yes rfl rfl rfl ?_; ((apply K1_ev; exact rfl; ((focus (exact E_pick rfl rfl))))))))) <;> (try (refine G_op1 ?_; ((apply K1_ev; exact rfl; ((focus (exact E_pick rfl rfl))))))) <;> (try (refine G_nil ?_)))) | ((refine G_region (id := 22) ?_ <;> (try (refine G_op1 ?_; ((apply K1_ev; exact rfl; ((focus (exact E_move rfl))))))) <;> (try (refine G_nil ?_)))) | ((refine G_region (id := 24) ?_ <;> (try (refine G_op1 ?_; ((apply K1_ev; exact rfl; ((focus ((apply E_bin (op := .add) (t := 3); exact rfl; exact rfl; exact rfl; ((focus ((apply rb_add; (((focus ((try simp only [Int.reduceAdd]); (try simp only [Int.reduceSub]); (try simp only [Int.reduceMul]); (try simp only [Int.reduceMod]); (try simp only [Int.reduceDiv]); exact rfl)))); (((focus (refine IntWalk.i64_in _ ?_; omega)))))))))))))))) <;> (try (refine G_op1 ?_; ((apply K1_ev; exact rfl; ((focus (exact E_move rfl))))))) <;> (try (refine G_nil ?_)))))
      refine G_meet ⟨k + 1, X.set k ⟨dt, df, cn, da, db, dx, dy⟩, [⟨true, g1, .cells CS2.toArray 52 (0, 0)⟩], j1, j2, _, ew⟩ ⟨hout'.out _ _ _ _ ?_, by dsimp only; omega⟩ (by ((focus (repeat (first | exact Sub.nil | refine Sub.cons rfl ?_ | (refine Sub.cons (congrArg some ?_) ?_; (focus go_num))))))) (fun _ H => H.tail.tail)
      rw [List.filter_cons, his, if_neg (by decide), List.filter_nil, List.append_nil]
      exact hWw
    | some m =>
      have hln : lnO ⟨dt, df, cn, da, db, dx, dy⟩ = some (lineC ⟨dt, df, cn, da, db, dx, dy⟩ m) := by unfold lnO; dsimp only; rw [hmm]; rfl
      have his : isC ⟨dt, df, cn, da, db, dx, dy⟩ = true := by unfold isC; dsimp only; rw [hmm]; rfl
      rw [hln] at hlc
      rw [hmm] at hfd
      simp only [rgotV, refV, Option.isSome_some] at hfd
      unfold lnV at hlc
      simp only [Option.getD_some, Option.isSome_some] at hlc
      generalize lineC _ m = ln at hlc
      obtain ⟨mn, ms, ma⟩ := m
      dsimp only at hfd
      clear hmm hln
      repeat' (first | ((refine G_markr (id := 23) ?_)) | refine G_seq ?_ | refine G_then_n ?_ | refine G_skip ?_ | refine G_cond_t rfl ?_ | refine G_cond_f rfl ?_ | ((refine G_region (id := 18) ?_ <;> (try (refine G_op1 ?_; ((apply K1_ev; exact rfl; ((focus ((apply E_fieldAddr; exact rfl; ((focus (apply r_fieldAt fo_52_2; (try simp only [Int.toNat_natCast]); (try simp only [Int.reduceToNat]); (try simp only [Nat.mul_one]); (try simp only [Nat.zero_mul]); (try simp only [Nat.reduceMul]); (try simp only [Nat.zero_add]); (try simp only [Nat.add_zero]); (try simp only [Nat.reduceAdd]); exact rfl))))))))))) <;> (try (refine G_op1 ?_; ((apply K1_ev; exact rfl; ((focus ((apply E_load1 (t := 47); exact rfl; (((focus (repeat (exact fd0))))); kernel_rfl; kernel_rfl; (((focus (exact rfl)))))))))))) <;> (try (refine G_op1 ?_; ((apply K1_ev; exact rfl; ((focus ((apply E_conv; exact rfl; ((focus (apply r_conv Tryd.underlying47 Tryd.underlying3; first | (refine IntWalk.i64_in _ ?_; omega) | (refine IntWalk.u8_in _ ?_; omega) | (refine IntWalk.u16_in _ ?_; omega) | (refine IntWalk.u32_in _ ?_; omega) | (refine IntWalk.u64_in _ ?_; omega) | (refine IntWalk.i32_in _ ?_; omega) | exact rfl))))))))))) <;> (try (refine G_op1 ?_; (((refine K1_call (F := 18) (by kernel_rfl) rfl rfl (hfd _) ?_; rintro _ _ ⟨rfl, rfl⟩))))) <;> (try (refine G_op1 ?_; ((apply K1_ev; exact rfl; ((focus (exact E_move rfl))))))) <;> (try (refine G_op1 ?_; ((apply K1_ev; exact rfl; ((focus (exact E_extractL rfl rfl))))))) <;> (try (refine G_op1 ?_; ((apply K1_ev; exact rfl; ((focus (exact E_extractL rfl rfl))))))) <;> (try (refine G_op1 ?_; ((refine K1_alloc (t := 58) rfl Tryd.zeroValue58 ?_; intro nb hnb; (try simp only [Value.cells]))))) <;> (try (refine G_op1 ?_; (((apply K1_storeW (t := 58); exact rfl; exact rfl; (((focus (repeat (exact fd0))))); kernel_rfl; (((focus (exact rfl)))); (((focus (exact rfl)))); (try simp only [List.set_cons_succ]); (try simp only [List.set_cons_zero])))))) <;> (try (refine G_op1 ?_; ((apply K1_ev; exact rfl; ((focus (exact E_assign rfl))))))) <;> (try (refine G_nil ?_)))) | ((refine G_region (id := 19) ?_ <;> (try (refine G_op1 ?_; ((apply K1_ev; exact rfl; ((focus (exact E_move rfl))))))) <;> (try (refine G_op1 ?_; ((apply K1_ev; exact rfl; ((focus (exact E_move rfl))))))) <;> (try (refine G_op1 ?_; ((apply K1_ev; exact rfl; ((focus ((apply E_indexAddr; exact rfl; exact rfl; ((focus (apply r_ixs Tryd.underlying32 sz_52; (focus omega); (focus omega); ((focus ((try simp only [Int.toNat_natCast]); (try simp only [Int.reduceToNat]); (try simp only [Nat.mul_one]); (try simp only [Nat.zero_mul]); (try simp only [Nat.reduceMul]); (try simp only [Nat.zero_add]); (try simp only [Nat.add_zero]); (try simp only [Nat.reduceAdd]); exact rfl)))))))))))))) <;> (try (refine G_op1 ?_; ((apply K1_ev; exact rfl; ((focus ((apply E_loadA (t := 52); exact rfl; (((focus (repeat (first | exact fd0 | apply fdS))))); kernel_rfl; kernel_rfl; exact sz_52; (((focus (with_reducible assumption)))); (((focus (with_reducible assumption)))))))))))) <;> (try (refine G_op1 ?_; ((apply K1_ev; exact rfl; ((focus (exact E_move rfl))))))) <;> (try (refine G_op1 ?_; (((refine K1_call (F := 19) (by kernel_rfl) rfl rfl (hlc _ _ _) ?_; rintro _ _ ⟨j1, j2, rfl, rfl⟩))))) <;> (try (refine G_op1 ?_; ((apply K1_ev; exact rfl; ((focus (exact E_move rfl))))))) <;> (try (refine G_op1 ?_; ((apply K1_ev; exact rfl; ((focus (exact E_extractL rfl rfl))))))) <;> (try (refine G_op1 ?_; ((apply K1_ev; exact rfl; ((focus (exact E_extractL rfl rfl))))))) <;> (try (refine G_op1 ?_; ((apply K1_ev; exact rfl; ((focus (exact E_assign rfl))))))) <;> (try (refine G_op1 ?_; ((apply K1_ev; exact rfl; ((focus (exact E_assign rfl))))))) <;> (try (refine G_nil ?_)))) | ((refine G_region (id := 20) ?_ <;> (try (refine G_op1 ?_; ((apply K1_ev; exact rfl; ((focus (exact E_move rfl))))))) <;> (try (refine G_op1 ?_; ((apply K1_ev; exact rfl; ((focus (exact E_move rfl))))))) <;> (try (refine G_op1 ?_; ((apply K1_ev; exact rfl; ((focus ((apply E_bin (op := .neq) (t := 4); exact rfl; exact rfl; exact rfl; ((focus (exact rb_bne_s Tryd.underlying4))))))))))) <;> (try (refine G_op1 ?_; ((apply K1_ev; exact rfl; ((focus (exact E_move rfl))))))) <;> (try (refine G_op1 ?_; ((refine K1_yes rfl rfl rfl ?_; ((apply K1_ev; exact rfl; ((focus (exact E_move rfl))))))))) <;> (try (refine G_op1 ?_; ((refine K1_yes rfl rfl rfl ?_; ((apply K1_ev; exact rfl; ((focus ((apply E_un; exact rfl; ((focus (exact ru_not_t))))))))))))) <;> (try (refine G_op1 ?_; ((refine K1_yes rfl rfl rfl ?_; ((apply K1_ev; exact rfl; ((focus (exact E_move rfl))))))))) <;> (try (refine G_op1 ?_; (refine K1_no rfl rfl rfl rfl ?_))) <;> (try (refine G_op1 ?_; (refine K1_no rfl rfl rfl rfl ?_))) <;> (try (refine G_op1 ?_; ((refine K1_yes rfl rfl rfl ?_; ((apply K1_ev; exact rfl; ((focus (exact E_pick rfl rfl))))))))) <;> (try (refine G_op1 ?_; ((apply K1_ev; exact rfl; ((focus (exact E_pick rfl rfl))))))) <;> (try (refine G_nil ?_)))) | ((refine G_region (id := 22) ?_ <;> (try (refine G_op1 ?_; ((apply K1_ev; exact rfl; ((focus (exact E_move rfl))))))) <;> (try (refine G_nil ?_)))))
      refine ⟨?_⟩
      refine G_blocks (L' := ew ++ (⟨true, g1, .cells CS2.toArray 52 (0, 0)⟩ :: (tbS bt j1 j2 (k + 1) ++ L))) (fun w H => HP.swapA (e := [_]) ew H.tail.tail) ?_
      repeat' (first | refine G_then_n ?_ | refine G_cut_n ?_ | refine G_blk_n ?_ | ((refine G_region (id := 23) ?_ <;> (try (refine G_op1 ?_; ((apply K1_ev; exact rfl; ((focus (exact E_move rfl))))))) <;> (try (refine G_op1 ?_; ((apply K1_ev; exact rfl; ((focus (exact E_move rfl))))))) <;> (try (refine G_op1 ?_; ((apply K1_ev; exact rfl; ((focus (exact E_move rfl))))))) <;> (try (refine G_op1 ?_; ((apply K1_ev; exact rfl; ((focus ((apply E_indexAddr; exact rfl; exact rfl; ((focus (apply r_ixs Tryd.underlying32 sz_52; (focus omega); (focus omega); ((focus ((try simp only [Int.toNat_natCast]); (try simp only [Int.reduceToNat]); (try simp only [Nat.mul_one]); (try simp only [Nat.zero_mul]); (try simp only [Nat.reduceMul]); (try simp only [Nat.zero_add]); (try simp only [Nat.add_zero]); (try simp only [Nat.reduceAdd]); exact rfl)))))))))))))) <;> (try (refine G_op1 ?_; ((apply K1_ev; exact rfl; ((focus ((apply E_loadA (t := 52); exact rfl; (((focus (repeat (first | exact fd0 | apply fdA))))); kernel_rfl; kernel_rfl; exact sz_52; (((focus (with_reducible assumption)))); (((focus (with_reducible assumption)))))))))))) <;> (try (refine G_op1 ?_; ((refine K1_buildSlice (t := 32) (m := 1) (e := 52) (fun (vs : List (Nat × Value)) => (match vs with | [(_, x0)] => x0.cells.toList | _ => [] : List Value)) rfl rfl (fun w => by kernel_rfl) ?_; intro nb hnb; (try simp only [Value.cells]); (try simp only [List.cons_append]); (try simp only [List.nil_append]))))) <;> (try (refine G_op1 ?_; ((((apply K1_append; exact rfl; exact Tryd.underlying32; exact inf_52_i; exact inf_52_z; exact inf_52_s; exact inf_52_b; exact rfl; exact rfl; exact rfl; (((focus (with_reducible assumption)))); (((focus (repeat (exact fd0))))); (((focus (exact Nat.le_of_ble_eq_true rfl)))); (((focus (((try simp only [List.drop_succ_cons]); (try simp only [List.drop_zero]); (try simp only [List.take_succ_cons]); (try simp only [List.take_zero]); (try simp only [List.take_nil]); exact rfl))))); (((focus (exact rfl)))); ((focus (unfold maxLen; omega))); (focus omega); (((focus (intro w H; repeat (first | exact H | (replace H := H.tail)))))); exact rfl; (((focus ((try simp only [Nat.zero_add]); (try simp only [Nat.reduceAdd]); exact rfl)))); (((focus ((try simp only [Nat.zero_mul]); (try simp only [List.take_zero]); (try simp only [List.nil_append]); (try simp only [List.cons_append]); (try simp only [List.nil_append]); exact rfl)))); intro vA eA hownA)))))) <;> (try (refine G_op1 ?_; ((apply K1_ev; exact rfl; ((focus (exact E_assign rfl))))))) <;> (try (refine G_nil ?_)))) | ((refine G_region (id := 24) ?_ <;> (try (refine G_op1 ?_; ((apply K1_ev; exact rfl; ((focus ((apply E_bin (op := .add) (t := 3); exact rfl; exact rfl; exact rfl; ((focus ((apply rb_add; (((focus ((try simp only [Int.reduceAdd]); (try simp only [Int.reduceSub]); (try simp only [Int.reduceMul]); (try simp only [Int.reduceMod]); (try simp only [Int.reduceDiv]); exact rfl)))); (((focus (refine IntWalk.i64_in _ ?_; omega)))))))))))))))) <;> (try (refine G_op1 ?_; ((apply K1_ev; exact rfl; ((focus (exact E_move rfl))))))) <;> (try (refine G_nil ?_)))))
      refine G_meet ⟨k + 1, X.set k ⟨dt, df, cn, da, db, dx, dy⟩, [⟨true, g1, .cells CS2.toArray 52 (0, 0)⟩], j1, j2, vA, eA⟩ ⟨hout'.out _ _ _ _ ?_, by dsimp only; omega⟩ (by ((focus (repeat (first | exact Sub.nil | refine Sub.cons rfl ?_ | (refine Sub.cons (congrArg some ?_) ?_; (focus go_num))))))) (fun w H => HP.swapA (e := eA) [_] H)
      rw [List.filter_cons, his, if_pos rfl, List.filter_nil, List.length_append, flatC_snoc]
      exact hownA
  obtain rfl : k = N := by omega
  have hXN : X.take k = X := List.take_of_length_le (by omega)
  rw [hXN] at hbare hWw
  have hbr := fun c hc => (hbare c hc).bare
  have hasc := textC_asc X hbr
  have htl := textC_len X hbr
  have hsc := text_scr X hbr (by omega)
  have hwant := textC_want X
  have hWg : ∀ c ∈ X.filter isC, GoodC c := fun c hc => hbare c (List.mem_filter.1 hc).1
  have hWl : (X.filter isC).length ≤ 80 := by
    have h1 := List.length_filter_le isC X
    omega
  obtain ⟨aw, cw, rfl⟩ := own_sl hWw
  have htx := sctext_x (S := []) (w0 := w0) (L := L) eX ew bt m1 m2 k (by omega) X hbare (by omega) aX cX (by rw [hlen]; exact own_sliA hXw _)
  rw [hlen] at htx
  have hpr := fun j1 j2 => scr_x (L := L) eX ew hT (tb := bt) (m1 := j1) (m2 := j2) (n := k + k) (s := mB8 (textC X)) (l := X.filter isC) (a := 0) (e := 0) (by rw [mB8_size]; omega) (by omega) (by rw [lB_mB8]; exact hasc) (by rw [lB_mB8]; exact hsc)
  have hts : (mB8 (textC X)).size ≤ 64080 := by rw [mB8_size]; omega
  rw [show textC X = textC (X.filter isC) from hwant.symm] at htx hpr hts
  generalize X.filter isC = W at *
  have hWg' := Lib.hid hWg
  have hq1 : RBin Tryd.prog .neq 34 (.agg #[.int .i64 ((0 : Nat) : Int), .int .i64 ((0 : Nat) : Int)]) (.agg #[.int .i64 0, .int .i64 0]) (.bool false) := wr_ne 0 0
  clear hgood hbare hbr hasc htl hsc hwant hWg hXN hXw hlen
  generalize hTX : mB8 (textC W) = TX at *
  have hTX' := Lib.hid hTX
  clear hTX
  repeat' (first | ((refine G_markb (id := 4) ?_)) | refine G_seq ?_ | refine G_then_n ?_ | refine G_cut_x ?_ | refine G_then_x ?_ | refine G_blk_x ?_ | refine G_skip ?_ | refine G_exit ?_ | refine G_cond_f rfl ?_ | ((refine G_region (id := 14) ?_ <;> (try (refine G_op1 ?_; ((apply K1_ev; exact rfl; ((focus ((apply E_bin (op := .lss) (t := 3); exact rfl; exact rfl; exact rfl; ((focus ((refine rb_lss_f ?_; first | (with_reducible assumption) | (decide; done) | omega)))))))))))) <;> (try (refine G_nil ?_)))) | ((refine G_region (id := 25) ?_ <;> (try (refine G_op1 ?_; ((apply K1_ev; exact rfl; ((focus (exact E_move rfl))))))) <;> (try (refine G_op1 ?_; ((apply K1_ev; exact rfl; ((focus (exact E_move rfl))))))) <;> (try (refine G_op1 ?_; (((refine K1_call (F := 20) (by kernel_rfl) rfl rfl htx ?_; rintro _ _ ⟨j1, j2, rfl, rfl⟩))))) <;> (try (refine G_op1 ?_; ((apply K1_ev; exact rfl; ((focus (exact E_assign rfl))))))) <;> (try (refine G_nil ?_)))) | ((refine G_region (id := 26) ?_ <;> (try (refine G_op1 ?_; ((apply K1_ev; exact rfl; ((focus (exact E_move rfl))))))) <;> (try (refine G_op1 ?_; ((apply K1_ev; exact rfl; ((focus (exact E_move rfl))))))) <;> (try (refine G_op1 ?_; (((refine K1_call (F := 10) (by kernel_rfl) rfl rfl (hpr _ _) ?_; rintro _ _ ⟨i1, i2, jn, vo, eg, hj1, hj2, rfl, hol, rfl⟩; obtain ⟨ag, cg, rfl⟩ := own_sl hol))))) <;> (try (refine G_op1 ?_; ((apply K1_ev; exact rfl; ((focus (exact E_move rfl))))))) <;> (try (refine G_op1 ?_; ((apply K1_ev; exact rfl; ((focus (exact E_extractL rfl rfl))))))) <;> (try (refine G_op1 ?_; ((apply K1_ev; exact rfl; ((focus (exact E_extractL rfl rfl))))))) <;> (try (refine G_op1 ?_; ((refine K1_alloc (t := 34) rfl Tryd.zeroValue34 ?_; intro nb hnb; (try simp only [Value.cells]))))) <;> (try (refine G_op1 ?_; ((apply K1_ev; exact rfl; ((focus (exact E_assign rfl))))))) <;> (try (refine G_op1 ?_; (((apply K1_storeW (t := 34); exact rfl; exact rfl; (((focus (repeat (exact fd0))))); kernel_rfl; (((focus (exact rfl)))); (((focus (exact rfl)))); (try simp only [List.set_cons_succ]); (try simp only [List.set_cons_zero])))))) <;> (try (refine G_nil ?_)))) | ((refine G_region (id := 27) ?_ <;> (try (refine G_op1 ?_; ((apply K1_ev; exact rfl; ((focus ((apply E_loadA (t := 34); exact rfl; (((focus (repeat (exact fd0))))); kernel_rfl; kernel_rfl; exact sz_34; (((focus (exact Nat.le_of_ble_eq_true rfl)))); (((focus (((try simp only [List.drop_succ_cons]); (try simp only [List.drop_zero]); (try simp only [List.take_succ_cons]); (try simp only [List.take_zero]); (try simp only [List.take_nil]); exact rfl))))))))))))) <;> (try (refine G_op1 ?_; ((apply K1_ev; exact rfl; ((focus (exact E_build (t := 34) (fun (vs : List (Nat × Value)) => (match vs with | [] => [Value.int .i64 0, Value.int .i64 0] | _ => [] : List Value)) rfl (fun w => by kernel_rfl)))); (try simp only [Value.cells]); (try simp only [List.cons_append]); (try simp only [List.nil_append]))))) <;> (try (refine G_op1 ?_; ((apply K1_ev; exact rfl; ((focus (((apply E_bin_agg (op := .neq) (t := 34); exact rfl; exact rfl; kernel_rfl; ((focus (with_reducible assumption)))))))))))) <;> (try (refine G_op1 ?_; ((apply K1_ev; exact rfl; ((focus (exact E_move rfl))))))) <;> (try (refine G_op1 ?_; ((refine K1_yes rfl rfl rfl ?_; ((apply K1_ev; exact rfl; ((focus (exact E_move rfl))))))))) <;> (try (refine G_op1 ?_; ((refine K1_yes rfl rfl rfl ?_; ((apply K1_ev; exact rfl; ((focus ((apply E_builtin; exact rfl; exact (fun _ => BigFrame.builtin_len ..); apply r_len_slice_e Tryd.underlying32; ((focus ((try simp only [Int.cast_ofNat_Int]); exact rfl))))))))))))) <;> (try (refine G_op1 ?_; ((refine K1_yes rfl rfl rfl ?_; ((apply K1_ev; exact rfl; ((focus (exact E_move rfl))))))))) <;> (try (refine G_op1 ?_; ((refine K1_yes rfl rfl rfl ?_; ((apply K1_ev; exact rfl; ((focus ((apply E_builtin; exact rfl; exact (fun _ => BigFrame.builtin_len ..); apply r_len_slice_e Tryd.underlying32; ((focus ((try simp only [Int.cast_ofNat_Int]); exact rfl))))))))))))) <;> (try (refine G_op1 ?_; ((refine K1_yes rfl rfl rfl ?_; ((apply K1_ev; exact rfl; ((focus ((apply E_bin (op := .neq) (t := 3); exact rfl; exact rfl; exact rfl; ((focus ((refine rb_neq_f ?_; first | rfl | (with_reducible assumption) | (decide; done) | omega)))))))))))))) <;> (try (refine G_op1 ?_; ((apply K1_ev; exact rfl; ((focus (exact E_pick rfl rfl))))))) <;> (try (refine G_nil ?_)))) | ((refine G_region (id := 29) ?_ <;> (try (refine G_op1 ?_; ((apply K1_ev; exact rfl; ((focus (exact E_move rfl))))))) <;> (try (refine G_op1 ?_; ((apply K1_ev; exact rfl; ((focus ((apply E_builtin; exact rfl; exact (fun _ => BigFrame.builtin_len ..); apply r_len_slice_e Tryd.underlying32; ((focus ((try simp only [Int.cast_ofNat_Int]); exact rfl))))))))))) <;> (try (refine G_op1 ?_; ((apply K1_ev; exact rfl; ((focus (exact E_move rfl))))))) <;> (try (refine G_nil ?_)))))
  refine ⟨?_⟩
  refine G_block ?_
  refine G_loopk (γ := Nat) (fun i => i ≤ W.length) (fun i => W.length - i) (fun i => [(129, .int .i64 (i : Nat))]) [(5, _), (7, _), (16, _), (17, _), (128, _)]
    (fun _ => eg ++ (tbS bt i1 i2 jn ++ (eX ++ (ew ++ L)))) 0 (.cons rfl (.cons rfl (.cons rfl (.cons rfl (.cons rfl .nil))))) (Nat.zero_le _) (by ((focus (repeat (first | exact Sub.nil | refine Sub.cons rfl ?_ | (refine Sub.cons (congrArg some ?_) ?_; (focus go_num))))))) (fun _ H => H.tail) ?_
  intro i (hi : i ≤ W.length)
  simp only [List.cons_append, List.nil_append]
  by_cases hlt : i < W.length
  · have hfa := flatG_at (cells := CallD.cells) (m := 7) (fun _ => rfl) W i hlt
    obtain ⟨g1, cap1, cur1, hv1, rfl, q1, q2, q3, q4⟩ := hWw.some (by omega)
    injection hv1 with h1 h2 h3
    subst h1 h3
    obtain ⟨g2, cap2, cur2, hv2, rfl, r1, r2, r3, r4⟩ := hol.some (by omega)
    injection hv2 with h1 h2 h3
    subst h1 h3
    have hx1 : (cur1.toList.drop (i * 7)).take 7 = W[i].cells := by
      rw [← hfa, show W.flatMap CallD.cells = flatC W from rfl, ← q4, List.drop_take, List.take_take, Nat.min_eq_left (by omega)]
    have hx2 : (cur2.toList.drop (i * 7)).take 7 = W[i].cells := by
      rw [← hfa, show W.flatMap CallD.cells = flatC W from rfl, ← r4, List.drop_take, List.take_take, Nat.min_eq_left (by omega)]
    have hz1 : i * 7 + 7 ≤ cur1.size := by omega
    have hz2 : i * 7 + 7 ≤ cur2.size := by omega
    generalize W[i] = c at *
    obtain ⟨ct, cf, cn, c0, c1, t0, t1⟩ := c
    simp only [CallD.cells] at hx1 hx2
    have hq2 := cl_ne ct cf cn c0 c1 t0 t1
    unfold maxLen at q2 r2
    clear hol hWw q4 r4 hfa hpr htx
    simp only [List.cons_append, List.nil_append]
    repeat' (first | refine G_seq ?_ | refine G_then_n ?_ | refine G_cut_n ?_ | refine G_blk_n ?_ | refine G_block ?_ | refine G_skip ?_ | refine G_cond_t rfl ?_ | refine G_cond_f rfl ?_ | ((refine G_region (id := 30) ?_ <;> (try (refine G_op1 ?_; ((apply K1_ev; exact rfl; ((focus ((apply E_bin (op := .lss) (t := 3); exact rfl; exact rfl; exact rfl; ((focus ((refine rb_lss_t ?_; first | (with_reducible assumption) | (decide; done) | omega)))))))))))) <;> (try (refine G_nil ?_)))) | ((refine G_region (id := 31) ?_ <;> (try (refine G_op1 ?_; ((apply K1_ev; exact rfl; ((focus (exact E_move rfl))))))) <;> (try (refine G_op1 ?_; ((apply K1_ev; exact rfl; ((focus (exact E_assign rfl))))))) <;> (try (refine G_nil ?_)))) | (((refine G_regionH (id := 32) (m := 9) (by kernel_rfl) rfl ?_) <;> (try ((apply H_take (i := 0); exact rfl; kernel_rfl; kernel_rfl; kernel_rfl; exact rfl; (((focus (intro w H; repeat (exact H))))); ((focus (apply Y_ev; (exact E_move rfl))))))) <;> (try ((apply H_take (i := 1); exact rfl; kernel_rfl; kernel_rfl; kernel_rfl; exact rfl; (((focus (intro w H; repeat (exact H))))); ((focus (apply Y_ev; (exact E_move rfl))))))) <;> (try ((apply H_take (i := 2); exact rfl; kernel_rfl; kernel_rfl; kernel_rfl; exact rfl; (((focus (intro w H; repeat (exact H))))); ((focus (apply Y_ev; ((apply E_indexAddr; exact rfl; exact rfl; ((focus (apply r_ixs Tryd.underlying32 sz_52; (focus omega); (focus omega); ((focus ((try simp only [Int.toNat_natCast]); (try simp only [Int.reduceToNat]); (try simp only [Nat.mul_one]); (try simp only [Nat.zero_mul]); (try simp only [Nat.reduceMul]); (try simp only [Nat.zero_add]); (try simp only [Nat.add_zero]); (try simp only [Nat.reduceAdd]); exact rfl)))))))))))))) <;> (try ((apply H_take (i := 3); exact rfl; kernel_rfl; kernel_rfl; kernel_rfl; exact rfl; (((focus (intro w H; repeat (exact H))))); ((focus (apply Y_ev; ((apply E_loadA (t := 52); exact rfl; (((focus (repeat (exact fd0))))); kernel_rfl; kernel_rfl; exact sz_52; (((focus (with_reducible assumption)))); (((focus (with_reducible assumption)))))))))))) <;> (try ((apply H_take (i := 4); exact rfl; kernel_rfl; kernel_rfl; kernel_rfl; exact rfl; (((focus (intro w H; repeat (exact H))))); ((focus (apply Y_ev; (exact E_move rfl))))))) <;> (try ((apply H_take (i := 5); exact rfl; kernel_rfl; kernel_rfl; kernel_rfl; exact rfl; (((focus (intro w H; repeat (exact H))))); ((focus (apply Y_ev; (exact E_move rfl))))))) <;> (try ((apply H_take (i := 6); exact rfl; kernel_rfl; kernel_rfl; kernel_rfl; exact rfl; (((focus (intro w H; repeat (exact H))))); ((focus (apply Y_ev; ((apply E_indexAddr; exact rfl; exact rfl; ((focus (apply r_ixs Tryd.underlying32 sz_52; (focus omega); (focus omega); ((focus ((try simp only [Int.toNat_natCast]); (try simp only [Int.reduceToNat]); (try simp only [Nat.mul_one]); (try simp only [Nat.zero_mul]); (try simp only [Nat.reduceMul]); (try simp only [Nat.zero_add]); (try simp only [Nat.add_zero]); (try simp only [Nat.reduceAdd]); exact rfl)))))))))))))) <;> (try ((apply H_take (i := 7); exact rfl; kernel_rfl; kernel_rfl; kernel_rfl; exact rfl; (((focus (intro w H; repeat (exact H))))); ((focus (apply Y_ev; ((apply E_loadA (t := 52); exact rfl; (((focus (repeat (first | exact fd0 | apply fdA | apply fdS))))); kernel_rfl; kernel_rfl; exact sz_52; (((focus (with_reducible assumption)))); (((focus (with_reducible assumption)))))))))))) <;> (try ((apply H_take (i := 8); exact rfl; kernel_rfl; kernel_rfl; kernel_rfl; exact rfl; (((focus (intro w H; repeat (exact H))))); ((focus (apply Y_ev; (((apply E_bin_agg (op := .neq) (t := 52); exact rfl; exact rfl; kernel_rfl; ((focus (with_reducible assumption)))))))))))) <;> (try (refine H_done (by kernel_rfl) ?_)))) | ((refine G_region (id := 34) ?_ <;> (try (refine G_op1 ?_; ((apply K1_ev; exact rfl; ((focus ((apply E_bin (op := .add) (t := 3); exact rfl; exact rfl; exact rfl; ((focus ((apply rb_add; (((focus ((try simp only [Int.reduceAdd]); (try simp only [Int.reduceSub]); (try simp only [Int.reduceMul]); (try simp only [Int.reduceMod]); (try simp only [Int.reduceDiv]); exact rfl)))); (((focus (refine IntWalk.i64_in _ ?_; omega)))))))))))))))) <;> (try (refine G_op1 ?_; ((apply K1_ev; exact rfl; ((focus (exact E_move rfl))))))) <;> (try (refine G_nil ?_)))))
    exact G_meet (i + 1) ⟨by omega, by omega⟩ (by ((focus (repeat (first | exact Sub.nil | refine Sub.cons rfl ?_ | (refine Sub.cons (congrArg some ?_) ?_; (focus go_num))))))) (fun _ H => H)
  obtain rfl : i = W.length := by omega
  have htx2 := sctext_x (S := []) (w0 := w0) (L := eX ++ (ew ++ L)) eg [] bt i1 i2 jn (by omega) W hWg'.out (by omega) ag cg (own_sliA hol _)
  simp only [List.nil_append] at htx2
  rw [hTX'.out] at htx2
  repeat' (first | refine G_seq ?_ | refine G_then_n ?_ | refine G_cut_x ?_ | refine G_then_x ?_ | refine G_blk_x ?_ | refine G_exit ?_ | refine G_ret ?_ | refine G_cond_f rfl ?_ | ((refine G_region (id := 30) ?_ <;> (try (refine G_op1 ?_; ((apply K1_ev; exact rfl; ((focus ((apply E_bin (op := .lss) (t := 3); exact rfl; exact rfl; exact rfl; ((focus ((refine rb_lss_f ?_; first | (with_reducible assumption) | (decide; done) | omega)))))))))))) <;> (try (refine G_nil ?_)))) | ((refine G_region (id := 35) ?_ <;> (try (refine G_op1 ?_; ((apply K1_ev; exact rfl; ((focus (exact E_move rfl))))))) <;> (try (refine G_op1 ?_; ((apply K1_ev; exact rfl; ((focus (exact E_move rfl))))))) <;> (try (refine G_op1 ?_; (((refine K1_call (F := 20) (by kernel_rfl) rfl rfl htx2 ?_; rintro _ _ ⟨j3, j4, rfl, rfl⟩))))) <;> (try (refine G_op1 ?_; ((apply K1_ev; exact rfl; ((focus (exact E_move rfl))))))) <;> (try (refine G_op1 ?_; ((apply K1_ev; exact rfl; ((focus ((apply E_bin (op := .eql) (t := 9); exact rfl; exact rfl; exact rfl; ((focus (exact rb_streq_s))))))))))) <;> (try (refine G_op1 ?_; ((apply K1_ev; exact rfl; ((focus (exact E_assign rfl))))))) <;> (try (refine G_nil ?_)))))
  (refine G_done Tryd.results6 (.tmp rfl .nil) ?_)
  exact ⟨_, ⟨rfl, rfl⟩, fun w H => H.sub (by (try simp only [List.cons_append, List.nil_append]); repeat (first | exact List.Sublist.refl _ | apply List.Sublist.cons | refine List.Sublist.trans ?_ (List.sublist_append_right _ _)))⟩
end Go.Proofs.YtpdnigifoaoflaaDoor
