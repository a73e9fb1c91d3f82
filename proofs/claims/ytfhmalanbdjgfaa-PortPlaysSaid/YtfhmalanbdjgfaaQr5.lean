/- The law PortPlays returns true at every input and leaves its arguments as they were. No condition. -/
import Derived.Test.YtfhmalanbdjgfaaQr4
set_option maxRecDepth 100000
namespace Go.Proofs.Ytfhmalanbdjgfaa
open Go Go.RowKit
structure ActD where
 k : Int
 n : Int
 a : Int
 l : Bool
 r : Bool
def ActD.cells (x : ActD) : List Value := [.int .u8 x.k, .int .u8 x.n, .int .u16 x.a, .bool x.l, .bool x.r]
def ActD.ok (x : ActD) : Prop := (0 ≤ x.k ∧ x.k < 256) ∧ (0 ≤ x.n ∧ x.n < 256) ∧ (0 ≤ x.a ∧ x.a < 65536)
theorem actC_at (l : List ActD) (j : Nat) (h : j < l.length) : ((l.flatMap ActD.cells).drop (j * 5)).take 5 = l[j].cells := by
 induction l generalizing j with
 | nil => simp at h
 | cons r rs ih =>
  cases j with
  | zero => simp [ActD.cells]
  | succ j =>
   have := ih j (by simpa using h)
   rw [List.flatMap_cons, show (j + 1) * 5 = r.cells.length + j * 5 by simp [ActD.cells]; omega, List.drop_append]
   rw [@List.drop_eq_nil_of_le _ r.cells _ (by omega), List.nil_append, show r.cells.length + j * 5 - r.cells.length = j * 5 by omega]
   simpa using this
theorem lit6_get {x : Int} (h : 0 ≤ x) : ∃ v : Nat, v < 65536 ∧ #[Value.int .u16 0, .int .u16 80, .int .u16 81, .int .u16 1024, .int .u16 1025, .int .u16 65535].toList[(x % 6).toNat]? = some (.int .u16 (v : Nat)) := by
 have : x % 6 = 0 ∨ x % 6 = 1 ∨ x % 6 = 2 ∨ x % 6 = 3 ∨ x % 6 = 4 ∨ x % 6 = 5 := by omega
 rcases this with h | h | h | h | h | h <;> rw [h]
 ·exact ⟨0, by omega, rfl⟩
 ·exact ⟨80, by omega, rfl⟩
 ·exact ⟨81, by omega, rfl⟩
 ·exact ⟨1024, by omega, rfl⟩
 ·exact ⟨1025, by omega, rfl⟩
 ·exact ⟨65535, by omega, rfl⟩
abbrev acB (b : Nat) (k n a : Int) (l r : Bool) : Blk := ⟨true, b, .cells #[.int .u8 k, .int .u8 n, .int .u16 a, .bool l, .bool r] 43 (0, 0)⟩
abbrev owB (b : Nat) (n o l : Nat) : Blk := ⟨true, b, .cells #[.int .i64 (n : Nat), .int .i64 (o : Nat), .int .i64 (l : Nat)] 40 (0, 0)⟩
theorem Fn.back2 {P : Program} {S : List Nat} {w0 : World} {L : List Blk} {F : FuncId} {args : Array Value} {p : Value → Prop} {i j : Nat} {x y : Blk} (h : L[i]? = some x) (h2 : (L.eraseIdx i)[j]? = some y) (hc : Fn P F args S w0 (x :: y :: (L.eraseIdx i).eraseIdx j) (fun v L' => p v ∧ x :: y :: (L.eraseIdx i).eraseIdx j = L')) : Fn P F args S w0 L (fun v L' => p v ∧ L = L') :=
 .mk fun w H => (hc.out w ((H.pick h).perm ((erase_perm h2).cons x))).mono fun e w' ⟨v, L', he, ⟨hv, hL⟩, H'⟩ => ⟨v, L, he, ⟨hv, rfl⟩, (hL ▸ H').perm ((((erase_perm h2).cons x).symm).trans (erase_perm h).symm)⟩
theorem Fn.keep2 {P : Program} {S : List Nat} {w0 : World} {L : List Blk} {F : FuncId} {args : Array Value} {p : Value → Prop} {i j : Nat} {x y : Blk} (hc : ∀ L, Fn P F args S w0 (x :: y :: L) (fun v L' => p v ∧ x :: y :: L = L')) (hxy : x ≠ y) (h : L[i]? = some x) (h2 : L[j]? = some y) : Fn P F args S w0 L (fun v L' => p v ∧ L = L') := by
 have hne : i ≠ j := fun e => by subst e; rw [h] at h2; injection h2 with h2; exact hxy h2
 by_cases hlt : j < i
 ·exact Fn.back2 (j:=j) h (by rw [List.getElem?_eraseIdx, if_pos hlt]; exact h2) (hc _)
 ·exact Fn.back2 (j:=j - 1) h (by rw [List.getElem?_eraseIdx, if_neg (by omega), show j - 1 + 1 = j by omega]; exact h2) (hc _)
theorem cells3 {xs : List Value} {k : Nat} {r : PR} (h : (xs.drop k).take 3 = r.cells) : xs[k]? = some (.int .i64 (r.n : Nat)) ∧ xs[k + 1]? = some (.int .i64 (r.o : Nat)) ∧ xs[k + 2]? = some (.int .i64 (r.l : Nat)) := by
 have g : ∀ m, m < 3 → xs[k + m]? = r.cells[m]? := fun m hm => by rw [← h, List.getElem?_take, if_pos hm, List.getElem?_drop]
 exact ⟨g 0 (by omega), g 1 (by omega), g 2 (by omega)⟩
theorem Sli.all1 {L : List Blk} {a : Option Addr} {len : Nat} {cells : List Value} (h : Sli L a len 1 cells) (h0 : 0 < len) :
  ∃ (i : Nat) (q : Bool) (b off : Nat) (cs : Array Value) (T : TypeId) (fr : Nat × Nat), a = some ⟨b, off, none⟩ ∧ L[i]? = some ⟨q, b, .cells cs T fr⟩ ∧ off + len ≤ cs.size ∧ ∀ k, k < len → cs.toList[off + k]? = cells[k]? := by
 rcases h.2 with h1 | ⟨i, q, b, off, cs, T, fr, h1, h2, h3, h4⟩
 ·omega
 ·refine ⟨i, q, b, off, cs, T, fr, h1, h2, by omega, fun k hk => ?_⟩
  rw [← h4, List.getElem?_take, if_pos (by omega), List.getElem?_drop]
theorem pix_mem {rs : List PR} {r : PR} (hn : (rs.map (·.n)).Nodup) (hr : r ∈ rs) : ∃ j, pix rs r.n = some j ∧ rs[j]? = some r := by
 cases h : pix rs r.n with
 | none => exact (pix_none h (List.mem_map_of_mem hr)).elim
 | some j =>
  obtain ⟨r', h1, h2⟩ := h3f h
  have := nodup_inj hn hr (List.mem_of_getElem? h1) h2.symm
  subst this
  exact ⟨j, rfl, h1⟩
def prA (rs : List PR) (rest : List Value) : List Value := prC rs ++ rest
theorem prA_len (rs : List PR) (rest : List Value) : (prA rs rest).length = rs.length * 3 + rest.length := by simp [prA, prC_len]
theorem prA_of {cur : Array Value} {rs : List PR} (h : cur.toList.take (rs.length * 3) = prC rs) : ∃ rest, cur = (prA rs rest).toArray := by
 refine ⟨cur.toList.drop (rs.length * 3), ?_⟩
 rw [prA, ← h, List.take_append_drop]
theorem prA_get {rs : List PR} (rest : List Value) {j : Nat} {r : PR} (hl : 0 ≤ rs.length) (h : rs[j]? = some r) : (prA rs rest).toArray.toList[j * 3 + 1]? = some (.int .i64 (r.o : Nat)) ∧ (prA rs rest).toArray.toList[j * 3 + 2]? = some (.int .i64 (r.l : Nat)) := by
 obtain ⟨hj, rfl⟩ := List.getElem?_eq_some_iff.1 h
 have hc := prC_len rs
 constructor
 ·show (prC rs ++ rest)[j * 3 + 1]? = _
  rw [List.getElem?_append_left (by omega), prC_get rs j 1 hj (by omega)]; rfl
 ·show (prC rs ++ rest)[j * 3 + 2]? = _
  rw [List.getElem?_append_left (by omega), prC_get rs j 2 hj (by omega)]; rfl
theorem prA_set {rs : List PR} (rest : List Value) {j : Nat} (k : Nat) {r r' : PR} {v : Value} (hl : 0 ≤ rs.length) (hk : k < 3) (h : rs[j]? = some r) (hv : r.cells.set k v = r'.cells) : (prA rs rest).set (j * 3 + k) v = prA (rs.set j r') rest := by
 obtain ⟨hj, rfl⟩ := List.getElem?_eq_some_iff.1 h
 have hc := prC_len rs
 rw [prA, List.set_append_left _ _ (by omega), prC_set rs j k r' v hj hk hv]; rfl
theorem own_prA {E g cap : Nat} {rs rs0 : List PR} {rest : List Value} (hn : rs.length = rs0.length) (h1 : rs0.length ≤ cap) (h2 : cap ≤ maxLen) (h3 : (prA rs0 rest).toArray.size = cap * 3) : Own E 3 (.slice (some ⟨g, 0, none⟩) rs0.length cap) rs.length (prC rs) [⟨true, g, .cells (prA rs rest).toArray E (0, 0)⟩] := by
 rw [← hn] at h1 ⊢
 refine own_mk h1 h2 ?_ ?_
 ·rw [List.size_toArray, prA_len] at h3 ⊢; omega
 ·show (prC rs ++ rest).take (rs.length * 3) = _
  rw [List.take_append_of_le_length (by rw [prC_len]; exact Nat.le_refl _), List.take_of_length_le (by rw [prC_len]; exact Nat.le_refl _)]
theorem prC_one (rs : List PR) : (prC rs).all (·.oneCell') = true := by
 induction rs with
 | nil => rfl
 | cons r rs ih => rw [show prC (r :: rs) = r.cells ++ prC rs by simp [prC], List.all_append, ih]; rfl
theorem prC_take (rs : List PR) (j : Nat) : (prC rs).take (j * 3) = prC (rs.take j) := by
 induction rs generalizing j with
 | nil => simp [prC]
 | cons r rs ih =>
  cases j with
  | zero => simp [prC]
  | succ j =>
   rw [show prC (r :: rs) = r.cells ++ prC rs by simp [prC], show (j + 1) * 3 = r.cells.length + j * 3 by simp [PR.cells]; omega, List.take_append, List.take_of_length_le (by omega), show r.cells.length + j * 3 - r.cells.length = j * 3 by omega, ih]
   simp [prC]
theorem prC_drop {rs : List PR} {j n : Nat} (h : rs.length = n) : ((prC rs).drop (j * 3)).take ((n - j) * 3) = prC (rs.drop j) := by
 subst h
 have e : (prC rs).drop (j * 3) = prC (rs.drop j) := by
  induction rs generalizing j with
  | nil => simp [prC]
  | cons r rs ih =>
   cases j with
   | zero => simp
   | succ j =>
    rw [show prC (r :: rs) = r.cells ++ prC rs by simp [prC], show (j + 1) * 3 = r.cells.length + j * 3 by simp [PR.cells]; omega, List.drop_append, @List.drop_eq_nil_of_le _ r.cells _ (by omega), List.nil_append, show r.cells.length + j * 3 - r.cells.length = j * 3 by omega, ih]
    simp
 rw [e, List.take_of_length_le (by rw [prC_len, List.length_drop]; exact Nat.le_refl _)]
theorem Sli.cut0 {L : List Blk} {a : Option Addr} {len j : Nat} {cells : List Value} (h : Sli L a len 3 cells) (hj : j ≤ len) : Sli L a j 3 (cells.take (j * 3)) := by
 refine ⟨by have := h.1; simp; omega, ?_⟩
 rcases h.2 with h0 | ⟨i, q, b, off, cs, T, fr, h1, h2, h3, h4⟩
 ·exact .inl (by omega)
 ·refine .inr ⟨i, q, b, off, cs, T, fr, h1, h2, by omega, ?_⟩
  rw [← h4, List.take_take, Nat.min_eq_left (by omega)]
theorem own_prA_sli {E g cap : Nat} {rs rs0 : List PR} {rest : List Value} {L : List Blk} (hn : rs.length = rs0.length) (h3 : (prA rs0 rest).toArray.size = cap * 3) (h1 : rs0.length ≤ cap) : Sli (⟨true, g, .cells (prA rs rest).toArray E (0, 0)⟩ :: L) (some ⟨g, 0, none⟩) rs0.length 3 (prC rs) := by
 refine Sli.of (i:=0) rfl ?_ ?_
 ·rw [List.size_toArray, prA_len] at h3 ⊢; omega
 ·show ((prC rs ++ rest).drop 0).take (rs0.length * 3) = _
  rw [List.drop_zero, ← hn, List.take_append_of_le_length (by rw [prC_len]; exact Nat.le_refl _), List.take_of_length_le (by rw [prC_len]; exact Nat.le_refl _)]
theorem prC_erased {rs : List PR} {j : Nat} {r : PR} : prC (List.take j (rs.set j r)) ++ prC (List.drop j.succ (rs.set j r)) = prC (rs.eraseIdx j) := by
 rw [show prC (List.take j (rs.set j r)) ++ prC (List.drop j.succ (rs.set j r)) = prC (List.take j (rs.set j r) ++ List.drop j.succ (rs.set j r)) by simp [prC], List.take_set_of_le (Nat.le_refl _), List.drop_set_of_lt (Nat.lt_succ_self _), List.eraseIdx_eq_take_drop_succ]
theorem len_erased {rs : List PR} {j : Nat} (h : j < rs.length) : j + (rs.length - ((j : Int) + 1).toNat) = (rs.eraseIdx j).length := by
 rw [List.length_eraseIdx, if_pos h]; omega
structure PtI (i : Nat) (g : List PR × Nat × Value × List Blk) : Prop where
 ok : POk i g.1 g.2.1
 own : Own 40 3 g.2.2.1 g.1.length (prC g.1) g.2.2.2
def atF (rs : List PR) (n : Nat) (at_ : Int) (a b c : Nat) : Prop := (pix rs n = none ∧ at_ = -1 ∧ a = 0 ∧ b = 0 ∧ c = 0) ∨ ∃ j r, pix rs n = some j ∧ rs[j]? = some r ∧ at_ = (j : Nat) ∧ a = r.n ∧ b = r.o ∧ c = r.l
theorem own_neq {o l : Nat} (h : 1 ≤ o) : RBin Try.prog .eql 33 (.agg #[.int .i64 (o : Nat), .int .i64 (l : Nat)]) (.agg #[.int .i64 0, .int .i64 0]) (.bool false) := by
 apply RBin.mk
 intro w
 have h0 : ¬ (o : Int) = 0 := by omega
 go_simp
 intro h1
 omega
theorem own_same {a b : Int} : RBin Try.prog .neq 33 (.agg #[.int .i64 a, .int .i64 b]) (.agg #[.int .i64 a, .int .i64 b]) (.bool false) := by
 apply RBin.mk
 intro w
 go_simp
set_option maxHeartbeats 4000000 in
theorem portPlays_c {S w0 L} (l : List ActD) (hl : ∀ x ∈ l, x.ok) (a : Option Addr) (cap : Nat) (hs : Sli L a l.length 5 (l.flatMap ActD.cells)) (hm : l.length ≤ maxLen) :
  Fn Try.prog 4 #[.slice a l.length cap] S w0 L fun v L' => v = .bool true ∧ L = L' := by
 have hl' := Lib.hid hl
 clear hl
 unfold maxLen at hm
 refine Fn1 Try.func4 Try.ntmps4 rfl rfl ?_
 repeat' (first | (refine G_markb (id:=0) ?_) | refine h0j ?_ | refine h0d ?_ | refine h0t ?_ | refine h0g rfl ?_ | (refine gR 0 ?_ <;> (try refine q_a ?_) <;> (try refine h0b ?_)) | (refine gR 1 ?_ <;> (try refine h0i ?_; (refine h0v (F:=5) (by kernel_rfl) rfl rfl (awake23_c) ?_; rintro _ _ ⟨rfl, rfl⟩)) <;> (try refine q_e (by apply E_un; exact rfl; exact ru_not_t) ?_) <;> (try refine h0b ?_)) | (refine gR 3 ?_ <;> (try refine h0i ?_; (refine q_c 13 (c:=by apply portNew_c) (h:=?_); rintro _ _ ⟨tb, mb, rfl, rfl⟩; (try simp only [zzE, zzF]))) <;> (try refine q_a ?_) <;> (try refine h0b ?_)) | (refine gR 4 ?_ <;> (try refine h0i ?_; (refine h1w (t:=38) rfl Try.zeroValue38 ?_; intro nb hnb; (try simp only [Value.cells]))) <;> (try refine h0b ?_)) | (refine gR 5 ?_ <;> (try refine q_e (by apply E_makeFunc; exact rfl; exact rfl) ?_) <;> (try refine q_a ?_) <;> (try refine h0b ?_)) | (refine gR 6 ?_ <;> (try refine q_m ?_) <;> (try refine q_e (by apply E_builtin; exact rfl; exact (fun _ => BigFrame.builtin_len ..); apply h2o Try.underlying36; exact c_11) ?_) <;> (try refine q_m ?_) <;> (try refine h0b ?_)))
 refine ⟨?_⟩
 obtain ⟨nbm, rfl⟩ : ∃ x, x = nb := ⟨_, rfl⟩
 refine h2e (γ:=Nat × List PR × Nat × Value × List Blk) (fun g => g.1 ≤ 100 ∧ PtI g.1 g.2) (fun _ => []) [(3, _), (5, _)] (fun g => ptB tb mb :: h2p mb (prE g.2.1) g.2.2.1 :: bxM nbm g.2.2.2.1 :: (g.2.2.2.2 ++ L)) (.cons rfl (.cons rfl .nil)) ?_ ?_
 rotate_left
 ·rintro ⟨i, rs, c, vm, e⟩ ⟨hi : i ≤ 100, hok, hown⟩
  dsimp only at hok hown
  dsimp only [List.cons_append, List.nil_append]
  obtain ⟨am, capm, rfl, hsm⟩ := hown.sli L
  have hsm' := ((hsm.up (bxM nbm (.slice am rs.length capm))).up (h2p mb (prE rs) c)).up (ptB tb mb)
  have hge := fun (L : List Blk) => get_c (S:=S) (w0:=w0) (L:=L) tb mb rs c 7
  cases h7 : pix rs 7 with
  | none =>
   simp only [h7, Option.bind_none, Option.getD_none] at hge
   repeat' (first | refine h0j ?_ | refine h0d ?_ | refine h1y ?_ | (refine gR 73 ?_ <;> (try refine q_m ?_) <;> (try refine h0i ?_; (refine h0v (F:=12) (by kernel_rfl) rfl rfl (hge _) ?_; rintro _ _ ⟨rfl, rfl⟩)) <;> (try refine q_e (by exact E_build (t:=33) (fun vs => (match vs with | [] => [Value.int .i64 0, Value.int .i64 0] | _ => [])) rfl (fun w => by kernel_rfl)) ?_; (try simp only [Value.cells]); (try simp only [zzC, zzN])) <;> (try refine q_e (by apply E_bin_agg (op:=.eql) (t:=33); exact rfl; exact rfl; kernel_rfl; (apply rb_eql_agg Try.underlying33 (by kernel_rfl); apply EqF.int; (focus (simp)); exact Try.underlying3; exact rfl; exact rfl; exact rfl; exact EqF.int1 (by simp) Try.underlying3 rfl rfl rfl)) ?_) <;> (try refine q_m ?_) <;> (try refine q_z ?_) <;> (try refine q_z ?_) <;> (try refine q_z ?_) <;> (try refine q_p ?_) <;> (try refine q_a ?_) <;> (try refine h0b ?_)))
   (refine h1b Try.results4 (.tmp rfl .nil) ?_)
   exact ⟨_, ⟨rfl, rfl⟩, by (intro w H; exact H.tail.tail.tail.dropA)⟩
  | some j =>
   obtain ⟨⟨n', o, l', b⟩, hr, h7n⟩ := h3f h7
   have ho := hok.op _ (List.mem_of_getElem? hr)
   have hfx : fx rs 7 = (j : Int) := by simp [fx, h7]
   simp only [h7, Option.bind_some, hr, Option.map_some, Option.getD_some, PR.val] at hge ho
   have hq := own_neq (o:=o) (l:=l') (by omega)
   repeat' (first | refine h0j ?_ | refine h0d ?_ | refine h1y ?_ | (refine gR 73 ?_ <;> (try refine q_m ?_) <;> (try refine h0i ?_; (refine h0v (F:=12) (by kernel_rfl) rfl rfl (hge _) ?_; rintro _ _ ⟨rfl, rfl⟩)) <;> (try refine q_e (by exact E_build (t:=33) (fun vs => (match vs with | [] => [Value.int .i64 0, Value.int .i64 0] | _ => [])) rfl (fun w => by kernel_rfl)) ?_; (try simp only [Value.cells]); (try simp only [zzC, zzN])) <;> (try refine q_e (by apply E_bin_agg (op:=.eql) (t:=33); exact rfl; exact rfl; kernel_rfl; (with_reducible assumption)) ?_) <;> (try refine q_m ?_) <;> (try refine q_y (h0c rfl) ?_) <;> (try refine h0i ?_; (refine h1j rfl rfl rfl ?_; (apply K1_callvc (F:=14); kernel_rfl; exact rfl; exact rfl; exact rfl; exact rfl; (apply find_c (rs:=rs) (c:=c) (k:=i) (hn:=(by omega)) (hk:=by omega) (hp:=hok) (n:=7); (focus exact h2j); (focus exact c_12)); rintro _ _ ⟨rfl, rfl⟩))) <;> (try refine q_y (q_b (r:=by exact h2t q_o)) ?_) <;> (try refine q_p ?_) <;> (try refine q_a ?_) <;> (try refine h0b ?_)))
   (refine h1b Try.results4 (.tmp rfl .nil) ?_)
   exact ⟨_, ⟨rfl, rfl⟩, by (intro w H; exact H.tail.tail.tail.dropA)⟩
 repeat' (refine h0k ?_)
 refine h1x (γ:=Nat × List PR × Nat × Value × List Blk) (fun g => g.1 ≤ 100 ∧ g.1 ≤ l.length ∧ PtI g.1 g.2) (fun g => 101 - g.1) (fun g => [(26, .int .i64 (g.1 : Nat))]) [(3, _), (4, _), (5, _), (24, _), (25, _)]
  (fun g => ptB tb mb :: h2p mb (prE g.2.1) g.2.2.1 :: bxM nbm g.2.2.2.1 :: (g.2.2.2.2 ++ L)) (0, [], 0, .slice none 0 0, []) (.cons rfl (.cons rfl (.cons rfl (.cons rfl (.cons rfl .nil))))) ⟨by simp, by simp, POk.nil, Own.nil _ _⟩ (by (focus (repeat (first | exact Sub.nil | refine Sub.cons rfl ?_)))) c_15 ?_
 rintro ⟨i, rs, c, vm, e⟩ ⟨hi : i ≤ 100, hil : i ≤ l.length, hok, hown⟩
 dsimp only at hok hown
 dsimp only [List.cons_append, List.nil_append]
 by_cases hlt : i < l.length
 rotate_left
 ·repeat' (first | refine h0j ?_ | refine h0d ?_ | refine h0m ?_ | refine h1l ?_ | refine h0z ?_ | refine h1i ?_ | refine h1u ?_ | refine h0g rfl ?_ | (refine gR 7 ?_ <;> (try refine q_e (q_b (r:=by exact h2i q_o)) ?_) <;> (try refine h0b ?_)))
  exact h0p (i, rs, c, vm, e) ⟨hi, hok, hown⟩ (by (focus (repeat (first | exact Sub.nil | refine Sub.cons rfl ?_)))) (fun _ H => H)
 obtain ⟨i0, q, b, off, cs, T, fr, rfl, hi0, hsz, hx⟩ := hs.elem hlt
 rw [actC_at l i hlt] at hx
 have hxo := hl'.out _ (List.getElem_mem hlt)
 generalize l[i] = x at *
 obtain ⟨xk, xn, xa, xl, xr⟩ := x
 obtain ⟨hxk, hxn, hxa⟩ := hxo
 simp only [ActD.cells] at hx
 dsimp only at hxk hxn hxa
 have hi1 : L[i0]? = some ⟨q, b, .cells cs T fr⟩ := hi0
 by_cases h100 : i = 100
 ·subst h100
  repeat' (first | refine h0j ?_ | refine h0d ?_ | refine h0m ?_ | refine h1l ?_ | refine h0z ?_ | refine h1i ?_ | refine G_blk_y rfl ?_ | refine h0k ?_ | refine h0t ?_ | refine h1u ?_ | refine h0l rfl ?_ | (refine gR 7 ?_ <;> (try refine q_e (q_b (r:=by exact h2s q_o)) ?_) <;> (try refine h0b ?_)) | (refine gR 8 ?_ <;> (try refine q_m ?_) <;> (try refine q_e (by apply h0a; exact rfl; exact rfl; (focus (apply h0n Try.underlying36 sz_43; omega; omega; exact c_1))) ?_) <;> (try refine q_e (by apply E_loadA (t:=43); exact rfl; (focus (repeat (first | (with_reducible assumption) | apply fdA | apply fdS))); kernel_rfl; kernel_rfl; exact sz_43; (with_reducible assumption); (with_reducible assumption)) ?_) <;> (try refine h0i ?_; (refine h1w (t:=43) rfl Try.zeroValue43 ?_; intro nb hnb; (try simp only [Value.cells]))) <;> (try refine q_a ?_) <;> (try refine h0i ?_; (refine q_W ?_)) <;> (try refine h0b ?_)) | (refine gR 9 ?_ <;> (try refine q_m ?_) <;> (try refine q_e (q_b (r:=by exact h2t q_o)) ?_) <;> (try refine h0b ?_)))
  exact h0p (100, rs, c, vm, e) ⟨hi, hok, hown⟩ (by (focus (repeat (first | exact Sub.nil | refine Sub.cons rfl ?_)))) c_14
 obtain ⟨n6, hn6, hg6⟩ := lit6_get hxn.1
 repeat' (first | (refine h1t (id:=10) ?_) | refine h0j ?_ | refine h0d ?_ | refine h0k ?_ | refine h0t ?_ | refine h0l rfl ?_ | refine h0g rfl ?_ | (refine gR 7 ?_ <;> (try refine q_e (q_b (r:=by exact h2s q_o)) ?_) <;> (try refine h0b ?_)) | (refine gR 8 ?_ <;> (try refine q_m ?_) <;> (try refine q_e (by apply h0a; exact rfl; exact rfl; (focus (apply h0n Try.underlying36 sz_43; omega; omega; exact c_1))) ?_) <;> (try refine q_e (by apply E_loadA (t:=43); exact rfl; (focus (repeat (first | (with_reducible assumption) | apply fdA | apply fdS))); kernel_rfl; kernel_rfl; exact sz_43; (with_reducible assumption); (with_reducible assumption)) ?_) <;> (try refine h0i ?_; (refine h1w (t:=43) rfl Try.zeroValue43 ?_; intro nb hnb; (try simp only [Value.cells]))) <;> (try refine q_a ?_) <;> (try refine h0i ?_; (refine q_W ?_)) <;> (try refine h0b ?_)) | (refine gR 9 ?_ <;> (try refine q_m ?_) <;> (try refine q_e (q_b (r:=by exact h2n q_o)) ?_) <;> (try refine h0b ?_)))
 refine ⟨?_⟩
 obtain ⟨nba, rfl⟩ : ∃ x, x = nb := ⟨_, rfl⟩
 repeat' (first | (refine G_markc (t:=40) ?_) | refine h0j ?_ | refine h0d ?_ | (refine gR 10 ?_ <;> (try refine h0i ?_; (refine h1m (t:=30) (m:=6) (e:=22) (fun vs => (match vs with | [(_, x0), (_, x1), (_, x2), (_, x3), (_, x4), (_, x5)] => [x0, x1, x2, x3, x4, x5] | _ => [])) rfl rfl (fun w => by kernel_rfl) ?_; intro nb hnb; (try simp only [Value.cells]); (try simp only [zzC, zzN]))) <;> (try refine q_e (q_f fo_43_1) ?_) <;> (try refine q_e q_l ?_) <;> (try refine q_e (q_b (r:=by apply rb_rem; omega; omega; exact c_6)) ?_) <;> (try refine q_e (by apply h0a; exact rfl; exact rfl; (focus (apply h0n Try.underlying30 h0r; omega; omega; exact c_1))) ?_) <;> (try refine q_e (by apply h0e (t:=22); exact rfl; exact fd0; kernel_rfl; kernel_rfl; (with_reducible assumption)) ?_) <;> (try refine q_a ?_) <;> (try refine h0b ?_)) | (refine gR 11 ?_ <;> (try refine q_e (q_f fo_43_4) ?_) <;> (try refine q_e q_l ?_) <;> (try refine h0b ?_)))
 refine ⟨?_⟩
 refine h2e (γ:=Nat) (fun n => n < 65536) (fun n => [(8, .int .u16 (n : Nat))]) [(3, _), (4, _), (5, _), (7, _), (24, _), (25, _), (26, _)] (fun _ => acB nba xk xn xa xl xr :: ptB tb mb :: h2p mb (prE rs) c :: bxM nbm vm :: (e ++ L)) (.cons rfl (.cons rfl (.cons rfl (.cons rfl (.cons rfl (.cons rfl (.cons rfl .nil))))))) ?_ ?_
 ·obtain ⟨xb, rfl⟩ : ∃ xb : Nat, xa = xb := ⟨xa.toNat, by omega⟩
  cases xr
  ·repeat' (first | refine h0m ?_ | refine h0t ?_ | refine h0g rfl ?_)
   exact h0p n6 hn6 (by (focus (repeat (first | exact Sub.nil | refine Sub.cons rfl ?_)))) c_14
  ·repeat' (first | refine h0m ?_ | refine h0l rfl ?_ | (refine gR 12 ?_ <;> (try refine q_e (q_f fo_43_2) ?_) <;> (try refine q_e q_l ?_) <;> (try refine q_a ?_) <;> (try refine h0b ?_)))
   exact h0p xb (by omega) (by (focus (repeat (first | exact Sub.nil | refine Sub.cons rfl ?_)))) c_14
 clear hn6 hg6
 clear n6
 rintro n hn
 obtain ⟨am, capm, rfl, hsm⟩ := hown.sli L
 have hsm2 := ((((hsm.up (bxM nbm (.slice am rs.length capm))).up (h2p mb (prE rs) c)).up (ptB tb mb)).up (acB nba xk xn xa xl xr))
 dsimp only [List.cons_append, List.nil_append]
 repeat' (first | (refine h1t (id:=14) ?_) | refine h0j ?_ | refine h0d ?_ | (refine gR 13 ?_ <;> (try refine q_m ?_) <;> (try refine q_m ?_) <;> (try refine h0i ?_; (apply K1_callvc (F:=14); kernel_rfl; exact rfl; exact rfl; exact rfl; exact rfl; (apply find_c (rs:=rs) (c:=c) (k:=i) (hn:=(by omega)) (hk:=by omega) (hp:=hok); (focus exact h2j); (focus exact c_12)); rintro _ _ ⟨rfl, rfl⟩)) <;> (try refine q_a ?_) <;> (try refine h0b ?_)))
 refine ⟨?_⟩
 repeat' (first | (refine G_markc (t:=47) ?_) | refine h0j ?_ | refine h0d ?_ | (refine gR 14 ?_ <;> (try refine h0i ?_; (refine h1w (t:=40) rfl Try.zeroValue40 ?_; intro nb hnb; (try simp only [Value.cells]))) <;> (try refine h0b ?_)) | (refine gR 15 ?_ <;> (try refine q_m ?_) <;> (try refine q_e (q_b (r:=by exact rb_geq)) ?_) <;> (try refine h0b ?_)))
 refine ⟨?_⟩
 obtain ⟨nbo, rfl⟩ : ∃ x, x = nb := ⟨_, rfl⟩
 refine h2e (γ:=Nat × Nat × Nat) (fun g => atF rs n (fx rs n) g.1 g.2.1 g.2.2) (fun _ => []) [(3, _), (4, _), (5, _), (7, _), (8, _), (9, _), (10, _), (24, _), (25, _), (26, _)] (fun g => owB nbo g.1 g.2.1 g.2.2 :: acB nba xk xn xa xl xr :: ptB tb mb :: h2p mb (prE rs) c :: bxM nbm (.slice am rs.length capm) :: (e ++ L)) (.cons rfl (.cons rfl (.cons rfl (.cons rfl (.cons rfl (.cons rfl (.cons rfl (.cons rfl (.cons rfl (.cons rfl .nil)))))))))) ?_ ?_
 ·cases hp : pix rs n with
  | none =>
   have hfx : fx rs n = -1 := by simp [fx, hp]
   rw [hfx]
   repeat' (first | refine h0m ?_ | refine h0t ?_ | refine h0g rfl ?_)
   exact h0p (0, 0, 0) (.inl ⟨hp, rfl, rfl, rfl, rfl⟩) (by (focus (repeat (first | exact Sub.nil | refine Sub.cons rfl ?_)))) c_18
  | some j =>
   have hfx : fx rs n = (j : Int) := by simp [fx, hp]
   have hjl := pix_lt hp
   obtain ⟨r, hr, hrn⟩ := h3f hp
   have hre : rs[j] = r := (List.getElem?_eq_some_iff.1 hr).2
   rw [hfx]
   obtain ⟨j0, q', b', off', cs', T', fr', rfl, hj0, hjsz, hjx⟩ := (hsm2.up ⟨true, nbo, .cells #[.int .i64 0, .int .i64 0, .int .i64 0] 40 (0, 0)⟩).elem hjl
   rw [prC_at rs j hjl, hre] at hjx
   obtain ⟨rn, ro, rl, rb⟩ := r
   simp only [PR.cells] at hjx
   repeat' (first | refine h0m ?_ | refine h0l rfl ?_ | (refine gR 16 ?_ <;> (try refine q_e q_l ?_) <;> (try refine q_m ?_) <;> (try refine q_e (by apply h0a; exact rfl; exact rfl; (focus (apply h0n Try.underlying38 h1z; omega; omega; exact c_1))) ?_) <;> (try refine q_e (by apply E_loadA (t:=40); exact rfl; exact c_12; kernel_rfl; kernel_rfl; exact h1z; (with_reducible assumption); (with_reducible assumption)) ?_) <;> (try refine h0i ?_; (refine q_W ?_)) <;> (try refine h0b ?_)))
   exact h0p (rn, ro, rl) (.inr ⟨j, _, hp, hr, rfl, rfl, rfl, rfl⟩) (by (focus (repeat (first | exact Sub.nil | refine Sub.cons rfl ?_)))) c_18
 rintro ⟨oa, ob, oc⟩ (hat : atF rs n (fx rs n) oa ob oc)
 dsimp only [List.cons_append, List.nil_append]
 repeat' (first | (refine G_markb (id:=2) ?_) | refine h0j ?_ | refine h0d ?_ | (refine gR 17 ?_ <;> (try refine q_a ?_) <;> (try refine q_a ?_) <;> (try refine h0b ?_)) | (refine gR 18 ?_ <;> (try refine q_e (q_f fo_43_0) ?_) <;> (try refine q_e q_l ?_) <;> (try refine q_e (q_b (r:=by apply rb_rem; omega; omega; exact c_6)) ?_) <;> (try refine h0b ?_)))
 refine ⟨?_⟩
 refine h2e (γ:=List PR × Nat × Value × List Blk × Int) (fun g => PtI (i + 1) (g.1, g.2.1, g.2.2.1, g.2.2.2.1)) (fun g => [(11, .int .i64 g.2.2.2.2), (12, .int .i64 g.2.2.2.2)]) [(3, _), (4, _), (5, _), (24, _), (25, _), (26, _)] (fun g => ptB tb mb :: h2p mb (prE g.1) g.2.1 :: bxM nbm g.2.2.1 :: (g.2.2.2.1 ++ L)) (.cons rfl (.cons rfl (.cons rfl (.cons rfl (.cons rfl (.cons rfl .nil)))))) ?_ ?_
 ·have hop : ∀ r ∈ rs, 1 ≤ r.o := fun r hr => (hok.op r hr).1
  have hrl := hok.len
  have hok' := hok.up
  by_cases h01 : xk % 7 = 0 ∨ xk % 7 = 1
  ·refine h0k ?_
   refine h0j ?_
   refine h2e (γ:=Unit) (fun _ => True) (fun _ => [(117, .bool true)]) [(3, _), (4, _), (5, _), (7, _), (8, _), (9, _), (10, _), (12, _), (24, _), (25, _), (26, _)] (fun _ => owB nbo oa ob oc :: acB nba xk xn xa xl xr :: ptB tb mb :: h2p mb (prE rs) c :: bxM nbm (.slice am rs.length capm) :: (e ++ L)) (.cons rfl (.cons rfl (.cons rfl (.cons rfl (.cons rfl (.cons rfl (.cons rfl (.cons rfl (.cons rfl (.cons rfl (.cons rfl .nil))))))))))) ?_ ?_
   ·rcases h01 with h7 | h7 <;> rw [h7]
    all_goals repeat' (first | refine h0j ?_ | refine h0d ?_ | refine h0m ?_ | refine h0t ?_ | refine h0l rfl ?_ | refine h0g rfl ?_ | (refine gR 29 ?_ <;> (try refine q_e (by exact q_b (r:=by first | (refine h0w ?_; first | rfl | (with_reducible assumption) | (decide; done) | omega) | (exact h0h q_o))) ?_) <;> (try refine q_a ?_) <;> (try refine h0b ?_)) | (refine gR 30 ?_ <;> (try refine q_e (by exact q_b (r:=by refine h0w ?_; first | rfl | (with_reducible assumption) | (decide; done) | omega)) ?_) <;> (try refine q_a ?_) <;> (try refine h0b ?_)))
    all_goals exact h0p () trivial (by (focus (repeat (first | exact Sub.nil | refine Sub.cons rfl ?_)))) (fun _ H => H)
   rintro - -
   dsimp only [List.cons_append, List.nil_append]
   by_cases hn0 : n = 0
   ·subst hn0
    have h0 := from_le rs 1024
    repeat' (first | refine h0j ?_ | refine h0d ?_ | refine h0k ?_ | refine h0l rfl ?_ | (refine gR 31 ?_ <;> (try refine q_m ?_) <;> (try refine q_a ?_) <;> (try refine h0b ?_)) | (refine gR 32 ?_ <;> (try refine q_m ?_) <;> (try refine q_e (by exact q_b (r:=by refine h0w ?_; first | rfl | (with_reducible assumption) | (decide; done) | omega)) ?_) <;> (try refine h0b ?_)) | (refine gR 33 ?_ <;> (try refine q_a ?_) <;> (try refine h0b ?_)))
    refine h1x (γ:=Nat) (fun k => Free rs k ∧ k + from_ rs k ≤ 1224) (fun k => 2000 - k) (fun k => [(13, .int .u16 (k : Nat))]) [(3, _), (4, _), (5, _), (8, _), (12, _), (24, _), (25, _), (26, _)] (fun _ => owB nbo oa ob oc :: acB nba xk xn xa xl xr :: ptB tb mb :: h2p mb (prE rs) c :: bxM nbm (.slice am rs.length capm) :: (e ++ L)) 1024 (.cons rfl (.cons rfl (.cons rfl (.cons rfl (.cons rfl (.cons rfl (.cons rfl (.cons rfl .nil)))))))) ⟨⟨by omega, fun j => by omega⟩, by omega⟩ (by (focus (repeat (first | exact Sub.nil | refine Sub.cons rfl ?_)))) (fun _ H => H) ?_
    rintro k ⟨hk : Free rs k, hk2 : k + from_ rs k ≤ 1224⟩
    dsimp only [List.cons_append, List.nil_append]
    have hsm3 := hsm2.up (owB nbo oa ob oc)
    cases hpk : pix rs k with
    | some j =>
     have hfx : fx rs k = (j : Int) := by simp [fx, hpk]
     have hnx := from_next hpk
     repeat' (first | refine h0j ?_ | refine h0d ?_ | refine h0m ?_ | refine h0x ?_ | refine h0k ?_ | refine h0t ?_ | refine h0l rfl ?_ | (refine gR 34 ?_ <;> (try refine q_m ?_) <;> (try refine q_m ?_) <;> (try refine h0i ?_; (apply K1_callvc (F:=14); kernel_rfl; exact rfl; exact rfl; exact rfl; exact rfl; (apply find_c (rs:=rs) (c:=c) (k:=i) (hn:=(by omega)) (hk:=by omega) (hp:=hok); (focus exact h2j); (focus exact c_12)); rintro _ _ ⟨rfl, rfl⟩)) <;> (try refine q_e (q_b (r:=by exact h2t q_o)) ?_) <;> (try refine h0b ?_)) | (refine gR 35 ?_ <;> (try refine q_m ?_) <;> (try refine q_e (q_b (r:=by apply h0u; exact c_6; (focus (refine IntWalk.u16_in _ ?_; omega)))) ?_) <;> (try refine q_a ?_) <;> (try refine h0b ?_)))
     exact h0p (k + 1) ⟨⟨hk.next hpk, by omega⟩, by omega⟩ (by (focus (repeat (first | exact Sub.nil | refine Sub.cons rfl ?_)))) (fun _ H => H)
    | none =>
     have hfx : fx rs k = -1 := by simp [fx, hpk]
     have hbi := fun (L : List Blk) (i' j' : Nat) h1 h2 => (bind_0 (S:=S) (w0:=w0) (L:=(L.eraseIdx i').eraseIdx j') tb mb rs c k (by omega) hop ⟨hk, hpk⟩).at2 (L:=L) (i:=i') (j:=j') h1 h2
     repeat' (first | (refine h1t (id:=38) ?_) | refine h0j ?_ | refine h0d ?_ | refine h1l ?_ | refine h0z ?_ | refine h1i ?_ | refine h1u ?_ | refine h0g rfl ?_ | (refine gR 34 ?_ <;> (try refine q_m ?_) <;> (try refine q_m ?_) <;> (try refine h0i ?_; (apply K1_callvc (F:=14); kernel_rfl; exact rfl; exact rfl; exact rfl; exact rfl; (apply find_c (rs:=rs) (c:=c) (k:=i) (hn:=(by omega)) (hk:=by omega) (hp:=hok); (focus exact h2j); (focus exact c_12)); rintro _ _ ⟨rfl, rfl⟩)) <;> (try refine q_e (q_b (r:=by exact h2n q_o)) ?_) <;> (try refine h0b ?_)))
     refine ⟨?_⟩
     repeat' (first | (refine h1t (id:=41) ?_) | refine h0j ?_ | refine h0d ?_ | refine h0l rfl ?_ | (refine gR 38 ?_ <;> (try refine q_m ?_) <;> (try refine q_m ?_) <;> (try refine h0i ?_; (refine q_c 6 (c:=by apply hbi; exact c_8; exact c_8) (h:=?_); rintro _ _ ⟨rfl, rfl⟩; (try simp only [zzE, zzF]))) <;> (try refine q_m ?_) <;> (try refine q_x ?_) <;> (try refine q_x ?_) <;> (try refine q_a ?_) <;> (try refine q_a ?_) <;> (try refine h0b ?_)) | (refine gR 39 ?_ <;> (try refine q_m ?_) <;> (try refine q_a ?_) <;> (try refine h0b ?_)) | (refine gR 40 ?_ <;> (try refine q_m ?_) <;> (try refine q_e (by exact q_b (r:=by refine h0w ?_; first | rfl | (with_reducible assumption) | (decide; done) | omega)) ?_) <;> (try refine h0b ?_)))
     refine ⟨?_⟩
     refine G_blocks (L' := e ++ ([ptB tb mb, h2p mb (prE (rs ++ [⟨k, 1, 0, c⟩])) (c + 1), bxM nbm (.slice am rs.length capm)] ++ L)) (fun w H => (HP.sub H c_17).perm (List.perm_append_comm_assoc [_, _, _] e L)) ?_
     simp only [List.cons_append, List.nil_append]
     have hcs : prC rs ++ [Value.int .i64 (k : Nat), .int .i64 1, .int .i64 0] = prC (rs ++ [⟨k, 1, 0, c⟩]) := by rw [← prC_snoc]; rfl
     repeat' (first | refine h0j ?_ | refine h0d ?_ | refine h0m ?_ | refine h0x ?_ | refine h0t ?_ | refine h0g rfl ?_ | (refine gR 41 ?_ <;> (try refine q_e (by apply h0e (t:=38); exact rfl; (focus (repeat (first | exact fd0 | apply fdA | apply fdS))); kernel_rfl; kernel_rfl; exact rfl) ?_) <;> (try refine q_m ?_) <;> (try refine q_e (by apply E_conv; exact rfl; (focus (apply r_conv Try.underlying22 Try.underlying3; first | (refine IntWalk.i64_in _ ?_; omega) | (refine IntWalk.u8_in _ ?_; omega) | (refine IntWalk.u16_in _ ?_; omega) | (refine IntWalk.u32_in _ ?_; omega) | (refine IntWalk.u64_in _ ?_; omega) | (refine IntWalk.i32_in _ ?_; omega) | exact rfl))) ?_) <;> (try refine q_e (by exact E_build (t:=40) (fun vs => (match vs with | [(_, x0), (_, x1), (_, x2)] => [x0, x1, x2] | _ => [])) rfl (fun w => by kernel_rfl)) ?_; (try simp only [Value.cells]); (try simp only [zzC, zzN])) <;> (try refine h0i ?_; (refine h1m (t:=38) (m:=1) (e:=40) (fun vs => (match vs with | [(_, x0)] => x0.cells.toList | _ => [])) rfl rfl (fun w => by kernel_rfl) ?_; intro nb hnb; (try simp only [Value.cells]); (try simp only [zzC, zzN]))) <;> (try refine h0i ?_; (apply K1_append; exact rfl; exact Try.underlying38; exact h1f; exact h1d; exact h1e; exact h1g; exact rfl; exact rfl; exact rfl; (with_reducible assumption); exact fd0; exact Nat.le_of_ble_eq_true rfl; exact c_16; exact rfl; exact c_13; omega; (focus (intro w H; repeat (first | exact H | (replace H := H.tail)))); exact rfl; exact c_10; exact c_5; intro vA eA hownA; obtain ⟨gA, capA, curA, rfl, rfl, hA1, hA2, hA3, hA4⟩ := hownA.some (by omega))) <;> (try refine h0i ?_; (apply h0f (t:=38); exact rfl; exact rfl; (focus (repeat (first | exact fd0 | apply fdA | apply fdS))); exact rfl; exact rfl; kernel_rfl; exact Nat.le_of_ble_eq_true rfl; exact h2q; (try simp only [List.set_cons_succ]); (try simp only [List.set_cons_zero]))) <;> (try refine h0b ?_)) | (refine gR 42 ?_ <;> (try refine q_m ?_) <;> (try refine q_m ?_) <;> (try refine q_e (by exact q_b (r:=by refine rb_neq_f ?_; first | rfl | (with_reducible assumption) | (decide; done) | omega)) ?_) <;> (try refine h0b ?_)))
     rw [hcs] at hA4
     exact h0p (rs ++ [⟨k, 1, 0, c⟩], c + 1, .slice (some ⟨gA, 0, none⟩) (rs.length + 1) capA, [⟨true, gA, .cells curA 40 (0, 0)⟩], 0) ⟨hok.snoc (by omega) hpk, by dsimp only; rw [List.length_append]; exact own_mk (g:=gA) hA1 hA2 hA3 hA4⟩ (by (focus (repeat (first | exact Sub.nil | refine Sub.cons rfl ?_)))) c_15
   ·rcases hat with ⟨hp, hf, _, _, _⟩ | ⟨j, r, hp, hr, hf, _, _, _⟩
    ·rw [hf]
     have hbi := fun (L : List Blk) (i' j' : Nat) h1 h2 => (bind_n (S:=S) (w0:=w0) (L:=(L.eraseIdx i').eraseIdx j') tb mb rs c n hn0 hop hp).at2 (L:=L) (i:=i') (j:=j') h1 h2
     repeat' (first | (refine h1t (id:=38) ?_) | refine h0j ?_ | refine h0d ?_ | refine h0t ?_ | refine h0l rfl ?_ | refine h0g rfl ?_ | (refine gR 31 ?_ <;> (try refine q_m ?_) <;> (try refine q_a ?_) <;> (try refine h0b ?_)) | (refine gR 32 ?_ <;> (try refine q_m ?_) <;> (try refine q_e (q_b (r:=by exact h0h q_o)) ?_) <;> (try refine h0b ?_)) | (refine gR 36 ?_ <;> (try refine q_m ?_) <;> (try refine q_e (q_b (r:=by exact h2n q_o)) ?_) <;> (try refine h0b ?_)))
     refine ⟨?_⟩
     repeat' (first | (refine h1t (id:=41) ?_) | refine h0j ?_ | refine h0d ?_ | refine h0l rfl ?_ | (refine gR 38 ?_ <;> (try refine q_m ?_) <;> (try refine q_m ?_) <;> (try refine h0i ?_; (refine q_c 6 (c:=by apply hbi; exact c_8; exact c_8) (h:=?_); rintro _ _ ⟨rfl, rfl⟩; (try simp only [zzE, zzF]))) <;> (try refine q_m ?_) <;> (try refine q_x ?_) <;> (try refine q_x ?_) <;> (try refine q_a ?_) <;> (try refine q_a ?_) <;> (try refine h0b ?_)) | (refine gR 39 ?_ <;> (try refine q_m ?_) <;> (try refine q_a ?_) <;> (try refine h0b ?_)) | (refine gR 40 ?_ <;> (try refine q_m ?_) <;> (try refine q_e (by exact q_b (r:=by refine h0w ?_; first | rfl | (with_reducible assumption) | (decide; done) | omega)) ?_) <;> (try refine h0b ?_)))
     refine ⟨?_⟩
     refine G_blocks (L' := e ++ ([ptB tb mb, h2p mb (prE (rs ++ [⟨n, 1, 0, c⟩])) (c + 1), bxM nbm (.slice am rs.length capm)] ++ L)) (fun w H => (HP.sub H c_17).perm (List.perm_append_comm_assoc [_, _, _] e L)) ?_
     simp only [List.cons_append, List.nil_append]
     have hcs : prC rs ++ [Value.int .i64 (n : Nat), .int .i64 1, .int .i64 0] = prC (rs ++ [⟨n, 1, 0, c⟩]) := by rw [← prC_snoc]; rfl
     repeat' (first | refine h0j ?_ | refine h0d ?_ | refine h0m ?_ | refine h0x ?_ | refine h0t ?_ | refine h0g rfl ?_ | (refine gR 41 ?_ <;> (try refine q_e (by apply h0e (t:=38); exact rfl; (focus (repeat (first | exact fd0 | apply fdA | apply fdS))); kernel_rfl; kernel_rfl; exact rfl) ?_) <;> (try refine q_m ?_) <;> (try refine q_e (by apply E_conv; exact rfl; (focus (apply r_conv Try.underlying22 Try.underlying3; first | (refine IntWalk.i64_in _ ?_; omega) | (refine IntWalk.u8_in _ ?_; omega) | (refine IntWalk.u16_in _ ?_; omega) | (refine IntWalk.u32_in _ ?_; omega) | (refine IntWalk.u64_in _ ?_; omega) | (refine IntWalk.i32_in _ ?_; omega) | exact rfl))) ?_) <;> (try refine q_e (by exact E_build (t:=40) (fun vs => (match vs with | [(_, x0), (_, x1), (_, x2)] => [x0, x1, x2] | _ => [])) rfl (fun w => by kernel_rfl)) ?_; (try simp only [Value.cells]); (try simp only [zzC, zzN])) <;> (try refine h0i ?_; (refine h1m (t:=38) (m:=1) (e:=40) (fun vs => (match vs with | [(_, x0)] => x0.cells.toList | _ => [])) rfl rfl (fun w => by kernel_rfl) ?_; intro nb hnb; (try simp only [Value.cells]); (try simp only [zzC, zzN]))) <;> (try refine h0i ?_; (apply K1_append; exact rfl; exact Try.underlying38; exact h1f; exact h1d; exact h1e; exact h1g; exact rfl; exact rfl; exact rfl; (with_reducible assumption); exact fd0; exact Nat.le_of_ble_eq_true rfl; exact c_16; exact rfl; exact c_13; omega; (focus (intro w H; repeat (first | exact H | (replace H := H.tail)))); exact rfl; exact c_10; exact c_5; intro vA eA hownA; obtain ⟨gA, capA, curA, rfl, rfl, hA1, hA2, hA3, hA4⟩ := hownA.some (by omega))) <;> (try refine h0i ?_; (apply h0f (t:=38); exact rfl; exact rfl; (focus (repeat (first | exact fd0 | apply fdA | apply fdS))); exact rfl; exact rfl; kernel_rfl; exact Nat.le_of_ble_eq_true rfl; exact h2q; (try simp only [List.set_cons_succ]); (try simp only [List.set_cons_zero]))) <;> (try refine h0b ?_)) | (refine gR 42 ?_ <;> (try refine q_m ?_) <;> (try refine q_m ?_) <;> (try refine q_e (by exact q_b (r:=by refine rb_neq_f ?_; first | rfl | (with_reducible assumption) | (decide; done) | omega)) ?_) <;> (try refine h0b ?_)))
     rw [hcs] at hA4
     exact h0p (rs ++ [⟨n, 1, 0, c⟩], c + 1, .slice (some ⟨gA, 0, none⟩) (rs.length + 1) capA, [⟨true, gA, .cells curA 40 (0, 0)⟩], 0) ⟨hok.snoc hn hp, by dsimp only; rw [List.length_append]; exact own_mk (g:=gA) hA1 hA2 hA3 hA4⟩ (by (focus (repeat (first | exact Sub.nil | refine Sub.cons rfl ?_)))) c_15
    ·rw [hf]
     have hbi := fun (L : List Blk) (i' j' : Nat) h1 h2 => (bind_s (S:=S) (w0:=w0) (L:=(L.eraseIdx i').eraseIdx j') tb mb rs c n hn0 hop hp).at2 (L:=L) (i:=i') (j:=j') h1 h2
     repeat' (first | refine h0j ?_ | refine h0d ?_ | refine h0m ?_ | refine h0x ?_ | refine h0t ?_ | refine h0l rfl ?_ | refine h0g rfl ?_ | (refine gR 31 ?_ <;> (try refine q_m ?_) <;> (try refine q_a ?_) <;> (try refine h0b ?_)) | (refine gR 32 ?_ <;> (try refine q_m ?_) <;> (try refine q_e (q_b (r:=by exact h0h q_o)) ?_) <;> (try refine h0b ?_)) | (refine gR 36 ?_ <;> (try refine q_m ?_) <;> (try refine q_e (q_b (r:=by exact h2t q_o)) ?_) <;> (try refine h0b ?_)) | (refine gR 37 ?_ <;> (try refine q_a ?_) <;> (try refine h0b ?_)) | (refine gR 38 ?_ <;> (try refine q_m ?_) <;> (try refine q_m ?_) <;> (try refine h0i ?_; (refine q_c 6 (c:=by apply hbi; exact c_8; exact c_8) (h:=?_); rintro _ _ ⟨rfl, rfl⟩; (try simp only [zzE, zzF]))) <;> (try refine q_m ?_) <;> (try refine q_x ?_) <;> (try refine q_x ?_) <;> (try refine q_a ?_) <;> (try refine q_a ?_) <;> (try refine h0b ?_)) | (refine gR 39 ?_ <;> (try refine q_m ?_) <;> (try refine q_a ?_) <;> (try refine h0b ?_)) | (refine gR 40 ?_ <;> (try refine q_m ?_) <;> (try refine q_e (q_b (r:=by exact h0h q_o)) ?_) <;> (try refine h0b ?_)))
     exact h0p (rs, c, .slice am rs.length capm, e, 98) ⟨hok', hown⟩ (by (focus (repeat (first | exact Sub.nil | refine Sub.cons rfl ?_)))) c_14
  have h27 : xk % 7 = 2 ∨ xk % 7 = 3 ∨ xk % 7 = 4 ∨ (xk % 7 = 5 ∨ xk % 7 = 6) := by omega
  clear h01
  rcases hat with ⟨hp, hf, rfl, rfl, rfl⟩ | ⟨j, r, hp, hr, hf, rfl, rfl, rfl⟩
  ·rw [hf]
   clear hf
   have hsh := fun (L : List Blk) (i' j' : Nat) h1 h2 => (share_n (S:=S) (w0:=w0) (L:=(L.eraseIdx i').eraseIdx j') tb mb rs c n i (by omega) hok xl hp).at2 (L:=L) (i:=i') (j:=j') h1 h2
   have hli := fun (L : List Blk) (i' j' : Nat) h1 h2 => (listen_n (S:=S) (w0:=w0) (L:=(L.eraseIdx i').eraseIdx j') tb mb rs c n i (by omega) hok hp).at2 (L:=L) (i:=i') (j:=j') h1 h2
   have hdr := fun (L : List Blk) (i' j' : Nat) h1 h2 => (drop_n (S:=S) (w0:=w0) (L:=(L.eraseIdx i').eraseIdx j') tb mb rs c n i (by omega) hok xl hp).at2 (L:=L) (i:=i') (j:=j') h1 h2
   have hco := fun (L : List Blk) (i' j' : Nat) h1 h2 => (connect_n (S:=S) (w0:=w0) (L:=(L.eraseIdx i').eraseIdx j') tb mb rs c n hp).at2 (L:=L) (i:=i') (j:=j') h1 h2
   rcases h27 with h7 | h7 | h7 | h56
   ·rw [h7]
    repeat' (first | refine h0j ?_ | refine h0d ?_ | refine h0m ?_ | refine h0z ?_ | refine h1i ?_ | refine h0k ?_ | refine h1u ?_ | refine h0l rfl ?_ | refine h0g rfl ?_ | (refine gR 29 ?_ <;> (try refine q_e (q_b (r:=by exact h0h q_o)) ?_) <;> (try refine q_a ?_) <;> (try refine h0b ?_)) | (refine gR 30 ?_ <;> (try refine q_e (q_b (r:=by exact h0h q_o)) ?_) <;> (try refine q_a ?_) <;> (try refine h0b ?_)) | (refine gR 44 ?_ <;> (try refine q_e (by exact q_b (r:=by refine h0w ?_; first | rfl | (with_reducible assumption) | (decide; done) | omega)) ?_) <;> (try refine q_a ?_) <;> (try refine h0b ?_)) | (refine gR 45 ?_ <;> (try refine q_m ?_) <;> (try refine q_m ?_) <;> (try refine q_e (q_f h2x) ?_) <;> (try refine q_e q_l ?_) <;> (try refine h0i ?_; (refine q_c 7 (c:=by apply hsh; exact c_8; exact c_8) (h:=?_); rintro _ _ ⟨rfl, rfl⟩; (try simp only [zzE, zzF]))) <;> (try refine q_a ?_) <;> (try refine h0b ?_)) | (refine gR 46 ?_ <;> (try refine q_m ?_) <;> (try refine q_e (q_b (r:=by exact h2s q_o)) ?_) <;> (try refine h0b ?_)) | (refine gR 47 ?_ <;> (try refine q_a ?_) <;> (try refine h0b ?_)))
    exact h0p (rs, c, .slice am rs.length capm, e, 2) ⟨hok', hown⟩ (by (focus (repeat (first | exact Sub.nil | refine Sub.cons rfl ?_)))) c_14
   ·rw [h7]
    repeat' (first | refine h0j ?_ | refine h0d ?_ | refine h0m ?_ | refine h0x ?_ | refine h0k ?_ | refine h0l rfl ?_ | refine h0g rfl ?_ | (refine gR 29 ?_ <;> (try refine q_e (q_b (r:=by exact h0h q_o)) ?_) <;> (try refine q_a ?_) <;> (try refine h0b ?_)) | (refine gR 30 ?_ <;> (try refine q_e (q_b (r:=by exact h0h q_o)) ?_) <;> (try refine q_a ?_) <;> (try refine h0b ?_)) | (refine gR 44 ?_ <;> (try refine q_e (q_b (r:=by exact h0h q_o)) ?_) <;> (try refine q_a ?_) <;> (try refine h0b ?_)) | (refine gR 51 ?_ <;> (try refine q_e (by exact q_b (r:=by refine h0w ?_; first | rfl | (with_reducible assumption) | (decide; done) | omega)) ?_) <;> (try refine q_a ?_) <;> (try refine h0b ?_)) | (refine gR 52 ?_ <;> (try refine q_m ?_) <;> (try refine q_m ?_) <;> (try refine h0i ?_; (refine q_c 8 (c:=by apply hli; exact c_8; exact c_8) (h:=?_); rintro _ _ ⟨rfl, rfl⟩; (try simp only [zzE, zzF]))) <;> (try refine q_a ?_) <;> (try refine h0b ?_)) | (refine gR 53 ?_ <;> (try refine q_e (q_f h2r) ?_) <;> (try refine q_e q_l ?_) <;> (try refine q_e (q_f h2v) ?_) <;> (try refine q_e q_l ?_) <;> (try refine q_e (q_b (r:=by exact h2t q_o)) ?_) <;> (try refine h0b ?_)) | (refine gR 54 ?_ <;> (try refine q_a ?_) <;> (try refine h0b ?_)))
    exact h0p (rs, c, .slice am rs.length capm, e, 22) ⟨hok', hown⟩ (by (focus (repeat (first | exact Sub.nil | refine Sub.cons rfl ?_)))) c_14
   ·rw [h7]
    repeat' (first | refine h0j ?_ | refine h0d ?_ | refine h0m ?_ | refine h0x ?_ | refine h0k ?_ | refine h0l rfl ?_ | refine h0g rfl ?_ | (refine gR 29 ?_ <;> (try refine q_e (q_b (r:=by exact h0h q_o)) ?_) <;> (try refine q_a ?_) <;> (try refine h0b ?_)) | (refine gR 30 ?_ <;> (try refine q_e (q_b (r:=by exact h0h q_o)) ?_) <;> (try refine q_a ?_) <;> (try refine h0b ?_)) | (refine gR 44 ?_ <;> (try refine q_e (q_b (r:=by exact h0h q_o)) ?_) <;> (try refine q_a ?_) <;> (try refine h0b ?_)) | (refine gR 51 ?_ <;> (try refine q_e (q_b (r:=by exact h0h q_o)) ?_) <;> (try refine q_a ?_) <;> (try refine h0b ?_)) | (refine gR 56 ?_ <;> (try refine q_e (by exact q_b (r:=by refine h0w ?_; first | rfl | (with_reducible assumption) | (decide; done) | omega)) ?_) <;> (try refine q_a ?_) <;> (try refine h0b ?_)) | (refine gR 57 ?_ <;> (try refine q_m ?_) <;> (try refine q_m ?_) <;> (try refine h0i ?_; (refine q_c 9 (c:=by apply hco; exact c_8; exact c_8) (h:=?_); rintro _ _ ⟨rfl, rfl⟩; (try simp only [zzE, zzF]))) <;> (try refine q_a ?_) <;> (try refine h0b ?_)) | (refine gR 58 ?_ <;> (try refine q_e (q_f h2r) ?_) <;> (try refine q_e q_l ?_) <;> (try refine q_e (by exact q_b (r:=by refine h0w ?_; first | rfl | (with_reducible assumption) | (decide; done) | omega)) ?_) <;> (try refine h0b ?_)) | (refine gR 59 ?_ <;> (try refine q_a ?_) <;> (try refine h0b ?_)))
    exact h0p (rs, c, .slice am rs.length capm, e, 111) ⟨hok', hown⟩ (by (focus (repeat (first | exact Sub.nil | refine Sub.cons rfl ?_)))) c_14
   ·repeat' (first | refine h0j ?_ | refine h0d ?_ | refine h0m ?_ | refine h0x ?_ | refine h0k ?_ | refine h0l rfl ?_ | refine h0g rfl ?_ | (refine gR 29 ?_ <;> (try refine q_e (q_b (r:=by exact h0h q_o)) ?_) <;> (try refine q_a ?_) <;> (try refine h0b ?_)) | (refine gR 30 ?_ <;> (try refine q_e (q_b (r:=by exact h0h q_o)) ?_) <;> (try refine q_a ?_) <;> (try refine h0b ?_)) | (refine gR 44 ?_ <;> (try refine q_e (q_b (r:=by exact h0h q_o)) ?_) <;> (try refine q_a ?_) <;> (try refine h0b ?_)) | (refine gR 51 ?_ <;> (try refine q_e (q_b (r:=by exact h0h q_o)) ?_) <;> (try refine q_a ?_) <;> (try refine h0b ?_)) | (refine gR 56 ?_ <;> (try refine q_e (q_b (r:=by exact h0h q_o)) ?_) <;> (try refine q_a ?_) <;> (try refine h0b ?_)) | (refine gR 19 ?_ <;> (try refine q_m ?_) <;> (try refine q_m ?_) <;> (try refine q_e (q_f h2x) ?_) <;> (try refine q_e q_l ?_) <;> (try refine h0i ?_; (refine q_c 10 (c:=by apply hdr; exact c_8; exact c_8) (h:=?_); rintro _ _ ⟨rfl, rfl⟩; (try simp only [zzE, zzF]))) <;> (try refine q_a ?_) <;> (try refine h0b ?_)) | (refine gR 25 ?_ <;> (try refine q_m ?_) <;> (try refine q_e (q_b (r:=by exact h2s q_o)) ?_) <;> (try refine q_a ?_) <;> (try refine h0b ?_)) | (refine gR 26 ?_ <;> (try refine q_a ?_) <;> (try refine h0b ?_)))
    exact h0p (rs, c, .slice am rs.length capm, e, 2) ⟨hok', hown⟩ (by (focus (repeat (first | exact Sub.nil | refine Sub.cons rfl ?_)))) c_14
  ·rw [hf]
   clear hf
   have hjl := pix_lt hp
   rcases own_cases hown with ⟨_, hz, _, _⟩ | ⟨g, cap', cur, hv, rfl, h1', h2', h3', h4'⟩
   ·omega
   injection hv with hv1 _ hv2
   subst hv1 hv2
   obtain ⟨rest, rfl⟩ := prA_of h4'
   have hgl := prA_len rs rest
   have hge : ∀ (rs' : List PR) (hl : rs'.length = rs.length) (r' : PR) (hr' : rs'[j]? = some r'), (prA rs' rest).toArray.toList[j * 3 + 1]? = some (.int .i64 (r'.o : Nat)) ∧ (prA rs' rest).toArray.toList[j * 3 + 2]? = some (.int .i64 (r'.l : Nat)) := fun rs' hl r' hr' => prA_get rest (by omega) hr'
   have hst1 : ∀ (rs' : List PR) (hl : rs'.length = rs.length) (r' : PR) (hr' : rs'[j]? = some r') (o' : Nat) (v : Int) (hv : v = o'), (prA rs' rest).set (j * 3 + 1) (.int .i64 v) = prA (rs'.set j ⟨r'.n, o', r'.l, r'.b⟩) rest := fun rs' hl r' hr' o' v hv => by subst hv; exact prA_set rest 1 (by omega) (by omega) hr' rfl
   have hst2 : ∀ (rs' : List PR) (hl : rs'.length = rs.length) (r' : PR) (hr' : rs'[j]? = some r') (l' : Nat) (v : Int) (hv : v = l'), (prA rs' rest).set (j * 3 + 2) (.int .i64 v) = prA (rs'.set j ⟨r'.n, r'.o, l', r'.b⟩) rest := fun rs' hl r' hr' o' v hv => by subst hv; exact prA_set rest 2 (by omega) (by omega) hr' rfl
   obtain ⟨rn, o, lw, bo⟩ := r
   have ho := hok.op _ (List.mem_of_getElem? hr)
   dsimp only at ho ⊢
   obtain ⟨g1, g2⟩ := hge rs rfl _ hr
   dsimp only at g1 g2
   have hset : ∀ r' : PR, (rs.set j r')[j]? = some r' := fun r' => by simp [hjl]
   have hss := fun (x y : PR) => List.set_set (l:=rs) (i:=j) (a:=x) (b:=y)
   have hco := fun (L : List Blk) (i' j' : Nat) h1 h2 => (connect_s (S:=S) (w0:=w0) (L:=(L.eraseIdx i').eraseIdx j') tb mb rs c n hp hr).at2 (L:=L) (i:=i') (j:=j') h1 h2
   dsimp only at hco
   have hsh := fun (L : List Blk) (i' j' : Nat) h1 h2 => (share_s (S:=S) (w0:=w0) (L:=(L.eraseIdx i').eraseIdx j') tb mb rs c n i (by omega) hok xl hp hr).at2 (L:=L) (i:=i') (j:=j') h1 h2
   rcases h27 with h7 | h7 | h7 | h56
   ·rw [h7]
    repeat' (first | (refine h1t (id:=49) ?_) | refine h0j ?_ | refine h0d ?_ | refine h0k ?_ | refine h0t ?_ | refine h0l rfl ?_ | refine h0g rfl ?_ | (refine gR 29 ?_ <;> (try refine q_e (q_b (r:=by exact h0h q_o)) ?_) <;> (try refine q_a ?_) <;> (try refine h0b ?_)) | (refine gR 30 ?_ <;> (try refine q_e (q_b (r:=by exact h0h q_o)) ?_) <;> (try refine q_a ?_) <;> (try refine h0b ?_)) | (refine gR 44 ?_ <;> (try refine q_e (by exact q_b (r:=by refine h0w ?_; first | rfl | (with_reducible assumption) | (decide; done) | omega)) ?_) <;> (try refine q_a ?_) <;> (try refine h0b ?_)) | (refine gR 45 ?_ <;> (try refine q_m ?_) <;> (try refine q_m ?_) <;> (try refine q_e (q_f h2x) ?_) <;> (try refine q_e q_l ?_) <;> (try refine h0i ?_; (refine q_c 7 (c:=by apply hsh; exact c_8; exact c_8) (h:=?_); rintro _ _ ⟨rfl, rfl⟩; (try simp only [zzE, zzF]))) <;> (try refine q_a ?_) <;> (try refine h0b ?_)) | (refine gR 46 ?_ <;> (try refine q_m ?_) <;> (try refine q_e (q_b (r:=by exact h2i q_o)) ?_) <;> (try refine h0b ?_)) | (refine gR 48 ?_ <;> (try refine q_e q_l ?_) <;> (try refine q_m ?_) <;> (try refine q_e (by apply h0a; exact rfl; exact rfl; (focus (apply h0n Try.underlying38 h1z; omega; omega; exact c_1))) ?_) <;> (try refine q_e (q_g h2v) ?_) <;> (try refine q_e (by apply h0e (t:=3); exact rfl; exact h2j; kernel_rfl; kernel_rfl; (with_reducible assumption)) ?_) <;> (try refine q_e (q_b (r:=by apply h0u; exact c_6; (focus (refine IntWalk.i64_in _ ?_; omega)))) ?_) <;> (try refine q_e (by apply h0a; exact rfl; exact rfl; (focus (apply h0n Try.underlying38 h1z; omega; omega; exact c_1))) ?_) <;> (try refine q_e (q_g h2v) ?_) <;> (try refine h0i ?_; (apply h0f (t:=3); exact rfl; exact rfl; exact h2j; exact rfl; exact rfl; kernel_rfl; (focus (omega)); exact h2q; (try simp only [List.set_cons_succ]); (try simp only [List.set_cons_zero]))) <;> (try refine h0b ?_)))
    refine ⟨?_⟩
    rw [hst1 rs rfl _ hr (o + 1) _ (by omega)]
    dsimp only
    obtain ⟨k1, k2⟩ := hge _ (by simp) _ (hset ⟨rn, o + 1, lw, bo⟩)
    dsimp only at k1 k2
    have hgl2 := prA_len (rs.set j ⟨rn, o + 1, lw, bo⟩) rest
    rw [List.length_set] at hgl2
    cases xl
    ·repeat' (first | refine h0d ?_ | refine h0m ?_ | refine h0x ?_ | refine h0t ?_ | refine h0g rfl ?_ | (refine gR 49 ?_ <;> (try refine q_e (q_f h2x) ?_) <;> (try refine q_e q_l ?_) <;> (try refine h0b ?_)))
     exact h0p (rs.set j ⟨rn, o + 1, lw, bo⟩, c, .slice (some ⟨g, 0, none⟩) rs.length capm, [⟨true, g, .cells (prA (rs.set j ⟨rn, o + 1, lw, bo⟩) rest).toArray 40 (0, 0)⟩], 0) ⟨hok.set hr rfl rfl (by dsimp only; omega), own_prA (by simp) h1' h2' h3'⟩ (by (focus (repeat (first | exact Sub.nil | refine Sub.cons rfl ?_)))) c_14
    ·repeat' (first | refine h0d ?_ | refine h0m ?_ | refine h0x ?_ | refine h0l rfl ?_ | (refine gR 49 ?_ <;> (try refine q_e (q_f h2x) ?_) <;> (try refine q_e q_l ?_) <;> (try refine h0b ?_)) | (refine gR 50 ?_ <;> (try refine q_e q_l ?_) <;> (try refine q_m ?_) <;> (try refine q_e (by apply h0a; exact rfl; exact rfl; (focus (apply h0n Try.underlying38 h1z; omega; omega; exact c_1))) ?_) <;> (try refine q_e (q_g h2r) ?_) <;> (try refine q_e (by apply h0e (t:=3); exact rfl; exact h2j; kernel_rfl; kernel_rfl; (with_reducible assumption)) ?_) <;> (try refine q_e (q_b (r:=by apply h0u; exact c_6; (focus (refine IntWalk.i64_in _ ?_; omega)))) ?_) <;> (try refine q_e (by apply h0a; exact rfl; exact rfl; (focus (apply h0n Try.underlying38 h1z; omega; omega; exact c_1))) ?_) <;> (try refine q_e (q_g h2r) ?_) <;> (try refine h0i ?_; (apply h0f (t:=3); exact rfl; exact rfl; exact h2j; exact rfl; exact rfl; kernel_rfl; (focus (omega)); exact h2q; (try simp only [List.set_cons_succ]); (try simp only [List.set_cons_zero]))) <;> (try refine h0b ?_)))
     rw [hst2 _ (by simp) _ (hset ⟨rn, o + 1, lw, bo⟩) (lw + 1) _ (by omega), hss]
     exact h0p (rs.set j ⟨rn, o + 1, lw + 1, bo⟩, c, .slice (some ⟨g, 0, none⟩) rs.length capm, [⟨true, g, .cells (prA (rs.set j ⟨rn, o + 1, lw + 1, bo⟩) rest).toArray 40 (0, 0)⟩], 0) ⟨hok.set hr rfl rfl (by dsimp only; omega), own_prA (by simp) h1' h2' h3'⟩ (by (focus (repeat (first | exact Sub.nil | refine Sub.cons rfl ?_)))) c_14
   ·rw [h7]
    by_cases hl : o ≤ lw
    ·have hli := fun (L : List Blk) (i' j' : Nat) h1 h2 => (listen_f (S:=S) (w0:=w0) (L:=(L.eraseIdx i').eraseIdx j') tb mb rs c n i (by omega) hok hp hr hl).at2 (L:=L) (i:=i') (j:=j') h1 h2
     repeat' (first | refine h0j ?_ | refine h0d ?_ | refine h0m ?_ | refine h0x ?_ | refine h0k ?_ | refine h0l rfl ?_ | refine h0g rfl ?_ | (refine gR 29 ?_ <;> (try refine q_e (q_b (r:=by exact h0h q_o)) ?_) <;> (try refine q_a ?_) <;> (try refine h0b ?_)) | (refine gR 30 ?_ <;> (try refine q_e (q_b (r:=by exact h0h q_o)) ?_) <;> (try refine q_a ?_) <;> (try refine h0b ?_)) | (refine gR 44 ?_ <;> (try refine q_e (q_b (r:=by exact h0h q_o)) ?_) <;> (try refine q_a ?_) <;> (try refine h0b ?_)) | (refine gR 51 ?_ <;> (try refine q_e (by exact q_b (r:=by refine h0w ?_; first | rfl | (with_reducible assumption) | (decide; done) | omega)) ?_) <;> (try refine q_a ?_) <;> (try refine h0b ?_)) | (refine gR 52 ?_ <;> (try refine q_m ?_) <;> (try refine q_m ?_) <;> (try refine h0i ?_; (refine q_c 8 (c:=by apply hli; exact c_8; exact c_8) (h:=?_); rintro _ _ ⟨rfl, rfl⟩; (try simp only [zzE, zzF]))) <;> (try refine q_a ?_) <;> (try refine h0b ?_)) | (refine gR 53 ?_ <;> (try refine q_e (q_f h2r) ?_) <;> (try refine q_e q_l ?_) <;> (try refine q_e (q_f h2v) ?_) <;> (try refine q_e q_l ?_) <;> (try refine q_e (q_b (r:=by exact h2t q_o)) ?_) <;> (try refine h0b ?_)) | (refine gR 54 ?_ <;> (try refine q_a ?_) <;> (try refine h0b ?_)))
     exact h0p (rs, c, .slice (some ⟨g, 0, none⟩) rs.length capm, [⟨true, g, .cells (prA (rs) rest).toArray 40 (0, 0)⟩], 22) ⟨hok', own_prA (by simp) h1' h2' h3'⟩ (by (focus (repeat (first | exact Sub.nil | refine Sub.cons rfl ?_)))) c_14
    ·have hl2 : lw < o := by omega
     have hli := fun (L : List Blk) (i' j' : Nat) h1 h2 => (listen_s (S:=S) (w0:=w0) (L:=(L.eraseIdx i').eraseIdx j') tb mb rs c n i (by omega) hok hp hr hl2).at2 (L:=L) (i:=i') (j:=j') h1 h2
     repeat' (first | refine h0j ?_ | refine h0d ?_ | refine h0m ?_ | refine h0x ?_ | refine h0k ?_ | refine h0l rfl ?_ | refine h0g rfl ?_ | (refine gR 29 ?_ <;> (try refine q_e (q_b (r:=by exact h0h q_o)) ?_) <;> (try refine q_a ?_) <;> (try refine h0b ?_)) | (refine gR 30 ?_ <;> (try refine q_e (q_b (r:=by exact h0h q_o)) ?_) <;> (try refine q_a ?_) <;> (try refine h0b ?_)) | (refine gR 44 ?_ <;> (try refine q_e (q_b (r:=by exact h0h q_o)) ?_) <;> (try refine q_a ?_) <;> (try refine h0b ?_)) | (refine gR 51 ?_ <;> (try refine q_e (by exact q_b (r:=by refine h0w ?_; first | rfl | (with_reducible assumption) | (decide; done) | omega)) ?_) <;> (try refine q_a ?_) <;> (try refine h0b ?_)) | (refine gR 52 ?_ <;> (try refine q_m ?_) <;> (try refine q_m ?_) <;> (try refine h0i ?_; (refine q_c 8 (c:=by apply hli; exact c_8; exact c_8) (h:=?_); rintro _ _ ⟨rfl, rfl⟩; (try simp only [zzE, zzF]))) <;> (try refine q_a ?_) <;> (try refine h0b ?_)) | (refine gR 53 ?_ <;> (try refine q_e (q_f h2r) ?_) <;> (try refine q_e q_l ?_) <;> (try refine q_e (q_f h2v) ?_) <;> (try refine q_e q_l ?_) <;> (try refine q_e (q_b (r:=by exact h2n q_o)) ?_) <;> (try refine h0b ?_)) | (refine gR 55 ?_ <;> (try refine q_e q_l ?_) <;> (try refine q_m ?_) <;> (try refine q_e (by apply h0a; exact rfl; exact rfl; (focus (apply h0n Try.underlying38 h1z; omega; omega; exact c_1))) ?_) <;> (try refine q_e (q_g h2r) ?_) <;> (try refine q_e (by apply h0e (t:=3); exact rfl; exact h2j; kernel_rfl; kernel_rfl; (with_reducible assumption)) ?_) <;> (try refine q_e (q_b (r:=by apply h0u; exact c_6; (focus (refine IntWalk.i64_in _ ?_; omega)))) ?_) <;> (try refine q_e (by apply h0a; exact rfl; exact rfl; (focus (apply h0n Try.underlying38 h1z; omega; omega; exact c_1))) ?_) <;> (try refine q_e (q_g h2r) ?_) <;> (try refine h0i ?_; (apply h0f (t:=3); exact rfl; exact rfl; exact h2j; exact rfl; exact rfl; kernel_rfl; (focus (omega)); exact h2q; (try simp only [List.set_cons_succ]); (try simp only [List.set_cons_zero]))) <;> (try refine h0b ?_)))
     rw [hst2 rs rfl _ hr (lw + 1) _ (by omega)]
     exact h0p (rs.set j ⟨rn, o, lw + 1, bo⟩, c, .slice (some ⟨g, 0, none⟩) rs.length capm, [⟨true, g, .cells (prA (rs.set j ⟨rn, o, lw + 1, bo⟩) rest).toArray 40 (0, 0)⟩], 0) ⟨hok.set hr rfl rfl (by dsimp only; omega), own_prA (by simp) h1' h2' h3'⟩ (by (focus (repeat (first | exact Sub.nil | refine Sub.cons rfl ?_)))) c_14
   ·rw [h7]
    by_cases hl : lw = 0
    ·rw [if_pos hl] at hco
     repeat' (first | refine h0j ?_ | refine h0d ?_ | refine h0m ?_ | refine h0x ?_ | refine h0k ?_ | refine h0l rfl ?_ | refine h0g rfl ?_ | (refine gR 29 ?_ <;> (try refine q_e (q_b (r:=by exact h0h q_o)) ?_) <;> (try refine q_a ?_) <;> (try refine h0b ?_)) | (refine gR 30 ?_ <;> (try refine q_e (q_b (r:=by exact h0h q_o)) ?_) <;> (try refine q_a ?_) <;> (try refine h0b ?_)) | (refine gR 44 ?_ <;> (try refine q_e (q_b (r:=by exact h0h q_o)) ?_) <;> (try refine q_a ?_) <;> (try refine h0b ?_)) | (refine gR 51 ?_ <;> (try refine q_e (q_b (r:=by exact h0h q_o)) ?_) <;> (try refine q_a ?_) <;> (try refine h0b ?_)) | (refine gR 56 ?_ <;> (try refine q_e (by exact q_b (r:=by refine h0w ?_; first | rfl | (with_reducible assumption) | (decide; done) | omega)) ?_) <;> (try refine q_a ?_) <;> (try refine h0b ?_)) | (refine gR 57 ?_ <;> (try refine q_m ?_) <;> (try refine q_m ?_) <;> (try refine h0i ?_; (refine q_c 9 (c:=by apply hco; exact c_8; exact c_8) (h:=?_); rintro _ _ ⟨rfl, rfl⟩; (try simp only [zzE, zzF]))) <;> (try refine q_a ?_) <;> (try refine h0b ?_)) | (refine gR 58 ?_ <;> (try refine q_e (q_f h2r) ?_) <;> (try refine q_e q_l ?_) <;> (try refine q_e (by exact q_b (r:=by refine h0w ?_; first | rfl | (with_reducible assumption) | (decide; done) | omega)) ?_) <;> (try refine h0b ?_)) | (refine gR 59 ?_ <;> (try refine q_a ?_) <;> (try refine h0b ?_)))
     exact h0p (rs, c, .slice (some ⟨g, 0, none⟩) rs.length capm, [⟨true, g, .cells (prA (rs) rest).toArray 40 (0, 0)⟩], 111) ⟨hok', own_prA (by simp) h1' h2' h3'⟩ (by (focus (repeat (first | exact Sub.nil | refine Sub.cons rfl ?_)))) c_14
    ·rw [if_neg hl] at hco
     repeat' (first | refine h0j ?_ | refine h0d ?_ | refine h0m ?_ | refine h0x ?_ | refine h0k ?_ | refine h0t ?_ | refine h0l rfl ?_ | refine h0g rfl ?_ | (refine gR 29 ?_ <;> (try refine q_e (q_b (r:=by exact h0h q_o)) ?_) <;> (try refine q_a ?_) <;> (try refine h0b ?_)) | (refine gR 30 ?_ <;> (try refine q_e (q_b (r:=by exact h0h q_o)) ?_) <;> (try refine q_a ?_) <;> (try refine h0b ?_)) | (refine gR 44 ?_ <;> (try refine q_e (q_b (r:=by exact h0h q_o)) ?_) <;> (try refine q_a ?_) <;> (try refine h0b ?_)) | (refine gR 51 ?_ <;> (try refine q_e (q_b (r:=by exact h0h q_o)) ?_) <;> (try refine q_a ?_) <;> (try refine h0b ?_)) | (refine gR 56 ?_ <;> (try refine q_e (by exact q_b (r:=by refine h0w ?_; first | rfl | (with_reducible assumption) | (decide; done) | omega)) ?_) <;> (try refine q_a ?_) <;> (try refine h0b ?_)) | (refine gR 57 ?_ <;> (try refine q_m ?_) <;> (try refine q_m ?_) <;> (try refine h0i ?_; (refine q_c 9 (c:=by apply hco; exact c_8; exact c_8) (h:=?_); rintro _ _ ⟨rfl, rfl⟩; (try simp only [zzE, zzF]))) <;> (try refine q_a ?_) <;> (try refine h0b ?_)) | (refine gR 58 ?_ <;> (try refine q_e (q_f h2r) ?_) <;> (try refine q_e q_l ?_) <;> (try refine q_e (q_b (r:=by exact h0h q_o)) ?_) <;> (try refine h0b ?_)))
     exact h0p (rs, c, .slice (some ⟨g, 0, none⟩) rs.length capm, [⟨true, g, .cells (prA (rs) rest).toArray 40 (0, 0)⟩], 0) ⟨hok', own_prA (by simp) h1' h2' h3'⟩ (by (focus (repeat (first | exact Sub.nil | refine Sub.cons rfl ?_)))) c_14
   ·cases hok5 : drpOk ⟨rn, o, lw, bo⟩ xl
    ·have hdr := fun (L : List Blk) (i' j' : Nat) h1 h2 => (drop_f (S:=S) (w0:=w0) (L:=(L.eraseIdx i').eraseIdx j') tb mb rs c n i (by omega) hok xl hp hr hok5).at2 (L:=L) (i:=i') (j:=j') h1 h2
     cases xl
     all_goals simp [drpOk] at hok5
     all_goals subst hok5
     all_goals repeat' (first | refine h0j ?_ | refine h0d ?_ | refine h0m ?_ | refine h0x ?_ | refine h0k ?_ | refine h0l rfl ?_ | refine h0g rfl ?_ | (refine gR 29 ?_ <;> (try refine q_e (q_b (r:=by exact h0h q_o)) ?_) <;> (try refine q_a ?_) <;> (try refine h0b ?_)) | (refine gR 30 ?_ <;> (try refine q_e (q_b (r:=by exact h0h q_o)) ?_) <;> (try refine q_a ?_) <;> (try refine h0b ?_)) | (refine gR 44 ?_ <;> (try refine q_e (q_b (r:=by exact h0h q_o)) ?_) <;> (try refine q_a ?_) <;> (try refine h0b ?_)) | (refine gR 51 ?_ <;> (try refine q_e (q_b (r:=by exact h0h q_o)) ?_) <;> (try refine q_a ?_) <;> (try refine h0b ?_)) | (refine gR 56 ?_ <;> (try refine q_e (q_b (r:=by exact h0h q_o)) ?_) <;> (try refine q_a ?_) <;> (try refine h0b ?_)) | (refine gR 19 ?_ <;> (try refine q_m ?_) <;> (try refine q_m ?_) <;> (try refine q_e (q_f h2x) ?_) <;> (try refine q_e q_l ?_) <;> (try refine h0i ?_; (refine q_c 10 (c:=by apply hdr; exact c_8; exact c_8) (h:=?_); rintro _ _ ⟨rfl, rfl⟩; (try simp only [zzE, zzF]))) <;> (try refine q_a ?_) <;> (try refine h0b ?_)) | (refine gR 25 ?_ <;> (try refine q_m ?_) <;> (try refine q_e (q_b (r:=by exact h2i q_o)) ?_) <;> (try refine q_a ?_) <;> (try refine h0b ?_)) | (refine gR 27 ?_ <;> (try refine q_e (q_f h2x) ?_) <;> (try refine q_e q_l ?_) <;> (try refine q_m ?_) <;> (try refine h0i ?_; (first | refine h2m rfl rfl rfl rfl ?_ | (refine h1j rfl rfl rfl ?_; (refine q_k (q_f h2r) ?_)))) <;> (try refine h0i ?_; (first | refine h2m rfl rfl rfl rfl ?_ | (refine h1j rfl rfl rfl ?_; (refine q_k q_l ?_)))) <;> (try refine h0i ?_; (first | refine h2m rfl rfl rfl rfl ?_ | (refine h1j rfl rfl rfl ?_; (refine q_k (by exact q_b (r:=by refine h0w ?_; first | rfl | (with_reducible assumption) | (decide; done) | omega)) ?_)))) <;> (try refine q_p ?_) <;> (try refine q_m ?_) <;> (try refine h0i ?_; (first | refine h2m rfl rfl rfl rfl ?_ | (refine h1j rfl rfl rfl ?_; (refine q_k (q_f h2x) ?_)))) <;> (try refine h0i ?_; (first | refine h2m rfl rfl rfl rfl ?_ | (refine h1j rfl rfl rfl ?_; (refine q_k q_l ?_)))) <;> (try refine h0i ?_; (first | refine h2m rfl rfl rfl rfl ?_ | (refine h1j rfl rfl rfl ?_; (refine q_k (by apply E_un; exact rfl; exact ru_not_f) ?_)))) <;> (try refine h0i ?_; (first | refine h2m rfl rfl rfl rfl ?_ | (refine h1j rfl rfl rfl ?_; (refine q_k (h0c rfl) ?_)))) <;> (try refine h0i ?_; (first | (refine K1_nou rfl rfl rfl ?_) | (refine h1j rfl rfl rfl ?_; (refine q_k (q_f h2r) ?_)))) <;> (try refine h0i ?_; (first | (refine K1_nou rfl rfl rfl ?_) | (refine h1j rfl rfl rfl ?_; (refine q_k q_l ?_)))) <;> (try refine h0i ?_; (first | (refine K1_nou rfl rfl rfl ?_) | (refine h1j rfl rfl rfl ?_; (refine q_k (q_f h2v) ?_)))) <;> (try refine h0i ?_; (first | (refine K1_nou rfl rfl rfl ?_) | (refine h1j rfl rfl rfl ?_; (refine q_k q_l ?_)))) <;> (try refine h0i ?_; (first | (refine K1_nou rfl rfl rfl ?_) | (refine h1j rfl rfl rfl ?_; (refine q_k (by exact q_b (r:=by refine h0w ?_; first | rfl | (with_reducible assumption) | (decide; done) | omega)) ?_)))) <;> (try refine h0i ?_; (first | refine h2m rfl rfl rfl rfl ?_ | (refine h1j rfl rfl rfl ?_; (refine q_k (h2g rfl rfl) ?_)))) <;> (try refine q_p ?_) <;> (try refine q_a ?_) <;> (try refine h0b ?_)) | (refine gR 28 ?_ <;> (try refine q_a ?_) <;> (try refine h0b ?_)))
     all_goals exact h0p (rs, c, .slice (some ⟨g, 0, none⟩) rs.length capm, [⟨true, g, .cells (prA (rs) rest).toArray 40 (0, 0)⟩], 22) ⟨hok', own_prA (by simp) h1' h2' h3'⟩ (by (focus (repeat (first | exact Sub.nil | refine Sub.cons rfl ?_)))) c_14
    ·have hdr := fun (L : List Blk) (i' j' : Nat) h1 h2 => (drop_s (S:=S) (w0:=w0) (L:=(L.eraseIdx i').eraseIdx j') tb mb rs c n i (by omega) hok xl hp hr hok5).at2 (L:=L) (i:=i') (j:=j') h1 h2
     have hz : if xl then lw ≠ 0 else lw ≠ o := by
      cases xl <;> simpa [drpOk] using hok5
     cases xl
     ·have hdF1 : o ≠ 1 → drpF rs j ⟨rn, o, lw, bo⟩ false = rs.set j ⟨rn, o - 1, lw, bo⟩ := fun h => by simp [drpF, h, drpR]
      have hdF2 : o = 1 → drpF rs j ⟨rn, o, lw, bo⟩ false = rs.eraseIdx j := fun h => by simp [drpF, h]
      simp at hz
      repeat' (first | (refine h1t (id:=21) ?_) | refine h0j ?_ | refine h0d ?_ | refine h0k ?_ | refine h0g rfl ?_ | (refine gR 29 ?_ <;> (try refine q_e (q_b (r:=by exact h0h q_o)) ?_) <;> (try refine q_a ?_) <;> (try refine h0b ?_)) | (refine gR 30 ?_ <;> (try refine q_e (q_b (r:=by exact h0h q_o)) ?_) <;> (try refine q_a ?_) <;> (try refine h0b ?_)) | (refine gR 44 ?_ <;> (try refine q_e (q_b (r:=by exact h0h q_o)) ?_) <;> (try refine q_a ?_) <;> (try refine h0b ?_)) | (refine gR 51 ?_ <;> (try refine q_e (q_b (r:=by exact h0h q_o)) ?_) <;> (try refine q_a ?_) <;> (try refine h0b ?_)) | (refine gR 56 ?_ <;> (try refine q_e (q_b (r:=by exact h0h q_o)) ?_) <;> (try refine q_a ?_) <;> (try refine h0b ?_)) | (refine gR 19 ?_ <;> (try refine q_m ?_) <;> (try refine q_m ?_) <;> (try refine q_e (q_f h2x) ?_) <;> (try refine q_e q_l ?_) <;> (try refine h0i ?_; (refine q_c 10 (c:=by apply hdr; exact c_8; exact c_8) (h:=?_); rintro _ _ ⟨rfl, rfl⟩; (try simp only [zzE, zzF]))) <;> (try refine q_a ?_) <;> (try refine h0b ?_)) | (refine gR 25 ?_ <;> (try refine q_m ?_) <;> (try refine q_e (q_b (r:=by exact h2i q_o)) ?_) <;> (try refine q_a ?_) <;> (try refine h0b ?_)) | (refine gR 27 ?_ <;> (try refine q_e (q_f h2x) ?_) <;> (try refine q_e q_l ?_) <;> (try refine q_m ?_) <;> (try refine q_z ?_) <;> (try refine q_z ?_) <;> (try refine q_z ?_) <;> (try refine q_p ?_) <;> (try refine q_m ?_) <;> (try refine q_y (q_f h2x) ?_) <;> (try refine q_y q_l ?_) <;> (try refine q_y (by apply E_un; exact rfl; exact ru_not_f) ?_) <;> (try refine q_y (h0c rfl) ?_) <;> (try refine q_y (q_f h2r) ?_) <;> (try refine q_y q_l ?_) <;> (try refine q_y (q_f h2v) ?_) <;> (try refine q_y q_l ?_) <;> (try refine q_y (q_b (r:=by exact h0h q_o)) ?_) <;> (try refine q_y (h2g rfl rfl) ?_) <;> (try refine q_p ?_) <;> (try refine q_a ?_) <;> (try refine h0b ?_)) | (refine gR 20 ?_ <;> (try refine q_e q_l ?_) <;> (try refine q_m ?_) <;> (try refine q_e (by apply h0a; exact rfl; exact rfl; (focus (apply h0n Try.underlying38 h1z; omega; omega; exact c_1))) ?_) <;> (try refine q_e (q_g h2v) ?_) <;> (try refine q_e (by apply h0e (t:=3); exact rfl; exact h2j; kernel_rfl; kernel_rfl; (with_reducible assumption)) ?_) <;> (try refine q_e (q_b (r:=by apply h1c; exact c_6; (focus (refine IntWalk.i64_in _ ?_; omega)))) ?_) <;> (try refine q_e (by apply h0a; exact rfl; exact rfl; (focus (apply h0n Try.underlying38 h1z; omega; omega; exact c_1))) ?_) <;> (try refine q_e (q_g h2v) ?_) <;> (try refine h0i ?_; (apply h0f (t:=3); exact rfl; exact rfl; exact h2j; exact rfl; exact rfl; kernel_rfl; (focus (omega)); exact h2q; (try simp only [List.set_cons_succ]); (try simp only [List.set_cons_zero]))) <;> (try refine h0b ?_)))
      refine ⟨?_⟩
      rw [hst1 rs rfl _ hr (o - 1) _ (by omega)]
      dsimp only
      obtain ⟨k1, k2⟩ := hge _ (by simp) _ (hset ⟨rn, o - 1, lw, bo⟩)
      dsimp only at k1 k2
      have hgl2 := prA_len (rs.set j ⟨rn, o - 1, lw, bo⟩) rest
      rw [List.length_set] at hgl2
      repeat' (first | (refine h1t (id:=23) ?_) | refine h0j ?_ | refine h0d ?_ | refine h0t ?_ | refine h0g rfl ?_ | (refine gR 21 ?_ <;> (try refine q_e (q_f h2x) ?_) <;> (try refine q_e q_l ?_) <;> (try refine h0b ?_)))
      refine ⟨?_⟩
      by_cases h1 : o = 1
      ·rw [hdF2 h1]
       repeat' (first | (refine h1t (id:=24) ?_) | refine h0d ?_ | refine h0l rfl ?_ | (refine gR 23 ?_ <;> (try refine q_e q_l ?_) <;> (try refine q_m ?_) <;> (try refine q_e (by apply h0a; exact rfl; exact rfl; (focus (apply h0n Try.underlying38 h1z; omega; omega; exact c_1))) ?_) <;> (try refine q_e (q_g h2v) ?_) <;> (try refine q_e (by apply h0e (t:=3); exact rfl; exact h2j; kernel_rfl; kernel_rfl; (with_reducible assumption)) ?_) <;> (try refine q_e (by exact q_b (r:=by refine h0w ?_; first | rfl | (with_reducible assumption) | (decide; done) | omega)) ?_) <;> (try refine h0b ?_)))
       refine ⟨?_⟩
       refine G_blocks (L' := bxM nbm (.slice (some ⟨g, 0, none⟩) rs.length capm) :: ⟨true, g, .cells (prA (rs.set j ⟨rn, o - 1, lw, bo⟩) rest).toArray 40 (0, 0)⟩ :: ptB tb mb :: h2p mb (prE (rs.eraseIdx j)) c :: L) c_14 ?_
       have hS0 : Sli (⟨true, g, .cells (prA (rs.set j ⟨rn, o - 1, lw, bo⟩) rest).toArray 40 (0, 0)⟩ :: ptB tb mb :: h2p mb (prE (rs.eraseIdx j)) c :: L) (some ⟨g, 0, none⟩) rs.length 3 (prC (rs.set j ⟨rn, o - 1, lw, bo⟩)) := own_prA_sli (by simp) h3' h1'
       have hSL := fun (x : Blk) => ((hS0.up (bxM nbm (.slice (some ⟨g, 0, none⟩) rs.length capm))).up x).cut0 (Nat.le_of_lt hjl)
       have hSL2 := fun (X : List Blk) => ((hS0.up (bxM nbm (.slice (some ⟨g, 0, none⟩) rs.length capm))).upA X).cut (Nat.succ_le_of_lt hjl) (Nat.le_refl _) h1'
       rw [prC_take] at hSL
       rw [prC_drop (by simp)] at hSL2
       have hle24 := len_erased hjl
       have hone1 := prC_one ((rs.set j ⟨rn, o - 1, lw, bo⟩).take j)
       have hone2 := prC_one ((rs.set j ⟨rn, o - 1, lw, bo⟩).drop (j + 1))
       repeat' ((apply h1a (i:=0) (id:=24) (m:=11); exact c_9; kernel_rfl; exact rfl) <;> (try refine q_t 2 (e:=c_7) (x:=by exact h0c rfl) (h:=?_)) <;> (try refine q_t 6 (e:=c_7) (x:=by exact h0c rfl) (h:=?_)) <;> (try refine q_t 7 (e:=c_7) (x:=by exact q_b (r:=by apply h0u; exact c_6; (focus (refine IntWalk.i64_in _ ?_; omega)))) (h:=?_)) <;> (try refine H_run3t (i:=0) (j:=1) (m:=5) rfl rfl rfl (by kernel_rfl) ?_ ?_ ?_ <;> (first | (refine TagA.mk ?_; (((refine h1m (t:=38) (m:=0) (e:=40) (fun vs => (match vs with | [] => [] | _ => [])) rfl rfl (fun w => by kernel_rfl) ?_; intro nb hnb; (try simp only [Value.cells]); (try simp only [zzC, zzN])); refine h0s c_3 ?_) <;> (try refine h1s (i:=1) (j:=5) rfl rfl (by kernel_rfl) ?_ ?_ <;> (first | (refine TagA.mk ?_; (((refine q_k q_l ?_); refine h0s c_3 ?_) <;> (try refine q_t 3 (e:=c_3) (x:=by apply h2d; exact rfl; exact rfl; exact rfl; exact rfl; (focus (apply r_sl_s01 Try.underlying38 h1z <;> (first | omega | exact c_0)))) (h:=?_)) <;> (try refine h1s (i:=4) (j:=5) rfl rfl (by kernel_rfl) ?_ ?_ <;> (first | (refine TagA.mk ?_; (((apply h1k; exact rfl; exact Try.underlying38; exact h1f; exact h1d; exact h1e; exact h1g; exact rfl; exact rfl; exact rfl; exact fd0; exact Nat.le_of_ble_eq_true rfl; exact Nat.le_of_ble_eq_true rfl; exact rfl; exact hSL _; (with_reducible assumption); exact c_13; omega; exact rfl; exact c_10; exact c_5; (try simp only [zzE, zzF]); intro vA eA hownA); refine h0s c_4 ?_) <;> (try refine q_r 5 ?_; (refine q_k (by apply h0e (t:=38); exact rfl; (focus (repeat (first | exact fd0 | apply fdA))); kernel_rfl; kernel_rfl; exact rfl) ?_); refine h0s c_4 ?_) <;> (try refine q_t 8 (e:=c_4) (x:=by apply h2d; exact rfl; exact rfl; exact rfl; exact rfl; (focus (apply r_slg Try.underlying38 h1z; (focus (apply bd_10; omega; omega; exact c_0))))) (h:=?_)) <;> (try refine q_r 9 ?_; (apply h1p; exact rfl; exact Try.underlying38; exact h1f; exact h1d; exact h1e; exact h1g; exact rfl; exact rfl; exact rfl; (with_reducible assumption); exact hSL2 _; (with_reducible assumption); exact c_13; omega; (exact fun _ H => H); exact rfl; exact c_10; exact c_5; intro vA eA hownA); refine h0s c_4 ?_) <;> (try refine h2z ?_) <;> (try refine h0q (by kernel_rfl) ?_))) | (refine TagB.mk ?_; (((refine q_k q_l ?_); refine h0s c_3 ?_) <;> (try refine q_t 8 (e:=c_3) (x:=by apply h2d; exact rfl; exact rfl; exact rfl; exact rfl; (focus (apply r_slg Try.underlying38 h1z; (focus (apply bd_10; omega; omega; exact c_0))))) (h:=?_)) <;> (try refine q_r 4 ?_; (apply h1k; exact rfl; exact Try.underlying38; exact h1f; exact h1d; exact h1e; exact h1g; exact rfl; exact rfl; exact rfl; exact fd0; exact Nat.le_of_ble_eq_true rfl; exact Nat.le_of_ble_eq_true rfl; exact rfl; exact hSL _; (with_reducible assumption); exact c_13; omega; exact rfl; exact c_10; exact c_5; (try simp only [zzE, zzF]); intro vA eA hownA); refine h0s c_4 ?_) <;> (try refine q_r 9 ?_; (apply h1p; exact rfl; exact Try.underlying38; exact h1f; exact h1d; exact h1e; exact h1g; exact rfl; exact rfl; exact rfl; (with_reducible assumption); exact hSL2 _; (with_reducible assumption); exact c_13; omega; (exact fun _ H => H); exact rfl; exact c_10; exact c_5; intro vA eA hownA); refine h0s c_4 ?_) <;> (try refine h2z ?_) <;> (try refine h0q (by kernel_rfl) ?_))))))) | (refine TagB.mk ?_; (((refine q_k q_l ?_); refine h0s c_3 ?_) <;> (try refine q_t 8 (e:=c_3) (x:=by apply h2d; exact rfl; exact rfl; exact rfl; exact rfl; (focus (apply r_slg Try.underlying38 h1z; (focus (apply bd_10; omega; omega; exact c_0))))) (h:=?_)) <;> (try refine q_r 1 ?_; (refine q_k q_l ?_); refine h0s c_3 ?_) <;> (try refine q_t 3 (e:=c_3) (x:=by apply h2d; exact rfl; exact rfl; exact rfl; exact rfl; (focus (apply r_sl_s01 Try.underlying38 h1z <;> (first | omega | exact c_0)))) (h:=?_)) <;> (try refine q_r 4 ?_; (apply h1k; exact rfl; exact Try.underlying38; exact h1f; exact h1d; exact h1e; exact h1g; exact rfl; exact rfl; exact rfl; exact fd0; exact Nat.le_of_ble_eq_true rfl; exact Nat.le_of_ble_eq_true rfl; exact rfl; exact hSL _; (with_reducible assumption); exact c_13; omega; exact rfl; exact c_10; exact c_5; (try simp only [zzE, zzF]); intro vA eA hownA); refine h0s c_4 ?_) <;> (try refine q_r 9 ?_; (apply h1p; exact rfl; exact Try.underlying38; exact h1f; exact h1d; exact h1e; exact h1g; exact rfl; exact rfl; exact rfl; (with_reducible assumption); exact hSL2 _; (with_reducible assumption); exact c_13; omega; (exact fun _ H => H); exact rfl; exact c_10; exact c_5; intro vA eA hownA); refine h0s c_4 ?_) <;> (try refine h2z ?_) <;> (try refine h0q (by kernel_rfl) ?_))))))) | (refine TagB.mk ?_; (((refine q_k q_l ?_); refine h0s c_7 ?_) <;> (try refine q_t 3 (e:=c_7) (x:=by apply h2d; exact rfl; exact rfl; exact rfl; exact rfl; (focus (apply r_sl_s01 Try.underlying38 h1z <;> (first | omega | exact c_0)))) (h:=?_)) <;> (try refine h1s (i:=0) (j:=5) rfl rfl (by kernel_rfl) ?_ ?_ <;> (first | (refine TagA.mk ?_; (((refine h1m (t:=38) (m:=0) (e:=40) (fun vs => (match vs with | [] => [] | _ => [])) rfl rfl (fun w => by kernel_rfl) ?_; intro nb hnb; (try simp only [Value.cells]); (try simp only [zzC, zzN])); refine h0s c_3 ?_) <;> (try refine h1s (i:=4) (j:=5) rfl rfl (by kernel_rfl) ?_ ?_ <;> (first | (refine TagA.mk ?_; (((apply h1k; exact rfl; exact Try.underlying38; exact h1f; exact h1d; exact h1e; exact h1g; exact rfl; exact rfl; exact rfl; exact fd0; exact Nat.le_of_ble_eq_true rfl; exact Nat.le_of_ble_eq_true rfl; exact rfl; exact hSL _; (with_reducible assumption); exact c_13; omega; exact rfl; exact c_10; exact c_5; (try simp only [zzE, zzF]); intro vA eA hownA); refine h0s c_4 ?_) <;> (try refine q_r 5 ?_; (refine q_k (by apply h0e (t:=38); exact rfl; (focus (repeat (first | exact fd0 | apply fdA))); kernel_rfl; kernel_rfl; exact rfl) ?_); refine h0s c_4 ?_) <;> (try refine q_t 8 (e:=c_4) (x:=by apply h2d; exact rfl; exact rfl; exact rfl; exact rfl; (focus (apply r_slg Try.underlying38 h1z; (focus (apply bd_10; omega; omega; exact c_0))))) (h:=?_)) <;> (try refine q_r 9 ?_; (apply h1p; exact rfl; exact Try.underlying38; exact h1f; exact h1d; exact h1e; exact h1g; exact rfl; exact rfl; exact rfl; (with_reducible assumption); exact hSL2 _; (with_reducible assumption); exact c_13; omega; (exact fun _ H => H); exact rfl; exact c_10; exact c_5; intro vA eA hownA); refine h0s c_4 ?_) <;> (try refine h2z ?_) <;> (try refine h0q (by kernel_rfl) ?_))) | (refine TagB.mk ?_; (((refine q_k q_l ?_); refine h0s c_3 ?_) <;> (try refine q_t 8 (e:=c_3) (x:=by apply h2d; exact rfl; exact rfl; exact rfl; exact rfl; (focus (apply r_slg Try.underlying38 h1z; (focus (apply bd_10; omega; omega; exact c_0))))) (h:=?_)) <;> (try refine q_r 4 ?_; (apply h1k; exact rfl; exact Try.underlying38; exact h1f; exact h1d; exact h1e; exact h1g; exact rfl; exact rfl; exact rfl; exact fd0; exact Nat.le_of_ble_eq_true rfl; exact Nat.le_of_ble_eq_true rfl; exact rfl; exact hSL _; (with_reducible assumption); exact c_13; omega; exact rfl; exact c_10; exact c_5; (try simp only [zzE, zzF]); intro vA eA hownA); refine h0s c_4 ?_) <;> (try refine q_r 9 ?_; (apply h1p; exact rfl; exact Try.underlying38; exact h1f; exact h1d; exact h1e; exact h1g; exact rfl; exact rfl; exact rfl; (with_reducible assumption); exact hSL2 _; (with_reducible assumption); exact c_13; omega; (exact fun _ H => H); exact rfl; exact c_10; exact c_5; intro vA eA hownA); refine h0s c_4 ?_) <;> (try refine h2z ?_) <;> (try refine h0q (by kernel_rfl) ?_))))))) | (refine TagB.mk ?_; (((refine q_k q_l ?_); refine h0s c_7 ?_) <;> (try refine q_t 8 (e:=c_7) (x:=by apply h2d; exact rfl; exact rfl; exact rfl; exact rfl; (focus (apply r_slg Try.underlying38 h1z; (focus (apply bd_10; omega; omega; exact c_0))))) (h:=?_)) <;> (try refine q_r 0 ?_; (refine h1m (t:=38) (m:=0) (e:=40) (fun vs => (match vs with | [] => [] | _ => [])) rfl rfl (fun w => by kernel_rfl) ?_; intro nb hnb; (try simp only [Value.cells]); (try simp only [zzC, zzN])); refine h0s c_3 ?_) <;> (try refine q_r 4 ?_; (apply h1k; exact rfl; exact Try.underlying38; exact h1f; exact h1d; exact h1e; exact h1g; exact rfl; exact rfl; exact rfl; exact fd0; exact Nat.le_of_ble_eq_true rfl; exact Nat.le_of_ble_eq_true rfl; exact rfl; exact hSL _; (with_reducible assumption); exact c_13; omega; exact rfl; exact c_10; exact c_5; (try simp only [zzE, zzF]); intro vA eA hownA); refine h0s c_4 ?_) <;> (try refine q_r 9 ?_; (apply h1p; exact rfl; exact Try.underlying38; exact h1f; exact h1d; exact h1e; exact h1g; exact rfl; exact rfl; exact rfl; (with_reducible assumption); exact hSL2 _; (with_reducible assumption); exact c_13; omega; (exact fun _ H => H); exact rfl; exact c_10; exact c_5; intro vA eA hownA); refine h0s c_4 ?_) <;> (try refine h2z ?_) <;> (try refine h0q (by kernel_rfl) ?_))))))) | (refine TagC.mk ?_; (((refine q_k q_l ?_); refine h0s c_7 ?_) <;> (try refine q_t 8 (e:=c_7) (x:=by apply h2d; exact rfl; exact rfl; exact rfl; exact rfl; (focus (apply r_slg Try.underlying38 h1z; (focus (apply bd_10; omega; omega; exact c_0))))) (h:=?_)) <;> (try refine h1s (i:=0) (j:=1) rfl rfl (by kernel_rfl) ?_ ?_ <;> (first | (refine TagA.mk ?_; (((refine h1m (t:=38) (m:=0) (e:=40) (fun vs => (match vs with | [] => [] | _ => [])) rfl rfl (fun w => by kernel_rfl) ?_; intro nb hnb; (try simp only [Value.cells]); (try simp only [zzC, zzN])); refine h0s c_3 ?_) <;> (try refine q_r 1 ?_; (refine q_k q_l ?_); refine h0s c_3 ?_) <;> (try refine q_t 3 (e:=c_3) (x:=by apply h2d; exact rfl; exact rfl; exact rfl; exact rfl; (focus (apply r_sl_s01 Try.underlying38 h1z <;> (first | omega | exact c_0)))) (h:=?_)) <;> (try refine q_r 4 ?_; (apply h1k; exact rfl; exact Try.underlying38; exact h1f; exact h1d; exact h1e; exact h1g; exact rfl; exact rfl; exact rfl; exact fd0; exact Nat.le_of_ble_eq_true rfl; exact Nat.le_of_ble_eq_true rfl; exact rfl; exact hSL _; (with_reducible assumption); exact c_13; omega; exact rfl; exact c_10; exact c_5; (try simp only [zzE, zzF]); intro vA eA hownA); refine h0s c_4 ?_) <;> (try refine q_r 9 ?_; (apply h1p; exact rfl; exact Try.underlying38; exact h1f; exact h1d; exact h1e; exact h1g; exact rfl; exact rfl; exact rfl; (with_reducible assumption); exact hSL2 _; (with_reducible assumption); exact c_13; omega; (exact fun _ H => H); exact rfl; exact c_10; exact c_5; intro vA eA hownA); refine h0s c_4 ?_) <;> (try refine h2z ?_) <;> (try refine h0q (by kernel_rfl) ?_))) | (refine TagB.mk ?_; (((refine q_k q_l ?_); refine h0s c_7 ?_) <;> (try refine q_t 3 (e:=c_7) (x:=by apply h2d; exact rfl; exact rfl; exact rfl; exact rfl; (focus (apply r_sl_s01 Try.underlying38 h1z <;> (first | omega | exact c_0)))) (h:=?_)) <;> (try refine q_r 0 ?_; (refine h1m (t:=38) (m:=0) (e:=40) (fun vs => (match vs with | [] => [] | _ => [])) rfl rfl (fun w => by kernel_rfl) ?_; intro nb hnb; (try simp only [Value.cells]); (try simp only [zzC, zzN])); refine h0s c_3 ?_) <;> (try refine q_r 4 ?_; (apply h1k; exact rfl; exact Try.underlying38; exact h1f; exact h1d; exact h1e; exact h1g; exact rfl; exact rfl; exact rfl; exact fd0; exact Nat.le_of_ble_eq_true rfl; exact Nat.le_of_ble_eq_true rfl; exact rfl; exact hSL _; (with_reducible assumption); exact c_13; omega; exact rfl; exact c_10; exact c_5; (try simp only [zzE, zzF]); intro vA eA hownA); refine h0s c_4 ?_) <;> (try refine q_r 9 ?_; (apply h1p; exact rfl; exact Try.underlying38; exact h1f; exact h1d; exact h1e; exact h1g; exact rfl; exact rfl; exact rfl; (with_reducible assumption); exact hSL2 _; (with_reducible assumption); exact c_13; omega; (exact fun _ H => H); exact rfl; exact c_10; exact c_5; intro vA eA hownA); refine h0s c_4 ?_) <;> (try refine h2z ?_) <;> (try refine h0q (by kernel_rfl) ?_))))))))))
       all_goals
        refine ⟨?_⟩
        obtain ⟨aA, cA, rfl, hslA⟩ := hownA.sli []
        clear hslA
        refine H_run (i:=10) rfl (by kernel_rfl) ?_
        (apply h0f (t:=38); exact rfl; exact rfl; (focus (repeat (first | exact fd0 | apply fdA))); exact rfl; exact rfl; kernel_rfl; exact Nat.le_of_ble_eq_true rfl; exact h2q; (try simp only [List.set_cons_succ]); (try simp only [List.set_cons_zero]))
        simp only [set_app, List.set_cons_zero]
        refine h0s ?_ ?_
        (focus (intro w H; exact H.dropA.tail))
        refine h0q (by kernel_rfl) ?_
        repeat' (first | refine h0m ?_ | refine h0x ?_)
        rw [prC_erased, hle24] at hownA
        rw [hle24]
        exact h0p (rs.eraseIdx j, c, .slice aA (rs.eraseIdx j).length cA, eA, 0) ⟨hok.erase, hownA⟩ (by (focus (repeat (first | exact Sub.nil | refine Sub.cons rfl ?_)))) (fun w H => ((HP.sub H (List.Sublist.append_left (List.Sublist.cons_cons _ (List.Sublist.cons _ (List.Sublist.refl _))) eA)).perm (List.perm_append_comm_assoc eA [_, _, _] L)).perm (List.perm_middle (l₁:=[_, _])).symm)
      ·rw [hdF1 h1]
       repeat' (first | refine h0d ?_ | refine h0m ?_ | refine h0x ?_ | refine h0t ?_ | refine h0g rfl ?_ | (refine gR 23 ?_ <;> (try refine q_e q_l ?_) <;> (try refine q_m ?_) <;> (try refine q_e (by apply h0a; exact rfl; exact rfl; (focus (apply h0n Try.underlying38 h1z; omega; omega; exact c_1))) ?_) <;> (try refine q_e (q_g h2v) ?_) <;> (try refine q_e (by apply h0e (t:=3); exact rfl; exact h2j; kernel_rfl; kernel_rfl; (with_reducible assumption)) ?_) <;> (try refine q_e (q_b (r:=by exact h0h q_o)) ?_) <;> (try refine h0b ?_)))
       exact h0p (rs.set j ⟨rn, o - 1, lw, bo⟩, c, .slice (some ⟨g, 0, none⟩) rs.length capm, [⟨true, g, .cells (prA (rs.set j ⟨rn, o - 1, lw, bo⟩) rest).toArray 40 (0, 0)⟩], 0) ⟨hok.set hr rfl rfl (by dsimp only; omega), own_prA (by simp) h1' h2' h3'⟩ (by (focus (repeat (first | exact Sub.nil | refine Sub.cons rfl ?_)))) c_14
     ·have hdF1 : o ≠ 1 → drpF rs j ⟨rn, o, lw, bo⟩ true = rs.set j ⟨rn, o - 1, lw - 1, bo⟩ := fun h => by simp [drpF, h, drpR]
      have hdF2 : o = 1 → drpF rs j ⟨rn, o, lw, bo⟩ true = rs.eraseIdx j := fun h => by simp [drpF, h]
      simp at hz
      repeat' (first | (refine h1t (id:=21) ?_) | refine h0j ?_ | refine h0d ?_ | refine h0k ?_ | refine h0g rfl ?_ | (refine gR 29 ?_ <;> (try refine q_e (q_b (r:=by exact h0h q_o)) ?_) <;> (try refine q_a ?_) <;> (try refine h0b ?_)) | (refine gR 30 ?_ <;> (try refine q_e (q_b (r:=by exact h0h q_o)) ?_) <;> (try refine q_a ?_) <;> (try refine h0b ?_)) | (refine gR 44 ?_ <;> (try refine q_e (q_b (r:=by exact h0h q_o)) ?_) <;> (try refine q_a ?_) <;> (try refine h0b ?_)) | (refine gR 51 ?_ <;> (try refine q_e (q_b (r:=by exact h0h q_o)) ?_) <;> (try refine q_a ?_) <;> (try refine h0b ?_)) | (refine gR 56 ?_ <;> (try refine q_e (q_b (r:=by exact h0h q_o)) ?_) <;> (try refine q_a ?_) <;> (try refine h0b ?_)) | (refine gR 19 ?_ <;> (try refine q_m ?_) <;> (try refine q_m ?_) <;> (try refine q_e (q_f h2x) ?_) <;> (try refine q_e q_l ?_) <;> (try refine h0i ?_; (refine q_c 10 (c:=by apply hdr; exact c_8; exact c_8) (h:=?_); rintro _ _ ⟨rfl, rfl⟩; (try simp only [zzE, zzF]))) <;> (try refine q_a ?_) <;> (try refine h0b ?_)) | (refine gR 25 ?_ <;> (try refine q_m ?_) <;> (try refine q_e (q_b (r:=by exact h2i q_o)) ?_) <;> (try refine q_a ?_) <;> (try refine h0b ?_)) | (refine gR 27 ?_ <;> (try refine q_e (q_f h2x) ?_) <;> (try refine q_e q_l ?_) <;> (try refine q_m ?_) <;> (try refine q_y (q_f h2r) ?_) <;> (try refine q_y q_l ?_) <;> (try refine q_y (q_b (r:=by exact h0h q_o)) ?_) <;> (try refine q_p ?_) <;> (try refine q_m ?_) <;> (try refine q_y (q_f h2x) ?_) <;> (try refine q_y q_l ?_) <;> (try refine q_y (by apply E_un; exact rfl; exact ru_not_t) ?_) <;> (try refine q_y (h0c rfl) ?_) <;> (try refine q_z ?_) <;> (try refine q_z ?_) <;> (try refine q_z ?_) <;> (try refine q_z ?_) <;> (try refine q_z ?_) <;> (try refine q_y (h2g rfl rfl) ?_) <;> (try refine q_p ?_) <;> (try refine q_a ?_) <;> (try refine h0b ?_)) | (refine gR 20 ?_ <;> (try refine q_e q_l ?_) <;> (try refine q_m ?_) <;> (try refine q_e (by apply h0a; exact rfl; exact rfl; (focus (apply h0n Try.underlying38 h1z; omega; omega; exact c_1))) ?_) <;> (try refine q_e (q_g h2v) ?_) <;> (try refine q_e (by apply h0e (t:=3); exact rfl; exact h2j; kernel_rfl; kernel_rfl; (with_reducible assumption)) ?_) <;> (try refine q_e (q_b (r:=by apply h1c; exact c_6; (focus (refine IntWalk.i64_in _ ?_; omega)))) ?_) <;> (try refine q_e (by apply h0a; exact rfl; exact rfl; (focus (apply h0n Try.underlying38 h1z; omega; omega; exact c_1))) ?_) <;> (try refine q_e (q_g h2v) ?_) <;> (try refine h0i ?_; (apply h0f (t:=3); exact rfl; exact rfl; exact h2j; exact rfl; exact rfl; kernel_rfl; (focus (omega)); exact h2q; (try simp only [List.set_cons_succ]); (try simp only [List.set_cons_zero]))) <;> (try refine h0b ?_)))
      refine ⟨?_⟩
      rw [hst1 rs rfl _ hr (o - 1) _ (by omega)]
      dsimp only
      obtain ⟨k1, k2⟩ := hge _ (by simp) _ (hset ⟨rn, o - 1, lw, bo⟩)
      dsimp only at k1 k2
      have hgl2 := prA_len (rs.set j ⟨rn, o - 1, lw, bo⟩) rest
      rw [List.length_set] at hgl2
      repeat' (first | (refine h1t (id:=23) ?_) | refine h0j ?_ | refine h0d ?_ | refine h0l rfl ?_ | (refine gR 21 ?_ <;> (try refine q_e (q_f h2x) ?_) <;> (try refine q_e q_l ?_) <;> (try refine h0b ?_)) | (refine gR 22 ?_ <;> (try refine q_e q_l ?_) <;> (try refine q_m ?_) <;> (try refine q_e (by apply h0a; exact rfl; exact rfl; (focus (apply h0n Try.underlying38 h1z; omega; omega; exact c_1))) ?_) <;> (try refine q_e (q_g h2r) ?_) <;> (try refine q_e (by apply h0e (t:=3); exact rfl; exact h2j; kernel_rfl; kernel_rfl; (with_reducible assumption)) ?_) <;> (try refine q_e (q_b (r:=by apply h1c; exact c_6; (focus (refine IntWalk.i64_in _ ?_; omega)))) ?_) <;> (try refine q_e (by apply h0a; exact rfl; exact rfl; (focus (apply h0n Try.underlying38 h1z; omega; omega; exact c_1))) ?_) <;> (try refine q_e (q_g h2r) ?_) <;> (try refine h0i ?_; (apply h0f (t:=3); exact rfl; exact rfl; exact h2j; exact rfl; exact rfl; kernel_rfl; (focus (omega)); exact h2q; (try simp only [List.set_cons_succ]); (try simp only [List.set_cons_zero]))) <;> (try refine h0b ?_)))
      refine ⟨?_⟩
      rw [hst2 _ (by simp) _ (hset ⟨rn, o - 1, lw, bo⟩) (lw - 1) _ (by omega), hss]
      clear k1 k2 hgl2
      obtain ⟨k1, k2⟩ := hge _ (by simp) _ (hset ⟨rn, o - 1, lw - 1, bo⟩)
      dsimp only at k1 k2
      have hgl2 := prA_len (rs.set j ⟨rn, o - 1, lw - 1, bo⟩) rest
      rw [List.length_set] at hgl2
      by_cases h1 : o = 1
      ·rw [hdF2 h1]
       repeat' (first | (refine h1t (id:=24) ?_) | refine h0d ?_ | refine h0l rfl ?_ | (refine gR 23 ?_ <;> (try refine q_e q_l ?_) <;> (try refine q_m ?_) <;> (try refine q_e (by apply h0a; exact rfl; exact rfl; (focus (apply h0n Try.underlying38 h1z; omega; omega; exact c_1))) ?_) <;> (try refine q_e (q_g h2v) ?_) <;> (try refine q_e (by apply h0e (t:=3); exact rfl; exact h2j; kernel_rfl; kernel_rfl; (with_reducible assumption)) ?_) <;> (try refine q_e (by exact q_b (r:=by refine h0w ?_; first | rfl | (with_reducible assumption) | (decide; done) | omega)) ?_) <;> (try refine h0b ?_)))
       refine ⟨?_⟩
       refine G_blocks (L' := bxM nbm (.slice (some ⟨g, 0, none⟩) rs.length capm) :: ⟨true, g, .cells (prA (rs.set j ⟨rn, o - 1, lw - 1, bo⟩) rest).toArray 40 (0, 0)⟩ :: ptB tb mb :: h2p mb (prE (rs.eraseIdx j)) c :: L) c_14 ?_
       have hS0 : Sli (⟨true, g, .cells (prA (rs.set j ⟨rn, o - 1, lw - 1, bo⟩) rest).toArray 40 (0, 0)⟩ :: ptB tb mb :: h2p mb (prE (rs.eraseIdx j)) c :: L) (some ⟨g, 0, none⟩) rs.length 3 (prC (rs.set j ⟨rn, o - 1, lw - 1, bo⟩)) := own_prA_sli (by simp) h3' h1'
       have hSL := fun (x : Blk) => ((hS0.up (bxM nbm (.slice (some ⟨g, 0, none⟩) rs.length capm))).up x).cut0 (Nat.le_of_lt hjl)
       have hSL2 := fun (X : List Blk) => ((hS0.up (bxM nbm (.slice (some ⟨g, 0, none⟩) rs.length capm))).upA X).cut (Nat.succ_le_of_lt hjl) (Nat.le_refl _) h1'
       rw [prC_take] at hSL
       rw [prC_drop (by simp)] at hSL2
       have hle24 := len_erased hjl
       have hone1 := prC_one ((rs.set j ⟨rn, o - 1, lw - 1, bo⟩).take j)
       have hone2 := prC_one ((rs.set j ⟨rn, o - 1, lw - 1, bo⟩).drop (j + 1))
       repeat' ((apply h1a (i:=0) (id:=24) (m:=11); exact c_9; kernel_rfl; exact rfl) <;> (try refine q_t 2 (e:=c_7) (x:=by exact h0c rfl) (h:=?_)) <;> (try refine q_t 6 (e:=c_7) (x:=by exact h0c rfl) (h:=?_)) <;> (try refine q_t 7 (e:=c_7) (x:=by exact q_b (r:=by apply h0u; exact c_6; (focus (refine IntWalk.i64_in _ ?_; omega)))) (h:=?_)) <;> (try refine H_run3t (i:=0) (j:=1) (m:=5) rfl rfl rfl (by kernel_rfl) ?_ ?_ ?_ <;> (first | (refine TagA.mk ?_; (((refine h1m (t:=38) (m:=0) (e:=40) (fun vs => (match vs with | [] => [] | _ => [])) rfl rfl (fun w => by kernel_rfl) ?_; intro nb hnb; (try simp only [Value.cells]); (try simp only [zzC, zzN])); refine h0s c_3 ?_) <;> (try refine h1s (i:=1) (j:=5) rfl rfl (by kernel_rfl) ?_ ?_ <;> (first | (refine TagA.mk ?_; (((refine q_k q_l ?_); refine h0s c_3 ?_) <;> (try refine q_t 3 (e:=c_3) (x:=by apply h2d; exact rfl; exact rfl; exact rfl; exact rfl; (focus (apply r_sl_s01 Try.underlying38 h1z <;> (first | omega | exact c_0)))) (h:=?_)) <;> (try refine h1s (i:=4) (j:=5) rfl rfl (by kernel_rfl) ?_ ?_ <;> (first | (refine TagA.mk ?_; (((apply h1k; exact rfl; exact Try.underlying38; exact h1f; exact h1d; exact h1e; exact h1g; exact rfl; exact rfl; exact rfl; exact fd0; exact Nat.le_of_ble_eq_true rfl; exact Nat.le_of_ble_eq_true rfl; exact rfl; exact hSL _; (with_reducible assumption); exact c_13; omega; exact rfl; exact c_10; exact c_5; (try simp only [zzE, zzF]); intro vA eA hownA); refine h0s c_4 ?_) <;> (try refine q_r 5 ?_; (refine q_k (by apply h0e (t:=38); exact rfl; (focus (repeat (first | exact fd0 | apply fdA))); kernel_rfl; kernel_rfl; exact rfl) ?_); refine h0s c_4 ?_) <;> (try refine q_t 8 (e:=c_4) (x:=by apply h2d; exact rfl; exact rfl; exact rfl; exact rfl; (focus (apply r_slg Try.underlying38 h1z; (focus (apply bd_10; omega; omega; exact c_0))))) (h:=?_)) <;> (try refine q_r 9 ?_; (apply h1p; exact rfl; exact Try.underlying38; exact h1f; exact h1d; exact h1e; exact h1g; exact rfl; exact rfl; exact rfl; (with_reducible assumption); exact hSL2 _; (with_reducible assumption); exact c_13; omega; (exact fun _ H => H); exact rfl; exact c_10; exact c_5; intro vA eA hownA); refine h0s c_4 ?_) <;> (try refine h2z ?_) <;> (try refine h0q (by kernel_rfl) ?_))) | (refine TagB.mk ?_; (((refine q_k q_l ?_); refine h0s c_3 ?_) <;> (try refine q_t 8 (e:=c_3) (x:=by apply h2d; exact rfl; exact rfl; exact rfl; exact rfl; (focus (apply r_slg Try.underlying38 h1z; (focus (apply bd_10; omega; omega; exact c_0))))) (h:=?_)) <;> (try refine q_r 4 ?_; (apply h1k; exact rfl; exact Try.underlying38; exact h1f; exact h1d; exact h1e; exact h1g; exact rfl; exact rfl; exact rfl; exact fd0; exact Nat.le_of_ble_eq_true rfl; exact Nat.le_of_ble_eq_true rfl; exact rfl; exact hSL _; (with_reducible assumption); exact c_13; omega; exact rfl; exact c_10; exact c_5; (try simp only [zzE, zzF]); intro vA eA hownA); refine h0s c_4 ?_) <;> (try refine q_r 9 ?_; (apply h1p; exact rfl; exact Try.underlying38; exact h1f; exact h1d; exact h1e; exact h1g; exact rfl; exact rfl; exact rfl; (with_reducible assumption); exact hSL2 _; (with_reducible assumption); exact c_13; omega; (exact fun _ H => H); exact rfl; exact c_10; exact c_5; intro vA eA hownA); refine h0s c_4 ?_) <;> (try refine h2z ?_) <;> (try refine h0q (by kernel_rfl) ?_))))))) | (refine TagB.mk ?_; (((refine q_k q_l ?_); refine h0s c_3 ?_) <;> (try refine q_t 8 (e:=c_3) (x:=by apply h2d; exact rfl; exact rfl; exact rfl; exact rfl; (focus (apply r_slg Try.underlying38 h1z; (focus (apply bd_10; omega; omega; exact c_0))))) (h:=?_)) <;> (try refine q_r 1 ?_; (refine q_k q_l ?_); refine h0s c_3 ?_) <;> (try refine q_t 3 (e:=c_3) (x:=by apply h2d; exact rfl; exact rfl; exact rfl; exact rfl; (focus (apply r_sl_s01 Try.underlying38 h1z <;> (first | omega | exact c_0)))) (h:=?_)) <;> (try refine q_r 4 ?_; (apply h1k; exact rfl; exact Try.underlying38; exact h1f; exact h1d; exact h1e; exact h1g; exact rfl; exact rfl; exact rfl; exact fd0; exact Nat.le_of_ble_eq_true rfl; exact Nat.le_of_ble_eq_true rfl; exact rfl; exact hSL _; (with_reducible assumption); exact c_13; omega; exact rfl; exact c_10; exact c_5; (try simp only [zzE, zzF]); intro vA eA hownA); refine h0s c_4 ?_) <;> (try refine q_r 9 ?_; (apply h1p; exact rfl; exact Try.underlying38; exact h1f; exact h1d; exact h1e; exact h1g; exact rfl; exact rfl; exact rfl; (with_reducible assumption); exact hSL2 _; (with_reducible assumption); exact c_13; omega; (exact fun _ H => H); exact rfl; exact c_10; exact c_5; intro vA eA hownA); refine h0s c_4 ?_) <;> (try refine h2z ?_) <;> (try refine h0q (by kernel_rfl) ?_))))))) | (refine TagB.mk ?_; (((refine q_k q_l ?_); refine h0s c_7 ?_) <;> (try refine q_t 3 (e:=c_7) (x:=by apply h2d; exact rfl; exact rfl; exact rfl; exact rfl; (focus (apply r_sl_s01 Try.underlying38 h1z <;> (first | omega | exact c_0)))) (h:=?_)) <;> (try refine h1s (i:=0) (j:=5) rfl rfl (by kernel_rfl) ?_ ?_ <;> (first | (refine TagA.mk ?_; (((refine h1m (t:=38) (m:=0) (e:=40) (fun vs => (match vs with | [] => [] | _ => [])) rfl rfl (fun w => by kernel_rfl) ?_; intro nb hnb; (try simp only [Value.cells]); (try simp only [zzC, zzN])); refine h0s c_3 ?_) <;> (try refine h1s (i:=4) (j:=5) rfl rfl (by kernel_rfl) ?_ ?_ <;> (first | (refine TagA.mk ?_; (((apply h1k; exact rfl; exact Try.underlying38; exact h1f; exact h1d; exact h1e; exact h1g; exact rfl; exact rfl; exact rfl; exact fd0; exact Nat.le_of_ble_eq_true rfl; exact Nat.le_of_ble_eq_true rfl; exact rfl; exact hSL _; (with_reducible assumption); exact c_13; omega; exact rfl; exact c_10; exact c_5; (try simp only [zzE, zzF]); intro vA eA hownA); refine h0s c_4 ?_) <;> (try refine q_r 5 ?_; (refine q_k (by apply h0e (t:=38); exact rfl; (focus (repeat (first | exact fd0 | apply fdA))); kernel_rfl; kernel_rfl; exact rfl) ?_); refine h0s c_4 ?_) <;> (try refine q_t 8 (e:=c_4) (x:=by apply h2d; exact rfl; exact rfl; exact rfl; exact rfl; (focus (apply r_slg Try.underlying38 h1z; (focus (apply bd_10; omega; omega; exact c_0))))) (h:=?_)) <;> (try refine q_r 9 ?_; (apply h1p; exact rfl; exact Try.underlying38; exact h1f; exact h1d; exact h1e; exact h1g; exact rfl; exact rfl; exact rfl; (with_reducible assumption); exact hSL2 _; (with_reducible assumption); exact c_13; omega; (exact fun _ H => H); exact rfl; exact c_10; exact c_5; intro vA eA hownA); refine h0s c_4 ?_) <;> (try refine h2z ?_) <;> (try refine h0q (by kernel_rfl) ?_))) | (refine TagB.mk ?_; (((refine q_k q_l ?_); refine h0s c_3 ?_) <;> (try refine q_t 8 (e:=c_3) (x:=by apply h2d; exact rfl; exact rfl; exact rfl; exact rfl; (focus (apply r_slg Try.underlying38 h1z; (focus (apply bd_10; omega; omega; exact c_0))))) (h:=?_)) <;> (try refine q_r 4 ?_; (apply h1k; exact rfl; exact Try.underlying38; exact h1f; exact h1d; exact h1e; exact h1g; exact rfl; exact rfl; exact rfl; exact fd0; exact Nat.le_of_ble_eq_true rfl; exact Nat.le_of_ble_eq_true rfl; exact rfl; exact hSL _; (with_reducible assumption); exact c_13; omega; exact rfl; exact c_10; exact c_5; (try simp only [zzE, zzF]); intro vA eA hownA); refine h0s c_4 ?_) <;> (try refine q_r 9 ?_; (apply h1p; exact rfl; exact Try.underlying38; exact h1f; exact h1d; exact h1e; exact h1g; exact rfl; exact rfl; exact rfl; (with_reducible assumption); exact hSL2 _; (with_reducible assumption); exact c_13; omega; (exact fun _ H => H); exact rfl; exact c_10; exact c_5; intro vA eA hownA); refine h0s c_4 ?_) <;> (try refine h2z ?_) <;> (try refine h0q (by kernel_rfl) ?_))))))) | (refine TagB.mk ?_; (((refine q_k q_l ?_); refine h0s c_7 ?_) <;> (try refine q_t 8 (e:=c_7) (x:=by apply h2d; exact rfl; exact rfl; exact rfl; exact rfl; (focus (apply r_slg Try.underlying38 h1z; (focus (apply bd_10; omega; omega; exact c_0))))) (h:=?_)) <;> (try refine q_r 0 ?_; (refine h1m (t:=38) (m:=0) (e:=40) (fun vs => (match vs with | [] => [] | _ => [])) rfl rfl (fun w => by kernel_rfl) ?_; intro nb hnb; (try simp only [Value.cells]); (try simp only [zzC, zzN])); refine h0s c_3 ?_) <;> (try refine q_r 4 ?_; (apply h1k; exact rfl; exact Try.underlying38; exact h1f; exact h1d; exact h1e; exact h1g; exact rfl; exact rfl; exact rfl; exact fd0; exact Nat.le_of_ble_eq_true rfl; exact Nat.le_of_ble_eq_true rfl; exact rfl; exact hSL _; (with_reducible assumption); exact c_13; omega; exact rfl; exact c_10; exact c_5; (try simp only [zzE, zzF]); intro vA eA hownA); refine h0s c_4 ?_) <;> (try refine q_r 9 ?_; (apply h1p; exact rfl; exact Try.underlying38; exact h1f; exact h1d; exact h1e; exact h1g; exact rfl; exact rfl; exact rfl; (with_reducible assumption); exact hSL2 _; (with_reducible assumption); exact c_13; omega; (exact fun _ H => H); exact rfl; exact c_10; exact c_5; intro vA eA hownA); refine h0s c_4 ?_) <;> (try refine h2z ?_) <;> (try refine h0q (by kernel_rfl) ?_))))))) | (refine TagC.mk ?_; (((refine q_k q_l ?_); refine h0s c_7 ?_) <;> (try refine q_t 8 (e:=c_7) (x:=by apply h2d; exact rfl; exact rfl; exact rfl; exact rfl; (focus (apply r_slg Try.underlying38 h1z; (focus (apply bd_10; omega; omega; exact c_0))))) (h:=?_)) <;> (try refine h1s (i:=0) (j:=1) rfl rfl (by kernel_rfl) ?_ ?_ <;> (first | (refine TagA.mk ?_; (((refine h1m (t:=38) (m:=0) (e:=40) (fun vs => (match vs with | [] => [] | _ => [])) rfl rfl (fun w => by kernel_rfl) ?_; intro nb hnb; (try simp only [Value.cells]); (try simp only [zzC, zzN])); refine h0s c_3 ?_) <;> (try refine q_r 1 ?_; (refine q_k q_l ?_); refine h0s c_3 ?_) <;> (try refine q_t 3 (e:=c_3) (x:=by apply h2d; exact rfl; exact rfl; exact rfl; exact rfl; (focus (apply r_sl_s01 Try.underlying38 h1z <;> (first | omega | exact c_0)))) (h:=?_)) <;> (try refine q_r 4 ?_; (apply h1k; exact rfl; exact Try.underlying38; exact h1f; exact h1d; exact h1e; exact h1g; exact rfl; exact rfl; exact rfl; exact fd0; exact Nat.le_of_ble_eq_true rfl; exact Nat.le_of_ble_eq_true rfl; exact rfl; exact hSL _; (with_reducible assumption); exact c_13; omega; exact rfl; exact c_10; exact c_5; (try simp only [zzE, zzF]); intro vA eA hownA); refine h0s c_4 ?_) <;> (try refine q_r 9 ?_; (apply h1p; exact rfl; exact Try.underlying38; exact h1f; exact h1d; exact h1e; exact h1g; exact rfl; exact rfl; exact rfl; (with_reducible assumption); exact hSL2 _; (with_reducible assumption); exact c_13; omega; (exact fun _ H => H); exact rfl; exact c_10; exact c_5; intro vA eA hownA); refine h0s c_4 ?_) <;> (try refine h2z ?_) <;> (try refine h0q (by kernel_rfl) ?_))) | (refine TagB.mk ?_; (((refine q_k q_l ?_); refine h0s c_7 ?_) <;> (try refine q_t 3 (e:=c_7) (x:=by apply h2d; exact rfl; exact rfl; exact rfl; exact rfl; (focus (apply r_sl_s01 Try.underlying38 h1z <;> (first | omega | exact c_0)))) (h:=?_)) <;> (try refine q_r 0 ?_; (refine h1m (t:=38) (m:=0) (e:=40) (fun vs => (match vs with | [] => [] | _ => [])) rfl rfl (fun w => by kernel_rfl) ?_; intro nb hnb; (try simp only [Value.cells]); (try simp only [zzC, zzN])); refine h0s c_3 ?_) <;> (try refine q_r 4 ?_; (apply h1k; exact rfl; exact Try.underlying38; exact h1f; exact h1d; exact h1e; exact h1g; exact rfl; exact rfl; exact rfl; exact fd0; exact Nat.le_of_ble_eq_true rfl; exact Nat.le_of_ble_eq_true rfl; exact rfl; exact hSL _; (with_reducible assumption); exact c_13; omega; exact rfl; exact c_10; exact c_5; (try simp only [zzE, zzF]); intro vA eA hownA); refine h0s c_4 ?_) <;> (try refine q_r 9 ?_; (apply h1p; exact rfl; exact Try.underlying38; exact h1f; exact h1d; exact h1e; exact h1g; exact rfl; exact rfl; exact rfl; (with_reducible assumption); exact hSL2 _; (with_reducible assumption); exact c_13; omega; (exact fun _ H => H); exact rfl; exact c_10; exact c_5; intro vA eA hownA); refine h0s c_4 ?_) <;> (try refine h2z ?_) <;> (try refine h0q (by kernel_rfl) ?_))))))))))
       all_goals
        refine ⟨?_⟩
        obtain ⟨aA, cA, rfl, hslA⟩ := hownA.sli []
        clear hslA
        refine H_run (i:=10) rfl (by kernel_rfl) ?_
        (apply h0f (t:=38); exact rfl; exact rfl; (focus (repeat (first | exact fd0 | apply fdA))); exact rfl; exact rfl; kernel_rfl; exact Nat.le_of_ble_eq_true rfl; exact h2q; (try simp only [List.set_cons_succ]); (try simp only [List.set_cons_zero]))
        simp only [set_app, List.set_cons_zero]
        refine h0s ?_ ?_
        (focus (intro w H; exact H.dropA.tail))
        refine h0q (by kernel_rfl) ?_
        repeat' (first | refine h0m ?_ | refine h0x ?_)
        rw [prC_erased, hle24] at hownA
        rw [hle24]
        exact h0p (rs.eraseIdx j, c, .slice aA (rs.eraseIdx j).length cA, eA, 0) ⟨hok.erase, hownA⟩ (by (focus (repeat (first | exact Sub.nil | refine Sub.cons rfl ?_)))) (fun w H => ((HP.sub H (List.Sublist.append_left (List.Sublist.cons_cons _ (List.Sublist.cons _ (List.Sublist.refl _))) eA)).perm (List.perm_append_comm_assoc eA [_, _, _] L)).perm (List.perm_middle (l₁:=[_, _])).symm)
      ·rw [hdF1 h1]
       repeat' (first | refine h0d ?_ | refine h0m ?_ | refine h0x ?_ | refine h0t ?_ | refine h0g rfl ?_ | (refine gR 23 ?_ <;> (try refine q_e q_l ?_) <;> (try refine q_m ?_) <;> (try refine q_e (by apply h0a; exact rfl; exact rfl; (focus (apply h0n Try.underlying38 h1z; omega; omega; exact c_1))) ?_) <;> (try refine q_e (q_g h2v) ?_) <;> (try refine q_e (by apply h0e (t:=3); exact rfl; exact h2j; kernel_rfl; kernel_rfl; (with_reducible assumption)) ?_) <;> (try refine q_e (q_b (r:=by exact h0h q_o)) ?_) <;> (try refine h0b ?_)))
       exact h0p (rs.set j ⟨rn, o - 1, lw - 1, bo⟩, c, .slice (some ⟨g, 0, none⟩) rs.length capm, [⟨true, g, .cells (prA (rs.set j ⟨rn, o - 1, lw - 1, bo⟩) rest).toArray 40 (0, 0)⟩], 0) ⟨hok.set hr rfl rfl (by dsimp only; omega), own_prA (by simp) h1' h2' h3'⟩ (by (focus (repeat (first | exact Sub.nil | refine Sub.cons rfl ?_)))) c_14
 clear hat hsm2 hsm hown hok hn
 clear oa ob oc am capm e rs c n
 rintro ⟨rs, c, vm, e, w⟩ ⟨hok, hown⟩
 dsimp only at hok hown
 obtain ⟨am, capm, rfl, hsm⟩ := hown.sli L
 have hsm2 := ((hsm.up (bxM nbm (.slice am rs.length capm))).up (h2p mb (prE rs) c)).up (ptB tb mb)
 dsimp only [List.cons_append, List.nil_append]
 repeat' (first | (refine h1t (id:=63) ?_) | refine h0j ?_ | refine h0d ?_ | refine h0t ?_ | refine h0g rfl ?_ | (refine gR 60 ?_ <;> (try refine q_m ?_) <;> (try refine q_m ?_) <;> (try refine q_e (by exact q_b (r:=by refine rb_neq_f ?_; first | rfl | (with_reducible assumption) | (decide; done) | omega)) ?_) <;> (try refine h0b ?_)) | (refine gR 62 ?_ <;> (try refine q_m ?_) <;> (try refine h0i ?_; (refine h0v (F:=11) (by kernel_rfl) rfl rfl (list_c tb mb rs c (i + 1) (by omega) hok) ?_; rintro _ _ ⟨ls, el, hol, hpm, hsrt, rfl⟩)) <;> (try refine q_a ?_) <;> (try refine h0b ?_)))
 refine ⟨?_⟩
 obtain ⟨al, capl, rfl, hsl⟩ := hol.sli (ptB tb mb :: h2p mb (prE rs) c :: bxM nbm (.slice am rs.length capm) :: (e ++ L))
 have hll : ls.length = rs.length := by simpa using hpm.length_eq
 have hrl := hok.len
 repeat' (first | refine h0j ?_ | refine h0d ?_ | refine h0k ?_ | refine h0t ?_ | refine h0g rfl ?_ | (refine gR 63 ?_ <;> (try refine q_m ?_) <;> (try refine q_e (by apply E_builtin; exact rfl; exact (fun _ => BigFrame.builtin_len ..); apply h2o Try.underlying30; exact c_11) ?_) <;> (try refine q_e (by apply h0e (t:=38); exact rfl; (focus (repeat (first | exact fd0 | apply fdA | apply fdS))); kernel_rfl; kernel_rfl; exact rfl) ?_) <;> (try refine q_e (by apply E_builtin; exact rfl; exact (fun _ => BigFrame.builtin_len ..); apply h2o Try.underlying38; exact c_11) ?_) <;> (try refine q_e (by exact q_b (r:=by refine rb_neq_f ?_; first | rfl | (with_reducible assumption) | (decide; done) | omega)) ?_) <;> (try refine h0b ?_)) | (refine gR 65 ?_ <;> (try refine q_m ?_) <;> (try refine q_e (by apply E_builtin; exact rfl; exact (fun _ => BigFrame.builtin_len ..); apply h2o Try.underlying30; exact c_11) ?_) <;> (try refine q_m ?_) <;> (try refine h0b ?_)))
 refine h1x (γ:=Nat) (fun j => j ≤ ls.length) (fun j => ls.length - j) (fun j => [(214, .int .i64 (j : Nat))]) [(3, _), (4, _), (5, _), (16, _), (24, _), (25, _), (26, _), (212, _), (213, _)] (fun _ => el ++ (ptB tb mb :: h2p mb (prE rs) c :: bxM nbm (.slice am rs.length capm) :: (e ++ L))) 0 (.cons rfl (.cons rfl (.cons rfl (.cons rfl (.cons rfl (.cons rfl (.cons rfl (.cons rfl (.cons rfl .nil))))))))) (Nat.zero_le _) (by (focus (repeat (first | exact Sub.nil | refine Sub.cons rfl ?_)))) (fun _ H => H) ?_
 rintro j (hj : j ≤ ls.length)
 dsimp only [List.cons_append, List.nil_append]
 by_cases hjl : j < ls.length
 rotate_left
 ·repeat' (first | refine h0j ?_ | refine h0d ?_ | refine h0m ?_ | refine h1l ?_ | refine h0z ?_ | refine h0x ?_ | refine h1i ?_ | refine h1u ?_ | refine h0g rfl ?_ | (refine gR 66 ?_ <;> (try refine q_e (q_b (r:=by exact h2i q_o)) ?_) <;> (try refine h0b ?_)) | (refine gR 72 ?_ <;> (try refine q_e (q_b (r:=by apply h0u; exact c_6; (focus (refine IntWalk.i64_in _ ?_; omega)))) ?_) <;> (try refine q_m ?_) <;> (try refine h0b ?_)))
  refine h0p (i + 1, rs, c, .slice am rs.length capm, e) ⟨⟨by simp; omega, by simp; omega, hok, hown⟩, by simp; omega⟩ (by (focus (repeat (first | exact Sub.nil | refine Sub.cons rfl ?_)))) (fun w H => H.dropA)
 obtain ⟨j1, q1, b1, off1, cs1, T1, fr1, rfl, hj1, hjs, hall⟩ := hsl.all1 (by omega)
 have hjx := hall j hjl
 obtain ⟨r, hr, hre⟩ := List.mem_map.1 (hpm.mem_iff.1 (List.getElem_mem hjl))
 have hjx2 : cs1.toList[off1 + j]? = some (.int .u16 (r.n : Nat)) := by rw [hjx, List.getElem?_map, List.getElem?_eq_getElem hjl, ← hre]; rfl
 obtain ⟨jx, hpx, hrx⟩ := pix_mem hok.nd hr
 have hrl16 := hok.lt r hr
 have hfx : fx rs r.n = (jx : Int) := by simp [fx, hpx]
 have hge := fun (L : List Blk) (i j : Nat) h1 h2 => Fn.keep2 (L:=L) (i:=i) (j:=j) (fun L => get_c (S:=S) (w0:=w0) (L:=L) tb mb rs c r.n) (by intro h; injection h with _ _ h; cases h) h1 h2
 rw [hpx, Option.bind_some, hrx] at hge
 have hsm3 := hsm2.upA el
 obtain ⟨j2, q2, b2, off2, cs2, T2, fr2, rfl, hj2, hjs2, hjc⟩ := hsm3.elem (pix_lt hpx)
 rw [prC_at rs jx (pix_lt hpx), (List.getElem?_eq_some_iff.1 hrx).2] at hjc
 obtain ⟨hc0, hc1, hc2⟩ := cells3 hjc
 have hjxl := pix_lt hpx
 have hlow : ∀ h : 0 < j, cs1.toList[off1 + ((j : Int) - 1).toNat]? = some (.int .u16 (ls.getD (j - 1) 0)) ∧ ls.getD (j - 1) 0 < (r.n : Int) := fun h => by
  have e : ls.getD (j - 1) 0 = ls[j - 1] := by simp [List.getD_eq_getElem?_getD, List.getElem?_eq_getElem (show j - 1 < ls.length by omega)]
  refine ⟨?_, ?_⟩
  ·rw [show ((j : Int) - 1).toNat = j - 1 by omega, hall (j - 1) (by omega), List.getElem?_map, List.getElem?_eq_getElem (show j - 1 < ls.length by omega), e]; rfl
  ·have h1 := List.pairwise_iff_getElem.1 hsrt (j - 1) j (by omega) hjl (by omega)
   have h2 : ls.Nodup := hpm.symm.nodup (by
    have := hok.nd
    have e3 : rs.map (fun r => (r.n : Int)) = (rs.map (·.n)).map (fun n : Nat => (n : Int)) := by simp
    rw [e3]
    exact List.Pairwise.map _ (fun a b hab h => hab (by omega)) this)
   have h3 : ls[j - 1] ≠ ls[j] := fun h => by
    have := (List.pairwise_iff_getElem.1 h2) (j - 1) j (by omega) hjl (by omega)
    exact this h
   rw [e]
   omega
 have hq2 := own_same (a:=(r.o : Nat)) (b:=(r.l : Nat))
 clear hall hjx hre hr hpx hrx hjc hpm hsrt
 obtain ⟨rn, ro, rl, rb⟩ := r
 simp only [PR.val, Option.map_some, Option.getD_some] at *
 generalize ls.getD (j - 1) 0 = y at *
 repeat' (first | (refine h1t (id:=69) ?_) | refine h0j ?_ | refine h0d ?_ | refine h0k ?_ | refine h0t ?_ | refine h0l rfl ?_ | (refine gR 66 ?_ <;> (try refine q_e (q_b (r:=by exact h2s q_o)) ?_) <;> (try refine h0b ?_)) | (refine gR 67 ?_ <;> (try refine q_m ?_) <;> (try refine q_e (by apply h0a; exact rfl; exact rfl; (focus (apply h0n Try.underlying30 h0r; omega; omega; exact c_1))) ?_) <;> (try refine q_e (by apply h0e (t:=22); exact rfl; exact c_12; kernel_rfl; kernel_rfl; (with_reducible assumption)) ?_) <;> (try refine q_a ?_) <;> (try refine q_a ?_) <;> (try refine h0b ?_)) | (refine gR 68 ?_ <;> (try refine q_m ?_) <;> (try refine q_m ?_) <;> (try refine h0i ?_; (apply K1_callvc (F:=14); kernel_rfl; exact rfl; exact rfl; exact rfl; exact rfl; (apply find_c (rs:=rs) (c:=c) (k:=(i + 1)) (hn:=hrl16) (hk:=by omega) (hp:=hok); (focus (focus (repeat (first | exact fd0 | apply fdA | apply fdS)))); (focus exact c_12)); rintro _ _ ⟨rfl, rfl⟩)) <;> (try refine q_a ?_) <;> (try refine h0b ?_)))
 refine ⟨?_⟩
 rw [hfx]
 by_cases hj0 : 0 < j
 ·obtain ⟨hl1, hl2⟩ := hlow hj0
  repeat' (first | refine h0d ?_ | refine h0m ?_ | refine h0x ?_ | refine h0t ?_ | refine h0g rfl ?_ | ((refine h1h (id:=69) (m:=32) (by kernel_rfl) rfl ?_) <;> (try refine q_u 0 (x:=by exact h0c rfl) (h:=?_)) <;> (try refine q_u 1 (x:=by exact q_b (r:=by exact rb_gtr_t q_o)) (h:=?_)) <;> (try refine q_u 2 (x:=by exact h0c rfl) (h:=?_)) <;> (try refine q_T 3 (e:=(fun _ H => H)) (x:=by exact h0c rfl) (h:=?_)) <;> (try refine q_T 4 (e:=(fun _ H => H)) (x:=by exact h0c rfl) (h:=?_)) <;> (try refine q_T 5 (e:=(fun _ H => H)) (x:=by exact q_b (r:=by apply h1c; exact c_6; (focus (refine IntWalk.i64_in _ ?_; omega)))) (h:=?_)) <;> (try refine q_T 6 (e:=(fun _ H => H)) (x:=by apply h0a; exact rfl; exact rfl; (focus (apply h0n Try.underlying30 h0r; omega; omega; exact c_1))) (h:=?_)) <;> (try refine q_T 7 (e:=(fun _ H => H)) (x:=by apply h0e (t:=22); exact rfl; exact c_12; kernel_rfl; kernel_rfl; (with_reducible assumption)) (h:=?_)) <;> (try refine q_T 8 (e:=(fun _ H => H)) (x:=by exact h0c rfl) (h:=?_)) <;> (try refine q_T 9 (e:=(fun _ H => H)) (x:=by exact q_b (r:=by exact h2n q_o)) (h:=?_)) <;> (try refine q_u 10 (x:=by exact h2g rfl rfl) (h:=?_)) <;> (try refine q_u 11 (x:=by exact h0c rfl) (h:=?_)) <;> (try refine q_T 12 (e:=(fun _ H => H)) (x:=by exact h0c rfl) (h:=?_)) <;> (try refine q_T 13 (e:=(fun _ H => H)) (x:=by exact q_b (r:=by exact h2i q_o)) (h:=?_)) <;> (try refine q_u 14 (x:=by exact h2g rfl rfl) (h:=?_)) <;> (try refine q_u 15 (x:=by exact h0c rfl) (h:=?_)) <;> (try refine q_T 16 (e:=(fun _ H => H)) (x:=by exact h0c rfl) (h:=?_)) <;> (try refine q_T 17 (e:=(fun _ H => H)) (x:=by exact h0c rfl) (h:=?_)) <;> (try refine q_T 19 (e:=(fun _ H => H)) (x:=by apply h0e (t:=38); exact rfl; (focus (repeat (first | exact fd0 | apply fdA | apply fdS))); kernel_rfl; kernel_rfl; exact rfl) (h:=?_)) <;> (try refine q_T 20 (e:=(fun _ H => H)) (x:=by exact h0c rfl) (h:=?_)) <;> (try refine q_T 21 (e:=(fun _ H => H)) (x:=by apply h0a; exact rfl; exact rfl; (focus (apply h0n Try.underlying38 h1z; omega; omega; exact c_1))) (h:=?_)) <;> (try refine q_T 22 (e:=(fun _ H => H)) (x:=by exact q_g h2v) (h:=?_)) <;> (try refine q_T 23 (e:=(fun _ H => H)) (x:=by apply h0e (t:=3); exact rfl; exact c_12; kernel_rfl; kernel_rfl; (with_reducible assumption)) (h:=?_)) <;> (try refine q_T 24 (e:=(fun _ H => H)) (x:=by apply h0e (t:=38); exact rfl; (focus (repeat (first | exact fd0 | apply fdA | apply fdS))); kernel_rfl; kernel_rfl; exact rfl) (h:=?_)) <;> (try refine q_T 25 (e:=(fun _ H => H)) (x:=by exact h0c rfl) (h:=?_)) <;> (try refine q_T 26 (e:=(fun _ H => H)) (x:=by apply h0a; exact rfl; exact rfl; (focus (apply h0n Try.underlying38 h1z; omega; omega; exact c_1))) (h:=?_)) <;> (try refine q_T 27 (e:=(fun _ H => H)) (x:=by exact q_g h2r) (h:=?_)) <;> (try refine q_T 28 (e:=(fun _ H => H)) (x:=by apply h0e (t:=3); exact rfl; exact c_12; kernel_rfl; kernel_rfl; (with_reducible assumption)) (h:=?_)) <;> (try refine q_T 29 (e:=(fun _ H => H)) (x:=by exact E_build (t:=33) (fun vs => (match vs with | [(_, x0), (_, x1)] => [x0, x1] | _ => [])) rfl (fun w => by kernel_rfl)) (h:=?_); (try simp only [Value.cells]); (try simp only [zzC, zzN])) <;> (try refine q_r 18 ?_; (refine h1j rfl rfl rfl ?_; (refine q_c 12 (c:=by apply hge; (focus ((try simp only [zzE, zzF]); (focus (repeat (first | exact fd0 | apply fdA))))); (focus ((try simp only [zzE, zzF]); (focus (repeat (first | exact fd0 | apply fdA | apply fdS)))))) (h:=?_); rintro _ _ ⟨rfl, rfl⟩; (try simp only [zzE, zzF]))); refine h0s (fun _ H => H) ?_) <;> (try refine q_T 30 (e:=(fun _ H => H)) (x:=by apply E_bin_agg (op:=.neq) (t:=33); exact rfl; exact rfl; kernel_rfl; (with_reducible assumption)) (h:=?_)) <;> (try refine q_u 31 (x:=by exact h2g rfl rfl) (h:=?_)) <;> (try refine h0q (by kernel_rfl) ?_)) | (refine gR 71 ?_ <;> (try refine q_e (q_b (r:=by apply h0u; exact c_6; (focus (refine IntWalk.i64_in _ ?_; omega)))) ?_) <;> (try refine q_m ?_) <;> (try refine h0b ?_)))
  all_goals exact h0p (j + 1) ⟨by omega, by omega⟩ (by (focus (repeat (first | exact Sub.nil | refine Sub.cons rfl ?_)))) (fun _ H => H)
 ·repeat' (first | refine h0d ?_ | refine h0m ?_ | refine h0x ?_ | refine h0t ?_ | refine h0g rfl ?_ | ((refine h1h (id:=69) (m:=32) (by kernel_rfl) rfl ?_) <;> (try refine q_u 0 (x:=by exact h0c rfl) (h:=?_)) <;> (try refine q_u 1 (x:=by exact q_b (r:=by exact rb_gtr_f q_o)) (h:=?_)) <;> (try refine q_u 2 (x:=by exact h0c rfl) (h:=?_)) <;> (try apply h0o (i:=3); exact rfl; kernel_rfl; kernel_rfl; kernel_rfl; exact rfl; (exact fun _ H => H); exact h2a rfl rfl rfl) <;> (try apply h0o (i:=4); exact rfl; kernel_rfl; kernel_rfl; kernel_rfl; exact rfl; (exact fun _ H => H); exact h2a rfl rfl rfl) <;> (try apply h0o (i:=5); exact rfl; kernel_rfl; kernel_rfl; kernel_rfl; exact rfl; (exact fun _ H => H); exact h2a rfl rfl rfl) <;> (try apply h0o (i:=6); exact rfl; kernel_rfl; kernel_rfl; kernel_rfl; exact rfl; (exact fun _ H => H); exact h2a rfl rfl rfl) <;> (try apply h0o (i:=7); exact rfl; kernel_rfl; kernel_rfl; kernel_rfl; exact rfl; (exact fun _ H => H); exact h2a rfl rfl rfl) <;> (try apply h0o (i:=8); exact rfl; kernel_rfl; kernel_rfl; kernel_rfl; exact rfl; (exact fun _ H => H); exact h2a rfl rfl rfl) <;> (try apply h0o (i:=9); exact rfl; kernel_rfl; kernel_rfl; kernel_rfl; exact rfl; (exact fun _ H => H); exact h2a rfl rfl rfl) <;> (try refine q_u 10 (x:=by exact h2g rfl rfl) (h:=?_)) <;> (try refine q_u 11 (x:=by exact h0c rfl) (h:=?_)) <;> (try refine q_T 12 (e:=(fun _ H => H)) (x:=by exact h0c rfl) (h:=?_)) <;> (try refine q_T 13 (e:=(fun _ H => H)) (x:=by exact q_b (r:=by exact h2i q_o)) (h:=?_)) <;> (try refine q_u 14 (x:=by exact h2g rfl rfl) (h:=?_)) <;> (try refine q_u 15 (x:=by exact h0c rfl) (h:=?_)) <;> (try refine q_T 16 (e:=(fun _ H => H)) (x:=by exact h0c rfl) (h:=?_)) <;> (try refine q_T 17 (e:=(fun _ H => H)) (x:=by exact h0c rfl) (h:=?_)) <;> (try refine q_T 19 (e:=(fun _ H => H)) (x:=by apply h0e (t:=38); exact rfl; (focus (repeat (first | exact fd0 | apply fdA | apply fdS))); kernel_rfl; kernel_rfl; exact rfl) (h:=?_)) <;> (try refine q_T 20 (e:=(fun _ H => H)) (x:=by exact h0c rfl) (h:=?_)) <;> (try refine q_T 21 (e:=(fun _ H => H)) (x:=by apply h0a; exact rfl; exact rfl; (focus (apply h0n Try.underlying38 h1z; omega; omega; exact c_1))) (h:=?_)) <;> (try refine q_T 22 (e:=(fun _ H => H)) (x:=by exact q_g h2v) (h:=?_)) <;> (try refine q_T 23 (e:=(fun _ H => H)) (x:=by apply h0e (t:=3); exact rfl; exact c_12; kernel_rfl; kernel_rfl; (with_reducible assumption)) (h:=?_)) <;> (try refine q_T 24 (e:=(fun _ H => H)) (x:=by apply h0e (t:=38); exact rfl; (focus (repeat (first | exact fd0 | apply fdA | apply fdS))); kernel_rfl; kernel_rfl; exact rfl) (h:=?_)) <;> (try refine q_T 25 (e:=(fun _ H => H)) (x:=by exact h0c rfl) (h:=?_)) <;> (try refine q_T 26 (e:=(fun _ H => H)) (x:=by apply h0a; exact rfl; exact rfl; (focus (apply h0n Try.underlying38 h1z; omega; omega; exact c_1))) (h:=?_)) <;> (try refine q_T 27 (e:=(fun _ H => H)) (x:=by exact q_g h2r) (h:=?_)) <;> (try refine q_T 28 (e:=(fun _ H => H)) (x:=by apply h0e (t:=3); exact rfl; exact c_12; kernel_rfl; kernel_rfl; (with_reducible assumption)) (h:=?_)) <;> (try refine q_T 29 (e:=(fun _ H => H)) (x:=by exact E_build (t:=33) (fun vs => (match vs with | [(_, x0), (_, x1)] => [x0, x1] | _ => [])) rfl (fun w => by kernel_rfl)) (h:=?_); (try simp only [Value.cells]); (try simp only [zzC, zzN])) <;> (try refine q_r 18 ?_; (refine h1j rfl rfl rfl ?_; (refine q_c 12 (c:=by apply hge; (focus ((try simp only [zzE, zzF]); (focus (repeat (first | exact fd0 | apply fdA))))); (focus ((try simp only [zzE, zzF]); (focus (repeat (first | exact fd0 | apply fdA | apply fdS)))))) (h:=?_); rintro _ _ ⟨rfl, rfl⟩; (try simp only [zzE, zzF]))); refine h0s (fun _ H => H) ?_) <;> (try refine q_T 30 (e:=(fun _ H => H)) (x:=by apply E_bin_agg (op:=.neq) (t:=33); exact rfl; exact rfl; kernel_rfl; (with_reducible assumption)) (h:=?_)) <;> (try refine q_u 31 (x:=by exact h2g rfl rfl) (h:=?_)) <;> (try refine h0q (by kernel_rfl) ?_)) | (refine gR 71 ?_ <;> (try refine q_e (q_b (r:=by apply h0u; exact c_6; (focus (refine IntWalk.i64_in _ ?_; omega)))) ?_) <;> (try refine q_m ?_) <;> (try refine h0b ?_)))
  all_goals exact h0p (j + 1) ⟨by omega, by omega⟩ (by (focus (repeat (first | exact Sub.nil | refine Sub.cons rfl ?_)))) (fun _ H => H)
theorem wf_u8 {a : Int} (h : (Lit.int .u8 a).wf = true) : 0 ≤ a ∧ a < 256 := by
 simp [Lit.wf, IntKind.min, IntKind.max, IntKind.signed, IntKind.bits] at h; omega
theorem wf_u16 {a : Int} (h : (Lit.int .u16 a).wf = true) : 0 ≤ a ∧ a < 65536 := by
 simp [Lit.wf, IntKind.min, IntKind.max, IntKind.signed, IntKind.bits] at h; omega
theorem HP.read {w : World} {L : List Blk} (h : ∀ p ∈ L, p.wr = false ∧ w.heap[p.b]? = some p.o) : HP [] w w L :=
 ⟨rfl, rfl, rfl, Nat.le_refl _, fun _ _ _ => rfl, fun p hp => (h p hp).2, fun p hp hw => by simp [(h p hp).1] at hw,
  List.pairwise_of_forall_mem_list fun p hp q hq hw => by rcases hw with hw | hw <;> simp [(h p hp).1, (h q hq).1] at hw⟩
theorem mapM_some {α β : Type} {f : α → Option β} : ∀ {l : List α} {ys : List β}, l.mapM f = some ys → ∀ (i : Nat) (x : α), l[i]? = some x → ∃ y, f x = some y ∧ ys[i]? = some y
 | [], _, _, i, x, hx => by simp at hx
 | a :: l, ys, h, i, x, hx => by
  simp only [List.mapM_cons, Option.pure_def, Option.bind_eq_bind, Option.bind_eq_some_iff] at h
  obtain ⟨y, hy, ys', hys, e⟩ := h
  obtain rfl := Option.some.inj e
  cases i with
  | zero => simp at hx; subst hx; exact ⟨y, hy, by simp⟩
  | succ i => simp at hx; simpa using mapM_some hys i x hx
theorem mapM_len {α β : Type} {f : α → Option β} : ∀ {l : List α} {ys : List β}, l.mapM f = some ys → ys.length = l.length
 | [], ys, h => by simp at h; simp [h]
 | a :: l, ys, h => by
  simp only [List.mapM_cons, Option.pure_def, Option.bind_eq_bind, Option.bind_eq_some_iff] at h
  obtain ⟨y, hy, ys', hys, e⟩ := h
  obtain rfl := Option.some.inj e
  simp [mapM_len hys]
section
variable {H : Type} {enc : TypeId × Value → H} {P : Program} {w : World} {base : Nat} {spare : Nat → Bool} {held : Bool}
theorem trod_fields {t : TypeId} {fs : Array Field} {fuel : Nat} {cs : List Value} {x : DataW H × List MemPlace} (ht : P.underlying t = some (.struct fs))
  (h : DataW.trod enc P w base spare held fuel t cs = some x) :
  ∃ n, fuel = n + 1 ∧ cs.length = P.cellsOf t ∧ ∀ (i : Nat) (f : Field), fs.toList[i]? = some f → ∃ y, DataW.trod enc P w base spare held n f.type ((cs.drop f.offset).take (P.cellsOf f.type)) = some y := by
 cases fuel with
 | zero => simp [DataW.trod] at h
 | succ n =>
  refine ⟨n, rfl, ?_⟩
  unfold DataW.trod at h
  simp only [ht] at h
  split at h
  ·rename_i hlen
   simp only [Option.map_eq_some_iff] at h
   obtain ⟨xs, hxs, _⟩ := h
   exact ⟨hlen, fun i f hf => let ⟨y, hy, _⟩ := mapM_some hxs i f hf; ⟨y, hy⟩⟩
  ·simp at h
theorem trod_slice {t e : TypeId} {fuel : Nat} {a : Option Addr} {len cap : Nat} {x : DataW H × List MemPlace} (ht : P.underlying t = some (.slice e))
  (h : DataW.trod enc P w base spare held fuel t [.slice a len cap] = some x) :
  (a = none ∧ len = 0 ∧ cap = 0) ∨
  ∃ p n, a = some p ∧ fuel = n + 1 ∧ len ≤ cap ∧ cap ≤ maxLen ∧ ∀ i, i < len → ∃ cs y, w.cells? base (p.add (i * P.cellsOf e)) (P.cellsOf e) = some cs ∧ DataW.trod enc P w base spare held n e cs = some y := by
 cases fuel with
 | zero => simp [DataW.trod] at h
 | succ n =>
  cases a with
  | none =>
   left
   unfold DataW.trod at h
   simp only [ht] at h
   cases len <;> cases cap <;> simp_all
  | some p =>
   right
   unfold DataW.trod at h
   simp only [ht] at h
   split at h
   ·rename_i hc
    simp only [Option.bind_eq_some_iff] at h
    obtain ⟨elems, hel, _⟩ := h
    refine ⟨p, n, rfl, rfl, hc.2.1, hc.2.2, fun i hi => ?_⟩
    obtain ⟨y, hy, _⟩ := mapM_some hel i i (by simp [hi])
    simp only [Option.bind_eq_some_iff] at hy
    obtain ⟨cs, hcs, hy⟩ := hy
    exact ⟨cs, y, hcs, hy⟩
   ·simp at h
theorem cells?_get {a : Addr} {n : Nat} {cs : List Value} (h : w.cells? base a n = some cs) : base ≤ a.block ∧ cs.length = n ∧ ∀ j, j < n → w.cell? (a.add j) = cs[j]? := by
 unfold World.cells? at h
 split at h
 ·rename_i hb
  refine ⟨hb, by simpa using mapM_len h, fun j hj => ?_⟩
  obtain ⟨y, hy, hy'⟩ := mapM_some h j j (by simp [hj])
  rw [hy, hy']
 ·simp at h
theorem trod_int_cell {t : TypeId} {k : IntKind} {fuel : Nat} {c : Value} {y : DataW H × List MemPlace} (ht : P.underlying t = some (.int k)) (h : DataW.trod enc P w base spare held fuel t [c] = some y) :
  ∃ n, c = .int k n ∧ (Lit.int k n).wf = true := by
 cases fuel with
 | zero => simp [DataW.trod] at h
 | succ f =>
  unfold DataW.trod at h
  rw [ht] at h
  cases c <;> simp_all
theorem trod_bool_cell {t : TypeId} {fuel : Nat} {c : Value} {y : DataW H × List MemPlace} (ht : P.underlying t = some .bool) (h : DataW.trod enc P w base spare held fuel t [c] = some y) :
  ∃ b, c = .bool b := by
 cases fuel with
 | zero => simp [DataW.trod] at h
 | succ f =>
  unfold DataW.trod at h
  rw [ht] at h
  cases c <;> simp_all
theorem add_none (b off n : Nat) : (⟨b, off, none⟩ : Addr).add n = ⟨b, off + n, none⟩ := by unfold Addr.add; split <;> simp_all
theorem slice_block {t e : TypeId} {fuel : Nat} {a : Option Addr} {len cap : Nat} {x : DataW H × List MemPlace} (ht : P.underlying t = some (.slice e)) {sz : Nat} (hsz : P.cellsOf e = sz) (h0 : 0 < sz)
  (h : DataW.trod enc P w base spare held fuel t [.slice a len cap] = some x) (hlen : 0 < len) :
  ∃ b off acs T fr n, a = some ⟨b, off, none⟩ ∧ w.heap[b]? = some (.cells acs T fr) ∧ len ≤ cap ∧ cap ≤ maxLen ∧
   ∀ i, i < len → ∃ cs y, cs.length = sz ∧ DataW.trod enc P w base spare held n e cs = some y ∧ off + i * sz + sz ≤ acs.size ∧ acs.extract (off + i * sz) (off + i * sz + sz) = cs.toArray := by
 rcases trod_slice ht h with ⟨_, h1, _⟩ | ⟨p, n, rfl, _, hlc, hcm, hel⟩
 ·omega
 ·rw [hsz] at hel
  obtain ⟨cs0, y0, hc0, _⟩ := hel 0 hlen
  obtain ⟨_, hl0, hg0⟩ := cells?_get hc0
  obtain ⟨v, hv⟩ : ∃ v, cs0[0]? = some v := ⟨_, List.getElem?_eq_getElem (by omega)⟩
  have hcell := hg0 0 h0
  rw [hv] at hcell
  obtain ⟨b, off, spot⟩ := p
  have hsp : spot = none := by simpa [Addr.add] using World.cell?_spot hcell
  subst hsp
  simp only [add_none, Nat.zero_mul, Nat.add_zero] at hcell
  obtain ⟨acs, T, fr, hb⟩ : ∃ acs T fr, w.heap[b]? = some (.cells acs T fr) := by
   unfold World.cell? at hcell
   cases hq : w.heap[b]? with
   | none => simp [hq] at hcell
   | some ob =>
    cases ob with
    | cells acs T fr => exact ⟨acs, T, fr, rfl⟩
    | _ => simp [hq] at hcell
  refine ⟨b, off, acs, T, fr, n, rfl, hb, hlc, hcm, fun i hi => ?_⟩
  obtain ⟨cs, y, hcs, hy⟩ := hel i hi
  obtain ⟨_, hl, hg⟩ := cells?_get hcs
  have hget : ∀ j, j < sz → acs[off + i * sz + j]? = cs[j]? := by
   intro j hj
   have := hg j hj
   simp only [add_none] at this
   rw [cell_of_row w b _ acs T fr hb] at this
   exact this
  have hsize : off + i * sz + sz ≤ acs.size := by
   have := hget (sz - 1) (by omega)
   rw [List.getElem?_eq_getElem (by omega)] at this
   have h3 := Array.getElem?_eq_some_iff.1 this
   obtain ⟨h3, _⟩ := h3
   omega
  refine ⟨cs, y, hl, hy, hsize, ?_⟩
  apply Array.ext_getElem?
  intro j
  by_cases hj : j < sz
  ·rw [Array.getElem?_extract, if_pos (by omega), hget j hj]
   simp
  ·rw [Array.getElem?_extract, if_neg (by omega)]
   simp; omega
end
theorem lst_5 {cs : List Value} (h : cs.length = 5) : ∃ c0 c1 c2 c3 c4, cs = [c0, c1, c2, c3, c4] := by
 match cs, h with
 | [_, _, _, _, _], _ => exact ⟨_, _, _, _, _, rfl⟩
section
variable {H : Type} {enc : TypeId × Value → H} {P : Program} {w : World} {base : Nat} {spare : Nat → Bool} {held : Bool}
def ROnly (w : World) (B : List Blk) : Prop := ∀ p ∈ B, p.wr = false ∧ w.heap[p.b]? = some p.o
theorem ROnly.nil {w : World} : ROnly w [] := by simp [ROnly]
theorem HP.ro {w : World} {B : List Blk} (h : ROnly w B) : HP [] w w B := HP.read h
theorem slice_list {X : Type} {cells : X → List Value} {ok : X → Prop} {t e : TypeId} {sz fuel : Nat} {a : Option Addr} {len cap : Nat} {x : DataW H × List MemPlace} (ht : P.underlying t = some (.slice e)) (hsz : P.cellsOf e = sz) (h0 : 0 < sz)
  (hcl : ∀ x, ok x → (cells x).length = sz) (hel : ∀ n cs y, DataW.trod enc P w base spare held n e cs = some y → ∃ x, cs = cells x ∧ ok x) (h : DataW.trod enc P w base spare held fuel t [.slice a len cap] = some x) :
  ∃ (l : List X) (B : List Blk), l.length = len ∧ (∀ x ∈ l, ok x) ∧ Sli B a len sz (l.flatMap cells) ∧ ROnly w B ∧ len ≤ maxLen ∧ len ≤ cap ∧ cap ≤ maxLen := by
 by_cases hl : 0 < len
 ·obtain ⟨b, off, acs, T, fr, n, rfl, hb, h1, h2, hall⟩ := slice_block ht hsz h0 h hl
  have key : ∀ m, m ≤ len → ∃ l : List X, l.length = m ∧ (∀ x ∈ l, ok x) ∧ (acs.toList.drop off).take (m * sz) = l.flatMap cells := by
   intro m
   induction m with
   | zero => intro _; exact ⟨[], rfl, by simp, by simp⟩
   | succ m ih =>
    intro hm
    obtain ⟨l, e1, e2, e3⟩ := ih (by omega)
    obtain ⟨cs, y, hc1, hc2, hc3, hc4⟩ := hall m (by omega)
    obtain ⟨x, rfl, hx⟩ := hel _ _ _ hc2
    refine ⟨l ++ [x], by simp [e1], ?_, ?_⟩
    ·intro z hz
     rcases List.mem_append.1 hz with hz | hz
     ·exact e2 z hz
     ·rw [List.mem_singleton.1 hz]; exact hx
    ·rw [List.flatMap_append, ← e3, Nat.add_mul, Nat.one_mul, List.take_add, List.drop_drop]
     congr 1
     have := congrArg Array.toList hc4
     simp only [Array.toList_extract, List.extract_eq_take_drop] at this
     rw [Nat.add_sub_cancel_left] at this
     simpa using this
  obtain ⟨l, e1, e2, e3⟩ := key len (Nat.le_refl _)
  obtain ⟨_, _, _, _, hc3, _⟩ := hall (len - 1) (by omega)
  have hmul : (len - 1) * sz + sz = len * sz := by
   obtain ⟨q, rfl⟩ : ∃ q, len = q + 1 := ⟨len - 1, by omega⟩
   rw [Nat.add_sub_cancel, Nat.add_mul, Nat.one_mul]
  refine ⟨l, [⟨false, b, .cells acs T fr⟩], e1, e2, Sli.of (i:=0) rfl (by omega) e3, ?_, by omega, by omega, by omega⟩
  intro p hp
  rw [List.mem_singleton.1 hp]
  exact ⟨rfl, hb⟩
 ·rcases trod_slice ht h with ⟨rfl, rfl, rfl⟩ | ⟨p, n, rfl, _, h2, h3, _⟩
  ·exact ⟨[], [], rfl, by simp, ⟨by simp, .inl rfl⟩, ROnly.nil, by omega, by omega, by omega⟩
  ·obtain rfl : len = 0 := by omega
   exact ⟨[], [], rfl, by simp, ⟨by simp, .inl rfl⟩, ROnly.nil, by omega, by omega, by omega⟩
end
set_option linter.unusedVariables false in
theorem open_43 {H : Type} {enc : TypeId × Value → H} {w : World} {base : Nat} {spare : Nat → Bool} {held : Bool} {fuel : Nat} {cs : List Value} {x : DataW H × List MemPlace} (h : DataW.trod enc Try.prog w base spare held fuel 43 cs = some x) :
  ∃ (a0 : Int) (a1 : Int) (a2 : Int) (a3 : Bool) (a4 : Bool), cs = [Value.int .u8 a0, Value.int .u8 a1, Value.int .u16 a2, Value.bool a3, Value.bool a4] ∧ (0 ≤ a0 ∧ a0 < 256) ∧ (0 ≤ a1 ∧ a1 < 256) ∧ (0 ≤ a2 ∧ a2 < 65536) := by
 obtain ⟨n, rfl, hlen, hf⟩ := trod_fields Try.underlying43 h
 rw [(by kernel_rfl : Try.prog.cellsOf 43 = 5)] at hlen
 obtain ⟨c0, c1, c2, c3, c4, rfl⟩ := lst_5 hlen
 have e4 : Try.prog.cellsOf 4 = 1 := by kernel_rfl
 have e5 : Try.prog.cellsOf 5 = 1 := by kernel_rfl
 have e22 : Try.prog.cellsOf 22 = 1 := by kernel_rfl
 obtain ⟨y0, h0⟩ := hf 0 _ rfl
 (try simp only [e5] at h0); (try simp only [Nat.reduceMul] at h0); (try simp only [List.drop_succ_cons] at h0); (try simp only [List.drop_zero] at h0); (try simp only [List.take_succ_cons] at h0); (try simp only [List.take_zero] at h0)
 obtain ⟨a0, rfl, ba0⟩ := trod_int_cell Try.underlying5 h0
 replace ba0 := wf_u8 ba0
 obtain ⟨y1, h1⟩ := hf 1 _ rfl
 (try simp only [e5] at h1); (try simp only [Nat.reduceMul] at h1); (try simp only [List.drop_succ_cons] at h1); (try simp only [List.drop_zero] at h1); (try simp only [List.take_succ_cons] at h1); (try simp only [List.take_zero] at h1)
 obtain ⟨a1, rfl, ba1⟩ := trod_int_cell Try.underlying5 h1
 replace ba1 := wf_u8 ba1
 obtain ⟨y2, h2⟩ := hf 2 _ rfl
 (try simp only [e22] at h2); (try simp only [Nat.reduceMul] at h2); (try simp only [List.drop_succ_cons] at h2); (try simp only [List.drop_zero] at h2); (try simp only [List.take_succ_cons] at h2); (try simp only [List.take_zero] at h2)
 obtain ⟨a2, rfl, ba2⟩ := trod_int_cell Try.underlying22 h2
 replace ba2 := wf_u16 ba2
 obtain ⟨y3, h3⟩ := hf 3 _ rfl
 (try simp only [e4] at h3); (try simp only [Nat.reduceMul] at h3); (try simp only [List.drop_succ_cons] at h3); (try simp only [List.drop_zero] at h3); (try simp only [List.take_succ_cons] at h3); (try simp only [List.take_zero] at h3)
 obtain ⟨a3, rfl⟩ := trod_bool_cell Try.underlying4 h3
 obtain ⟨y4, h4⟩ := hf 4 _ rfl
 (try simp only [e4] at h4); (try simp only [Nat.reduceMul] at h4); (try simp only [List.drop_succ_cons] at h4); (try simp only [List.drop_zero] at h4); (try simp only [List.take_succ_cons] at h4); (try simp only [List.take_zero] at h4)
 obtain ⟨a4, rfl⟩ := trod_bool_cell Try.underlying4 h4
 exact ⟨a0, a1, a2, a3, a4, rfl, ba0, ba1, ba2⟩
theorem act_open {H : Type} {enc : TypeId × Value → H} {w : World} {base : Nat} {spare : Nat → Bool} {held : Bool} {fuel : Nat} {cs : List Value} {x : DataW H × List MemPlace} (h : DataW.trod enc Try.prog w base spare held fuel 43 cs = some x) : ∃ r : ActD, cs = r.cells ∧ r.ok := by
 obtain ⟨a0, a1, a2, a3, a4, rfl, h0, h1, h2⟩ := open_43 h
 exact ⟨⟨a0, a1, a2, a3, a4⟩, rfl, h0, h1, h2⟩
end Go.Proofs.Ytfhmalanbdjgfaa
namespace Go.Proofs.Ytfhmalanbdjgfaa
open Go.ChangeShapes Go.WideShapes Go.ChangeAt Go.RowKit
theorem ownPortPlays : ownKnob Try.prog.godebug = none := by kernel_rfl
theorem laidPortPlays : laidOutB Try.prog = true := by kernel_rfl
theorem portPlays_lifted (os : Os) (started : os.Started) (H : Type) (enc : TypeId × Value → H) :
  ReturnsInHanded {} Try.checked os 4 .any (Rows.portPlaysSpec.pre6 enc Try.prog Try.f4 Rows.portPlaysRow.domain false) (Rows.portPlaysSpec.post enc Try.prog Try.f4 false true false false) := by
 refine returnsInHanded_of_change (C:=Try.checked) ownPortPlays started (by kernel_rfl) Try.func4
  (ChangeSpec.witness6 (enc:=enc) (C:=Try.checked) false ⟨#[], #[.slice none 0 0], []⟩ 8 (by kernel_rfl) (by kernel_rfl) (by kernel_rfl) (by kernel_rfl)) ?_
 intro W base args ds gs before hval0 hW hcnd _
 have hval : ∀ (j : Nat) t v, Try.f4.params[j]? = some t → args[j]? = some v → Value.okWide Try.prog W .any base t v := hval0
 have hW' := hW
 obtain ⟨p, q, hA0, hV, rfl, hfz, hnd⟩ := hW
 have hA : DataW.TrodAll enc Try.prog W 0 (fun _ => true) true Try.f4.params.toList args.toList ds p := hA0
 rw [Try.params4] at hA hval
 obtain ⟨v0, vs0, d0, ds0, p0, q0, hargs, rfl, rfl, h0, r0⟩ := trodAll_cons hA
 obtain ⟨rfl, rfl, rfl⟩ := trodAll_nil r0
 obtain rfl : args = #[v0] := by cases args; simp_all
 obtain ⟨rfl, rfl⟩ := trodVars_none hV
 have k0 := h0
 have lt0 : ∀ x ∈ p0, x.block < W.heap.size := by obtain ⟨m, hm⟩ := k0; exact DataW.trod_lt m _ _ _ hm
 obtain ⟨A0, len0, C0, rfl⟩ := okWide_slice Try.underlying36 (hval 0 36 v0 rfl rfl)
 obtain ⟨f0, hf0⟩ := h0
 obtain ⟨a0, B0, rfl, b0, s0, ro0, m0, q0⟩ := slice_list (cells:=ActD.cells) (ok:=ActD.ok) Try.underlying36 (sz:=5) (by kernel_rfl) (by omega) (fun _ _ => rfl) (fun _ _ _ h => act_open h) (by simpa [Value.cells] using hf0)
 have S0 := s0
 clear hA0 hval0
 refine ((portPlays_c (S:=[]) (w0:=W) (L:=B0) a0 b0 A0 C0 S0 m0).out W (HP.ro ro0)).mono fun e W' ⟨v, L', he, ⟨hv, _⟩, H'⟩ => ?_
 subst he hv
 have bel := H'.below
 exact ⟨_, rfl, _, _, _, [], _, [], hW', trodAll_mk1 (shut_bool Try.underlying4 _), (trodAll_cons_mk (Below.trod laidPortPlays (by kernel_rfl) (of_decide_eq_true (by kernel_rfl)) k0 bel lt0) trodAll_mk0), rfl, bel.frame _, fun h => by cases h⟩
theorem portPlays_holds : Rows.PortPlaysSaid :=
 OpenClaim.holds_of_wide 4 Try.f4 rfl rfl rfl rfl rfl rfl rfl ⟨rfl, rfl, rfl, rfl, rfl⟩ rfl rfl rfl rfl rfl (by kernel_rfl) Try.func4 (by kernel_rfl)
  (of_decide_eq_true (by kernel_rfl)) (by unfold Func.isWrapper; first | (rw [if_pos (by decide +kernel)]; kernel_rfl) | (rw [if_neg (by decide +kernel)]; exact ⟨rfl, rfl⟩))
  (fun os started H enc _ => portPlays_lifted os started H enc)
#print axioms portPlays_holds
end Go.Proofs.Ytfhmalanbdjgfaa
