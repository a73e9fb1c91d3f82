/- Part 8 of what the last text of this claim leans on: rules of walks, contracts, plain facts. Conditions: those of each statement. -/
import Derived.Test.YtpbpgbkpciffgaaQt7
set_option maxRecDepth 100000
namespace Go.Proofs.Ytpbpgbkpciffgaa
open Go Go.RowKit
abbrev tbB (tb am em : Nat) (lim : Int) : Blk := ⟨true, tb, .cells #[.map (some am), .map (some em), .int .i64 lim] 105 (0, 0)⟩
abbrev enE (id : Int) (p c : Nat) : MapEntry := { key := .int .u8 id, val := .pointer (some ⟨p, 0, none⟩), born := c }
theorem top_c {S w0 L} : Fn Try.prog 19 #[] S w0 L fun v L' => v = .agg #[.int .i64 0, .int .u16 1] ∧ L = L' := by
 refine Fn0 Try.func19 Try.ntmps19 rfl ?_
 repeat' (first | refine h0u ?_ | refine h0c ?_ | refine h0g ?_ | refine h0q ?_ | refine h1n ?_ | refine h2p ?_ | refine h0v ?_ | refine h1v ?_ | refine h0y ?_ | refine h2j ?_ | refine h1m ?_ | refine h2s rfl ?_ | refine h0p ?_ | refine h1c ?_ | refine h2a ?_ | refine h2w ?_ | refine h0s rfl ?_ | refine h0n rfl ?_ | (refine gR 0 ?_ <;> (try refine h0a ?_; (first | (refine h2b (t:=60) rfl Try.zeroValue60 ?_; intro nb hnb; (try simp only [Value.cells])))) <;> (try refine h0c ?_)) | (refine gR 1 ?_ <;> (try refine h0a ?_; (first | (refine q_k (by exact h2o (t:=60) (fun vs => (match vs with | [(_, x0), (_, x1)] => [x0, x1] | _ => [])) rfl (fun w => by kernel_rfl)) ?_; (try simp only [Value.cells]); (try simp only [zzC, zzN])))) <;> (try refine h0a ?_; (first | (first | (apply h1e (t:=60); exact rfl; exact rfl; (focus (repeat (first | exact fd0 | (with_reducible assumption) | apply fdA | apply fdS))); kernel_rfl; exact h5e; (focus (first | (with_reducible assumption) | exact rfl | (simp; done) | (simp [h1d, h0t, h1h, h1i, h2d, h1j, *]; done))); (try simp only [List.set_cons_succ]); (try simp only [List.set_cons_zero])) | (apply h1f (t:=60); exact rfl; exact rfl; (focus (repeat (first | exact fd0 | (with_reducible assumption) | apply fdA | apply fdS))); exact sz_60; exact h2g; (focus (first | (with_reducible assumption) | (focus (first | (with_reducible assumption) | exact rfl | (simp; done) | (simp [h1d, h0t, h1h, h1i, h2d, h1j, *]; done))))); exact h2u; (try simp only [List.set_cons_succ]); (try simp only [List.set_cons_zero]))))) <;> (try refine h0c ?_)) | ((first | (refine h1r rfl (fun hc => ?_) (fun hc => ?_)) | (refine h1x rfl (fun hc => ?_) (fun hc => ?_)) | (refine h3i rfl (fun hc => ?_) (fun hc => ?_))) <;> (try subst hc)))
 (apply G_doneA Try.results19; exact rfl; (focus (repeat (first | exact fd0 | (with_reducible assumption) | apply fdA | apply fdS))); kernel_rfl; kernel_rfl; exact sz_60; exact c_22)
 exact ⟨_, ⟨rfl, rfl⟩, by intro w H; refine H.sub ?_; (try simp only [zzC, zzN]); repeat (first | exact List.Sublist.refl _ | refine List.Sublist.cons_cons _ ?_ | refine List.Sublist.cons _ ?_ | refine List.sublist_append_of_sublist_right ?_)⟩
def slV (l : List SL) : List Value := l.map (fun s => .pointer (some ⟨s.q, 0, none⟩)) ++ List.replicate (16 - l.length) (.pointer none)
abbrev fdR (f : Nat) (l : List SL) : Blk := ⟨true, f, .cells (slV l).toArray 124 (0, 0)⟩
def opA (k m n : Int) : Array Value := #[.int .u8 k, .int .i64 m, .int .u16 n, .int .i64 0, .int .u16 0, .int .i64 0, .bool false]
abbrev opR (s : SL) : Blk := ⟨true, s.q, .cells #[.int .u8 s.k, .int .i64 s.m, .int .u16 s.n, .int .i64 0, .int .u16 0, .int .i64 0, .bool false] 79 (0, 0)⟩
theorem slV_len {l : List SL} (h : l.length ≤ 16) : (slV l).length = 16 := by simp [slV]; omega
theorem slV_get {l : List SL} {j : Nat} {s : SL} (h : l[j]? = some s) : (slV l)[j]? = some (.pointer (some ⟨s.q, 0, none⟩)) := by
 have hl := (List.getElem?_eq_some_iff.1 h).1
 rw [slV, List.getElem?_append_left (by simpa using hl), List.getElem?_map, h]; rfl
theorem slV_nil {l : List SL} {j : Nat} (h : l.length ≤ j) (h2 : j < 16) : (slV l)[j]? = some (.pointer none) := by
 rw [slV, List.getElem?_append_right (by simpa using h), List.getElem?_replicate, if_pos (by simp; omega)]
theorem slV_set {l : List SL} {s : SL} (h : l.length < 16) : (slV l).set l.length (.pointer (some ⟨s.q, 0, none⟩)) = slV (l ++ [s]) := by
 rw [slV, List.set_append_right _ _ (by simp), List.length_map, Nat.sub_self, show 16 - l.length = (16 - (l ++ [s]).length) + 1 by simp; omega, List.replicate_succ, List.set_cons_zero, slV, List.map_append, List.append_assoc]; rfl
theorem slV_ts {l : List SL} (h16 : l.length ≤ 16) {j : Nat} {q : Value} (h : (slV l)[j]? = some q) : (List.take 16 (slV l)).toArray.toList[((j : Nat) : Int).toNat]? = some q := by
 rw [List.take_of_length_le (Nat.le_of_eq (slV_len h16))]; exact h
theorem slV_one (l : List SL) : (slV l).all (·.oneCell') = true := by
 rw [slV, List.all_append]
 have h1 : ∀ l : List SL, (l.map (fun s => (Value.pointer (some ⟨s.q, 0, none⟩)))).all (·.oneCell') = true := by
  intro l; induction l with
  | nil => rfl
  | cons s l ih => rw [List.map_cons, List.all_cons, ih]; rfl
 rw [h1, Bool.true_and]
 have h2 : ∀ n, (List.replicate n (Value.pointer none)).all (·.oneCell') = true := by
  intro n; induction n with
  | zero => rfl
  | succ n ih => rw [List.replicate_succ, List.all_cons, ih]; rfl
 exact h2 _
theorem fdget_c {S w0 L} (i f : Nat) (l : List SL) (j : Nat) (s : SL) (h16 : l.length ≤ 16) (hj : l[j]? = some s) (hi : L[i]? = some (fdR f l)) : Fn Try.prog 36 #[.pointer (some ⟨f, 0, none⟩), .int .u64 (j : Nat)] S w0 L fun v L' => v = .pointer (some ⟨s.q, 0, none⟩) ∧ L = L' := by
 have hl := (List.getElem?_eq_some_iff.1 hj).1
 have hn := slV_len h16
 have hg : (slV l).toArray.toList[j]? = some (.pointer (some ⟨s.q, 0, none⟩)) := slV_get hj
 refine Fn2 Try.func36 Try.ntmps36 rfl rfl ?_
 repeat' (first | refine h0u ?_ | refine h0g ?_ | refine h1c ?_ | refine h2w ?_ | refine h0n rfl ?_ | (refine gR 0 (p_a (h:=h0c ?_))) | (refine gR 1 (p_m (h:=p_e (q_b (r:=by exact h2r Try.underlying69)) (h:=p_m (h:=p_y (h0b rfl) (h:=p_y (q_b (r:=by exact h3c q_o)) (h:=p_p (h:=h0c ?_)))))))) | (refine gR 3 (p_m (h:=p_m (h:=p_n (h:=p_e (q_f fo_124_0) (h:=p_e (by apply h0d; exact rfl; exact rfl; (focus (apply r_ixa Try.underlying122 sz_119; omega; omega; exact c_2))) (h:=p_e (by apply h0f (t:=119); exact rfl; exact c_28; kernel_rfl; kernel_rfl; (with_reducible assumption)) (h:=p_a (h:=h0c ?_))))))))))
 (refine h2h Try.results36 (.tmp rfl .nil) ?_)
 exact ⟨_, ⟨rfl, rfl⟩, fun _ H => H⟩
structure FlI (l : List SL) (g : Nat × Value × List Blk) : Prop where
 le : g.1 ≤ 16
 own : Own 3 1 g.2.1 (min g.1 l.length) ((List.range (min g.1 l.length)).map fun i : Nat => Value.int .i64 (i : Nat)) g.2.2
theorem fdlist_c {S w0 L} (i f : Nat) (l : List SL) (h16 : l.length ≤ 16) (hi : L[i]? = some (fdR f l)) : Fn Try.prog 35 #[.pointer (some ⟨f, 0, none⟩)] S w0 L fun v L' => ∃ e, Own 3 1 v l.length ((List.range l.length).map fun i : Nat => Value.int .i64 (i : Nat)) e ∧ e ++ L = L' := by
 have hn := slV_len h16
 have hgs : ∀ j, (hj : j < l.length) → ∃ q, (List.take 16 (slV l)).toArray.toList[((j : Nat) : Int).toNat]? = some (.pointer (some ⟨q, 0, none⟩)) := fun j hj => ⟨_, slV_ts (by omega) (slV_get (List.getElem?_eq_getElem hj))⟩
 have hgn : ∀ j, l.length ≤ j → j < 16 → (List.take 16 (slV l)).toArray.toList[((j : Nat) : Int).toNat]? = some (.pointer none) := fun j h1 h2 => slV_ts (by omega) (slV_nil h1 h2)
 have hone := slV_one l
 refine Fn1 Try.func35 Try.ntmps35 rfl rfl ?_
 repeat' (first | refine h0u ?_ | refine h0g ?_ | refine h0p ?_ | refine h1c ?_ | refine h0n rfl ?_ | (refine gR 0 (p_a (h:=h0c ?_))) | (refine gR 1 (p_m (h:=p_e (q_b (r:=by exact h2r Try.underlying69)) (h:=h0c ?_)))) | (refine gR 3 (p_a (h:=h0c ?_))) | (refine gR 4 (p_m (h:=p_n (h:=p_e (q_f fo_124_0) (h:=p_e (by apply h1s (t:=122); exact rfl; exact c_28; kernel_rfl; kernel_rfl; exact sz_122; (focus (simp; omega)); exact c_31) (h:=p_m (h:=h0c ?_))))))))
 refine h3b (γ:=Nat × Value × List Blk) (FlI l) (fun g => 16 - g.1) (fun g => [(3, g.2.1), (12, .int .i64 (g.1 : Nat))]) [(11, _)] (fun g => g.2.2 ++ L) (0, .slice none 0 0, []) (.cons rfl .nil) ⟨by omega, by simpa using Own.nil _ _⟩ (by (focus (repeat (first | exact Sub.nil | refine Sub.cons rfl ?_)))) (fun _ H => H) ?_
 rintro ⟨j, v, e⟩ ⟨hj, hown⟩
 dsimp only at hj hown ⊢
 simp only [List.cons_append, List.nil_append]
 by_cases h : j < 16
 ·by_cases hjl : j < l.length
  ·obtain ⟨q, hq⟩ := hgs j hjl
   rw [Nat.min_eq_left (by omega)] at hown
   repeat' (first | refine h0u ?_ | refine h0g ?_ | refine h0q ?_ | refine h0y ?_ | refine h0p ?_ | refine h1c ?_ | refine h0s rfl ?_ | (refine gR 5 (p_e (q_b (r:=by exact h1l q_o)) (h:=h0c ?_))) | (refine gR 6 (p_m (h:=p_e (by apply E_index; exact rfl; exact rfl; (focus (apply r_ixv Try.underlying122; kernel_rfl; kernel_rfl; exact sz_119; omega; omega; (with_reducible assumption)))) (h:=p_a (h:=p_a (h:=h0c ?_)))))) | (refine gR 7 (p_m (h:=p_e (q_b (r:=by exact h5n Try.underlying119)) (h:=h0c ?_)))) | (refine gR 8 (p_m (h:=q_m ?_)) <;> (try refine h0a ?_; (refine h1z (t:=97) (m:=1) (e:=3) (fun vs => (match vs with | [(_, x0)] => [x0] | _ => [])) rfl rfl (fun w => by kernel_rfl) ?_; intro nb hnb; (try simp only [Value.cells]); (try simp only [zzC, zzN]))) <;> (try refine h0a ?_; (apply h4k; exact rfl; exact Try.underlying97; exact inf_3_i; exact inf_3_z; exact inf_3_s; exact inf_3_b; exact rfl; exact rfl; exact rfl; (with_reducible assumption); exact fd0; exact Nat.le_of_ble_eq_true rfl; exact c_31; exact rfl; exact c_30; omega; exact c_23; exact rfl; exact c_21; exact c_7; intro vA eA hownA)) <;> (try refine p_a (h:=h0c ?_))) | (refine gR 9 ?_ <;> (try refine q_e (q_b (r:=by apply h0z; exact c_9; (focus (refine IntWalk.i64_in _ ?_; omega)))) ?_) <;> (try refine p_m (h:=h0c ?_))))
   refine h1p (j + 1, vA, eA) ⟨⟨by dsimp only; omega, ?_⟩, by dsimp only; omega⟩ (by (focus (repeat (first | exact Sub.nil | refine Sub.cons rfl ?_)))) c_32
   dsimp only
   rw [Nat.min_eq_left (by omega), List.range_succ, List.map_append]
   exact hownA
  ·have hq := hgn j (by omega) h
   repeat' (first | refine h0u ?_ | refine h0g ?_ | refine h0q ?_ | refine h0y ?_ | refine h0p ?_ | refine h1c ?_ | refine h0s rfl ?_ | refine h0n rfl ?_ | (refine gR 5 (p_e (q_b (r:=by exact h1l q_o)) (h:=h0c ?_))) | (refine gR 6 (p_m (h:=p_e (by apply E_index; exact rfl; exact rfl; (focus (apply r_ixv Try.underlying122; kernel_rfl; kernel_rfl; exact sz_119; omega; omega; (with_reducible assumption)))) (h:=p_a (h:=p_a (h:=h0c ?_)))))) | (refine gR 7 (p_m (h:=p_e (q_b (r:=by exact rb_pne_nn Try.underlying119)) (h:=h0c ?_)))) | (refine gR 9 ?_ <;> (try refine q_e (q_b (r:=by apply h0z; exact c_9; (focus (refine IntWalk.i64_in _ ?_; omega)))) ?_) <;> (try refine p_m (h:=h0c ?_))))
   refine h1p (j + 1, v, e) ⟨⟨by dsimp only; omega, ?_⟩, by dsimp only; omega⟩ (by (focus (repeat (first | exact Sub.nil | refine Sub.cons rfl ?_)))) c_32
   dsimp only
   rw [Nat.min_eq_right (by omega)] at hown ⊢
   exact hown
 ·obtain rfl : j = 16 := by omega
  rw [Nat.min_eq_right h16] at hown
  repeat' (first | refine h0u ?_ | refine h0g ?_ | refine h1n ?_ | refine h0v ?_ | refine h1m ?_ | refine h2a ?_ | refine h2w ?_ | refine h0n rfl ?_ | (refine gR 5 (p_e (q_b (r:=by exact h1k q_o)) (h:=h0c ?_))) | (refine gR 10 (p_m (h:=p_a (h:=h0c ?_)))))
  (refine h2h Try.results35 (.tmp rfl .nil) ?_)
  exact ⟨_, ⟨_, hown, rfl⟩, fun _ H => H⟩
theorem fdadd_c {S w0 L} (f : Nat) (l : List SL) (k m n : Int) (h16 : l.length < 16) : Fn Try.prog 20 #[.pointer (some ⟨f, 0, none⟩), .agg (opA k m n)] S w0 (fdR f l :: L) fun v L' => ∃ q, v = .tuple #[.int .i64 (l.length : Nat), .int .i64 0] ∧ fdR f (l ++ [⟨q, k, m, n⟩]) :: opR ⟨q, k, m, n⟩ :: L = L' := by
 have hn := slV_len (Nat.le_of_lt h16)
 have hgs : ∀ j, (hj : j < l.length) → ∃ q, (List.take 16 (slV l)).toArray.toList[((j : Nat) : Int).toNat]? = some (.pointer (some ⟨q, 0, none⟩)) := fun j hj => ⟨_, slV_ts (by omega) (slV_get (List.getElem?_eq_getElem hj))⟩
 have hgn : (List.take 16 (slV l)).toArray.toList[((l.length : Nat) : Int).toNat]? = some (.pointer none) := slV_ts (by omega) (slV_nil (Nat.le_refl _) h16)
 have hst := fun q => slV_set (s:=⟨q, k, m, n⟩) h16
 have hone := slV_one l
 unfold opA
 refine Fn2 Try.func20 Try.ntmps20 rfl rfl ?_
 repeat' (first | refine h0u ?_ | refine h0g ?_ | refine h0p ?_ | refine h1c ?_ | refine h0n rfl ?_ | (refine gR 0 ?_ <;> (try refine h0a ?_; (refine h4e (t:=79) rfl rfl ?_; intro nb hnb; (try simp only [Value.cells]))) <;> (try refine p_a (h:=p_a (h:=h0c ?_)))) | (refine gR 1 (p_m (h:=p_e (q_b (r:=by exact h2r Try.underlying69)) (h:=h0c ?_)))) | (refine gR 3 (p_m (h:=p_n (h:=p_e (q_f fo_124_0) (h:=p_e (by apply h1s (t:=122); exact rfl; exact h4d; kernel_rfl; kernel_rfl; exact sz_122; (focus (simp; omega)); exact c_31) (h:=p_m (h:=h0c ?_))))))))
 refine h3b (γ:=Nat) (fun j => j ≤ l.length) (fun j => 16 - j) (fun j => [(14, .int .i64 (j : Nat))]) [(0, _), (3, _), (13, _)] (fun _ => opR ⟨nb, k, m, n⟩ :: fdR f l :: L) 0 (.cons rfl (.cons rfl (.cons rfl .nil))) (Nat.zero_le _) (by (focus (repeat (first | exact Sub.nil | refine Sub.cons rfl ?_)))) (fun _ H => H) ?_
 rintro j (hj : j ≤ l.length)
 simp only [List.cons_append, List.nil_append]
 by_cases h : j < l.length
 ·obtain ⟨q, hq⟩ := hgs j h
  repeat' (first | refine h0u ?_ | refine h0g ?_ | refine h0q ?_ | refine h0y ?_ | refine h0p ?_ | refine h1c ?_ | refine h0s rfl ?_ | refine h0n rfl ?_ | (refine gR 4 (p_e (q_b (r:=by exact h1l q_o)) (h:=h0c ?_))) | (refine gR 5 (p_m (h:=p_e (by apply E_index; exact rfl; exact rfl; (focus (apply r_ixv Try.underlying122; kernel_rfl; kernel_rfl; exact sz_119; omega; omega; (with_reducible assumption)))) (h:=p_a (h:=p_a (h:=h0c ?_)))))) | (refine gR 6 (p_m (h:=p_e (q_b (r:=by exact h2r Try.underlying119)) (h:=h0c ?_)))) | (refine gR 9 ?_ <;> (try refine q_e (q_b (r:=by apply h0z; exact c_9; (focus (refine IntWalk.i64_in _ ?_; omega)))) ?_) <;> (try refine p_m (h:=h0c ?_))))
  exact h1p (j + 1) ⟨by omega, by omega⟩ (by (focus (repeat (first | exact Sub.nil | refine Sub.cons rfl ?_)))) c_32
 ·obtain rfl : j = l.length := by omega
  have hst' := hst nb
  repeat' (first | refine h0u ?_ | refine h0g ?_ | refine h2p ?_ | refine h1v ?_ | refine h2j ?_ | refine h0p ?_ | refine h1c ?_ | refine h2w ?_ | refine h0s rfl ?_ | (refine gR 4 (p_e (q_b (r:=by exact h1l q_o)) (h:=h0c ?_))) | (refine gR 5 (p_m (h:=p_e (by apply E_index; exact rfl; exact rfl; (focus (apply r_ixv Try.underlying122; kernel_rfl; kernel_rfl; exact sz_119; omega; omega; (with_reducible assumption)))) (h:=p_a (h:=p_a (h:=h0c ?_)))))) | (refine gR 6 (p_m (h:=p_e (q_b (r:=by exact h4w Try.underlying119)) (h:=h0c ?_)))) | (refine gR 7 (p_m (h:=p_m (h:=p_n (h:=p_e (q_f fo_124_0) (h:=q_e (by apply h0d; exact rfl; exact rfl; (focus (apply r_ixa Try.underlying122 sz_119; omega; omega; exact c_2))) ?_))))) <;> (try refine h0a ?_; (apply h0l (t:=119); exact rfl; exact rfl; exact h4d; exact rfl; exact rfl; kernel_rfl; (focus (omega)); exact h3o; (try simp only [List.set_cons_succ]); (try simp only [List.set_cons_zero]))) <;> (try refine h0c ?_)) | (refine gR 8 (p_m (h:=p_a (h:=p_a (h:=h0c ?_))))))
  (refine h2h Try.results20 (.tmp rfl (.tmp rfl .nil)) ?_)
  refine ⟨_, ⟨nb, rfl, rfl⟩, ?_⟩
  intro w H
  dsimp only at hst'
  rw [hst'] at H
  exact H.perm (List.Perm.swap _ _ _)
theorem fdfull_c {S w0 L} (f : Nat) (l : List SL) (k m n : Int) (h16 : l.length = 16) : Fn Try.prog 20 #[.pointer (some ⟨f, 0, none⟩), .agg (opA k m n)] S w0 (fdR f l :: L) fun v L' => v = .tuple #[.int .i64 0, .int .i64 24] ∧ fdR f l :: L = L' := by
 have hn := slV_len (Nat.le_of_eq h16)
 have hgs : ∀ j, (hj : j < 16) → ∃ q, (List.take 16 (slV l)).toArray.toList[((j : Nat) : Int).toNat]? = some (.pointer (some ⟨q, 0, none⟩)) := fun j hj => ⟨_, slV_ts (by omega) (slV_get (List.getElem?_eq_getElem (by omega)))⟩
 have hone := slV_one l
 unfold opA
 refine Fn2 Try.func20 Try.ntmps20 rfl rfl ?_
 repeat' (first | refine h0u ?_ | refine h0g ?_ | refine h0p ?_ | refine h1c ?_ | refine h0n rfl ?_ | (refine gR 0 ?_ <;> (try refine h0a ?_; (refine h4e (t:=79) rfl rfl ?_; intro nb hnb; (try simp only [Value.cells]))) <;> (try refine p_a (h:=p_a (h:=h0c ?_)))) | (refine gR 1 (p_m (h:=p_e (q_b (r:=by exact h2r Try.underlying69)) (h:=h0c ?_)))) | (refine gR 3 (p_m (h:=p_n (h:=p_e (q_f fo_124_0) (h:=p_e (by apply h1s (t:=122); exact rfl; exact h4d; kernel_rfl; kernel_rfl; exact sz_122; (focus (simp; omega)); exact c_31) (h:=p_m (h:=h0c ?_))))))))
 refine h3b (γ:=Nat) (fun j => j ≤ 16) (fun j => 16 - j) (fun j => [(14, .int .i64 (j : Nat))]) [(0, _), (3, _), (13, _)] (fun _ => opR ⟨nb, k, m, n⟩ :: fdR f l :: L) 0 (.cons rfl (.cons rfl (.cons rfl .nil))) (Nat.zero_le _) (by (focus (repeat (first | exact Sub.nil | refine Sub.cons rfl ?_)))) (fun _ H => H) ?_
 rintro j (hj : j ≤ 16)
 simp only [List.cons_append, List.nil_append]
 by_cases h : j < 16
 ·obtain ⟨q, hq⟩ := hgs j h
  repeat' (first | refine h0u ?_ | refine h0g ?_ | refine h0q ?_ | refine h0y ?_ | refine h0p ?_ | refine h1c ?_ | refine h0s rfl ?_ | refine h0n rfl ?_ | (refine gR 4 (p_e (q_b (r:=by exact h1l q_o)) (h:=h0c ?_))) | (refine gR 5 (p_m (h:=p_e (by apply E_index; exact rfl; exact rfl; (focus (apply r_ixv Try.underlying122; kernel_rfl; kernel_rfl; exact sz_119; omega; omega; (with_reducible assumption)))) (h:=p_a (h:=p_a (h:=h0c ?_)))))) | (refine gR 6 (p_m (h:=p_e (q_b (r:=by exact h2r Try.underlying119)) (h:=h0c ?_)))) | (refine gR 9 ?_ <;> (try refine q_e (q_b (r:=by apply h0z; exact c_9; (focus (refine IntWalk.i64_in _ ?_; omega)))) ?_) <;> (try refine p_m (h:=h0c ?_))))
  exact h1p (j + 1) ⟨by omega, by omega⟩ (by (focus (repeat (first | exact Sub.nil | refine Sub.cons rfl ?_)))) c_32
 ·obtain rfl : j = 16 := by omega
  repeat' (first | refine h0u ?_ | refine h0g ?_ | refine h1n ?_ | refine h0v ?_ | refine h1m ?_ | refine h2a ?_ | refine h2w ?_ | refine h0n rfl ?_ | (refine gR 4 (p_e (q_b (r:=by exact h1k q_o)) (h:=h0c ?_))) | (refine gR 10 (p_a (h:=p_a (h:=h0c ?_)))))
  (refine h2h Try.results20 (.tmp rfl (.tmp rfl .nil)) ?_)
  exact ⟨_, ⟨rfl, rfl⟩, by intro w H; refine Sel.out ?_ H; (try simp only [zzC, zzN]); repeat (first | exact Sel.refl _ | (apply Sel.cons; exact h4d; (try simp only [zzE, zzF])) | apply Sel.drop)⟩
theorem G_loop1 {P : Program} {n : Nat} {l : List (Nat × Value)} {S : List Nat} {w0 : World} {L : List Blk} {k : Kont} {c : Code} (h : G n l S w0 L (KC P c (.cut (fun _ _ => False) k))) : G n l S w0 L (KC P (.loop c) k) := by
 refine .mk fun a w hf H => ⟨?_⟩
 intro b k' cs
 obtain ⟨e, a₁, w₁, hq, harr⟩ := ((h.out a w hf H).out) b (.inLoop c :: k') cs
 have key : ∃ e a' w', k.den P e a' w' ∧ Arrives P (lone (b.at a (.code c :: .inLoop c :: k')) cs w) b k' cs e a' w' := by
  cases e with
  | normal => exact hq.elim
  | exit id => exact ⟨_, a₁, w₁, hq, .pass (x:=.inLoop c) rfl (fun _ _ => .inl (by simp)) harr⟩
  | goto l => exact ⟨_, a₁, w₁, hq, .pass (x:=.inLoop c) rfl (fun _ _ => .inl (by simp)) harr⟩
  | ret => exact ⟨_, a₁, w₁, hq, .pass (x:=.inLoop c) rfl (fun _ _ => .inl (by simp)) harr⟩
  | panic ch => exact ⟨_, a₁, w₁, hq, .pass (x:=.inLoop c) rfl (fun _ _ => .inl (by simp)) harr⟩
  | outgrown => exact ⟨_, a₁, w₁, hq, .pass (x:=.inLoop c) rfl (fun _ _ => .inl (by simp)) harr⟩
 obtain ⟨e, a', w', hq, harr⟩ := key
 exact ⟨e, a', w', hq, .of_steps (.one step_loop) harr⟩
def slO (a : Option Addr) (lo cap m : Nat) : Option Addr := if cap = lo then a else a.map (·.add (lo * m))
theorem Sli.cut {L : List Blk} {a : Option Addr} {len cap m lo hi : Nat} {cells : List Value} (h : Sli L a len m cells) (h1 : lo ≤ hi) (h2 : hi ≤ len) (h3 : len ≤ cap) : Sli L (slO a lo cap m) (hi - lo) m ((cells.drop (lo * m)).take ((hi - lo) * m)) := by
 have hlen := h.1
 have e1 : lo * m + (hi - lo) * m = hi * m := by rw [← Nat.add_mul]; congr 1; omega
 have e2 : hi * m ≤ len * m := Nat.mul_le_mul_right _ h2
 refine ⟨by rw [List.length_take, List.length_drop, hlen]; omega, ?_⟩
 by_cases hz : hi - lo = 0
 ·exact .inl hz
 ·rcases h.2 with h0 | ⟨i, q, b, off, cs, T, fr, rfl, hi', hsz, htk⟩
  ·omega
  ·refine .inr ⟨i, q, b, off + lo * m, cs, T, fr, ?_, hi', by omega, ?_⟩
   ·unfold slO
    rw [if_neg (by omega), Option.map_some]
    congr 1
    unfold Addr.add; split <;> simp_all
   ·subst htk
    rw [List.drop_take, List.drop_drop, List.take_take, Nat.min_eq_left (by omega)]
section
variable {P : Program} {t s : TypeId}
theorem r_slg {elem m len cap l' h' : Nat} {a : Option Addr} {lo hi : Option Value} (ht : P.underlying t = some (.slice elem)) (hm : (P.info? elem).map (·.size) = some m)
  (hb : ∀ w, (Instr.sliceBounds true len cap lo hi none).run P w = .ok (l', h', cap) w) : RSlc P t (.slice a len cap) lo hi none (.slice (slO a l' cap m) (h' - l') (cap - l')) := .mk fun w => by
 cases hi' : P.info? elem with
 | none => simp [hi'] at hm
 | some i =>
  have h2 : i.size = m := by simpa [hi'] using hm
  simp [Instr.sliceAt, Instr.slice, Sem.run_bind, run_underlying ht, hb, sizeOf, typeInfo, hi', h2, slO]
end
section
variable {P : Program} {n : Nat} {l : List (Nat × Value)} {S : List Nat} {w0 : World} {L : List Blk} {d : Tmp} {ty : TypeId} {pos : String} {af : Array Edge}
end
def SL.un (s : SL) : Int × Int × Int := (s.k, s.m, s.n)
theorem fdcopy_c {S w0} {L : List Blk} (i f : Nat) (l : List SL) (h16 : l.length ≤ 16) (hi : L[i]? = some (fdR f l)) (ho : ∀ s ∈ l, ∃ i : Nat, L[i]? = some (opR s)) : Fn Try.prog 31 #[.pointer (some ⟨f, 0, none⟩)] S w0 L fun v L' => ∃ nb l', v = .pointer (some ⟨nb, 0, none⟩) ∧ l'.map SL.un = l.map SL.un ∧ fdR nb l' :: (l'.map opR ++ L) = L' := by
 have hn := slV_len h16
 have hgn : ∀ j, l.length ≤ j → j < 16 → (List.take 16 (slV l)).toArray.toList[((j : Nat) : Int).toNat]? = some (.pointer none) := fun j h1 h2 => slV_ts (by omega) (slV_nil h1 h2)
 have hgs : ∀ j (hj : j < l.length), (List.take 16 (slV l)).toArray.toList[((j : Nat) : Int).toNat]? = some (.pointer (some ⟨l[j].q, 0, none⟩)) := fun j hj => slV_ts (by omega) (slV_get (List.getElem?_eq_getElem hj))
 have hone := slV_one l
 refine Fn1 Try.func31 Try.ntmps31 rfl rfl ?_
 repeat' (first | (refine h4g (id:=0) ?_) | refine h0u ?_ | refine h0g ?_ | refine h0s rfl ?_ | (refine gR 0 (p_a (h:=h0c ?_))) | (refine gR 1 ?_ <;> (try refine q_e (by exact h2o (t:=124) (fun vs => (match vs with | [] => [Value.pointer none, Value.pointer none, Value.pointer none, Value.pointer none, Value.pointer none, Value.pointer none, Value.pointer none, Value.pointer none, Value.pointer none, Value.pointer none, Value.pointer none, Value.pointer none, Value.pointer none, Value.pointer none, Value.pointer none, Value.pointer none] | _ => [])) rfl (fun w => by kernel_rfl)) ?_; (try simp only [Value.cells]); (try simp only [zzC, zzN])) <;> (try refine h0a ?_; (refine h4e (t:=124) rfl rfl ?_; intro nb hnb; (try simp only [Value.cells]))) <;> (try refine p_a (h:=h0c ?_))) | (refine gR 2 (p_m (h:=p_e (q_b (r:=by exact h5n Try.underlying69)) (h:=h0c ?_)))) | (refine gR 3 (p_m (h:=p_n (h:=p_e (q_f fo_124_0) (h:=p_e (by apply h1s (t:=122); exact rfl; exact c_24; kernel_rfl; kernel_rfl; exact sz_122; (focus (simp; omega)); exact c_31) (h:=p_m (h:=h0c ?_))))))))
 refine ⟨?_⟩
 obtain ⟨nbO, rfl⟩ : ∃ x, x = nb := ⟨_, rfl⟩
 refine h0p ?_
 refine h3b (γ:=Nat × List SL) (fun g => g.1 ≤ 16 ∧ g.2.map SL.un = (l.take g.1).map SL.un) (fun g => 16 - g.1) (fun g => [(15, .int .i64 (g.1 : Nat))]) [(3, _), (14, _)] (fun g => fdR nbO g.2 :: (g.2.map opR ++ L)) (0, []) (.cons rfl (.cons rfl .nil)) ⟨by omega, by simp⟩ (by (focus (repeat (first | exact Sub.nil | refine Sub.cons rfl ?_)))) (fun _ H => H) ?_
 rintro ⟨j, l'⟩ ⟨hj, hun⟩
 dsimp only at hj hun ⊢
 simp only [List.cons_append, List.nil_append]
 have hll : l'.length = min j l.length := by have := congrArg List.length hun; simpa using this
 have hn' := slV_len (l:=l') (by omega)
 have hone' := slV_one l'
 by_cases h : j < 16
 ·by_cases hjl : j < l.length
  ·have hg := hgs j hjl
   obtain ⟨i', hi'⟩ := ho _ (List.getElem_mem hjl)
   have hun' : ∀ q : Nat, (l' ++ [(⟨q, l[j].k, l[j].m, l[j].n⟩ : SL)]).map SL.un = (l.take (j + 1)).map SL.un := fun q => by
    rw [List.map_append, hun, List.take_succ_eq_append_getElem hjl, List.map_append]; rfl
   have hst := fun q => slV_set (l:=l') (s:=⟨q, l[j].k, l[j].m, l[j].n⟩) (by omega)
   have hlj : l'.length = j := by omega
   rw [hlj] at hst
   generalize l[j] = s at *
   obtain ⟨sq, sk, sm, sn⟩ := s
   dsimp only at *
   repeat' (first | refine h0u ?_ | refine h0g ?_ | refine h0q ?_ | refine h0y ?_ | refine h0p ?_ | refine h1c ?_ | refine h0s rfl ?_ | (refine gR 4 (p_e (q_b (r:=by exact h1l q_o)) (h:=h0c ?_))) | (refine gR 5 (p_m (h:=p_e (by apply E_index; exact rfl; exact rfl; (focus (apply r_ixv Try.underlying122; kernel_rfl; kernel_rfl; exact sz_119; omega; omega; (with_reducible assumption)))) (h:=p_a (h:=p_a (h:=h0c ?_)))))) | (refine gR 6 (p_m (h:=p_e (q_b (r:=by exact h5n Try.underlying119)) (h:=h0c ?_)))) | (refine gR 7 (p_m (h:=p_n (h:=q_e (by apply h1s (t:=79); exact rfl; (focus (repeat (first | (with_reducible assumption) | apply fdA | apply fdS))); kernel_rfl; kernel_rfl; exact sz_79; exact Nat.le_of_ble_eq_true rfl; exact c_31) ?_))) <;> (try refine h0a ?_; (refine h2b (t:=79) rfl Try.zeroValue79 ?_; intro nb hnb; (try simp only [Value.cells]))) <;> (try refine h0a ?_; (refine q_W ?_)) <;> (try refine h0c ?_)) | (refine gR 8 (p_m (h:=p_m (h:=p_n (h:=p_e (q_f fo_124_0) (h:=q_e (by apply h0d; exact rfl; exact rfl; (focus (apply r_ixa Try.underlying122 sz_119; omega; omega; exact c_2))) ?_))))) <;> (try refine h0a ?_; (apply h0l (t:=119); exact rfl; exact rfl; exact h4d; exact rfl; exact rfl; kernel_rfl; (focus (omega)); exact h3o; (try simp only [List.set_cons_succ]); (try simp only [List.set_cons_zero]))) <;> (try refine h0c ?_)) | (refine gR 9 ?_ <;> (try refine q_e (q_b (r:=by apply h0z; exact c_9; (focus (refine IntWalk.i64_in _ ?_; omega)))) ?_) <;> (try refine p_m (h:=h0c ?_))))
   refine h1p (j + 1, l' ++ [⟨nb, sk, sm, sn⟩]) ⟨⟨by dsimp only; omega, hun' _⟩, by dsimp only; omega⟩ (by (focus (repeat (first | exact Sub.nil | refine Sub.cons rfl ?_)))) ?_
   intro w H
   have e := hst nb
   rw [e] at H
   rw [List.map_append, List.append_assoc]
   exact (H.perm (List.Perm.swap _ _ _)).perm ((List.perm_middle (l₁:=l'.map opR)).symm.cons _)
  ·have hg := hgn j (by omega) h
   repeat' (first | refine h0u ?_ | refine h0g ?_ | refine h0q ?_ | refine h0y ?_ | refine h0p ?_ | refine h1c ?_ | refine h0s rfl ?_ | refine h0n rfl ?_ | (refine gR 4 (p_e (q_b (r:=by exact h1l q_o)) (h:=h0c ?_))) | (refine gR 5 (p_m (h:=p_e (by apply E_index; exact rfl; exact rfl; (focus (apply r_ixv Try.underlying122; kernel_rfl; kernel_rfl; exact sz_119; omega; omega; (with_reducible assumption)))) (h:=p_a (h:=p_a (h:=h0c ?_)))))) | (refine gR 6 (p_m (h:=p_e (q_b (r:=by exact rb_pne_nn Try.underlying119)) (h:=h0c ?_)))) | (refine gR 9 ?_ <;> (try refine q_e (q_b (r:=by apply h0z; exact c_9; (focus (refine IntWalk.i64_in _ ?_; omega)))) ?_) <;> (try refine p_m (h:=h0c ?_))))
   refine h1p (j + 1, l') ⟨⟨by dsimp only; omega, ?_⟩, by dsimp only; omega⟩ (by (focus (repeat (first | exact Sub.nil | refine Sub.cons rfl ?_)))) c_32
   dsimp only
   rw [hun, List.take_of_length_le (by omega), List.take_of_length_le (by omega)]
 ·obtain rfl : j = 16 := by omega
  rw [List.take_of_length_le (by omega)] at hun
  repeat' (first | refine h0u ?_ | refine h0g ?_ | refine h1n ?_ | refine h0v ?_ | refine h1m ?_ | refine h2a ?_ | refine h2w ?_ | refine h0n rfl ?_ | (refine gR 4 (p_e (q_b (r:=by exact h1k q_o)) (h:=h0c ?_))) | (refine gR 10 (p_m (h:=p_a (h:=h0c ?_)))))
  (refine h2h Try.results31 (.tmp rfl .nil) ?_)
  exact ⟨_, ⟨nbO, l', rfl, hun, rfl⟩, fun _ H => H⟩
theorem cloneF_nil {S w0 L} : Fn Try.prog 32 #[.slice none 0 0] S w0 L fun v L' => v = .slice none 0 0 ∧ L = L' := by
 refine Fn1 Try.func32 Try.ntmps32 rfl rfl ?_
 repeat' (first | refine h0u ?_ | refine h0g ?_ | refine h1v ?_ | refine h2w ?_ | refine h0s rfl ?_ | (refine gR 0 (p_a (h:=h0c ?_))) | (refine gR 1 (p_m (h:=p_e (q_b (r:=by exact rb_sleq_nn Try.underlying70)) (h:=h0c ?_)))) | (refine gR 2 (p_a (h:=h0c ?_))))
 (refine h2h Try.results32 (.tmp rfl .nil) ?_)
 exact ⟨_, ⟨rfl, rfl⟩, by intro w H; refine H.sub ?_; (try simp only [zzC, zzN]); repeat (exact List.Sublist.refl _)⟩
theorem ptr_one (l : List (Nat × Int)) : (l.map fun f => Value.pointer (some ⟨f.1, 0, none⟩)).all (·.oneCell') = true := by
 induction l with
 | nil => rfl
 | cons s l ih => rw [List.map_cons, List.all_cons, ih]; rfl
def pF (l : List (Nat × Int)) : List Value := l.map fun f => .pointer (some ⟨f.1, 0, none⟩)
theorem cloneF_c {S w0} {L : List Blk} (g cap : Nat) (fs : List (Nat × Int)) (h16 : fs.length ≤ 16) (h0 : 0 < fs.length) (hs : Sli L (some ⟨g, 0, none⟩) fs.length 1 (pF fs)) : Fn Try.prog 32 #[.slice (some ⟨g, 0, none⟩) fs.length cap] S w0 L fun v L' => ∃ e, Own 36 1 v fs.length (pF fs) e ∧ e ++ L = L' := by
 have hone : (pF fs).all (·.oneCell') = true := ptr_one fs
 obtain ⟨i, q, b, off, cs, T, fr, hb, hi, hsz, htk⟩ := hs.some h0
 injection hb with hb
 injection hb with hb1 hb2
 subst hb1 hb2
 refine Fn1 Try.func32 Try.ntmps32 rfl rfl ?_
 repeat' (first | refine h0u ?_ | refine h0g ?_ | refine h1c ?_ | refine h2w ?_ | refine h0n rfl ?_ | (refine gR 0 (p_a (h:=h0c ?_))) | (refine gR 1 (p_m (h:=p_e (q_b (r:=by exact rb_sleq_sn Try.underlying70)) (h:=h0c ?_)))) | (refine gR 3 ?_ <;> (try refine h0a ?_; (refine h1z (t:=70) (m:=0) (e:=36) (fun vs => (match vs with | [] => [] | _ => [])) rfl rfl (fun w => by kernel_rfl) ?_; intro nb hnb; (try simp only [Value.cells]); (try simp only [zzC, zzN]))) <;> (try refine q_m ?_) <;> (try refine h0a ?_; (apply K1_appendB; exact rfl; exact Try.underlying70; exact inf_36_i; exact inf_36_z; exact inf_36_s; exact inf_36_b; exact rfl; exact rfl; exact rfl; exact fd0; exact Nat.le_of_ble_eq_true rfl; exact Nat.le_of_ble_eq_true rfl; exact rfl; exact c_24; (with_reducible assumption); (with_reducible assumption); (with_reducible assumption); exact c_30; omega; exact rfl; exact c_21; exact c_7; (try simp only [zzE, zzF]); intro vA eA hownA)) <;> (try refine p_a (h:=h0c ?_))))
 (refine h2h Try.results32 (.tmp rfl .nil) ?_)
 exact ⟨_, ⟨_, hownA, rfl⟩, by intro w H; refine Sel.out ?_ H; (try simp only [zzC, zzN]); repeat (exact Sel.refl _)⟩
section
variable {P : Program} {n : Nat} {l : List (Nat × Value)} {S : List Nat} {w0 : World} {L : List Blk} {K : Act → World → Prop} {kt : Kont}
theorem G_regionHp {id m : Nat} {os : List Oper} {pre T : List Blk} (hb : pre ++ T = L) (hm : P.follows .mixedOrders = true) (hl : os.length = m) (h : G n l S w0 L (KH P S w0 pre os.toArray kt m (Array.replicate m false))) : G n l S w0 L (KC P (.region id os.toArray true) kt) := .mk fun a w hf H => by
 subst hl
 have _ := hb
 exact ⟨wp_region_held hm (by simpa using (h.out a _ hf H.drew).out)⟩
end
inductive Pull (e : List Blk) : List Blk → List Blk → Prop
 | here (R : List Blk) : Pull e (e ++ R) R
 | cons {x : Blk} {L L' : List Blk} (h : Pull e L L') : Pull e (x :: L) (x :: L')
 | app {f L L' : List Blk} (h : Pull e L L') : Pull e (f ++ L) (f ++ L')
inductive PullB (e : Blk) : List Blk → List Blk → Prop
 | here (R : List Blk) : PullB e (e :: R) R
 | cons {x : Blk} {L L' : List Blk} (h : PullB e L L') : PullB e (x :: L) (x :: L')
 | app {f L L' : List Blk} (h : PullB e L L') : PullB e (f ++ L) (f ++ L')
theorem Pull.perm {e L L' : List Blk} (h : Pull e L L') : L.Perm (e ++ L') := by
 induction h with
 | here R => exact .refl _
 | cons h ih => exact (ih.cons _).trans List.perm_middle.symm
 | app h ih => exact (ih.append_left _).trans (List.perm_append_comm_assoc _ _ _)
theorem PullB.perm {e : Blk} {L L' : List Blk} (h : PullB e L L') : L.Perm (e :: L') := by
 induction h with
 | here R => exact .refl _
 | cons h ih => exact (ih.cons _).trans (List.Perm.swap ..)
 | app h ih => exact (ih.append_left _).trans List.perm_middle
theorem Sel.appP {e L L1 L' : List Blk} (h : Pull e L L1) (h2 : Sel L1 L') : Sel L (e ++ L') := let ⟨M, h3, h4⟩ := h2; ⟨e ++ M, h.perm.trans (h3.append_left e), h4.append_left e⟩
theorem Sel.consP {e : Blk} {L L1 L' : List Blk} (h : PullB e L L1) (h2 : Sel L1 L') : Sel L (e :: L') := let ⟨M, h3, h4⟩ := h2; ⟨e :: M, h.perm.trans (h3.cons e), h4.cons_cons e⟩
theorem Sel.consS {e : Blk} {L L' : List Blk} (h2 : Sel L L') : Sel (e :: L) (e :: L') := let ⟨M, h3, h4⟩ := h2; ⟨e :: M, h3.cons e, h4.cons_cons e⟩
theorem Sel.appS {e L L' : List Blk} (h : Sel L L') : Sel (e ++ L) (e ++ L') := let ⟨M, h3, h4⟩ := h; ⟨e ++ M, h3.append_left e, h4.append_left e⟩
abbrev tkW (p f : Nat) (id par m n : Int) (fv : Value) : Blk := ⟨true, p, .cells #[.int .u8 id, .int .u8 par, .int .i64 m, .int .u16 n, .pointer (some ⟨f, 0, none⟩), .bool false, fv, .pointer none] 73 (0, 0)⟩
theorem sink_perm {r p : Blk} {D X : List Blk} : (r :: p :: (D ++ X)).Perm (p :: (D ++ (r :: X))) := (List.Perm.swap p r _).trans (.cons _ (List.perm_middle (l₁:=D) (l₂:=X) (a:=r)).symm)
theorem sink_perm2 {r t p : Blk} {D X : List Blk} : (r :: t :: p :: (D ++ X)).Perm (p :: (D ++ (r :: t :: X))) := (sink_perm.cons r).trans sink_perm
theorem filter_nil {S w0} {L : List Blk} (x : Option Addr) : Fn Try.prog 16 #[.pointer x, .pointer none] S w0 L fun v L' => v = .int .i64 201 ∧ L = L' := by
 cases x
 all_goals
  refine Fn2 Try.func16 Try.ntmps16 rfl rfl ?_
  repeat' (first | refine h0u ?_ | refine h0g ?_ | refine h1v ?_ | refine h2j ?_ | refine h0p ?_ | refine h2w ?_ | refine h0s rfl ?_ | (refine gR 0 (p_a (h:=h0c ?_))) | (refine gR 1 (p_m (h:=p_e (by exact q_b (r:=by first | exact h2r Try.underlying29 | exact h4w Try.underlying29)) (h:=q_m ?_))) <;> (try refine h0a ?_; (first | refine h2x rfl rfl rfl rfl ?_ | (refine h1y rfl rfl rfl ?_; (refine q_k (h0b rfl) ?_)))) <;> (try refine h0a ?_; (first | refine h2x rfl rfl rfl rfl ?_ | (refine h1y rfl rfl rfl ?_; (refine q_k (q_b (r:=by exact h4w Try.underlying36)) ?_)))) <;> (try refine p_p (h:=p_a (h:=h0c ?_)))) | (refine gR 2 (p_a (h:=h0c ?_))))
  (refine h2h Try.results16 (.tmp rfl .nil) ?_)
  exact ⟨_, ⟨rfl, rfl⟩, fun _ H => H⟩
theorem filter_full {S w0} {L : List Blk} (p f : Nat) (id par m n : Int) (a q : Addr) (cap : Nat) (i : Nat) (hi : L[i]? = some (tkW p f id par m n (.slice (some a) 16 cap))) : Fn Try.prog 16 #[.pointer (some ⟨p, 0, none⟩), .pointer (some q)] S w0 L fun v L' => v = .int .i64 27 ∧ L = L' := by
 refine Fn2 Try.func16 Try.ntmps16 rfl rfl ?_
 repeat' (first | refine h0u ?_ | refine h0g ?_ | refine h1v ?_ | refine h2j ?_ | refine h0p ?_ | refine h2w ?_ | refine h0s rfl ?_ | refine h0n rfl ?_ | (refine gR 0 (p_a (h:=h0c ?_))) | (refine gR 1 (p_m (h:=p_e (q_b (r:=by exact h2r Try.underlying29)) (h:=p_m (h:=p_y (h0b rfl) (h:=p_y (q_b (r:=by exact h2r Try.underlying36)) (h:=p_p (h:=p_a (h:=h0c ?_))))))))) | (refine gR 3 (p_m (h:=p_n (h:=p_e (q_f h5b) (h:=p_e (by apply h0f (t:=70); exact rfl; exact c_28; kernel_rfl; kernel_rfl; exact rfl) (h:=p_e (by apply h0r; exact rfl; exact (fun _ => BigFrame.builtin_len ..); apply h0k Try.underlying70; exact h4h) (h:=p_e (q_b (r:=by exact h3q q_o)) (h:=p_a (h:=h0c ?_))))))))) | (refine gR 4 (p_a (h:=h0c ?_))))
 (refine h2h Try.results16 (.tmp rfl .nil) ?_)
 exact ⟨_, ⟨rfl, rfl⟩, fun _ H => H⟩
theorem filter_one {S w0} {L : List Blk} (p f : Nat) (id par m n : Int) (q : Nat) : Fn Try.prog 16 #[.pointer (some ⟨p, 0, none⟩), .pointer (some ⟨q, 0, none⟩)] S w0 (tkW p f id par m n (.slice none 0 0) :: L) fun v L' => ∃ v' e, v = .int .i64 0 ∧ Own 36 1 v' 1 [.pointer (some ⟨q, 0, none⟩)] e ∧ tkW p f id par m n v' :: (e ++ L) = L' := by
 refine Fn2 Try.func16 Try.ntmps16 rfl rfl ?_
 repeat' (first | refine h0u ?_ | refine h0g ?_ | refine h0y ?_ | refine h0p ?_ | refine h1c ?_ | refine h0n rfl ?_ | (refine gR 0 (p_a (h:=h0c ?_))) | (refine gR 1 (p_m (h:=p_e (q_b (r:=by exact h2r Try.underlying29)) (h:=p_m (h:=p_y (h0b rfl) (h:=p_y (q_b (r:=by exact h2r Try.underlying36)) (h:=p_p (h:=p_a (h:=h0c ?_))))))))) | (refine gR 3 (p_m (h:=p_n (h:=p_e (q_f h5b) (h:=p_e q_l (h:=p_e (by apply h0r; exact rfl; exact (fun _ => BigFrame.builtin_len ..); apply h0k Try.underlying70; exact h4h) (h:=p_e (q_b (r:=by exact h3c q_o)) (h:=p_a (h:=h0c ?_))))))))) | (refine gR 5 (p_m (h:=p_m (h:=p_n (h:=p_e (q_f h5b) (h:=q_e q_l ?_))))) <;> (try refine h0a ?_; (refine h0w (F:=32) (by kernel_rfl) rfl rfl cloneF_nil ?_; rintro _ _ ⟨rfl, rfl⟩)) <;> (try refine q_m ?_) <;> (try refine h0a ?_; (refine h1z (t:=70) (m:=1) (e:=36) (fun vs => (match vs with | [(_, x0)] => [x0] | _ => [])) rfl rfl (fun w => by kernel_rfl) ?_; intro nb hnb; (try simp only [Value.cells]); (try simp only [zzC, zzN]))) <;> (try refine h0a ?_; (apply h4k; exact rfl; exact Try.underlying70; exact inf_36_i; exact inf_36_z; exact inf_36_s; exact inf_36_b; exact rfl; exact rfl; exact rfl; exact Own.nil _ _; exact fd0; exact Nat.le_of_ble_eq_true rfl; exact c_31; exact rfl; exact c_30; omega; (exact fun _ H => H); exact rfl; exact c_21; exact c_7; intro vA eA hownA)) <;> (try refine p_n (h:=q_e (q_f h5b) ?_)) <;> (try refine h0a ?_; fail) <;> (try refine h0c ?_)))
 obtain ⟨aA, cA, rfl, hsA⟩ := hownA.sli []
 clear hsA
 refine h3e (L' := tkW p f id par m n (.slice none 0 0) :: (eA ++ L)) (by intro w H; refine Sel.out ?_ H; (try dsimp only); (try simp only [List.cons_append, List.nil_append, List.append_assoc]); with_reducible repeat (first | exact Sel.refl _ | exact Sel.nil _ | apply Sel.appS | apply Sel.consS | (apply Sel.appP; (focus ((repeat (first | exact Pull.here _ | apply Pull.cons | apply Pull.app)); done))) | (apply Sel.consP; (focus ((repeat (first | exact PullB.here _ | apply PullB.cons | apply PullB.app)); done))) | apply Sel.drop | apply Sel.dropA)) ?_
 refine h0a ?_
 (refine q_S ?_)
 repeat' (first | refine h0u ?_ | refine h0c ?_ | refine h0g ?_ | refine h2w ?_ | (refine gR 6 (p_a (h:=h0c ?_))))
 (refine h2h Try.results16 (.tmp rfl .nil) ?_)
 exact ⟨_, ⟨_, eA, rfl, hownA, rfl⟩, by intro w H; refine Sel.out ?_ H; (try dsimp only); (try simp only [List.cons_append, List.nil_append, List.append_assoc]); with_reducible repeat (first | exact Sel.refl _ | exact Sel.nil _ | apply Sel.appS | apply Sel.consS | (apply Sel.appP; (focus ((repeat (first | exact Pull.here _ | apply Pull.cons | apply Pull.app)); done))) | (apply Sel.consP; (focus ((repeat (first | exact PullB.here _ | apply PullB.cons | apply PullB.app)); done))) | apply Sel.drop | apply Sel.dropA)⟩
theorem filter_more {S w0} {L : List Blk} (p f : Nat) (id par m n : Int) (g cap : Nat) (fs : List (Nat × Int)) (h16 : fs.length < 16) (h0 : 0 < fs.length) (hs : Sli L (some ⟨g, 0, none⟩) fs.length 1 (pF fs)) (q : Nat) : Fn Try.prog 16 #[.pointer (some ⟨p, 0, none⟩), .pointer (some ⟨q, 0, none⟩)] S w0 (tkW p f id par m n (.slice (some ⟨g, 0, none⟩) fs.length cap) :: L) fun v L' => ∃ v' e, v = .int .i64 0 ∧ Own 36 1 v' (fs.length + 1) (pF fs ++ [.pointer (some ⟨q, 0, none⟩)]) e ∧ tkW p f id par m n v' :: (e ++ L) = L' := by
 have hcl := cloneF_c (S:=S) (w0:=w0) (L:=tkW p f id par m n (.slice (some ⟨g, 0, none⟩) fs.length cap) :: L) g cap fs (by omega) h0 (hs.up _)
 refine Fn2 Try.func16 Try.ntmps16 rfl rfl ?_
 repeat' (first | refine h0u ?_ | refine h0g ?_ | refine h0y ?_ | refine h0p ?_ | refine h1c ?_ | refine h0n rfl ?_ | (refine gR 0 (p_a (h:=h0c ?_))) | (refine gR 1 (p_m (h:=p_e (q_b (r:=by exact h2r Try.underlying29)) (h:=p_m (h:=p_y (h0b rfl) (h:=p_y (q_b (r:=by exact h2r Try.underlying36)) (h:=p_p (h:=p_a (h:=h0c ?_))))))))) | (refine gR 3 (p_m (h:=p_n (h:=p_e (q_f h5b) (h:=p_e q_l (h:=p_e (by apply h0r; exact rfl; exact (fun _ => BigFrame.builtin_len ..); apply h0k Try.underlying70; exact h4h) (h:=p_e (q_b (r:=by exact h3c q_o)) (h:=p_a (h:=h0c ?_))))))))) | (refine gR 5 (p_m (h:=p_m (h:=p_n (h:=p_e (q_f h5b) (h:=q_e q_l ?_))))) <;> (try refine h0a ?_; (refine h0w (F:=32) (by kernel_rfl) rfl rfl hcl ?_; rintro _ _ ⟨e, hown, rfl⟩)) <;> (try refine q_m ?_) <;> (try refine h0a ?_; (refine h1z (t:=70) (m:=1) (e:=36) (fun vs => (match vs with | [(_, x0)] => [x0] | _ => [])) rfl rfl (fun w => by kernel_rfl) ?_; intro nb hnb; (try simp only [Value.cells]); (try simp only [zzC, zzN]))) <;> (try refine h0a ?_; (apply h4k; exact rfl; exact Try.underlying70; exact inf_36_i; exact inf_36_z; exact inf_36_s; exact inf_36_b; exact rfl; exact rfl; exact rfl; (with_reducible assumption); exact fd0; exact Nat.le_of_ble_eq_true rfl; exact c_31; exact rfl; exact c_30; omega; exact c_23; exact rfl; exact c_21; exact c_7; intro vA eA hownA)) <;> (try refine p_n (h:=q_e (q_f h5b) ?_)) <;> (try refine h0a ?_; fail) <;> (try refine h0c ?_)))
 obtain ⟨aA, cA, rfl, hsA⟩ := hownA.sli []
 clear hsA
 refine h3e (L' := tkW p f id par m n (.slice (some ⟨g, 0, none⟩) fs.length cap) :: (eA ++ L)) (by intro w H; refine Sel.out ?_ H; (try dsimp only); (try simp only [List.cons_append, List.nil_append, List.append_assoc]); with_reducible repeat (first | exact Sel.refl _ | exact Sel.nil _ | apply Sel.appS | apply Sel.consS | (apply Sel.appP; (focus ((repeat (first | exact Pull.here _ | apply Pull.cons | apply Pull.app)); done))) | (apply Sel.consP; (focus ((repeat (first | exact PullB.here _ | apply PullB.cons | apply PullB.app)); done))) | apply Sel.drop | apply Sel.dropA)) ?_
 refine h0a ?_
 (refine q_S ?_)
 repeat' (first | refine h0u ?_ | refine h0c ?_ | refine h0g ?_ | refine h2w ?_ | (refine gR 6 (p_a (h:=h0c ?_))))
 (refine h2h Try.results16 (.tmp rfl .nil) ?_)
 exact ⟨_, ⟨_, eA, rfl, hownA, rfl⟩, by intro w H; refine Sel.out ?_ H; (try dsimp only); (try simp only [List.cons_append, List.nil_append, List.append_assoc]); with_reducible repeat (first | exact Sel.refl _ | exact Sel.nil _ | apply Sel.appS | apply Sel.consS | (apply Sel.appP; (focus ((repeat (first | exact Pull.here _ | apply Pull.cons | apply Pull.app)); done))) | (apply Sel.consP; (focus ((repeat (first | exact PullB.here _ | apply PullB.cons | apply PullB.app)); done))) | apply Sel.drop | apply Sel.dropA)⟩
theorem asks_none {S w0} {L : List Blk} (p f : Nat) (id par m n : Int) (i : Nat) (hi : L[i]? = some (tkW p f id par m n (.slice none 0 0))) (r : Rec) (hr : r.ok) : Fn Try.prog 17 #[.pointer (some ⟨p, 0, none⟩), .agg r.cells.toArray] S w0 L fun v L' => v = .int .u32 2147418112 ∧ L = L' := by
 have hr9 := rec_cells hr
 have hs9 := rec_size hr
 refine Fn2 Try.func17 Try.ntmps17 rfl rfl ?_
 repeat' (first | refine h0u ?_ | refine h0g ?_ | refine h1c ?_ | refine h2w ?_ | refine h0n rfl ?_ | (refine gR 0 ?_ <;> (try refine h0a ?_; (refine h4e (t:=26) rfl rfl ?_; intro nb hnb; (try simp only [Value.cells]))) <;> (try refine p_a (h:=h0c ?_))) | (refine gR 1 (p_m (h:=p_e (q_b (r:=by exact h2r Try.underlying29)) (h:=h0c ?_)))) | ((refine h1u (id:=3) (m:=7) (by kernel_rfl) rfl (q_u 0 (x:=by exact h0b rfl) (h:=q_u 1 (x:=by exact h0i rfl) (h:=q_u 2 (x:=by exact q_f h5b) (h:=q_u 3 (x:=by apply h0f (t:=70); exact rfl; exact c_24; kernel_rfl; kernel_rfl; exact rfl) (h:=q_u 4 (x:=by apply h1s (t:=26); exact rfl; exact fd0; kernel_rfl; kernel_rfl; exact sz_26; (with_reducible assumption); (with_reducible assumption)) (h:=?_))))))) <;> (try refine q_r 5 ?_; (refine h0w (F:=37) (by kernel_rfl) rfl rfl (allNil_c r) ?_; rintro _ _ ⟨rfl, rfl⟩); refine h2e (fun _ H => H) ?_) <;> (try refine q_u 6 (x:=by exact h0e rfl) (h:=h1o (by kernel_rfl) ?_))))
 (refine h2h Try.results17 (.tmp rfl .nil) ?_)
 exact ⟨_, ⟨rfl, rfl⟩, by intro w H; refine Sel.out ?_ H; (try simp only [zzC, zzN]); repeat (first | exact Sel.refl _ | apply Sel.drop)⟩
theorem asks_c {S w0} {L : List Blk} (p f : Nat) (id par m n : Int) (fs : List FE) (hf : ∀ f ∈ fs, f.ok) (r : Rec) (hr : r.ok) (gp capP : Nat) (curP : Array Value) (hlen : fs.length ≤ 100) (hp : ∀ j (h : j < fs.length), curP.toList[fs.length - 1 - j]? = some (fs[j]).p) (hcs : fs.length ≤ curP.size) :
  Fn Try.prog 17 #[.pointer (some ⟨p, 0, none⟩), .agg r.cells.toArray] S w0 (tkW p f id par m n (.slice (some ⟨gp, 0, none⟩) fs.length capP) :: ⟨true, gp, .cells curP 36 (0, 0)⟩ :: (h4r fs ++ L)) fun v L' =>
   v = .int .u32 (allGo fs) ∧ tkW p f id par m n (.slice (some ⟨gp, 0, none⟩) fs.length capP) :: ⟨true, gp, .cells curP 36 (0, 0)⟩ :: (h4r (fs.map FE.run) ++ L) = L' := by
 have hr9 := rec_cells hr
 have hs9 := rec_size hr
 have hall := fun (M : List Blk) => all_fn (S:=S) (w0:=w0) (L:=M) fs hf r hr gp capP curP hlen hp hcs
 have hall2 : ∀ nb : Nat, Fn Try.prog 37 #[.slice (some ⟨gp, 0, none⟩) fs.length capP, .agg r.cells.toArray] S w0 (⟨true, nb, .cells r.cells.toArray 26 (0, 0)⟩ :: tkW p f id par m n (.slice (some ⟨gp, 0, none⟩) fs.length capP) :: ⟨true, gp, .cells curP 36 (0, 0)⟩ :: (h4r fs ++ L)) fun v L' => v = .int .u32 (allGo fs) ∧ ⟨true, nb, .cells r.cells.toArray 26 (0, 0)⟩ :: tkW p f id par m n (.slice (some ⟨gp, 0, none⟩) fs.length capP) :: ⟨true, gp, .cells curP 36 (0, 0)⟩ :: (h4r (fs.map FE.run) ++ L) = L' := fun nb => Fn.mono (.mk fun w H => (hall (⟨true, nb, .cells r.cells.toArray 26 (0, 0)⟩ :: tkW p f id par m n (.slice (some ⟨gp, 0, none⟩) fs.length capP) :: L)).out w (H.perm sink_perm2)) (by rintro v _ ⟨h, rfl⟩; exact ⟨_, ⟨h, rfl⟩, fun w H => H.perm sink_perm2.symm⟩)
 clear hall
 refine Fn2 Try.func17 Try.ntmps17 rfl rfl ?_
 repeat' (first | refine h0u ?_ | refine h0g ?_ | refine h1c ?_ | refine h2w ?_ | refine h0n rfl ?_ | (refine gR 0 ?_ <;> (try refine h0a ?_; (refine h4e (t:=26) rfl rfl ?_; intro nb hnb; (try simp only [Value.cells]))) <;> (try refine p_a (h:=h0c ?_))) | (refine gR 1 (p_m (h:=p_e (q_b (r:=by exact h2r Try.underlying29)) (h:=h0c ?_)))) | ((refine G_regionHp (pre:=[_, _]) (id:=3) (m:=7) rfl (by kernel_rfl) rfl (q_t 0 (e:=h5h) (x:=by exact h0b rfl) (h:=q_t 1 (e:=h5h) (x:=by exact h0i rfl) (h:=q_t 2 (e:=h5h) (x:=by exact q_f h5b) (h:=q_t 3 (e:=h5h) (x:=by apply h0f (t:=70); exact rfl; exact h4d; kernel_rfl; kernel_rfl; exact rfl) (h:=q_t 4 (e:=h5h) (x:=by apply h1s (t:=26); exact rfl; exact fd0; kernel_rfl; kernel_rfl; exact sz_26; (with_reducible assumption); (with_reducible assumption)) (h:=?_))))))) <;> (try refine q_r 5 ?_; (refine h0w (F:=37) (by kernel_rfl) rfl rfl (hall2 _) ?_; rintro _ _ ⟨rfl, rfl⟩); refine h2e h5h ?_) <;> (try refine q_t 6 (e:=h5h) (x:=by exact h0e rfl) (h:=h1o (by kernel_rfl) ?_))))
 (refine h2h Try.results17 (.tmp rfl .nil) ?_)
 exact ⟨_, ⟨rfl, rfl⟩, fun w H => H.tail⟩
def FOwn (v : Value) (fs : List (Nat × Int)) (e : List Blk) : Prop := (fs = [] ∧ v = .slice none 0 0 ∧ e = []) ∨ (0 < fs.length ∧ Own 36 1 v fs.length (pF fs) e)
def FOk (L : List Blk) (v : Value) (fs : List (Nat × Int)) : Prop := (fs = [] ∧ v = .slice none 0 0) ∨ ∃ g cap, v = .slice (some ⟨g, 0, none⟩) fs.length cap ∧ 0 < fs.length ∧ Sli L (some ⟨g, 0, none⟩) fs.length 1 (pF fs)
theorem FOwn.ok {v : Value} {fs : List (Nat × Int)} {e : List Blk} (h : FOwn v fs e) (L : List Blk) : FOk (e ++ L) v fs := by
 rcases h with ⟨h1, h2, h3⟩ | ⟨h1, h2⟩
 ·exact .inl ⟨h1, h2⟩
 ·obtain ⟨a, cap, rfl, hs⟩ := h2.sli L
  rcases own_cases h2 with ⟨_, h5, _, _⟩ | ⟨g, cap', cur, h3, h4, _⟩
  ·omega
  ·injection h3 with h3 h6 h7
   subst h3 h7
   exact .inr ⟨g, cap, rfl, h1, hs⟩
theorem FOk.up {L : List Blk} {v : Value} {fs : List (Nat × Int)} (h : FOk L v fs) (x : Blk) : FOk (x :: L) v fs := by
 rcases h with h | ⟨g, cap, h1, h2, h3⟩
 ·exact .inl h
 ·exact .inr ⟨g, cap, h1, h2, h3.up x⟩
theorem FOk.upA {L : List Blk} {v : Value} {fs : List (Nat × Int)} (h : FOk L v fs) (e : List Blk) : FOk (e ++ L) v fs := by
 rcases h with h | ⟨g, cap, h1, h2, h3⟩
 ·exact .inl h
 ·exact .inr ⟨g, cap, h1, h2, h3.upA e⟩
theorem FOk.sl {L : List Blk} {v : Value} {fs : List (Nat × Int)} (h : FOk L v fs) : ∃ a cap, v = .slice a fs.length cap := by
 rcases h with ⟨rfl, h⟩ | ⟨g, cap, h1, h2, h3⟩
 ·exact ⟨none, 0, h⟩
 ·exact ⟨_, _, h1⟩
theorem FOwn.sl {v : Value} {fs : List (Nat × Int)} {e : List Blk} (h : FOwn v fs e) : ∃ a cap, v = .slice a fs.length cap := (h.ok []).sl
theorem cloneG_c {S w0} {L : List Blk} (v : Value) (fs : List (Nat × Int)) (h16 : fs.length ≤ 16) (h : FOk L v fs) : Fn Try.prog 32 #[v] S w0 L fun u L' => ∃ e, FOwn u fs e ∧ e ++ L = L' := by
 rcases h with ⟨rfl, rfl⟩ | ⟨g, cap, rfl, h2, h3⟩
 ·exact Fn.mono cloneF_nil (by rintro u _ ⟨rfl, rfl⟩; exact ⟨_, ⟨[], .inl ⟨rfl, rfl, rfl⟩, rfl⟩, fun _ H => H⟩)
 ·exact Fn.mono (cloneF_c g cap fs h16 h2 h3) (by rintro u _ ⟨e, h, rfl⟩; exact ⟨_, ⟨e, .inr ⟨h2, h⟩, rfl⟩, fun _ H => H⟩)
theorem filterG_c {S w0} {L : List Blk} (p f : Nat) (id par m n : Int) (v : Value) (fs : List (Nat × Int)) (h16 : fs.length < 16) (h : FOk L v fs) (q : Nat) (k : Int) : Fn Try.prog 16 #[.pointer (some ⟨p, 0, none⟩), .pointer (some ⟨q, 0, none⟩)] S w0 (tkW p f id par m n v :: L) fun u L' => ∃ v' e, u = .int .i64 0 ∧ FOwn v' (fs ++ [(q, k)]) e ∧ tkW p f id par m n v' :: (e ++ L) = L' := by
 have e1 : pF (fs ++ [(q, k)]) = pF fs ++ [.pointer (some ⟨q, 0, none⟩)] := by simp [pF]
 rcases h with ⟨rfl, rfl⟩ | ⟨g, cap, rfl, h2, h3⟩
 ·exact Fn.mono (filter_one p f id par m n q) (by rintro u _ ⟨v', e, rfl, h, rfl⟩; exact ⟨_, ⟨v', e, rfl, .inr ⟨by simp, h⟩, rfl⟩, fun _ H => H⟩)
 ·exact Fn.mono (filter_more p f id par m n g cap fs h16 h2 h3 q) (by rintro u _ ⟨v', e, rfl, h, rfl⟩; exact ⟨_, ⟨v', e, rfl, .inr ⟨by simp, by rw [e1, List.length_append]; exact h⟩, rfl⟩, fun _ H => H⟩)
theorem tget_s {S w0} {L : List Blk} (tb am em : Nat) (lim : Int) (ts : List TR) (c : Nat) (d : Int) (j : Nat) (t : TR) (hj : kix (ts.map (·.id)) d = some j) (ht : ts[j]? = some t) (i i1 : Nat) (h0 : L[i]? = some (tbB tb am em lim)) (h1 : L[i1]? = some (h2n am (tE ts) c)) : Fn Try.prog 12 #[.pointer (some ⟨tb, 0, none⟩), .int .u8 d] S w0 L fun v L' => v = .pointer (some ⟨t.p, 0, none⟩) ∧ L = L' := by
 have hf := tE_some hj ht
 refine Fn2 Try.func12 Try.ntmps12 rfl rfl ?_
 repeat' (first | refine h0u ?_ | refine h0g ?_ | refine h1c ?_ | refine h2w ?_ | refine h0n rfl ?_ | (refine gR 0 (p_a (h:=h0c ?_))) | (refine gR 1 (p_m (h:=p_e (q_b (r:=by exact h2r Try.underlying28)) (h:=h0c ?_)))) | (refine gR 3 (p_m (h:=p_n (h:=p_e (q_f h5j) (h:=p_e (by apply h0f (t:=102); exact rfl; exact c_28; kernel_rfl; kernel_rfl; exact rfl) (h:=p_m (h:=p_e (by apply h3y; exact rfl; exact rfl; exact c_28; exact Try.underlying102; exact Try.underlying33; exact rfl; exact Try.zeroValue29; (with_reducible assumption); exact rfl) (h:=p_a (h:=h0c ?_))))))))))
 (refine h2h Try.results12 (.tmp rfl .nil) ?_)
 exact ⟨_, ⟨rfl, rfl⟩, fun _ H => H⟩
theorem tget_n {S w0} {L : List Blk} (tb am em : Nat) (lim : Int) (ts : List TR) (c : Nat) (d : Int) (hj : kix (ts.map (·.id)) d = none) (i i1 : Nat) (h0 : L[i]? = some (tbB tb am em lim)) (h1 : L[i1]? = some (h2n am (tE ts) c)) : Fn Try.prog 12 #[.pointer (some ⟨tb, 0, none⟩), .int .u8 d] S w0 L fun v L' => v = .pointer none ∧ L = L' := by
 have hf := tE_none hj
 refine Fn2 Try.func12 Try.ntmps12 rfl rfl ?_
 repeat' (first | refine h0u ?_ | refine h0g ?_ | refine h1c ?_ | refine h2w ?_ | refine h0n rfl ?_ | (refine gR 0 (p_a (h:=h0c ?_))) | (refine gR 1 (p_m (h:=p_e (q_b (r:=by exact h2r Try.underlying28)) (h:=h0c ?_)))) | (refine gR 3 (p_m (h:=p_n (h:=p_e (q_f h5j) (h:=p_e (by apply h0f (t:=102); exact rfl; exact c_28; kernel_rfl; kernel_rfl; exact rfl) (h:=p_m (h:=p_e (by apply h3y; exact rfl; exact rfl; exact c_28; exact Try.underlying102; exact Try.underlying33; exact rfl; exact Try.zeroValue29; (with_reducible assumption); exact rfl) (h:=p_a (h:=h0c ?_))))))))))
 (refine h2h Try.results12 (.tmp rfl .nil) ?_)
 exact ⟨_, ⟨rfl, rfl⟩, fun _ H => H⟩
theorem tended_s {S w0} {L : List Blk} (tb am em : Nat) (lim : Int) (en : List KV) (c : Nat) (d : Int) (j : Nat) (x : KV) (hj : kix (en.map (·.k)) d = some j) (hx : en[j]? = some x) (i i1 : Nat) (h0 : L[i]? = some (tbB tb am em lim)) (h1 : L[i1]? = some (h2n em (kE .u8 en) c)) : Fn Try.prog 9 #[.pointer (some ⟨tb, 0, none⟩), .int .u8 d] S w0 L fun v L' => v = h5f [.int .i64 x.v, .bool true] ∧ L = L' := by
 have hf := kE_some (k:=.u8) hj hx
 refine Fn2 Try.func9 Try.ntmps9 rfl rfl ?_
 repeat' (first | refine h0u ?_ | refine h0g ?_ | refine h1c ?_ | refine h2w ?_ | refine h0n rfl ?_ | (refine gR 0 (p_a (h:=p_a (h:=h0c ?_)))) | (refine gR 1 (p_m (h:=p_e (q_b (r:=by exact h2r Try.underlying28)) (h:=h0c ?_)))) | (refine gR 3 (p_m (h:=p_n (h:=p_e (q_f fo_105_1) (h:=p_e (by apply h0f (t:=103); exact rfl; exact c_28; kernel_rfl; kernel_rfl; exact rfl) (h:=p_m (h:=p_e (by apply E_lookupG; exact rfl; exact rfl; exact c_28; exact Try.underlying103; exact Try.underlying33; exact rfl; exact Try.zeroValue3; (with_reducible assumption); exact rfl; exact rfl) (h:=p_m (h:=p_x (h:=p_x (h:=p_a (h:=p_a (h:=h0c ?_))))))))))))) | (refine gR 4 (p_m (h:=p_m (h:=p_a (h:=p_a (h:=h0c ?_)))))))
 (refine h2h Try.results9 (.tmp rfl (.tmp rfl .nil)) ?_)
 exact ⟨_, ⟨rfl, rfl⟩, fun _ H => H⟩
theorem tended_n {S w0} {L : List Blk} (tb am em : Nat) (lim : Int) (en : List KV) (c : Nat) (d : Int) (hj : kix (en.map (·.k)) d = none) (i i1 : Nat) (h0 : L[i]? = some (tbB tb am em lim)) (h1 : L[i1]? = some (h2n em (kE .u8 en) c)) : Fn Try.prog 9 #[.pointer (some ⟨tb, 0, none⟩), .int .u8 d] S w0 L fun v L' => v = h5f [.int .i64 0, .bool false] ∧ L = L' := by
 have hf := kE_none (k:=.u8) hj
 refine Fn2 Try.func9 Try.ntmps9 rfl rfl ?_
 repeat' (first | refine h0u ?_ | refine h0g ?_ | refine h1c ?_ | refine h2w ?_ | refine h0n rfl ?_ | (refine gR 0 (p_a (h:=p_a (h:=h0c ?_)))) | (refine gR 1 (p_m (h:=p_e (q_b (r:=by exact h2r Try.underlying28)) (h:=h0c ?_)))) | (refine gR 3 (p_m (h:=p_n (h:=p_e (q_f fo_105_1) (h:=p_e (by apply h0f (t:=103); exact rfl; exact c_28; kernel_rfl; kernel_rfl; exact rfl) (h:=p_m (h:=p_e (by apply E_lookupG; exact rfl; exact rfl; exact c_28; exact Try.underlying103; exact Try.underlying33; exact rfl; exact Try.zeroValue3; (with_reducible assumption); exact rfl; exact rfl) (h:=p_m (h:=p_x (h:=p_x (h:=p_a (h:=p_a (h:=h0c ?_))))))))))))) | (refine gR 4 (p_m (h:=p_m (h:=p_a (h:=p_a (h:=h0c ?_)))))))
 (refine h2h Try.results9 (.tmp rfl (.tmp rfl .nil)) ?_)
 exact ⟨_, ⟨rfl, rfl⟩, fun _ H => H⟩
theorem tused_c {S w0} {L : List Blk} (tb am em : Nat) (lim : Int) (ts : List TR) (en : List KV) (c c2 : Nat) (d : Int) (b : Bool) (hb : b = decide (d ∈ ts.map (·.id) ∨ d ∈ en.map (·.k))) (i i1 i2 : Nat) (h0 : L[i]? = some (tbB tb am em lim)) (h1 : L[i1]? = some (h2n am (tE ts) c)) (h2 : L[i2]? = some (h2n em (kE .u8 en) c2)) : Fn Try.prog 30 #[.pointer (some ⟨tb, 0, none⟩), .int .u8 d] S w0 L fun v L' => v = .bool b ∧ L = L' := by
 cases he : kix (en.map (·.k)) d with
 | some j =>
  obtain ⟨x, hx, _⟩ := kix_at he
  have hf := kE_some (k:=.u8) he hx
  have : b = true := by rw [hb]; simp only [decide_eq_true_eq]; exact .inr (List.mem_of_getElem? (kix_some he))
  subst this
  clear hb
  refine Fn2 Try.func30 Try.ntmps30 rfl rfl ?_
  repeat' (first | refine h0u ?_ | refine h0g ?_ | refine h2w ?_ | (refine gR 0 (p_a (h:=h0c ?_))) | (refine gR 1 (p_m (h:=p_n (h:=p_e (q_f fo_105_1) (h:=p_e (by apply h0f (t:=103); exact rfl; exact c_28; kernel_rfl; kernel_rfl; exact rfl) (h:=p_m (h:=p_e (by apply E_lookupG; exact rfl; exact rfl; exact c_28; exact Try.underlying103; exact Try.underlying33; exact rfl; exact Try.zeroValue3; (with_reducible assumption); exact rfl; exact rfl) (h:=p_m (h:=p_x (h:=p_x (h:=p_a (h:=p_a (h:=h0c ?_))))))))))))) | (refine gR 2 (p_m (h:=p_m (h:=p_z (h:=p_z (h:=p_z (h:=p_z (h:=p_z (h:=p_z (h:=p_z (h:=p_p (h:=p_a (h:=h0c ?_))))))))))))))
  (refine h2h Try.results30 (.tmp rfl .nil) ?_)
  exact ⟨_, ⟨rfl, rfl⟩, fun _ H => H⟩
 | none =>
  have hf := kE_none (k:=.u8) he
  have hne := kix_none he
  cases ha : kix (ts.map (·.id)) d with
  | some j =>
   obtain ⟨x, hx, _⟩ := kix_at ha
   have hg := tE_some ha hx
   have : b = true := by rw [hb]; simp only [decide_eq_true_eq]; exact .inl (List.mem_of_getElem? (kix_some ha))
   subst this
   clear hb
   refine Fn2 Try.func30 Try.ntmps30 rfl rfl ?_
   repeat' (first | refine h0u ?_ | refine h0g ?_ | refine h2w ?_ | (refine gR 0 (p_a (h:=h0c ?_))) | (refine gR 1 (p_m (h:=p_n (h:=p_e (q_f fo_105_1) (h:=p_e (by apply h0f (t:=103); exact rfl; exact c_28; kernel_rfl; kernel_rfl; exact rfl) (h:=p_m (h:=p_e (by apply E_lookupG; exact rfl; exact rfl; exact c_28; exact Try.underlying103; exact Try.underlying33; exact rfl; exact Try.zeroValue3; (with_reducible assumption); exact rfl; exact rfl) (h:=p_m (h:=p_x (h:=p_x (h:=p_a (h:=p_a (h:=h0c ?_))))))))))))) | (refine gR 2 (p_m (h:=p_m (h:=p_y (h0b rfl) (h:=p_y (h0i rfl) (h:=p_y (q_f h5j) (h:=p_y (by apply h0f (t:=102); exact rfl; exact c_28; kernel_rfl; kernel_rfl; exact rfl) (h:=p_y (h0b rfl) (h:=p_y (by apply h3y; exact rfl; exact rfl; exact c_28; exact Try.underlying102; exact Try.underlying33; exact rfl; exact Try.zeroValue29; (with_reducible assumption); exact rfl) (h:=p_y (q_b (r:=by exact h5n Try.underlying29)) (h:=p_p (h:=p_a (h:=h0c ?_))))))))))))))
   (refine h2h Try.results30 (.tmp rfl .nil) ?_)
   exact ⟨_, ⟨rfl, rfl⟩, fun _ H => H⟩
  | none =>
   have hg := tE_none ha
   have hna := kix_none ha
   have : b = false := by rw [hb]; simp only [decide_eq_false_iff_not]; exact fun h => h.elim hna hne
   subst this
   clear hb
   refine Fn2 Try.func30 Try.ntmps30 rfl rfl ?_
   repeat' (first | refine h0u ?_ | refine h0g ?_ | refine h2w ?_ | (refine gR 0 (p_a (h:=h0c ?_))) | (refine gR 1 (p_m (h:=p_n (h:=p_e (q_f fo_105_1) (h:=p_e (by apply h0f (t:=103); exact rfl; exact c_28; kernel_rfl; kernel_rfl; exact rfl) (h:=p_m (h:=p_e (by apply E_lookupG; exact rfl; exact rfl; exact c_28; exact Try.underlying103; exact Try.underlying33; exact rfl; exact Try.zeroValue3; (with_reducible assumption); exact rfl; exact rfl) (h:=p_m (h:=p_x (h:=p_x (h:=p_a (h:=p_a (h:=h0c ?_))))))))))))) | (refine gR 2 (p_m (h:=p_m (h:=p_y (h0b rfl) (h:=p_y (h0i rfl) (h:=p_y (q_f h5j) (h:=p_y (by apply h0f (t:=102); exact rfl; exact c_28; kernel_rfl; kernel_rfl; exact rfl) (h:=p_y (h0b rfl) (h:=p_y (by apply h3y; exact rfl; exact rfl; exact c_28; exact Try.underlying102; exact Try.underlying33; exact rfl; exact Try.zeroValue29; (with_reducible assumption); exact rfl) (h:=p_y (q_b (r:=by exact rb_pne_nn Try.underlying29)) (h:=p_p (h:=p_a (h:=h0c ?_))))))))))))))
   (refine h2h Try.results30 (.tmp rfl .nil) ?_)
   exact ⟨_, ⟨rfl, rfl⟩, fun _ H => H⟩
theorem tend_n {S w0} {L : List Blk} (tb am em : Nat) (lim : Int) (ts : List TR) (c : Nat) (d code : Int) (hj : kix (ts.map (·.id)) d = none) (i i1 : Nat) (h0 : L[i]? = some (tbB tb am em lim)) (h1 : L[i1]? = some (h2n am (tE ts) c)) : Fn Try.prog 14 #[.pointer (some ⟨tb, 0, none⟩), .int .u8 d, .int .i64 code] S w0 L fun v L' => v = .int .i64 3 ∧ L = L' := by
 have hf := tE_none hj
 refine Fn3 Try.func14 Try.ntmps14 rfl rfl ?_
 repeat' (first | refine h0u ?_ | refine h0g ?_ | refine h1v ?_ | refine h2j ?_ | refine h0p ?_ | refine h2w ?_ | refine h0s rfl ?_ | refine h0n rfl ?_ | (refine gR 0 (p_a (h:=h0c ?_))) | (refine gR 1 (p_m (h:=p_e (q_b (r:=by exact h2r Try.underlying28)) (h:=p_a (h:=h0c ?_))))) | (refine gR 3 (p_m (h:=p_n (h:=p_e (q_f h5j) (h:=p_e (by apply h0f (t:=102); exact rfl; exact c_28; kernel_rfl; kernel_rfl; exact rfl) (h:=p_m (h:=p_e (by apply h3y; exact rfl; exact rfl; exact c_28; exact Try.underlying102; exact Try.underlying33; exact rfl; exact Try.zeroValue29; (with_reducible assumption); exact rfl) (h:=p_e (q_b (r:=by exact h4w Try.underlying29)) (h:=p_a (h:=h0c ?_)))))))))) | (refine gR 4 (p_a (h:=h0c ?_))))
 (refine h2h Try.results14 (.tmp rfl .nil) ?_)
 exact ⟨_, ⟨rfl, rfl⟩, fun _ H => H⟩
theorem tend_s {S w0} {L : List Blk} (tb am em : Nat) (lim : Int) (ts : List TR) (en : List KV) (c c2 : Nat) (d code : Int) (j : Nat) (t : TR) (hj : kix (ts.map (·.id)) d = some j) (ht : ts[j]? = some t) (he : kix (en.map (·.k)) d = none) : Fn Try.prog 14 #[.pointer (some ⟨tb, 0, none⟩), .int .u8 d, .int .i64 code] S w0 (tbB tb am em lim :: h2n am (tE ts) c :: h2n em (kE .u8 en) c2 :: L) fun v L' => v = .int .i64 0 ∧ tbB tb am em lim :: h2n am (tE (ts.eraseIdx j)) c :: h2n em (kE .u8 (en ++ [⟨d, code, c2⟩])) (c2 + 1) :: L = L' := by
 have hf := tE_some hj ht
 have hg := kE_none (k:=.u8) he
 refine Fn3 Try.func14 Try.ntmps14 rfl rfl ?_
 repeat' (first | refine h0u ?_ | refine h0g ?_ | refine h0y ?_ | refine h0p ?_ | refine h1c ?_ | refine h2w ?_ | refine h0n rfl ?_ | (refine gR 0 (p_a (h:=h0c ?_))) | (refine gR 1 (p_m (h:=p_e (q_b (r:=by exact h2r Try.underlying28)) (h:=p_a (h:=h0c ?_))))) | (refine gR 3 (p_m (h:=p_n (h:=p_e (q_f h5j) (h:=p_e q_l (h:=p_m (h:=p_e (by apply h3y; exact rfl; exact rfl; exact h4d; exact Try.underlying102; exact Try.underlying33; exact rfl; exact Try.zeroValue29; (with_reducible assumption); exact rfl) (h:=p_e (q_b (r:=by exact h2r Try.underlying29)) (h:=p_a (h:=h0c ?_)))))))))) | (refine gR 5 (p_m (h:=p_n (h:=p_e (q_f h5j) (h:=p_e q_l (h:=q_m ?_))))) <;> (try refine h0a ?_; (apply K1_deleteG; exact rfl; exact rfl; exact h4d; exact Try.underlying102; exact Try.underlying33; exact rfl; (with_reducible assumption); (try simp only [List.set_cons_succ]); (try simp only [List.set_cons_zero]))) <;> (try refine h0c ?_)) | (refine gR 6 (p_m (h:=p_n (h:=p_e (q_f fo_105_1) (h:=p_e q_l (h:=p_m (h:=q_m ?_)))))) <;> (try refine h0a ?_; (apply h4i; exact rfl; exact rfl; exact rfl; exact h4d; exact Try.underlying103; exact Try.underlying33; exact rfl; (with_reducible assumption); (try simp only [List.set_cons_succ]); (try simp only [List.set_cons_zero]))) <;> (try refine h0c ?_)) | (refine gR 7 (p_a (h:=h0c ?_))))
 (refine h2h Try.results14 (.tmp rfl .nil) ?_)
 refine ⟨_, ⟨rfl, rfl⟩, ?_⟩
 rw [← kE_snoc, ← tE_erase]
 exact fun _ H => H
theorem fork_n {S w0} {L : List Blk} (tb am em : Nat) (lim : Int) (ts : List TR) (c : Nat) (d : Int) (hj : kix (ts.map (·.id)) d = none) (i i1 : Nat) (h0 : L[i]? = some (tbB tb am em lim)) (h1 : L[i1]? = some (h2n am (tE ts) c)) : Fn Try.prog 8 #[.pointer (some ⟨tb, 0, none⟩), .int .u8 d] S w0 L fun v L' => v = h5f [.pointer none, .int .i64 3] ∧ L = L' := by
 have hg := tget_n (S:=S) (w0:=w0) tb am em lim ts c d hj i i1 h0 h1
 refine Fn2 Try.func8 Try.ntmps8 rfl rfl ?_
 repeat' (first | refine h0u ?_ | refine h0g ?_ | refine h1v ?_ | refine h2j ?_ | refine h0p ?_ | refine h2w ?_ | refine h0s rfl ?_ | refine h0n rfl ?_ | (refine gR 0 (p_a (h:=p_a (h:=h0c ?_)))) | (refine gR 1 (p_m (h:=q_m ?_)) <;> (try refine h0a ?_; (refine h0w (F:=12) (by kernel_rfl) rfl rfl (hg) ?_; rintro _ _ ⟨rfl, rfl⟩)) <;> (try refine p_a (h:=h0c ?_))) | (refine gR 2 (p_m (h:=p_e (q_b (r:=by exact h2r Try.underlying28)) (h:=p_a (h:=h0c ?_))))) | (refine gR 4 (p_m (h:=p_e (q_b (r:=by exact h4w Try.underlying29)) (h:=p_a (h:=h0c ?_))))) | (refine gR 5 (p_a (h:=p_a (h:=h0c ?_)))))
 (refine h2h Try.results8 (.tmp rfl (.tmp rfl .nil)) ?_)
 exact ⟨_, ⟨rfl, rfl⟩, fun _ H => H⟩
theorem fork_full {S w0} {L : List Blk} (tb am em : Nat) (lim : Int) (ts : List TR) (c : Nat) (d : Int) (j : Nat) (t : TR) (hj : kix (ts.map (·.id)) d = some j) (ht : ts[j]? = some t) (hl : lim ≤ ts.length) (i i1 : Nat) (h0 : L[i]? = some (tbB tb am em lim)) (h1 : L[i1]? = some (h2n am (tE ts) c)) : Fn Try.prog 8 #[.pointer (some ⟨tb, 0, none⟩), .int .u8 d] S w0 L fun v L' => v = h5f [.pointer none, .int .i64 11] ∧ L = L' := by
 have hg := tget_s (S:=S) (w0:=w0) tb am em lim ts c d j t hj ht i i1 h0 h1
 have hlen := tE_len ts
 refine Fn2 Try.func8 Try.ntmps8 rfl rfl ?_
 repeat' (first | refine h0u ?_ | refine h0g ?_ | refine h1v ?_ | refine h2j ?_ | refine h0p ?_ | refine h2w ?_ | refine h0s rfl ?_ | refine h0n rfl ?_ | (refine gR 0 (p_a (h:=p_a (h:=h0c ?_)))) | (refine gR 1 (p_m (h:=q_m ?_)) <;> (try refine h0a ?_; (refine h0w (F:=12) (by kernel_rfl) rfl rfl (hg) ?_; rintro _ _ ⟨rfl, rfl⟩)) <;> (try refine p_a (h:=h0c ?_))) | (refine gR 2 (p_m (h:=p_e (q_b (r:=by exact h2r Try.underlying28)) (h:=p_a (h:=h0c ?_))))) | (refine gR 4 (p_m (h:=p_e (q_b (r:=by exact h2r Try.underlying29)) (h:=p_a (h:=h0c ?_))))) | ((refine h1u (id:=6) (m:=11) (by kernel_rfl) rfl (q_u 0 (x:=by exact h0b rfl) (h:=q_u 1 (x:=by exact h0i rfl) (h:=q_u 2 (x:=by exact q_f h5j) (h:=q_u 3 (x:=by apply h0f (t:=102); exact rfl; exact c_28; kernel_rfl; kernel_rfl; exact rfl) (h:=q_u 4 (x:=by apply E_lenG; exact rfl; exact c_28; exact Try.underlying102) (h:=q_u 5 (x:=by exact h0b rfl) (h:=q_u 6 (x:=by exact h0i rfl) (h:=q_u 7 (x:=by exact q_f fo_105_2) (h:=q_u 8 (x:=by apply h0f (t:=3); exact rfl; exact c_28; kernel_rfl; kernel_rfl; exact rfl) (h:=q_u 9 (x:=by exact q_b (r:=by exact h3q q_o)) (h:=q_u 10 (x:=by exact h0e rfl) (h:=h1o (by kernel_rfl) ?_)))))))))))))) | (refine gR 7 (p_a (h:=p_a (h:=h0c ?_)))))
 (refine h2h Try.results8 (.tmp rfl (.tmp rfl .nil)) ?_)
 exact ⟨_, ⟨rfl, rfl⟩, fun _ H => H⟩
structure THas (L : List Blk) (t : TR) : Prop where
 tk : ∃ i : Nat, L[i]? = some (tkW t.p t.f t.id t.par t.m t.n t.fv)
 fd : ∃ i : Nat, L[i]? = some (fdR t.f t.sl)
 op : ∀ s ∈ t.sl, ∃ i : Nat, L[i]? = some (opR s)
 fl : FOk L t.fv t.fs
 l16 : t.sl.length ≤ 16
 f16 : t.fs.length ≤ 16
theorem get_upA {L : List Blk} {x : Blk} (e : List Blk) (h : ∃ i : Nat, L[i]? = some x) : ∃ i : Nat, (e ++ L)[i]? = some x := by
 obtain ⟨i, h⟩ := h
 exact ⟨e.length + i, by rw [List.getElem?_append_right (by omega), show e.length + i - e.length = i by omega]; exact h⟩
theorem THas.upA {L : List Blk} {t : TR} (h : THas L t) (e : List Blk) : THas (e ++ L) t := ⟨get_upA e h.tk, get_upA e h.fd, fun s hs => get_upA e (h.op s hs), h.fl.upA e, h.l16, h.f16⟩
theorem THas.up {L : List Blk} {t : TR} (h : THas L t) (x : Blk) : THas (x :: L) t := h.upA [x]
set_option maxHeartbeats 1000000 in
theorem fork_ok {S w0} {L : List Blk} (tb am em : Nat) (lim : Int) (ts : List TR) (en : List KV) (c c2 : Nat) (d : Int) (j : Nat) (t : TR) (hj : kix (ts.map (·.id)) d = some j) (ht : ts[j]? = some t) (hl : (ts.length : Int) < lim) (nx : Nat) (hnx : 1 ≤ nx ∧ nx ≤ 200)
  (hu : ∀ n : Nat, 1 ≤ n → n < nx → ((n : Int) ∈ ts.map (·.id) ∨ (n : Int) ∈ en.map (·.k))) (hn : ¬ ((nx : Int) ∈ ts.map (·.id) ∨ (nx : Int) ∈ en.map (·.k))) (hd : 0 ≤ d ∧ d < 256) (hH : THas (tbB tb am em lim :: h2n am (tE ts) c :: h2n em (kE .u8 en) c2 :: L) t) :
  Fn Try.prog 8 #[.pointer (some ⟨tb, 0, none⟩), .int .u8 d] S w0 (tbB tb am em lim :: h2n am (tE ts) c :: h2n em (kE .u8 en) c2 :: L) fun v L' => ∃ np nf sl' fv' e', v = h5f [.pointer (some ⟨np, 0, none⟩), .int .i64 0] ∧ sl'.map SL.un = t.sl.map SL.un ∧ FOwn fv' t.fs e' ∧
   tbB tb am em lim :: h2n am (tE ts ++ [{ key := .int .u8 (nx : Nat), val := .pointer (some ⟨np, 0, none⟩), born := c }]) (c + 1) :: h2n em (kE .u8 en) c2 :: tkW np nf (nx : Nat) d t.m t.n fv' :: fdR nf sl' :: (sl'.map opR ++ (e' ++ L)) = L' := by
 have hg := tget_s (S:=S) (w0:=w0) (L:=tbB tb am em lim :: h2n am (tE ts) c :: h2n em (kE .u8 en) c2 :: L) tb am em lim ts c d j t hj ht 0 1 rfl rfl
 have hlen := tE_len ts
 have hus := fun (n : Int) b hb => tused_c (S:=S) (w0:=w0) (L:=tbB tb am em lim :: h2n am (tE ts) c :: h2n em (kE .u8 en) c2 :: L) tb am em lim ts en c c2 n b hb 0 1 2 rfl rfl rfl
 refine Fn2 Try.func8 Try.ntmps8 rfl rfl ?_
 repeat' (first | (refine h4g (id:=1) ?_) | refine h0u ?_ | refine h0g ?_ | refine h0y ?_ | refine h0p ?_ | refine h1c ?_ | refine h0n rfl ?_ | (refine gR 0 (p_a (h:=p_a (h:=h0c ?_)))) | (refine gR 1 (p_m (h:=q_m ?_)) <;> (try refine h0a ?_; (refine h0w (F:=12) (by kernel_rfl) rfl rfl (hg) ?_; rintro _ _ ⟨rfl, rfl⟩)) <;> (try refine p_a (h:=h0c ?_))) | (refine gR 2 (p_m (h:=p_e (q_b (r:=by exact h2r Try.underlying28)) (h:=p_a (h:=h0c ?_))))) | (refine gR 4 (p_m (h:=p_e (q_b (r:=by exact h2r Try.underlying29)) (h:=p_a (h:=h0c ?_))))) | ((refine h1u (id:=6) (m:=11) (by kernel_rfl) rfl (q_u 0 (x:=by exact h0b rfl) (h:=q_u 1 (x:=by exact h0i rfl) (h:=q_u 2 (x:=by exact q_f h5j) (h:=q_u 3 (x:=by exact q_l) (h:=q_u 4 (x:=by apply E_lenG; exact rfl; exact h4d; exact Try.underlying102) (h:=q_u 5 (x:=by exact h0b rfl) (h:=q_u 6 (x:=by exact h0i rfl) (h:=q_u 7 (x:=by exact q_f fo_105_2) (h:=q_u 8 (x:=by exact q_l) (h:=q_u 9 (x:=by exact q_b (r:=by exact h3c q_o)) (h:=q_u 10 (x:=by exact h0e rfl) (h:=h1o (by kernel_rfl) ?_)))))))))))))) | (refine gR 8 (p_a (h:=h0c ?_))))
 refine ⟨?_⟩
 refine h0p ?_
 refine h3b (γ:=Nat) (fun n => 1 ≤ n ∧ n ≤ nx) (fun n => 256 - n) (fun n => [(7, .int .u8 (n : Nat))]) [(0, _), (1, _), (6, _)] (fun _ => tbB tb am em lim :: h2n am (tE ts) c :: h2n em (kE .u8 en) c2 :: L) 1 (.cons rfl (.cons rfl (.cons rfl .nil))) ⟨by omega, by omega⟩ (by (focus (repeat (first | exact Sub.nil | refine Sub.cons rfl ?_)))) (fun _ H => H) ?_
 intro n hn'
 simp only [List.cons_append, List.nil_append]
 by_cases hlt : n < nx
 ·have hu' := hus (n : Nat) true (by rw [decide_eq_true (hu n hn'.1 hlt)])
  repeat' (first | refine h0u ?_ | refine h0g ?_ | refine h0q ?_ | refine h0y ?_ | refine h0p ?_ | refine h1c ?_ | refine h0s rfl ?_ | refine h0n rfl ?_ | (refine gR 9 (p_m (h:=q_m ?_)) <;> (try refine h0a ?_; (refine h0w (F:=30) (by kernel_rfl) rfl rfl (hu') ?_; rintro _ _ ⟨rfl, rfl⟩)) <;> (try refine h0c ?_)) | (refine gR 10 (q_m ?_) <;> (try refine q_e (q_b (r:=by apply h0z; exact c_9; (focus (refine IntWalk.u8_in _ ?_; omega)))) ?_) <;> (try refine p_a (h:=h0c ?_))) | (refine gR 11 (p_m (h:=p_e (q_b (r:=by exact h0m q_o)) (h:=h0c ?_)))))
  exact h1p (n + 1) ⟨by omega, by omega⟩ (by (focus (repeat (first | exact Sub.nil | refine Sub.cons rfl ?_)))) (fun _ H => H)
 ·obtain rfl : n = nx := by omega
  have hu' := hus (n : Nat) false (by rw [decide_eq_false hn])
  have hnn := tE_none (kix_not (fun h => hn (.inl h)))
  obtain ⟨⟨i1, h1⟩, ⟨i2, h2⟩, h3, h4, h5, h6⟩ := hH
  have hcp := fdcopy_c (S:=S) (w0:=w0) (L:=tbB tb am em lim :: h2n am (tE ts) c :: h2n em (kE .u8 en) c2 :: L) i2 t.f t.sl h5 h2 h3
  have hcl := fun (x : Blk) (A : List Blk) => cloneG_c (S:=S) (w0:=w0) (L:=x :: (A ++ (tbB tb am em lim :: h2n am (tE ts) c :: h2n em (kE .u8 en) c2 :: L))) t.fv t.fs h6 ((h4.upA A).up x)
  obtain ⟨aF, cF, hF⟩ := h4.sl
  clear h3 h4 h2 hu hn hus hg
  rw [hF] at h1 hcl
  repeat' (first | refine h0u ?_ | refine h0g ?_ | refine h1n ?_ | refine h0v ?_ | refine h1m ?_ | refine h2a ?_ | refine h2w ?_ | refine h0n rfl ?_ | (refine gR 9 (p_m (h:=q_m ?_)) <;> (try refine h0a ?_; (refine h0w (F:=30) (by kernel_rfl) rfl rfl (hu') ?_; rintro _ _ ⟨rfl, rfl⟩)) <;> (try refine h0c ?_)) | ((refine h1u (id:=13) (m:=27) (by kernel_rfl) rfl (q_u 0 (x:=by exact h0b rfl) (h:=q_u 1 (x:=by exact h0b rfl) (h:=q_u 2 (x:=by exact h0b rfl) (h:=q_u 3 (x:=by exact h0i rfl) (h:=q_u 4 (x:=by exact q_f fo_73_2) (h:=q_u 5 (x:=by apply h1s (t:=60); exact rfl; exact c_28; kernel_rfl; kernel_rfl; exact sz_60; exact Nat.le_of_ble_eq_true rfl; exact c_31) (h:=q_u 6 (x:=by exact h0b rfl) (h:=q_u 7 (x:=by exact h0i rfl) (h:=q_u 8 (x:=by exact q_f fo_73_3) (h:=q_u 9 (x:=by apply h0f (t:=69); exact rfl; exact c_28; kernel_rfl; kernel_rfl; exact rfl) (h:=q_u 11 (x:=by exact h0b rfl) (h:=q_u 12 (x:=by exact h0i rfl) (h:=q_u 13 (x:=by exact q_f fo_73_4) (h:=q_u 14 (x:=by apply h0f (t:=4); exact rfl; exact c_28; kernel_rfl; kernel_rfl; exact rfl) (h:=q_u 15 (x:=by exact h0b rfl) (h:=q_u 16 (x:=by exact h0i rfl) (h:=q_u 17 (x:=by exact q_f h5b) (h:=q_u 18 (x:=by apply h0f (t:=70); exact rfl; exact c_28; kernel_rfl; kernel_rfl; exact rfl) (h:=q_u 20 (x:=by exact h0b rfl) (h:=q_u 21 (x:=by exact h0i rfl) (h:=q_u 22 (x:=by exact q_f fo_73_6) (h:=q_u 23 (x:=by apply h0f (t:=71); exact rfl; exact c_28; kernel_rfl; kernel_rfl; exact rfl) (h:=?_)))))))))))))))))))))))) <;> (try refine q_r 10 ?_; (refine q_c 31 (c:=by apply hcp) (h:=?_); rintro _ _ ⟨nf, sl', rfl, hun, rfl⟩; (try simp only [zzE, zzF])); refine h2e c_17 ?_) <;> (try refine q_r 19 ?_; (refine h0w (F:=32) (by kernel_rfl) rfl rfl (hcl _ _) ?_; rintro _ _ ⟨e2, hown, rfl⟩; obtain ⟨aG, cG, rfl⟩ := hown.sl); refine h2e c_17 ?_) <;> (try refine q_t 24 (e:=c_17) (x:=by exact h2o (t:=73) (fun vs => (match vs with | [(_, x0), (_, x1), (_, x2), (_, x3), (_, x4), (_, x5), (_, x6)] => [x0, x1] ++ (x2.cells.toList ++ [x3, x4, x5, x6]) | _ => [])) rfl (fun w => by kernel_rfl)) (h:=?_); (try simp only [Value.cells]); (try simp only [zzC, zzN])) <;> (try refine q_r 25 ?_; (refine h4e (t:=73) rfl rfl ?_; intro nb hnb; (try simp only [Value.cells])); refine h2e c_17 ?_) <;> (try refine q_t 26 (e:=c_17) (x:=by exact h0e rfl) (h:=h1o (by kernel_rfl) ?_))) | (refine gR 14 (p_m (h:=p_n (h:=p_e (q_f h5j) (h:=p_e (by apply h0f (t:=102); exact rfl; (focus (repeat (first | exact fd0 | apply fdA | apply fdS))); kernel_rfl; kernel_rfl; exact rfl) (h:=p_m (h:=q_m ?_)))))) <;> (try refine h0a ?_; (apply h4i; exact rfl; exact rfl; exact rfl; (focus (repeat (first | exact fd0 | apply fdA | apply fdS))); exact Try.underlying102; exact Try.underlying33; exact rfl; (with_reducible assumption); (try simp only [List.set_cons_succ]); (try simp only [List.set_cons_zero]))) <;> (try refine h0c ?_)) | (refine gR 15 (p_m (h:=p_a (h:=p_a (h:=h0c ?_))))))
  (refine h2h Try.results8 (.tmp rfl (.tmp rfl .nil)) ?_)
  exact ⟨_, ⟨_, nf, sl', _, e2, rfl, hun, hown, rfl⟩, by simp only [set_app, List.set_cons_succ, List.set_cons_zero]; intro w H; refine Sel.out ?_ H; (try dsimp only); (try simp only [List.cons_append, List.nil_append, List.append_assoc]); with_reducible repeat (first | exact Sel.refl _ | exact Sel.nil _ | apply Sel.appS | apply Sel.consS | (apply Sel.appP; (focus ((repeat (first | exact Pull.here _ | apply Pull.cons | apply Pull.app)); done))) | (apply Sel.consP; (focus ((repeat (first | exact PullB.here _ | apply PullB.cons | apply PullB.app)); done))) | apply Sel.drop | apply Sel.dropA)⟩
def arrT (l : List Int) (r : List Value) : List Value := l.map (fun x => Value.int .u8 x) ++ r
abbrev h5l (b : Nat) (l : List Int) (r : List Value) : Blk := ⟨true, b, .cells (arrT l r).toArray 33 (0, 0)⟩
theorem h2y {l : List Int} {r : List Value} {k : Nat} (h : k < l.length) : (arrT l r).toArray.toList[k]? = some (.int .u8 (gv l k)) := by
 simp [arrT, List.getElem?_append, h, gv_get h]
theorem h4x {l : List Int} {r : List Value} {i : Int} (k : Nat) (h : k < l.length) (hi : i.toNat = k) : (arrT l r).toArray.toList[i.toNat]? = some (.int .u8 (gv l k)) := by
 rw [hi]; exact h2y h
theorem arrT_set {l : List Int} {r : List Value} {k : Nat} {x : Int} (h : k < l.length) : (arrT l r).set k (.int .u8 x) = arrT (l.set k x) r := by
 simp [arrT, List.set_append, h, List.map_set]
theorem arrT_size {l : List Int} {r : List Value} : (arrT l r).toArray.size = l.length + r.length := by simp [arrT]
theorem h4a {l : List Int} {r : List Value} : (arrT l r).length = l.length + r.length := by simp [arrT]
theorem h4o {l : List Int} {r : List Value} {p q : Nat} (i j : Nat) (hi : i < l.length) (hj : j < l.length) (hp : p = i) (hq : q = j) : ((arrT l r).set p (.int .u8 (gv l j))).set q (.int .u8 (gv l i)) = arrT (swp l i j) r := by
 subst hp hq
 rw [arrT_set hi, arrT_set (by simpa using hj)]; rfl
theorem Srt.less {a b c : Nat} {l : List Int} (h : Srt a b l) (hc : c ≤ b) : Srt a c l := fun p q p1 p2 p3 => h p q p1 p2 (by omega)
theorem isNaNT_c {S w0 L} (x : Int) : Fn Try.prog 96 #[.int .u8 x] S w0 L fun v L' => v = .bool false ∧ L = L' := by
 refine Fn1 Try.func96 Try.ntmps96 rfl rfl ?_
 repeat' (first | refine h0u ?_ | refine h0g ?_ | refine h2w ?_ | (refine gR 0 (p_a (h:=h0c ?_))) | (refine gR 1 (p_m (h:=q_m ?_)) <;> (try refine q_e (by exact q_b (r:=by refine h2v ?_; first | rfl | (with_reducible assumption) | (decide; done) | omega)) ?_) <;> (try refine p_a (h:=h0c ?_))))
 (refine h2h Try.results96 (.tmp rfl .nil) ?_)
 exact ⟨_, ⟨rfl, rfl⟩, by intro w H; refine H.sub ?_; (try simp only [zzC, zzN]); repeat (exact List.Sublist.refl _)⟩
theorem h5o {S w0 L} (x y : Int) : Fn Try.prog 82 #[.int .u8 x, .int .u8 y] S w0 L fun v L' => v = .bool (decide (x < y)) ∧ L = L' := by
 refine Fn2 Try.func82 Try.ntmps82 rfl rfl ?_
 repeat' (first | refine h0u ?_ | refine h0g ?_ | refine h2w ?_ | (refine gR 0 (p_a (h:=h0c ?_))) | (refine gR 1 (q_m ?_) <;> (try refine h0a ?_; (refine h0w (F:=96) (by kernel_rfl) rfl rfl (isNaNT_c _) ?_; rintro _ _ ⟨rfl, rfl⟩)) <;> (try refine p_m (h:=p_z (h:=p_z (h:=p_z (h:=p_p (h:=p_m (h:=p_y (h0b rfl) (h:=p_y (h0b rfl) (h:=p_y (q_b (r:=by exact h3l)) (h:=p_p (h:=p_a (h:=h0c ?_))))))))))))))
 (refine h2h Try.results82 (.tmp rfl .nil) ?_)
 exact ⟨_, ⟨rfl, rfl⟩, by intro w H; refine H.sub ?_; (try simp only [zzC, zzN]); repeat (exact List.Sublist.refl _)⟩
theorem insT_c {S w0 L} (b n cap : Nat) (r : List Value) (l : List Int) (a c : Nat) (hl : l.length = n) (hc : c ≤ n) (hn : n ≤ 255) (ha : a ≤ n) :
  Fn Try.prog 76 #[.slice (some ⟨b, 0, none⟩) n cap, .int .i64 (a : Nat), .int .i64 (c : Nat)] S w0 (h5l b l r :: L) fun v L' => v = .tuple #[] ∧ ∃ l', Sw a c l l' ∧ Srt a c l' ∧ h5l b l' r :: L = L' := by
 refine Fn3 Try.func76 Try.ntmps76 rfl rfl ?_
 repeat' (first | refine h0u ?_ | refine h0g ?_ | refine h0p ?_ | (refine gR 0 (q_m ?_) <;> (try refine q_e (q_b (r:=by apply h0z; exact c_9; (focus (refine IntWalk.i64_in _ ?_; omega)))) ?_) <;> (try refine p_a (h:=h0c ?_))))
 refine h3b (γ:=Nat × List Int) (fun g => a < g.1 ∧ (g.1 ≤ c ∨ g.1 = a + 1) ∧ Sw a c l g.2 ∧ Srt a g.1 g.2) (fun g => c - g.1) (fun g => [(6, .int .i64 (g.1 : Nat))]) [(0, _), (1, _), (2, _)]
  (fun g => h5l b g.2 r :: L) (a + 1, l) (.cons rfl (.cons rfl (.cons rfl .nil))) ⟨by simp, .inr rfl, .refl _ _ _, .nil (by simp)⟩ (by (focus (repeat (first | exact Sub.nil | refine Sub.cons rfl ?_)))) (fun _ H => H) ?_
 rintro ⟨i, m⟩ ⟨h1 : a < i, h2 : i ≤ c ∨ i = a + 1, h3 : Sw a c l m, h4 : Srt a i m⟩
 dsimp only [List.cons_append, List.nil_append]
 have hm := h3.len
 by_cases hlt : i < c
 ·repeat' (first | refine h0u ?_ | refine h0g ?_ | refine h0p ?_ | refine h1c ?_ | refine h0s rfl ?_ | (refine gR 1 (p_m (h:=p_m (h:=p_e (q_b (r:=by exact h1l q_o)) (h:=h0c ?_))))) | (refine gR 3 (p_m (h:=p_a (h:=h0c ?_)))))
  have h5 := Lib.hid (Ins1.start h4)
  refine h3b (γ:=Nat × List Int) (fun g => (a ≤ g.1 ∧ g.1 ≤ i) ∧ Sw a c l g.2 ∧ Ins1 a i g.1 g.2) (fun g => g.1) (fun g => [(7, .int .i64 (g.1 : Nat))]) [(0, _), (1, _), (2, _), (6, _)]
   (fun g => h5l b g.2 r :: L) (i, m) (.cons rfl (.cons rfl (.cons rfl (.cons rfl .nil)))) ⟨by simp; omega, h3, h5.out⟩ (by (focus (repeat (first | exact Sub.nil | refine Sub.cons rfl ?_)))) (fun _ H => H) ?_
  clear h5 h3 h4 hm m
  rintro ⟨j, m⟩ ⟨⟨j1 : a ≤ j, j2 : j ≤ i⟩, h3 : Sw a c l m, h4 : Ins1 a i j m⟩
  dsimp only [List.cons_append, List.nil_append]
  have hm := h3.len
  have g1 := h2y (l:=m) (r:=r) (k:=j) (by omega)
  have g2 := fun h1 h2 => h4x (l:=m) (r:=r) (i:=(j : Int) - 1) (j - 1) h1 h2
  have g4 := h4a (l:=m) (r:=r)
  by_cases hj : a < j
  ·have g3 := g2 (by omega) (by omega)
   repeat' (first | refine h0u ?_ | refine h0g ?_ | refine h0q ?_ | refine h1n ?_ | refine h0v ?_ | refine h0y ?_ | refine h1m ?_ | refine h0p ?_ | refine h1c ?_ | refine h2a ?_ | ((refine h1u (id:=4) (m:=15) (by kernel_rfl) rfl (q_u 0 (x:=by exact h0b rfl) (h:=q_u 1 (x:=by exact h0b rfl) (h:=q_u 2 (x:=by exact q_b (r:=by exact h4m q_o)) (h:=q_u 3 (x:=by exact h0b rfl) (h:=q_T 4 (e:=(fun _ H => H)) (x:=by exact h0b rfl) (h:=q_T 5 (e:=(fun _ H => H)) (x:=by exact h0b rfl) (h:=q_T 6 (e:=(fun _ H => H)) (x:=by apply h0d; exact rfl; exact rfl; (focus (apply h0x Try.underlying47 h2l; omega; omega; exact c_2))) (h:=q_T 7 (e:=(fun _ H => H)) (x:=by apply h0f (t:=33); exact rfl; exact fd0; kernel_rfl; kernel_rfl; (with_reducible assumption)) (h:=q_T 8 (e:=(fun _ H => H)) (x:=by exact h0b rfl) (h:=q_T 9 (e:=(fun _ H => H)) (x:=by exact h0b rfl) (h:=?_)))))))))))) <;> (try refine q_T 10 (e:=(fun _ H => H)) (x:=by exact q_b (r:=by apply h2z; exact c_9; (focus (refine IntWalk.i64_in _ ?_; omega)))) (h:=?_)) <;> (try refine q_T 11 (e:=(fun _ H => H)) (x:=by apply h0d; exact rfl; exact rfl; (focus (apply h0x Try.underlying47 h2l; omega; omega; exact c_2))) (h:=q_T 12 (e:=(fun _ H => H)) (x:=by apply h0f (t:=33); exact rfl; exact fd0; kernel_rfl; kernel_rfl; (with_reducible assumption)) (h:=?_))) <;> (try refine q_r 13 ?_; (refine h1y rfl rfl rfl ?_; (refine h0w (F:=82) (by kernel_rfl) rfl rfl (h5o _ _) ?_; rintro _ _ ⟨rfl, rfl⟩)); refine h2e (fun _ H => H) ?_) <;> (try refine q_u 14 (x:=by exact h3p rfl rfl) (h:=h1o (by kernel_rfl) ?_))) | ((apply h2m (i:=0) (id:=6) (m:=18); exact c_15; kernel_rfl; exact rfl) <;> (try refine q_t 0 (e:=h1b) (x:=by exact h0b rfl) (h:=q_t 1 (e:=h1b) (x:=by exact h0b rfl) (h:=q_t 2 (e:=h1b) (x:=by exact h0b rfl) (h:=q_t 3 (e:=h1b) (x:=by exact h0b rfl) (h:=?_))))) <;> (try refine q_t 4 (e:=h1b) (x:=by exact q_b (r:=by apply h2z; exact c_9; (focus (refine IntWalk.i64_in _ ?_; omega)))) (h:=?_)) <;> (try refine q_t 5 (e:=h1b) (x:=by exact h0b rfl) (h:=q_t 6 (e:=h1b) (x:=by exact h0b rfl) (h:=?_))) <;> (try refine q_t 7 (e:=h1b) (x:=by exact q_b (r:=by apply h2z; exact c_9; (focus (refine IntWalk.i64_in _ ?_; omega)))) (h:=?_)) <;> (try refine q_t 8 (e:=h1b) (x:=by apply h0d; exact rfl; exact rfl; (focus (apply h0x Try.underlying47 h2l; omega; omega; exact c_2))) (h:=q_t 10 (e:=h1b) (x:=by exact h0b rfl) (h:=q_t 11 (e:=h1b) (x:=by exact h0b rfl) (h:=q_t 12 (e:=h1b) (x:=by apply h0d; exact rfl; exact rfl; (focus (apply h0x Try.underlying47 h2l; omega; omega; exact c_2))) (h:=?_))))) <;> (try refine h4c (i:=9) (j:=13) rfl rfl (by kernel_rfl) ?_ ?_ <;> (first | (refine TagA.mk ?_; (((refine q_k (by apply h0f (t:=33); exact rfl; exact fd0; kernel_rfl; kernel_rfl; (with_reducible assumption)) ?_); refine h2e h1b ?_) <;> (try refine q_r 13 ?_; (refine q_k (by apply h0f (t:=33); exact rfl; exact fd0; kernel_rfl; kernel_rfl; (with_reducible assumption)) ?_); refine h2e h1b ?_) <;> (try refine q_t 14 (e:=h1b) (x:=by apply h0d; exact rfl; exact rfl; (focus (apply h0x Try.underlying47 h2l; omega; omega; exact c_2))) (h:=?_)) <;> (try refine q_r 15 ?_; (apply h0l (t:=33); exact rfl; exact rfl; exact fd0; exact rfl; exact rfl; kernel_rfl; (focus (omega)); exact h3o; (try simp only [List.set_cons_succ]); (try simp only [List.set_cons_zero])); refine h2e h1b ?_) <;> (try refine q_t 16 (e:=h1b) (x:=by apply h0d; exact rfl; exact rfl; (focus (apply h0x Try.underlying47 h2l; omega; omega; exact c_2))) (h:=?_)) <;> (try refine q_r 17 ?_; (apply h0l (t:=33); exact rfl; exact rfl; exact fd0; exact rfl; exact rfl; kernel_rfl; (focus (simp; omega)); exact h3o; (try simp only [List.set_cons_succ]); (try simp only [List.set_cons_zero])); refine h2e h1b ?_) <;> (try refine h1o (by kernel_rfl) ?_))) | (refine TagB.mk ?_; (((refine q_k (by apply h0f (t:=33); exact rfl; exact fd0; kernel_rfl; kernel_rfl; (with_reducible assumption)) ?_); refine h2e h1b ?_) <;> (try refine q_r 9 ?_; (refine q_k (by apply h0f (t:=33); exact rfl; exact fd0; kernel_rfl; kernel_rfl; (with_reducible assumption)) ?_); refine h2e h1b ?_) <;> (try refine q_t 14 (e:=h1b) (x:=by apply h0d; exact rfl; exact rfl; (focus (apply h0x Try.underlying47 h2l; omega; omega; exact c_2))) (h:=?_)) <;> (try refine q_r 15 ?_; (apply h0l (t:=33); exact rfl; exact rfl; exact fd0; exact rfl; exact rfl; kernel_rfl; (focus (omega)); exact h3o; (try simp only [List.set_cons_succ]); (try simp only [List.set_cons_zero])); refine h2e h1b ?_) <;> (try refine q_t 16 (e:=h1b) (x:=by apply h0d; exact rfl; exact rfl; (focus (apply h0x Try.underlying47 h2l; omega; omega; exact c_2))) (h:=?_)) <;> (try refine q_r 17 ?_; (apply h0l (t:=33); exact rfl; exact rfl; exact fd0; exact rfl; exact rfl; kernel_rfl; (focus (simp; omega)); exact h3o; (try simp only [List.set_cons_succ]); (try simp only [List.set_cons_zero])); refine h2e h1b ?_) <;> (try refine h1o (by kernel_rfl) ?_)))))) | (refine gR 5 (q_m ?_) <;> (try refine q_e (q_b (r:=by apply h2z; exact c_9; (focus (refine IntWalk.i64_in _ ?_; omega)))) ?_) <;> (try refine p_a (h:=h0c ?_))) | (refine gR 2 (q_m ?_) <;> (try refine q_e (q_b (r:=by apply h0z; exact c_9; (focus (refine IntWalk.i64_in _ ?_; omega)))) ?_) <;> (try refine p_a (h:=h0c ?_))) | ((refine h1x rfl (fun hc => ?_) (fun hc => ?_)) <;> (try subst hc)))
   all_goals first
    | (rw [h4o j (j - 1) (by omega) (by omega) rfl (by omega)]; refine h1p (j - 1, swp m j (j - 1)) ⟨⟨⟨by simp; omega, by simp; omega⟩, h3.trans (.swp (by omega) (by omega) (by omega)), h4.step (by omega) (by omega) hc⟩, by simp; omega⟩ (by (focus (repeat (first | exact Sub.nil | refine Sub.cons rfl ?_ | (refine Sub.cons (congrArg some ?_) ?_; (focus go_num)))))) (fun _ H => H))
    | (refine h1p (i + 1, m) ⟨⟨by simp; omega, by simp; omega, h3, h4.stop (by omega) (.inr (by omega))⟩, by simp; omega⟩ (by (focus (repeat (first | exact Sub.nil | refine Sub.cons rfl ?_)))) (fun _ H => H))
  ·repeat' (first | refine h0u ?_ | refine h0g ?_ | refine h0q ?_ | refine h1n ?_ | refine h0v ?_ | refine h0y ?_ | refine h1m ?_ | refine h2a ?_ | refine h0n rfl ?_ | ((refine h1u (id:=4) (m:=15) (by kernel_rfl) rfl (q_u 0 (x:=by exact h0b rfl) (h:=q_u 1 (x:=by exact h0b rfl) (h:=q_u 2 (x:=by exact q_b (r:=by exact h4n q_o)) (h:=q_u 3 (x:=by exact h0b rfl) (h:=?_)))))) <;> (try apply h0o (i:=4); exact rfl; kernel_rfl; kernel_rfl; kernel_rfl; exact rfl; (exact fun _ H => H); exact h3d rfl rfl rfl) <;> (try apply h0o (i:=5); exact rfl; kernel_rfl; kernel_rfl; kernel_rfl; exact rfl; (exact fun _ H => H); exact h3d rfl rfl rfl) <;> (try apply h0o (i:=6); exact rfl; kernel_rfl; kernel_rfl; kernel_rfl; exact rfl; (exact fun _ H => H); exact h3d rfl rfl rfl) <;> (try apply h0o (i:=7); exact rfl; kernel_rfl; kernel_rfl; kernel_rfl; exact rfl; (exact fun _ H => H); exact h3d rfl rfl rfl) <;> (try apply h0o (i:=8); exact rfl; kernel_rfl; kernel_rfl; kernel_rfl; exact rfl; (exact fun _ H => H); exact h3d rfl rfl rfl) <;> (try apply h0o (i:=9); exact rfl; kernel_rfl; kernel_rfl; kernel_rfl; exact rfl; (exact fun _ H => H); exact h3d rfl rfl rfl) <;> (try apply h0o (i:=10); exact rfl; kernel_rfl; kernel_rfl; kernel_rfl; exact rfl; (exact fun _ H => H); exact h3d rfl rfl rfl) <;> (try apply h0o (i:=11); exact rfl; kernel_rfl; kernel_rfl; kernel_rfl; exact rfl; (exact fun _ H => H); exact h3d rfl rfl rfl) <;> (try apply h0o (i:=12); exact rfl; kernel_rfl; kernel_rfl; kernel_rfl; exact rfl; (exact fun _ H => H); exact h3d rfl rfl rfl) <;> (try refine q_r 13 ?_; (refine h2x rfl rfl rfl rfl ?_); refine h2e (fun _ H => H) ?_) <;> (try refine q_u 14 (x:=by exact h3p rfl rfl) (h:=h1o (by kernel_rfl) ?_))) | (refine gR 2 (q_m ?_) <;> (try refine q_e (q_b (r:=by apply h0z; exact c_9; (focus (refine IntWalk.i64_in _ ?_; omega)))) ?_) <;> (try refine p_a (h:=h0c ?_))))
   refine h1p (i + 1, m) ⟨⟨by simp; omega, by simp; omega, h3, h4.stop (by omega) (.inl (by omega))⟩, by simp; omega⟩ (by (focus (repeat (first | exact Sub.nil | refine Sub.cons rfl ?_)))) (fun _ H => H)
 ·repeat' (first | refine h0u ?_ | refine h0g ?_ | refine h1n ?_ | refine h0v ?_ | refine h1m ?_ | refine h2a ?_ | refine h0n rfl ?_ | (refine gR 1 (p_m (h:=p_m (h:=p_e (q_b (r:=by exact h1k q_o)) (h:=h0c ?_))))))
  (first | refine h2h Try.results76 .nil ?_ | refine h4j Try.results76 .nil ?_)
  exact ⟨_, ⟨rfl, m, h3, h4.less (by omega), rfl⟩, fun _ H => H⟩
def bl8 (x : Nat) : Nat := if x = 0 then 0 else Nat.log2 x + 1
def lenTab : ByteArray := ⟨((List.range 256).map fun x => UInt8.ofNat (bl8 x)).toArray⟩
theorem lenTab_get {x : Nat} (h : x < 256) : lenTab[x]? = some (UInt8.ofNat (bl8 x)) := by
 have e : lenTab.size = 256 := by simp [lenTab, ByteArray.size]
 rw [getElem?_pos lenTab x (by omega)]
 simp [lenTab, ByteArray.getElem_eq_getElem_data]
theorem bl8_le : ∀ x : Fin 256, bl8 x ≤ 8 ∧ (x.1 ≠ 0 → 2 ^ bl8 x ≤ 2 * x.1 ∧ x.1 < 2 ^ bl8 x) := by decide +kernel
theorem r_len8 {P : Program} {t : TypeId} {k : IntKind} {bs : ByteArray} (hb : bs = lenTab) {x : Nat} (h : x < 256) (ht : P.underlying t = some .string) : RIdx P t (.string bs) (.int k (x : Nat)) (.int .u8 (bl8 x : Nat)) := by
 have e := lenTab_get h
 rw [← hb] at e
 have e2 := r_ixstr (P:=P) (k:=k) (a:=(x : Int)) ht (by omega) (by rw [Int.toNat_natCast]; exact e)
 have e3 := (bl8_le ⟨x, h⟩).1
 dsimp only at e3
 rwa [show (UInt8.ofNat (bl8 x)).toNat = bl8 x by simp; omega] at e2
theorem len64_c {S w0 L} (z : Int) (x : Nat) (hz : z = (x : Nat)) (hx : x < 256) : Fn Try.prog 86 #[.int .u64 z] S w0 L fun v L' => v = .int .i64 (bl8 x : Nat) ∧ L = L' := by
 subst hz
 refine Fn1 Try.func86 Try.ntmps86 rfl rfl ?_
 have hb := (bl8_le ⟨x, hx⟩).1
 dsimp only at hb
 repeat' (first | refine h0u ?_ | refine h0g ?_ | refine h1c ?_ | refine h0n rfl ?_ | (refine gR 0 (p_a (h:=h0c ?_))) | (refine gR 1 (p_m (h:=p_e (q_b (r:=by exact h3c q_o)) (h:=h0c ?_)))) | (refine gR 4 (p_m (h:=p_e (q_b (r:=by exact h3c q_o)) (h:=h0c ?_)))) | (refine gR 7 (p_m (h:=p_e (q_b (r:=by exact h3c q_o)) (h:=h0c ?_)))) | (refine gR 10 (p_m (h:=q_m ?_)) <;> (try refine q_e (by apply h3h; exact rfl; (focus (apply h3g Try.underlying23 Try.underlying5; first | (refine IntWalk.i64_in _ ?_; omega) | (refine IntWalk.u8_in _ ?_; omega) | (refine IntWalk.u16_in _ ?_; omega) | (refine IntWalk.u32_in _ ?_; omega) | (refine IntWalk.u64_in _ ?_; omega) | (refine IntWalk.i32_in _ ?_; omega) | exact rfl))) ?_) <;> (try refine h0a ?_; fail) <;> (try refine h0a ?_; fail) <;> (try refine h0a ?_; fail) <;> (try refine h0a ?_; fail) <;> (try refine h0c ?_)))
 refine h0a ?_
 (refine q_k (by apply E_index; exact rfl; exact rfl; exact r_len8 (by kernel_rfl) hx Try.underlying9) ?_)
 refine h0a ?_
 (refine q_k (by apply h3h; exact rfl; (focus (apply h3g Try.underlying5 Try.underlying3; first | (refine IntWalk.i64_in _ ?_; omega) | (refine IntWalk.u8_in _ ?_; omega) | (refine IntWalk.u16_in _ ?_; omega) | (refine IntWalk.u32_in _ ?_; omega) | (refine IntWalk.u64_in _ ?_; omega) | (refine IntWalk.i32_in _ ?_; omega) | exact rfl))) ?_)
 refine h0a ?_
 (refine q_k (by exact q_b (r:=by apply h0z; exact c_9; (focus (first | (refine IntWalk.i64_in _ ?_; omega) | (refine IntWalk.u8_in _ ?_; omega) | (refine IntWalk.u16_in _ ?_; omega) | (refine IntWalk.u32_in _ ?_; omega) | (refine IntWalk.u64_in _ ?_; omega) | (refine IntWalk.i32_in _ ?_; omega) | exact rfl)))) ?_)
 refine h0a ?_
 (refine q_k (h0e rfl) ?_)
 refine h0c ?_
 repeat' (first | refine h0g ?_ | refine h2w ?_)
 (refine h2h Try.results86 (.tmp rfl .nil) ?_)
 exact ⟨_, ⟨by simp [h5f], rfl⟩, by intro w H; refine H.sub ?_; (try simp only [zzC, zzN]); repeat (exact List.Sublist.refl _)⟩
theorem bitLen_c {S w0 L} (z : Int) (x : Nat) (hz : z = (x : Nat)) (hx : x < 256) : Fn Try.prog 56 #[.int .u64 z] S w0 L fun v L' => v = .int .i64 (bl8 x : Nat) ∧ L = L' := by
 subst hz
 refine Fn1 Try.func56 Try.ntmps56 rfl rfl ?_
 repeat' (first | refine h0u ?_ | refine h0g ?_ | refine h1c ?_ | refine h2w ?_ | refine h0n rfl ?_ | (refine gR 0 (p_a (h:=h0c ?_))) | (refine gR 2 (q_m ?_) <;> (try refine h0a ?_; (refine h0w (F:=86) (by kernel_rfl) rfl rfl (len64_c _ x rfl hx) ?_; rintro _ _ ⟨rfl, rfl⟩)) <;> (try refine p_a (h:=h0c ?_))))
 (refine h2h Try.results56 (.tmp rfl .nil) ?_)
 exact ⟨_, ⟨rfl, rfl⟩, by intro w H; refine H.sub ?_; (try simp only [zzC, zzN]); repeat (exact List.Sublist.refl _)⟩
theorem pow2_c {S w0 L} (z : Int) (x : Nat) (hz : z = (x : Nat)) (hx : x < 256) : Fn Try.prog 92 #[.int .i64 z] S w0 L fun v L' => v = .int .u64 (2 ^ bl8 x : Nat) ∧ L = L' := by
 subst hz
 have hb := (bl8_le ⟨x, hx⟩).1
 dsimp only at hb
 have h2 : (2 : Nat) ^ bl8 x ≤ 2 ^ 8 := Nat.pow_le_pow_right (by omega) hb
 have h3 : IntKind.u64.wrap (1 * 2 ^ (min ((bl8 x : Nat) : Int).toNat 64)) = ((2 ^ bl8 x : Nat) : Int) := by
  have e : (2 : Int) ^ bl8 x = ((2 ^ bl8 x : Nat) : Int) := by simp
  rw [Int.toNat_natCast, Nat.min_eq_left (by omega), Int.one_mul, e]
  generalize 2 ^ bl8 x = m at *
  exact IntWalk.u64_in _ (by omega)
 refine Fn1 Try.func92 Try.ntmps92 rfl rfl ?_
 repeat' (first | refine h0u ?_ | refine h0g ?_ | refine h2w ?_ | (refine gR 0 (p_a (h:=h0c ?_))) | (refine gR 1 (q_m ?_) <;> (try refine q_e (by apply h3h; exact rfl; (focus (apply h3g Try.underlying3 Try.underlying156; first | (refine IntWalk.i64_in _ ?_; omega) | (refine IntWalk.u8_in _ ?_; omega) | (refine IntWalk.u16_in _ ?_; omega) | (refine IntWalk.u32_in _ ?_; omega) | (refine IntWalk.u64_in _ ?_; omega) | (refine IntWalk.i32_in _ ?_; omega) | exact rfl))) ?_) <;> (try refine h0a ?_; (refine h0w (F:=56) (by kernel_rfl) rfl rfl (bitLen_c _ x rfl hx) ?_; rintro _ _ ⟨rfl, rfl⟩)) <;> (try refine p_e (q_b (r:=by apply rb_shl; omega; (focus (simp only [IntKind.bits]; exact rfl)))) (h:=p_a (h:=h0c ?_)))))
 (refine h2h Try.results92 (.tmp rfl .nil) ?_)
 exact ⟨_, ⟨by rw [h3]; rfl, rfl⟩, by intro w H; refine H.sub ?_; (try simp only [zzC, zzN]); repeat (exact List.Sublist.refl _)⟩
theorem u64_rng (a : Int) : 0 ≤ IntKind.u64.wrap a ∧ IntKind.u64.wrap a < 18446744073709551616 := by
 rw [IntKind.wrap_u64]; omega
theorem xor_rng {a b : Int} (ha : 0 ≤ a ∧ a < 18446744073709551616) (hb : 0 ≤ b ∧ b < 18446744073709551616) : 0 ≤ ixor a b ∧ ixor a b < 18446744073709551616 := ixor_lt a b 64 ha hb
theorem shr_rng {a : Int} {k : Nat} (ha : 0 ≤ a ∧ a < 18446744073709551616) : 0 ≤ a.fdiv (2 ^ k) ∧ a.fdiv (2 ^ k) < 18446744073709551616 := by
 have h : (0 : Int) < 2 ^ k := Int.pow_pos (by omega)
 rw [Int.fdiv_eq_ediv_of_nonneg _ (by omega)]
 have h1 := Int.ediv_nonneg ha.1 (Int.le_of_lt h)
 have h2 := Int.ediv_le_self (2 ^ k) ha.1
 omega
abbrev xsB (b : Nat) (s : Int) : Blk := ⟨true, b, .cells #[.int .u64 s] 191 (0, 0)⟩
theorem xnext_c {S w0 L} (b : Nat) (s : Int) (hs : 0 ≤ s ∧ s < 18446744073709551616) : Fn Try.prog 93 #[.pointer (some ⟨b, 0, none⟩)] S w0 (xsB b s :: L) fun v L' => ∃ s', (0 ≤ s' ∧ s' < 18446744073709551616) ∧ v = .int .u64 s' ∧ xsB b s' :: L = L' := by
 refine Fn1 Try.func93 Try.ntmps93 rfl rfl ?_
 have w1 := u64_rng (s * 2 ^ min (Int.toNat 13) 64)
 have hs1 := xor_rng hs w1
 repeat' (first | (refine h3s (id:=2) ?_) | refine h0u ?_ | refine h0g ?_ | (refine gR 0 (p_a (h:=h0c ?_))) | ((apply h2m (i:=0) (id:=1) (m:=10); exact c_15; kernel_rfl; exact rfl) <;> (try refine q_t 0 (e:=h1b) (x:=by exact h0b rfl) (h:=q_t 1 (e:=h1b) (x:=by exact h0i rfl) (h:=q_t 3 (e:=h1b) (x:=by exact h0b rfl) (h:=q_t 4 (e:=h1b) (x:=by exact h0i rfl) (h:=?_))))) <;> (try refine h4c (i:=2) (j:=5) rfl rfl (by kernel_rfl) ?_ ?_ <;> (first | (refine TagA.mk ?_; (((refine q_k q_l ?_); refine h2e h1b ?_) <;> (try refine q_r 5 ?_; (refine q_k q_l ?_); refine h2e h1b ?_) <;> (try refine q_t 6 (e:=h1b) (x:=by exact q_b (r:=by apply rb_shl; omega; (focus (simp only [IntKind.bits]; exact rfl)))) (h:=?_)) <;> (try refine q_t 7 (e:=h1b) (x:=by exact q_b (r:=by refine rb_xor ?_ ?_; (focus (refine ⟨rfl, ⟨?_, ?_⟩⟩; omega; (focus (simp only [IntKind.bits]; omega)))); (focus (refine ⟨rfl, ⟨?_, ?_⟩⟩; omega; (focus (simp only [IntKind.bits]; omega)))))) (h:=?_)) <;> (try refine q_t 8 (e:=h1b) (x:=by exact h0i rfl) (h:=?_)) <;> (try refine q_r 9 ?_; (refine q_S ?_); refine h2e h1b ?_) <;> (try refine h1o (by kernel_rfl) ?_))) | (refine TagB.mk ?_; (((refine q_k q_l ?_); refine h2e h1b ?_) <;> (try refine q_t 6 (e:=h1b) (x:=by exact q_b (r:=by apply rb_shl; omega; (focus (simp only [IntKind.bits]; exact rfl)))) (h:=?_)) <;> (try refine q_r 2 ?_; (refine q_k q_l ?_); refine h2e h1b ?_) <;> (try refine q_t 7 (e:=h1b) (x:=by exact q_b (r:=by refine rb_xor ?_ ?_; (focus (refine ⟨rfl, ⟨?_, ?_⟩⟩; omega; (focus (simp only [IntKind.bits]; omega)))); (focus (refine ⟨rfl, ⟨?_, ?_⟩⟩; omega; (focus (simp only [IntKind.bits]; omega)))))) (h:=?_)) <;> (try refine q_t 8 (e:=h1b) (x:=by exact h0i rfl) (h:=?_)) <;> (try refine q_r 9 ?_; (refine q_S ?_); refine h2e h1b ?_) <;> (try refine h1o (by kernel_rfl) ?_)))))))
 all_goals
  refine ⟨?_⟩
  generalize ixor s (IntKind.u64.wrap (s * 2 ^ min (Int.toNat 13) 64)) = s1 at *
  clear w1
  have w2 := shr_rng (k:=min (Int.toNat 7) 64) hs1
  have hs2 := xor_rng hs1 w2
  repeat' (first | (refine h3s (id:=3) ?_) | refine h0u ?_ | refine h0g ?_ | ((apply h2m (i:=0) (id:=2) (m:=10); exact c_15; kernel_rfl; exact rfl) <;> (try refine q_t 0 (e:=h1b) (x:=by exact h0b rfl) (h:=q_t 1 (e:=h1b) (x:=by exact h0i rfl) (h:=q_t 3 (e:=h1b) (x:=by exact h0b rfl) (h:=q_t 4 (e:=h1b) (x:=by exact h0i rfl) (h:=?_))))) <;> (try refine h4c (i:=2) (j:=5) rfl rfl (by kernel_rfl) ?_ ?_ <;> (first | (refine TagA.mk ?_; (((refine q_k q_l ?_); refine h2e h1b ?_) <;> (try refine q_r 5 ?_; (refine q_k q_l ?_); refine h2e h1b ?_) <;> (try refine q_t 6 (e:=h1b) (x:=by exact q_b (r:=by apply rb_shr; omega; (focus (simp only [IntKind.bits]; exact rfl)))) (h:=?_)) <;> (try refine q_t 7 (e:=h1b) (x:=by exact q_b (r:=by refine rb_xor ?_ ?_; (focus (refine ⟨rfl, ⟨?_, ?_⟩⟩; omega; (focus (simp only [IntKind.bits]; omega)))); (focus (refine ⟨rfl, ⟨?_, ?_⟩⟩; omega; (focus (simp only [IntKind.bits]; omega)))))) (h:=?_)) <;> (try refine q_t 8 (e:=h1b) (x:=by exact h0i rfl) (h:=?_)) <;> (try refine q_r 9 ?_; (refine q_S ?_); refine h2e h1b ?_) <;> (try refine h1o (by kernel_rfl) ?_))) | (refine TagB.mk ?_; (((refine q_k q_l ?_); refine h2e h1b ?_) <;> (try refine q_t 6 (e:=h1b) (x:=by exact q_b (r:=by apply rb_shr; omega; (focus (simp only [IntKind.bits]; exact rfl)))) (h:=?_)) <;> (try refine q_r 2 ?_; (refine q_k q_l ?_); refine h2e h1b ?_) <;> (try refine q_t 7 (e:=h1b) (x:=by exact q_b (r:=by refine rb_xor ?_ ?_; (focus (refine ⟨rfl, ⟨?_, ?_⟩⟩; omega; (focus (simp only [IntKind.bits]; omega)))); (focus (refine ⟨rfl, ⟨?_, ?_⟩⟩; omega; (focus (simp only [IntKind.bits]; omega)))))) (h:=?_)) <;> (try refine q_t 8 (e:=h1b) (x:=by exact h0i rfl) (h:=?_)) <;> (try refine q_r 9 ?_; (refine q_S ?_); refine h2e h1b ?_) <;> (try refine h1o (by kernel_rfl) ?_)))))))
 all_goals
  refine ⟨?_⟩
  generalize ixor s1 (s1.fdiv (2 ^ min (Int.toNat 7) 64)) = s2 at *
  clear w2 hs1 hs
  have w3 := u64_rng (s2 * 2 ^ min (Int.toNat 17) 64)
  have hs3 := xor_rng hs2 w3
  repeat' (first | refine h0u ?_ | refine h0g ?_ | refine h2w ?_ | ((apply h2m (i:=0) (id:=3) (m:=10); exact c_15; kernel_rfl; exact rfl) <;> (try refine q_t 0 (e:=h1b) (x:=by exact h0b rfl) (h:=q_t 1 (e:=h1b) (x:=by exact h0i rfl) (h:=q_t 3 (e:=h1b) (x:=by exact h0b rfl) (h:=q_t 4 (e:=h1b) (x:=by exact h0i rfl) (h:=?_))))) <;> (try refine h4c (i:=2) (j:=5) rfl rfl (by kernel_rfl) ?_ ?_ <;> (first | (refine TagA.mk ?_; (((refine q_k q_l ?_); refine h2e h1b ?_) <;> (try refine q_r 5 ?_; (refine q_k q_l ?_); refine h2e h1b ?_) <;> (try refine q_t 6 (e:=h1b) (x:=by exact q_b (r:=by apply rb_shl; omega; (focus (simp only [IntKind.bits]; exact rfl)))) (h:=?_)) <;> (try refine q_t 7 (e:=h1b) (x:=by exact q_b (r:=by refine rb_xor ?_ ?_; (focus (refine ⟨rfl, ⟨?_, ?_⟩⟩; omega; (focus (simp only [IntKind.bits]; omega)))); (focus (refine ⟨rfl, ⟨?_, ?_⟩⟩; omega; (focus (simp only [IntKind.bits]; omega)))))) (h:=?_)) <;> (try refine q_t 8 (e:=h1b) (x:=by exact h0i rfl) (h:=?_)) <;> (try refine q_r 9 ?_; (refine q_S ?_); refine h2e h1b ?_) <;> (try refine h1o (by kernel_rfl) ?_))) | (refine TagB.mk ?_; (((refine q_k q_l ?_); refine h2e h1b ?_) <;> (try refine q_t 6 (e:=h1b) (x:=by exact q_b (r:=by apply rb_shl; omega; (focus (simp only [IntKind.bits]; exact rfl)))) (h:=?_)) <;> (try refine q_r 2 ?_; (refine q_k q_l ?_); refine h2e h1b ?_) <;> (try refine q_t 7 (e:=h1b) (x:=by exact q_b (r:=by refine rb_xor ?_ ?_; (focus (refine ⟨rfl, ⟨?_, ?_⟩⟩; omega; (focus (simp only [IntKind.bits]; omega)))); (focus (refine ⟨rfl, ⟨?_, ?_⟩⟩; omega; (focus (simp only [IntKind.bits]; omega)))))) (h:=?_)) <;> (try refine q_t 8 (e:=h1b) (x:=by exact h0i rfl) (h:=?_)) <;> (try refine q_r 9 ?_; (refine q_S ?_); refine h2e h1b ?_) <;> (try refine h1o (by kernel_rfl) ?_)))))) | (refine gR 4 (p_m (h:=p_n (h:=p_e q_l (h:=p_a (h:=h0c ?_)))))))
 all_goals
  (refine h2h Try.results93 (.tmp rfl .nil) ?_)
  exact ⟨_, ⟨_, hs3, rfl, rfl⟩, by intro w H; refine H.sub ?_; (try simp only [zzC, zzN]); repeat (exact List.Sublist.refl _)⟩
abbrev swBT (b : Nat) (s : Int) : Blk := ⟨true, b, .cells #[.int .i64 s] 3 (0, 0)⟩
theorem ordT_c {S w0 L} (b n cap sb : Nat) (r : List Value) (l : List Int) (s : Int) (x y : Int) (p q : Nat) (hp : x = (p : Nat)) (hq : y = (q : Nat)) (hl : l.length = n) (hn : n ≤ 255) (hpn : p < n) (hqn : q < n) (hs : 0 ≤ s ∧ s ≤ 100) :
  Fn Try.prog 100 #[.slice (some ⟨b, 0, none⟩) n cap, .int .i64 x, .int .i64 y, .pointer (some ⟨sb, 0, none⟩)] S w0 (swBT sb s :: h5l b l r :: L) fun v L' => ∃ s' p' q' : Nat, v = .tuple #[.int .i64 (p' : Nat), .int .i64 (q' : Nat)] ∧ (p' = p ∧ q' = q ∨ p' = q ∧ q' = p) ∧ (s ≤ s' ∧ s' ≤ s + 1) ∧ swBT sb s' :: h5l b l r :: L = L' := by
 subst hp hq
 obtain ⟨s, rfl⟩ : ∃ m : Nat, s = m := ⟨s.toNat, by omega⟩
 have g1 := h2y (l:=l) (r:=r) (k:=p) (by omega)
 have g2 := h2y (l:=l) (r:=r) (k:=q) (by omega)
 have g3 := h4a (l:=l) (r:=r)
 refine Fn4 Try.func100 Try.ntmps100 rfl rfl ?_
 repeat' (first | refine h0u ?_ | refine h0g ?_ | refine h1v ?_ | refine h1c ?_ | refine h2w ?_ | (refine gR 0 (p_a (h:=p_a (h:=h0c ?_)))) | ((refine h1u (id:=1) (m:=9) (by kernel_rfl) rfl (q_u 0 (x:=by exact h0b rfl) (h:=q_u 1 (x:=by exact h0b rfl) (h:=q_u 2 (x:=by apply h0d; exact rfl; exact rfl; (focus (apply h0x Try.underlying47 h2l; omega; omega; exact c_2))) (h:=q_u 3 (x:=by apply h0f (t:=33); exact rfl; exact h4d; kernel_rfl; kernel_rfl; (with_reducible assumption)) (h:=q_u 4 (x:=by exact h0b rfl) (h:=q_u 5 (x:=by exact h0b rfl) (h:=q_u 6 (x:=by apply h0d; exact rfl; exact rfl; (focus (apply h0x Try.underlying47 h2l; omega; omega; exact c_2))) (h:=q_u 7 (x:=by apply h0f (t:=33); exact rfl; exact h4d; kernel_rfl; kernel_rfl; (with_reducible assumption)) (h:=?_)))))))))) <;> (try refine q_r 8 ?_; (refine h0w (F:=82) (by kernel_rfl) rfl rfl (h5o _ _) ?_; rintro _ _ ⟨rfl, rfl⟩); refine h2e (fun _ H => H) ?_) <;> (try refine h1o (by kernel_rfl) ?_)) | (refine gR 2 (p_m (h:=p_n (h:=q_e q_l ?_))) <;> (try refine q_e (q_b (r:=by apply h0z; exact c_9; (focus (refine IntWalk.i64_in _ ?_; omega)))) ?_) <;> (try refine q_n ?_) <;> (try refine h0a ?_; (refine q_S ?_)) <;> (try refine h0c ?_)) | (refine gR 3 (p_m (h:=p_m (h:=p_a (h:=p_a (h:=h0c ?_)))))) | (refine gR 4 (p_m (h:=p_m (h:=p_a (h:=p_a (h:=h0c ?_)))))) | ((refine h1x rfl (fun hc => ?_) (fun hc => ?_)) <;> (try subst hc)))
 ·(refine h2h Try.results100 (.tmp rfl (.tmp rfl .nil)) ?_)
  exact ⟨_, ⟨s + 1, q, p, rfl, .inr ⟨rfl, rfl⟩, by omega, rfl⟩, by intro w H; refine H.sub ?_; (try simp only [zzC, zzN]); repeat (exact List.Sublist.refl _)⟩
 ·(refine h2h Try.results100 (.tmp rfl (.tmp rfl .nil)) ?_)
  exact ⟨_, ⟨s, p, q, rfl, .inl ⟨rfl, rfl⟩, by omega, rfl⟩, by intro w H; refine H.sub ?_; (try simp only [zzC, zzN]); repeat (exact List.Sublist.refl _)⟩
theorem medT_c {S w0 L} (b n cap sb : Nat) (r : List Value) (l : List Int) (s : Int) (x y z : Int) (p q u : Nat) (hp : x = (p : Nat)) (hq : y = (q : Nat)) (hu : z = (u : Nat)) (hl : l.length = n) (hn : n ≤ 255) (hpn : p < n) (hqn : q < n) (hun : u < n) (hs : 0 ≤ s ∧ s ≤ 50) :
  Fn Try.prog 95 #[.slice (some ⟨b, 0, none⟩) n cap, .int .i64 x, .int .i64 y, .int .i64 z, .pointer (some ⟨sb, 0, none⟩)] S w0 (swBT sb s :: h5l b l r :: L) fun v L' => ∃ s' p' : Nat, v = .int .i64 (p' : Nat) ∧ (p' = p ∨ p' = q ∨ p' = u) ∧ (s ≤ s' ∧ s' ≤ s + 3) ∧ swBT sb s' :: h5l b l r :: L = L' := by
 subst hp hq hu
 refine Fn5 Try.func95 Try.ntmps95 rfl rfl ?_
 repeat' (first | (refine h3s (id:=2) ?_) | refine h0u ?_ | refine h0g ?_ | (refine gR 0 (p_a (h:=h0c ?_))) | (refine gR 1 (p_m (h:=p_m (h:=p_m (h:=q_m ?_)))) <;> (try refine h0a ?_; (refine h0w (F:=100) (by kernel_rfl) rfl rfl (ordT_c b n cap sb r l _ _ _ p q rfl rfl hl hn hpn hqn (by omega)) ?_; rintro _ _ ⟨s1, p1, q1, rfl, h1, k1, rfl⟩)) <;> (try refine p_m (h:=p_x (h:=p_x (h:=p_a (h:=p_a (h:=h0c ?_))))))))
 refine ⟨?_⟩
 repeat' (first | (refine h3s (id:=3) ?_) | refine h0u ?_ | refine h0g ?_ | (refine gR 2 (p_m (h:=p_m (h:=p_m (h:=q_m ?_)))) <;> (try refine h0a ?_; (refine h0w (F:=100) (by kernel_rfl) rfl rfl (ordT_c b n cap sb r l _ _ _ q1 u rfl rfl hl hn (by omega) hun (by omega)) ?_; rintro _ _ ⟨s2, p2, q2, rfl, h2, k2, rfl⟩)) <;> (try refine p_m (h:=p_x (h:=p_x (h:=p_a (h:=p_a (h:=h0c ?_))))))))
 refine ⟨?_⟩
 repeat' (first | refine h0u ?_ | refine h0g ?_ | refine h2w ?_ | (refine gR 3 (p_m (h:=p_m (h:=p_m (h:=q_m ?_)))) <;> (try refine h0a ?_; (refine h0w (F:=100) (by kernel_rfl) rfl rfl (ordT_c b n cap sb r l _ _ _ p1 p2 rfl rfl hl hn (by omega) (by omega) (by omega)) ?_; rintro _ _ ⟨s3, p3, q3, rfl, h3, k3, rfl⟩)) <;> (try refine p_m (h:=p_x (h:=p_x (h:=p_a (h:=p_a (h:=h0c ?_))))))) | (refine gR 4 (p_m (h:=p_a (h:=h0c ?_)))))
 (refine h2h Try.results95 (.tmp rfl .nil) ?_)
 exact ⟨_, ⟨s3, q3, rfl, by omega, by omega, rfl⟩, by intro w H; refine H.sub ?_; (try simp only [zzC, zzN]); repeat (exact List.Sublist.refl _)⟩
theorem madT_c {S w0 L} (b n cap sb : Nat) (r : List Value) (l : List Int) (s : Int) (x : Int) (p : Nat) (hp : x = (p : Nat)) (hl : l.length = n) (hn : n ≤ 255) (hpn : 1 ≤ p ∧ p + 1 < n) (hs : 0 ≤ s ∧ s ≤ 50) :
  Fn Try.prog 94 #[.slice (some ⟨b, 0, none⟩) n cap, .int .i64 x, .pointer (some ⟨sb, 0, none⟩)] S w0 (swBT sb s :: h5l b l r :: L) fun v L' => ∃ s' p' : Nat, v = .int .i64 (p' : Nat) ∧ (p - 1 ≤ p' ∧ p' ≤ p + 1) ∧ (s ≤ s' ∧ s' ≤ s + 3) ∧ swBT sb s' :: h5l b l r :: L = L' := by
 subst hp
 refine Fn3 Try.func94 Try.ntmps94 rfl rfl ?_
 repeat' (first | refine h0u ?_ | refine h0g ?_ | refine h2w ?_ | (refine gR 0 (p_a (h:=h0c ?_))) | (refine gR 1 (p_m (h:=q_m ?_)) <;> (try refine q_e (q_b (r:=by apply h2z; exact c_9; (focus (refine IntWalk.i64_in _ ?_; omega)))) ?_) <;> (try refine p_m (h:=q_m ?_)) <;> (try refine q_e (q_b (r:=by apply h0z; exact c_9; (focus (refine IntWalk.i64_in _ ?_; omega)))) ?_) <;> (try refine q_m ?_) <;> (try refine h0a ?_; (refine h0w (F:=95) (by kernel_rfl) rfl rfl (medT_c b n cap sb r l _ _ _ _ (p - 1) p (p + 1) (by omega) rfl (by omega) hl hn (by omega) (by omega) (by omega) (by omega)) ?_; rintro _ _ ⟨s1, p1, rfl, h1, k1, rfl⟩)) <;> (try refine p_a (h:=h0c ?_))))
 (refine h2h Try.results94 (.tmp rfl .nil) ?_)
 exact ⟨_, ⟨s1, p1, rfl, by omega, by omega, rfl⟩, by intro w H; refine H.sub ?_; (try simp only [zzC, zzN]); repeat (exact List.Sublist.refl _)⟩
theorem pivT_c {S w0 L} (b n cap : Nat) (r : List Value) (l : List Int) (x y : Int) (a c : Nat) (hx : x = (a : Nat)) (hy : y = (c : Nat)) (hl : l.length = n) (hn : n ≤ 255) (hc : c ≤ n) (hac : a + 12 < c) :
  Fn Try.prog 79 #[.slice (some ⟨b, 0, none⟩) n cap, .int .i64 x, .int .i64 y] S w0 (h5l b l r :: L) fun v L' => ∃ p h : Nat, v = .tuple #[.int .i64 (p : Nat), .int .i64 (h : Nat)] ∧ (a ≤ p ∧ p < c) ∧ h ≤ 2 ∧ h5l b l r :: L = L' := by
 subst hx hy
 refine Fn3 Try.func79 Try.ntmps79 rfl rfl ?_
 repeat' (first | (refine G_markc (t:=34) ?_) | refine h0u ?_ | refine h0g ?_ | refine h0s rfl ?_ | (refine gR 0 (p_a (h:=p_a (h:=h0c ?_)))) | (refine gR 1 (p_m (h:=q_m ?_)) <;> (try refine q_e (q_b (r:=by apply h2z; exact c_9; (focus (refine IntWalk.i64_in _ ?_; omega)))) ?_) <;> (try refine p_a (h:=h0c ?_))) | (refine gR 2 ?_ <;> (try refine h0a ?_; (refine h2b (t:=3) rfl Try.zeroValue3 ?_; intro nb hnb; (try simp only [Value.cells]))) <;> (try refine h0c ?_)) | (refine gR 3 (p_m (h:=q_m ?_)) <;> (try refine q_e (q_b (r:=by apply rb_quo; omega; omega; exact c_9; (focus (refine IntWalk.i64_in _ ?_; omega)))) ?_) <;> (try refine q_e (q_b (r:=by apply h5q; exact c_9; (focus (refine IntWalk.i64_in _ ?_; omega)))) ?_) <;> (try refine q_e (q_b (r:=by apply h0z; exact c_9; (focus (refine IntWalk.i64_in _ ?_; omega)))) ?_) <;> (try refine p_a (h:=h0c ?_))) | (refine gR 4 (p_m (h:=q_m ?_)) <;> (try refine q_e (q_b (r:=by apply rb_quo; omega; omega; exact c_9; (focus (refine IntWalk.i64_in _ ?_; omega)))) ?_) <;> (try refine q_e (q_b (r:=by apply h5q; exact c_9; (focus (refine IntWalk.i64_in _ ?_; omega)))) ?_) <;> (try refine q_e (q_b (r:=by apply h0z; exact c_9; (focus (refine IntWalk.i64_in _ ?_; omega)))) ?_) <;> (try refine p_a (h:=h0c ?_))) | (refine gR 5 (p_m (h:=q_m ?_)) <;> (try refine q_e (q_b (r:=by apply rb_quo; omega; omega; exact c_9; (focus (refine IntWalk.i64_in _ ?_; omega)))) ?_) <;> (try refine q_e (q_b (r:=by apply h5q; exact c_9; (focus (refine IntWalk.i64_in _ ?_; omega)))) ?_) <;> (try refine q_e (q_b (r:=by apply h0z; exact c_9; (focus (refine IntWalk.i64_in _ ?_; omega)))) ?_) <;> (try refine p_a (h:=h0c ?_))) | (refine gR 6 (p_m (h:=p_e (q_b (r:=by exact h3q q_o)) (h:=h0c ?_)))) | (refine gR 7 (p_m (h:=p_e (q_b (r:=by exact rb_geq)) (h:=h0c ?_)))))
 refine ⟨?_⟩
 refine h3x (γ:=Nat × Nat × Nat × Nat) (fun g => (g.1 ≤ 9) ∧ (a ≤ g.2.1 ∧ g.2.1 < c) ∧ (a ≤ g.2.2.1 ∧ g.2.2.1 < c) ∧ (a ≤ g.2.2.2 ∧ g.2.2.2 < c)) (fun g => [(10, .int .i64 (g.2.1 : Nat)), (11, .int .i64 (g.2.2.1 : Nat)), (12, .int .i64 (g.2.2.2 : Nat))]) [(0, _), (9, _)]
  (fun g => swBT nb (g.1 : Nat) :: h5l b l r :: L) (.cons rfl (.cons rfl .nil)) ?_ ?_
 ·refine h1x rfl (fun hc => ?_) (fun hc => ?_)
  ·repeat' (first | (refine h3s (id:=9) ?_) | refine h0u ?_ | refine h0g ?_ | (refine gR 8 (p_m (h:=q_m ?_)) <;> (try refine h0a ?_; (refine h0w (F:=94) (by kernel_rfl) rfl rfl (madT_c b n cap nb r l _ _ (a + (c - a) / 4) (by omega) hl hn (by omega) (by omega)) ?_; rintro _ _ ⟨s1, p1, rfl, h1, k1, rfl⟩)) <;> (try refine p_a (h:=h0c ?_))))
   refine ⟨?_⟩
   repeat' (first | (refine h3s (id:=10) ?_) | refine h0g ?_ | (refine gR 9 (p_m (h:=q_m ?_)) <;> (try refine h0a ?_; (refine h0w (F:=94) (by kernel_rfl) rfl rfl (madT_c b n cap nb r l _ _ (a + (c - a) / 4 * 2) (by omega) hl hn (by omega) (by omega)) ?_; rintro _ _ ⟨s2, p2, rfl, h2, k2, rfl⟩)) <;> (try refine p_a (h:=h0c ?_))))
   refine ⟨?_⟩
   repeat' (first | refine h0q ?_ | (refine gR 10 (p_m (h:=q_m ?_)) <;> (try refine h0a ?_; (refine h0w (F:=94) (by kernel_rfl) rfl rfl (madT_c b n cap nb r l _ _ (a + (c - a) / 4 * 3) (by omega) hl hn (by omega) (by omega)) ?_; rintro _ _ ⟨s3, p3, rfl, h3, k3, rfl⟩)) <;> (try refine p_a (h:=h0c ?_))))
   refine h1p (s3, p1, p2, p3) ⟨by simp; omega, by simp; omega, by simp; omega, by simp; omega⟩ (by (focus (repeat (first | exact Sub.nil | refine Sub.cons rfl ?_)))) (fun _ H => H)
  ·repeat' (first | refine h0q ?_ | refine h1c ?_)
   refine h1p (0, a + (c - a) / 4, a + (c - a) / 4 * 2, a + (c - a) / 4 * 3) ⟨by simp, by simp; omega, by simp; omega, by simp; omega⟩ (by (focus (repeat (first | exact Sub.nil | refine Sub.cons rfl ?_ | (refine Sub.cons (congrArg some ?_) ?_; (focus go_num)))))) (fun _ H => H)
 rintro ⟨s0, i, j, k⟩ ⟨h0 : s0 ≤ 9, h1 : a ≤ i ∧ i < c, h2 : a ≤ j ∧ j < c, h3 : a ≤ k ∧ k < c⟩
 dsimp only [List.cons_append, List.nil_append]
 repeat' (first | refine h0u ?_ | refine h0g ?_ | refine h2j ?_ | refine h0p ?_ | refine h2w ?_ | (refine gR 11 (p_m (h:=p_m (h:=p_m (h:=q_m ?_)))) <;> (try refine h0a ?_; (refine h0w (F:=95) (by kernel_rfl) rfl rfl (medT_c b n cap nb r l _ _ _ _ i j k rfl rfl rfl hl hn (by omega) (by omega) (by omega) (by omega)) ?_; rintro _ _ ⟨s4, p4, rfl, h4, k4, rfl⟩)) <;> (try refine p_a (h:=h0c ?_))) | (refine gR 12 (p_e q_l (h:=h0c ?_))) | (refine gR 14 (p_e (q_b (r:=by exact h1a)) (h:=p_a (h:=h0c ?_)))) | (refine gR 15 (p_m (h:=p_a (h:=p_a (h:=h0c ?_))))) | (refine gR 16 (p_e (q_b (r:=by exact h1a)) (h:=p_a (h:=h0c ?_)))) | (refine gR 17 (p_m (h:=p_a (h:=p_a (h:=h0c ?_))))) | (refine gR 13 (p_m (h:=p_a (h:=p_a (h:=h0c ?_))))) | ((refine h1x rfl (fun hc => ?_) (fun hc => ?_)) <;> (try subst hc)))
 ·(refine h2h Try.results79 (.tmp rfl (.tmp rfl .nil)) ?_)
  exact ⟨_, ⟨p4, 1, rfl, by omega, by omega, rfl⟩, by intro w H; refine H.sub ?_; (try simp only [zzC, zzN]); repeat (first | exact List.Sublist.refl _ | refine List.Sublist.cons _ ?_)⟩
 ·(refine h2h Try.results79 (.tmp rfl (.tmp rfl .nil)) ?_)
  exact ⟨_, ⟨p4, 2, rfl, by omega, by omega, rfl⟩, by intro w H; refine H.sub ?_; (try simp only [zzC, zzN]); repeat (first | exact List.Sublist.refl _ | refine List.Sublist.cons _ ?_)⟩
 ·(refine h2h Try.results79 (.tmp rfl (.tmp rfl .nil)) ?_)
  exact ⟨_, ⟨p4, 0, rfl, by omega, by omega, rfl⟩, by intro w H; refine H.sub ?_; (try simp only [zzC, zzN]); repeat (first | exact List.Sublist.refl _ | refine List.Sublist.cons _ ?_)⟩
end Go.Proofs.Ytpbpgbkpciffgaa
