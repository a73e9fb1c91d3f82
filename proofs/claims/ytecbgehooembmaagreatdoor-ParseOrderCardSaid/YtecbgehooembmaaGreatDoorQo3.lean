/- Part 3 of what the last text of this claim leans on: rules of walks, contracts, plain facts. Conditions: those of each statement. -/
import Derived.Test.YtecbgehooembmaaGreatDoorQo2
set_option maxRecDepth 100000
namespace Go.Proofs.YtecbgehooembmaaGreatDoor
open Go Go.RowKit
structure Tk where
 kind : Nat
 text : List UInt8
 num : Nat
 line : Nat
 col : Nat
def Tk.cells (t : Tk) : List Value := [.int .u8 (t.kind : Nat), .string (mB8 t.text), .int .u64 (t.num : Nat), .int .i64 (t.line : Nat), .int .i64 (t.col : Nat)]
def h4o (l : List Tk) : List Value := l.flatMap Tk.cells
theorem flatTk_snoc (l : List Tk) (t : Tk) : h4o (l ++ [t]) = h4o l ++ t.cells := by simp [h4o]
theorem flatTk_len (l : List Tk) : (h4o l).length = l.length * 5 := by
 induction l with
 | nil => rfl
 | cons t r ih => rw [h4o, List.flatMap_cons, List.length_append]; rw [h4o] at ih; rw [ih, List.length_cons]; simp only [Tk.cells, List.length_cons, List.length_nil]; omega
def sgns : List (List UInt8) := [[61, 61], [33, 61], [60], [60, 61], [62], [62, 61], [38]]
theorem sgn_eq {t : ByteArray} {l : List UInt8} : lB t = l ↔ t = mB8 l := ⟨fun h => by rw [← h, mB8_lB], fun h => by rw [h, h4g]⟩
def h4e (k : Nat) (t : List UInt8) : Nat × Nat :=
 if k = 2 then (match numF t with | none => (204, 0) | some n => (0, n))
 else if k = 3 then (if t.length > 120 then (36, 0) else (0, 0))
 else if k = 4 then (if t ∈ sgns then (0, 0) else (202, 0))
 else (0, 0)
abbrev tkB (b : Nat) (k : Int) (t : ByteArray) (num : Int) (lv cv : Value) : Blk := ⟨true, b, .cells [.int .u8 k, .string t, .int .u64 num, lv, cv].toArray 166 (0, 0)⟩
set_option maxHeartbeats 2000000 in
theorem right_c {S w0 L} (p lv cv : Value) (b : Nat) (k : Int) (t : ByteArray) (ht : t.size ≤ 1000000) (hk : k = 1 ∨ k = 2 ∨ k = 3 ∨ k = 4) :
  Fn Tryz.prog 78 #[p, .pointer (some ⟨b, 0, none⟩)] S w0 (tkB b k t 0 lv cv :: L) fun r L' => r = .int .i64 ((h4e k.toNat (lB t)).1 : Nat) ∧ tkB b k t ((h4e k.toNat (lB t)).2 : Nat) lv cv :: L = L' := by
 rcases hk with rfl | rfl | rfl | rfl
 ·refine Fn2 Tryz.func78 Tryz.ntmps78 rfl rfl ?_
  repeat' (first | refine h0p ?_ | refine h0e ?_ | refine h0x ?_ | refine h0r ?_ | refine h0u ?_ | refine h1h ?_ | refine h0h rfl ?_ | (refine gR 0 (p_a (h:=h0d ?_))) | (refine gR 1 (p_m (h:=p_n (h:=p_e (q_f h4k) (h:=p_e q_l (h:=h0d ?_)))))) | (refine gR 2 (p_e (q_b (r:=by exact h1o q_o)) (h:=p_a (h:=h0d ?_)))) | (refine gR 7 (p_e (q_b (r:=by exact h1o q_o)) (h:=p_a (h:=h0d ?_)))) | (refine gR 10 (p_e (q_b (r:=by exact h1o q_o)) (h:=p_a (h:=h0d ?_)))) | (refine gR 21 (p_a (h:=h0d ?_))))
  (refine h0v Tryz.results78 (.tmp rfl .nil) ?_)
  exact ⟨_, ⟨rfl, rfl⟩, fun _ H => H⟩
 ·have hn := fun (L : List Blk) => number_c (S:=S) (w0:=w0) (L:=L) t ht
  have e : h4e (2 : Int).toNat (lB t) = (match numF (lB t) with | none => (204, 0) | some n => (0, n)) := rfl
  rw [e]
  cases hq : numF (lB t) with
  | none =>
   simp only [hq, Option.getD_none, Option.isSome_none] at hn
   clear e hq
   refine Fn2 Tryz.func78 Tryz.ntmps78 rfl rfl ?_
   repeat' (first | refine h0p ?_ | refine h0e ?_ | refine h1f ?_ | refine h2p ?_ | refine h0r ?_ | refine h1h ?_ | refine h0j rfl ?_ | (refine gR 0 (p_a (h:=h0d ?_))) | (refine gR 1 (p_m (h:=p_n (h:=p_e (q_f h4k) (h:=p_e q_l (h:=h0d ?_)))))) | (refine gR 2 ?_ <;> (try refine q_e (by exact q_b (r:=by refine h1i ?_; first | rfl | (with_reducible assumption) | (decide; done) | omega)) ?_) <;> (try refine p_a (h:=h0d ?_))) | (refine gR 3 (p_m (h:=p_n (h:=p_e (q_f h1m) (h:=q_e q_l ?_)))) <;> (try refine h0f ?_; (refine h1k (F:=97) (by kernel_rfl) rfl rfl (hn _) ?_; rintro _ _ ⟨rfl, rfl⟩)) <;> (try refine p_m (h:=p_x (h:=p_x (h:=p_a (h:=p_a (h:=h0d ?_))))))) | (refine gR 4 (p_m (h:=p_e (by apply E_un; exact rfl; exact h4z) (h:=h0d ?_)))) | (refine gR 5 (p_a (h:=h0d ?_))))
   (refine h0v Tryz.results78 (.tmp rfl .nil) ?_)
   exact ⟨_, ⟨rfl, rfl⟩, fun _ H => H⟩
  | some n =>
   simp only [hq, Option.getD_some, Option.isSome_some] at hn
   clear e hq
   refine Fn2 Tryz.func78 Tryz.ntmps78 rfl rfl ?_
   repeat' (first | refine h0p ?_ | refine h0e ?_ | refine h0x ?_ | refine h0r ?_ | refine h0u ?_ | refine h1h ?_ | refine h0j rfl ?_ | refine h0h rfl ?_ | (refine gR 0 (p_a (h:=h0d ?_))) | (refine gR 1 (p_m (h:=p_n (h:=p_e (q_f h4k) (h:=p_e q_l (h:=h0d ?_)))))) | (refine gR 2 ?_ <;> (try refine q_e (by exact q_b (r:=by refine h1i ?_; first | rfl | (with_reducible assumption) | (decide; done) | omega)) ?_) <;> (try refine p_a (h:=h0d ?_))) | (refine gR 3 (p_m (h:=p_n (h:=p_e (q_f h1m) (h:=q_e q_l ?_)))) <;> (try refine h0f ?_; (refine h1k (F:=97) (by kernel_rfl) rfl rfl (hn _) ?_; rintro _ _ ⟨rfl, rfl⟩)) <;> (try refine p_m (h:=p_x (h:=p_x (h:=p_a (h:=p_a (h:=h0d ?_))))))) | (refine gR 4 (p_m (h:=p_e (by apply E_un; exact rfl; exact h4a) (h:=h0d ?_)))) | (refine gR 6 (p_m (h:=p_m (h:=p_n (h:=q_e (q_f h4q) ?_)))) <;> (try refine h0f ?_; (refine q_S ?_)) <;> (try refine h0d ?_)) | (refine gR 21 (p_a (h:=h0d ?_))))
   (refine h0v Tryz.results78 (.tmp rfl .nil) ?_)
   exact ⟨_, ⟨rfl, rfl⟩, fun _ H => H⟩
 ·have e : h4e (3 : Int).toNat (lB t) = if t.size > 120 then (36, 0) else (0, 0) := by
   show (if (lB t).length > 120 then _ else _) = _
   rw [h3d]
  rw [e]
  clear e
  by_cases hl : t.size > 120
  ·rw [if_pos hl]
   refine Fn2 Tryz.func78 Tryz.ntmps78 rfl rfl ?_
   repeat' (first | refine h0p ?_ | refine h0e ?_ | refine h1f ?_ | refine h2p ?_ | refine h0r ?_ | refine h1h ?_ | refine h0j rfl ?_ | refine h0h rfl ?_ | (refine gR 0 (p_a (h:=h0d ?_))) | (refine gR 1 (p_m (h:=p_n (h:=p_e (q_f h4k) (h:=p_e q_l (h:=h0d ?_)))))) | (refine gR 2 (p_e (q_b (r:=by exact h1o q_o)) (h:=p_a (h:=h0d ?_)))) | (refine gR 7 ?_ <;> (try refine q_e (by exact q_b (r:=by refine h1i ?_; first | rfl | (with_reducible assumption) | (decide; done) | omega)) ?_) <;> (try refine p_a (h:=h0d ?_))) | (refine gR 8 (p_m (h:=p_n (h:=p_e (q_f h1m) (h:=p_e q_l (h:=p_e (h0g rfl (fun _ => BigFrame.builtin_len ..) (h0q Tryz.underlying9)) (h:=p_e (q_b (r:=by exact h1y q_o)) (h:=h0d ?_)))))))) | (refine gR 9 (p_a (h:=h0d ?_))))
   (refine h0v Tryz.results78 (.tmp rfl .nil) ?_)
   exact ⟨_, ⟨rfl, rfl⟩, fun _ H => H⟩
  ·rw [if_neg hl]
   refine Fn2 Tryz.func78 Tryz.ntmps78 rfl rfl ?_
   repeat' (first | refine h0p ?_ | refine h0e ?_ | refine h0x ?_ | refine h0r ?_ | refine h0u ?_ | refine h1h ?_ | refine h0j rfl ?_ | refine h0h rfl ?_ | (refine gR 0 (p_a (h:=h0d ?_))) | (refine gR 1 (p_m (h:=p_n (h:=p_e (q_f h4k) (h:=p_e q_l (h:=h0d ?_)))))) | (refine gR 2 (p_e (q_b (r:=by exact h1o q_o)) (h:=p_a (h:=h0d ?_)))) | (refine gR 7 ?_ <;> (try refine q_e (by exact q_b (r:=by refine h1i ?_; first | rfl | (with_reducible assumption) | (decide; done) | omega)) ?_) <;> (try refine p_a (h:=h0d ?_))) | (refine gR 8 (p_m (h:=p_n (h:=p_e (q_f h1m) (h:=p_e q_l (h:=p_e (h0g rfl (fun _ => BigFrame.builtin_len ..) (h0q Tryz.underlying9)) (h:=p_e (q_b (r:=by exact h2f q_o)) (h:=h0d ?_)))))))) | (refine gR 21 (p_a (h:=h0d ?_))))
   (refine h0v Tryz.results78 (.tmp rfl .nil) ?_)
   exact ⟨_, ⟨rfl, rfl⟩, fun _ H => H⟩
 ·have e : h4e (4 : Int).toNat (lB t) = if lB t ∈ sgns then (0, 0) else (202, 0) := rfl
  rw [e]
  clear e
  by_cases hm : lB t ∈ sgns
  ·rw [if_pos hm]
   simp only [sgns, List.mem_cons, List.not_mem_nil, or_false, sgn_eq] at hm
   unfold mB8 at hm
   rcases hm with rfl | rfl | rfl | rfl | rfl | rfl | rfl
   all_goals
    refine Fn2 Tryz.func78 Tryz.ntmps78 rfl rfl ?_
    repeat' (first | refine h0p ?_ | refine h0e ?_ | refine h1f ?_ | refine h2p ?_ | refine h0r ?_ | refine h0u ?_ | refine h1h ?_ | refine h0j rfl ?_ | refine h0h rfl ?_ | (refine gR 0 (p_a (h:=h0d ?_))) | (refine gR 1 (p_m (h:=p_n (h:=p_e (q_f h4k) (h:=p_e q_l (h:=h0d ?_)))))) | (refine gR 2 (p_e (q_b (r:=by exact h1o q_o)) (h:=p_a (h:=h0d ?_)))) | (refine gR 7 (p_e (q_b (r:=by exact h1o q_o)) (h:=p_a (h:=h0d ?_)))) | (refine gR 10 ?_ <;> (try refine q_e (by exact q_b (r:=by refine h1i ?_; first | rfl | (with_reducible assumption) | (decide; done) | omega)) ?_) <;> (try refine p_a (h:=h0d ?_))) | (refine gR 11 (p_m (h:=p_n (h:=p_e (q_f h1m) (h:=p_e q_l (h:=h0d ?_)))))) | (refine gR 12 (p_e (by exact q_b (r:=by first | exact h2l | (apply h0y; (focus (decide))))) (h:=p_a (h:=h0d ?_)))) | (refine gR 13 (p_e (by exact q_b (r:=by first | exact h2l | (apply h0y; (focus (decide))))) (h:=p_a (h:=h0d ?_)))) | (refine gR 14 (p_e (by exact q_b (r:=by first | exact h2l | (apply h0y; (focus (decide))))) (h:=p_a (h:=h0d ?_)))) | (refine gR 15 (p_e (by exact q_b (r:=by first | exact h2l | (apply h0y; (focus (decide))))) (h:=p_a (h:=h0d ?_)))) | (refine gR 16 (p_e (by exact q_b (r:=by first | exact h2l | (apply h0y; (focus (decide))))) (h:=p_a (h:=h0d ?_)))) | (refine gR 17 (p_e (by exact q_b (r:=by first | exact h2l | (apply h0y; (focus (decide))))) (h:=p_a (h:=h0d ?_)))) | (refine gR 18 (p_e (q_b (r:=by exact h2l)) (h:=p_a (h:=h0d ?_)))) | (refine gR 19 (p_a (h:=h0d ?_))))
    (refine h0v Tryz.results78 (.tmp rfl .nil) ?_)
    exact ⟨_, ⟨rfl, rfl⟩, fun _ H => H⟩
  ·rw [if_neg hm]
   simp only [sgns, List.mem_cons, List.not_mem_nil, or_false, not_or, sgn_eq] at hm
   unfold mB8 at hm
   obtain ⟨g1, g2, g3, g4, g5, g6, g7⟩ := hm
   refine Fn2 Tryz.func78 Tryz.ntmps78 rfl rfl ?_
   repeat' (first | refine h0p ?_ | refine h0e ?_ | refine h1f ?_ | refine h0x ?_ | refine h2p ?_ | refine h0r ?_ | refine h0u ?_ | refine h1h ?_ | refine h0j rfl ?_ | refine h0h rfl ?_ | (refine gR 0 (p_a (h:=h0d ?_))) | (refine gR 1 (p_m (h:=p_n (h:=p_e (q_f h4k) (h:=p_e q_l (h:=h0d ?_)))))) | (refine gR 2 (p_e (q_b (r:=by exact h1o q_o)) (h:=p_a (h:=h0d ?_)))) | (refine gR 7 (p_e (q_b (r:=by exact h1o q_o)) (h:=p_a (h:=h0d ?_)))) | (refine gR 10 ?_ <;> (try refine q_e (by exact q_b (r:=by refine h1i ?_; first | rfl | (with_reducible assumption) | (decide; done) | omega)) ?_) <;> (try refine p_a (h:=h0d ?_))) | (refine gR 11 (p_m (h:=p_n (h:=p_e (q_f h1m) (h:=p_e q_l (h:=h0d ?_)))))) | (refine gR 12 (p_e (q_b (r:=by apply h0y; exact decide_eq_false (by assumption))) (h:=p_a (h:=h0d ?_)))) | (refine gR 13 (p_e (q_b (r:=by apply h0y; exact decide_eq_false (by assumption))) (h:=p_a (h:=h0d ?_)))) | (refine gR 14 (p_e (q_b (r:=by apply h0y; exact decide_eq_false (by assumption))) (h:=p_a (h:=h0d ?_)))) | (refine gR 15 (p_e (q_b (r:=by apply h0y; exact decide_eq_false (by assumption))) (h:=p_a (h:=h0d ?_)))) | (refine gR 16 (p_e (q_b (r:=by apply h0y; exact decide_eq_false (by assumption))) (h:=p_a (h:=h0d ?_)))) | (refine gR 17 (p_e (q_b (r:=by apply h0y; exact decide_eq_false (by assumption))) (h:=p_a (h:=h0d ?_)))) | (refine gR 18 (p_e (q_b (r:=by apply h0y; exact decide_eq_false (by assumption))) (h:=p_a (h:=h0d ?_)))) | (refine gR 20 (p_a (h:=h0d ?_))))
   (refine h0v Tryz.results78 (.tmp rfl .nil) ?_)
   exact ⟨_, ⟨rfl, rfl⟩, fun _ H => H⟩
theorem right_d {S w0 L} {lv cv : Value} {b i : Nat} {K : Int} {t : ByteArray} (k : Nat) (p : Value) (hi : L[i]? = some (tkB b K t 0 lv cv)) (ht : t.size ≤ 1000000) (hK : K = (k : Int)) (hk : k = 1 ∨ k = 2 ∨ k = 3 ∨ k = 4) :
  Fn Tryz.prog 78 #[p, .pointer (some ⟨b, 0, none⟩)] S w0 L fun r L' => r = .int .i64 ((h4e k (lB t)).1 : Nat) ∧ tkB b K t ((h4e k (lB t)).2 : Nat) lv cv :: L.eraseIdx i = L' := by
 have h := Fn.at1 hi (right_c (S:=S) (w0:=w0) p lv cv b K t ht (by omega))
 rw [show K.toNat = k by omega] at h
 exact h
theorem ext_mid (s : ByteArray) (a m : Nat) : s.extract a (a + m) = mB8 (((lB s).drop a).take m) := by
 apply lB_inj
 rw [h4g]
 show (s.extract a (a + m)).data.toList = _
 rw [ByteArray.data_extract, Array.toList_extract]
 show (lB s).extract a (a + m) = _
 simp [List.extract]
theorem while_d {S w0 L} {F : FuncId} {b a0 line i : Nat} {s : ByteArray} {v w1 w2 w3 : Value} (p : UInt8 → Bool) (hfn : (Tryz.prog.funcs[F]?).map (fun fn => (fn.name == "runtime.NumGoroutine", fn.body.isNone)) = some (false, false)) (hF : ∀ (c : UInt8) (L : List Blk), Fn Tryz.prog F #[.int .u8 (c.toNat : Int)] S w0 L fun v L' => v = .bool (p c) ∧ L = L')
  (hi : L[i]? = some (lxB b s a0 line v w1 w2 w3)) (hs : s.size ≤ 1000000) (ha : a0 ≤ s.size) :
  Fn Tryz.prog 71 #[.pointer (some ⟨b, 0, none⟩), .func (.func F) #[] #[]] S w0 L fun r L' => r = .tuple #[] ∧ lxB b s (a0 + wl p ((lB s).drop a0)) line v w1 w2 w3 :: L.eraseIdx i = L' :=
 Fn.at1 hi (while_c p hfn hF b a0 line s v w1 w2 w3 hs ha)
def h2i (c : UInt8) : Nat := if letF c then 1 else if digF c then 2 else if c = 47 then 3 else 4
def h5l (k : Nat) : UInt8 → Bool := if k = 1 then witF else if k = 2 then alnF else if k = 3 then prnF else sgnF
inductive Nx where
 | done
 | wrong (col e : Nat)
 | tok (t : Tk) (at_ : Nat)
def nextAt (line a1 : Nat) (l : List UInt8) (c : UInt8) : Nx :=
 let m := wl (h5l (h2i c)) l
 let q := h4e (h2i c) (l.take m)
 if q.1 = 0 then .tok ⟨h2i c, l.take m, q.2, line, a1 + 1⟩ (a1 + m) else .wrong (a1 + 1) q.1
def nextF (line : Nat) (l : List UInt8) (a : Nat) : Nx :=
 match l.drop (a + wl blkF (l.drop a)) with
 | [] => .done
 | c :: r => nextAt line (a + wl blkF (l.drop a)) (c :: r) c
def NxR (b : Nat) (s : ByteArray) (line : Nat) (v : Value) (e : List Blk) (out : List Tk) (L : List Blk) : Nx → Value → List Blk → Prop
 | .done, r, L' => r = .bool false ∧ ∃ a', lxB b s a' line v (.int .i64 0) (.int .i64 0) (.int .i64 0) :: (e ++ L) = L'
 | .wrong col er, r, L' => r = .bool false ∧ ∃ a', lxB b s a' line v (.int .i64 (line : Nat)) (.int .i64 (col : Nat)) (.int .i64 (er : Nat)) :: (e ++ L) = L'
 | .tok t a', r, L' => r = .bool true ∧ a' ≤ s.size ∧ ∃ v' e', Own 166 5 v' (out.length + 1) (h4o (out ++ [t])) e' ∧ lxB b s a' line v' (.int .i64 0) (.int .i64 0) (.int .i64 0) :: (e' ++ L) = L'
structure BlI (s : ByteArray) (a0 a : Nat) : Prop where
 le : a ≤ s.size
 eq : a0 + wl blkF ((lB s).drop a0) = a + wl blkF ((lB s).drop a)
set_option maxHeartbeats 4000000 in
theorem next_c {S w0 L} (b a0 line : Nat) (s : ByteArray) (v : Value) (e : List Blk) (out : List Tk) (hs : s.size ≤ 100000) (ha : a0 ≤ s.size) (hline : line ≤ 1000000) (hout : out.length ≤ 100000) (hown : Own 166 5 v out.length (h4o out) e) :
  Fn Tryz.prog 49 #[.pointer (some ⟨b, 0, none⟩)] S w0 (lxB b s a0 line v (.int .i64 0) (.int .i64 0) (.int .i64 0) :: (e ++ L)) (NxR b s line v e out L (nextF line (lB s) a0)) := by
 refine Fn1 Tryz.func49 Tryz.ntmps49 rfl rfl ?_
 repeat' (first | (refine h2r (id:=0) ?_) | refine h0p ?_ | refine h0e ?_ | (refine gR 0 (p_a (h:=h0d ?_))))
 refine ⟨?_⟩
 refine h0r ?_
 refine h2s (γ:=Nat) (BlI s a0) (fun a => s.size - a) (fun _ => []) [(0, _)]
  (fun a => lxB b s a line v (.int .i64 0) (.int .i64 0) (.int .i64 0) :: (e ++ L)) a0 (.cons rfl .nil) ⟨ha, rfl⟩ (by (focus (repeat (exact Sub.nil)))) (fun _ H => H) ?_
 rintro a ⟨hle, he⟩
 by_cases hlt : a < s.size
 case neg =>
  obtain rfl : a = s.size := by omega
  have hx : nextF line (lB s) a0 = .done := by
   unfold nextF
   rw [he, List.drop_eq_nil_of_le (show (lB s).length ≤ s.size by rw [h3d]; exact Nat.le_refl _), wl_nil, Nat.add_zero, List.drop_eq_nil_of_le (show (lB s).length ≤ s.size by rw [h3d]; exact Nat.le_refl _)]
  rw [hx]
  clear he hx
  repeat' (first | refine h0p ?_ | refine h0e ?_ | refine h1u ?_ | refine h1n ?_ | refine h1f ?_ | refine h1v ?_ | refine h2o ?_ | refine h1h ?_ | refine h0j rfl ?_ | refine h0h rfl ?_ | ((refine h2q (id:=1) (m:=46) (by kernel_rfl) rfl (q_u 0 (x:=by exact h0m rfl) (h:=q_u 1 (x:=by exact h0l rfl) (h:=q_u 2 (x:=by exact q_f h3k) (h:=q_u 3 (x:=by exact q_l) (h:=q_u 4 (x:=by exact h0m rfl) (h:=q_u 5 (x:=by exact h0l rfl) (h:=q_u 6 (x:=by exact q_f h3x) (h:=q_u 7 (x:=by exact q_l) (h:=q_u 8 (x:=by exact h0g rfl (fun _ => BigFrame.builtin_len ..) (h0q Tryz.underlying9)) (h:=q_u 9 (x:=by exact q_b (r:=by exact h1j q_o)) (h:=q_u 10 (x:=by exact h0m rfl) (h:=?_))))))))))))) <;> (try apply h2e (i:=11); exact rfl; kernel_rfl; kernel_rfl; kernel_rfl; exact rfl; (exact fun _ H => H); exact Y_no rfl rfl rfl) <;> (try apply h2e (i:=12); exact rfl; kernel_rfl; kernel_rfl; kernel_rfl; exact rfl; (exact fun _ H => H); exact Y_no rfl rfl rfl) <;> (try apply h2e (i:=13); exact rfl; kernel_rfl; kernel_rfl; kernel_rfl; exact rfl; (exact fun _ H => H); exact Y_no rfl rfl rfl) <;> (try apply h2e (i:=14); exact rfl; kernel_rfl; kernel_rfl; kernel_rfl; exact rfl; (exact fun _ H => H); exact Y_no rfl rfl rfl) <;> (try apply h2e (i:=15); exact rfl; kernel_rfl; kernel_rfl; kernel_rfl; exact rfl; (exact fun _ H => H); exact Y_no rfl rfl rfl) <;> (try apply h2e (i:=16); exact rfl; kernel_rfl; kernel_rfl; kernel_rfl; exact rfl; (exact fun _ H => H); exact Y_no rfl rfl rfl) <;> (try apply h2e (i:=17); exact rfl; kernel_rfl; kernel_rfl; kernel_rfl; exact rfl; (exact fun _ H => H); exact Y_no rfl rfl rfl) <;> (try apply h2e (i:=18); exact rfl; kernel_rfl; kernel_rfl; kernel_rfl; exact rfl; (exact fun _ H => H); exact Y_no rfl rfl rfl) <;> (try apply h2e (i:=19); exact rfl; kernel_rfl; kernel_rfl; kernel_rfl; exact rfl; (exact fun _ H => H); exact Y_no rfl rfl rfl) <;> (try apply h2e (i:=20); exact rfl; kernel_rfl; kernel_rfl; kernel_rfl; exact rfl; (exact fun _ H => H); exact Y_no rfl rfl rfl) <;> (try apply h2e (i:=21); exact rfl; kernel_rfl; kernel_rfl; kernel_rfl; exact rfl; (exact fun _ H => H); exact Y_no rfl rfl rfl) <;> (try apply h2e (i:=22); exact rfl; kernel_rfl; kernel_rfl; kernel_rfl; exact rfl; (exact fun _ H => H); exact Y_nou rfl rfl) <;> (try apply h2e (i:=23); exact rfl; kernel_rfl; kernel_rfl; kernel_rfl; exact rfl; (exact fun _ H => H); exact Y_nou rfl rfl) <;> (try apply h2e (i:=24); exact rfl; kernel_rfl; kernel_rfl; kernel_rfl; exact rfl; (exact fun _ H => H); exact Y_nou rfl rfl) <;> (try apply h2e (i:=25); exact rfl; kernel_rfl; kernel_rfl; kernel_rfl; exact rfl; (exact fun _ H => H); exact Y_nou rfl rfl) <;> (try apply h2e (i:=26); exact rfl; kernel_rfl; kernel_rfl; kernel_rfl; exact rfl; (exact fun _ H => H); exact Y_nou rfl rfl) <;> (try apply h2e (i:=27); exact rfl; kernel_rfl; kernel_rfl; kernel_rfl; exact rfl; (exact fun _ H => H); exact Y_nou rfl rfl) <;> (try apply h2e (i:=28); exact rfl; kernel_rfl; kernel_rfl; kernel_rfl; exact rfl; (exact fun _ H => H); exact Y_nou rfl rfl) <;> (try apply h2e (i:=29); exact rfl; kernel_rfl; kernel_rfl; kernel_rfl; exact rfl; (exact fun _ H => H); exact Y_nou rfl rfl) <;> (try apply h2e (i:=30); exact rfl; kernel_rfl; kernel_rfl; kernel_rfl; exact rfl; (exact fun _ H => H); exact Y_nou rfl rfl) <;> (try apply h2e (i:=31); exact rfl; kernel_rfl; kernel_rfl; kernel_rfl; exact rfl; (exact fun _ H => H); exact Y_nou rfl rfl) <;> (try apply h2e (i:=32); exact rfl; kernel_rfl; kernel_rfl; kernel_rfl; exact rfl; (exact fun _ H => H); exact Y_no rfl rfl rfl) <;> (try apply h2e (i:=33); exact rfl; kernel_rfl; kernel_rfl; kernel_rfl; exact rfl; (exact fun _ H => H); exact Y_no rfl rfl rfl) <;> (try apply h2e (i:=34); exact rfl; kernel_rfl; kernel_rfl; kernel_rfl; exact rfl; (exact fun _ H => H); exact Y_nou rfl rfl) <;> (try apply h2e (i:=35); exact rfl; kernel_rfl; kernel_rfl; kernel_rfl; exact rfl; (exact fun _ H => H); exact Y_nou rfl rfl) <;> (try apply h2e (i:=36); exact rfl; kernel_rfl; kernel_rfl; kernel_rfl; exact rfl; (exact fun _ H => H); exact Y_nou rfl rfl) <;> (try apply h2e (i:=37); exact rfl; kernel_rfl; kernel_rfl; kernel_rfl; exact rfl; (exact fun _ H => H); exact Y_nou rfl rfl) <;> (try apply h2e (i:=38); exact rfl; kernel_rfl; kernel_rfl; kernel_rfl; exact rfl; (exact fun _ H => H); exact Y_nou rfl rfl) <;> (try apply h2e (i:=39); exact rfl; kernel_rfl; kernel_rfl; kernel_rfl; exact rfl; (exact fun _ H => H); exact Y_nou rfl rfl) <;> (try apply h2e (i:=40); exact rfl; kernel_rfl; kernel_rfl; kernel_rfl; exact rfl; (exact fun _ H => H); exact Y_nou rfl rfl) <;> (try apply h2e (i:=41); exact rfl; kernel_rfl; kernel_rfl; kernel_rfl; exact rfl; (exact fun _ H => H); exact Y_nou rfl rfl) <;> (try apply h2e (i:=42); exact rfl; kernel_rfl; kernel_rfl; kernel_rfl; exact rfl; (exact fun _ H => H); exact Y_nou rfl rfl) <;> (try apply h2e (i:=43); exact rfl; kernel_rfl; kernel_rfl; kernel_rfl; exact rfl; (exact fun _ H => H); exact Y_nou rfl rfl) <;> (try apply h2e (i:=44); exact rfl; kernel_rfl; kernel_rfl; kernel_rfl; exact rfl; (exact fun _ H => H); exact Y_no rfl rfl rfl) <;> (try refine q_u 45 (x:=by exact h5k rfl rfl) (h:=h1e (by kernel_rfl) ?_))) | ((refine h2q (id:=3) (m:=10) (by kernel_rfl) rfl (q_u 0 (x:=by exact h0m rfl) (h:=q_u 1 (x:=by exact h0l rfl) (h:=q_u 2 (x:=by exact q_f h3k) (h:=q_u 3 (x:=by exact q_l) (h:=q_u 4 (x:=by exact h0m rfl) (h:=q_u 5 (x:=by exact h0l rfl) (h:=q_u 6 (x:=by exact q_f h3x) (h:=q_u 7 (x:=by exact q_l) (h:=q_u 8 (x:=by exact h0g rfl (fun _ => BigFrame.builtin_len ..) (h0q Tryz.underlying9)) (h:=?_))))))))))) <;> (try refine q_u 9 (x:=by exact q_b (r:=by refine h1i ?_; first | rfl | (with_reducible assumption) | (decide; done) | omega)) (h:=?_)) <;> (try refine h1e (by kernel_rfl) ?_)) | (refine gR 4 (p_a (h:=h0d ?_))))
  (refine h0v Tryz.results49 (.tmp rfl .nil) ?_)
  exact ⟨_, ⟨rfl, _, rfl⟩, fun _ H => H⟩
 obtain ⟨x, hx, hxd⟩ := ba_at hlt
 have hxi : s[((a : Nat) : Int).toNat]? = some x := by rw [Int.toNat_natCast]; exact hx
 by_cases hbl : blkF x = true
 ·have he2 : a0 + wl blkF ((lB s).drop a0) = (a + 1) + wl blkF ((lB s).drop (a + 1)) := by rw [he, hxd, wl_yes _ hbl]; omega
  have he' := Lib.hid he2
  have hc : x = 32 ∨ (x ≠ 32 ∧ x = 9) ∨ (x ≠ 32 ∧ x ≠ 9 ∧ x = 13) := by
   simp only [blkF, Bool.or_eq_true, decide_eq_true_iff] at hbl
   by_cases h1 : x = 32
   ·exact .inl h1
   ·by_cases h2 : x = 9
    ·exact .inr (.inl ⟨h1, h2⟩)
    ·exact .inr (.inr ⟨h1, h2, by rcases hbl with (h | h) | h <;> first | exact h | exact absurd h h1 | exact absurd h h2⟩)
  clear he he2 hxd hbl
  rcases hc with rfl | ⟨-, rfl⟩ | ⟨-, -, rfl⟩
  all_goals
   repeat' (first | refine h0p ?_ | refine h0e ?_ | refine h0t ?_ | refine h0x ?_ | refine h0r ?_ | refine h0u ?_ | refine h0j rfl ?_ | ((refine h2q (id:=1) (m:=46) (by kernel_rfl) rfl (q_u 0 (x:=by exact h0m rfl) (h:=q_u 1 (x:=by exact h0l rfl) (h:=q_u 2 (x:=by exact q_f h3k) (h:=q_u 3 (x:=by exact q_l) (h:=q_u 4 (x:=by exact h0m rfl) (h:=q_u 5 (x:=by exact h0l rfl) (h:=q_u 6 (x:=by exact q_f h3x) (h:=q_u 7 (x:=by exact q_l) (h:=q_u 8 (x:=by exact h0g rfl (fun _ => BigFrame.builtin_len ..) (h0q Tryz.underlying9)) (h:=q_u 9 (x:=by exact q_b (r:=by exact h1d q_o)) (h:=q_u 10 (x:=by exact h0m rfl) (h:=q_T 11 (e:=(fun _ H => H)) (x:=by exact h0m rfl) (h:=q_T 12 (e:=(fun _ H => H)) (x:=by exact h0l rfl) (h:=q_T 13 (e:=(fun _ H => H)) (x:=by exact q_f h3x) (h:=q_T 14 (e:=(fun _ H => H)) (x:=by exact q_l) (h:=q_T 15 (e:=(fun _ H => H)) (x:=by exact h0m rfl) (h:=q_T 16 (e:=(fun _ H => H)) (x:=by exact h0l rfl) (h:=q_T 17 (e:=(fun _ H => H)) (x:=by exact q_f h3k) (h:=q_T 18 (e:=(fun _ H => H)) (x:=by exact q_l) (h:=q_T 19 (e:=(fun _ H => H)) (x:=by apply h2n; exact rfl; exact rfl; (focus (apply h3h Tryz.underlying9; omega; (with_reducible assumption)))) (h:=?_)))))))))))))))))))))) <;> (try refine q_T 20 (e:=(fun _ H => H)) (x:=by exact q_b (r:=by first | (refine h1i ?_; first | rfl | (with_reducible assumption) | (decide; done) | omega) | (exact h1o q_o))) (h:=?_)) <;> (try refine q_T 21 (e:=(fun _ H => H)) (x:=by exact h0m rfl) (h:=?_)) <;> (try first | (apply h2e (i:=22); exact rfl; kernel_rfl; kernel_rfl; kernel_rfl; exact rfl; (exact fun _ H => H); exact Y_no rfl rfl rfl) | (refine q_T 22 (e:=(fun _ H => H)) (x:=by exact h0m rfl) (h:=?_))) <;> (try first | (apply h2e (i:=23); exact rfl; kernel_rfl; kernel_rfl; kernel_rfl; exact rfl; (exact fun _ H => H); exact Y_no rfl rfl rfl) | (refine q_T 23 (e:=(fun _ H => H)) (x:=by exact h0l rfl) (h:=?_))) <;> (try first | (apply h2e (i:=24); exact rfl; kernel_rfl; kernel_rfl; kernel_rfl; exact rfl; (exact fun _ H => H); exact Y_no rfl rfl rfl) | (refine q_T 24 (e:=(fun _ H => H)) (x:=by exact q_f h3x) (h:=?_))) <;> (try first | (apply h2e (i:=25); exact rfl; kernel_rfl; kernel_rfl; kernel_rfl; exact rfl; (exact fun _ H => H); exact Y_no rfl rfl rfl) | (refine q_T 25 (e:=(fun _ H => H)) (x:=by exact q_l) (h:=?_))) <;> (try first | (apply h2e (i:=26); exact rfl; kernel_rfl; kernel_rfl; kernel_rfl; exact rfl; (exact fun _ H => H); exact Y_no rfl rfl rfl) | (refine q_T 26 (e:=(fun _ H => H)) (x:=by exact h0m rfl) (h:=?_))) <;> (try first | (apply h2e (i:=27); exact rfl; kernel_rfl; kernel_rfl; kernel_rfl; exact rfl; (exact fun _ H => H); exact Y_no rfl rfl rfl) | (refine q_T 27 (e:=(fun _ H => H)) (x:=by exact h0l rfl) (h:=?_))) <;> (try first | (apply h2e (i:=28); exact rfl; kernel_rfl; kernel_rfl; kernel_rfl; exact rfl; (exact fun _ H => H); exact Y_no rfl rfl rfl) | (refine q_T 28 (e:=(fun _ H => H)) (x:=by exact q_f h3k) (h:=?_))) <;> (try first | (apply h2e (i:=29); exact rfl; kernel_rfl; kernel_rfl; kernel_rfl; exact rfl; (exact fun _ H => H); exact Y_no rfl rfl rfl) | (refine q_T 29 (e:=(fun _ H => H)) (x:=by exact q_l) (h:=?_))) <;> (try first | (apply h2e (i:=30); exact rfl; kernel_rfl; kernel_rfl; kernel_rfl; exact rfl; (exact fun _ H => H); exact Y_no rfl rfl rfl) | (refine q_T 30 (e:=(fun _ H => H)) (x:=by apply h2n; exact rfl; exact rfl; (focus (apply h3h Tryz.underlying9; omega; (with_reducible assumption)))) (h:=?_))) <;> (try first | (apply h2e (i:=31); exact rfl; kernel_rfl; kernel_rfl; kernel_rfl; exact rfl; (exact fun _ H => H); exact Y_no rfl rfl rfl) | (refine q_T 31 (e:=(fun _ H => H)) (x:=by exact q_b (r:=by first | (refine h1i ?_; first | rfl | (with_reducible assumption) | (decide; done) | omega) | (exact h1o q_o))) (h:=?_))) <;> (try refine q_T 32 (e:=(fun _ H => H)) (x:=by exact h5k rfl rfl) (h:=q_T 33 (e:=(fun _ H => H)) (x:=by exact h0m rfl) (h:=?_))) <;> (try first | (apply h2e (i:=34); exact rfl; kernel_rfl; kernel_rfl; kernel_rfl; exact rfl; (exact fun _ H => H); exact Y_no rfl rfl rfl) | (refine q_T 34 (e:=(fun _ H => H)) (x:=by exact h0m rfl) (h:=?_))) <;> (try first | (apply h2e (i:=35); exact rfl; kernel_rfl; kernel_rfl; kernel_rfl; exact rfl; (exact fun _ H => H); exact Y_no rfl rfl rfl) | (refine q_T 35 (e:=(fun _ H => H)) (x:=by exact h0l rfl) (h:=?_))) <;> (try first | (apply h2e (i:=36); exact rfl; kernel_rfl; kernel_rfl; kernel_rfl; exact rfl; (exact fun _ H => H); exact Y_no rfl rfl rfl) | (refine q_T 36 (e:=(fun _ H => H)) (x:=by exact q_f h3x) (h:=?_))) <;> (try first | (apply h2e (i:=37); exact rfl; kernel_rfl; kernel_rfl; kernel_rfl; exact rfl; (exact fun _ H => H); exact Y_no rfl rfl rfl) | (refine q_T 37 (e:=(fun _ H => H)) (x:=by exact q_l) (h:=?_))) <;> (try first | (apply h2e (i:=38); exact rfl; kernel_rfl; kernel_rfl; kernel_rfl; exact rfl; (exact fun _ H => H); exact Y_no rfl rfl rfl) | (refine q_T 38 (e:=(fun _ H => H)) (x:=by exact h0m rfl) (h:=?_))) <;> (try first | (apply h2e (i:=39); exact rfl; kernel_rfl; kernel_rfl; kernel_rfl; exact rfl; (exact fun _ H => H); exact Y_no rfl rfl rfl) | (refine q_T 39 (e:=(fun _ H => H)) (x:=by exact h0l rfl) (h:=?_))) <;> (try first | (apply h2e (i:=40); exact rfl; kernel_rfl; kernel_rfl; kernel_rfl; exact rfl; (exact fun _ H => H); exact Y_no rfl rfl rfl) | (refine q_T 40 (e:=(fun _ H => H)) (x:=by exact q_f h3k) (h:=?_))) <;> (try first | (apply h2e (i:=41); exact rfl; kernel_rfl; kernel_rfl; kernel_rfl; exact rfl; (exact fun _ H => H); exact Y_no rfl rfl rfl) | (refine q_T 41 (e:=(fun _ H => H)) (x:=by exact q_l) (h:=?_))) <;> (try first | (apply h2e (i:=42); exact rfl; kernel_rfl; kernel_rfl; kernel_rfl; exact rfl; (exact fun _ H => H); exact Y_no rfl rfl rfl) | (refine q_T 42 (e:=(fun _ H => H)) (x:=by apply h2n; exact rfl; exact rfl; (focus (apply h3h Tryz.underlying9; omega; (with_reducible assumption)))) (h:=?_))) <;> (try first | (apply h2e (i:=43); exact rfl; kernel_rfl; kernel_rfl; kernel_rfl; exact rfl; (exact fun _ H => H); exact Y_no rfl rfl rfl) | (refine q_T 43 (e:=(fun _ H => H)) (x:=by exact q_b (r:=by refine h1i ?_; first | rfl | (with_reducible assumption) | (decide; done) | omega)) (h:=?_))) <;> (try refine q_T 44 (e:=(fun _ H => H)) (x:=by exact h5k rfl rfl) (h:=q_u 45 (x:=by exact h5k rfl rfl) (h:=h1e (by kernel_rfl) ?_)))) | (refine gR 2 (p_m (h:=p_n (h:=p_e (q_f h3k) (h:=q_e q_l ?_)))) <;> (try refine q_e (q_b (r:=by apply h1r; exact c_5; (focus (refine IntWalk.i64_in _ ?_; omega)))) ?_) <;> (try refine p_n (h:=q_e (q_f h3k) ?_)) <;> (try refine h0f ?_; (refine q_S ?_)) <;> (try refine h0d ?_)))
   refine h0w (a + 1) ⟨⟨by omega, he'.out⟩, by omega⟩ (by (focus (repeat (first | exact Sub.nil | refine Sub.cons rfl ?_)))) (fun _ H => H)
 ·have hb0 : blkF x = false := by simpa using hbl
  have hnx : nextF line (lB s) a0 = nextAt line a ((lB s).drop a) x := by
   unfold nextF
   rw [he, hxd, wl_no _ hb0, Nat.add_zero, hxd]
  rw [hnx]
  simp only [blkF, Bool.or_eq_false_iff, decide_eq_false_iff_not] at hb0
  obtain ⟨⟨n1, n2⟩, n3⟩ := hb0
  have m1 : ¬ (x.toNat : Int) = 32 := u8_neq n1
  have m2 : ¬ (x.toNat : Int) = 9 := u8_neq n2
  have m3 : ¬ (x.toNat : Int) = 13 := u8_neq n3
  have hxr := x.toNat_lt
  have hlet := fun (L : List Blk) => letter_c (S:=S) (w0:=w0) (L:=L) x
  have hdig := fun (L : List Blk) => digit_c (S:=S) (w0:=w0) (L:=L) x
  clear he hxd hbl hnx n1 n2 n3
  have hkd : (letF x = true ∧ h2i x = 1) ∨ (letF x = false ∧ digF x = true ∧ h2i x = 2) ∨ (letF x = false ∧ digF x = false ∧ x = 47 ∧ h2i x = 3) ∨ (letF x = false ∧ digF x = false ∧ ¬ x = 47 ∧ h2i x = 4) := by
   unfold h2i
   cases letF x
   ·cases digF x
    ·by_cases h : x = 47
     ·simp [h]
     ·simp [h]
    ·simp
   ·simp
  have hml : wl (h5l (h2i x)) ((lB s).drop a) ≤ s.size - a := by
   have := wl_le (h5l (h2i x)) ((lB s).drop a)
   rwa [List.length_drop, h3d] at this
  have hnA : nextAt line a ((lB s).drop a) x = (if (h4e (h2i x) (((lB s).drop a).take (wl (h5l (h2i x)) ((lB s).drop a)))).1 = 0 then Nx.tok ⟨h2i x, ((lB s).drop a).take (wl (h5l (h2i x)) ((lB s).drop a)), (h4e (h2i x) (((lB s).drop a).take (wl (h5l (h2i x)) ((lB s).drop a)))).2, line, a + 1⟩ (a + wl (h5l (h2i x)) ((lB s).drop a)) else .wrong (a + 1) (h4e (h2i x) (((lB s).drop a).take (wl (h5l (h2i x)) ((lB s).drop a)))).1) := rfl
  rw [hnA]
  clear hnA
  have hw : ∀ k F p, h2i x = k → h5l k = p → ((Tryz.prog.funcs[F]?).map (fun fn => (fn.name == "runtime.NumGoroutine", fn.body.isNone)) = some (false, false)) → (∀ (c : UInt8) (L : List Blk), Fn Tryz.prog F #[.int .u8 (c.toNat : Int)] S w0 L fun v L' => v = .bool (p c) ∧ L = L') →
    ∀ (L : List Blk) (i : Nat), L[i]? = some (lxB b s a line v (.int .i64 0) (.int .i64 0) (.int .i64 0)) → Fn Tryz.prog 71 #[.pointer (some ⟨b, 0, none⟩), .func (.func F) #[] #[]] S w0 L fun r L' => r = .tuple #[] ∧ lxB b s (a + wl (h5l (h2i x)) ((lB s).drop a)) line v (.int .i64 0) (.int .i64 0) (.int .i64 0) :: L.eraseIdx i = L' := by
   rintro k F p rfl rfl hfn hF L i hi
   exact while_d (h5l (h2i x)) hfn hF hi (by omega) hle
  generalize hm : wl (h5l (h2i x)) ((lB s).drop a) = m at *
  clear hm
  have htx : lB (s.extract a (a + m)) = ((lB s).drop a).take m := by rw [ext_mid, h4g]
  have hts : (s.extract a (a + m)).size ≤ s.size := by rw [← h3d, htx, List.length_take, List.length_drop, h3d]; omega
  rw [← htx]
  clear htx
  repeat' (first | (refine h2r (id:=2) ?_) | refine h0p ?_ | refine h0e ?_ | refine h1u ?_ | refine h1n ?_ | refine h1v ?_ | refine h0u ?_ | refine h2o ?_ | refine h0h rfl ?_ | ((refine h2q (id:=1) (m:=46) (by kernel_rfl) rfl (q_u 0 (x:=by exact h0m rfl) (h:=q_u 1 (x:=by exact h0l rfl) (h:=q_u 2 (x:=by exact q_f h3k) (h:=q_u 3 (x:=by exact q_l) (h:=q_u 4 (x:=by exact h0m rfl) (h:=q_u 5 (x:=by exact h0l rfl) (h:=q_u 6 (x:=by exact q_f h3x) (h:=q_u 7 (x:=by exact q_l) (h:=q_u 8 (x:=by exact h0g rfl (fun _ => BigFrame.builtin_len ..) (h0q Tryz.underlying9)) (h:=q_u 9 (x:=by exact q_b (r:=by exact h1d q_o)) (h:=q_u 10 (x:=by exact h0m rfl) (h:=q_T 11 (e:=(fun _ H => H)) (x:=by exact h0m rfl) (h:=q_T 12 (e:=(fun _ H => H)) (x:=by exact h0l rfl) (h:=q_T 13 (e:=(fun _ H => H)) (x:=by exact q_f h3x) (h:=q_T 14 (e:=(fun _ H => H)) (x:=by exact q_l) (h:=q_T 15 (e:=(fun _ H => H)) (x:=by exact h0m rfl) (h:=q_T 16 (e:=(fun _ H => H)) (x:=by exact h0l rfl) (h:=q_T 17 (e:=(fun _ H => H)) (x:=by exact q_f h3k) (h:=q_T 18 (e:=(fun _ H => H)) (x:=by exact q_l) (h:=q_T 19 (e:=(fun _ H => H)) (x:=by apply h2n; exact rfl; exact rfl; (focus (apply h3h Tryz.underlying9; omega; (with_reducible assumption)))) (h:=q_T 20 (e:=(fun _ H => H)) (x:=by exact q_b (r:=by exact h1o q_o)) (h:=q_T 21 (e:=(fun _ H => H)) (x:=by exact h0m rfl) (h:=q_T 22 (e:=(fun _ H => H)) (x:=by exact h0m rfl) (h:=q_T 23 (e:=(fun _ H => H)) (x:=by exact h0l rfl) (h:=q_T 24 (e:=(fun _ H => H)) (x:=by exact q_f h3x) (h:=q_T 25 (e:=(fun _ H => H)) (x:=by exact q_l) (h:=q_T 26 (e:=(fun _ H => H)) (x:=by exact h0m rfl) (h:=q_T 27 (e:=(fun _ H => H)) (x:=by exact h0l rfl) (h:=q_T 28 (e:=(fun _ H => H)) (x:=by exact q_f h3k) (h:=q_T 29 (e:=(fun _ H => H)) (x:=by exact q_l) (h:=q_T 30 (e:=(fun _ H => H)) (x:=by apply h2n; exact rfl; exact rfl; (focus (apply h3h Tryz.underlying9; omega; (with_reducible assumption)))) (h:=q_T 31 (e:=(fun _ H => H)) (x:=by exact q_b (r:=by exact h1o q_o)) (h:=q_T 32 (e:=(fun _ H => H)) (x:=by exact h5k rfl rfl) (h:=q_T 33 (e:=(fun _ H => H)) (x:=by exact h0m rfl) (h:=q_T 34 (e:=(fun _ H => H)) (x:=by exact h0m rfl) (h:=q_T 35 (e:=(fun _ H => H)) (x:=by exact h0l rfl) (h:=q_T 36 (e:=(fun _ H => H)) (x:=by exact q_f h3x) (h:=q_T 37 (e:=(fun _ H => H)) (x:=by exact q_l) (h:=q_T 38 (e:=(fun _ H => H)) (x:=by exact h0m rfl) (h:=q_T 39 (e:=(fun _ H => H)) (x:=by exact h0l rfl) (h:=q_T 40 (e:=(fun _ H => H)) (x:=by exact q_f h3k) (h:=q_T 41 (e:=(fun _ H => H)) (x:=by exact q_l) (h:=q_T 42 (e:=(fun _ H => H)) (x:=by apply h2n; exact rfl; exact rfl; (focus (apply h3h Tryz.underlying9; omega; (with_reducible assumption)))) (h:=q_T 43 (e:=(fun _ H => H)) (x:=by exact q_b (r:=by exact h1o q_o)) (h:=q_T 44 (e:=(fun _ H => H)) (x:=by exact h5k rfl rfl) (h:=q_u 45 (x:=by exact h5k rfl rfl) (h:=h1e (by kernel_rfl) ?_))))))))))))))))))))))))))))))))))))))))))))))))) | ((refine h2q (id:=3) (m:=10) (by kernel_rfl) rfl (q_u 0 (x:=by exact h0m rfl) (h:=q_u 1 (x:=by exact h0l rfl) (h:=q_u 2 (x:=by exact q_f h3k) (h:=q_u 3 (x:=by exact q_l) (h:=q_u 4 (x:=by exact h0m rfl) (h:=q_u 5 (x:=by exact h0l rfl) (h:=q_u 6 (x:=by exact q_f h3x) (h:=q_u 7 (x:=by exact q_l) (h:=q_u 8 (x:=by exact h0g rfl (fun _ => BigFrame.builtin_len ..) (h0q Tryz.underlying9)) (h:=q_u 9 (x:=by exact q_b (r:=by exact h1o q_o)) (h:=h1e (by kernel_rfl) ?_))))))))))))) | (refine gR 5 (p_m (h:=p_n (h:=p_e (q_f h3k) (h:=p_e q_l (h:=p_a (h:=h0d ?_))))))) | (refine gR 6 (p_m (h:=p_n (h:=p_e (q_f fo_163_2) (h:=p_e q_l (h:=q_m ?_))))) <;> (try refine q_e (q_b (r:=by apply h1r; exact c_5; (focus (refine IntWalk.i64_in _ ?_; omega)))) ?_) <;> (try refine q_e (by exact h0s (t:=166) (fun vs => (match vs with | [(_, x0), (_, x1)] => [Value.int .u8 0, Value.string ⟨#[]⟩, Value.int .u64 0, x0, x1] | _ => [])) rfl (fun w => by kernel_rfl)) ?_; (try simp only [Value.cells]); (try simp only [zzC, zzN])) <;> (try refine h0f ?_; (refine h0i (t:=166) rfl Tryz.zeroValue166 ?_; intro nb hnb; (try simp only [Value.cells]))) <;> (try refine h0f ?_; (refine q_W ?_)) <;> (try refine h0d ?_)) | ((refine h2q (id:=7) (m:=10) (by kernel_rfl) rfl (q_u 0 (x:=by exact h0m rfl) (h:=q_u 1 (x:=by exact h0l rfl) (h:=q_u 2 (x:=by exact q_f h3x) (h:=q_u 3 (x:=by exact q_l) (h:=q_u 4 (x:=by exact h0m rfl) (h:=q_u 5 (x:=by exact h0l rfl) (h:=q_u 6 (x:=by exact q_f h3k) (h:=q_u 7 (x:=by exact q_l) (h:=q_u 8 (x:=by apply h2n; exact rfl; exact rfl; (focus (apply h3h Tryz.underlying9; omega; (with_reducible assumption)))) (h:=q_u 9 (x:=by exact h3g rfl) (h:=h1e (by kernel_rfl) ?_))))))))))))))
  refine ⟨?_⟩
  refine G_meetj (γ:=Unit) (fun _ => True) (fun _ => []) [(0, _), (3, _), (4, _)]
   (fun _ => lxB b s (a + m) line v (.int .i64 0) (.int .i64 0) (.int .i64 0) :: tkB nb (h2i x) ⟨#[]⟩ 0 (.int .i64 (line : Nat)) (.int .i64 ((a : Int) + 1)) :: (e ++ L)) (.cons rfl (.cons rfl (.cons rfl .nil))) ?_ ?_
  ·rcases hkd with ⟨g1, g2⟩ | ⟨g1, g2, g3⟩ | ⟨g1, g2, g3, g4⟩ | ⟨g1, g2, g3, g4⟩
   ·have hw := hw 1 72 witF g2 rfl (by kernel_rfl) (fun c L => within_c c)
    rw [g1] at hlet
    rw [g2]
    repeat' (first | refine h0p ?_ | refine h0e ?_ | refine h0t ?_ | refine h0x ?_ | refine h0r ?_ | refine h0j rfl ?_ | (refine gR 10 (q_m ?_) <;> (try refine h0f ?_; (refine h1k (F:=70) (by kernel_rfl) rfl rfl (hlet _) ?_; rintro _ _ ⟨rfl, rfl⟩)) <;> (try refine p_a (h:=h0d ?_))) | (refine gR 11 (q_e (q_f h4k) ?_) <;> (try refine h0f ?_; (refine q_S ?_)) <;> (try refine h0d ?_)) | (refine gR 12 (q_m ?_) <;> (try refine h0f ?_; (refine q_c 71 (c:=by apply hw; exact c_9) (h:=?_); rintro _ _ ⟨rfl, rfl⟩; (try simp only [zzE, zzF]))) <;> (try refine h0d ?_)))
    exact h0w () trivial (by (focus (repeat (first | exact Sub.nil | refine Sub.cons rfl ?_)))) (fun _ H => H)
   ·have hw := hw 2 74 alnF g3 rfl (by kernel_rfl) (fun c L => alnum_c c)
    rw [g1] at hlet
    rw [g2] at hdig
    rw [g3]
    repeat' (first | refine h0p ?_ | refine h0e ?_ | refine h0t ?_ | refine h0x ?_ | refine h0r ?_ | refine h0j rfl ?_ | refine h0h rfl ?_ | (refine gR 10 (q_m ?_) <;> (try refine h0f ?_; (refine h1k (F:=70) (by kernel_rfl) rfl rfl (hlet _) ?_; rintro _ _ ⟨rfl, rfl⟩)) <;> (try refine p_a (h:=h0d ?_))) | (refine gR 13 (q_m ?_) <;> (try refine h0f ?_; (refine h1k (F:=73) (by kernel_rfl) rfl rfl (hdig _) ?_; rintro _ _ ⟨rfl, rfl⟩)) <;> (try refine p_a (h:=h0d ?_))) | (refine gR 14 (q_e (q_f h4k) ?_) <;> (try refine h0f ?_; (refine q_S ?_)) <;> (try refine h0d ?_)) | (refine gR 15 (q_m ?_) <;> (try refine h0f ?_; (refine q_c 71 (c:=by apply hw; exact c_9) (h:=?_); rintro _ _ ⟨rfl, rfl⟩; (try simp only [zzE, zzF]))) <;> (try refine h0d ?_)))
    exact h0w () trivial (by (focus (repeat (first | exact Sub.nil | refine Sub.cons rfl ?_)))) (fun _ H => H)
   ·have hw := hw 3 75 prnF g4 rfl (by kernel_rfl) (fun c L => printable_c c)
    have h47 : (x.toNat : Int) = 47 := by rw [g3]; rfl
    rw [g1] at hlet
    rw [g2] at hdig
    rw [g4]
    repeat' (first | refine h0p ?_ | refine h0e ?_ | refine h0t ?_ | refine h0x ?_ | refine h0r ?_ | refine h0j rfl ?_ | refine h0h rfl ?_ | (refine gR 10 (q_m ?_) <;> (try refine h0f ?_; (refine h1k (F:=70) (by kernel_rfl) rfl rfl (hlet _) ?_; rintro _ _ ⟨rfl, rfl⟩)) <;> (try refine p_a (h:=h0d ?_))) | (refine gR 13 (q_m ?_) <;> (try refine h0f ?_; (refine h1k (F:=73) (by kernel_rfl) rfl rfl (hdig _) ?_; rintro _ _ ⟨rfl, rfl⟩)) <;> (try refine p_a (h:=h0d ?_))) | (refine gR 16 (q_m ?_) <;> (try refine q_e (by exact q_b (r:=by refine h1i ?_; first | rfl | (with_reducible assumption) | (decide; done) | omega)) ?_) <;> (try refine p_a (h:=h0d ?_))) | (refine gR 17 (q_e (q_f h4k) ?_) <;> (try refine h0f ?_; (refine q_S ?_)) <;> (try refine h0d ?_)) | (refine gR 18 (q_m ?_) <;> (try refine h0f ?_; (refine q_c 71 (c:=by apply hw; exact c_9) (h:=?_); rintro _ _ ⟨rfl, rfl⟩; (try simp only [zzE, zzF]))) <;> (try refine h0d ?_)))
    exact h0w () trivial (by (focus (repeat (first | exact Sub.nil | refine Sub.cons rfl ?_)))) (fun _ H => H)
   ·have hw := hw 4 76 sgnF g4 rfl (by kernel_rfl) (fun c L => sign_c c)
    have h47 : ¬ (x.toNat : Int) = 47 := u8_neq g3
    rw [g1] at hlet
    rw [g2] at hdig
    rw [g4]
    repeat' (first | refine h0p ?_ | refine h0e ?_ | refine h0t ?_ | refine h0x ?_ | refine h0r ?_ | refine h0h rfl ?_ | (refine gR 10 (q_m ?_) <;> (try refine h0f ?_; (refine h1k (F:=70) (by kernel_rfl) rfl rfl (hlet _) ?_; rintro _ _ ⟨rfl, rfl⟩)) <;> (try refine p_a (h:=h0d ?_))) | (refine gR 13 (q_m ?_) <;> (try refine h0f ?_; (refine h1k (F:=73) (by kernel_rfl) rfl rfl (hdig _) ?_; rintro _ _ ⟨rfl, rfl⟩)) <;> (try refine p_a (h:=h0d ?_))) | (refine gR 16 (p_m (h:=p_e (q_b (r:=by exact h1o q_o)) (h:=p_a (h:=h0d ?_))))) | (refine gR 8 (q_e (q_f h4k) ?_) <;> (try refine h0f ?_; (refine q_S ?_)) <;> (try refine h0d ?_)) | (refine gR 9 (q_m ?_) <;> (try refine h0f ?_; (refine q_c 71 (c:=by apply hw; exact c_9) (h:=?_); rintro _ _ ⟨rfl, rfl⟩; (try simp only [zzE, zzF]))) <;> (try refine h0d ?_)))
    exact h0w () trivial (by (focus (repeat (first | exact Sub.nil | refine Sub.cons rfl ?_)))) (fun _ H => H)
  ·intro _ _
   have hkk : h2i x = 1 ∨ h2i x = 2 ∨ h2i x = 3 ∨ h2i x = 4 := by
    rcases hkd with h | h | h | h
    ·exact .inl h.2
    ·exact .inr (.inl h.2.2)
    ·exact .inr (.inr (.inl h.2.2.2))
    ·exact .inr (.inr (.inr h.2.2.2))
   clear hkd hw hlet hdig
   generalize h2i x = k at *
   have hr := fun (L : List Blk) (p lv cv : Value) (tb i : Nat) (hi : L[i]? = some (tkB tb (k : Int) (s.extract a (a + m)) 0 lv cv)) => right_d (S:=S) (w0:=w0) k p hi (by omega) rfl hkk
   have ec : (a : Int) + 1 = ((a + 1 : Nat) : Int) := rfl
   obtain ⟨nbT, rfl⟩ : ∃ x, x = nb := ⟨_, rfl⟩
   cases hq : h4e k (lB (s.extract a (a + m))) with
   | mk er nm =>
    simp only [hq] at hr
    dsimp only
    by_cases her : er = 0
    ·rw [if_pos her]
     subst her
     have hcells : (⟨k, lB (s.extract a (a + m)), nm, line, a + 1⟩ : Tk).cells = [.int .u8 (k : Nat), .string (s.extract a (a + m)), .int .u64 (nm : Nat), .int .i64 (line : Nat), .int .i64 ((a + 1 : Nat) : Int)] := by
      unfold Tk.cells
      rw [mB8_lB]
     have hcells := Lib.hid hcells
     have hfl := flatTk_len out
     clear hq
     rcases h3i hown with ⟨rfl, h0, -, rfl⟩ | ⟨g, cap, cur, rfl, rfl, h1, h2, h3, h4⟩
     ·clear hown
      have h0' : out = [] := List.eq_nil_of_length_eq_zero h0
      subst h0'
      simp only [List.nil_append]
      repeat' (first | refine h0p ?_ | refine h0e ?_ | refine h0u ?_ | refine h1h ?_ | refine h0h rfl ?_ | ((apply h4c (i:=1) (id:=19) (m:=12); exact c_11; kernel_rfl; exact rfl) <;> (try refine q_t 0 (e:=c_6) (x:=by exact h0m rfl) (h:=q_t 1 (e:=c_6) (x:=by exact h0l rfl) (h:=q_t 2 (e:=c_6) (x:=by exact q_f h3x) (h:=q_t 3 (e:=c_6) (x:=by exact q_l) (h:=q_t 4 (e:=c_6) (x:=by exact h0m rfl) (h:=q_t 5 (e:=c_6) (x:=by exact h0m rfl) (h:=q_t 6 (e:=c_6) (x:=by exact h0l rfl) (h:=q_t 7 (e:=c_6) (x:=by exact q_f h3k) (h:=q_t 8 (e:=c_6) (x:=by exact q_l) (h:=q_t 9 (e:=c_6) (x:=by apply h4w; exact rfl; exact rfl; exact rfl; exact rfl; (focus (apply h5a Tryz.underlying9; (focus (apply bd_11; omega; omega; omega; exact c_0; exact c_0)); exact rfl))) (h:=q_t 10 (e:=c_6) (x:=by exact q_f h1m) (h:=?_)))))))))))) <;> (try refine q_r 11 ?_; (refine q_S ?_); refine h1g c_6 ?_) <;> (try refine h1e (by kernel_rfl) ?_)) | (refine gR 20 (q_m ?_) <;> (try refine h0f ?_; (refine q_c 78 (c:=by apply hr; exact c_9) (h:=?_); rintro _ _ ⟨rfl, rfl⟩; (try simp only [zzE, zzF]))) <;> (try refine p_a (h:=h0d ?_))) | (refine gR 21 (q_m ?_) <;> (try refine q_e (by exact q_b (r:=by refine h3o ?_; first | rfl | (with_reducible assumption) | (decide; done) | omega)) ?_) <;> (try refine h0d ?_)) | ((apply h4c (i:=1) (id:=24) (m:=11); exact c_11; kernel_rfl; exact rfl) <;> (try refine q_t 0 (e:=c_6) (x:=by exact h0m rfl) (h:=q_t 1 (e:=c_6) (x:=by exact h0m rfl) (h:=q_t 2 (e:=c_6) (x:=by exact h0l rfl) (h:=q_t 3 (e:=c_6) (x:=by exact q_f h5t) (h:=q_t 5 (e:=c_6) (x:=by exact q_L h2k) (h:=?_)))))) <;> (try refine h2d (i:=4) (j:=6) rfl rfl (by kernel_rfl) ?_ ?_ <;> (first | (refine TagA.mk ?_; (((refine q_k q_l ?_); refine h1g c_6 ?_) <;> (try refine q_r 6 ?_; (refine h0o (t:=78) (m:=1) (e:=166) (fun vs => (match vs with | [(_, x0)] => x0.cells.toList | _ => [])) rfl rfl (fun w => by kernel_rfl) ?_; intro nb hnb; (try simp only [Value.cells]); (try simp only [zzC, zzN])); refine h1g c_6 ?_) <;> (try refine q_r 7 ?_; (apply h2m; exact rfl; exact Tryz.underlying78; exact inf_166_i; exact inf_166_z; exact inf_166_s; exact inf_166_b; exact rfl; exact rfl; exact rfl; exact Own.nil _ _; exact fd0; exact Nat.le_of_ble_eq_true rfl; exact c_25; exact rfl; exact h5u; omega; (exact fun _ H => H); exact rfl; exact h6c; exact c_4; intro vA eA hownA; obtain ⟨gA, capA, curA, rfl, rfl, hA1, hA2, hA3, hA4⟩ := hownA.some (by omega)); refine h1g c_6 ?_) <;> (try refine q_t 8 (e:=c_6) (x:=by exact h0l rfl) (h:=q_t 9 (e:=c_6) (x:=by exact q_f h5t) (h:=?_))) <;> (try refine q_r 10 ?_; (apply h6p (t:=78); exact rfl; exact rfl; (focus (repeat (first | exact fd0 | apply fdA | apply fdS))); exact rfl; exact rfl; kernel_rfl; exact Nat.le_of_ble_eq_true rfl; exact c_28; (try simp only [List.set_cons_succ]); (try simp only [List.set_cons_zero])); refine h1g c_6 ?_) <;> (try refine h1e (by kernel_rfl) ?_))) | (refine TagB.mk ?_; (((refine h0o (t:=78) (m:=1) (e:=166) (fun vs => (match vs with | [(_, x0)] => x0.cells.toList | _ => [])) rfl rfl (fun w => by kernel_rfl) ?_; intro nb hnb; (try simp only [Value.cells]); (try simp only [zzC, zzN])); refine h1g c_6 ?_) <;> (try refine q_r 4 ?_; (refine q_k q_l ?_); refine h1g c_6 ?_) <;> (try refine q_r 7 ?_; (apply h2m; exact rfl; exact Tryz.underlying78; exact inf_166_i; exact inf_166_z; exact inf_166_s; exact inf_166_b; exact rfl; exact rfl; exact rfl; exact Own.nil _ _; exact fd0; exact Nat.le_of_ble_eq_true rfl; exact c_25; exact rfl; exact h5u; omega; (exact fun _ H => H); exact rfl; exact h6c; exact c_4; intro vA eA hownA; obtain ⟨gA, capA, curA, rfl, rfl, hA1, hA2, hA3, hA4⟩ := hownA.some (by omega)); refine h1g c_6 ?_) <;> (try refine q_t 8 (e:=c_6) (x:=by exact h0l rfl) (h:=q_t 9 (e:=c_6) (x:=by exact q_f h5t) (h:=?_))) <;> (try refine q_r 10 ?_; (apply h6p (t:=78); exact rfl; exact rfl; (focus (repeat (first | exact fd0 | apply fdA | apply fdS))); exact rfl; exact rfl; kernel_rfl; exact Nat.le_of_ble_eq_true rfl; exact c_28; (try simp only [List.set_cons_succ]); (try simp only [List.set_cons_zero])); refine h1g c_6 ?_) <;> (try refine h1e (by kernel_rfl) ?_)))))) | (refine gR 25 (p_a (h:=h0d ?_))))
      all_goals
       (try simp only [List.cons_append, List.nil_append, List.length_cons, List.length_nil, List.set_cons_succ, List.set_cons_zero, Nat.zero_add, Nat.reduceAdd])
       (refine h0v Tryz.results49 (.tmp rfl .nil) ?_)
       simp only [ec] at hA4
       exact ⟨_, ⟨rfl, by omega, _, [⟨true, gA, .cells curA 166 (0, 0)⟩], h4f hA1 hA2 hA3 (by rw [List.nil_append]; refine hA4.trans ?_; unfold h4o; rw [List.flatMap_cons, List.flatMap_nil, List.append_nil, hcells.out]), rfl⟩, by intro w H; refine Sel.out ?_ H; (try simp only [zzC, zzN]); repeat (first | exact Sel.refl _ | (apply Sel.cons; exact h3n; (try simp only [zzE, zzF])) | apply Sel.drop)⟩
     ·clear hown
      simp only [List.cons_append, List.nil_append]
      repeat' (first | refine h0p ?_ | refine h0e ?_ | refine h0u ?_ | refine h1h ?_ | refine h0h rfl ?_ | ((apply h4c (i:=1) (id:=19) (m:=12); exact c_11; kernel_rfl; exact rfl) <;> (try refine q_t 0 (e:=c_6) (x:=by exact h0m rfl) (h:=q_t 1 (e:=c_6) (x:=by exact h0l rfl) (h:=q_t 2 (e:=c_6) (x:=by exact q_f h3x) (h:=q_t 3 (e:=c_6) (x:=by exact q_l) (h:=q_t 4 (e:=c_6) (x:=by exact h0m rfl) (h:=q_t 5 (e:=c_6) (x:=by exact h0m rfl) (h:=q_t 6 (e:=c_6) (x:=by exact h0l rfl) (h:=q_t 7 (e:=c_6) (x:=by exact q_f h3k) (h:=q_t 8 (e:=c_6) (x:=by exact q_l) (h:=q_t 9 (e:=c_6) (x:=by apply h4w; exact rfl; exact rfl; exact rfl; exact rfl; (focus (apply h5a Tryz.underlying9; (focus (apply bd_11; omega; omega; omega; exact c_0; exact c_0)); exact rfl))) (h:=q_t 10 (e:=c_6) (x:=by exact q_f h1m) (h:=?_)))))))))))) <;> (try refine q_r 11 ?_; (refine q_S ?_); refine h1g c_6 ?_) <;> (try refine h1e (by kernel_rfl) ?_)) | (refine gR 20 (q_m ?_) <;> (try refine h0f ?_; (refine q_c 78 (c:=by apply hr; exact c_9) (h:=?_); rintro _ _ ⟨rfl, rfl⟩; (try simp only [zzE, zzF]))) <;> (try refine p_a (h:=h0d ?_))) | (refine gR 21 (q_m ?_) <;> (try refine q_e (by exact q_b (r:=by refine h3o ?_; first | rfl | (with_reducible assumption) | (decide; done) | omega)) ?_) <;> (try refine h0d ?_)) | ((apply h4t (i:=1) (j:=1) (id:=24) (m:=11); exact c_11; kernel_rfl; exact rfl) <;> (try refine q_t 0 (e:=c_3) (x:=by exact h0m rfl) (h:=q_t 1 (e:=c_3) (x:=by exact h0m rfl) (h:=q_t 2 (e:=c_3) (x:=by exact h0l rfl) (h:=q_t 3 (e:=c_3) (x:=by exact q_f h5t) (h:=q_t 5 (e:=c_3) (x:=by exact q_L h2k) (h:=?_)))))) <;> (try refine h2d (i:=4) (j:=6) rfl rfl (by kernel_rfl) ?_ ?_ <;> (first | (refine TagA.mk ?_; (((refine q_k q_l ?_); refine h1g c_3 ?_) <;> (try refine q_r 6 ?_; (refine h0o (t:=78) (m:=1) (e:=166) (fun vs => (match vs with | [(_, x0)] => x0.cells.toList | _ => [])) rfl rfl (fun w => by kernel_rfl) ?_; intro nb hnb; (try simp only [Value.cells]); (try simp only [zzC, zzN])); refine h1g c_3 ?_) <;> (try refine q_r 7 ?_; (apply h1z; exact rfl; exact Tryz.underlying78; exact inf_166_i; exact inf_166_z; exact inf_166_s; exact inf_166_b; exact rfl; exact rfl; exact rfl; exact h3n; (with_reducible assumption); (with_reducible assumption); (with_reducible assumption); exact fd0; exact Nat.le_of_ble_eq_true rfl; exact c_25; exact rfl; exact h5u; omega; exact rfl; exact h6c; exact c_4; (try simp only [zzE, zzF]); intro vA eA hownA; obtain ⟨gA, capA, curA, rfl, rfl, hA1, hA2, hA3, hA4⟩ := hownA.some (by omega)); refine h1g c_3 ?_) <;> (try refine q_t 8 (e:=c_3) (x:=by exact h0l rfl) (h:=q_t 9 (e:=c_3) (x:=by exact q_f h5t) (h:=?_))) <;> (try refine q_r 10 ?_; (apply h6p (t:=78); exact rfl; exact rfl; (focus (repeat (first | exact fd0 | apply fdA | apply fdS))); exact rfl; exact rfl; kernel_rfl; exact Nat.le_of_ble_eq_true rfl; exact c_28; (try simp only [List.set_cons_succ]); (try simp only [List.set_cons_zero])); refine h1g c_3 ?_) <;> (try refine h1e (by kernel_rfl) ?_))) | (refine TagB.mk ?_; (((refine h0o (t:=78) (m:=1) (e:=166) (fun vs => (match vs with | [(_, x0)] => x0.cells.toList | _ => [])) rfl rfl (fun w => by kernel_rfl) ?_; intro nb hnb; (try simp only [Value.cells]); (try simp only [zzC, zzN])); refine h1g c_3 ?_) <;> (try refine q_r 4 ?_; (refine q_k q_l ?_); refine h1g c_3 ?_) <;> (try refine q_r 7 ?_; (apply h1z; exact rfl; exact Tryz.underlying78; exact inf_166_i; exact inf_166_z; exact inf_166_s; exact inf_166_b; exact rfl; exact rfl; exact rfl; exact h3n; (with_reducible assumption); (with_reducible assumption); (with_reducible assumption); exact fd0; exact Nat.le_of_ble_eq_true rfl; exact c_25; exact rfl; exact h5u; omega; exact rfl; exact h6c; exact c_4; (try simp only [zzE, zzF]); intro vA eA hownA; obtain ⟨gA, capA, curA, rfl, rfl, hA1, hA2, hA3, hA4⟩ := hownA.some (by omega)); refine h1g c_3 ?_) <;> (try refine q_t 8 (e:=c_3) (x:=by exact h0l rfl) (h:=q_t 9 (e:=c_3) (x:=by exact q_f h5t) (h:=?_))) <;> (try refine q_r 10 ?_; (apply h6p (t:=78); exact rfl; exact rfl; (focus (repeat (first | exact fd0 | apply fdA | apply fdS))); exact rfl; exact rfl; kernel_rfl; exact Nat.le_of_ble_eq_true rfl; exact c_28; (try simp only [List.set_cons_succ]); (try simp only [List.set_cons_zero])); refine h1g c_3 ?_) <;> (try refine h1e (by kernel_rfl) ?_)))))) | (refine gR 25 (p_a (h:=h0d ?_))))
      all_goals
       (try simp only [List.cons_append, List.nil_append, List.length_cons, List.length_nil, List.set_cons_succ, List.set_cons_zero, Nat.zero_add, Nat.reduceAdd])
       (refine h0v Tryz.results49 (.tmp rfl .nil) ?_)
       simp only [ec] at hA4
       exact ⟨_, ⟨rfl, by omega, _, [⟨true, gA, .cells curA 166 (0, 0)⟩], h4f hA1 hA2 hA3 (by rw [hA4, flatTk_snoc, hcells.out, h4]), rfl⟩, by intro w H; refine Sel.out ?_ H; (try simp only [zzC, zzN]); repeat (first | exact Sel.refl _ | (apply Sel.cons; exact h3n; (try simp only [zzE, zzF])) | apply Sel.drop)⟩
    ·rw [if_neg her]
     repeat' (first | refine h0p ?_ | refine h0e ?_ | refine h1f ?_ | refine h1h ?_ | refine h0j rfl ?_ | ((apply h4c (i:=1) (id:=19) (m:=12); exact c_11; kernel_rfl; exact rfl) <;> (try refine q_t 0 (e:=c_6) (x:=by exact h0m rfl) (h:=q_t 1 (e:=c_6) (x:=by exact h0l rfl) (h:=q_t 2 (e:=c_6) (x:=by exact q_f h3x) (h:=q_t 3 (e:=c_6) (x:=by exact q_l) (h:=q_t 4 (e:=c_6) (x:=by exact h0m rfl) (h:=q_t 5 (e:=c_6) (x:=by exact h0m rfl) (h:=q_t 6 (e:=c_6) (x:=by exact h0l rfl) (h:=q_t 7 (e:=c_6) (x:=by exact q_f h3k) (h:=q_t 8 (e:=c_6) (x:=by exact q_l) (h:=q_t 9 (e:=c_6) (x:=by apply h4w; exact rfl; exact rfl; exact rfl; exact rfl; (focus (apply h5a Tryz.underlying9; (focus (apply bd_11; omega; omega; omega; exact c_0; exact c_0)); exact rfl))) (h:=q_t 10 (e:=c_6) (x:=by exact q_f h1m) (h:=?_)))))))))))) <;> (try refine q_r 11 ?_; (refine q_S ?_); refine h1g c_6 ?_) <;> (try refine h1e (by kernel_rfl) ?_)) | (refine gR 20 (q_m ?_) <;> (try refine h0f ?_; (refine q_c 78 (c:=by apply hr; exact c_9) (h:=?_); rintro _ _ ⟨rfl, rfl⟩; (try simp only [zzE, zzF]))) <;> (try refine p_a (h:=h0d ?_))) | (refine gR 21 (p_m (h:=p_e (q_b (r:=by exact h3v q_o)) (h:=h0d ?_)))) | (refine gR 22 (p_m (h:=p_e (q_f fo_166_3) (h:=p_e q_l (h:=p_e (q_f fo_166_4) (h:=p_e q_l (h:=q_m ?_)))))) <;> (try refine q_e (by exact h0s (t:=25) (fun vs => (match vs with | [(_, x0), (_, x1), (_, x2)] => [x0, x1, x2] | _ => [])) rfl (fun w => by kernel_rfl)) ?_; (try simp only [Value.cells]); (try simp only [zzC, zzN])) <;> (try refine p_n (h:=q_e (q_f fo_163_4) ?_)) <;> (try refine h0f ?_; (apply K1_storeN (t:=25); exact rfl; exact rfl; exact h3n; exact h3z; exact rfl; exact rfl; exact Nat.le_of_ble_eq_true rfl; (try simp only [List.set_cons_succ]); (try simp only [List.set_cons_zero]))) <;> (try refine h0d ?_)) | (refine gR 23 (p_a (h:=h0d ?_))))
     simp only [ec]
     (refine h0v Tryz.results49 (.tmp rfl .nil) ?_)
     exact ⟨_, ⟨rfl, _, rfl⟩, by intro w H; refine Sel.out ?_ H; (try simp only [zzC, zzN]); repeat (first | exact Sel.refl _ | (apply Sel.cons; exact h3n; (try simp only [zzE, zzF])) | apply Sel.drop)⟩
theorem ixb_none {c : UInt8} {l : List UInt8} (h : l.count c = 0) : Lib.indexByte l c = -1 := by
 induction l with
 | nil => rfl
 | cons b r ih =>
  rw [List.count_cons] at h
  have hb : (b == c) = false := by
   cases hbc : b == c
   ·rfl
   ·rw [hbc] at h; simp at h
  rw [Lib.indexByte, hb, ih (by omega)]; rfl
theorem sidx1_c {S w0 L} (s : ByteArray) (c : UInt8) : Fn Tryz.prog 95 #[.string s, .string ⟨#[c]⟩] S w0 L fun v L' => v = .int .i64 (Lib.indexByte (lB s) c) ∧ L = L' :=
 .mk fun w H => (stringslite_Index_one s c w).mono fun e w' ⟨he, hw⟩ => ⟨_, _, he, ⟨rfl, rfl⟩, hw ▸ H⟩
def h5c (c : UInt8) (l : List UInt8) : List UInt8 := (h1p c l).headD []
theorem headF_len (c : UInt8) (l : List UInt8) : (h5c c l).length ≤ l.length := by
 unfold h5c
 by_cases h : l.count c = 0
 ·rw [ix_none h]; exact Nat.le_refl _
 ·obtain ⟨m, h1, h2, h3, h4⟩ := ix_some (c:=c) (l:=l) (by omega)
  rw [h3, List.headD_cons, List.length_take]; omega
theorem cut1_c {S w0 L} (s : ByteArray) (c : UInt8) (hs : s.size ≤ 1000000) : Fn Tryz.prog 48 #[.string s, .string ⟨#[c]⟩] S w0 L fun v L' => ∃ x y, v = h2y [.string (mB8 (h5c c (lB s))), x, y] ∧ L = L' := by
 have hix := fun (L : List Blk) => sidx1_c (S:=S) (w0:=w0) (L:=L) s c
 have e1 : (⟨#[c]⟩ : ByteArray).size = 1 := rfl
 have main : Fn Tryz.prog 69 #[.string s, .string ⟨#[c]⟩] S w0 L fun v L' => ∃ x y, v = h2y [.string (mB8 (h5c c (lB s))), x, y] ∧ L = L' := by
  by_cases h : (lB s).count c = 0
  ·have hh : mB8 (h5c c (lB s)) = s := by unfold h5c; rw [ix_none h, List.headD_cons, mB8_lB]
   rw [ixb_none h] at hix
   rw [hh]
   refine Fn2 Tryz.func69 Tryz.ntmps69 rfl rfl ?_
   repeat' (first | refine h0p ?_ | refine h0e ?_ | refine h0u ?_ | refine h1h ?_ | refine h0h rfl ?_ | (refine gR 0 (p_a (h:=p_a (h:=p_a (h:=h0d ?_))))) | (refine gR 1 (p_m (h:=q_m ?_)) <;> (try refine h0f ?_; (refine h1k (F:=95) (by kernel_rfl) rfl rfl (hix _) ?_; rintro _ _ ⟨rfl, rfl⟩)) <;> (try refine p_a (h:=h0d ?_))) | (refine gR 2 (p_m (h:=p_e (q_b (r:=by exact rb_geq_f q_o)) (h:=h0d ?_)))) | (refine gR 4 (p_m (h:=p_a (h:=p_a (h:=p_a (h:=h0d ?_)))))))
   (refine h0v Tryz.results69 (.tmp rfl (.tmp rfl (.tmp rfl .nil))) ?_)
   exact ⟨_, ⟨_, _, rfl, rfl⟩, by intro w H; refine H.sub ?_; (try simp only [zzC, zzN]); repeat (exact List.Sublist.refl _)⟩
  ·obtain ⟨m, h1, h2, h3, h4⟩ := ix_some (c:=c) (l:=lB s) (by omega)
   rw [h3d] at h2
   have hh : mB8 (h5c c (lB s)) = s.extract 0 m := by unfold h5c; rw [h3, List.headD_cons, ext_take]
   rw [h1] at hix
   rw [hh]
   clear h3 h4
   refine Fn2 Tryz.func69 Tryz.ntmps69 rfl rfl ?_
   repeat' (first | refine h0p ?_ | refine h0e ?_ | refine h1f ?_ | refine h1h ?_ | refine h0j rfl ?_ | (refine gR 0 (p_a (h:=p_a (h:=p_a (h:=h0d ?_))))) | (refine gR 1 (p_m (h:=q_m ?_)) <;> (try refine h0f ?_; (refine h1k (F:=95) (by kernel_rfl) rfl rfl (hix _) ?_; rintro _ _ ⟨rfl, rfl⟩)) <;> (try refine p_a (h:=h0d ?_))) | (refine gR 2 (p_m (h:=p_e (q_b (r:=by exact rb_geq_t q_o)) (h:=h0d ?_)))) | ((refine h2q (id:=3) (m:=12) (by kernel_rfl) rfl (q_u 0 (x:=by exact h0m rfl) (h:=q_u 1 (x:=by exact h0m rfl) (h:=q_u 2 (x:=by apply h4w; exact rfl; exact rfl; exact rfl; exact rfl; (focus (apply h5a Tryz.underlying9; (focus (apply bd_01; omega; omega; exact c_0)); exact rfl))) (h:=q_u 3 (x:=by exact h0m rfl) (h:=q_u 4 (x:=by exact h0m rfl) (h:=q_u 5 (x:=by exact h0m rfl) (h:=q_u 6 (x:=by exact h0g rfl (fun _ => BigFrame.builtin_len ..) (h0q Tryz.underlying9)) (h:=?_))))))))) <;> (try refine q_u 7 (x:=by exact q_b (r:=by apply h1r; exact c_5; (focus (refine IntWalk.i64_in _ ?_; omega)))) (h:=?_)) <;> (try refine q_u 8 (x:=by apply h4w; exact rfl; exact rfl; exact rfl; exact rfl; (focus (apply h5a Tryz.underlying9; (focus (apply bd_10; omega; omega; exact c_0)); exact rfl))) (h:=q_u 9 (x:=by exact h3g rfl) (h:=q_u 10 (x:=by exact h3g rfl) (h:=q_u 11 (x:=by exact h3g rfl) (h:=h1e (by kernel_rfl) ?_)))))))
   (refine h0v Tryz.results69 (.tmp rfl (.tmp rfl (.tmp rfl .nil))) ?_)
   exact ⟨_, ⟨_, _, rfl, rfl⟩, by intro w H; refine H.sub ?_; (try simp only [zzC, zzN]); repeat (exact List.Sublist.refl _)⟩
 have main := Lib.hid main
 clear hix
 refine Fn2 Tryz.func48 Tryz.ntmps48 rfl rfl ?_
 repeat' (first | refine h0p ?_ | refine h0e ?_ | refine h1h ?_ | (refine gR 0 (p_a (h:=p_a (h:=p_a (h:=h0d ?_))))) | (refine gR 1 (p_m (h:=q_m ?_)) <;> (try refine h0f ?_; (refine h1k (F:=69) (by kernel_rfl) rfl rfl main.out ?_; rintro _ _ ⟨x, y, rfl, rfl⟩)) <;> (try refine p_x (h:=p_x (h:=p_x (h:=p_a (h:=p_a (h:=p_a (h:=h0d ?_)))))))))
 (refine h0v Tryz.results48 (.tmp rfl (.tmp rfl (.tmp rfl .nil))) ?_)
 exact ⟨_, ⟨_, _, rfl, rfl⟩, by intro w H; refine H.sub ?_; (try simp only [zzC, zzN]); repeat (exact List.Sublist.refl _)⟩
theorem strs_at' (P : List (List UInt8)) (k : Nat) (h : k < P.length) : (strs P).toArray.toList[k]? = some (.string (mB8 P[k])) := by
 show (strs P)[k]? = _
 unfold strs
 rw [List.getElem?_map, List.getElem?_eq_getElem h]; rfl
theorem splitC_le (l : List UInt8) : ∀ x ∈ h1p 10 l, x.length ≤ l.length := by
 induction l with
 | nil => intro x hx; rw [h1p, List.mem_singleton] at hx; rw [hx]; exact Nat.le_refl _
 | cons b r ih =>
  intro x hx
  rw [h1p] at hx
  have hne := splitC_ne 10 r
  split at hx
  ·rcases List.mem_cons.1 hx with rfl | hx
   ·exact Nat.zero_le _
   ·exact Nat.le_trans (ih x hx) (Nat.le_succ _)
  ·cases hsr : h1p 10 r with
   | nil => exact absurd hsr hne
   | cons y ys =>
    rw [hsr] at hx ih
    rw [List.headD_cons, List.tail_cons] at hx
    rcases List.mem_cons.1 hx with rfl | hx
    ·have := ih y (List.mem_cons_self ..)
     rw [List.length_cons, List.length_cons]; omega
    ·exact Nat.le_trans (ih x (List.mem_cons_of_mem _ hx)) (Nat.le_succ _)
def h5w (line : Nat) (l : List UInt8) : Nat → Nat → List Tk → List Tk × Option (Nat × Nat)
 | 0, _, out => (out, none)
 | f + 1, a, out => match nextF line l a with
  | .done => (out, none)
  | .wrong c e => (out, some (c, e))
  | .tok t a' => h5w line l f a' (out ++ [t])
def lexLn (line : Nat) (l : List UInt8) : List Tk × Option (Nat × Nat) := h5w line l (l.length + 1) 0 []
theorem wl_pos {p : UInt8 → Bool} {c : UInt8} {r : List UInt8} (h : p c = true) : 0 < wl p (c :: r) := by rw [wl_yes _ h]; omega
theorem next_tok {line : Nat} {l : List UInt8} {a a' : Nat} {t : Tk} (h : nextF line l a = .tok t a') : a < a' ∧ a' ≤ l.length := by
 unfold nextF at h
 have hb := wl_le blkF (l.drop a)
 generalize hA : a + wl blkF (l.drop a) = a1 at *
 cases hd : l.drop a1 with
 | nil => rw [hd] at h; cases h
 | cons c r =>
  rw [hd] at h
  have hl : (l.drop a1).length = r.length + 1 := by rw [hd]; rfl
  rw [List.length_drop] at hl
  dsimp only [nextAt] at h
  have hw := wl_le (h5l (h2i c)) (c :: r)
  rw [List.length_cons] at hw
  by_cases hq : (h4e (h2i c) ((c :: r).take (wl (h5l (h2i c)) (c :: r)))).1 = 0
  ·rw [if_pos hq] at h
   injection h with h1 h2
   have hm : 0 < wl (h5l (h2i c)) (c :: r) := by
    by_cases h1 : letF c = true
    ·have hk : h2i c = 1 := by unfold h2i; rw [if_pos h1]
     rw [hk]
     exact wl_pos (p:=witF) (by simp [witF, h1])
    ·by_cases h2 : digF c = true
     ·have hk : h2i c = 2 := by unfold h2i; rw [if_neg h1, if_pos h2]
      rw [hk]
      exact wl_pos (p:=alnF) (by simp [alnF, h2])
     ·by_cases h3 : c = 47
      ·have hk : h2i c = 3 := by unfold h2i; rw [if_neg h1, if_neg h2, if_pos h3]
       rw [hk]
       exact wl_pos (p:=prnF) (by rw [h3]; decide)
      ·have hk : h2i c = 4 := by unfold h2i; rw [if_neg h1, if_neg h2, if_neg h3]
       rw [hk] at hq ⊢
       rcases Nat.eq_zero_or_pos (wl (h5l 4) (c :: r)) with h0 | h0
       ·rw [h0, List.take_zero] at hq
        exact absurd hq (by decide)
       ·exact h0
   omega
  ·rw [if_neg hq] at h; cases h
def h5f : Nat → List (List UInt8) → List Tk → List Tk × Option (Nat × Nat × Nat)
 | _, [], out => (out, none)
 | n, p :: ps, out => match lexLn (n + 1) (h5c 35 p) with
  | (_, some (c, e)) => ([], some (n + 1, c, e))
  | (ts, none) => h5f (n + 1) ps (if ts = [] then out else out ++ ts ++ [⟨0, [], 0, n + 1, (h5c 35 p).length + 1⟩])
def lexF (l : List UInt8) : List Tk × Option (Nat × Nat × Nat) := if l.length > 65536 then ([], some (0, 0, 36)) else h5f 0 (h1p 10 l) []
def wrC : Option (Nat × Nat × Nat) → List Value
 | none => [.int .i64 0, .int .i64 0, .int .i64 0]
 | some (a, b, c) => [.int .i64 (a : Nat), .int .i64 (b : Nat), .int .i64 (c : Nat)]
theorem flatTk_one (l : List Tk) : ∀ u ∈ h4o l, u.oneCell' = true := by
 intro u hu
 obtain ⟨t, -, ht⟩ := List.mem_flatMap.1 hu
 simp only [Tk.cells, List.mem_cons, List.not_mem_nil, or_false] at ht
 rcases ht with rfl | rfl | rfl | rfl | rfl <;> rfl
theorem flatTk_app (a b : List Tk) : h4o (a ++ b) = h4o a ++ h4o b := by simp [h4o]
structure LnI (line : Nat) (t : ByteArray) (g : Nat × Nat × Value × List Blk × List Tk) : Prop where
 le : g.1 ≤ t.size
 fu : t.size + 1 ≤ g.1 + g.2.1
 mx : g.2.1 ≤ t.size + 1
 ln : g.2.2.2.2.length + g.2.1 ≤ t.size + 1
 eq : lexLn line (lB t) = h5w line (lB t) g.2.1 g.1 g.2.2.2.2
 own : Own 166 5 g.2.2.1 g.2.2.2.2.length (h4o g.2.2.2.2) g.2.2.2.1
structure LxI (P : List (List UInt8)) (g : Nat × Value × List Blk × List Tk) : Prop where
 le : g.1 ≤ P.length
 ln : g.2.2.2.length ≤ g.1 * 65540
 eq : h5f 0 P [] = h5f g.1 (P.drop g.1) g.2.2.2
 own : Own 166 5 g.2.1 g.2.2.2.length (h4o g.2.2.2) g.2.2.1
def LexR (l : List UInt8) (L : List Blk) (r : Value) (L' : List Blk) : Prop := ∃ v e, r = h2y [v, .agg (wrC (lexF l).2).toArray] ∧ Own 166 5 v (lexF l).1.length (h4o (lexF l).1) e ∧ e ++ L = L'
set_option maxHeartbeats 4000000 in
theorem lex_c {S w0 L} (s : ByteArray) (hs : s.size ≤ 1000000) : Fn Tryz.prog 22 #[.string s] S w0 L (LexR (lB s) L) := by
 by_cases hbig : s.size > 65536
 ·have hx : lexF (lB s) = ([], some (0, 0, 36)) := by unfold lexF; rw [if_pos (by rw [h3d]; exact hbig)]
  have hx' := Lib.hid hx
  clear hx
  refine Fn1 Tryz.func22 Tryz.ntmps22 rfl rfl ?_
  repeat' (first | refine h0p ?_ | refine h0e ?_ | refine h1f ?_ | refine h1h ?_ | refine h0j rfl ?_ | (refine gR 0 (q_a ?_) <;> (try refine h0f ?_; (refine h0i (t:=25) rfl Tryz.zeroValue25 ?_; intro nb hnb; (try simp only [Value.cells]))) <;> (try refine h0d ?_)) | (refine gR 1 (p_m (h:=p_e (h0g rfl (fun _ => BigFrame.builtin_len ..) (h0q Tryz.underlying9)) (h:=p_e (q_b (r:=by exact h1y q_o)) (h:=h0d ?_))))) | (refine gR 2 ?_ <;> (try refine q_e (by exact h0s (t:=25) (fun vs => (match vs with | [(_, x0)] => [Value.int .i64 0, Value.int .i64 0, x0] | _ => [])) rfl (fun w => by kernel_rfl)) ?_; (try simp only [Value.cells]); (try simp only [zzC, zzN])) <;> (try refine q_a ?_) <;> (try refine h0f ?_; (refine q_W ?_)) <;> (try refine h0d ?_)))
  (apply h0v Tryz.results22; (focus (apply Res.tmp; exact rfl; apply Res.agg; exact rfl; (focus (repeat (first | exact fd0 | (with_reducible assumption) | apply fdA | apply fdS))); kernel_rfl; kernel_rfl; exact c_16; exact h3z; exact Res.nil)))
  refine ⟨_, ⟨.slice none 0 0, [], ?_, ?_, rfl⟩, by intro w H; refine H.sub ?_; (try simp only [zzC, zzN]); repeat (first | exact List.Sublist.refl _ | refine List.Sublist.cons _ ?_)⟩
  ·rw [hx'.out]; rfl
  ·rw [hx'.out]; exact Own.nil _ _
 have hlx : lexF (lB s) = h5f 0 (h1p 10 (lB s)) [] := by unfold lexF; rw [if_neg (by rw [h3d]; exact hbig)]
 have hlx' := Lib.hid hlx
 clear hlx
 have hsp := fun (L : List Blk) => split1_c (S:=S) (w0:=w0) (L:=L) s hs 10
 have hlen := splitC_len 10 (lB s)
 have hcl : (lB s).count 10 ≤ s.size := by rw [← h3d]; exact List.count_le_length
 have hpl : ∀ x ∈ h1p 10 (lB s), x.length ≤ s.size := by
  have : ∀ (l : List UInt8), ∀ x ∈ h1p 10 l, x.length ≤ l.length := by
   intro l
   induction l with
   | nil => intro x hx; rw [h1p, List.mem_singleton] at hx; rw [hx]; exact Nat.le_refl _
   | cons b r ih =>
    intro x hx
    rw [h1p] at hx
    have hne := splitC_ne 10 r
    split at hx
    ·rcases List.mem_cons.1 hx with rfl | hx
     ·exact Nat.zero_le _
     ·exact Nat.le_trans (ih x hx) (Nat.le_succ _)
    ·cases hsr : h1p 10 r with
     | nil => exact absurd hsr hne
     | cons y ys =>
      rw [hsr] at hx ih
      rw [List.headD_cons, List.tail_cons] at hx
      rcases List.mem_cons.1 hx with rfl | hx
      ·have := ih y (List.mem_cons_self ..)
       rw [List.length_cons, List.length_cons]; omega
      ·exact Nat.le_trans (ih x (List.mem_cons_of_mem _ hx)) (Nat.le_succ _)
  intro x hx
  have := this (lB s) x hx
  rwa [h3d] at this
 generalize h1p 10 (lB s) = P at *
 have hN : P.length ≤ 65537 := by omega
 clear hlen hcl
 refine Fn1 Tryz.func22 Tryz.ntmps22 rfl rfl ?_
 repeat' (first | (refine h2r (id:=0) ?_) | refine h0p ?_ | refine h0e ?_ | refine h0u ?_ | refine h0h rfl ?_ | (refine gR 0 (q_a ?_) <;> (try refine h0f ?_; (refine h0i (t:=25) rfl Tryz.zeroValue25 ?_; intro nb hnb; (try simp only [Value.cells]))) <;> (try refine h0d ?_)) | (refine gR 1 (p_m (h:=p_e (h0g rfl (fun _ => BigFrame.builtin_len ..) (h0q Tryz.underlying9)) (h:=p_e (q_b (r:=by exact h2f q_o)) (h:=h0d ?_))))) | (refine gR 3 (p_a (h:=h0d ?_))) | (refine gR 4 (q_m ?_) <;> (try refine h0f ?_; (refine q_c 47 (c:=by apply hsp) (h:=?_); rintro _ _ ⟨nbP, rfl, rfl⟩; (try simp only [zzE, zzF]))) <;> (try refine p_e (by apply h0g; exact rfl; exact (fun _ => BigFrame.builtin_len ..); apply h0k Tryz.underlying56; exact h4y) (h:=p_m (h:=h0d ?_)))))
 refine ⟨?_⟩
 obtain ⟨nbW, rfl⟩ : ∃ x, x = nb := ⟨_, rfl⟩
 refine h0r ?_
 refine h2s (γ:=Nat × Value × List Blk × List Tk) (LxI P) (fun g => P.length - g.1) (fun g => [(15, .int .i64 (g.1 : Nat)), (4, g.2.1)]) [(3, _), (13, _), (14, _)]
  (fun g => ⟨true, nbP, .cells (strs P).toArray 9 (0, 0)⟩ :: ⟨true, nbW, .cells #[.int .i64 0, .int .i64 0, .int .i64 0] 25 (0, 0)⟩ :: (g.2.2.1 ++ L))
  (0, .slice none 0 0, [], []) (.cons rfl (.cons rfl (.cons rfl .nil))) ⟨Nat.zero_le _, Nat.zero_le _, rfl, Own.nil _ _⟩ (by (focus (repeat (first | exact Sub.nil | refine Sub.cons rfl ?_)))) c_27 ?_
 rintro ⟨k, vo, eo, out⟩ ⟨hk, hol, heq, hown⟩
 dsimp only at hk hol heq hown ⊢
 have hsz : (strs P).toArray.size = P.length := by rw [List.size_toArray, strs_len]
 by_cases hlt : k < P.length
 case neg =>
  obtain rfl : k = P.length := by omega
  rw [List.drop_length, h5f] at heq
  have heq' := Lib.hid heq
  have hown' := Lib.hid hown
  clear heq hown
  repeat' (first | refine h0p ?_ | refine h0e ?_ | refine h1u ?_ | refine h1n ?_ | refine h1v ?_ | refine h2o ?_ | refine h1h ?_ | refine h0h rfl ?_ | (refine gR 5 (p_e (q_b (r:=by exact h1j q_o)) (h:=h0d ?_))) | (refine gR 15 (q_m ?_) <;> (try refine q_e (by exact h0s (t:=25) (fun vs => (match vs with | [] => [Value.int .i64 0, Value.int .i64 0, Value.int .i64 0] | _ => [])) rfl (fun w => by kernel_rfl)) ?_; (try simp only [Value.cells]); (try simp only [zzC, zzN])) <;> (try refine q_a ?_) <;> (try refine h0f ?_; (refine q_W ?_)) <;> (try refine h0d ?_)))
  (apply h0v Tryz.results22; (focus (apply Res.tmp; exact rfl; apply Res.agg; exact rfl; (focus (repeat (first | exact fd0 | (with_reducible assumption) | apply fdA | apply fdS))); kernel_rfl; kernel_rfl; exact c_16; exact h3z; exact Res.nil)))
  refine ⟨_, ⟨vo, eo, ?_, ?_, rfl⟩, by intro w H; refine Sel.out ?_ H; (try simp only [zzC, zzN]); repeat (first | exact Sel.refl _ | apply Sel.drop)⟩
  ·rw [hlx'.out, heq'.out]; rfl
  ·rw [hlx'.out, heq'.out]; exact hown'.out
 have hx := strs_at' P k hlt
 have hxl := hpl P[k] (List.getElem_mem hlt)
 rw [List.drop_eq_getElem_cons hlt, h5f] at heq
 generalize P[k] = pc at hx heq hxl
 have hct := fun (L : List Blk) => cut1_c (S:=S) (w0:=w0) (L:=L) (mB8 pc) 35 (by rw [h1t]; omega)
 rw [h4g] at hct
 have htl := headF_len 35 pc
 have hlB : lB (mB8 (h5c 35 pc)) = h5c 35 pc := rfl
 have hts : (mB8 (h5c 35 pc)).size = (h5c 35 pc).length := h1t _
 rw [← hlB] at heq
 clear hlB
 generalize mB8 (h5c 35 pc) = t at *
 have hts2 : t.size ≤ 65536 := by omega
 have hsn : (k : Int) + 1 = ((k + 1 : Nat) : Int) := rfl
 repeat' (first | (refine h2r (id:=2) ?_) | refine h0p ?_ | refine h0e ?_ | refine h0r ?_ | refine h0u ?_ | refine h0j rfl ?_ | (refine gR 5 (p_e (q_b (r:=by exact h1d q_o)) (h:=h0d ?_))) | (refine gR 6 (p_m (h:=p_e (by apply h0n; exact rfl; exact rfl; (focus (apply h3e Tryz.underlying56 sz_9; omega; omega; exact c_1))) (h:=p_e (by apply h1l (t:=9); exact rfl; exact fd0; kernel_rfl; kernel_rfl; (with_reducible assumption)) (h:=p_a (h:=p_a (h:=h0d ?_))))))) | (refine gR 7 (q_m ?_) <;> (try refine h0f ?_; (refine h1k (F:=48) (by kernel_rfl) rfl rfl (hct _) ?_; rintro _ _ ⟨xc, yc, rfl, rfl⟩)) <;> (try refine p_m (h:=p_x (h:=p_x (h:=p_x (h:=p_a (h:=h0d ?_))))))) | (refine gR 8 (p_m (h:=q_m ?_)) <;> (try refine q_e (q_b (r:=by apply h1r; exact c_5; (focus (refine IntWalk.i64_in _ ?_; omega)))) ?_) <;> (try refine q_e (by exact h0s (t:=163) (fun vs => (match vs with | [(_, x0), (_, x1)] => [x0, Value.int .i64 0, x1, Value.slice none 0 0, Value.int .i64 0, Value.int .i64 0, Value.int .i64 0] | _ => [])) rfl (fun w => by kernel_rfl)) ?_; (try simp only [Value.cells]); (try simp only [zzC, zzN])) <;> (try refine h0f ?_; (refine h0i (t:=163) rfl Tryz.zeroValue163 ?_; intro nb hnb; (try simp only [Value.cells]))) <;> (try refine h0f ?_; (refine q_W ?_)) <;> (try refine h0d ?_)))
 refine ⟨?_⟩
 obtain ⟨nbL, rfl⟩ : ∃ x, x = nb := ⟨_, rfl⟩
 simp only [hsn]
 refine h0r ?_
 refine h2s (γ:=Nat × Nat × Value × List Blk × List Tk) (LnI (k + 1) t) (fun g => g.2.1) (fun _ => []) [(3, _), (4, _), (5, _), (6, _), (7, _), (13, _), (14, _), (15, _)]
  (fun g => lxB nbL t g.1 (k + 1) g.2.2.1 (.int .i64 0) (.int .i64 0) (.int .i64 0) :: (g.2.2.2.1 ++ (⟨true, nbP, .cells (strs P).toArray 9 (0, 0)⟩ :: ⟨true, nbW, .cells #[.int .i64 0, .int .i64 0, .int .i64 0] 25 (0, 0)⟩ :: (eo ++ L))))
  (0, t.size + 1, .slice none 0 0, [], []) (.cons rfl (.cons rfl (.cons rfl (.cons rfl (.cons rfl (.cons rfl (.cons rfl (.cons rfl .nil)))))))) ⟨Nat.zero_le _, by dsimp only; omega, Nat.le_refl _, by dsimp only; rw [List.length_nil]; omega, by dsimp only; unfold lexLn; rw [h3d], Own.nil _ _⟩ (by (focus (repeat (exact Sub.nil)))) (fun _ H => H) ?_
 rintro ⟨a, f, v, e, ts⟩ ⟨ha, hf, hmx, hln, hgo, hwn⟩
 dsimp only at ha hf hmx hln hgo hwn ⊢
 obtain ⟨f, rfl⟩ : ∃ f', f = f' + 1 := ⟨f - 1, by omega⟩
 have hn := next_c (S:=S) (w0:=w0) (L:=⟨true, nbP, .cells (strs P).toArray 9 (0, 0)⟩ :: ⟨true, nbW, .cells #[.int .i64 0, .int .i64 0, .int .i64 0] 25 (0, 0)⟩ :: (eo ++ L)) nbL a (k + 1) t v e ts (by omega) ha (by omega) (by omega) hwn
 rw [h5w] at hgo
 cases hq : nextF (k + 1) (lB t) a with
 | done =>
  rw [hq] at hn hgo
  dsimp only at hgo
  rw [hgo] at heq
  dsimp only at heq
  have heq' := Lib.hid heq
  clear heq hgo hq
  have hfo := flatTk_len out
  have hft := flatTk_len ts
  rcases h3i hwn with ⟨rfl, h0, -, rfl⟩ | ⟨g, cap, cur, rfl, rfl, h1, h2, h3, h4⟩
  ·have h0' : ts = [] := List.eq_nil_of_length_eq_zero h0
   subst h0'
   have hown' := Lib.hid hown
   clear hwn hown
   simp only [List.nil_append] at hn ⊢
   repeat' (first | refine h0p ?_ | refine h0e ?_ | refine h0t ?_ | refine h1u ?_ | refine h1n ?_ | refine h0x ?_ | refine h1v ?_ | refine h0u ?_ | refine h2o ?_ | refine h0h rfl ?_ | (refine gR 9 ?_ <;> (try refine h0f ?_; (refine h1k (F:=49) (by kernel_rfl) rfl rfl hn ?_; rintro _ _ ⟨rfl, a', rfl⟩)) <;> (try refine h0d ?_)) | (refine gR 10 (p_e (q_f fo_163_4) (h:=q_e (q_L h3z) ?_)) <;> (try refine q_e (by exact h0s (t:=25) (fun vs => (match vs with | [] => [Value.int .i64 0, Value.int .i64 0, Value.int .i64 0] | _ => [])) rfl (fun w => by kernel_rfl)) ?_; (try simp only [Value.cells]); (try simp only [zzC, zzN])) <;> (try refine p_e (by apply h1s (op:=.neq) (t:=25); exact rfl; exact rfl; kernel_rfl; (apply rb_neq_agg Tryz.underlying25 (by kernel_rfl); apply EqF.int; (focus (simp)); exact Tryz.underlying3; exact rfl; exact rfl; exact rfl; apply EqF.int; (focus (simp)); exact Tryz.underlying3; exact rfl; exact rfl; exact rfl; exact EqF.int1 (by simp) Tryz.underlying23 rfl rfl rfl)) (h:=h0d ?_))) | (refine gR 12 (p_e (q_f h5t) (h:=p_e q_l (h:=p_e (by apply h0g; exact rfl; exact (fun _ => BigFrame.builtin_len ..); apply h0k Tryz.underlying78; exact h4y) (h:=p_e (q_b (r:=by exact h2f q_o)) (h:=h0d ?_)))))) | (refine gR 14 ?_ <;> (try refine q_e (q_b (r:=by apply h1r; exact c_5; (focus (refine IntWalk.i64_in _ ?_; omega)))) ?_) <;> (try refine p_m (h:=h0d ?_))))
   refine h0w (k + 1, vo, eo, out) ⟨⟨by dsimp only; omega, Nat.le_trans hol (Nat.mul_le_mul_right _ (Nat.le_succ k)), heq'.out, hown'.out⟩, by dsimp only; omega⟩ (by (focus (repeat (first | exact Sub.nil | refine Sub.cons rfl ?_)))) c_22
  ·by_cases hts0 : ts = []
   ·have hz : ts.length = 0 := by rw [hts0]; rfl
    have hown' := Lib.hid hown
    rw [if_pos hts0] at heq'
    clear hwn hown
    simp only [List.cons_append, List.nil_append] at hn ⊢
    repeat' (first | refine h0p ?_ | refine h0e ?_ | refine h0t ?_ | refine h1u ?_ | refine h1n ?_ | refine h0x ?_ | refine h1v ?_ | refine h0u ?_ | refine h2o ?_ | refine h0h rfl ?_ | (refine gR 9 ?_ <;> (try refine h0f ?_; (refine h1k (F:=49) (by kernel_rfl) rfl rfl hn ?_; rintro _ _ ⟨rfl, a', rfl⟩)) <;> (try refine h0d ?_)) | (refine gR 10 (p_e (q_f fo_163_4) (h:=q_e (q_L h3z) ?_)) <;> (try refine q_e (by exact h0s (t:=25) (fun vs => (match vs with | [] => [Value.int .i64 0, Value.int .i64 0, Value.int .i64 0] | _ => [])) rfl (fun w => by kernel_rfl)) ?_; (try simp only [Value.cells]); (try simp only [zzC, zzN])) <;> (try refine p_e (by apply h1s (op:=.neq) (t:=25); exact rfl; exact rfl; kernel_rfl; (apply rb_neq_agg Tryz.underlying25 (by kernel_rfl); apply EqF.int; (focus (simp)); exact Tryz.underlying3; exact rfl; exact rfl; exact rfl; apply EqF.int; (focus (simp)); exact Tryz.underlying3; exact rfl; exact rfl; exact rfl; exact EqF.int1 (by simp) Tryz.underlying23 rfl rfl rfl)) (h:=h0d ?_))) | (refine gR 12 (p_e (q_f h5t) (h:=p_e q_l (h:=p_e (by apply h0g; exact rfl; exact (fun _ => BigFrame.builtin_len ..); apply h0k Tryz.underlying78; exact h4y) (h:=p_e (q_b (r:=by exact h2f q_o)) (h:=h0d ?_)))))) | (refine gR 14 ?_ <;> (try refine q_e (q_b (r:=by apply h1r; exact c_5; (focus (refine IntWalk.i64_in _ ?_; omega)))) ?_) <;> (try refine p_m (h:=h0d ?_))))
    refine h0w (k + 1, vo, eo, out) ⟨⟨by dsimp only; omega, Nat.le_trans hol (Nat.mul_le_mul_right _ (Nat.le_succ k)), heq'.out, hown'.out⟩, by dsimp only; omega⟩ (by (focus (repeat (first | exact Sub.nil | refine Sub.cons rfl ?_)))) c_22
   ·rw [if_neg hts0] at heq'
    have hpos : 0 < ts.length := List.length_pos_iff.2 hts0
    have hone : (h4o ts).all (·.oneCell') = true := List.all_eq_true.2 (flatTk_one ts)
    have h4' : (cur.toList.drop 0).take (ts.length * 5) = h4o ts := by rw [List.drop_zero]; exact h4
    have hbk : k * 65540 ≤ 65537 * 65540 := Nat.mul_le_mul_right _ (by omega)
    have hfe : h4o (out ++ ts ++ [⟨0, [], 0, k + 1, (lB t).length + 1⟩]) = h4o out ++ h4o ts ++ [.int .u8 0, .string ⟨#[]⟩, .int .u64 0, .int .i64 ((k + 1 : Nat) : Int), .int .i64 ((t.size : Nat) + 1)] := by
     rw [flatTk_snoc, flatTk_app, h3d]; rfl
    have hfe' := Lib.hid hfe
    clear hwn hfe h4
    unfold maxLen at h2
    simp only [List.cons_append, List.nil_append] at hn ⊢
    rcases h3i hown with ⟨rfl, h0, -, rfl⟩ | ⟨go, capo, curo, rfl, rfl, g1, g2, g3, g4⟩
    ·have h0' : out = [] := List.eq_nil_of_length_eq_zero h0
     subst h0'
     clear hown
     simp only [List.nil_append] at hn ⊢
     repeat' (first | refine h0p ?_ | refine h0e ?_ | refine h0t ?_ | refine h1u ?_ | refine h1n ?_ | refine h0x ?_ | refine h1v ?_ | refine h0u ?_ | refine h2o ?_ | refine h0j rfl ?_ | refine h0h rfl ?_ | (refine gR 9 ?_ <;> (try refine h0f ?_; (refine h1k (F:=49) (by kernel_rfl) rfl rfl hn ?_; rintro _ _ ⟨rfl, a', rfl⟩)) <;> (try refine h0d ?_)) | (refine gR 10 (p_e (q_f fo_163_4) (h:=q_e (q_L h3z) ?_)) <;> (try refine q_e (by exact h0s (t:=25) (fun vs => (match vs with | [] => [Value.int .i64 0, Value.int .i64 0, Value.int .i64 0] | _ => [])) rfl (fun w => by kernel_rfl)) ?_; (try simp only [Value.cells]); (try simp only [zzC, zzN])) <;> (try refine p_e (by apply h1s (op:=.neq) (t:=25); exact rfl; exact rfl; kernel_rfl; (apply rb_neq_agg Tryz.underlying25 (by kernel_rfl); apply EqF.int; (focus (simp)); exact Tryz.underlying3; exact rfl; exact rfl; exact rfl; apply EqF.int; (focus (simp)); exact Tryz.underlying3; exact rfl; exact rfl; exact rfl; exact EqF.int1 (by simp) Tryz.underlying23 rfl rfl rfl)) (h:=h0d ?_))) | (refine gR 12 (p_e (q_f h5t) (h:=p_e q_l (h:=p_e (by apply h0g; exact rfl; exact (fun _ => BigFrame.builtin_len ..); apply h0k Tryz.underlying78; exact h4y) (h:=p_e (q_b (r:=by exact h1y q_o)) (h:=h0d ?_)))))) | (refine gR 13 (p_m (h:=p_e (q_f h5t) (h:=q_e q_l ?_))) <;> (try refine h0f ?_; (apply h2m; exact rfl; exact Tryz.underlying78; exact inf_166_i; exact inf_166_z; exact inf_166_s; exact inf_166_b; exact rfl; exact rfl; exact rfl; exact Own.nil _ _; exact h3n; (focus (simp; omega)); (with_reducible assumption); (with_reducible assumption); exact h5u; omega; (exact fun _ H => H); exact rfl; exact h6c; exact c_4; intro vA eA hownA; obtain ⟨gA, capA, curA, rfl, rfl, hA1, hA2, hA3, hA4⟩ := hownA.some (by omega))) <;> (try refine q_m ?_) <;> (try refine q_e (q_b (r:=by apply h1r; exact c_5; (focus (refine IntWalk.i64_in _ ?_; omega)))) ?_) <;> (try refine p_m (h:=q_e (h0g rfl (fun _ => BigFrame.builtin_len ..) (h0q Tryz.underlying9)) ?_)) <;> (try refine q_e (q_b (r:=by apply h1r; exact c_5; (focus (refine IntWalk.i64_in _ ?_; omega)))) ?_) <;> (try refine q_e (by exact h0s (t:=166) (fun vs => (match vs with | [(_, x0), (_, x1), (_, x2)] => [x0, Value.string ⟨#[]⟩, Value.int .u64 0, x1, x2] | _ => [])) rfl (fun w => by kernel_rfl)) ?_; (try simp only [Value.cells]); (try simp only [zzC, zzN])) <;> (try refine h0f ?_; (refine h0o (t:=78) (m:=1) (e:=166) (fun vs => (match vs with | [(_, x0)] => x0.cells.toList | _ => [])) rfl rfl (fun w => by kernel_rfl) ?_; intro nb hnb; (try simp only [Value.cells]); (try simp only [zzC, zzN]))) <;> (try refine h0f ?_; (apply h2m; exact rfl; exact Tryz.underlying78; exact inf_166_i; exact inf_166_z; exact inf_166_s; exact inf_166_b; exact rfl; exact rfl; exact rfl; (with_reducible assumption); exact fd0; exact Nat.le_of_ble_eq_true rfl; exact c_25; exact rfl; exact h5u; omega; exact h4x; exact rfl; exact h6c; exact c_4; intro vA eA hownA; obtain ⟨gA, capA, curA, rfl, rfl, hA1, hA2, hA3, hA4⟩ := hownA.some (by omega))) <;> (try refine p_a (h:=h0d ?_))) | (refine gR 14 ?_ <;> (try refine q_e (q_b (r:=by apply h1r; exact c_5; (focus (refine IntWalk.i64_in _ ?_; omega)))) ?_) <;> (try refine p_m (h:=h0d ?_))))
     (try simp only [zzC, zzN])
     refine h0w (k + 1, .slice (some ⟨gA, 0, none⟩) (ts.length + 1) capA, [⟨true, gA, .cells curA 166 (0, 0)⟩], [] ++ ts ++ [⟨0, [], 0, k + 1, (lB t).length + 1⟩]) ⟨⟨by dsimp only; omega, ?_, heq'.out, ?_⟩, by dsimp only; omega⟩ (by (focus (repeat (first | exact Sub.nil | refine Sub.cons rfl ?_)))) c_22
     ·show ([] ++ ts ++ [_]).length ≤ (k + 1) * 65540
      rw [List.length_append, List.length_append, List.length_nil, List.length_singleton]; omega
     ·dsimp only
      have hl : (([] : List Tk) ++ ts ++ [(⟨0, [], 0, k + 1, (lB t).length + 1⟩ : Tk)]).length = ts.length + 1 := by simp
      rw [hl]
      refine h4f hA1 hA2 hA3 ?_
      rw [hfe'.out]
      exact hA4.trans (congrArg (· ++ _) (by first | rfl | assumption))
    ·clear hown
     unfold maxLen at g2
     simp only [List.cons_append, List.nil_append] at hn ⊢
     repeat' (first | refine h0p ?_ | refine h0e ?_ | refine h0t ?_ | refine h1u ?_ | refine h1n ?_ | refine h0x ?_ | refine h1v ?_ | refine h0u ?_ | refine h2o ?_ | refine h0j rfl ?_ | refine h0h rfl ?_ | (refine gR 9 ?_ <;> (try refine h0f ?_; (refine h1k (F:=49) (by kernel_rfl) rfl rfl hn ?_; rintro _ _ ⟨rfl, a', rfl⟩)) <;> (try refine h0d ?_)) | (refine gR 10 (p_e (q_f fo_163_4) (h:=q_e (q_L h3z) ?_)) <;> (try refine q_e (by exact h0s (t:=25) (fun vs => (match vs with | [] => [Value.int .i64 0, Value.int .i64 0, Value.int .i64 0] | _ => [])) rfl (fun w => by kernel_rfl)) ?_; (try simp only [Value.cells]); (try simp only [zzC, zzN])) <;> (try refine p_e (by apply h1s (op:=.neq) (t:=25); exact rfl; exact rfl; kernel_rfl; (apply rb_neq_agg Tryz.underlying25 (by kernel_rfl); apply EqF.int; (focus (simp)); exact Tryz.underlying3; exact rfl; exact rfl; exact rfl; apply EqF.int; (focus (simp)); exact Tryz.underlying3; exact rfl; exact rfl; exact rfl; exact EqF.int1 (by simp) Tryz.underlying23 rfl rfl rfl)) (h:=h0d ?_))) | (refine gR 12 (p_e (q_f h5t) (h:=p_e q_l (h:=p_e (by apply h0g; exact rfl; exact (fun _ => BigFrame.builtin_len ..); apply h0k Tryz.underlying78; exact h4y) (h:=p_e (q_b (r:=by exact h1y q_o)) (h:=h0d ?_)))))) | (refine gR 13 (p_m (h:=p_e (q_f h5t) (h:=q_e q_l ?_))) <;> (try refine h0f ?_; (apply h1z; exact rfl; exact Tryz.underlying78; exact inf_166_i; exact inf_166_z; exact inf_166_s; exact inf_166_b; exact rfl; exact rfl; exact rfl; exact h3n; (with_reducible assumption); exact h5u; (with_reducible assumption); exact h3n; (focus (simp; omega)); (with_reducible assumption); (with_reducible assumption); exact h5u; omega; exact rfl; exact h6c; exact c_4; (try simp only [zzE, zzF]); intro vA eA hownA; obtain ⟨gA, capA, curA, rfl, rfl, hA1, hA2, hA3, hA4⟩ := hownA.some (by omega))) <;> (try refine q_m ?_) <;> (try refine q_e (q_b (r:=by apply h1r; exact c_5; (focus (refine IntWalk.i64_in _ ?_; omega)))) ?_) <;> (try refine p_m (h:=q_e (h0g rfl (fun _ => BigFrame.builtin_len ..) (h0q Tryz.underlying9)) ?_)) <;> (try refine q_e (q_b (r:=by apply h1r; exact c_5; (focus (refine IntWalk.i64_in _ ?_; omega)))) ?_) <;> (try refine q_e (by exact h0s (t:=166) (fun vs => (match vs with | [(_, x0), (_, x1), (_, x2)] => [x0, Value.string ⟨#[]⟩, Value.int .u64 0, x1, x2] | _ => [])) rfl (fun w => by kernel_rfl)) ?_; (try simp only [Value.cells]); (try simp only [zzC, zzN])) <;> (try refine h0f ?_; (refine h0o (t:=78) (m:=1) (e:=166) (fun vs => (match vs with | [(_, x0)] => x0.cells.toList | _ => [])) rfl rfl (fun w => by kernel_rfl) ?_; intro nb hnb; (try simp only [Value.cells]); (try simp only [zzC, zzN]))) <;> (try refine h0f ?_; (apply h2m; exact rfl; exact Tryz.underlying78; exact inf_166_i; exact inf_166_z; exact inf_166_s; exact inf_166_b; exact rfl; exact rfl; exact rfl; (with_reducible assumption); exact fd0; exact Nat.le_of_ble_eq_true rfl; exact c_25; exact rfl; exact h5u; omega; exact h4x; exact rfl; exact h6c; exact c_4; intro vA eA hownA; obtain ⟨gA, capA, curA, rfl, rfl, hA1, hA2, hA3, hA4⟩ := hownA.some (by omega))) <;> (try refine p_a (h:=h0d ?_))) | (refine gR 14 ?_ <;> (try refine q_e (q_b (r:=by apply h1r; exact c_5; (focus (refine IntWalk.i64_in _ ?_; omega)))) ?_) <;> (try refine p_m (h:=h0d ?_))))
     (try simp only [zzC, zzN])
     refine h0w (k + 1, .slice (some ⟨gA, 0, none⟩) (out.length + ts.length + 1) capA, [⟨true, gA, .cells curA 166 (0, 0)⟩], out ++ ts ++ [⟨0, [], 0, k + 1, (lB t).length + 1⟩]) ⟨⟨by dsimp only; omega, ?_, heq'.out, ?_⟩, by dsimp only; omega⟩ (by (focus (repeat (first | exact Sub.nil | refine Sub.cons rfl ?_)))) c_22
     ·show (out ++ ts ++ [_]).length ≤ (k + 1) * 65540
      rw [List.length_append, List.length_append, List.length_singleton]; omega
     ·dsimp only
      have hl : (out ++ ts ++ [(⟨0, [], 0, k + 1, (lB t).length + 1⟩ : Tk)]).length = out.length + ts.length + 1 := by simp; omega
      rw [hl]
      refine h4f hA1 hA2 hA3 ?_
      rw [hfe'.out]
      refine hA4.trans (congrArg (· ++ _) ?_)
      rw [← g4]
      try assumption
 | wrong c er =>
  rw [hq] at hn hgo
  dsimp only at hgo
  rw [hgo] at heq
  dsimp only at heq
  have heq' := Lib.hid heq
  clear heq hgo hq hown
  have hc0 : ¬ (((k + 1 : Nat) : Int) = 0) := by omega
  rcases h3i hwn with ⟨rfl, h0, -, rfl⟩ | ⟨g, cap, cur, rfl, rfl, h1, h2, h3, h4⟩
  ·clear hwn
   simp only [List.nil_append] at hn ⊢
   repeat' (first | refine h0p ?_ | refine h0e ?_ | refine h1u ?_ | refine h4u ?_ | refine h1n ?_ | refine h1f ?_ | refine h2p ?_ | refine h1v ?_ | refine h2o ?_ | refine h1h ?_ | refine h0j rfl ?_ | refine h0h rfl ?_ | (refine gR 9 ?_ <;> (try refine h0f ?_; (refine h1k (F:=49) (by kernel_rfl) rfl rfl hn ?_; rintro _ _ ⟨rfl, a', rfl⟩)) <;> (try refine h0d ?_)) | (refine gR 10 (p_e (q_f fo_163_4) (h:=q_e (q_L h3z) ?_)) <;> (try refine q_e (by exact h0s (t:=25) (fun vs => (match vs with | [] => [Value.int .i64 0, Value.int .i64 0, Value.int .i64 0] | _ => [])) rfl (fun w => by kernel_rfl)) ?_; (try simp only [Value.cells]); (try simp only [zzC, zzN])) <;> (try refine p_e (by apply h1s (op:=.neq) (t:=25); exact rfl; exact rfl; kernel_rfl; (apply rb_neq_agg Tryz.underlying25 (by kernel_rfl); apply EqF.int; (focus (simp)); exact Tryz.underlying3; exact rfl; exact rfl; exact rfl; apply EqF.int; (focus (simp)); exact Tryz.underlying3; exact rfl; exact rfl; exact rfl; exact EqF.int1 (by simp) Tryz.underlying23 rfl rfl rfl)) (h:=h0d ?_))) | ((apply h4c (i:=2) (id:=11) (m:=4); exact c_11; kernel_rfl; exact rfl) <;> (try refine q_t 0 (e:=c_2) (x:=by exact q_f fo_163_4) (h:=q_t 1 (e:=c_2) (x:=by exact q_L h3z) (h:=q_t 2 (e:=c_2) (x:=by exact h3g rfl) (h:=?_)))) <;> (try refine q_r 3 ?_; (refine q_W ?_); refine h1g c_2 ?_) <;> (try refine h1e (by kernel_rfl) ?_)))
   (apply h0v Tryz.results22; (focus (apply Res.tmp; exact rfl; apply Res.agg; exact rfl; (focus (repeat (first | exact fd0 | (with_reducible assumption) | apply fdA | apply fdS))); kernel_rfl; kernel_rfl; exact c_16; exact h3z; exact Res.nil)))
   refine ⟨_, ⟨.slice none 0 0, [], ?_, ?_, rfl⟩, by intro w H; refine Sel.out ?_ H; (try simp only [zzC, zzN]); repeat (first | exact Sel.refl _ | apply Sel.drop | apply Sel.dropA)⟩
   ·rw [hlx'.out, heq'.out]; rfl
   ·rw [hlx'.out, heq'.out]; exact Own.nil _ _
  ·clear hwn
   simp only [List.cons_append, List.nil_append] at hn ⊢
   repeat' (first | refine h0p ?_ | refine h0e ?_ | refine h1u ?_ | refine h4u ?_ | refine h1n ?_ | refine h1f ?_ | refine h2p ?_ | refine h1v ?_ | refine h2o ?_ | refine h1h ?_ | refine h0j rfl ?_ | refine h0h rfl ?_ | (refine gR 9 ?_ <;> (try refine h0f ?_; (refine h1k (F:=49) (by kernel_rfl) rfl rfl hn ?_; rintro _ _ ⟨rfl, a', rfl⟩)) <;> (try refine h0d ?_)) | (refine gR 10 (p_e (q_f fo_163_4) (h:=q_e (q_L h3z) ?_)) <;> (try refine q_e (by exact h0s (t:=25) (fun vs => (match vs with | [] => [Value.int .i64 0, Value.int .i64 0, Value.int .i64 0] | _ => [])) rfl (fun w => by kernel_rfl)) ?_; (try simp only [Value.cells]); (try simp only [zzC, zzN])) <;> (try refine p_e (by apply h1s (op:=.neq) (t:=25); exact rfl; exact rfl; kernel_rfl; (apply rb_neq_agg Tryz.underlying25 (by kernel_rfl); apply EqF.int; (focus (simp)); exact Tryz.underlying3; exact rfl; exact rfl; exact rfl; apply EqF.int; (focus (simp)); exact Tryz.underlying3; exact rfl; exact rfl; exact rfl; exact EqF.int1 (by simp) Tryz.underlying23 rfl rfl rfl)) (h:=h0d ?_))) | ((apply h4c (i:=3) (id:=11) (m:=4); exact c_11; kernel_rfl; exact rfl) <;> (try refine q_t 0 (e:=c_2) (x:=by exact q_f fo_163_4) (h:=q_t 1 (e:=c_2) (x:=by exact q_L h3z) (h:=q_t 2 (e:=c_2) (x:=by exact h3g rfl) (h:=?_)))) <;> (try refine q_r 3 ?_; (refine q_W ?_); refine h1g c_2 ?_) <;> (try refine h1e (by kernel_rfl) ?_)))
   (apply h0v Tryz.results22; (focus (apply Res.tmp; exact rfl; apply Res.agg; exact rfl; (focus (repeat (first | exact fd0 | (with_reducible assumption) | apply fdA | apply fdS))); kernel_rfl; kernel_rfl; exact c_16; exact h3z; exact Res.nil)))
   refine ⟨_, ⟨.slice none 0 0, [], ?_, ?_, rfl⟩, by intro w H; refine Sel.out ?_ H; (try simp only [zzC, zzN]); repeat (first | exact Sel.refl _ | apply Sel.drop | apply Sel.dropA)⟩
   ·rw [hlx'.out, heq'.out]; rfl
   ·rw [hlx'.out, heq'.out]; exact Own.nil _ _
 | tok tk a' =>
  obtain ⟨t1, t2⟩ := next_tok hq
  rw [h3d] at t2
  rw [hq] at hn hgo
  dsimp only at hgo
  have hgo' := Lib.hid hgo
  clear hgo hq heq hwn hown
  repeat' (first | refine h0p ?_ | refine h0e ?_ | refine h0t ?_ | refine h0x ?_ | refine h0r ?_ | refine h0u ?_ | refine h0j rfl ?_ | (refine gR 9 ?_ <;> (try refine h0f ?_; (refine h1k (F:=49) (by kernel_rfl) rfl rfl hn ?_; rintro _ _ ⟨rfl, -, v', e', hwn', rfl⟩)) <;> (try refine h0d ?_)))
  refine h0w (a', f, v', e', ts ++ [tk]) ⟨⟨t2, by dsimp only; omega, by dsimp only; omega, by dsimp only; rw [List.length_append, List.length_singleton]; omega, hgo'.out, by dsimp only; rw [List.length_append, List.length_singleton]; exact hwn'⟩, by dsimp only; omega⟩ (by (focus (repeat (first | exact Sub.nil | refine Sub.cons rfl ?_)))) (fun _ H => H)
theorem disable (w : World) : (callFunc 130 #[]).run Tryz.prog w = .ok (.value (.tuple #[])) w := run_call_mark0 Tryz.func130 (by kernel_rfl) (by kernel_rfl) (by kernel_rfl) .disable (by kernel_rfl) w
theorem enable (w : World) : (callFunc 132 #[]).run Tryz.prog w = .ok (.value (.tuple #[])) w := run_call_mark0 Tryz.func132 (by kernel_rfl) (by kernel_rfl) (by kernel_rfl) .enable (by kernel_rfl) w
theorem acquire (a : Addr) (w : World) : (callFunc 133 #[.pointer (some a)]).run Tryz.prog w = .ok (.value (.tuple #[])) w := run_call_marked Tryz.func133 (by kernel_rfl) (by kernel_rfl) (by kernel_rfl) .acquire (by kernel_rfl) a w
theorem releaseMerge (a : Addr) (w : World) : (callFunc 135 #[.pointer (some a)]).run Tryz.prog w = .ok (.value (.tuple #[])) w := run_call_marked Tryz.func135 (by kernel_rfl) (by kernel_rfl) (by kernel_rfl) .releaseMerge (by kernel_rfl) a w
theorem store_deferred (a : Addr) (x : Value) (u : FrameMode) (w : World) (hc : w.cell? a = some x) (hz : w.frozen? a = false) :
  CallsD Tryz.prog 118 #[.pointer (some a), .bool true] u w fun e u' w' => u' = u ∧ (e = .returned (.tuple #[]) ∧ w' = w.drew.setCell a (.int .u32 1)) := by
 have hc' : w.drew.cell? a = some x := by go_simp
 have hz' : w.drew.frozen? a = false := by go_simp
 have hst := run_call_store (P:=Tryz.prog) Tryz.func126 (by kernel_rfl) (by kernel_rfl) (by kernel_rfl) (by kernel_rfl) (k:=.u32) (y:=1) hc' hz'
 go_enter_d Tryz.func118, Tryz.ntmps118
 go_wp2
 go_region_calls
 all_goals (go_end0; exact ⟨rfl, rfl⟩)
theorem unlock_deferred (a : Addr) (u : FrameMode) (w : World) (hc : w.cell? a = some (.int .i32 1)) (hz : w.frozen? a = false) :
  CallsD Tryz.prog 117 #[.pointer (some a)] u w fun e u' w' => u' = u ∧ (e = .returned (.tuple #[]) ∧ w' = w.setCell a (.int .i32 0)) := by
 have hd := disable
 have he := enable
 have hr := releaseMerge
 have hadd := run_call_add (P:=Tryz.prog) Tryz.func136 (by kernel_rfl) (by kernel_rfl) (by kernel_rfl) .i32 (by kernel_rfl) (y:=-1) (s:=0) hc hz (by simp [go_sem]; rfl)
 have hcv := run_convert_to_unsafe (P:=Tryz.prog) (src:=235) (dst:=189) Tryz.underlying235 Tryz.underlying189 (by kernel_rfl) hc
 go_enter_d Tryz.func117, Tryz.ntmps117
 go_wp2
 go_end0
 go_wp2
 go_end0
 exact ⟨rfl, rfl⟩
theorem lock_free (a : Addr) (w : World) (hc : w.cell? a = some (.int .i32 0)) (hz : w.frozen? a = false) :
  Calls Tryz.prog 116 #[.pointer (some a)] w fun e w' => e = .returned (.tuple #[]) ∧ w' = w.setCell a (.int .i32 1) := by
 have hd := disable
 have he := enable
 have ha := acquire
 have hcas := run_call_cas_hit (P:=Tryz.prog) Tryz.func131 (by kernel_rfl) (by kernel_rfl) (by kernel_rfl) .i32 (by kernel_rfl) (y:=1) hc hz
 have hc' : (w.setCell a (.int .i32 1)).cell? a = some (.int .i32 1) := World.cell?_setCell_same w a _ hc
 have hcv := run_convert_to_unsafe (P:=Tryz.prog) (src:=235) (dst:=189) Tryz.underlying235 Tryz.underlying189 (by kernel_rfl) hc'
 go_enter Tryz.func116, Tryz.ntmps116
 go_wp2
 first | go_end0 | (simp only [Exit.inBlock, Exit.then]; refine bodyPost_ret (results_none rfl _ _ _) rfl ?_) | refine bodyPost_ret (results_none rfl _ _ _) rfl ?_
 go_wp2
 go_end0
 exact ⟨rfl, rfl⟩
theorem HP.setc {S : List Nat} {w0 w : World} {L : List Blk} {b off : Nat} {cs : List Value} {T : TypeId} (H : HP S w0 w (⟨true, b, .cells cs.toArray T (0, 0)⟩ :: L)) (v : Value) : HP S w0 (w.setCell ⟨b, off, none⟩ v) (⟨true, b, .cells (cs.set off v).toArray T (0, 0)⟩ :: L) := by
 have := H.turn 0 rfl (w.setCell ⟨b, off, none⟩ v) (.cells (cs.toArray.setIfInBounds off v) T (0, 0)) rfl rfl rfl (by simp)
  (by rw [heap_setCell_same w b off _ T _ (H.at_ 0 rfl)]) (fun q hq => heap_setCell_other w _ q _ hq)
 simpa using this
theorem HP.cellc {S : List Nat} {w0 w : World} {L : List Blk} {b off : Nat} {cs : List Value} {T : TypeId} {v : Value} (H : HP S w0 w (⟨true, b, .cells cs.toArray T (0, 0)⟩ :: L)) (hv : cs[off]? = some v) : w.cell? ⟨b, off, none⟩ = some v := by
 rw [cell_at H 0 rfl]; simpa using hv
theorem HP.frz {S : List Nat} {w0 w : World} {L : List Blk} {b off : Nat} {cs : List Value} {T : TypeId} (H : HP S w0 w (⟨true, b, .cells cs.toArray T (0, 0)⟩ :: L)) : w.frozen? ⟨b, off, none⟩ = false := by
 simp [frozen_at H 0 rfl]
end Go.Proofs.YtecbgehooembmaaGreatDoor
