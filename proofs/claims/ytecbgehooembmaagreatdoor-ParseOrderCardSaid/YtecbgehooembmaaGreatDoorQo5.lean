/- Part 5 of what the last text of this claim leans on: rules of walks, contracts, plain facts. Conditions: those of each statement. -/
import Derived.Test.YtecbgehooembmaaGreatDoorQo4
set_option maxRecDepth 100000
namespace Go.Proofs.YtecbgehooembmaaGreatDoor
open Go Go.RowKit
abbrev Wr := Nat × Nat × Nat
def h2v (w : Wr) (t : Tk) (e : Nat) : Wr := if w = (0, 0, 0) then (t.line, t.col, e) else w
def zTk : Tk := ⟨0, [], 0, 0, 0⟩
abbrev PS := List Tk × Wr
def h0z (k : Nat) (s : PS) : Tk × PS := (s.1.headD zTk, s.1.tail, if (s.1.headD zTk).kind = k then s.2 else h2v s.2 (s.1.headD zTk) 203)
def h2g (s : PS) : Tk × PS := ((h0z 1 s).1, (h0z 1 s).2.1, if (h0z 1 s).2.2 = (0, 0, 0) ∧ 1 < (h1p 44 (h0z 1 s).1.text).length then h2v (h0z 1 s).2.2 (h0z 1 s).1 203 else (h0z 1 s).2.2)
def keyF (k : List UInt8) (s : PS) : PS := ((h0z 1 s).2.1, if (h0z 1 s).2.2 = (0, 0, 0) ∧ (h0z 1 s).1.text ≠ k then h2v (h0z 1 s).2.2 (h0z 1 s).1 203 else (h0z 1 s).2.2)
def tKill : List UInt8 := [107, 105, 108, 108]
def tLog : List UInt8 := [108, 111, 103]
def tAllow : List UInt8 := [97, 108, 108, 111, 119]
def tErrno : List UInt8 := [101, 114, 114, 110, 111]
def toI (n : Nat) : Int := IntKind.i64.wrap (n : Int)
def failA (n : Nat) : Int := 327680 + min (max (toI n) 0) 4095
def actF (s : PS) : Int × PS :=
  if (h2g s).1.text = tKill then (2147483648, (h2g s).2)
  else if (h2g s).1.text = tLog then (2147221504, (h2g s).2)
  else if (h2g s).1.text = tAllow then (2147418112, (h2g s).2)
  else if (h2g s).1.text = tErrno then
    (if (h0z 2 (h2g s).2).2.2 = (0, 0, 0) ∧ ((h0z 2 (h2g s).2).1.num < 1 ∨ 4095 < (h0z 2 (h2g s).2).1.num) then (0, ((h0z 2 (h2g s).2).2.1, h2v (h0z 2 (h2g s).2).2.2 (h0z 2 (h2g s).2).1 204))
     else (failA (h0z 2 (h2g s).2).1.num, (h0z 2 (h2g s).2).2))
  else (0, ((h2g s).2.1, h2v (h2g s).2.2 (h2g s).1 202))
structure Cnd where
 arg : Nat
 op : Nat
 mask : Nat
 val : Nat
abbrev Cnd.cells (c : Cnd) : List Value := [.int .i64 (c.arg : Nat), .int .u8 (c.op : Nat), .int .u64 (c.mask : Nat), .int .u64 (c.val : Nat)]
def argOf (t : List UInt8) : Option Nat := if t.length = 4 ∧ t.take 3 = [97, 114, 103] ∧ 48 ≤ (t.getD 3 0).toNat ∧ (t.getD 3 0).toNat ≤ 53 then some ((t.getD 3 0).toNat - 48) else none
def opU (t : List UInt8) : Nat → Nat
 | 0 => 0
 | n + 1 => if sgns.getD n [] = t then n + 1 else opU t n
def opOf (t : List UInt8) : Nat := opU t 7
def mskF (op : Nat) (s : PS) : Nat × PS := if op = 7 then ((h0z 2 s).1.num, ((h0z 4 (h0z 2 s).2).2.1, if (h0z 4 (h0z 2 s).2).1.text ≠ [61, 61] then h2v (h0z 4 (h0z 2 s).2).2.2 (h0z 4 (h0z 2 s).2).1 203 else (h0z 4 (h0z 2 s).2).2.2)) else (0, s)
def valF (arg op mask : Nat) (s : PS) : Cnd × PS := (⟨arg, op, mask, (h0z 2 s).1.num⟩, (h0z 2 s).2.1, if op = 7 ∧ (mask = 0 ∨ h6b ((h0z 2 s).1.num : Int) (mask : Int) ≠ 0) then h2v (h0z 2 s).2.2 (h0z 2 s).1 204 else (h0z 2 s).2.2)
def sgnS (arg : Nat) (s : PS) : Cnd × PS := valF arg (opOf (h0z 4 s).1.text) (mskF (opOf (h0z 4 s).1.text) (h0z 4 s).2).1 (mskF (opOf (h0z 4 s).1.text) (h0z 4 s).2).2
def argW (s : PS) : Wr := if (argOf (h2g s).1.text).isSome then (h2g s).2.2 else h2v (h2g s).2.2 (h2g s).1 202
def cndF (s : PS) : Cnd × PS := sgnS ((argOf (h2g s).1.text).getD 0) ((h2g s).2.1, argW s)
def tAnd : List UInt8 := [97, 110, 100]
def tIf : List UInt8 := [105, 102]
def h4v : Nat → List UInt8 → PS → List Cnd → List Cnd × PS
 | 0, _, s, out => (out, s)
 | f + 1, key, s, out => if s.1 = [] ∨ (s.1.headD zTk).kind = 0 ∨ s.2 ≠ (0, 0, 0) then (out, s) else
  h4v f tAnd ((cndF (keyF key s)).2.1, if 6 < (out ++ [(cndF (keyF key s)).1]).length then h2v (cndF (keyF key s)).2.2 (s.1.headD zTk) 205 else (cndF (keyF key s)).2.2) (out ++ [(cndF (keyF key s)).1])
structure RulP where
 num : Int
 act : Int
 conds : List Cnd
structure Pol where
 nm : List UInt8
 df : Int
 rules : List RulP
 hd : Nat
 paths : List (List UInt8 × Nat)
 ports : List (Nat × Nat)
def zPol : Pol := ⟨[], 0, [], 0, [], []⟩
def setF (kind : Nat) (s : PS) : Nat × PS := ((Rg.parseF 0 (h1p 44 (h0z 1 s).1.text)).1, (h0z 1 s).2.1,
 if (Rg.parseF 0 (h1p 44 (h0z 1 s).1.text)).2 ≠ 0 then h2v (h0z 1 s).2.2 (h0z 1 s).1 (Rg.parseF 0 (h1p 44 (h0z 1 s).1.text)).2
 else if Rg.hasF kind (Rg.parseF 0 (h1p 44 (h0z 1 s).1.text)).1 = false then h2v (h0z 1 s).2.2 (h0z 1 s).1 204 else (h0z 1 s).2.2)
structure O8 where
 nm : Value
 df : Value
 vr : Value
 hd : Value
 vp : Value
 vq : Value
 mh : Value
 mp : Value
abbrev rdB (b : Nat) (p : Value) (a : Option Addr) (n c : Nat) (w : Wr) (o : O8) : Blk := ⟨true, b, .cells #[p, .slice a n c, .int .i64 (w.1 : Nat), .int .i64 (w.2.1 : Nat), .int .i64 (w.2.2 : Nat), o.nm, o.df, o.vr, o.hd, o.vp, o.vq, o.mh, o.mp] 85 (0, 0)⟩
structure TkOk (t : Tk) : Prop where
 kind : t.kind ≤ 4
 text : t.text.length ≤ 65536
 num : t.num < 18446744073709551616
 line : t.line ≤ 100000
 col : t.col ≤ 100000
theorem zTk_ok : TkOk zTk := ⟨by decide, by decide, by decide, by decide, by decide⟩
structure TkS (x : Blk) (a : Option Addr) (c : Nat) (l : List Tk) : Prop where
 sl : Sli [x] a l.length 5 (h4o l)
 le : l.length ≤ c
 cm : c ≤ maxLen
 ok : ∀ t ∈ l, TkOk t
theorem wr_eq (a b c : Nat) : RBin Tryz.prog .eql 25 (.agg #[.int .i64 (a : Nat), .int .i64 (b : Nat), .int .i64 (c : Nat)]) (.agg #[.int .i64 0, .int .i64 0, .int .i64 0]) (.bool (decide ((a, b, c) = ((0, 0, 0) : Wr)))) := by
 have key : ∀ r : Bool, (r = (decide ((a : Int) = 0) && (decide ((b : Int) = 0) && decide ((c : Int) = 0)))) → decide ((a, b, c) = ((0, 0, 0) : Wr)) = r := by
  rintro r rfl
  by_cases ha : a = 0
  ·by_cases hb : b = 0
   ·by_cases hc : c = 0
    ·simp [ha, hb, hc]
    ·simp [ha, hb, hc]
   ·simp [ha, hb]
  ·simp [ha]
 apply RBin.mk
 intro w
 rw [key _ rfl]
 go_simp
 by_cases ha : a = 0 <;> by_cases hb : b = 0 <;> by_cases hc : c = 0 <;> simp [ha, hb, hc]
theorem fail_c {S w0 L} (b : Nat) (p : Value) (a : Option Addr) (n c : Nat) (w : Wr) (o : O8) (t : Tk) (e : Nat) :
  Fn Tryz.prog 52 #[.pointer (some ⟨b, 0, none⟩), .agg t.cells.toArray, .int .i64 (e : Nat)] S w0 (rdB b p a n c w o :: L) fun v L' => v = .tuple #[] ∧ rdB b p a n c (h2v w t e) o :: L = L' := by
 obtain ⟨w1, w2, w3⟩ := w
 obtain ⟨o1, o2, o3, o4, o5, o6, o7, o8⟩ := o
 obtain ⟨k, tx, nu, li, co⟩ := t
 have hq := wr_eq w1 w2 w3
 unfold h2v
 by_cases hz : (w1, w2, w3) = ((0, 0, 0) : Wr)
 ·rw [decide_eq_true hz] at hq
  rw [if_pos hz]
  dsimp only [Tk.cells]
  clear hz
  refine Fn3 Tryz.func52 Tryz.ntmps52 rfl rfl ?_
  repeat' (first | refine h0p ?_ | refine h0e ?_ | refine h0j rfl ?_ | (refine gR 0 ?_ <;> (try refine h0f ?_; (refine h5b (t:=166) rfl rfl ?_; intro nb hnb; (try simp only [Value.cells]))) <;> (try refine h0d ?_)) | (refine gR 1 (p_m (h:=p_n (h:=p_e (q_f h3r) (h:=q_e (q_L h3z) ?_)))) <;> (try refine q_e (by exact h0s (t:=25) (fun vs => (match vs with | [] => [Value.int .i64 0, Value.int .i64 0, Value.int .i64 0] | _ => [])) rfl (fun w => by kernel_rfl)) ?_; (try simp only [Value.cells]); (try simp only [zzC, zzN])) <;> (try refine p_e (by apply h1s (op:=.eql) (t:=25); exact rfl; exact rfl; kernel_rfl; (with_reducible assumption)) (h:=h0d ?_))) | (refine gR 2 (p_m (h:=p_e (q_f fo_166_3) (h:=p_e q_l (h:=p_e (q_f fo_166_4) (h:=p_e q_l (h:=q_m ?_)))))) <;> (try refine q_e (by exact h0s (t:=25) (fun vs => (match vs with | [(_, x0), (_, x1), (_, x2)] => [x0, x1, x2] | _ => [])) rfl (fun w => by kernel_rfl)) ?_; (try simp only [Value.cells]); (try simp only [zzC, zzN])) <;> (try refine p_n (h:=q_e (q_f h3r) ?_)) <;> (try refine h0f ?_; (apply K1_storeN (t:=25); exact rfl; exact rfl; exact h3n; exact h3z; exact rfl; exact rfl; exact Nat.le_of_ble_eq_true rfl; (try simp only [List.set_cons_succ]); (try simp only [List.set_cons_zero]))) <;> (try refine h0d ?_)))
  (first | refine h0v Tryz.results52 .nil ?_ | refine h2w Tryz.results52 .nil ?_)
  exact ⟨_, ⟨rfl, rfl⟩, fun _ H => H.tail⟩
 ·rw [decide_eq_false hz] at hq
  rw [if_neg hz]
  dsimp only [Tk.cells]
  clear hz
  refine Fn3 Tryz.func52 Tryz.ntmps52 rfl rfl ?_
  repeat' (first | refine h0p ?_ | refine h0e ?_ | refine h0u ?_ | refine h0h rfl ?_ | (refine gR 0 ?_ <;> (try refine h0f ?_; (refine h5b (t:=166) rfl rfl ?_; intro nb hnb; (try simp only [Value.cells]))) <;> (try refine h0d ?_)) | (refine gR 1 (p_m (h:=p_n (h:=p_e (q_f h3r) (h:=q_e (q_L h3z) ?_)))) <;> (try refine q_e (by exact h0s (t:=25) (fun vs => (match vs with | [] => [Value.int .i64 0, Value.int .i64 0, Value.int .i64 0] | _ => [])) rfl (fun w => by kernel_rfl)) ?_; (try simp only [Value.cells]); (try simp only [zzC, zzN])) <;> (try refine p_e (by apply h1s (op:=.eql) (t:=25); exact rfl; exact rfl; kernel_rfl; (with_reducible assumption)) (h:=h0d ?_))))
  (first | refine h0v Tryz.results52 .nil ?_ | refine h2w Tryz.results52 .nil ?_)
  exact ⟨_, ⟨rfl, rfl⟩, fun _ H => H.tail⟩
theorem flatTk_at (l : List Tk) (t : Tk) (r : List Tk) (h : l = t :: r) : (h4o l).take 5 = t.cells ∧ (h4o l).drop 5 = h4o r := by
 subst h
 unfold h4o
 rw [List.flatMap_cons]
 exact ⟨List.take_left (l₁:=t.cells), List.drop_left (l₁:=t.cells)⟩
theorem TkS.tail {x : Blk} {a : Option Addr} {c : Nat} {t : Tk} {r : List Tk} (h : TkS x a c (t :: r)) : TkS x (slO a 1 c 5) (c - 1) r := by
 have hle := h.le
 rw [List.length_cons] at hle
 have h2 := h.sl.cut (lo:=1) (hi:=(t :: r).length) (by rw [List.length_cons]; omega) (Nat.le_refl _) h.le
 rw [List.length_cons, Nat.add_sub_cancel, (flatTk_at _ t r rfl).2, List.take_of_length_le (by rw [flatTk_len]; exact Nat.le_refl _)] at h2
 exact ⟨h2, by omega, by have := h.cm; omega, fun t ht => h.ok t (List.mem_cons_of_mem _ ht)⟩
theorem rnext_c {S w0 L} (b : Nat) (p : Value) (a : Option Addr) (c : Nat) (l : List Tk) (w : Wr) (o : O8) (x : Blk) (h : TkS x a c l) :
  Fn Tryz.prog 80 #[.pointer (some ⟨b, 0, none⟩)] S w0 (rdB b p a l.length c w o :: x :: L) fun v L' => ∃ a' c', v = .agg (l.headD zTk).cells.toArray ∧ TkS x a' c' l.tail ∧ rdB b p a' l.tail.length c' w o :: x :: L = L' := by
 obtain ⟨w1, w2, w3⟩ := w
 obtain ⟨o1, o2, o3, o4, o5, o6, o7, o8⟩ := o
 cases l with
 | nil =>
  rw [List.length_nil, List.headD_nil, List.tail_nil]
  dsimp only [Tk.cells, zTk]
  refine Fn1 Tryz.func80 Tryz.ntmps80 rfl rfl ?_
  repeat' (first | refine h0p ?_ | refine h0e ?_ | refine h1f ?_ | refine h1h ?_ | refine h0j rfl ?_ | (refine gR 0 ?_ <;> (try refine h0f ?_; (refine h0i (t:=166) rfl Tryz.zeroValue166 ?_; intro nb hnb; (try simp only [Value.cells]))) <;> (try refine h0d ?_)) | (refine gR 1 (p_m (h:=p_n (h:=p_e (q_f h4m) (h:=p_e q_l (h:=q_e (by apply h0g; exact rfl; exact (fun _ => BigFrame.builtin_len ..); apply h0k Tryz.underlying78; exact h4y) ?_))))) <;> (try refine q_e (by exact q_b (r:=by refine h1i ?_; first | rfl | (with_reducible assumption) | (decide; done) | omega)) ?_) <;> (try refine h0d ?_)) | (refine gR 2 ?_ <;> (try refine q_e (by exact h0s (t:=166) (fun vs => (match vs with | [] => [Value.int .u8 0, Value.string ⟨#[]⟩, Value.int .u64 0, Value.int .i64 0, Value.int .i64 0] | _ => [])) rfl (fun w => by kernel_rfl)) ?_; (try simp only [Value.cells]); (try simp only [zzC, zzN])) <;> (try refine h0f ?_; (refine q_W ?_)) <;> (try refine h0d ?_)))
  (apply h5j Tryz.results80; exact rfl; (focus (repeat (first | exact fd0 | (with_reducible assumption) | apply fdA | apply fdS))); kernel_rfl; kernel_rfl; exact h2k; exact c_16)
  exact ⟨_, ⟨a, c, rfl, h, rfl⟩, fun _ H => H.tail⟩
 | cons t r =>
  have hle := h.le
  have hcm := h.cm
  have ht := h.tail
  rcases h.sl.2 with h0 | ⟨i0, q, bb, off, cs, T, fr, rfl, hi0, hsz, hcs⟩
  ·rw [List.length_cons] at h0; omega
  have hx5 : (cs.toList.drop off).take 5 = t.cells := by
   have h2 := (flatTk_at _ t r rfl).1
   rw [← hcs, List.take_take, Nat.min_eq_left (by rw [List.length_cons]; omega)] at h2
   exact h2
  obtain rfl : x = ⟨q, bb, .cells cs T fr⟩ := by
   cases i0 with
   | zero => exact Option.some.inj hi0
   | succ i => simp at hi0
  rw [List.length_cons] at *
  rw [List.headD_cons, List.tail_cons]
  obtain ⟨k, tx, nu, li, co⟩ := t
  dsimp only [Tk.cells] at hx5 ⊢
  have ht' := Lib.hid ht
  have hz5 : off + 5 ≤ cs.size := by omega
  unfold maxLen at hcm
  clear ht hcs hi0 h
  refine Fn1 Tryz.func80 Tryz.ntmps80 rfl rfl ?_
  repeat' (first | refine h0p ?_ | refine h0e ?_ | refine h0u ?_ | refine h1h ?_ | refine h0h rfl ?_ | (refine gR 0 ?_ <;> (try refine h0f ?_; (refine h0i (t:=166) rfl Tryz.zeroValue166 ?_; intro nb hnb; (try simp only [Value.cells]))) <;> (try refine h0d ?_)) | (refine gR 1 (p_m (h:=p_n (h:=p_e (q_f h4m) (h:=p_e q_l (h:=p_e (by apply h0g; exact rfl; exact (fun _ => BigFrame.builtin_len ..); apply h0k Tryz.underlying78; exact h4y) (h:=p_e (q_b (r:=by exact h1o q_o)) (h:=h0d ?_)))))))) | (refine gR 3 (p_m (h:=p_n (h:=p_e (q_f h4m) (h:=p_e q_l (h:=p_e (by apply h0n; exact rfl; exact rfl; (focus (apply h3e Tryz.underlying78 h2k; omega; omega; exact c_1))) (h:=q_e (by apply h3p (t:=166); exact rfl; exact h3n; kernel_rfl; kernel_rfl; exact h2k; (with_reducible assumption); (with_reducible assumption)) ?_)))))) <;> (try refine h0f ?_; (refine h0i (t:=166) rfl Tryz.zeroValue166 ?_; intro nb hnb; (try simp only [Value.cells]))) <;> (try refine h0f ?_; (refine q_W ?_)) <;> (try refine h0d ?_)) | (refine gR 4 (p_m (h:=p_m (h:=p_n (h:=p_e (q_f h4m) (h:=p_e q_l (h:=p_e (by apply h4w; exact rfl; exact rfl; exact rfl; exact rfl; (focus (apply r_slg Tryz.underlying78 h2k; (focus (apply bd_10; omega; omega; exact c_0))))) (h:=p_n (h:=q_e (q_f h4m) ?_)))))))) <;> (try refine h0f ?_; (refine q_S ?_)) <;> (try refine h0d ?_)) | (refine gR 5 (q_e (q_L h2k) ?_) <;> (try refine h0f ?_; (refine q_W ?_)) <;> (try refine h0d ?_)))
  (apply h5j Tryz.results80; exact rfl; (focus (repeat (first | exact fd0 | (with_reducible assumption) | apply fdA | apply fdS))); kernel_rfl; kernel_rfl; exact h2k; exact c_16)
  exact ⟨_, ⟨_, _, rfl, ht'.out, rfl⟩, fun _ H => H.tail.tail⟩
theorem h5n {S w0 L} {i : Nat} {b n c : Nat} {p : Value} {a : Option Addr} {w : Wr} {o : O8} (h1 : L[i]? = some (rdB b p a n c w o)) (t : Tk) (e : Nat) :
  Fn Tryz.prog 52 #[.pointer (some ⟨b, 0, none⟩), .agg t.cells.toArray, .int .i64 (e : Nat)] S w0 L fun v L' => v = .tuple #[] ∧ rdB b p a n c (h2v w t e) o :: L.eraseIdx i = L' := Fn.at1 h1 (fail_c b p a n c w o t e)
theorem next_d {S w0 L} {i j : Nat} {b c : Nat} {p : Value} {a : Option Addr} {l : List Tk} {w : Wr} {o : O8} {x : Blk} (h1 : L[i]? = some (rdB b p a l.length c w o)) (h2 : (L.eraseIdx i)[j]? = some x) (h : TkS x a c l) :
  Fn Tryz.prog 80 #[.pointer (some ⟨b, 0, none⟩)] S w0 L fun v L' => ∃ a' c', v = .agg (l.headD zTk).cells.toArray ∧ TkS x a' c' l.tail ∧ rdB b p a' l.tail.length c' w o :: x :: (L.eraseIdx i).eraseIdx j = L' := Fn.at2 h1 h2 (rnext_c b p a c l w o x h)
theorem headD_ok {l : List Tk} (h : ∀ t ∈ l, TkOk t) : TkOk (l.headD zTk) := by
 cases l with
 | nil => exact zTk_ok
 | cons t r => exact h t (List.mem_cons_self ..)
theorem take_c {S w0 L} (k : Nat) (hk : k ≤ 4) (b : Nat) (p : Value) (a : Option Addr) (c : Nat) (l : List Tk) (w : Wr) (o : O8) (x : Blk) (h : TkS x a c l) :
  Fn Tryz.prog 53 #[.pointer (some ⟨b, 0, none⟩), .int .u8 (k : Nat)] S w0 (rdB b p a l.length c w o :: x :: L) fun v L' => ∃ a' c', v = .agg (h0z k (l, w)).1.cells.toArray ∧ TkS x a' c' (h0z k (l, w)).2.1 ∧ rdB b p a' (h0z k (l, w)).2.1.length c' (h0z k (l, w)).2.2 o :: x :: L = L' := by
 have hnx := fun (L : List Blk) (i j : Nat) h1 h2 => next_d (S:=S) (w0:=w0) (L:=L) (i:=i) (j:=j) (b:=b) (c:=c) (p:=p) (a:=a) (l:=l) (w:=w) (o:=o) (x:=x) h1 h2 h
 have hok := headD_ok h.ok
 unfold h0z
 dsimp only
 have hfl := fun (L : List Blk) (i : Nat) (a' : Option Addr) (c' : Nat) h1 => h5n (S:=S) (w0:=w0) (L:=L) (i:=i) (b:=b) (n:=l.tail.length) (c:=c') (p:=p) (a:=a') (w:=w) (o:=o) h1 (l.headD zTk) 203
 generalize l.headD zTk = t at *
 generalize l.tail = r at *
 have hkd := hok.kind
 clear hok h
 obtain ⟨w1, w2, w3⟩ := w
 obtain ⟨o1, o2, o3, o4, o5, o6, o7, o8⟩ := o
 obtain ⟨tk, tx, nu, li, co⟩ := t
 dsimp only [Tk.cells] at *
 generalize h2v (w1, w2, w3) _ 203 = fw at *
 by_cases hkk : tk = k
 ·rw [if_pos hkk]
  subst hkk
  refine Fn2 Tryz.func53 Tryz.ntmps53 rfl rfl ?_
  repeat' (first | refine h0p ?_ | refine h0e ?_ | refine h0u ?_ | refine h1h ?_ | refine h0h rfl ?_ | (refine gR 0 ?_ <;> (try refine h0f ?_; (refine h0i (t:=166) rfl Tryz.zeroValue166 ?_; intro nb hnb; (try simp only [Value.cells]))) <;> (try refine h0d ?_)) | (refine gR 1 (q_m ?_) <;> (try refine h0f ?_; (refine q_c 80 (c:=by apply hnx; exact c_9; exact c_9) (h:=?_); rintro _ _ ⟨a', c', rfl, htk, rfl⟩; (try simp only [zzE, zzF]))) <;> (try refine h0f ?_; (refine h0i (t:=166) rfl Tryz.zeroValue166 ?_; intro nb hnb; (try simp only [Value.cells]))) <;> (try refine h0f ?_; (refine q_W ?_)) <;> (try refine h0d ?_)) | (refine gR 2 (p_e (q_f h4k) (h:=p_e q_l (h:=q_m ?_))) <;> (try refine q_e (by exact q_b (r:=by refine h3o ?_; first | rfl | (with_reducible assumption) | (decide; done) | omega)) ?_) <;> (try refine h0d ?_)) | (refine gR 4 (q_e (q_L h2k) ?_) <;> (try refine h0f ?_; (refine q_W ?_)) <;> (try refine h0d ?_)))
  (apply h5j Tryz.results53; exact rfl; (focus (repeat (first | exact fd0 | (with_reducible assumption) | apply fdA | apply fdS))); kernel_rfl; kernel_rfl; exact h2k; exact c_16)
  exact ⟨_, ⟨a', c', rfl, htk, rfl⟩, by intro w H; refine Sel.out ?_ H; (try simp only [zzC, zzN]); repeat (first | exact Sel.refl _ | (apply Sel.cons; exact h3n; (try simp only [zzE, zzF])) | apply Sel.drop)⟩
 ·rw [if_neg hkk]
  obtain ⟨f1, f2, f3⟩ := fw
  refine Fn2 Tryz.func53 Tryz.ntmps53 rfl rfl ?_
  repeat' (first | refine h0p ?_ | refine h0e ?_ | refine h1h ?_ | refine h0j rfl ?_ | (refine gR 0 ?_ <;> (try refine h0f ?_; (refine h0i (t:=166) rfl Tryz.zeroValue166 ?_; intro nb hnb; (try simp only [Value.cells]))) <;> (try refine h0d ?_)) | (refine gR 1 (q_m ?_) <;> (try refine h0f ?_; (refine q_c 80 (c:=by apply hnx; exact c_9; exact c_9) (h:=?_); rintro _ _ ⟨a', c', rfl, htk, rfl⟩; (try simp only [zzE, zzF]))) <;> (try refine h0f ?_; (refine h0i (t:=166) rfl Tryz.zeroValue166 ?_; intro nb hnb; (try simp only [Value.cells]))) <;> (try refine h0f ?_; (refine q_W ?_)) <;> (try refine h0d ?_)) | (refine gR 2 (p_e (q_f h4k) (h:=p_e q_l (h:=p_m (h:=p_e (q_b (r:=by exact h3v q_o)) (h:=h0d ?_)))))) | (refine gR 3 (p_m (h:=q_e (q_L h2k) ?_)) <;> (try refine h0f ?_; (refine q_c 52 (c:=by apply hfl; exact c_9) (h:=?_); rintro _ _ ⟨rfl, rfl⟩; (try simp only [zzE, zzF]))) <;> (try refine h0d ?_)) | (refine gR 4 (q_e (q_L h2k) ?_) <;> (try refine h0f ?_; (refine q_W ?_)) <;> (try refine h0d ?_)))
  (apply h5j Tryz.results53; exact rfl; (focus (repeat (first | exact fd0 | (with_reducible assumption) | apply fdA | apply fdS))); kernel_rfl; kernel_rfl; exact h2k; exact c_16)
  exact ⟨_, ⟨a', c', rfl, htk, rfl⟩, by intro w H; refine Sel.out ?_ H; (try simp only [zzC, zzN]); repeat (first | exact Sel.refl _ | (apply Sel.cons; exact h3n; (try simp only [zzE, zzF])) | apply Sel.drop)⟩
theorem take_d {S w0 L} (k : Nat) (hk : k ≤ 4) {i j : Nat} {b c : Nat} {p : Value} {a : Option Addr} {l : List Tk} {w : Wr} {o : O8} {x : Blk} (h1 : L[i]? = some (rdB b p a l.length c w o)) (h2 : (L.eraseIdx i)[j]? = some x) (h : TkS x a c l) :
  Fn Tryz.prog 53 #[.pointer (some ⟨b, 0, none⟩), .int .u8 (k : Nat)] S w0 L fun v L' => ∃ a' c', v = .agg (h0z k (l, w)).1.cells.toArray ∧ TkS x a' c' (h0z k (l, w)).2.1 ∧ rdB b p a' (h0z k (l, w)).2.1.length c' (h0z k (l, w)).2.2 o :: x :: (L.eraseIdx i).eraseIdx j = L' := Fn.at2 h1 h2 (take_c k hk b p a c l w o x h)
theorem h6f {k : Nat} {s : PS} (h : ∀ t ∈ s.1, TkOk t) : TkOk (h0z k s).1 ∧ ∀ t ∈ (h0z k s).2.1, TkOk t := ⟨headD_ok h, fun t ht => h t (List.mem_of_mem_tail ht)⟩
theorem tsplit_c {S w0 L} (t : Tk) (ht : t.text.length ≤ 65536) : Fn Tryz.prog 79 #[.agg t.cells.toArray] S w0 L fun v L' => ∃ nb, v = .slice (some ⟨nb, 0, none⟩) (h1p 44 t.text).length (h1p 44 t.text).length ∧ L = L' := by
 have hsp := fun (L : List Blk) => split1_c (S:=S) (w0:=w0) (L:=L) (mB8 t.text) (by rw [h1t]; omega) 44
 rw [h4g] at hsp
 obtain ⟨k, tx, nu, li, co⟩ := t
 dsimp only [Tk.cells] at *
 refine Fn1 Tryz.func79 Tryz.ntmps79 rfl rfl ?_
 repeat' (first | refine h0p ?_ | refine h0e ?_ | refine h1h ?_ | (refine gR 0 ?_ <;> (try refine h0f ?_; (refine h5b (t:=166) rfl rfl ?_; intro nb hnb; (try simp only [Value.cells]))) <;> (try refine p_a (h:=h0d ?_))) | (refine gR 1 (p_e (q_f h1m) (h:=q_e q_l ?_)) <;> (try refine h0f ?_; (refine q_c 47 (c:=by apply hsp) (h:=?_); rintro _ _ ⟨nbP, rfl, rfl⟩; (try simp only [zzE, zzF]))) <;> (try refine p_a (h:=h0d ?_))))
 (refine h0v Tryz.results79 (.tmp rfl .nil) ?_)
 exact ⟨_, ⟨nbP, rfl, rfl⟩, fun _ H => H.tail.tail⟩
theorem splitC_cnt (c : UInt8) (l : List UInt8) : (h1p c l).length ≤ l.length + 1 := by
 rw [splitC_len]
 have := List.count_le_length (a:=c) (l:=l)
 omega
set_option maxHeartbeats 1000000 in
theorem word_c {S w0 L} (b : Nat) (p : Value) (a : Option Addr) (c : Nat) (l : List Tk) (w : Wr) (o : O8) (x : Blk) (h : TkS x a c l) :
  Fn Tryz.prog 51 #[.pointer (some ⟨b, 0, none⟩)] S w0 (rdB b p a l.length c w o :: x :: L) fun v L' => ∃ a' c', v = .agg (h2g (l, w)).1.cells.toArray ∧ TkS x a' c' (h2g (l, w)).2.1 ∧ rdB b p a' (h2g (l, w)).2.1.length c' (h2g (l, w)).2.2 o :: x :: L = L' := by
 have htk := fun (L : List Blk) (i j : Nat) h1 h2 => take_d (S:=S) (w0:=w0) (L:=L) 1 (by decide) (i:=i) (j:=j) (b:=b) (c:=c) (p:=p) (a:=a) (l:=l) (w:=w) (o:=o) (x:=x) h1 h2 h
 have hok := (h6f (k:=1) (s:=(l, w)) h.ok).1
 unfold h2g
 generalize h0z 1 (l, w) = T at *
 obtain ⟨t, r, f1, f2, f3⟩ := T
 dsimp only at *
 have hsp := fun (L : List Blk) => tsplit_c (S:=S) (w0:=w0) (L:=L) t hok.text
 have hsn := splitC_cnt 44 t.text
 have htx := hok.text
 have hfl := fun (L : List Blk) (i : Nat) (a' : Option Addr) (c' : Nat) h1 => h5n (S:=S) (w0:=w0) (L:=L) (i:=i) (b:=b) (n:=r.length) (c:=c') (p:=p) (a:=a') (w:=(f1, f2, f3)) (o:=o) h1 t 203
 have hq := wr_eq f1 f2 f3
 clear h hok
 obtain ⟨o1, o2, o3, o4, o5, o6, o7, o8⟩ := o
 obtain ⟨tk, tx, nu, li, co⟩ := t
 dsimp only [Tk.cells] at *
 generalize (h1p 44 tx).length = sn at *
 generalize h2v (f1, f2, f3) _ 203 = fw at *
 by_cases hz : (f1, f2, f3) = ((0, 0, 0) : Wr)
 ·rw [decide_eq_true hz] at hq
  by_cases h1 : 1 < sn
  ·rw [if_pos ⟨hz, h1⟩]
   obtain ⟨g1, g2, g3⟩ := fw
   clear hz
   refine Fn1 Tryz.func51 Tryz.ntmps51 rfl rfl ?_
   repeat' (first | refine h0p ?_ | refine h0e ?_ | refine h1h ?_ | refine h0j rfl ?_ | (refine gR 0 ?_ <;> (try refine h0f ?_; (refine h0i (t:=166) rfl Tryz.zeroValue166 ?_; intro nb hnb; (try simp only [Value.cells]))) <;> (try refine h0d ?_)) | (refine gR 1 (q_m ?_) <;> (try refine h0f ?_; (refine q_c 53 (c:=by apply htk; exact c_9; exact c_9) (h:=?_); rintro _ _ ⟨a', c', rfl, hts, rfl⟩; (try simp only [zzE, zzF]))) <;> (try refine h0f ?_; (refine h0i (t:=166) rfl Tryz.zeroValue166 ?_; intro nb hnb; (try simp only [Value.cells]))) <;> (try refine h0f ?_; (refine q_W ?_)) <;> (try refine h0d ?_)) | (refine gR 2 (p_m (h:=p_n (h:=p_e (q_f h3r) (h:=q_e (q_L h3z) ?_)))) <;> (try refine q_e (by exact h0s (t:=25) (fun vs => (match vs with | [] => [Value.int .i64 0, Value.int .i64 0, Value.int .i64 0] | _ => [])) rfl (fun w => by kernel_rfl)) ?_; (try simp only [Value.cells]); (try simp only [zzC, zzN])) <;> (try refine p_e (by apply h1s (op:=.eql) (t:=25); exact rfl; exact rfl; kernel_rfl; (with_reducible assumption)) (h:=p_m (h:=q_y (q_L h2k) ?_))) <;> (try refine h0f ?_; (refine h1x rfl rfl rfl ?_; (refine q_c 79 (c:=by apply hsp) (h:=?_); rintro _ _ ⟨nbP, rfl, rfl⟩; (try simp only [zzE, zzF])))) <;> (try refine p_y (by apply h0g; exact rfl; exact (fun _ => BigFrame.builtin_len ..); apply h0k Tryz.underlying56; exact h4y) (h:=p_y (q_b (r:=by exact h1y q_o)) (h:=p_p (h:=h0d ?_))))) | (refine gR 3 (p_m (h:=q_e (q_L h2k) ?_)) <;> (try refine h0f ?_; (refine q_c 52 (c:=by apply hfl; exact c_9) (h:=?_); rintro _ _ ⟨rfl, rfl⟩; (try simp only [zzE, zzF]))) <;> (try refine h0d ?_)) | (refine gR 4 (q_e (q_L h2k) ?_) <;> (try refine h0f ?_; (refine q_W ?_)) <;> (try refine h0d ?_)))
   (apply h5j Tryz.results51; exact rfl; (focus (repeat (first | exact fd0 | (with_reducible assumption) | apply fdA | apply fdS))); kernel_rfl; kernel_rfl; exact h2k; exact c_16)
   exact ⟨_, ⟨a', c', rfl, hts, rfl⟩, by intro w H; refine Sel.out ?_ H; (try simp only [zzC, zzN]); repeat (first | exact Sel.refl _ | (apply Sel.cons; exact h3n; (try simp only [zzE, zzF])) | apply Sel.drop)⟩
  ·rw [if_neg (fun h => h1 h.2)]
   clear hz
   refine Fn1 Tryz.func51 Tryz.ntmps51 rfl rfl ?_
   repeat' (first | refine h0p ?_ | refine h0e ?_ | refine h0u ?_ | refine h1h ?_ | refine h0h rfl ?_ | (refine gR 0 ?_ <;> (try refine h0f ?_; (refine h0i (t:=166) rfl Tryz.zeroValue166 ?_; intro nb hnb; (try simp only [Value.cells]))) <;> (try refine h0d ?_)) | (refine gR 1 (q_m ?_) <;> (try refine h0f ?_; (refine q_c 53 (c:=by apply htk; exact c_9; exact c_9) (h:=?_); rintro _ _ ⟨a', c', rfl, hts, rfl⟩; (try simp only [zzE, zzF]))) <;> (try refine h0f ?_; (refine h0i (t:=166) rfl Tryz.zeroValue166 ?_; intro nb hnb; (try simp only [Value.cells]))) <;> (try refine h0f ?_; (refine q_W ?_)) <;> (try refine h0d ?_)) | (refine gR 2 (p_m (h:=p_n (h:=p_e (q_f h3r) (h:=q_e (q_L h3z) ?_)))) <;> (try refine q_e (by exact h0s (t:=25) (fun vs => (match vs with | [] => [Value.int .i64 0, Value.int .i64 0, Value.int .i64 0] | _ => [])) rfl (fun w => by kernel_rfl)) ?_; (try simp only [Value.cells]); (try simp only [zzC, zzN])) <;> (try refine p_e (by apply h1s (op:=.eql) (t:=25); exact rfl; exact rfl; kernel_rfl; (with_reducible assumption)) (h:=p_m (h:=q_y (q_L h2k) ?_))) <;> (try refine h0f ?_; (refine h1x rfl rfl rfl ?_; (refine q_c 79 (c:=by apply hsp) (h:=?_); rintro _ _ ⟨nbP, rfl, rfl⟩; (try simp only [zzE, zzF])))) <;> (try refine p_y (by apply h0g; exact rfl; exact (fun _ => BigFrame.builtin_len ..); apply h0k Tryz.underlying56; exact h4y) (h:=p_y (q_b (r:=by exact h2f q_o)) (h:=p_p (h:=h0d ?_))))) | (refine gR 4 (q_e (q_L h2k) ?_) <;> (try refine h0f ?_; (refine q_W ?_)) <;> (try refine h0d ?_)))
   (apply h5j Tryz.results51; exact rfl; (focus (repeat (first | exact fd0 | (with_reducible assumption) | apply fdA | apply fdS))); kernel_rfl; kernel_rfl; exact h2k; exact c_16)
   exact ⟨_, ⟨a', c', rfl, hts, rfl⟩, by intro w H; refine Sel.out ?_ H; (try simp only [zzC, zzN]); repeat (first | exact Sel.refl _ | (apply Sel.cons; exact h3n; (try simp only [zzE, zzF])) | apply Sel.drop)⟩
 ·rw [decide_eq_false hz] at hq
  rw [if_neg (fun h => hz h.1)]
  clear hz
  refine Fn1 Tryz.func51 Tryz.ntmps51 rfl rfl ?_
  repeat' (first | refine h0p ?_ | refine h0e ?_ | refine h0u ?_ | refine h1h ?_ | refine h0h rfl ?_ | (refine gR 0 ?_ <;> (try refine h0f ?_; (refine h0i (t:=166) rfl Tryz.zeroValue166 ?_; intro nb hnb; (try simp only [Value.cells]))) <;> (try refine h0d ?_)) | (refine gR 1 (q_m ?_) <;> (try refine h0f ?_; (refine q_c 53 (c:=by apply htk; exact c_9; exact c_9) (h:=?_); rintro _ _ ⟨a', c', rfl, hts, rfl⟩; (try simp only [zzE, zzF]))) <;> (try refine h0f ?_; (refine h0i (t:=166) rfl Tryz.zeroValue166 ?_; intro nb hnb; (try simp only [Value.cells]))) <;> (try refine h0f ?_; (refine q_W ?_)) <;> (try refine h0d ?_)) | (refine gR 2 (p_m (h:=p_n (h:=p_e (q_f h3r) (h:=q_e (q_L h3z) ?_)))) <;> (try refine q_e (by exact h0s (t:=25) (fun vs => (match vs with | [] => [Value.int .i64 0, Value.int .i64 0, Value.int .i64 0] | _ => [])) rfl (fun w => by kernel_rfl)) ?_; (try simp only [Value.cells]); (try simp only [zzC, zzN])) <;> (try refine p_e (by apply h1s (op:=.eql) (t:=25); exact rfl; exact rfl; kernel_rfl; (with_reducible assumption)) (h:=p_m (h:=p_z (h:=p_z (h:=p_z (h:=p_z (h:=p_p (h:=h0d ?_))))))))) | (refine gR 4 (q_e (q_L h2k) ?_) <;> (try refine h0f ?_; (refine q_W ?_)) <;> (try refine h0d ?_)))
  (apply h5j Tryz.results51; exact rfl; (focus (repeat (first | exact fd0 | (with_reducible assumption) | apply fdA | apply fdS))); kernel_rfl; kernel_rfl; exact h2k; exact c_16)
  exact ⟨_, ⟨a', c', rfl, hts, rfl⟩, by intro w H; refine Sel.out ?_ H; (try simp only [zzC, zzN]); repeat (first | exact Sel.refl _ | (apply Sel.cons; exact h3n; (try simp only [zzE, zzF])) | apply Sel.drop)⟩
set_option maxHeartbeats 1000000 in
theorem key_c {S w0 L} (k : List UInt8) (b : Nat) (p : Value) (a : Option Addr) (c : Nat) (l : List Tk) (w : Wr) (o : O8) (x : Blk) (h : TkS x a c l) :
  Fn Tryz.prog 50 #[.pointer (some ⟨b, 0, none⟩), .string (mB8 k)] S w0 (rdB b p a l.length c w o :: x :: L) fun v L' => ∃ a' c', v = .tuple #[] ∧ TkS x a' c' (keyF k (l, w)).1 ∧ rdB b p a' (keyF k (l, w)).1.length c' (keyF k (l, w)).2 o :: x :: L = L' := by
 have htk := fun (L : List Blk) (i j : Nat) h1 h2 => take_d (S:=S) (w0:=w0) (L:=L) 1 (by decide) (i:=i) (j:=j) (b:=b) (c:=c) (p:=p) (a:=a) (l:=l) (w:=w) (o:=o) (x:=x) h1 h2 h
 unfold keyF
 generalize h0z 1 (l, w) = T at *
 obtain ⟨t, r, f1, f2, f3⟩ := T
 dsimp only at *
 have hfl := fun (L : List Blk) (i : Nat) (a' : Option Addr) (c' : Nat) h1 => h5n (S:=S) (w0:=w0) (L:=L) (i:=i) (b:=b) (n:=r.length) (c:=c') (p:=p) (a:=a') (w:=(f1, f2, f3)) (o:=o) h1 t 203
 have hq := wr_eq f1 f2 f3
 clear h
 obtain ⟨o1, o2, o3, o4, o5, o6, o7, o8⟩ := o
 obtain ⟨tk, tx, nu, li, co⟩ := t
 dsimp only [Tk.cells] at *
 generalize h2v (f1, f2, f3) _ 203 = fw at *
 have hne : tx ≠ k → ¬ mB8 tx = mB8 k := fun h1 h2 => h1 (by rw [← h4g tx, h2, h4g])
 by_cases hz : (f1, f2, f3) = ((0, 0, 0) : Wr)
 ·rw [decide_eq_true hz] at hq
  by_cases h1 : tx = k
  ·rw [if_neg (fun h => h.2 h1)]
   subst h1
   clear hz
   refine Fn2 Tryz.func50 Tryz.ntmps50 rfl rfl ?_
   repeat' (first | refine h0p ?_ | refine h0e ?_ | refine h0u ?_ | refine h0h rfl ?_ | (refine gR 0 (q_m ?_) <;> (try refine h0f ?_; (refine q_c 53 (c:=by apply htk; exact h5z; exact h5z) (h:=?_); rintro _ _ ⟨a', c', rfl, hts, rfl⟩; (try simp only [zzE, zzF]))) <;> (try refine h0f ?_; (refine h0i (t:=166) rfl Tryz.zeroValue166 ?_; intro nb hnb; (try simp only [Value.cells]))) <;> (try refine h0f ?_; (refine q_W ?_)) <;> (try refine h0d ?_)) | (refine gR 1 (p_m (h:=p_n (h:=p_e (q_f h3r) (h:=q_e (q_L h3z) ?_)))) <;> (try refine q_e (by exact h0s (t:=25) (fun vs => (match vs with | [] => [Value.int .i64 0, Value.int .i64 0, Value.int .i64 0] | _ => [])) rfl (fun w => by kernel_rfl)) ?_; (try simp only [Value.cells]); (try simp only [zzC, zzN])) <;> (try refine p_e (by apply h1s (op:=.eql) (t:=25); exact rfl; exact rfl; kernel_rfl; (with_reducible assumption)) (h:=p_m (h:=p_y (q_f h1m) (h:=p_y q_l (h:=p_y (h0m rfl) (h:=p_y (q_b (r:=by exact rb_strne_s)) (h:=p_p (h:=h0d ?_))))))))))
   (first | refine h0v Tryz.results50 .nil ?_ | refine h2w Tryz.results50 .nil ?_)
   exact ⟨_, ⟨a', c', rfl, hts, rfl⟩, by intro w H; refine Sel.out ?_ H; (try simp only [zzC, zzN]); repeat (first | exact Sel.refl _ | (apply Sel.cons; exact h3n; (try simp only [zzE, zzF])) | apply Sel.drop)⟩
  ·rw [if_pos ⟨hz, h1⟩]
   obtain ⟨g1, g2, g3⟩ := fw
   have hnn := hne h1
   clear hz
   refine Fn2 Tryz.func50 Tryz.ntmps50 rfl rfl ?_
   repeat' (first | refine h0p ?_ | refine h0e ?_ | refine h0j rfl ?_ | (refine gR 0 (q_m ?_) <;> (try refine h0f ?_; (refine q_c 53 (c:=by apply htk; exact h5z; exact h5z) (h:=?_); rintro _ _ ⟨a', c', rfl, hts, rfl⟩; (try simp only [zzE, zzF]))) <;> (try refine h0f ?_; (refine h0i (t:=166) rfl Tryz.zeroValue166 ?_; intro nb hnb; (try simp only [Value.cells]))) <;> (try refine h0f ?_; (refine q_W ?_)) <;> (try refine h0d ?_)) | (refine gR 1 (p_m (h:=p_n (h:=p_e (q_f h3r) (h:=q_e (q_L h3z) ?_)))) <;> (try refine q_e (by exact h0s (t:=25) (fun vs => (match vs with | [] => [Value.int .i64 0, Value.int .i64 0, Value.int .i64 0] | _ => [])) rfl (fun w => by kernel_rfl)) ?_; (try simp only [Value.cells]); (try simp only [zzC, zzN])) <;> (try refine p_e (by apply h1s (op:=.eql) (t:=25); exact rfl; exact rfl; kernel_rfl; (with_reducible assumption)) (h:=p_m (h:=p_y (q_f h1m) (h:=p_y q_l (h:=p_y (h0m rfl) (h:=p_y (q_b (r:=by apply rb_strne_h; (with_reducible assumption))) (h:=p_p (h:=h0d ?_))))))))) | (refine gR 2 (p_m (h:=q_e (q_L h2k) ?_)) <;> (try refine h0f ?_; (refine q_c 52 (c:=by apply hfl; exact c_9) (h:=?_); rintro _ _ ⟨rfl, rfl⟩; (try simp only [zzE, zzF]))) <;> (try refine h0d ?_)))
   (first | refine h0v Tryz.results50 .nil ?_ | refine h2w Tryz.results50 .nil ?_)
   exact ⟨_, ⟨a', c', rfl, hts, rfl⟩, by intro w H; refine Sel.out ?_ H; (try simp only [zzC, zzN]); repeat (first | exact Sel.refl _ | (apply Sel.cons; exact h3n; (try simp only [zzE, zzF])) | apply Sel.drop)⟩
 ·rw [decide_eq_false hz] at hq
  rw [if_neg (fun h => hz h.1)]
  clear hz
  refine Fn2 Tryz.func50 Tryz.ntmps50 rfl rfl ?_
  repeat' (first | refine h0p ?_ | refine h0e ?_ | refine h0u ?_ | refine h0h rfl ?_ | (refine gR 0 (q_m ?_) <;> (try refine h0f ?_; (refine q_c 53 (c:=by apply htk; exact h5z; exact h5z) (h:=?_); rintro _ _ ⟨a', c', rfl, hts, rfl⟩; (try simp only [zzE, zzF]))) <;> (try refine h0f ?_; (refine h0i (t:=166) rfl Tryz.zeroValue166 ?_; intro nb hnb; (try simp only [Value.cells]))) <;> (try refine h0f ?_; (refine q_W ?_)) <;> (try refine h0d ?_)) | (refine gR 1 (p_m (h:=p_n (h:=p_e (q_f h3r) (h:=q_e (q_L h3z) ?_)))) <;> (try refine q_e (by exact h0s (t:=25) (fun vs => (match vs with | [] => [Value.int .i64 0, Value.int .i64 0, Value.int .i64 0] | _ => [])) rfl (fun w => by kernel_rfl)) ?_; (try simp only [Value.cells]); (try simp only [zzC, zzN])) <;> (try refine p_e (by apply h1s (op:=.eql) (t:=25); exact rfl; exact rfl; kernel_rfl; (with_reducible assumption)) (h:=p_m (h:=p_z (h:=p_z (h:=p_z (h:=p_z (h:=p_p (h:=h0d ?_))))))))))
  (first | refine h0v Tryz.results50 .nil ?_ | refine h2w Tryz.results50 .nil ?_)
  exact ⟨_, ⟨a', c', rfl, hts, rfl⟩, by intro w H; refine Sel.out ?_ H; (try simp only [zzC, zzN]); repeat (first | exact Sel.refl _ | (apply Sel.cons; exact h3n; (try simp only [zzE, zzF])) | apply Sel.drop)⟩
theorem word_d {S w0 L} {i j : Nat} {b c : Nat} {p : Value} {a : Option Addr} {l : List Tk} {w : Wr} {o : O8} {x : Blk} (h1 : L[i]? = some (rdB b p a l.length c w o)) (h2 : (L.eraseIdx i)[j]? = some x) (h : TkS x a c l) :
  Fn Tryz.prog 51 #[.pointer (some ⟨b, 0, none⟩)] S w0 L fun v L' => ∃ a' c', v = .agg (h2g (l, w)).1.cells.toArray ∧ TkS x a' c' (h2g (l, w)).2.1 ∧ rdB b p a' (h2g (l, w)).2.1.length c' (h2g (l, w)).2.2 o :: x :: (L.eraseIdx i).eraseIdx j = L' := Fn.at2 h1 h2 (word_c b p a c l w o x h)
theorem key_d {S w0 L} (k : List UInt8) {i j : Nat} {b c : Nat} {p : Value} {a : Option Addr} {l : List Tk} {w : Wr} {o : O8} {x : Blk} (h1 : L[i]? = some (rdB b p a l.length c w o)) (h2 : (L.eraseIdx i)[j]? = some x) (h : TkS x a c l) :
  Fn Tryz.prog 50 #[.pointer (some ⟨b, 0, none⟩), .string (mB8 k)] S w0 L fun v L' => ∃ a' c', v = .tuple #[] ∧ TkS x a' c' (keyF k (l, w)).1 ∧ rdB b p a' (keyF k (l, w)).1.length c' (keyF k (l, w)).2 o :: x :: (L.eraseIdx i).eraseIdx j = L' := Fn.at2 h1 h2 (key_c k b p a c l w o x h)
theorem wordT_ok {s : PS} (h : ∀ t ∈ s.1, TkOk t) : TkOk (h2g s).1 ∧ ∀ t ∈ (h2g s).2.1, TkOk t := h6f (k:=1) h
theorem ior_fail (x : Int) (h0 : 0 ≤ x) (h1 : x ≤ 4095) : ior 327680 x = 327680 + x := by
 unfold ior
 have h := Nat.shiftLeft_add_eq_or_of_lt (b:=x.toNat) (i:=16) (by omega) 5
 have e : (327680 : Int).toNat = 5 <<< 16 := rfl
 rw [e, ← h]
 omega
theorem rfail_c {S w0 L} (e : Int) (h1 : -9223372036854775808 ≤ e) (h2 : e < 9223372036854775808) : Fn Tryz.prog 56 #[.int .i64 e] S w0 L fun v L' => v = .int .u32 (327680 + min (max e 0) 4095) ∧ L = L' := by
 rw [← ior_fail _ (by omega) (by omega)]
 refine Fn1 Tryz.func56 Tryz.ntmps56 rfl rfl ?_
 repeat' (first | refine h0p ?_ | refine h0e ?_ | refine h1h ?_ | (refine gR 0 (p_a (h:=h0d ?_))) | (refine gR 1 (p_m (h:=p_e (h0g rfl (fun _ => BigFrame.builtin_max ..) r_max) (h:=q_e (h0g rfl (fun _ => BigFrame.builtin_min ..) r_min) ?_))) <;> (try refine q_e (by apply h4l; exact rfl; (focus (apply h4r Tryz.underlying23 Tryz.underlying29; first | (refine IntWalk.i64_in _ ?_; omega) | (refine IntWalk.u8_in _ ?_; omega) | (refine IntWalk.u16_in _ ?_; omega) | (refine IntWalk.u32_in _ ?_; omega) | (refine IntWalk.u64_in _ ?_; omega) | (refine IntWalk.i32_in _ ?_; omega) | exact rfl))) ?_) <;> (try refine q_e (q_b (r:=by refine rb_or ?_ ?_; (focus (refine ⟨rfl, ⟨?_, ?_⟩⟩; omega; (focus (simp only [IntKind.bits]; omega)))); (focus (refine ⟨rfl, ⟨?_, ?_⟩⟩; omega; (focus (simp only [IntKind.bits]; omega)))))) ?_) <;> (try refine p_a (h:=h0d ?_))))
 (refine h0v Tryz.results56 (.tmp rfl .nil) ?_)
 exact ⟨_, ⟨rfl, rfl⟩, by intro w H; refine H.sub ?_; (try simp only [zzC, zzN]); repeat (exact List.Sublist.refl _)⟩
theorem toI_in (n : Nat) : -9223372036854775808 ≤ toI n ∧ toI n < 9223372036854775808 := by
 unfold toI
 rw [IntKind.wrap_i64]
 omega
theorem text_ne {a b : List UInt8} (h : a ≠ b) : ¬ mB8 a = mB8 b := fun h2 => h (by rw [← h4g a, h2, h4g])
set_option maxHeartbeats 1000000 in
theorem action_c {S w0 L} (b : Nat) (p : Value) (a : Option Addr) (c : Nat) (l : List Tk) (w : Wr) (o : O8) (x : Blk) (h : TkS x a c l) :
  Fn Tryz.prog 54 #[.pointer (some ⟨b, 0, none⟩)] S w0 (rdB b p a l.length c w o :: x :: L) fun v L' => ∃ a' c', v = .int .u32 (actF (l, w)).1 ∧ TkS x a' c' (actF (l, w)).2.1 ∧ rdB b p a' (actF (l, w)).2.1.length c' (actF (l, w)).2.2 o :: x :: L = L' := by
 have hwd := fun (L : List Blk) (i j : Nat) h1 h2 => word_d (S:=S) (w0:=w0) (L:=L) (i:=i) (j:=j) (b:=b) (c:=c) (p:=p) (a:=a) (l:=l) (w:=w) (o:=o) (x:=x) h1 h2 h
 have hok := (wordT_ok (s:=(l, w)) h.ok).2
 unfold actF
 generalize h2g (l, w) = T at *
 obtain ⟨t, r, f1, f2, f3⟩ := T
 dsimp only at *
 clear h
 have hfl := fun (L : List Blk) (i : Nat) (a' : Option Addr) (c' : Nat) h1 => h5n (S:=S) (w0:=w0) (L:=L) (i:=i) (b:=b) (n:=r.length) (c:=c') (p:=p) (a:=a') (w:=(f1, f2, f3)) (o:=o) h1 t 202
 have htk := fun (L : List Blk) (i j : Nat) (a : Option Addr) (c : Nat) h1 h2 h => take_d (S:=S) (w0:=w0) (L:=L) 2 (by decide) (i:=i) (j:=j) (b:=b) (c:=c) (p:=p) (a:=a) (l:=r) (w:=(f1, f2, f3)) (o:=o) (x:=x) h1 h2 h
 by_cases k1 : t.text = tKill
 ·rw [if_pos k1]
  obtain ⟨o1, o2, o3, o4, o5, o6, o7, o8⟩ := o
  obtain ⟨tk, tx, nu, li, co⟩ := t
  dsimp only [Tk.cells] at *
  subst k1
  refine Fn1 Tryz.func54 Tryz.ntmps54 rfl rfl ?_
  repeat' (first | refine h0p ?_ | refine h0e ?_ | refine h1f ?_ | refine h2p ?_ | refine h0r ?_ | refine h1h ?_ | refine h0j rfl ?_ | (refine gR 0 (p_a (h:=h0d ?_))) | (refine gR 1 (q_m ?_) <;> (try refine h0f ?_; (refine q_c 51 (c:=by apply hwd; exact h5z; exact h5z) (h:=?_); rintro _ _ ⟨a', c', rfl, hts, rfl⟩; (try simp only [zzE, zzF]))) <;> (try refine h0f ?_; (refine h0i (t:=166) rfl Tryz.zeroValue166 ?_; intro nb hnb; (try simp only [Value.cells]))) <;> (try refine h0f ?_; (refine q_W ?_)) <;> (try refine h0d ?_)) | (refine gR 2 (p_e (q_f h1m) (h:=p_e q_l (h:=h0d ?_)))) | (refine gR 3 (p_e (q_b (r:=by exact h2l)) (h:=p_a (h:=h0d ?_)))) | (refine gR 4 (p_a (h:=h0d ?_))))
  (refine h0v Tryz.results54 (.tmp rfl .nil) ?_)
  exact ⟨_, ⟨a', c', rfl, hts, rfl⟩, by intro w H; refine Sel.out ?_ H; (try simp only [zzC, zzN]); repeat (first | exact Sel.refl _ | (apply Sel.cons; exact h3n; (try simp only [zzE, zzF])) | apply Sel.drop)⟩
 rw [if_neg k1]
 by_cases k2 : t.text = tLog
 ·rw [if_pos k2]
  obtain ⟨o1, o2, o3, o4, o5, o6, o7, o8⟩ := o
  obtain ⟨tk, tx, nu, li, co⟩ := t
  dsimp only [Tk.cells] at *
  subst k2
  refine Fn1 Tryz.func54 Tryz.ntmps54 rfl rfl ?_
  repeat' (first | refine h0p ?_ | refine h0e ?_ | refine h1f ?_ | refine h2p ?_ | refine h0r ?_ | refine h1h ?_ | refine h0j rfl ?_ | refine h0h rfl ?_ | (refine gR 0 (p_a (h:=h0d ?_))) | (refine gR 1 (q_m ?_) <;> (try refine h0f ?_; (refine q_c 51 (c:=by apply hwd; exact h5z; exact h5z) (h:=?_); rintro _ _ ⟨a', c', rfl, hts, rfl⟩; (try simp only [zzE, zzF]))) <;> (try refine h0f ?_; (refine h0i (t:=166) rfl Tryz.zeroValue166 ?_; intro nb hnb; (try simp only [Value.cells]))) <;> (try refine h0f ?_; (refine q_W ?_)) <;> (try refine h0d ?_)) | (refine gR 2 (p_e (q_f h1m) (h:=p_e q_l (h:=h0d ?_)))) | (refine gR 3 (p_e (q_b (r:=by apply h0y; (focus (decide)))) (h:=p_a (h:=h0d ?_)))) | (refine gR 5 (p_e (q_b (r:=by exact h2l)) (h:=p_a (h:=h0d ?_)))) | (refine gR 6 (p_a (h:=h0d ?_))))
  (refine h0v Tryz.results54 (.tmp rfl .nil) ?_)
  exact ⟨_, ⟨a', c', rfl, hts, rfl⟩, by intro w H; refine Sel.out ?_ H; (try simp only [zzC, zzN]); repeat (first | exact Sel.refl _ | (apply Sel.cons; exact h3n; (try simp only [zzE, zzF])) | apply Sel.drop)⟩
 rw [if_neg k2]
 by_cases k3 : t.text = tAllow
 ·rw [if_pos k3]
  obtain ⟨o1, o2, o3, o4, o5, o6, o7, o8⟩ := o
  obtain ⟨tk, tx, nu, li, co⟩ := t
  dsimp only [Tk.cells] at *
  subst k3
  refine Fn1 Tryz.func54 Tryz.ntmps54 rfl rfl ?_
  repeat' (first | refine h0p ?_ | refine h0e ?_ | refine h1f ?_ | refine h2p ?_ | refine h0r ?_ | refine h1h ?_ | refine h0j rfl ?_ | refine h0h rfl ?_ | (refine gR 0 (p_a (h:=h0d ?_))) | (refine gR 1 (q_m ?_) <;> (try refine h0f ?_; (refine q_c 51 (c:=by apply hwd; exact h5z; exact h5z) (h:=?_); rintro _ _ ⟨a', c', rfl, hts, rfl⟩; (try simp only [zzE, zzF]))) <;> (try refine h0f ?_; (refine h0i (t:=166) rfl Tryz.zeroValue166 ?_; intro nb hnb; (try simp only [Value.cells]))) <;> (try refine h0f ?_; (refine q_W ?_)) <;> (try refine h0d ?_)) | (refine gR 2 (p_e (q_f h1m) (h:=p_e q_l (h:=h0d ?_)))) | (refine gR 3 (p_e (q_b (r:=by apply h0y; (focus (decide)))) (h:=p_a (h:=h0d ?_)))) | (refine gR 5 (p_e (q_b (r:=by apply h0y; (focus (decide)))) (h:=p_a (h:=h0d ?_)))) | (refine gR 7 (p_e (q_b (r:=by exact h2l)) (h:=p_a (h:=h0d ?_)))) | (refine gR 8 (p_a (h:=h0d ?_))))
  (refine h0v Tryz.results54 (.tmp rfl .nil) ?_)
  exact ⟨_, ⟨a', c', rfl, hts, rfl⟩, by intro w H; refine Sel.out ?_ H; (try simp only [zzC, zzN]); repeat (first | exact Sel.refl _ | (apply Sel.cons; exact h3n; (try simp only [zzE, zzF])) | apply Sel.drop)⟩
 rw [if_neg k3]
 by_cases k4 : t.text = tErrno
 ·rw [if_pos k4]
  clear hfl
  have hn := (h6f (k:=2) (s:=(r, f1, f2, f3)) hok).1.num
  generalize h0z 2 (r, f1, f2, f3) = T at *
  obtain ⟨n, r2, g1, g2, g3⟩ := T
  dsimp only at *
  have hq := wr_eq g1 g2 g3
  have hfl := fun (L : List Blk) (i : Nat) (a' : Option Addr) (c' : Nat) h1 => h5n (S:=S) (w0:=w0) (L:=L) (i:=i) (b:=b) (n:=r2.length) (c:=c') (p:=p) (a:=a') (w:=(g1, g2, g3)) (o:=o) h1 n 204
  have hrf := fun (L : List Blk) => rfail_c (S:=S) (w0:=w0) (L:=L) (toI n.num) (toI_in n.num).1 (toI_in n.num).2
  obtain ⟨o1, o2, o3, o4, o5, o6, o7, o8⟩ := o
  obtain ⟨tk, tx, nu, li, co⟩ := t
  obtain ⟨nk, ntx, nnu, nli, nco⟩ := n
  dsimp only [Tk.cells] at *
  subst k4
  generalize h2v (g1, g2, g3) _ 204 = fw at *
  unfold failA
  unfold toI at *
  clear hok
  by_cases hz : (g1, g2, g3) = ((0, 0, 0) : Wr)
  ·rw [decide_eq_true hz] at hq
   by_cases hr : nnu < 1
   ·rw [if_pos ⟨hz, Or.inl hr⟩]
    obtain ⟨e1, e2, e3⟩ := fw
    clear hz
    refine Fn1 Tryz.func54 Tryz.ntmps54 rfl rfl ?_
    repeat' (first | refine h0p ?_ | refine h0e ?_ | refine h1f ?_ | refine h2p ?_ | refine h0r ?_ | refine h1h ?_ | refine h0j rfl ?_ | refine h0h rfl ?_ | (refine gR 0 (p_a (h:=h0d ?_))) | (refine gR 1 (q_m ?_) <;> (try refine h0f ?_; (refine q_c 51 (c:=by apply hwd; exact h5z; exact h5z) (h:=?_); rintro _ _ ⟨a', c', rfl, hts, rfl⟩; (try simp only [zzE, zzF]))) <;> (try refine h0f ?_; (refine h0i (t:=166) rfl Tryz.zeroValue166 ?_; intro nb hnb; (try simp only [Value.cells]))) <;> (try refine h0f ?_; (refine q_W ?_)) <;> (try refine h0d ?_)) | (refine gR 2 (p_e (q_f h1m) (h:=p_e q_l (h:=h0d ?_)))) | (refine gR 3 (p_e (q_b (r:=by apply h0y; (focus (decide)))) (h:=p_a (h:=h0d ?_)))) | (refine gR 5 (p_e (q_b (r:=by apply h0y; (focus (decide)))) (h:=p_a (h:=h0d ?_)))) | (refine gR 7 (p_e (q_b (r:=by apply h0y; (focus (decide)))) (h:=p_a (h:=h0d ?_)))) | (refine gR 9 (p_e (q_b (r:=by exact h2l)) (h:=p_a (h:=h0d ?_)))) | (refine gR 10 (q_m ?_) <;> (try refine h0f ?_; (refine q_c 53 (c:=by apply htk; exact c_9; exact c_9; (with_reducible assumption)) (h:=?_); rintro _ _ ⟨a', c', rfl, hts, rfl⟩; (try simp only [zzE, zzF]))) <;> (try refine h0f ?_; (refine h0i (t:=166) rfl Tryz.zeroValue166 ?_; intro nb hnb; (try simp only [Value.cells]))) <;> (try refine h0f ?_; (refine q_W ?_)) <;> (try refine h0d ?_)) | (refine gR 11 (p_m (h:=p_n (h:=p_e (q_f h3r) (h:=q_e (q_L h3z) ?_)))) <;> (try refine q_e (by exact h0s (t:=25) (fun vs => (match vs with | [] => [Value.int .i64 0, Value.int .i64 0, Value.int .i64 0] | _ => [])) rfl (fun w => by kernel_rfl)) ?_; (try simp only [Value.cells]); (try simp only [zzC, zzN])) <;> (try refine p_e (by apply h1s (op:=.eql) (t:=25); exact rfl; exact rfl; kernel_rfl; (with_reducible assumption)) (h:=p_m (h:=p_y (q_f h4q) (h:=p_y q_l (h:=p_y (q_b (r:=by exact h1d q_o)) (h:=p_y (h0m rfl) (h:=p_z (h:=p_z (h:=p_z (h:=p_y (h5k rfl rfl) (h:=p_p (h:=h0d ?_))))))))))))) | (refine gR 12 (p_m (h:=q_e (q_L h2k) ?_)) <;> (try refine h0f ?_; (refine q_c 52 (c:=by apply hfl; exact c_9) (h:=?_); rintro _ _ ⟨rfl, rfl⟩; (try simp only [zzE, zzF]))) <;> (try refine h0d ?_)) | (refine gR 13 (p_a (h:=h0d ?_))))
    (refine h0v Tryz.results54 (.tmp rfl .nil) ?_)
    exact ⟨_, ⟨a', c', rfl, hts, rfl⟩, by intro w H; refine Sel.out ?_ H; (try simp only [zzC, zzN]); repeat (first | exact Sel.refl _ | (apply Sel.cons; exact h3n; (try simp only [zzE, zzF])) | apply Sel.drop)⟩
   ·by_cases hr2 : 4095 < nnu
    ·rw [if_pos ⟨hz, Or.inr hr2⟩]
     obtain ⟨e1, e2, e3⟩ := fw
     clear hz
     refine Fn1 Tryz.func54 Tryz.ntmps54 rfl rfl ?_
     repeat' (first | refine h0p ?_ | refine h0e ?_ | refine h1f ?_ | refine h2p ?_ | refine h0r ?_ | refine h1h ?_ | refine h0j rfl ?_ | refine h0h rfl ?_ | (refine gR 0 (p_a (h:=h0d ?_))) | (refine gR 1 (q_m ?_) <;> (try refine h0f ?_; (refine q_c 51 (c:=by apply hwd; exact h5z; exact h5z) (h:=?_); rintro _ _ ⟨a', c', rfl, hts, rfl⟩; (try simp only [zzE, zzF]))) <;> (try refine h0f ?_; (refine h0i (t:=166) rfl Tryz.zeroValue166 ?_; intro nb hnb; (try simp only [Value.cells]))) <;> (try refine h0f ?_; (refine q_W ?_)) <;> (try refine h0d ?_)) | (refine gR 2 (p_e (q_f h1m) (h:=p_e q_l (h:=h0d ?_)))) | (refine gR 3 (p_e (q_b (r:=by apply h0y; (focus (decide)))) (h:=p_a (h:=h0d ?_)))) | (refine gR 5 (p_e (q_b (r:=by apply h0y; (focus (decide)))) (h:=p_a (h:=h0d ?_)))) | (refine gR 7 (p_e (q_b (r:=by apply h0y; (focus (decide)))) (h:=p_a (h:=h0d ?_)))) | (refine gR 9 (p_e (q_b (r:=by exact h2l)) (h:=p_a (h:=h0d ?_)))) | (refine gR 10 (q_m ?_) <;> (try refine h0f ?_; (refine q_c 53 (c:=by apply htk; exact c_9; exact c_9; (with_reducible assumption)) (h:=?_); rintro _ _ ⟨a', c', rfl, hts, rfl⟩; (try simp only [zzE, zzF]))) <;> (try refine h0f ?_; (refine h0i (t:=166) rfl Tryz.zeroValue166 ?_; intro nb hnb; (try simp only [Value.cells]))) <;> (try refine h0f ?_; (refine q_W ?_)) <;> (try refine h0d ?_)) | (refine gR 11 (p_m (h:=p_n (h:=p_e (q_f h3r) (h:=q_e (q_L h3z) ?_)))) <;> (try refine q_e (by exact h0s (t:=25) (fun vs => (match vs with | [] => [Value.int .i64 0, Value.int .i64 0, Value.int .i64 0] | _ => [])) rfl (fun w => by kernel_rfl)) ?_; (try simp only [Value.cells]); (try simp only [zzC, zzN])) <;> (try refine p_e (by apply h1s (op:=.eql) (t:=25); exact rfl; exact rfl; kernel_rfl; (with_reducible assumption)) (h:=p_m (h:=p_y (q_f h4q) (h:=p_y q_l (h:=p_y (q_b (r:=by exact h1j q_o)) (h:=p_y (h0m rfl) (h:=p_y (q_f h4q) (h:=p_y q_l (h:=p_y (q_b (r:=by exact h1y q_o)) (h:=p_y (h5k rfl rfl) (h:=p_p (h:=h0d ?_))))))))))))) | (refine gR 12 (p_m (h:=q_e (q_L h2k) ?_)) <;> (try refine h0f ?_; (refine q_c 52 (c:=by apply hfl; exact c_9) (h:=?_); rintro _ _ ⟨rfl, rfl⟩; (try simp only [zzE, zzF]))) <;> (try refine h0d ?_)) | (refine gR 13 (p_a (h:=h0d ?_))))
     (refine h0v Tryz.results54 (.tmp rfl .nil) ?_)
     exact ⟨_, ⟨a', c', rfl, hts, rfl⟩, by intro w H; refine Sel.out ?_ H; (try simp only [zzC, zzN]); repeat (first | exact Sel.refl _ | (apply Sel.cons; exact h3n; (try simp only [zzE, zzF])) | apply Sel.drop)⟩
    ·rw [if_neg (fun h => h.2.elim hr hr2)]
     rw [IntWalk.i64_in (nnu : Int) (by omega)] at hrf ⊢
     clear hz
     refine Fn1 Tryz.func54 Tryz.ntmps54 rfl rfl ?_
     repeat' (first | refine h0p ?_ | refine h0e ?_ | refine h1f ?_ | refine h2p ?_ | refine h0r ?_ | refine h0u ?_ | refine h1h ?_ | refine h0j rfl ?_ | refine h0h rfl ?_ | (refine gR 0 (p_a (h:=h0d ?_))) | (refine gR 1 (q_m ?_) <;> (try refine h0f ?_; (refine q_c 51 (c:=by apply hwd; exact h5z; exact h5z) (h:=?_); rintro _ _ ⟨a', c', rfl, hts, rfl⟩; (try simp only [zzE, zzF]))) <;> (try refine h0f ?_; (refine h0i (t:=166) rfl Tryz.zeroValue166 ?_; intro nb hnb; (try simp only [Value.cells]))) <;> (try refine h0f ?_; (refine q_W ?_)) <;> (try refine h0d ?_)) | (refine gR 2 (p_e (q_f h1m) (h:=p_e q_l (h:=h0d ?_)))) | (refine gR 3 (p_e (q_b (r:=by apply h0y; (focus (decide)))) (h:=p_a (h:=h0d ?_)))) | (refine gR 5 (p_e (q_b (r:=by apply h0y; (focus (decide)))) (h:=p_a (h:=h0d ?_)))) | (refine gR 7 (p_e (q_b (r:=by apply h0y; (focus (decide)))) (h:=p_a (h:=h0d ?_)))) | (refine gR 9 (p_e (q_b (r:=by exact h2l)) (h:=p_a (h:=h0d ?_)))) | (refine gR 10 (q_m ?_) <;> (try refine h0f ?_; (refine q_c 53 (c:=by apply htk; exact c_9; exact c_9; (with_reducible assumption)) (h:=?_); rintro _ _ ⟨a', c', rfl, hts, rfl⟩; (try simp only [zzE, zzF]))) <;> (try refine h0f ?_; (refine h0i (t:=166) rfl Tryz.zeroValue166 ?_; intro nb hnb; (try simp only [Value.cells]))) <;> (try refine h0f ?_; (refine q_W ?_)) <;> (try refine h0d ?_)) | (refine gR 11 (p_m (h:=p_n (h:=p_e (q_f h3r) (h:=q_e (q_L h3z) ?_)))) <;> (try refine q_e (by exact h0s (t:=25) (fun vs => (match vs with | [] => [Value.int .i64 0, Value.int .i64 0, Value.int .i64 0] | _ => [])) rfl (fun w => by kernel_rfl)) ?_; (try simp only [Value.cells]); (try simp only [zzC, zzN])) <;> (try refine p_e (by apply h1s (op:=.eql) (t:=25); exact rfl; exact rfl; kernel_rfl; (with_reducible assumption)) (h:=p_m (h:=p_y (q_f h4q) (h:=p_y q_l (h:=p_y (q_b (r:=by exact h1j q_o)) (h:=p_y (h0m rfl) (h:=p_y (q_f h4q) (h:=p_y q_l (h:=p_y (q_b (r:=by exact h2f q_o)) (h:=p_y (h5k rfl rfl) (h:=p_p (h:=h0d ?_))))))))))))) | (refine gR 14 (p_e (q_f h4q) (h:=q_e q_l ?_)) <;> (try refine q_e (by apply h4l; exact rfl; (focus (apply h4r Tryz.underlying97 Tryz.underlying23; first | (refine IntWalk.i64_in _ ?_; omega) | (refine IntWalk.u8_in _ ?_; omega) | (refine IntWalk.u16_in _ ?_; omega) | (refine IntWalk.u32_in _ ?_; omega) | (refine IntWalk.u64_in _ ?_; omega) | (refine IntWalk.i32_in _ ?_; omega) | exact rfl))) ?_) <;> (try refine h0f ?_; (refine q_c 56 (c:=by apply hrf) (h:=?_); rintro _ _ ⟨rfl, rfl⟩; (try simp only [zzE, zzF]))) <;> (try refine p_a (h:=h0d ?_))))
     (refine h0v Tryz.results54 (.tmp rfl .nil) ?_)
     exact ⟨_, ⟨a', c', rfl, hts, rfl⟩, by intro w H; refine Sel.out ?_ H; (try simp only [zzC, zzN]); repeat (first | exact Sel.refl _ | (apply Sel.cons; exact h3n; (try simp only [zzE, zzF])) | apply Sel.drop)⟩
  ·rw [decide_eq_false hz] at hq
   rw [if_neg (fun h => hz h.1)]
   clear hz
   refine Fn1 Tryz.func54 Tryz.ntmps54 rfl rfl ?_
   repeat' (first | refine h0p ?_ | refine h0e ?_ | refine h1f ?_ | refine h2p ?_ | refine h0r ?_ | refine h0u ?_ | refine h1h ?_ | refine h0j rfl ?_ | refine h0h rfl ?_ | (refine gR 0 (p_a (h:=h0d ?_))) | (refine gR 1 (q_m ?_) <;> (try refine h0f ?_; (refine q_c 51 (c:=by apply hwd; exact h5z; exact h5z) (h:=?_); rintro _ _ ⟨a', c', rfl, hts, rfl⟩; (try simp only [zzE, zzF]))) <;> (try refine h0f ?_; (refine h0i (t:=166) rfl Tryz.zeroValue166 ?_; intro nb hnb; (try simp only [Value.cells]))) <;> (try refine h0f ?_; (refine q_W ?_)) <;> (try refine h0d ?_)) | (refine gR 2 (p_e (q_f h1m) (h:=p_e q_l (h:=h0d ?_)))) | (refine gR 3 (p_e (q_b (r:=by apply h0y; (focus (decide)))) (h:=p_a (h:=h0d ?_)))) | (refine gR 5 (p_e (q_b (r:=by apply h0y; (focus (decide)))) (h:=p_a (h:=h0d ?_)))) | (refine gR 7 (p_e (q_b (r:=by apply h0y; (focus (decide)))) (h:=p_a (h:=h0d ?_)))) | (refine gR 9 (p_e (q_b (r:=by exact h2l)) (h:=p_a (h:=h0d ?_)))) | (refine gR 10 (q_m ?_) <;> (try refine h0f ?_; (refine q_c 53 (c:=by apply htk; exact c_9; exact c_9; (with_reducible assumption)) (h:=?_); rintro _ _ ⟨a', c', rfl, hts, rfl⟩; (try simp only [zzE, zzF]))) <;> (try refine h0f ?_; (refine h0i (t:=166) rfl Tryz.zeroValue166 ?_; intro nb hnb; (try simp only [Value.cells]))) <;> (try refine h0f ?_; (refine q_W ?_)) <;> (try refine h0d ?_)) | (refine gR 11 (p_m (h:=p_n (h:=p_e (q_f h3r) (h:=q_e (q_L h3z) ?_)))) <;> (try refine q_e (by exact h0s (t:=25) (fun vs => (match vs with | [] => [Value.int .i64 0, Value.int .i64 0, Value.int .i64 0] | _ => [])) rfl (fun w => by kernel_rfl)) ?_; (try simp only [Value.cells]); (try simp only [zzC, zzN])) <;> (try refine p_e (by apply h1s (op:=.eql) (t:=25); exact rfl; exact rfl; kernel_rfl; (with_reducible assumption)) (h:=p_m (h:=p_z (h:=p_z (h:=p_z (h:=q_z ?_)))))) <;> (try refine h0f ?_; (refine h5h rfl rfl rfl ?_)) <;> (try refine h0f ?_; (refine h5h rfl rfl rfl ?_)) <;> (try refine h0f ?_; (refine h5h rfl rfl rfl ?_)) <;> (try refine p_z (h:=p_p (h:=h0d ?_)))) | (refine gR 14 (p_e (q_f h4q) (h:=q_e q_l ?_)) <;> (try refine q_e (by apply h4l; exact rfl; (focus (apply h4r Tryz.underlying97 Tryz.underlying23; first | (refine IntWalk.i64_in _ ?_; omega) | (refine IntWalk.u8_in _ ?_; omega) | (refine IntWalk.u16_in _ ?_; omega) | (refine IntWalk.u32_in _ ?_; omega) | (refine IntWalk.u64_in _ ?_; omega) | (refine IntWalk.i32_in _ ?_; omega) | exact rfl))) ?_) <;> (try refine h0f ?_; (refine q_c 56 (c:=by apply hrf) (h:=?_); rintro _ _ ⟨rfl, rfl⟩; (try simp only [zzE, zzF]))) <;> (try refine p_a (h:=h0d ?_))))
   (refine h0v Tryz.results54 (.tmp rfl .nil) ?_)
   exact ⟨_, ⟨a', c', rfl, hts, rfl⟩, by intro w H; refine Sel.out ?_ H; (try simp only [zzC, zzN]); repeat (first | exact Sel.refl _ | (apply Sel.cons; exact h3n; (try simp only [zzE, zzF])) | apply Sel.drop)⟩
 ·rw [if_neg k4]
  obtain ⟨o1, o2, o3, o4, o5, o6, o7, o8⟩ := o
  obtain ⟨tk, tx, nu, li, co⟩ := t
  dsimp only [Tk.cells] at *
  have n1 := text_ne k1
  have n2 := text_ne k2
  have n3 := text_ne k3
  have n4 := text_ne k4
  clear k1 k2 k3 k4
  generalize h2v (f1, f2, f3) _ 202 = fw at *
  obtain ⟨g1, g2, g3⟩ := fw
  refine Fn1 Tryz.func54 Tryz.ntmps54 rfl rfl ?_
  repeat' (first | refine h0p ?_ | refine h0e ?_ | refine h0x ?_ | refine h0r ?_ | refine h0u ?_ | refine h1h ?_ | refine h0h rfl ?_ | (refine gR 0 (p_a (h:=h0d ?_))) | (refine gR 1 (q_m ?_) <;> (try refine h0f ?_; (refine q_c 51 (c:=by apply hwd; exact h5z; exact h5z) (h:=?_); rintro _ _ ⟨a', c', rfl, hts, rfl⟩; (try simp only [zzE, zzF]))) <;> (try refine h0f ?_; (refine h0i (t:=166) rfl Tryz.zeroValue166 ?_; intro nb hnb; (try simp only [Value.cells]))) <;> (try refine h0f ?_; (refine q_W ?_)) <;> (try refine h0d ?_)) | (refine gR 2 (p_e (q_f h1m) (h:=p_e q_l (h:=h0d ?_)))) | (refine gR 3 (p_e (q_b (r:=by apply h0y; exact decide_eq_false (by assumption))) (h:=p_a (h:=h0d ?_)))) | (refine gR 5 (p_e (q_b (r:=by apply h0y; exact decide_eq_false (by assumption))) (h:=p_a (h:=h0d ?_)))) | (refine gR 7 (p_e (q_b (r:=by apply h0y; exact decide_eq_false (by assumption))) (h:=p_a (h:=h0d ?_)))) | (refine gR 9 (p_e (q_b (r:=by apply h0y; exact decide_eq_false (by assumption))) (h:=p_a (h:=h0d ?_)))) | (refine gR 15 (p_m (h:=q_e (q_L h2k) ?_)) <;> (try refine h0f ?_; (refine q_c 52 (c:=by apply hfl; exact c_9) (h:=?_); rintro _ _ ⟨rfl, rfl⟩; (try simp only [zzE, zzF]))) <;> (try refine h0d ?_)) | (refine gR 16 (p_a (h:=h0d ?_))))
  (refine h0v Tryz.results54 (.tmp rfl .nil) ?_)
  exact ⟨_, ⟨a', c', rfl, hts, rfl⟩, by intro w H; refine Sel.out ?_ H; (try simp only [zzC, zzN]); repeat (first | exact Sel.refl _ | (apply Sel.cons; exact h3n; (try simp only [zzE, zzF])) | apply Sel.drop)⟩
theorem rb_streq_q {P : Program} {t : TypeId} {x y : ByteArray} (h : x = y) : RBin P .eql t (.string x) (.string y) (.bool true) := by
 subst h; exact h2l
abbrev sgV : List Value := [.string ⟨#[]⟩, .string ⟨#[61, 61]⟩, .string ⟨#[33, 61]⟩, .string ⟨#[60]⟩, .string ⟨#[60, 61]⟩, .string ⟨#[62]⟩, .string ⟨#[62, 61]⟩]
theorem signs_c {S w0 L} : Fn Tryz.prog 89 #[] S w0 L fun v L' => v = .agg sgV.toArray ∧ L = L' := by
 refine Fn0 Tryz.func89 Tryz.ntmps89 rfl ?_
 repeat' (first | refine h0p ?_ | refine h0e ?_ | refine h1h ?_ | (refine gR 0 ?_ <;> (try refine h0f ?_; (refine h0i (t:=193) rfl Tryz.zeroValue193 ?_; intro nb hnb; (try simp only [Value.cells]))) <;> (try refine h0d ?_)) | (refine gR 1 ?_ <;> (try refine q_e (by exact h0s (t:=193) (fun vs => (match vs with | [(_, x0), (_, x1), (_, x2), (_, x3), (_, x4), (_, x5), (_, x6)] => [x0, x1, x2, x3, x4, x5, x6] | _ => [])) rfl (fun w => by kernel_rfl)) ?_; (try simp only [Value.cells]); (try simp only [zzC, zzN])) <;> (try refine h0f ?_; (refine q_W ?_)) <;> (try refine h0d ?_)))
 (apply h5j Tryz.results89; exact rfl; (focus (repeat (first | exact fd0 | (with_reducible assumption) | apply fdA | apply fdS))); kernel_rfl; kernel_rfl; exact sz_193; exact c_16)
 exact ⟨_, ⟨rfl, rfl⟩, by intro w H; refine H.sub ?_; (try simp only [zzC, zzN]); repeat (first | exact List.Sublist.refl _ | refine List.Sublist.cons _ ?_)⟩
theorem psign_c {S w0 L} (o : Nat) (h1 : 1 ≤ o) (h2 : o ≤ 7) : Fn Tryz.prog 61 #[.int .u8 (o : Nat)] S w0 L fun v L' => v = .string (mB8 (sgns.getD (o - 1) [])) ∧ L = L' := by
 by_cases h7 : o = 7
 ·subst h7
  refine Fn1 Tryz.func61 Tryz.ntmps61 rfl rfl ?_
  repeat' (first | refine h0p ?_ | refine h0e ?_ | refine h1f ?_ | refine h1h ?_ | refine h0j rfl ?_ | (refine gR 0 (p_a (h:=h0d ?_))) | (refine gR 1 (q_m ?_) <;> (try refine q_e (by exact q_b (r:=by refine h1i ?_; first | rfl | (with_reducible assumption) | (decide; done) | omega)) ?_) <;> (try refine h0d ?_)) | (refine gR 2 (p_a (h:=h0d ?_))))
  (refine h0v Tryz.results61 (.tmp rfl .nil) ?_)
  exact ⟨_, ⟨rfl, rfl⟩, by intro w H; refine H.sub ?_; (try simp only [zzC, zzN]); repeat (exact List.Sublist.refl _)⟩
 ·have hv : sgV.toArray.toList[((o : Nat) : Int).toNat]? = some (.string (mB8 (sgns.getD (o - 1) []))) := by
   rw [Int.toNat_natCast]
   obtain rfl | rfl | rfl | rfl | rfl | rfl : o = 1 ∨ o = 2 ∨ o = 3 ∨ o = 4 ∨ o = 5 ∨ o = 6 := by omega
   all_goals rfl
  generalize mB8 (sgns.getD (o - 1) []) = z at *
  refine Fn1 Tryz.func61 Tryz.ntmps61 rfl rfl ?_
  repeat' (first | refine h0p ?_ | refine h0e ?_ | refine h0u ?_ | refine h1h ?_ | refine h0h rfl ?_ | (refine gR 0 (p_a (h:=h0d ?_))) | (refine gR 1 (p_m (h:=p_e (q_b (r:=by exact h1o q_o)) (h:=h0d ?_)))) | (refine gR 3 (p_m (h:=p_e (q_b (r:=by exact h1j q_o)) (h:=p_m (h:=p_y (h0m rfl) (h:=p_y (q_b (r:=by exact h2f q_o)) (h:=p_p (h:=h0d ?_)))))))) | (refine gR 5 ?_ <;> (try refine h0f ?_; (refine q_c 89 (c:=by apply signs_c) (h:=?_); rintro _ _ ⟨rfl, rfl⟩; (try simp only [zzE, zzF]))) <;> (try refine p_m (h:=p_e (by apply h2n; exact rfl; exact rfl; (focus (apply r_ixv Tryz.underlying193; kernel_rfl; kernel_rfl; exact sz_9; omega; omega; (with_reducible assumption)))) (h:=p_a (h:=h0d ?_))))))
  (refine h0v Tryz.results61 (.tmp rfl .nil) ?_)
  exact ⟨_, ⟨rfl, rfl⟩, by intro w H; refine H.sub ?_; (try simp only [zzC, zzN]); repeat (exact List.Sublist.refl _)⟩
abbrev cdB (n : Nat) (c : Cnd) : Blk := ⟨true, n, .cells c.cells.toArray 99 (0, 0)⟩
abbrev tkBl (n : Nat) (t : Tk) : Blk := ⟨true, n, .cells t.cells.toArray 166 (0, 0)⟩
theorem argOf_some {t : List UInt8} {k : Nat} (h : argOf t = some k) : (mB8 t).size = 4 ∧ (mB8 t).extract 0 3 = ⟨#[97, 114, 103]⟩ ∧ ∃ d : UInt8, (mB8 t)[(3 : Int).toNat]? = some d ∧ 48 ≤ d.toNat ∧ d.toNat ≤ 53 ∧ k = d.toNat - 48 := by
 unfold argOf at h
 split at h
 ·rename_i hc
  obtain ⟨h1, h2, h3, h4⟩ := hc
  obtain rfl := Option.some.inj h
  refine ⟨by rw [h1t]; exact h1, ?_, t.getD 3 0, ?_, h3, h4, rfl⟩
  ·have := ext_mid (mB8 t) 0 3
   rw [h4g, List.drop_zero, h2] at this
   exact this
  ·have e : t = [t.getD 0 0, t.getD 1 0, t.getD 2 0, t.getD 3 0] := by
    match t, h1 with
    | [a, b, c, d], _ => rfl
   rw [e]; rfl
 ·cases h
theorem argOf_none {t : List UInt8} (h : argOf t = none) : ¬ (mB8 t).size = 4 ∨ (mB8 t).size = 4 ∧ (¬ (mB8 t).extract 0 3 = ⟨#[97, 114, 103]⟩ ∨ (mB8 t).extract 0 3 = ⟨#[97, 114, 103]⟩ ∧ ∃ d : UInt8, (mB8 t)[(3 : Int).toNat]? = some d ∧ (d.toNat < 48 ∨ 53 < d.toNat)) := by
 unfold argOf at h
 split at h
 ·cases h
 ·rename_i hc
  by_cases h1 : t.length = 4
  ·refine Or.inr ⟨by rw [h1t]; exact h1, ?_⟩
   have hx : (mB8 t).extract 0 3 = mB8 (t.take 3) := by
    have := ext_mid (mB8 t) 0 3
    rw [h4g, List.drop_zero] at this
    exact this
   by_cases h2 : t.take 3 = [97, 114, 103]
   ·refine Or.inr ⟨by rw [hx, h2]; rfl, t.getD 3 0, ?_, ?_⟩
    ·have e : t = [t.getD 0 0, t.getD 1 0, t.getD 2 0, t.getD 3 0] := by
      match t, h1 with
      | [a, b, c, d], _ => rfl
     rw [e]; rfl
    ·by_cases h3 : 48 ≤ (t.getD 3 0).toNat
     ·by_cases h4 : (t.getD 3 0).toNat ≤ 53
      ·exact absurd ⟨h1, h2, h3, h4⟩ hc
      ·exact Or.inr (by omega)
     ·exact Or.inl (by omega)
   ·exact Or.inl (fun h3 => h2 (by rw [hx] at h3; rw [← h4g (t.take 3), h3]; rfl))
  ·exact Or.inl (by rw [h1t]; exact h1)
theorem opU_le (t : List UInt8) (n : Nat) : opU t n ≤ n := by
 induction n with
 | zero => exact Nat.le_refl _
 | succ n ih =>
  unfold opU
  split
  ·exact Nat.le_refl _
  ·omega
theorem opU_sc (t : List UInt8) (n : Nat) : opU t (n + 1) = if sgns.getD n [] = t then n + 1 else opU t n := rfl
theorem mskF_ok {op : Nat} {s : PS} (h : ∀ t ∈ s.1, TkOk t) : (mskF op s).1 < 18446744073709551616 ∧ ∀ t ∈ (mskF op s).2.1, TkOk t := by
 unfold mskF
 split
 ·have h1 := h6f (k:=2) h
  have h2 := h6f (k:=4) h1.2
  exact ⟨h1.1.num, h2.2⟩
 ·exact ⟨Nat.zero_lt_succ _, h⟩
set_option maxHeartbeats 2000000 in
theorem cond_c {S w0 L} (b : Nat) (p : Value) (a : Option Addr) (c : Nat) (l : List Tk) (w : Wr) (o : O8) (x : Blk) (h : TkS x a c l) :
  Fn Tryz.prog 99 #[.pointer (some ⟨b, 0, none⟩)] S w0 (rdB b p a l.length c w o :: x :: L) fun v L' => ∃ a' c', v = .agg (cndF (l, w)).1.cells.toArray ∧ TkS x a' c' (cndF (l, w)).2.1 ∧ rdB b p a' (cndF (l, w)).2.1.length c' (cndF (l, w)).2.2 o :: x :: L = L' := by
 have hwd := fun (L : List Blk) (i j : Nat) h1 h2 => word_d (S:=S) (w0:=w0) (L:=L) (i:=i) (j:=j) (b:=b) (c:=c) (p:=p) (a:=a) (l:=l) (w:=w) (o:=o) (x:=x) h1 h2 h
 have hok0 := wordT_ok (s:=(l, w)) h.ok
 unfold cndF argW
 generalize h2g (l, w) = T at *
 obtain ⟨t, r, f1, f2, f3⟩ := T
 dsimp only at *
 clear h
 have hfl := fun (L : List Blk) (i : Nat) (a' : Option Addr) (c' : Nat) h1 => h5n (S:=S) (w0:=w0) (L:=L) (i:=i) (b:=b) (n:=r.length) (c:=c') (p:=p) (a:=a') (w:=(f1, f2, f3)) (o:=o) h1 t 202
 obtain ⟨o1, o2, o3, o4, o5, o6, o7, o8⟩ := o
 obtain ⟨tk, tx, nu, li, co⟩ := t
 dsimp only [Tk.cells] at *
 have hok1 := hok0.2
 clear hok0
 generalize h2v (f1, f2, f3) _ 202 = fw at *
 obtain ⟨e1, e2, e3⟩ := fw
 refine Fn1 Tryz.func99 Tryz.ntmps99 rfl rfl ?_
 repeat' (first | (refine h2h (id:=1) ?_) | refine h0p ?_ | refine h0e ?_ | (refine gR 0 ?_ <;> (try refine h0f ?_; (refine h0i (t:=99) rfl Tryz.zeroValue99 ?_; intro nb hnb; (try simp only [Value.cells]))) <;> (try refine h0d ?_)))
 refine ⟨?_⟩
 obtain ⟨nbR, rfl⟩ : ∃ x, x = nb := ⟨_, rfl⟩
 repeat' (first | (refine h2h (id:=2) ?_) | refine h0p ?_ | refine h0e ?_ | (refine gR 1 (q_m ?_) <;> (try refine h0f ?_; (refine q_c 51 (c:=by apply hwd; exact c_9; exact c_9) (h:=?_); rintro _ _ ⟨a1, c1, rfl, hts, rfl⟩; (try simp only [zzE, zzF]))) <;> (try refine h0f ?_; (refine h0i (t:=166) rfl Tryz.zeroValue166 ?_; intro nb hnb; (try simp only [Value.cells]))) <;> (try refine h0f ?_; (refine q_W ?_)) <;> (try refine h0d ?_)))
 refine ⟨?_⟩
 obtain ⟨nbT, rfl⟩ : ∃ x, x = nb := ⟨_, rfl⟩
 repeat' (first | (refine h2h (id:=3) ?_) | refine h0p ?_ | refine h0e ?_ | (refine gR 2 ?_ <;> (try refine h0f ?_; (refine h0i (t:=99) rfl Tryz.zeroValue99 ?_; intro nb hnb; (try simp only [Value.cells]))) <;> (try refine h0d ?_)))
 refine ⟨?_⟩
 obtain ⟨nbC, rfl⟩ : ∃ x, x = nb := ⟨_, rfl⟩
 refine h2z (γ:=Bool) (fun q => q = (argOf tx).isSome) (fun q => [(33, .bool q)]) [(0, _), (2, _), (3, _), (4, _)]
  (fun _ => cdB nbC ⟨0, 0, 0, 0⟩ :: tkBl nbT ⟨tk, tx, nu, li, co⟩ :: rdB b p a1 r.length c1 (f1, f2, f3) ⟨o1, o2, o3, o4, o5, o6, o7, o8⟩ :: x :: cdB nbR ⟨0, 0, 0, 0⟩ :: L) (.cons rfl (.cons rfl (.cons rfl (.cons rfl .nil)))) ?_ ?_
 ·cases ha : argOf tx with
  | some k =>
   obtain ⟨h1, h2, d, h3, h4, h5, -⟩ := argOf_some ha
   clear ha
   repeat' (first | refine h0t ?_ | (refine gR 3 (p_e (q_f h1m) (h:=p_e q_l (h:=q_e (h0g rfl (fun _ => BigFrame.builtin_len ..) (h0q Tryz.underlying9)) ?_))) <;> (try refine q_e (by exact q_b (r:=by refine h1i ?_; first | rfl | (with_reducible assumption) | (decide; done) | omega)) ?_) <;> (try refine p_m (h:=p_y (q_f h1m) (h:=p_y q_l (h:=p_y (by apply h4w; exact rfl; exact rfl; exact rfl; exact rfl; (focus (apply h5a Tryz.underlying9; (focus (apply bd_01; omega; omega; exact c_0)); exact rfl))) (h:=p_y (q_b (r:=by apply rb_streq_q; (with_reducible assumption))) (h:=p_p (h:=p_m (h:=p_y (q_f h1m) (h:=p_y q_l (h:=p_y (by apply h2n; exact rfl; exact rfl; (focus (apply h3h Tryz.underlying9; omega; (with_reducible assumption)))) (h:=p_y (q_b (r:=by exact rb_geq_t q_o)) (h:=p_p (h:=p_m (h:=p_y (q_f h1m) (h:=p_y q_l (h:=p_y (by apply h2n; exact rfl; exact rfl; (focus (apply h3h Tryz.underlying9; omega; (with_reducible assumption)))) (h:=p_y (q_b (r:=by exact rb_leq_t q_o)) (h:=p_p (h:=h0d ?_)))))))))))))))))))))
   exact h0w true rfl (by (focus (repeat (first | exact Sub.nil | refine Sub.cons rfl ?_)))) c_27
  | none =>
   rcases argOf_none ha with h1 | ⟨h1, h2 | ⟨h2, d, h3, h4 | h4⟩⟩
   all_goals clear ha
   ·repeat' (first | refine h0t ?_ | (refine gR 3 (p_e (q_f h1m) (h:=p_e q_l (h:=p_e (h0g rfl (fun _ => BigFrame.builtin_len ..) (h0q Tryz.underlying9)) (h:=p_e (q_b (r:=by exact h1o q_o)) (h:=p_m (h:=p_z (h:=p_z (h:=p_z (h:=p_z (h:=p_p (h:=p_m (h:=p_z (h:=p_z (h:=p_z (h:=p_z (h:=p_p (h:=p_m (h:=p_z (h:=p_z (h:=p_z (h:=p_z (h:=p_p (h:=h0d ?_)))))))))))))))))))))))))
    exact h0w false rfl (by (focus (repeat (first | exact Sub.nil | refine Sub.cons rfl ?_)))) c_27
   ·repeat' (first | refine h0t ?_ | (refine gR 3 (p_e (q_f h1m) (h:=p_e q_l (h:=q_e (h0g rfl (fun _ => BigFrame.builtin_len ..) (h0q Tryz.underlying9)) ?_))) <;> (try refine q_e (by exact q_b (r:=by refine h1i ?_; first | rfl | (with_reducible assumption) | (decide; done) | omega)) ?_) <;> (try refine p_m (h:=p_y (q_f h1m) (h:=p_y q_l (h:=p_y (by apply h4w; exact rfl; exact rfl; exact rfl; exact rfl; (focus (apply h5a Tryz.underlying9; (focus (apply bd_01; omega; omega; exact c_0)); exact rfl))) (h:=p_y (q_b (r:=by apply h0y; exact decide_eq_false (by assumption))) (h:=p_p (h:=p_m (h:=p_z (h:=p_z (h:=p_z (h:=p_z (h:=p_p (h:=p_m (h:=p_z (h:=p_z (h:=p_z (h:=p_z (h:=p_p (h:=h0d ?_)))))))))))))))))))))
    exact h0w false rfl (by (focus (repeat (first | exact Sub.nil | refine Sub.cons rfl ?_)))) c_27
   ·repeat' (first | refine h0t ?_ | (refine gR 3 (p_e (q_f h1m) (h:=p_e q_l (h:=q_e (h0g rfl (fun _ => BigFrame.builtin_len ..) (h0q Tryz.underlying9)) ?_))) <;> (try refine q_e (by exact q_b (r:=by refine h1i ?_; first | rfl | (with_reducible assumption) | (decide; done) | omega)) ?_) <;> (try refine p_m (h:=p_y (q_f h1m) (h:=p_y q_l (h:=p_y (by apply h4w; exact rfl; exact rfl; exact rfl; exact rfl; (focus (apply h5a Tryz.underlying9; (focus (apply bd_01; omega; omega; exact c_0)); exact rfl))) (h:=p_y (q_b (r:=by apply rb_streq_q; (with_reducible assumption))) (h:=p_p (h:=p_m (h:=p_y (q_f h1m) (h:=p_y q_l (h:=p_y (by apply h2n; exact rfl; exact rfl; (focus (apply h3h Tryz.underlying9; omega; (with_reducible assumption)))) (h:=p_y (q_b (r:=by exact rb_geq_f q_o)) (h:=p_p (h:=p_m (h:=p_z (h:=p_z (h:=p_z (h:=p_z (h:=p_p (h:=h0d ?_)))))))))))))))))))))
    exact h0w false rfl (by (focus (repeat (first | exact Sub.nil | refine Sub.cons rfl ?_)))) c_27
   ·repeat' (first | refine h0t ?_ | (refine gR 3 (p_e (q_f h1m) (h:=p_e q_l (h:=q_e (h0g rfl (fun _ => BigFrame.builtin_len ..) (h0q Tryz.underlying9)) ?_))) <;> (try refine q_e (by exact q_b (r:=by refine h1i ?_; first | rfl | (with_reducible assumption) | (decide; done) | omega)) ?_) <;> (try refine p_m (h:=p_y (q_f h1m) (h:=p_y q_l (h:=p_y (by apply h4w; exact rfl; exact rfl; exact rfl; exact rfl; (focus (apply h5a Tryz.underlying9; (focus (apply bd_01; omega; omega; exact c_0)); exact rfl))) (h:=p_y (q_b (r:=by apply rb_streq_q; (with_reducible assumption))) (h:=p_p (h:=p_m (h:=p_y (q_f h1m) (h:=p_y q_l (h:=p_y (by apply h2n; exact rfl; exact rfl; (focus (apply h3h Tryz.underlying9; omega; (with_reducible assumption)))) (h:=p_y (q_b (r:=by exact rb_geq_t q_o)) (h:=p_p (h:=p_m (h:=p_y (q_f h1m) (h:=p_y q_l (h:=p_y (by apply h2n; exact rfl; exact rfl; (focus (apply h3h Tryz.underlying9; omega; (with_reducible assumption)))) (h:=p_y (q_b (r:=by exact rb_leq_f q_o)) (h:=p_p (h:=h0d ?_)))))))))))))))))))))
    exact h0w false rfl (by (focus (repeat (first | exact Sub.nil | refine Sub.cons rfl ?_)))) c_27
 rintro q hB
 simp only [List.cons_append, List.nil_append]
 refine h2z (γ:=Unit) (fun _ => True) (fun _ => []) [(0, _), (2, _), (4, _)]
  (fun _ => cdB nbC ⟨(argOf tx).getD 0, 0, 0, 0⟩ :: rdB b p a1 r.length c1 (if (argOf tx).isSome then (f1, f2, f3) else (e1, e2, e3)) ⟨o1, o2, o3, o4, o5, o6, o7, o8⟩ :: x :: cdB nbR ⟨0, 0, 0, 0⟩ :: L) (.cons rfl (.cons rfl (.cons rfl .nil))) ?_ ?_
 ·cases ha : argOf tx with
  | some k =>
   obtain ⟨-, -, d, h3, h4, h5, rfl⟩ := argOf_some ha
   have hd : cdB nbC ⟨d.toNat - 48, 0, 0, 0⟩ = ⟨true, nbC, .cells #[.int .i64 ((d.toNat : Int) - 48), .int .u8 0, .int .u64 0, .int .u64 0] 99 (0, 0)⟩ := by
    have e : ((d.toNat - 48 : Nat) : Int) = (d.toNat : Int) - 48 := by omega
    show (⟨true, nbC, .cells #[.int .i64 ((d.toNat - 48 : Nat) : Int), .int .u8 0, .int .u64 0, .int .u64 0] 99 (0, 0)⟩ : Blk) = _
    rw [e]
   rw [ha] at hB
   obtain rfl : q = true := hB
   clear ha
   rw [Option.getD_some, Option.isSome_some, if_pos rfl, hd]
   clear hd
   repeat' (first | refine h0t ?_ | refine h0j rfl ?_ | (refine gR 4 (p_e (q_f h1m) (h:=p_e q_l (h:=q_e (by apply h2n; exact rfl; exact rfl; (focus (apply h3h Tryz.underlying9; omega; (with_reducible assumption)))) ?_))) <;> (try refine q_e (q_b (r:=by apply rb_sub; exact c_5; (focus (refine IntWalk.u8_in _ ?_; omega)))) ?_) <;> (try refine q_e (by apply h4l; exact rfl; (focus (apply h4r Tryz.underlying5 Tryz.underlying3; first | (refine IntWalk.i64_in _ ?_; omega) | (refine IntWalk.u8_in _ ?_; omega) | (refine IntWalk.u16_in _ ?_; omega) | (refine IntWalk.u32_in _ ?_; omega) | (refine IntWalk.u64_in _ ?_; omega) | (refine IntWalk.i32_in _ ?_; omega) | exact rfl))) ?_) <;> (try refine q_e (q_f fo_99_0) ?_) <;> (try refine h0f ?_; (refine q_S ?_)) <;> (try refine h0d ?_)))
   exact h0w () trivial (by (focus (repeat (first | exact Sub.nil | refine Sub.cons rfl ?_)))) c_22
  | none =>
   rw [ha] at hB
   obtain rfl : q = false := hB
   clear ha
   rw [Option.getD_none, Option.isSome_none, if_neg Bool.false_ne_true]
   repeat' (first | refine h0t ?_ | refine h0h rfl ?_ | (refine gR 5 (p_m (h:=q_e (q_L h2k) ?_)) <;> (try refine h0f ?_; (refine q_c 52 (c:=by apply hfl; exact c_9) (h:=?_); rintro _ _ ⟨rfl, rfl⟩; (try simp only [zzE, zzF]))) <;> (try refine h0d ?_)))
   exact h0w () trivial (by (focus (repeat (first | exact Sub.nil | refine Sub.cons rfl ?_)))) c_22
 clear hfl hB q hwd
 rintro - -
 simp only [List.cons_append, List.nil_append]
 generalize (argOf tx).getD 0 = ag at *
 generalize (if (argOf tx).isSome then (f1, f2, f3) else (e1, e2, e3)) = fz at *
 clear f1 f2 f3 e1 e2 e3 tk tx nu li co
 unfold sgnS opOf
 have htk4 := fun (L : List Blk) (i j : Nat) (a : Option Addr) (c : Nat) h1 h2 h => take_d (S:=S) (w0:=w0) (L:=L) 4 (by decide) (i:=i) (j:=j) (b:=b) (c:=c) (p:=p) (a:=a) (l:=r) (w:=fz) (o:=⟨o1, o2, o3, o4, o5, o6, o7, o8⟩) (x:=x) h1 h2 h
 have hok2 := (h6f (k:=4) (s:=(r, fz)) hok1).2
 clear hok1
 generalize h0z 4 (r, fz) = T at *
 obtain ⟨f1, f2, f3⟩ := fz
 obtain ⟨⟨sk, sx, sn, sl, sc⟩, r2, g1, g2, g3⟩ := T
 dsimp only [Tk.cells] at *
 repeat' (first | (refine h2h (id:=7) ?_) | refine h0p ?_ | refine h0e ?_ | (refine gR 6 (q_m ?_) <;> (try refine h0f ?_; (refine q_c 53 (c:=by apply htk4; exact c_9; exact c_9; (with_reducible assumption)) (h:=?_); rintro _ _ ⟨a2, c2, rfl, hts2, rfl⟩; (try simp only [zzE, zzF]))) <;> (try refine h0f ?_; (refine h0i (t:=166) rfl Tryz.zeroValue166 ?_; intro nb hnb; (try simp only [Value.cells]))) <;> (try refine h0f ?_; (refine q_W ?_)) <;> (try refine h0d ?_)))
 refine ⟨?_⟩
 obtain ⟨nbS, rfl⟩ : ∃ x, x = nb := ⟨_, rfl⟩
 clear htk4 hts
 repeat' (first | (refine h2r (id:=0) ?_) | refine h0e ?_ | (refine gR 7 (p_a (h:=h0d ?_))))
 refine ⟨?_⟩
 refine h0r ?_
 refine h2s (γ:=Nat) (fun k => k ≤ 7) (fun k => 7 - k) (fun k => [(6, .int .u8 ((k + 1 : Nat) : Int))]) [(0, _), (2, _), (4, _), (5, _)]
  (fun k => tkBl nbS ⟨sk, sx, sn, sl, sc⟩ :: cdB nbC ⟨ag, opU sx k, 0, 0⟩ :: rdB b p a2 r2.length c2 (g1, g2, g3) ⟨o1, o2, o3, o4, o5, o6, o7, o8⟩ :: x :: cdB nbR ⟨0, 0, 0, 0⟩ :: L)
  0 (.cons rfl (.cons rfl (.cons rfl (.cons rfl .nil)))) (Nat.zero_le _) (by (focus (repeat (first | exact Sub.nil | refine Sub.cons rfl ?_)))) c_23 ?_
 rintro k (hk : k ≤ 7)
 simp only [List.cons_append, List.nil_append]
 by_cases hlt : k < 7
 ·have hsg := fun (L : List Blk) => psign_c (S:=S) (w0:=w0) (L:=L) (k + 1) (by omega) (by omega)
  rw [Nat.add_sub_cancel] at hsg
  have hu := opU_sc sx k
  have hop := opU_le sx k
  by_cases hs : sgns.getD k [] = sx
  ·rw [if_pos hs] at hu
   have he : mB8 (sgns.getD k []) = mB8 sx := by rw [hs]
   clear hs
   generalize sgns.getD k [] = z at *
   repeat' (first | refine h0p ?_ | refine h0e ?_ | refine h0t ?_ | refine h0x ?_ | refine h0r ?_ | refine h0u ?_ | refine h0j rfl ?_ | (refine gR 8 (p_m (h:=p_e (q_b (r:=by exact rb_leq_t q_o)) (h:=h0d ?_)))) | ((refine h2q (id:=10) (m:=5) (by kernel_rfl) rfl (q_u 0 (x:=by exact h0m rfl) (h:=q_u 2 (x:=by exact q_f h1m) (h:=q_u 3 (x:=by exact q_l) (h:=?_))))) <;> (try refine q_r 1 ?_; (refine q_c 61 (c:=by apply hsg) (h:=?_); rintro _ _ ⟨rfl, rfl⟩; (try simp only [zzE, zzF])); refine h1g (fun _ H => H) ?_) <;> (try refine q_u 4 (x:=by exact q_b (r:=by apply rb_streq_q; (with_reducible assumption))) (h:=h1e (by kernel_rfl) ?_))) | (refine gR 11 (p_m (h:=q_e (q_f fo_99_1) ?_)) <;> (try refine h0f ?_; (refine q_S ?_)) <;> (try refine h0d ?_)) | (refine gR 9 (q_m ?_) <;> (try refine q_e (q_b (r:=by apply h1r; exact c_5; (focus (refine IntWalk.u8_in _ ?_; omega)))) ?_) <;> (try refine p_a (h:=h0d ?_))))
   refine h0w (k + 1) ⟨by show k + 1 ≤ 7; omega, by show 7 - (k + 1) < 7 - k; omega⟩ (by (focus (repeat (first | exact Sub.nil | refine Sub.cons rfl ?_)))) ?_
   rw [hu]
   intro w H; refine Sel.out ?_ H; (try simp only [zzC, zzN]); repeat (exact Sel.refl _)
  ·rw [if_neg hs] at hu
   have he := text_ne hs
   clear hs
   generalize sgns.getD k [] = z at *
   repeat' (first | refine h0p ?_ | refine h0e ?_ | refine h0t ?_ | refine h0x ?_ | refine h0r ?_ | refine h0u ?_ | refine h0j rfl ?_ | refine h0h rfl ?_ | (refine gR 8 (p_m (h:=p_e (q_b (r:=by exact rb_leq_t q_o)) (h:=h0d ?_)))) | ((refine h2q (id:=10) (m:=5) (by kernel_rfl) rfl (q_u 0 (x:=by exact h0m rfl) (h:=q_u 2 (x:=by exact q_f h1m) (h:=q_u 3 (x:=by exact q_l) (h:=?_))))) <;> (try refine q_r 1 ?_; (refine q_c 61 (c:=by apply hsg) (h:=?_); rintro _ _ ⟨rfl, rfl⟩; (try simp only [zzE, zzF])); refine h1g (fun _ H => H) ?_) <;> (try refine q_u 4 (x:=by exact q_b (r:=by apply h0y; exact decide_eq_false (by assumption))) (h:=h1e (by kernel_rfl) ?_))) | (refine gR 9 (q_m ?_) <;> (try refine q_e (q_b (r:=by apply h1r; exact c_5; (focus (refine IntWalk.u8_in _ ?_; omega)))) ?_) <;> (try refine p_a (h:=h0d ?_))))
   refine h0w (k + 1) ⟨by show k + 1 ≤ 7; omega, by show 7 - (k + 1) < 7 - k; omega⟩ (by (focus (repeat (first | exact Sub.nil | refine Sub.cons rfl ?_)))) ?_
   rw [hu]
   intro w H; refine Sel.out ?_ H; (try simp only [zzC, zzN]); repeat (exact Sel.refl _)
 obtain rfl : k = 7 := by omega
 clear hlt hk
 have hop := opU_le sx 7
 generalize opU sx 7 = op at *
 repeat' (first | (refine G_markc (t:=58) ?_) | refine h0p ?_ | refine h0e ?_ | refine h1u ?_ | refine h1n ?_ | refine h1v ?_ | refine h2o ?_ | refine h0h rfl ?_ | (refine gR 8 (p_m (h:=p_e (q_b (r:=by exact rb_leq_f q_o)) (h:=h0d ?_)))) | (refine gR 12 (p_e (q_f fo_99_1) (h:=p_e q_l (h:=p_e (q_b (r:=by exact rb_eql)) (h:=h0d ?_))))))
 refine ⟨?_⟩
 dsimp only
 have hok5 := mskF_ok (op:=op) (s:=(r2, g1, g2, g3)) hok2
 refine h2z (γ:=Option Addr × Nat) (fun q => TkS x q.1 q.2 (mskF op (r2, g1, g2, g3)).2.1) (fun _ => []) [(0, _), (2, _), (4, _)]
  (fun q => cdB nbC ⟨ag, op, (mskF op (r2, g1, g2, g3)).1, 0⟩ :: rdB b p q.1 (mskF op (r2, g1, g2, g3)).2.1.length q.2 (mskF op (r2, g1, g2, g3)).2.2 ⟨o1, o2, o3, o4, o5, o6, o7, o8⟩ :: x :: cdB nbR ⟨0, 0, 0, 0⟩ :: L) (.cons rfl (.cons rfl (.cons rfl .nil))) ?_ ?_
 ·by_cases h7 : op = 7
  ·rw [decide_eq_true (show (op : Int) = 7 by omega)]
   have em : mskF op (r2, g1, g2, g3) = ((h0z 2 (r2, g1, g2, g3)).1.num, ((h0z 4 (h0z 2 (r2, g1, g2, g3)).2).2.1, if (h0z 4 (h0z 2 (r2, g1, g2, g3)).2).1.text ≠ [61, 61] then h2v (h0z 4 (h0z 2 (r2, g1, g2, g3)).2).2.2 (h0z 4 (h0z 2 (r2, g1, g2, g3)).2).1 203 else (h0z 4 (h0z 2 (r2, g1, g2, g3)).2).2.2)) := by
    unfold mskF; rw [if_pos h7]
   rw [em]
   clear em hok5
   have htk2 := fun (L : List Blk) (i j : Nat) (a : Option Addr) (c : Nat) h1 h2 h => take_d (S:=S) (w0:=w0) (L:=L) 2 (by decide) (i:=i) (j:=j) (b:=b) (c:=c) (p:=p) (a:=a) (l:=r2) (w:=(g1, g2, g3)) (o:=⟨o1, o2, o3, o4, o5, o6, o7, o8⟩) (x:=x) h1 h2 h
   have hok3 := (h6f (k:=2) (s:=(r2, g1, g2, g3)) hok2).2
   generalize h0z 2 (r2, g1, g2, g3) = T at *
   obtain ⟨⟨mk, mx, mn, ml, mc⟩, r3, i1, i2, i3⟩ := T
   dsimp only [Tk.cells] at *
   have htk4 := fun (L : List Blk) (i j : Nat) (a : Option Addr) (c : Nat) h1 h2 h => take_d (S:=S) (w0:=w0) (L:=L) 4 (by decide) (i:=i) (j:=j) (b:=b) (c:=c) (p:=p) (a:=a) (l:=r3) (w:=(i1, i2, i3)) (o:=⟨o1, o2, o3, o4, o5, o6, o7, o8⟩) (x:=x) h1 h2 h
   generalize h0z 4 (r3, i1, i2, i3) = T at *
   obtain ⟨⟨nk, nx, nn, nl, nc⟩, r4, j1, j2, j3⟩ := T
   dsimp only [Tk.cells] at *
   have hfl := fun (L : List Blk) (i : Nat) (a' : Option Addr) (c' : Nat) h1 => h5n (S:=S) (w0:=w0) (L:=L) (i:=i) (b:=b) (n:=r4.length) (c:=c') (p:=p) (a:=a') (w:=(j1, j2, j3)) (o:=⟨o1, o2, o3, o4, o5, o6, o7, o8⟩) h1 ⟨nk, nx, nn, nl, nc⟩ 203
   dsimp only [Tk.cells] at hfl
   clear hok2 hok3
   by_cases hx : nx = [61, 61]
   ·rw [if_neg (fun h => h hx)]
    subst hx
    clear hfl
    repeat' (first | refine h0p ?_ | refine h0e ?_ | refine h0t ?_ | refine h0u ?_ | refine h0j rfl ?_ | refine h0h rfl ?_ | (refine gR 13 (q_m ?_) <;> (try refine h0f ?_; (refine q_c 53 (c:=by apply htk2; exact c_9; exact c_9; (with_reducible assumption)) (h:=?_); rintro _ _ ⟨a3, c3, rfl, hts3, rfl⟩; (try simp only [zzE, zzF]))) <;> (try refine h0f ?_; (refine h0i (t:=166) rfl Tryz.zeroValue166 ?_; intro nb hnb; (try simp only [Value.cells]))) <;> (try refine h0f ?_; (refine q_W ?_)) <;> (try refine h0d ?_)) | (refine gR 14 (p_e (q_f h4q) (h:=p_e q_l (h:=q_e (q_f fo_99_2) ?_))) <;> (try refine h0f ?_; (refine q_S ?_)) <;> (try refine h0d ?_)) | (refine gR 15 (q_m ?_) <;> (try refine h0f ?_; (refine q_c 53 (c:=by apply htk4; exact c_9; exact c_9; (with_reducible assumption)) (h:=?_); rintro _ _ ⟨a4, c4, rfl, hts4, rfl⟩; (try simp only [zzE, zzF]))) <;> (try refine h0f ?_; (refine h0i (t:=166) rfl Tryz.zeroValue166 ?_; intro nb hnb; (try simp only [Value.cells]))) <;> (try refine h0f ?_; (refine q_W ?_)) <;> (try refine h0d ?_)) | (refine gR 16 (p_e (q_f h1m) (h:=p_e q_l (h:=p_e (q_b (r:=by exact rb_strne_s)) (h:=h0d ?_))))))
    exact h0w (a4, c4) hts4 (by (focus (repeat (first | exact Sub.nil | refine Sub.cons rfl ?_)))) c_22
   ·rw [if_pos hx]
    have hn : ¬ mB8 nx = ⟨#[61, 61]⟩ := text_ne hx
    generalize h2v (j1, j2, j3) _ 203 = fw at *
    obtain ⟨e1, e2, e3⟩ := fw
    clear hx
    repeat' (first | refine h0p ?_ | refine h0e ?_ | refine h0t ?_ | refine h0j rfl ?_ | (refine gR 13 (q_m ?_) <;> (try refine h0f ?_; (refine q_c 53 (c:=by apply htk2; exact c_9; exact c_9; (with_reducible assumption)) (h:=?_); rintro _ _ ⟨a3, c3, rfl, hts3, rfl⟩; (try simp only [zzE, zzF]))) <;> (try refine h0f ?_; (refine h0i (t:=166) rfl Tryz.zeroValue166 ?_; intro nb hnb; (try simp only [Value.cells]))) <;> (try refine h0f ?_; (refine q_W ?_)) <;> (try refine h0d ?_)) | (refine gR 14 (p_e (q_f h4q) (h:=p_e q_l (h:=q_e (q_f fo_99_2) ?_))) <;> (try refine h0f ?_; (refine q_S ?_)) <;> (try refine h0d ?_)) | (refine gR 15 (q_m ?_) <;> (try refine h0f ?_; (refine q_c 53 (c:=by apply htk4; exact c_9; exact c_9; (with_reducible assumption)) (h:=?_); rintro _ _ ⟨a4, c4, rfl, hts4, rfl⟩; (try simp only [zzE, zzF]))) <;> (try refine h0f ?_; (refine h0i (t:=166) rfl Tryz.zeroValue166 ?_; intro nb hnb; (try simp only [Value.cells]))) <;> (try refine h0f ?_; (refine q_W ?_)) <;> (try refine h0d ?_)) | (refine gR 16 (p_e (q_f h1m) (h:=p_e q_l (h:=p_e (q_b (r:=by apply rb_strne_h; (with_reducible assumption))) (h:=h0d ?_))))) | (refine gR 17 (p_m (h:=q_e (q_L h2k) ?_)) <;> (try refine h0f ?_; (refine q_c 52 (c:=by apply hfl; exact c_9) (h:=?_); rintro _ _ ⟨rfl, rfl⟩; (try simp only [zzE, zzF]))) <;> (try refine h0d ?_)))
    exact h0w (a4, c4) hts4 (by (focus (repeat (first | exact Sub.nil | refine Sub.cons rfl ?_)))) c_22
  ·rw [decide_eq_false (show ¬ (op : Int) = 7 by omega)]
   have em : mskF op (r2, g1, g2, g3) = (0, (r2, g1, g2, g3)) := by unfold mskF; rw [if_neg h7]
   rw [em]
   clear em hok5
   repeat' (first | refine h0t ?_ | refine h0u ?_ | refine h0h rfl ?_)
   exact h0w (a2, c2) hts2 (by (focus (repeat (first | exact Sub.nil | refine Sub.cons rfl ?_)))) c_22
 clear hts2
 generalize mskF op (r2, g1, g2, g3) = M at *
 obtain ⟨mask, r5, m1, m2, m3⟩ := M
 rintro ⟨a5, c5⟩ ht5
 dsimp only at *
 simp only [List.cons_append, List.nil_append]
 obtain ⟨hmk, hok6⟩ := hok5
 unfold valF
 have htk2 := fun (L : List Blk) (i j : Nat) (a : Option Addr) (c : Nat) h1 h2 h => take_d (S:=S) (w0:=w0) (L:=L) 2 (by decide) (i:=i) (j:=j) (b:=b) (c:=c) (p:=p) (a:=a) (l:=r5) (w:=(m1, m2, m3)) (o:=⟨o1, o2, o3, o4, o5, o6, o7, o8⟩) (x:=x) h1 h2 h
 have hvn := (h6f (k:=2) (s:=(r5, m1, m2, m3)) hok6).1.num
 clear hok2 hok6
 generalize h0z 2 (r5, m1, m2, m3) = T at *
 obtain ⟨⟨vk, vx, vn, vl, vc⟩, r6, v1, v2, v3⟩ := T
 dsimp only [Tk.cells] at *
 have hfl := fun (L : List Blk) (i : Nat) (a' : Option Addr) (c' : Nat) h1 => h5n (S:=S) (w0:=w0) (L:=L) (i:=i) (b:=b) (n:=r6.length) (c:=c') (p:=p) (a:=a') (w:=(v1, v2, v3)) (o:=⟨o1, o2, o3, o4, o5, o6, o7, o8⟩) h1 ⟨vk, vx, vn, vl, vc⟩ 204
 dsimp only [Tk.cells] at hfl
 generalize h2v (v1, v2, v3) _ 204 = fw at *
 obtain ⟨e1, e2, e3⟩ := fw
 by_cases h7 : op = 7
 ·by_cases hm : mask = 0
  ·rw [if_pos ⟨h7, Or.inl hm⟩]
   repeat' (first | refine h0p ?_ | refine h0e ?_ | refine h1h ?_ | refine h0j rfl ?_ | (refine gR 18 (q_m ?_) <;> (try refine h0f ?_; (refine q_c 53 (c:=by apply htk2; exact c_9; exact c_9; (with_reducible assumption)) (h:=?_); rintro _ _ ⟨a6, c6, rfl, ht6, rfl⟩; (try simp only [zzE, zzF]))) <;> (try refine h0f ?_; (refine h0i (t:=166) rfl Tryz.zeroValue166 ?_; intro nb hnb; (try simp only [Value.cells]))) <;> (try refine h0f ?_; (refine q_W ?_)) <;> (try refine h0d ?_)) | (refine gR 19 (p_e (q_f h4q) (h:=p_e q_l (h:=q_e (q_f fo_99_3) ?_))) <;> (try refine h0f ?_; (refine q_S ?_)) <;> (try refine h0d ?_)) | (refine gR 20 (p_e (q_f fo_99_1) (h:=q_e q_l ?_)) <;> (try refine q_e (by exact q_b (r:=by refine h1i ?_; first | rfl | (with_reducible assumption) | (decide; done) | omega)) ?_) <;> (try refine p_m (h:=p_y (q_f fo_99_2) (h:=q_y q_l ?_))) <;> (try refine q_y (by exact q_b (r:=by refine h1i ?_; first | rfl | (with_reducible assumption) | (decide; done) | omega)) ?_) <;> (try refine p_y (h0m rfl) (h:=p_z (h:=p_z (h:=p_z (h:=p_z (h:=p_z (h:=p_z (h:=p_y (h5k rfl rfl) (h:=p_p (h:=h0d ?_))))))))))) | (refine gR 21 (p_m (h:=q_e (q_L h2k) ?_)) <;> (try refine h0f ?_; (refine q_c 52 (c:=by apply hfl; exact c_9) (h:=?_); rintro _ _ ⟨rfl, rfl⟩; (try simp only [zzE, zzF]))) <;> (try refine h0d ?_)) | (refine gR 22 (q_e (q_L sz_99) ?_) <;> (try refine h0f ?_; (refine q_W ?_)) <;> (try refine h0d ?_)))
   (apply h5j Tryz.results99; exact rfl; (focus (repeat (first | exact fd0 | (with_reducible assumption) | apply fdA | apply fdS))); kernel_rfl; kernel_rfl; exact sz_99; exact c_16)
   exact ⟨_, ⟨a6, c6, rfl, ht6, rfl⟩, by intro w H; refine Sel.out ?_ H; (try simp only [zzC, zzN]); repeat (first | exact Sel.refl _ | (apply Sel.cons; exact h3n; (try simp only [zzE, zzF])) | apply Sel.drop)⟩
  ·by_cases hv : h6b (vn : Int) (mask : Int) = 0
   ·rw [if_neg (fun h => h.2.elim hm (fun h2 => h2 hv))]
    repeat' (first | refine h0p ?_ | refine h0e ?_ | refine h0u ?_ | refine h1h ?_ | refine h0h rfl ?_ | (refine gR 18 (q_m ?_) <;> (try refine h0f ?_; (refine q_c 53 (c:=by apply htk2; exact c_9; exact c_9; (with_reducible assumption)) (h:=?_); rintro _ _ ⟨a6, c6, rfl, ht6, rfl⟩; (try simp only [zzE, zzF]))) <;> (try refine h0f ?_; (refine h0i (t:=166) rfl Tryz.zeroValue166 ?_; intro nb hnb; (try simp only [Value.cells]))) <;> (try refine h0f ?_; (refine q_W ?_)) <;> (try refine h0d ?_)) | (refine gR 19 (p_e (q_f h4q) (h:=p_e q_l (h:=q_e (q_f fo_99_3) ?_))) <;> (try refine h0f ?_; (refine q_S ?_)) <;> (try refine h0d ?_)) | (refine gR 20 (p_e (q_f fo_99_1) (h:=q_e q_l ?_)) <;> (try refine q_e (by exact q_b (r:=by refine h1i ?_; first | rfl | (with_reducible assumption) | (decide; done) | omega)) ?_) <;> (try refine p_m (h:=p_y (q_f fo_99_2) (h:=p_y q_l (h:=p_y (q_b (r:=by exact h1o q_o)) (h:=p_y (h0m rfl) (h:=p_y (q_f fo_99_3) (h:=p_y q_l (h:=p_y (q_f fo_99_2) (h:=q_y q_l ?_))))))))) <;> (try refine q_y (q_b (r:=by refine rb_andn ?_ ?_; (focus (refine ⟨rfl, ⟨?_, ?_⟩⟩; omega; (focus (simp only [IntKind.bits]; omega)))); (focus (refine ⟨rfl, ⟨?_, ?_⟩⟩; omega; (focus (simp only [IntKind.bits]; omega)))))) ?_) <;> (try refine q_y (by exact q_b (r:=by refine h3o ?_; first | rfl | (with_reducible assumption) | (decide; done) | omega)) ?_) <;> (try refine p_y (h5k rfl rfl) (h:=p_p (h:=h0d ?_)))) | (refine gR 22 (q_e (q_L sz_99) ?_) <;> (try refine h0f ?_; (refine q_W ?_)) <;> (try refine h0d ?_)))
    (apply h5j Tryz.results99; exact rfl; (focus (repeat (first | exact fd0 | (with_reducible assumption) | apply fdA | apply fdS))); kernel_rfl; kernel_rfl; exact sz_99; exact c_16)
    exact ⟨_, ⟨a6, c6, rfl, ht6, rfl⟩, by intro w H; refine Sel.out ?_ H; (try simp only [zzC, zzN]); repeat (first | exact Sel.refl _ | (apply Sel.cons; exact h3n; (try simp only [zzE, zzF])) | apply Sel.drop)⟩
   ·rw [if_pos ⟨h7, Or.inr hv⟩]
    repeat' (first | refine h0p ?_ | refine h0e ?_ | refine h1h ?_ | refine h0j rfl ?_ | (refine gR 18 (q_m ?_) <;> (try refine h0f ?_; (refine q_c 53 (c:=by apply htk2; exact c_9; exact c_9; (with_reducible assumption)) (h:=?_); rintro _ _ ⟨a6, c6, rfl, ht6, rfl⟩; (try simp only [zzE, zzF]))) <;> (try refine h0f ?_; (refine h0i (t:=166) rfl Tryz.zeroValue166 ?_; intro nb hnb; (try simp only [Value.cells]))) <;> (try refine h0f ?_; (refine q_W ?_)) <;> (try refine h0d ?_)) | (refine gR 19 (p_e (q_f h4q) (h:=p_e q_l (h:=q_e (q_f fo_99_3) ?_))) <;> (try refine h0f ?_; (refine q_S ?_)) <;> (try refine h0d ?_)) | (refine gR 20 (p_e (q_f fo_99_1) (h:=q_e q_l ?_)) <;> (try refine q_e (by exact q_b (r:=by refine h1i ?_; first | rfl | (with_reducible assumption) | (decide; done) | omega)) ?_) <;> (try refine p_m (h:=p_y (q_f fo_99_2) (h:=p_y q_l (h:=p_y (q_b (r:=by exact h1o q_o)) (h:=p_y (h0m rfl) (h:=p_y (q_f fo_99_3) (h:=p_y q_l (h:=p_y (q_f fo_99_2) (h:=q_y q_l ?_))))))))) <;> (try refine q_y (q_b (r:=by refine rb_andn ?_ ?_; (focus (refine ⟨rfl, ⟨?_, ?_⟩⟩; omega; (focus (simp only [IntKind.bits]; omega)))); (focus (refine ⟨rfl, ⟨?_, ?_⟩⟩; omega; (focus (simp only [IntKind.bits]; omega)))))) ?_) <;> (try refine p_y (q_b (r:=by exact h3v q_o)) (h:=p_y (h5k rfl rfl) (h:=p_p (h:=h0d ?_))))) | (refine gR 21 (p_m (h:=q_e (q_L h2k) ?_)) <;> (try refine h0f ?_; (refine q_c 52 (c:=by apply hfl; exact c_9) (h:=?_); rintro _ _ ⟨rfl, rfl⟩; (try simp only [zzE, zzF]))) <;> (try refine h0d ?_)) | (refine gR 22 (q_e (q_L sz_99) ?_) <;> (try refine h0f ?_; (refine q_W ?_)) <;> (try refine h0d ?_)))
    (apply h5j Tryz.results99; exact rfl; (focus (repeat (first | exact fd0 | (with_reducible assumption) | apply fdA | apply fdS))); kernel_rfl; kernel_rfl; exact sz_99; exact c_16)
    exact ⟨_, ⟨a6, c6, rfl, ht6, rfl⟩, by intro w H; refine Sel.out ?_ H; (try simp only [zzC, zzN]); repeat (first | exact Sel.refl _ | (apply Sel.cons; exact h3n; (try simp only [zzE, zzF])) | apply Sel.drop)⟩
 ·rw [if_neg (fun h => h7 h.1)]
  repeat' (first | refine h0p ?_ | refine h0e ?_ | refine h0u ?_ | refine h1h ?_ | refine h0h rfl ?_ | (refine gR 18 (q_m ?_) <;> (try refine h0f ?_; (refine q_c 53 (c:=by apply htk2; exact c_9; exact c_9; (with_reducible assumption)) (h:=?_); rintro _ _ ⟨a6, c6, rfl, ht6, rfl⟩; (try simp only [zzE, zzF]))) <;> (try refine h0f ?_; (refine h0i (t:=166) rfl Tryz.zeroValue166 ?_; intro nb hnb; (try simp only [Value.cells]))) <;> (try refine h0f ?_; (refine q_W ?_)) <;> (try refine h0d ?_)) | (refine gR 19 (p_e (q_f h4q) (h:=p_e q_l (h:=q_e (q_f fo_99_3) ?_))) <;> (try refine h0f ?_; (refine q_S ?_)) <;> (try refine h0d ?_)) | (refine gR 20 (p_e (q_f fo_99_1) (h:=p_e q_l (h:=p_e (q_b (r:=by exact h1o q_o)) (h:=p_m (h:=p_z (h:=p_z (h:=p_z (h:=q_z ?_)))))))) <;> (try refine h0f ?_; (refine h5h rfl rfl rfl ?_)) <;> (try refine h0f ?_; (refine h5h rfl rfl rfl ?_)) <;> (try refine h0f ?_; (refine h5h rfl rfl rfl ?_)) <;> (try refine h0f ?_; (refine h5h rfl rfl rfl ?_)) <;> (try refine h0f ?_; (refine h5h rfl rfl rfl ?_)) <;> (try refine h0f ?_; (refine h5h rfl rfl rfl ?_)) <;> (try refine p_z (h:=p_p (h:=h0d ?_)))) | (refine gR 22 (q_e (q_L sz_99) ?_) <;> (try refine h0f ?_; (refine q_W ?_)) <;> (try refine h0d ?_)))
  (apply h5j Tryz.results99; exact rfl; (focus (repeat (first | exact fd0 | (with_reducible assumption) | apply fdA | apply fdS))); kernel_rfl; kernel_rfl; exact sz_99; exact c_16)
  exact ⟨_, ⟨a6, c6, rfl, ht6, rfl⟩, by intro w H; refine Sel.out ?_ H; (try simp only [zzC, zzN]); repeat (first | exact Sel.refl _ | (apply Sel.cons; exact h3n; (try simp only [zzE, zzF])) | apply Sel.drop)⟩
def tbS (b m1 m2 n : Nat) : List Blk := if n = 0 then [tbl0 b 0 0] else [tbl1 b m1 m2 n 1, h3m m1 (h6o clls), h3m m2 (byNum clls)]
theorem tbS_succ (b m1 m2 n : Nat) : tbS b m1 m2 (n + 1) = [tbl1 b m1 m2 ((n : Int) + 1) 1, h3m m1 (h6o clls), h3m m2 (byNum clls)] := by
 unfold tbS
 rw [if_neg (by omega), Int.natCast_add, Int.natCast_one]
theorem namS_c {S w0 L} (b m1 m2 n : Nat) (hn : n ≤ 100000) (s : ByteArray) : Fn Tryz.prog 98 #[.pointer (some ⟨b, 0, none⟩), .string s] S w0 (tbS b m1 m2 n ++ L) fun v L' => ∃ m1' m2', v = gotV (nameF s clls) ∧ tbS b m1' m2' (n + 1) ++ L = L' := by
 cases n with
 | zero =>
  refine (named0_c (S:=S) (w0:=w0) (L:=L) b 0 0 (by omega) (by omega) s).mono ?_
  rintro v L' ⟨x, y, rfl, rfl⟩
  exact ⟨_, ⟨x, y, rfl, rfl⟩, fun _ H => H⟩
 | succ n =>
  rw [tbS_succ]
  refine (named1_c (S:=S) (w0:=w0) (L:=L) b m1 m2 _ 1 (by omega) s).mono ?_
  rintro v L' ⟨rfl, rfl⟩
  exact ⟨_, ⟨m1, m2, rfl, by rw [tbS_succ, Int.natCast_add, Int.natCast_one]; rfl⟩, fun _ H => H⟩
theorem Fn.weak {P : Program} {F : FuncId} {args : Array Value} {S : List Nat} {w0 : World} {L1 L2 : List Blk} {R : Value → List Blk → Prop} (hL : ∀ w, HP S w0 w L1 → HP S w0 w L2) (hc : Fn P F args S w0 L2 R) : Fn P F args S w0 L1 R := .mk fun w H => hc.out w (hL w H)
section
variable {P : Program} {n : Nat} {l : List (Nat × Value)} {S : List Nat} {w0 : World} {L : List Blk} {kt : Kont}
theorem h2t {id m : Nat} {os : List Oper} {pre T : List Blk} (hb : pre ++ T = L) (hm : P.follows .mixedOrders = true) (hl : os.length = m) (h : G n l S w0 L (KH P S w0 pre os.toArray kt m (Array.replicate m false))) : G n l S w0 L (KC P (.region id os.toArray true) kt) := .mk fun a w hf H => by
 subst hl
 have _ := hb
 exact ⟨wp_region_held hm (by simpa using (h.out a _ hf H.drew).out)⟩
end
def EnS (ct rb n : Nat) (L0 T : List Blk) : Prop := ∃ m1 m2 o, T = tbS ct m1 m2 n ++ (Rg.wst rb o ++ L0)
theorem named_t {S w0} {ct rb n : Nat} {L0 T : List Blk} (pre : List Blk) (hT : EnS ct rb n L0 T) (hn : n ≤ 100000) (s : ByteArray) : Fn Tryz.prog 98 #[.pointer (some ⟨ct, 0, none⟩), .string s] S w0 (pre ++ T) fun v L' => ∃ T', v = gotV (nameF s clls) ∧ EnS ct rb (n + 1) L0 T' ∧ pre ++ T' = L' := by
 obtain ⟨m1, m2, o, rfl⟩ := hT
 refine Fn.weak (L2:=tbS ct m1 m2 n ++ (pre ++ (Rg.wst rb o ++ L0))) (fun w H => HP.swapA _ H) ((namS_c ct m1 m2 n hn s).mono ?_)
 rintro v L' ⟨x, y, rfl, rfl⟩
 exact ⟨_, ⟨_, rfl, ⟨x, y, o, rfl⟩, rfl⟩, fun w H => HP.swapA pre H⟩
theorem wparse_t {S w0} {ct rb n : Nat} {L0 T : List Blk} (pre : List Blk) (hT : EnS ct rb n L0 T) (s : ByteArray) (hs : s.size ≤ 1000000) : Fn Tryz.prog 114 #[.pointer (some ⟨rb, 0, none⟩), .string s] S w0 (pre ++ T) fun v L' => ∃ T', v = h2y [.int .u16 ((Rg.parseF 0 (h1p 44 (lB s))).1 : Nat), .int .i64 ((Rg.parseF 0 (h1p 44 (lB s))).2 : Nat)] ∧ EnS ct rb n L0 T' ∧ pre ++ T' = L' := by
 obtain ⟨m1, m2, o, rfl⟩ := hT
 refine Fn.weak (L2:=Rg.wst rb o ++ ((pre ++ tbS ct m1 m2 n) ++ L0)) (fun w H => HP.swapA (e:=pre ++ tbS ct m1 m2 n) _ (by rw [List.append_assoc]; exact H)) ((Rg.parse_c rb o s hs).mono ?_)
 rintro v L' ⟨m, rfl, rfl⟩
 exact ⟨_, ⟨_, rfl, ⟨m1, m2, some m, rfl⟩, rfl⟩, fun w H => by have H2 := HP.swapA (pre ++ tbS ct m1 m2 n) H; rw [List.append_assoc] at H2; exact H2⟩
theorem parseF_lt (l : List (List UInt8)) : ∀ acc : Nat, acc < 65536 → (Rg.parseF acc l).1 < 65536 := by
 induction l with
 | nil => intro acc h; exact h
 | cons x r ih =>
  intro acc h
  unfold Rg.parseF
  split
  ·exact Nat.zero_lt_succ _
  ·rename_i i hi
   have hlt := Rg.ixs_lt i (Rg.bitF_mem hi).1
   split
   ·exact Nat.zero_lt_succ _
   ·rename_i hb
    have h2 := (Rg.parse_step acc i h hlt).2
    rw [Rg.or_pow _ _ (by simpa using hb)] at h2
    exact ih _ (by omega)
abbrev prB (pb ct rb : Nat) : Blk := ⟨true, pb, .cells #[.pointer (some ⟨ct, 0, none⟩), .pointer (some ⟨rb, 0, none⟩)] 77 (0, 0)⟩
set_option maxHeartbeats 1000000 in
theorem set_c {S w0} (kd : Nat) (hkd : kd < 65536) (b pb ct rb m : Nat) (L0 T : List Blk) (hT : EnS ct rb m L0 T) (a : Option Addr) (c : Nat) (l : List Tk) (w : Wr) (o : O8) (x : Blk) (h : TkS x a c l) :
  Fn Tryz.prog 100 #[.pointer (some ⟨b, 0, none⟩), .int .u16 (kd : Nat)] S w0 (rdB b (.pointer (some ⟨pb, 0, none⟩)) a l.length c w o :: x :: prB pb ct rb :: T) fun v L' => ∃ a' c' T', v = .int .u16 ((setF kd (l, w)).1 : Nat) ∧ TkS x a' c' (setF kd (l, w)).2.1 ∧ EnS ct rb m L0 T' ∧ rdB b (.pointer (some ⟨pb, 0, none⟩)) a' (setF kd (l, w)).2.1.length c' (setF kd (l, w)).2.2 o :: x :: prB pb ct rb :: T' = L' := by
 have htk := fun (L : List Blk) (i j : Nat) h1 h2 => take_d (S:=S) (w0:=w0) (L:=L) 1 (by decide) (i:=i) (j:=j) (b:=b) (c:=c) (p:=.pointer (some ⟨pb, 0, none⟩)) (a:=a) (l:=l) (w:=w) (o:=o) (x:=x) h1 h2 h
 have hok := (h6f (k:=1) (s:=(l, w)) h.ok).1
 unfold setF
 generalize h0z 1 (l, w) = Q at *
 obtain ⟨t, r, f1, f2, f3⟩ := Q
 dsimp only at *
 clear h
 have hps := fun (x1 x2 x3 x4 : Blk) => wparse_t (S:=S) (w0:=w0) [x1, x2, x3, x4] hT (mB8 t.text) (by rw [h1t]; have := hok.text; omega)
 rw [h4g] at hps
 have hlt := parseF_lt (h1p 44 t.text) 0 (Nat.zero_lt_succ _)
 generalize Rg.parseF 0 (h1p 44 t.text) = Q at *
 obtain ⟨st, er⟩ := Q
 dsimp only at *
 have hhs := fun (L : List Blk) => Rg.has_c (S:=S) (w0:=w0) (L:=L) kd st hkd hlt
 have hfe := fun (L : List Blk) (i : Nat) (a' : Option Addr) (c' : Nat) h1 => h5n (S:=S) (w0:=w0) (L:=L) (i:=i) (b:=b) (n:=r.length) (c:=c') (p:=.pointer (some ⟨pb, 0, none⟩)) (a:=a') (w:=(f1, f2, f3)) (o:=o) h1 t er
 have hfr := fun (L : List Blk) (i : Nat) (a' : Option Addr) (c' : Nat) h1 => h5n (S:=S) (w0:=w0) (L:=L) (i:=i) (b:=b) (n:=r.length) (c:=c') (p:=.pointer (some ⟨pb, 0, none⟩)) (a:=a') (w:=(f1, f2, f3)) (o:=o) h1 t 204
 obtain ⟨o1, o2, o3, o4, o5, o6, o7, o8⟩ := o
 obtain ⟨tk, tx, nu, li, co⟩ := t
 dsimp only [Tk.cells, List.cons_append, List.nil_append] at *
 by_cases he : er = 0
 ·rw [if_neg (fun h => h he)]
  subst he
  clear hfe
  by_cases hh : Rg.hasF kd st = false
  ·rw [if_pos hh]
   rw [hh] at hhs
   generalize h2v (f1, f2, f3) _ 204 = fw at *
   obtain ⟨e1, e2, e3⟩ := fw
   refine Fn2 Tryz.func100 Tryz.ntmps100 rfl rfl ?_
   repeat' (first | refine h0p ?_ | refine h0e ?_ | refine h0x ?_ | refine h0r ?_ | refine h1h ?_ | refine h0j rfl ?_ | refine h0h rfl ?_ | (refine gR 0 (p_a (h:=h0d ?_))) | (refine gR 1 (q_m ?_) <;> (try refine h0f ?_; (refine q_c 53 (c:=by apply htk; exact h5z; exact h5z) (h:=?_); rintro _ _ ⟨a', c', rfl, hts, rfl⟩; (try simp only [zzE, zzF]))) <;> (try refine h0f ?_; (refine h0i (t:=166) rfl Tryz.zeroValue166 ?_; intro nb hnb; (try simp only [Value.cells]))) <;> (try refine h0f ?_; (refine q_W ?_)) <;> (try refine h0d ?_)) | ((refine h2t (pre:=[_, _, _, _]) (id:=2) (m:=15) rfl (by kernel_rfl) rfl (q_t 0 (e:=h2x) (x:=by exact h0m rfl) (h:=q_t 1 (e:=h2x) (x:=by exact h0l rfl) (h:=q_t 2 (e:=h2x) (x:=by exact q_f fo_85_0) (h:=q_t 3 (e:=h2x) (x:=by exact q_l) (h:=q_t 4 (e:=h2x) (x:=by exact h0l rfl) (h:=q_t 5 (e:=h2x) (x:=by exact q_f fo_77_1) (h:=q_t 6 (e:=h2x) (x:=by exact q_l) (h:=q_t 7 (e:=h2x) (x:=by exact q_f h1m) (h:=q_t 8 (e:=h2x) (x:=by exact q_l) (h:=?_))))))))))) <;> (try refine q_r 9 ?_; (refine q_c 114 (c:=by apply hps) (h:=?_); rintro _ _ ⟨T', rfl, hT', rfl⟩; (try simp only [zzE, zzF])); refine h1g h2x ?_) <;> (try refine q_t 10 (e:=h2x) (x:=by exact h0m rfl) (h:=q_t 11 (e:=h2x) (x:=by exact h4d rfl rfl) (h:=q_t 12 (e:=h2x) (x:=by exact h4d rfl rfl) (h:=q_t 13 (e:=h2x) (x:=by exact h3g rfl) (h:=q_t 14 (e:=h2x) (x:=by exact h3g rfl) (h:=h1e (by kernel_rfl) ?_))))))) | (refine gR 3 (q_m ?_) <;> (try refine q_e (by exact q_b (r:=by refine h3o ?_; first | rfl | (with_reducible assumption) | (decide; done) | omega)) ?_) <;> (try refine p_a (h:=h0d ?_))) | (refine gR 5 (p_m (h:=q_m ?_)) <;> (try refine h0f ?_; (refine q_c 91 (c:=by apply hhs) (h:=?_); rintro _ _ ⟨rfl, rfl⟩; (try simp only [zzE, zzF]))) <;> (try refine p_e (by apply E_un; exact rfl; exact h4z) (h:=p_a (h:=h0d ?_)))) | (refine gR 6 (p_m (h:=q_e (q_L h2k) ?_)) <;> (try refine h0f ?_; (refine q_c 52 (c:=by apply hfr; exact c_9) (h:=?_); rintro _ _ ⟨rfl, rfl⟩; (try simp only [zzE, zzF]))) <;> (try refine h0d ?_)) | (refine gR 7 (p_m (h:=p_a (h:=h0d ?_)))))
   (refine h0v Tryz.results100 (.tmp rfl .nil) ?_)
   exact ⟨_, ⟨a', c', T', rfl, hts, hT', rfl⟩, by intro w H; refine Sel.out ?_ H; (try simp only [zzC, zzN]); repeat (first | exact Sel.refl _ | (apply Sel.cons; exact h3n; (try simp only [zzE, zzF])) | apply Sel.drop)⟩
  ·rw [if_neg hh]
   rw [Bool.not_eq_false] at hh
   rw [hh] at hhs
   refine Fn2 Tryz.func100 Tryz.ntmps100 rfl rfl ?_
   repeat' (first | refine h0p ?_ | refine h0e ?_ | refine h0x ?_ | refine h0r ?_ | refine h0u ?_ | refine h1h ?_ | refine h0h rfl ?_ | (refine gR 0 (p_a (h:=h0d ?_))) | (refine gR 1 (q_m ?_) <;> (try refine h0f ?_; (refine q_c 53 (c:=by apply htk; exact h5z; exact h5z) (h:=?_); rintro _ _ ⟨a', c', rfl, hts, rfl⟩; (try simp only [zzE, zzF]))) <;> (try refine h0f ?_; (refine h0i (t:=166) rfl Tryz.zeroValue166 ?_; intro nb hnb; (try simp only [Value.cells]))) <;> (try refine h0f ?_; (refine q_W ?_)) <;> (try refine h0d ?_)) | ((refine h2t (pre:=[_, _, _, _]) (id:=2) (m:=15) rfl (by kernel_rfl) rfl (q_t 0 (e:=h2x) (x:=by exact h0m rfl) (h:=q_t 1 (e:=h2x) (x:=by exact h0l rfl) (h:=q_t 2 (e:=h2x) (x:=by exact q_f fo_85_0) (h:=q_t 3 (e:=h2x) (x:=by exact q_l) (h:=q_t 4 (e:=h2x) (x:=by exact h0l rfl) (h:=q_t 5 (e:=h2x) (x:=by exact q_f fo_77_1) (h:=q_t 6 (e:=h2x) (x:=by exact q_l) (h:=q_t 7 (e:=h2x) (x:=by exact q_f h1m) (h:=q_t 8 (e:=h2x) (x:=by exact q_l) (h:=?_))))))))))) <;> (try refine q_r 9 ?_; (refine q_c 114 (c:=by apply hps) (h:=?_); rintro _ _ ⟨T', rfl, hT', rfl⟩; (try simp only [zzE, zzF])); refine h1g h2x ?_) <;> (try refine q_t 10 (e:=h2x) (x:=by exact h0m rfl) (h:=q_t 11 (e:=h2x) (x:=by exact h4d rfl rfl) (h:=q_t 12 (e:=h2x) (x:=by exact h4d rfl rfl) (h:=q_t 13 (e:=h2x) (x:=by exact h3g rfl) (h:=q_t 14 (e:=h2x) (x:=by exact h3g rfl) (h:=h1e (by kernel_rfl) ?_))))))) | (refine gR 3 (q_m ?_) <;> (try refine q_e (by exact q_b (r:=by refine h3o ?_; first | rfl | (with_reducible assumption) | (decide; done) | omega)) ?_) <;> (try refine p_a (h:=h0d ?_))) | (refine gR 5 (p_m (h:=q_m ?_)) <;> (try refine h0f ?_; (refine q_c 91 (c:=by apply hhs) (h:=?_); rintro _ _ ⟨rfl, rfl⟩; (try simp only [zzE, zzF]))) <;> (try refine p_e (by apply E_un; exact rfl; exact h4a) (h:=p_a (h:=h0d ?_)))) | (refine gR 7 (p_m (h:=p_a (h:=h0d ?_)))))
   (refine h0v Tryz.results100 (.tmp rfl .nil) ?_)
   exact ⟨_, ⟨a', c', T', rfl, hts, hT', rfl⟩, by intro w H; refine Sel.out ?_ H; (try simp only [zzC, zzN]); repeat (first | exact Sel.refl _ | (apply Sel.cons; exact h3n; (try simp only [zzE, zzF])) | apply Sel.drop)⟩
 ·rw [if_pos he]
  have he' : ¬ (er : Int) = 0 := by omega
  generalize h2v (f1, f2, f3) _ er = fw at *
  obtain ⟨e1, e2, e3⟩ := fw
  clear hfr
  refine Fn2 Tryz.func100 Tryz.ntmps100 rfl rfl ?_
  repeat' (first | refine h0p ?_ | refine h0e ?_ | refine h0x ?_ | refine h0r ?_ | refine h1h ?_ | refine h0j rfl ?_ | (refine gR 0 (p_a (h:=h0d ?_))) | (refine gR 1 (q_m ?_) <;> (try refine h0f ?_; (refine q_c 53 (c:=by apply htk; exact h5z; exact h5z) (h:=?_); rintro _ _ ⟨a', c', rfl, hts, rfl⟩; (try simp only [zzE, zzF]))) <;> (try refine h0f ?_; (refine h0i (t:=166) rfl Tryz.zeroValue166 ?_; intro nb hnb; (try simp only [Value.cells]))) <;> (try refine h0f ?_; (refine q_W ?_)) <;> (try refine h0d ?_)) | ((refine h2t (pre:=[_, _, _, _]) (id:=2) (m:=15) rfl (by kernel_rfl) rfl (q_t 0 (e:=h2x) (x:=by exact h0m rfl) (h:=q_t 1 (e:=h2x) (x:=by exact h0l rfl) (h:=q_t 2 (e:=h2x) (x:=by exact q_f fo_85_0) (h:=q_t 3 (e:=h2x) (x:=by exact q_l) (h:=q_t 4 (e:=h2x) (x:=by exact h0l rfl) (h:=q_t 5 (e:=h2x) (x:=by exact q_f fo_77_1) (h:=q_t 6 (e:=h2x) (x:=by exact q_l) (h:=q_t 7 (e:=h2x) (x:=by exact q_f h1m) (h:=q_t 8 (e:=h2x) (x:=by exact q_l) (h:=?_))))))))))) <;> (try refine q_r 9 ?_; (refine q_c 114 (c:=by apply hps) (h:=?_); rintro _ _ ⟨T', rfl, hT', rfl⟩; (try simp only [zzE, zzF])); refine h1g h2x ?_) <;> (try refine q_t 10 (e:=h2x) (x:=by exact h0m rfl) (h:=q_t 11 (e:=h2x) (x:=by exact h4d rfl rfl) (h:=q_t 12 (e:=h2x) (x:=by exact h4d rfl rfl) (h:=q_t 13 (e:=h2x) (x:=by exact h3g rfl) (h:=q_t 14 (e:=h2x) (x:=by exact h3g rfl) (h:=h1e (by kernel_rfl) ?_))))))) | (refine gR 3 (p_m (h:=p_e (q_b (r:=by exact h3v q_o)) (h:=p_a (h:=h0d ?_))))) | (refine gR 4 (p_m (h:=p_e (q_L h2k) (h:=q_m ?_))) <;> (try refine h0f ?_; (refine q_c 52 (c:=by apply hfe; exact c_9) (h:=?_); rintro _ _ ⟨rfl, rfl⟩; (try simp only [zzE, zzF]))) <;> (try refine h0d ?_)) | (refine gR 7 (p_m (h:=p_a (h:=h0d ?_)))))
  (refine h0v Tryz.results100 (.tmp rfl .nil) ?_)
  exact ⟨_, ⟨a', c', T', rfl, hts, hT', rfl⟩, by intro w H; refine Sel.out ?_ H; (try simp only [zzC, zzN]); repeat (first | exact Sel.refl _ | (apply Sel.cons; exact h3n; (try simp only [zzE, zzF])) | apply Sel.drop)⟩
theorem EnS.frame {P : Program} {F : FuncId} {args : Array Value} {S : List Nat} {w0 : World} {ct rb n : Nat} {L0 T : List Blk} {R : Value → List Blk → Nat → Prop} (A e : List Blk) (hT : EnS ct rb n L0 T)
  (hc : ∀ T2, EnS ct rb n (e ++ L0) T2 → Fn P F args S w0 (A ++ T2) fun v L' => ∃ A' T' n', R v A' n' ∧ EnS ct rb n' (e ++ L0) T' ∧ A' ++ T' = L') :
  Fn P F args S w0 (e ++ (A ++ T)) fun v L' => ∃ A' T' n', R v A' n' ∧ EnS ct rb n' L0 T' ∧ e ++ (A' ++ T') = L' := by
 obtain ⟨m1, m2, o, rfl⟩ := hT
 refine Fn.weak (L2:=A ++ (tbS ct m1 m2 n ++ (Rg.wst rb o ++ (e ++ L0)))) (fun w H => ?_) ((hc _ ⟨m1, m2, o, rfl⟩).mono ?_)
 ·refine H.perm ?_
  refine (List.perm_append_comm_assoc ..).trans (List.Perm.append_left _ ?_)
  refine (List.perm_append_comm_assoc ..).trans (List.Perm.append_left _ ?_)
  exact List.perm_append_comm_assoc ..
 ·rintro v L' ⟨A', T', n', hR, ⟨y1, y2, o', rfl⟩, rfl⟩
  refine ⟨_, ⟨A', _, n', hR, ⟨y1, y2, o', rfl⟩, rfl⟩, fun w H => H.perm ?_⟩
  refine List.Perm.trans (List.Perm.append_left _ ?_) (List.perm_append_comm_assoc ..)
  refine List.Perm.trans (List.Perm.append_left _ ?_) (List.perm_append_comm_assoc ..)
  exact List.perm_append_comm_assoc ..
theorem set_e {S w0} (e : List Blk) (kd : Nat) (hkd : kd < 65536) (b pb ct rb m : Nat) (L0 T : List Blk) (hT : EnS ct rb m L0 T) (a : Option Addr) (c : Nat) (l : List Tk) (w : Wr) (o : O8) (x : Blk) (h : TkS x a c l) :
  Fn Tryz.prog 100 #[.pointer (some ⟨b, 0, none⟩), .int .u16 (kd : Nat)] S w0 (e ++ (rdB b (.pointer (some ⟨pb, 0, none⟩)) a l.length c w o :: x :: prB pb ct rb :: T)) fun v L' => ∃ a' c' T', v = .int .u16 ((setF kd (l, w)).1 : Nat) ∧ TkS x a' c' (setF kd (l, w)).2.1 ∧ EnS ct rb m L0 T' ∧ e ++ (rdB b (.pointer (some ⟨pb, 0, none⟩)) a' (setF kd (l, w)).2.1.length c' (setF kd (l, w)).2.2 o :: x :: prB pb ct rb :: T') = L' := by
 refine (EnS.frame (R:=fun v A' n' => ∃ a' c', v = .int .u16 ((setF kd (l, w)).1 : Nat) ∧ TkS x a' c' (setF kd (l, w)).2.1 ∧ n' = m ∧ A' = [rdB b (.pointer (some ⟨pb, 0, none⟩)) a' (setF kd (l, w)).2.1.length c' (setF kd (l, w)).2.2 o, x, prB pb ct rb]) [rdB b (.pointer (some ⟨pb, 0, none⟩)) a l.length c w o, x, prB pb ct rb] e hT (fun T2 h2 => (set_c (S:=S) (w0:=w0) kd hkd b pb ct rb m (e ++ L0) T2 h2 a c l w o x h).mono ?_)).mono ?_
 ·rintro v L' ⟨a', c', T', h1, h3, h4, rfl⟩
  exact ⟨_, ⟨_, T', m, ⟨a', c', h1, h3, rfl, rfl⟩, h4, rfl⟩, fun _ H => H⟩
 ·rintro v L' ⟨A', T', n', ⟨a', c', h1, h3, rfl, rfl⟩, h4, rfl⟩
  exact ⟨_, ⟨a', c', T', h1, h3, h4, rfl⟩, fun _ H => H⟩
def hanF (hd : Nat) (at_ : Tk) (s : PS) : Nat × PS := setF 51199 (s.1, if hd ≠ 0 then h2v s.2 at_ 206 else s.2)
set_option maxHeartbeats 1000000 in
theorem handle_c {S w0} (hd : Nat) (o1 o2 o3 o5 o6 o7 o8 : Value) (t : Tk) (b pb ct rb m : Nat) (L0 T : List Blk) (hT : EnS ct rb m L0 T) (a : Option Addr) (c : Nat) (l : List Tk) (w : Wr) (x : Blk) (h : TkS x a c l) :
  Fn Tryz.prog 82 #[.pointer (some ⟨b, 0, none⟩), .agg t.cells.toArray] S w0 (rdB b (.pointer (some ⟨pb, 0, none⟩)) a l.length c w ⟨o1, o2, o3, .int .u16 (hd : Nat), o5, o6, o7, o8⟩ :: x :: prB pb ct rb :: T) fun v L' => ∃ a' c' T', v = .tuple #[] ∧ TkS x a' c' (hanF hd t (l, w)).2.1 ∧ EnS ct rb m L0 T' ∧ rdB b (.pointer (some ⟨pb, 0, none⟩)) a' (hanF hd t (l, w)).2.1.length c' (hanF hd t (l, w)).2.2 ⟨o1, o2, o3, .int .u16 ((hanF hd t (l, w)).1 : Nat), o5, o6, o7, o8⟩ :: x :: prB pb ct rb :: T' = L' := by
 have hfl := fun (L : List Blk) (i : Nat) (a' : Option Addr) (c' : Nat) h1 => h5n (S:=S) (w0:=w0) (L:=L) (i:=i) (b:=b) (n:=l.length) (c:=c') (p:=.pointer (some ⟨pb, 0, none⟩)) (a:=a') (w:=w) (o:=⟨o1, o2, o3, .int .u16 (hd : Nat), o5, o6, o7, o8⟩) h1 t 206
 unfold hanF
 dsimp only
 have hst := fun (x1 : Blk) => set_e (S:=S) (w0:=w0) [x1] 51199 (by omega) b pb ct rb m L0 T hT a c l (if hd ≠ 0 then h2v w t 206 else w) ⟨o1, o2, o3, .int .u16 (hd : Nat), o5, o6, o7, o8⟩ x h
 by_cases hz : hd ≠ 0
 ·rw [if_pos hz] at hst ⊢
  generalize setF 51199 (l, h2v w t 206) = Q at *
  obtain ⟨st, r, f1, f2, f3⟩ := Q
  generalize h2v w t 206 = fw at *
  obtain ⟨e1, e2, e3⟩ := fw
  obtain ⟨w1, w2, w3⟩ := w
  obtain ⟨tk, tx, nu, li, co⟩ := t
  dsimp only [Tk.cells, List.cons_append, List.nil_append] at *
  refine Fn2 Tryz.func82 Tryz.ntmps82 rfl rfl ?_
  repeat' (first | (refine h2h (id:=3) ?_) | refine h0p ?_ | refine h0e ?_ | refine h0j rfl ?_ | (refine gR 0 ?_ <;> (try refine h0f ?_; (refine h5b (t:=166) rfl rfl ?_; intro nb hnb; (try simp only [Value.cells]))) <;> (try refine h0d ?_)) | (refine gR 1 (p_m (h:=p_n (h:=p_e (q_f h2j) (h:=p_e (q_g h5o) (h:=p_e q_l (h:=p_e (q_b (r:=by exact h3v q_o)) (h:=h0d ?_)))))))) | (refine gR 2 (p_m (h:=q_e (q_L h2k) ?_)) <;> (try refine h0f ?_; (refine q_c 52 (c:=by apply hfl; exact c_9) (h:=?_); rintro _ _ ⟨rfl, rfl⟩; (try simp only [zzE, zzF]))) <;> (try refine h0d ?_)))
  refine ⟨?_⟩
  refine h3y (L' := tkBl nb ⟨tk, tx, nu, li, co⟩ :: rdB b (.pointer (some ⟨pb, 0, none⟩)) a l.length c (e1, e2, e3) ⟨o1, o2, o3, .int .u16 (hd : Nat), o5, o6, o7, o8⟩ :: x :: prB pb ct rb :: T) c_23 ?_
  repeat' (refine gR 3 (p_m (h:=q_m ?_)) <;> (try refine h0f ?_; (refine q_c 100 (c:=by apply hst) (h:=?_); rintro _ _ ⟨a', c', T', rfl, hts, hT', rfl⟩; (try simp only [zzE, zzF]))) <;> (try refine p_n (h:=p_e (q_f h2j) (h:=q_e (q_g h5o) ?_))) <;> (try refine h0f ?_; (refine q_S ?_)) <;> (try refine h0d ?_))
  (first | refine h0v Tryz.results82 .nil ?_ | refine h2w Tryz.results82 .nil ?_)
  exact ⟨_, ⟨a', c', T', rfl, hts, hT', rfl⟩, by intro w H; refine Sel.out ?_ H; (try simp only [zzC, zzN]); repeat (first | exact Sel.refl _ | (apply Sel.cons; exact h3n; (try simp only [zzE, zzF])) | apply Sel.drop)⟩
 ·rw [if_neg hz] at hst ⊢
  have hz0 : hd = 0 := by omega
  subst hz0
  generalize setF 51199 (l, w) = Q at *
  obtain ⟨st, r, f1, f2, f3⟩ := Q
  obtain ⟨w1, w2, w3⟩ := w
  obtain ⟨tk, tx, nu, li, co⟩ := t
  dsimp only [Tk.cells, List.cons_append, List.nil_append] at *
  clear hfl
  refine Fn2 Tryz.func82 Tryz.ntmps82 rfl rfl ?_
  repeat' (first | refine h0p ?_ | refine h0e ?_ | refine h0u ?_ | refine h0h rfl ?_ | (refine gR 0 ?_ <;> (try refine h0f ?_; (refine h5b (t:=166) rfl rfl ?_; intro nb hnb; (try simp only [Value.cells]))) <;> (try refine h0d ?_)) | (refine gR 1 (p_m (h:=p_n (h:=p_e (q_f h2j) (h:=p_e (q_g h5o) (h:=q_e q_l ?_))))) <;> (try refine q_e (by exact q_b (r:=by refine h3o ?_; first | rfl | (with_reducible assumption) | (decide; done) | omega)) ?_) <;> (try refine h0d ?_)) | (refine gR 3 (p_m (h:=q_m ?_)) <;> (try refine h0f ?_; (refine q_c 100 (c:=by apply hst) (h:=?_); rintro _ _ ⟨a', c', T', rfl, hts, hT', rfl⟩; (try simp only [zzE, zzF]))) <;> (try refine p_n (h:=p_e (q_f h2j) (h:=q_e (q_g h5o) ?_))) <;> (try refine h0f ?_; (refine q_S ?_)) <;> (try refine h0d ?_)))
  (first | refine h0v Tryz.results82 .nil ?_ | refine h2w Tryz.results82 .nil ?_)
  exact ⟨_, ⟨a', c', T', rfl, hts, hT', rfl⟩, by intro w H; refine Sel.out ?_ H; (try simp only [zzC, zzN]); repeat (first | exact Sel.refl _ | (apply Sel.cons; exact h3n; (try simp only [zzE, zzF])) | apply Sel.drop)⟩
section
variable {α : Type} [DecidableEq α] (d : TypeDesc) (key : α → Value) (hk : ∀ a b, Instr.sameNow d (key a) (key b) = some (decide (a = b)))
def setKv (qs : List α) : List (Value × Value) := qs.map fun p => (key p, .bool true)
def MapS (kvs : List (Value × Value)) (ps : List α) : Prop := ∃ qs : List α, kvs = setKv key qs ∧ ∀ p, p ∈ qs ↔ p ∈ ps
include hk in
theorem fd_set (s : α) (qs : List α) (i : Nat) : (s ∉ qs ∧ fd d (key s) (setKv key qs) i = some none) ∨ (s ∈ qs ∧ ∃ j, j < qs.length ∧ qs[j]? = some s ∧ fd d (key s) (setKv key qs) i = some (some (i + j, .bool true))) := by
 induction qs generalizing i with
 | nil => exact Or.inl ⟨by simp, rfl⟩
 | cons q r ih =>
  by_cases h : s = q
  ·refine Or.inr ⟨by simp [h], 0, by simp, by simp [h], ?_⟩
   simp [setKv, fd, hk, h]
  ·have e : fd d (key s) (setKv key (q :: r)) i = fd d (key s) (setKv key r) (i + 1) := by simp [setKv, fd, hk, h]
   rw [e]
   rcases ih (i + 1) with ⟨h1, h2⟩ | ⟨h1, j, h2, h3, h4⟩
   ·exact Or.inl ⟨by simp [h, h1], h2⟩
   ·exact Or.inr ⟨by simp [h1], j + 1, by simpa using h2, by simpa using h3, by rw [h4]; congr 3; omega⟩
include hk in
theorem MapS.look {kvs : List (Value × Value)} {ps : List α} (h : MapS key kvs ps) (s : α) : ∃ r, fd d (key s) kvs 0 = some r ∧ found r (.bool false) = .bool (decide (s ∈ ps)) ∧ MapS key (updE kvs (key s) (.bool true) r) (ps ++ [s]) := by
 obtain ⟨qs, rfl, hq⟩ := h
 rcases fd_set d key hk s qs 0 with ⟨h1, h2⟩ | ⟨h1, j, h2, h3, h4⟩
 ·refine ⟨none, h2, ?_, qs ++ [s], ?_, ?_⟩
  ·rw [decide_eq_false (fun h => h1 ((hq s).2 h))]; rfl
  ·simp [updE, setKv]
  ·intro p; simp [hq p]
 ·refine ⟨some (0 + j, .bool true), h4, ?_, qs, ?_, ?_⟩
  ·rw [decide_eq_true ((hq s).1 h1)]; rfl
  ·show (setKv key qs).set (0 + j) (key s, .bool true) = setKv key qs
   rw [Nat.zero_add]
   unfold setKv
   have hj : qs[j] = s := by rw [List.getElem?_eq_getElem h2] at h3; exact Option.some.inj h3
   apply List.ext_getElem (by simp)
   intro i hi1 hi2
   rw [List.getElem_set]
   split
   ·rename_i hij; subst hij; simp [hj]
   ·rfl
  ·intro p
   rw [hq p, List.mem_append, List.mem_singleton]
   refine ⟨Or.inl, ?_⟩
   rintro (h | rfl)
   ·exact h
   ·exact (hq _).1 h1
end
theorem MapS.nil {α : Type} (key : α → Value) : MapS key [] ([] : List α) := ⟨[], rfl, fun _ => Iff.rfl⟩
abbrev keyT (s : List UInt8) : Value := .string (mB8 s)
theorem keyT_same (a b : List UInt8) : Instr.sameNow .string (keyT a) (keyT b) = some (decide (a = b)) := by
 have : (mB8 a = mB8 b) ↔ a = b := ⟨fun h => by rw [← h4g a, h, h4g], fun h => by rw [h]⟩
 simp [Instr.sameNow, ba_beq, this]
abbrev keyP (n : Nat) : Value := .int .u16 (n : Nat)
theorem keyP_same (a b : Nat) : Instr.sameNow (.int .u16) (keyP a) (keyP b) = some (decide (a = b)) := by
 have e : ((a : Int) == (b : Int)) = decide (a = b) := by
  by_cases h : a = b
  ·subst h; simp
  ·rw [decide_eq_false h]
   exact beq_false_of_ne (by omega)
 simp [Instr.sameNow, e]
theorem pathL_c {S w0 L} (s : ByteArray) (hs : s.size ≤ 1000000) : Fn Tryz.prog 66 #[.string s] S w0 L fun v L' => v = .bool (Pt.pathF (lB s)) ∧ L = L' := by
 by_cases h : s.size ≤ 1000
 ·exact Pt.path_c s h
 ·have hl := h3d s
  have e : Pt.pathF (lB s) = false := by
   unfold Pt.pathF
   rw [if_neg (fun h1 => by rw [h1] at hl; simp at hl; omega), if_pos (by omega)]
  rw [e]
  have hn : ¬ s = ⟨#[47]⟩ := fun h1 => by rw [h1] at h; exact h (by decide)
  refine Fn1 Tryz.func66 Tryz.ntmps66 rfl rfl ?_
  repeat' (first | refine h0p ?_ | refine h0e ?_ | refine h1f ?_ | refine h1h ?_ | refine h0j rfl ?_ | (refine gR 0 (p_a (h:=h0d ?_))) | (refine gR 1 (p_m (h:=p_e (h0g rfl (fun _ => BigFrame.builtin_len ..) (h0q Tryz.underlying9)) (h:=p_e (q_b (r:=by exact h1j q_o)) (h:=p_m (h:=p_y (h0m rfl) (h:=p_y (h0g rfl (fun _ => BigFrame.builtin_len ..) (h0q Tryz.underlying9)) (h:=p_y (q_b (r:=by exact h1y q_o)) (h:=p_p (h:=p_m (h:=p_z (h:=p_z (h:=p_z (h:=p_p (h:=h0d ?_))))))))))))))) | (refine gR 2 (p_a (h:=h0d ?_))))
  (refine h0v Tryz.results66 (.tmp rfl .nil) ?_)
  exact ⟨_, ⟨rfl, rfl⟩, by intro w H; refine H.sub ?_; (try simp only [zzC, zzN]); repeat (exact List.Sublist.refl _)⟩
def ben1 (s : PS) : PS := ((h0z 3 s).2.1, if (h0z 3 s).2.2 = (0, 0, 0) ∧ Pt.pathF (h0z 3 s).1.text = false then h2v (h0z 3 s).2.2 (h0z 3 s).1 203 else (h0z 3 s).2.2)
def ben2 (hd : Nat) (s : PS) : Nat × PS := setF (hd &&& 2047) (ben1 s)
def ben3 (hd : Nat) (ps : List (List UInt8 × Nat)) (s : PS) : Wr := if (h0z 3 s).1.text ∈ ps.map (·.1) then h2v (ben2 hd s).2.2 (h0z 3 s).1 206 else (ben2 hd s).2.2
def benF (hd : Nat) (at_ : Tk) (ps : List (List UInt8 × Nat)) (s : PS) : List (List UInt8 × Nat) × PS := (ps ++ [((h0z 3 s).1.text, (ben2 hd s).1)], (ben2 hd s).2.1, if 32 < ps.length + 1 then h2v (ben3 hd ps s) at_ 205 else ben3 hd ps s)
def pthC (ps : List (List UInt8 × Nat)) : List Value := ps.flatMap fun p => [.string (mB8 p.1), .int .u16 (p.2 : Nat)]
theorem iand_nat (a b : Nat) : iand (a : Int) (b : Int) = ((a &&& b : Nat) : Int) := rfl
end Go.Proofs.YtecbgehooembmaaGreatDoor
