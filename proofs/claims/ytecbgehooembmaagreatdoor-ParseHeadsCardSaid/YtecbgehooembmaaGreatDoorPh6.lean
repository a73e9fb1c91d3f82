/- The law ParseHeads returns true at every input and leaves its arguments as they were. No condition. -/
import Derived.WalkKit
import Derived.Deep.QuietTactic
import Derived.OrdersHeld
import Derived.Lib.Hide
import Derived.Laws.Strings
import Derived.Laws.BytesArg
import Derived.Test.YtecbgehooembmaaGreatDoorRows
import Derived.Shelf.Strings.OnBuilder
import Derived.Shelf.Small.Strs
import Derived.Shelf.Strings.Search1
import Derived.Shelf.Strings.Search2
import Derived.Shelf.Strings.Search3
import Derived.Shelf.Strings.Count
import Derived.Test.YtecbgehooembmaaGreatDoorProg
import Derived.MapKept
import Derived.Tactics
import Derived.Tactics2
import Derived.Defers
import Derived.Laws.Pointers
import Derived.Laws.LoneSync
import Derived.Laws.NewBlocks
import Derived.RegionTactic
import Derived.RegionCalls
import Derived.ChangeAlike
import Derived.Laws.RangeString
import Derived.Laws.RangeAny
import Derived.ProofKit
import Derived.OpenShut
import Derived.ShutString
import Derived.ChangeOld
import Derived.Test.YtecbgehooembmaaGreatDoorCards
import Derived.Test.YtecbgehooembmaaGreatDoorTie
import Derived.SevenTiedAt
import Derived.Lay
import Derived.LaidOnce
import Derived.Test.YtecbgehooembmaaGreatDoorPh5
namespace Go.Proofs.YtecbgehooembmaaGreatDoor
open Go Go.RowKit
structure AlI (ct rb m : Nat) (L0 : List Blk) (x : Blk) (Z : Pol × PS) (g : RdD × Pol × PS) : Prop where
  ok : g.1.ok ct rb m L0 g.2.1 g.2.2 x
  l : g.2.2.2 = (0, 0, 0) → PolL g.2.1
  eq : linesGo (g.2.2.1.length + 1) g.2 = Z
theorem linesGo_fuel (f : Nat) : ∀ (f' : Nat) (q : Pol × PS), q.2.1.length < f → q.2.1.length < f' → linesGo f q = linesGo f' q := by
  induction f with
  | zero => intro f' q h; omega
  | succ f ih =>
    intro f' q h h'
    cases f' with
    | zero => omega
    | succ f' =>
      unfold linesGo
      split
      · rfl
      · rename_i hn
        have hl := lineP_len q.1 q.2
        have : q.2.1.length ≠ 0 := fun h0 => hn (Or.inl (List.eq_nil_of_length_eq_zero h0))
        have e : (takeF 0 (lineP q.1 q.2).2).2.1.length = (lineP q.1 q.2).2.1.length - 1 := List.length_tail
        refine ih _ _ ?_ ?_
        · show (takeF 0 (lineP q.1 q.2).2).2.1.length < f
          omega
        · show (takeF 0 (lineP q.1 q.2).2).2.1.length < f'
          omega
theorem linesGo_stop {P : Pol} {s : PS} (h : s.1 = [] ∨ s.2 ≠ (0, 0, 0)) : linesGo (s.1.length + 1) (P, s) = (P, s) := by
  unfold linesGo
  rw [if_pos h]
theorem linesGo_go {P : Pol} {s : PS} (h1 : s.1 ≠ []) (h2 : s.2 = (0, 0, 0)) : linesGo (s.1.length + 1) (P, s) = linesGo ((takeF 0 (lineP P s).2).2.1.length + 1) ((lineP P s).1, (takeF 0 (lineP P s).2).2) := by
  have hl := lineP_len P s
  have : s.1.length ≠ 0 := fun h0 => h1 (List.eq_nil_of_length_eq_zero h0)
  have e : (takeF 0 (lineP P s).2).2.1.length = (lineP P s).2.1.length - 1 := List.length_tail
  have e1 : linesGo (s.1.length + 1) (P, s) = linesGo s.1.length ((lineP P s).1, (takeF 0 (lineP P s).2).2) := by
    rw [linesGo, if_neg (fun h => h.elim h1 (fun h => h h2))]
  rw [e1]
  refine linesGo_fuel _ _ _ ?_ (Nat.lt_succ_self _)
  show (takeF 0 (lineP P s).2).2.1.length < _
  omega
theorem keyF_ok {k : List UInt8} {s : PS} (h : ∀ t ∈ s.1, TkOk t) : ∀ t ∈ (keyF k s).1, TkOk t := fun t ht => h t (List.mem_of_mem_tail ht)
set_option maxRecDepth 100000 in
set_option maxHeartbeats 2000000 in
theorem all_s {S w0} {b pb ct rb m : Nat} {L0 : List Blk} {x : Blk} {d : RdD} {s : PS} (h : d.ok ct rb m L0 zPol s x) (hm : m ≤ 90000) :
    LnR S w0 b pb ct rb m L0 x 23 #[.pointer (some ⟨b, 0, none⟩)] d zPol s (allP s).1 (allP s).2 := by
  obtain ⟨l, w⟩ := s
  have hk1 := fun (L : List Blk) (i j : Nat) h1 h2 => key_d (S := S) (w0 := w0) tPolicy (L := L) (i := i) (j := j) (b := b) (c := d.c) (p := .pointer (some ⟨pb, 0, none⟩)) (a := d.a) (l := l) (w := w) (o := d.o zPol) (x := x) h1 h2 h.ts
  have ho1 := keyF_ok (k := tPolicy) h.ts.ok
  unfold LnR allP polS dfS nmS
  generalize keyF tPolicy (l, w) = Q at *
  obtain ⟨r1, v1, v2, v3⟩ := Q
  have hwd := fun (L : List Blk) (i j : Nat) (a : Option Addr) (c : Nat) h1 h2 ht => word_d (S := S) (w0 := w0) (L := L) (i := i) (j := j) (b := b) (c := c) (p := .pointer (some ⟨pb, 0, none⟩)) (a := a) (l := r1) (w := (v1, v2, v3)) (o := d.o zPol) (x := x) h1 h2 ht
  have ho2 := wordT_ok (s := (r1, v1, v2, v3)) ho1
  generalize wordT (r1, v1, v2, v3) = Q at *
  obtain ⟨t, r2, f1, f2, f3⟩ := Q
  dsimp only at *
  have hwo := fun (L : List Blk) => Wd.word_c (S := S) (w0 := w0) (L := L) (mB8 t.text) (by rw [mB8_size]; have := ho2.1.text; unfold maxLen; omega)
  have hfl := fun (L : List Blk) (i : Nat) (a' : Option Addr) (c' : Nat) h1 => fail_d (S := S) (w0 := w0) (L := L) (i := i) (b := b) (n := r2.length) (c := c') (p := (.pointer (some ⟨pb, 0, none⟩))) (a := a') (w := (f1, f2, f3)) (o := d.o zPol) h1 t 202
  have hq := wr_eq f1 f2 f3
  generalize hg : (if (f1, f2, f3) = ((0, 0, 0) : Wr) ∧ Wd.wordF (mB8 t.text) = false then failW (f1, f2, f3) t 202 else (f1, f2, f3)) = g at *
  obtain ⟨g1, g2, g3⟩ := g
  have ht2 := fun (L : List Blk) (i j : Nat) (a : Option Addr) (c : Nat) h1 h2 ht => take_d (S := S) (w0 := w0) (L := L) 0 (by decide) (i := i) (j := j) (b := b) (c := c) (p := .pointer (some ⟨pb, 0, none⟩)) (a := a) (l := r2) (w := (g1, g2, g3)) (o := d.o ⟨t.text, 0, [], 0, [], []⟩) (x := x) h1 h2 ht
  generalize takeF 0 (r2, g1, g2, g3) = Q at *
  obtain ⟨t3, r3, i1, i2, i3⟩ := Q
  dsimp only at *
  have hk2 := fun (L : List Blk) (i j : Nat) (a : Option Addr) (c : Nat) h1 h2 ht => key_d (S := S) (w0 := w0) tDefault (L := L) (i := i) (j := j) (b := b) (c := c) (p := .pointer (some ⟨pb, 0, none⟩)) (a := a) (l := r3) (w := (i1, i2, i3)) (o := d.o ⟨t.text, 0, [], 0, [], []⟩) (x := x) h1 h2 ht
  generalize keyF tDefault (r3, i1, i2, i3) = Q at *
  obtain ⟨r4, j1, j2, j3⟩ := Q
  dsimp only at *
  have hac := fun (L : List Blk) (i j : Nat) (a : Option Addr) (c : Nat) h1 h2 ht => action_d (S := S) (w0 := w0) (L := L) (i := i) (j := j) (b := b) (c := c) (p := .pointer (some ⟨pb, 0, none⟩)) (a := a) (l := r4) (w := (j1, j2, j3)) (o := d.o ⟨t.text, 0, [], 0, [], []⟩) (x := x) h1 h2 ht
  generalize actF (r4, j1, j2, j3) = Q at *
  obtain ⟨act, r5, k1, k2, k3⟩ := Q
  dsimp only at *
  have ht3 := fun (L : List Blk) (i j : Nat) (a : Option Addr) (c : Nat) h1 h2 ht => take_d (S := S) (w0 := w0) (L := L) 0 (by decide) (i := i) (j := j) (b := b) (c := c) (p := .pointer (some ⟨pb, 0, none⟩)) (a := a) (l := r5) (w := (k1, k2, k3)) (o := d.o ⟨t.text, act, [], 0, [], []⟩) (x := x) h1 h2 ht
  generalize takeF 0 (r5, k1, k2, k3) = Q at *
  obtain ⟨t6, r6, p1, p2, p3⟩ := Q
  dsimp only at *
  have hnx := fun (a1 : Option Addr) (c1 : Nat) (ht : TkS x a1 c1 r6) => (⟨ht, h.rs, h.vr, h.kh, h.vp, h.kp, h.vq, h.T, Nat.zero_lt_succ _, h.l1, h.l2, h.l3⟩ : RdD.ok { d with a := a1, c := c1 } ct rb m L0 ⟨t.text, act, [], 0, [], []⟩ (r6, (p1, p2, p3)) x)
  replace hnx := Lib.hid hnx
  clear ho1 ho2 h
  generalize hZ : linesGo (r6.length + 1) (⟨t.text, act, [], 0, [], []⟩, r6, p1, p2, p3) = Z at *
  obtain ⟨PZ, z, z1, z2, z3⟩ := Z
  have hB : RdD.blocks d b pb ct rb zPol (l, w) x = rdB b (.pointer (some ⟨pb, 0, none⟩)) d.a l.length d.c w (d.o zPol) :: x :: prB pb ct rb :: mapB d.mh d.kh :: mapB d.mp d.kp :: (d.er ++ (d.ep ++ (d.eq ++ d.T))) := rfl
  rw [hB]
  clear hB
  dsimp only [RdD.o, zPol] at *
  obtain ⟨w1, w2, w3⟩ := w
  obtain ⟨tk, tx, nu, li, co⟩ := t
  dsimp only [Tk.cells] at *
  have emp : mB8 ([] : List UInt8) = ⟨#[]⟩ := rfl
  refine Fn1 Tryz.func23 Tryz.ntmps23 rfl rfl ?_
  repeat' (first | (refine G_markr (id := 2) ?_) | refine G_seq ?_ | refine G_then_n ?_ | (refine G_region (id := 0) ?_ <;> (try refine G_op1 ?_; (apply K1_ev; exact rfl; exact E_move rfl)) <;> (try refine G_op1 ?_; (apply K1_call (F := 50); kernel_rfl; exact rfl; exact rfl; apply hk1; (focus ((try simp only [List.eraseIdx_cons_succ]); (try simp only [List.eraseIdx_cons_zero]); exact fd0)); (focus ((try simp only [List.eraseIdx_cons_succ]); (try simp only [List.eraseIdx_cons_zero]); exact fd0)); rintro _ _ ⟨a1, c1, rfl, hts, rfl⟩; (try simp only [List.eraseIdx_cons_succ]); (try simp only [List.eraseIdx_cons_zero]))) <;> (try refine G_nil ?_)) | (refine G_region (id := 1) ?_ <;> (try refine G_op1 ?_; (apply K1_ev; exact rfl; exact E_move rfl)) <;> (try refine G_op1 ?_; (apply K1_call (F := 51); kernel_rfl; exact rfl; exact rfl; apply hwd; (focus ((try simp only [List.eraseIdx_cons_succ]); (try simp only [List.eraseIdx_cons_zero]); exact fd0)); (focus ((try simp only [List.eraseIdx_cons_succ]); (try simp only [List.eraseIdx_cons_zero]); exact fd0)); (with_reducible assumption); rintro _ _ ⟨a2, c2, rfl, hts2, rfl⟩; (try simp only [List.eraseIdx_cons_succ]); (try simp only [List.eraseIdx_cons_zero]))) <;> (try refine G_op1 ?_; (refine K1_alloc (t := 166) rfl Tryz.zeroValue166 ?_; intro nb hnb; (try simp only [Value.cells]))) <;> (try refine G_op1 ?_; (apply K1_storeW (t := 166); exact rfl; exact rfl; exact fd0; kernel_rfl; exact rfl; exact rfl; (try simp only [List.set_cons_succ]); (try simp only [List.set_cons_zero]))) <;> (try refine G_nil ?_)))
  refine ⟨?_⟩
  obtain ⟨nb2, rfl⟩ : ∃ x, x = nb := ⟨_, rfl⟩
  clear hk1 hwd hts
  refine G_meetk (γ := Bool) (fun q => q = decide ((f1, f2, f3) = ((0, 0, 0) : Wr) ∧ Wd.wordF (mB8 tx) = false)) (fun q => [(18, .bool q)]) [(0, _), (2, _)]
    (fun _ => tkBl nb2 ⟨tk, tx, nu, li, co⟩ :: rdB b (.pointer (some ⟨pb, 0, none⟩)) a2 r2.length c2 (f1, f2, f3) (d.o zPol) :: x :: prB pb ct rb :: mapB d.mh d.kh :: mapB d.mp d.kp :: (d.er ++ (d.ep ++ (d.eq ++ d.T)))) (.cons rfl (.cons rfl .nil)) ?_ ?_
  · by_cases hz : (f1, f2, f3) = ((0, 0, 0) : Wr)
    · rw [decide_eq_true hz] at hq
      cases hp : Wd.wordF (mB8 tx) with
      | true =>
        rw [hp] at hwo
        repeat' (first | refine G_cut_n ?_ | (refine G_region (id := 2) ?_ <;> (try refine G_op1 ?_; (apply K1_ev; exact rfl; exact E_move rfl)) <;> (try refine G_op1 ?_; (apply K1_ev; exact rfl; exact E_nilCheck rfl)) <;> (try refine G_op1 ?_; (apply K1_ev; exact rfl; (focus (apply E_fieldAddr; exact rfl; exact r_fieldAt0 fo_85_2)))) <;> (try refine G_op1 ?_; (apply K1_ev; exact rfl; (focus (apply E_loadA (t := 25); exact rfl; (focus (repeat (first | exact fd0 | apply fdS))); kernel_rfl; kernel_rfl; exact sz_25; exact Nat.le_of_ble_eq_true rfl; (focus ((try simp only [List.drop_succ_cons]); (try simp only [List.drop_zero]); (try simp only [List.take_succ_cons]); (try simp only [List.take_zero]); (try simp only [List.take_nil]); exact rfl)))))) <;> (try refine G_op1 ?_; (apply K1_ev; exact rfl; exact E_build (t := 25) (fun (vs : List (Nat × Value)) => (match vs with | [] => [Value.int .i64 0, Value.int .i64 0, Value.int .i64 0] | _ => [] : List Value)) rfl (fun w => by kernel_rfl); (try simp only [Value.cells]); (try simp only [List.cons_append]); (try simp only [List.nil_append]))) <;> (try refine G_op1 ?_; (apply K1_ev; exact rfl; (focus (apply E_bin_agg (op := .eql) (t := 25); exact rfl; exact rfl; kernel_rfl; (with_reducible assumption))))) <;> (try refine G_op1 ?_; (apply K1_ev; exact rfl; exact E_move rfl)) <;> (try refine G_op1 ?_; (refine K1_yes rfl rfl rfl ?_; (apply K1_ev; exact rfl; (focus (apply E_fieldAddr; exact rfl; exact r_fieldAt0 fo_166_1))))) <;> (try refine G_op1 ?_; (refine K1_yes rfl rfl rfl ?_; (apply K1_ev; exact rfl; (focus (apply E_load1 (t := 9); exact rfl; exact fd0; kernel_rfl; kernel_rfl; exact rfl))))) <;> (try refine G_op1 ?_; (refine K1_yes rfl rfl rfl ?_; (apply K1_call (F := 39); kernel_rfl; exact rfl; exact rfl; apply hwo; rintro _ _ ⟨rfl, rfl⟩; (try simp only [List.eraseIdx_cons_succ]); (try simp only [List.eraseIdx_cons_zero])))) <;> (try refine G_op1 ?_; (refine K1_yes rfl rfl rfl ?_; (apply K1_ev; exact rfl; (focus (apply E_un; exact rfl; exact ru_not_t))))) <;> (try refine G_op1 ?_; (apply K1_ev; exact rfl; exact E_pick rfl rfl)) <;> (try refine G_nil ?_)))
        exact G_meet false (decide_eq_false (fun h => by cases h.2)).symm (by (focus (repeat (first | exact Sub.nil | refine Sub.cons rfl ?_)))) (by dsimp only [RdD.o, zPol]; intro w H; refine Sel.out ?_ H; (try simp only [List.cons_append, List.nil_append]); repeat (exact Sel.refl _))
      | false =>
        rw [hp] at hwo
        repeat' (first | refine G_cut_n ?_ | (refine G_region (id := 2) ?_ <;> (try refine G_op1 ?_; (apply K1_ev; exact rfl; exact E_move rfl)) <;> (try refine G_op1 ?_; (apply K1_ev; exact rfl; exact E_nilCheck rfl)) <;> (try refine G_op1 ?_; (apply K1_ev; exact rfl; (focus (apply E_fieldAddr; exact rfl; exact r_fieldAt0 fo_85_2)))) <;> (try refine G_op1 ?_; (apply K1_ev; exact rfl; (focus (apply E_loadA (t := 25); exact rfl; (focus (repeat (first | exact fd0 | apply fdS))); kernel_rfl; kernel_rfl; exact sz_25; exact Nat.le_of_ble_eq_true rfl; (focus ((try simp only [List.drop_succ_cons]); (try simp only [List.drop_zero]); (try simp only [List.take_succ_cons]); (try simp only [List.take_zero]); (try simp only [List.take_nil]); exact rfl)))))) <;> (try refine G_op1 ?_; (apply K1_ev; exact rfl; exact E_build (t := 25) (fun (vs : List (Nat × Value)) => (match vs with | [] => [Value.int .i64 0, Value.int .i64 0, Value.int .i64 0] | _ => [] : List Value)) rfl (fun w => by kernel_rfl); (try simp only [Value.cells]); (try simp only [List.cons_append]); (try simp only [List.nil_append]))) <;> (try refine G_op1 ?_; (apply K1_ev; exact rfl; (focus (apply E_bin_agg (op := .eql) (t := 25); exact rfl; exact rfl; kernel_rfl; (with_reducible assumption))))) <;> (try refine G_op1 ?_; (apply K1_ev; exact rfl; exact E_move rfl)) <;> (try refine G_op1 ?_; (refine K1_yes rfl rfl rfl ?_; (apply K1_ev; exact rfl; (focus (apply E_fieldAddr; exact rfl; exact r_fieldAt0 fo_166_1))))) <;> (try refine G_op1 ?_; (refine K1_yes rfl rfl rfl ?_; (apply K1_ev; exact rfl; (focus (apply E_load1 (t := 9); exact rfl; exact fd0; kernel_rfl; kernel_rfl; exact rfl))))) <;> (try refine G_op1 ?_; (refine K1_yes rfl rfl rfl ?_; (apply K1_call (F := 39); kernel_rfl; exact rfl; exact rfl; apply hwo; rintro _ _ ⟨rfl, rfl⟩; (try simp only [List.eraseIdx_cons_succ]); (try simp only [List.eraseIdx_cons_zero])))) <;> (try refine G_op1 ?_; (refine K1_yes rfl rfl rfl ?_; (apply K1_ev; exact rfl; (focus (apply E_un; exact rfl; exact ru_not_f))))) <;> (try refine G_op1 ?_; (apply K1_ev; exact rfl; exact E_pick rfl rfl)) <;> (try refine G_nil ?_)))
        exact G_meet true (decide_eq_true ⟨hz, trivial⟩).symm (by (focus (repeat (first | exact Sub.nil | refine Sub.cons rfl ?_)))) (by dsimp only [RdD.o, zPol]; intro w H; refine Sel.out ?_ H; (try simp only [List.cons_append, List.nil_append]); repeat (exact Sel.refl _))
    · rw [decide_eq_false hz] at hq
      repeat' (first | refine G_cut_n ?_ | (refine G_region (id := 2) ?_ <;> (try refine G_op1 ?_; (apply K1_ev; exact rfl; exact E_move rfl)) <;> (try refine G_op1 ?_; (apply K1_ev; exact rfl; exact E_nilCheck rfl)) <;> (try refine G_op1 ?_; (apply K1_ev; exact rfl; (focus (apply E_fieldAddr; exact rfl; exact r_fieldAt0 fo_85_2)))) <;> (try refine G_op1 ?_; (apply K1_ev; exact rfl; (focus (apply E_loadA (t := 25); exact rfl; (focus (repeat (first | exact fd0 | apply fdS))); kernel_rfl; kernel_rfl; exact sz_25; exact Nat.le_of_ble_eq_true rfl; (focus ((try simp only [List.drop_succ_cons]); (try simp only [List.drop_zero]); (try simp only [List.take_succ_cons]); (try simp only [List.take_zero]); (try simp only [List.take_nil]); exact rfl)))))) <;> (try refine G_op1 ?_; (apply K1_ev; exact rfl; exact E_build (t := 25) (fun (vs : List (Nat × Value)) => (match vs with | [] => [Value.int .i64 0, Value.int .i64 0, Value.int .i64 0] | _ => [] : List Value)) rfl (fun w => by kernel_rfl); (try simp only [Value.cells]); (try simp only [List.cons_append]); (try simp only [List.nil_append]))) <;> (try refine G_op1 ?_; (apply K1_ev; exact rfl; (focus (apply E_bin_agg (op := .eql) (t := 25); exact rfl; exact rfl; kernel_rfl; (with_reducible assumption))))) <;> (try refine G_op1 ?_; (apply K1_ev; exact rfl; exact E_move rfl)) <;> (try refine G_op1 ?_; (refine K1_no rfl rfl rfl rfl ?_)) <;> (try refine G_op1 ?_; (refine K1_no rfl rfl rfl rfl ?_)) <;> (try refine G_op1 ?_; (refine K1_no rfl rfl rfl rfl ?_)) <;> (try refine G_op1 ?_; (refine K1_no rfl rfl rfl rfl ?_)) <;> (try refine G_op1 ?_; (apply K1_ev; exact rfl; exact E_pick rfl rfl)) <;> (try refine G_nil ?_)))
      exact G_meet false (decide_eq_false (fun h => hz h.1)).symm (by (focus (repeat (first | exact Sub.nil | refine Sub.cons rfl ?_)))) (by dsimp only [RdD.o, zPol]; intro w H; refine Sel.out ?_ H; (try simp only [List.cons_append, List.nil_append]); repeat (exact Sel.refl _))
  clear hq hwo
  rintro q hB
  dsimp only [RdD.o, zPol, List.cons_append, List.nil_append]
  refine G_meetk (γ := Unit) (fun _ => True) (fun _ => []) [(0, _), (2, _)]
    (fun _ => tkBl nb2 ⟨tk, tx, nu, li, co⟩ :: rdB b (.pointer (some ⟨pb, 0, none⟩)) a2 r2.length c2 (g1, g2, g3) (d.o zPol) :: x :: prB pb ct rb :: mapB d.mh d.kh :: mapB d.mp d.kp :: (d.er ++ (d.ep ++ (d.eq ++ d.T)))) (.cons rfl (.cons rfl .nil)) ?_ ?_
  · by_cases hc : (f1, f2, f3) = ((0, 0, 0) : Wr) ∧ Wd.wordF (mB8 tx) = false
    · rw [decide_eq_true hc] at hB
      rw [if_pos hc] at hg
      rw [hg] at hfl
      subst hB
      clear hc hg
      repeat' (first | refine G_cut_n ?_ | refine G_cond_t rfl ?_ | (refine G_region (id := 3) ?_ <;> (try refine G_op1 ?_; (apply K1_ev; exact rfl; exact E_move rfl)) <;> (try refine G_op1 ?_; (apply K1_ev; exact rfl; (focus (apply E_loadA (t := 166); exact rfl; exact fd0; kernel_rfl; kernel_rfl; exact sz_166; exact Nat.le_of_ble_eq_true rfl; (focus ((try simp only [List.drop_succ_cons]); (try simp only [List.drop_zero]); (try simp only [List.take_succ_cons]); (try simp only [List.take_zero]); (try simp only [List.take_nil]); exact rfl)))))) <;> (try refine G_op1 ?_; (apply K1_call (F := 52); kernel_rfl; exact rfl; exact rfl; apply hfl; (focus ((try simp only [List.eraseIdx_cons_succ]); (try simp only [List.eraseIdx_cons_zero]); (focus (repeat (first | exact fd0 | apply fdS))))); rintro _ _ ⟨rfl, rfl⟩; (try simp only [List.eraseIdx_cons_succ]); (try simp only [List.eraseIdx_cons_zero]))) <;> (try refine G_nil ?_)))
      exact G_meet () trivial (by (focus (repeat (first | exact Sub.nil | refine Sub.cons rfl ?_)))) (by dsimp only [RdD.o, zPol]; intro w H; refine Sel.out ?_ H; (try simp only [List.cons_append, List.nil_append]); repeat (first | exact Sel.refl _ | (apply Sel.cons; (focus (repeat (first | exact fd0 | apply fdS))); (try simp only [List.eraseIdx_cons_succ]); (try simp only [List.eraseIdx_cons_zero]))))
    · rw [decide_eq_false hc] at hB
      rw [if_neg hc] at hg
      injection hg with y1 y2
      injection y2 with y2 y3
      subst hB y1 y2 y3
      clear hc
      repeat' (first | refine G_cut_n ?_ | refine G_skip ?_ | refine G_cond_f rfl ?_)
      exact G_meet () trivial (by (focus (repeat (first | exact Sub.nil | refine Sub.cons rfl ?_)))) (by dsimp only [RdD.o, zPol]; intro w H; refine Sel.out ?_ H; (try simp only [List.cons_append, List.nil_append]); repeat (exact Sel.refl _))
  clear hB q hg hfl
  rintro - -
  dsimp only [RdD.o, zPol, List.cons_append, List.nil_append]
  repeat' (first | (refine G_markr (id := 8) ?_) | refine G_seq ?_ | refine G_then_n ?_ | (refine G_region (id := 4) ?_ <;> (try refine G_op1 ?_; (apply K1_ev; exact rfl; exact E_move rfl)) <;> (try refine G_op1 ?_; (apply K1_ev; exact rfl; (focus (apply E_fieldAddr; exact rfl; exact r_fieldAt0 fo_166_1)))) <;> (try refine G_op1 ?_; (apply K1_ev; exact rfl; (focus (apply E_load1 (t := 9); exact rfl; exact fd0; kernel_rfl; kernel_rfl; exact rfl)))) <;> (try refine G_op1 ?_; (apply K1_ev; exact rfl; exact E_nilCheck rfl)) <;> (try refine G_op1 ?_; (apply K1_ev; exact rfl; (focus (apply E_fieldAddr; exact rfl; exact r_fieldAt0 fo_85_3)))) <;> (try refine G_op1 ?_; (apply K1_ev; exact rfl; (focus (apply E_fieldAddr; exact rfl; (focus (apply r_fieldAt fo_36_0; (try simp only [Int.toNat_natCast]); (try simp only [Int.reduceToNat]); (try simp only [Nat.mul_one]); (try simp only [Nat.zero_mul]); (try simp only [Nat.reduceMul]); (try simp only [Nat.zero_add]); (try simp only [Nat.add_zero]); (try simp only [Nat.reduceAdd]); exact rfl)))))) <;> (try refine G_op1 ?_; (apply K1_store1 (t := 9); exact rfl; exact rfl; (focus (repeat (first | exact fd0 | apply fdS))); exact rfl; exact rfl; kernel_rfl; exact Nat.le_of_ble_eq_true rfl; (focus ((try simp only [List.set_cons_succ]); (try simp only [List.set_cons_zero]); exact rfl)); (try simp only [List.set_cons_succ]); (try simp only [List.set_cons_zero]))) <;> (try refine G_nil ?_)) | (refine G_region (id := 5) ?_ <;> (try refine G_op1 ?_; (apply K1_ev; exact rfl; exact E_move rfl)) <;> (try refine G_op1 ?_; (apply K1_call (F := 53); kernel_rfl; exact rfl; exact rfl; apply ht2; (focus ((try simp only [List.eraseIdx_cons_succ]); (try simp only [List.eraseIdx_cons_zero]); (focus (repeat (first | exact fd0 | apply fdS))))); (focus ((try simp only [List.eraseIdx_cons_succ]); (try simp only [List.eraseIdx_cons_zero]); (focus (repeat (first | exact fd0 | apply fdS))))); (with_reducible assumption); rintro _ _ ⟨a3, c3, rfl, hts3, rfl⟩; (try simp only [List.eraseIdx_cons_succ]); (try simp only [List.eraseIdx_cons_zero]))) <;> (try refine G_nil ?_)) | (refine G_region (id := 6) ?_ <;> (try refine G_op1 ?_; (apply K1_ev; exact rfl; exact E_move rfl)) <;> (try refine G_op1 ?_; (apply K1_call (F := 50); kernel_rfl; exact rfl; exact rfl; apply hk2; (focus ((try simp only [List.eraseIdx_cons_succ]); (try simp only [List.eraseIdx_cons_zero]); exact fd0)); (focus ((try simp only [List.eraseIdx_cons_succ]); (try simp only [List.eraseIdx_cons_zero]); exact fd0)); (with_reducible assumption); rintro _ _ ⟨a4, c4, rfl, hts4, rfl⟩; (try simp only [List.eraseIdx_cons_succ]); (try simp only [List.eraseIdx_cons_zero]))) <;> (try refine G_nil ?_)) | (refine G_region (id := 7) ?_ <;> (try refine G_op1 ?_; (apply K1_ev; exact rfl; exact E_move rfl)) <;> (try refine G_op1 ?_; (apply K1_ev; exact rfl; exact E_move rfl)) <;> (try refine G_op1 ?_; (apply K1_call (F := 54); kernel_rfl; exact rfl; exact rfl; apply hac; (focus ((try simp only [List.eraseIdx_cons_succ]); (try simp only [List.eraseIdx_cons_zero]); exact fd0)); (focus ((try simp only [List.eraseIdx_cons_succ]); (try simp only [List.eraseIdx_cons_zero]); exact fd0)); (with_reducible assumption); rintro _ _ ⟨a5, c5, rfl, hts5, rfl⟩; (try simp only [List.eraseIdx_cons_succ]); (try simp only [List.eraseIdx_cons_zero]))) <;> (try refine G_op1 ?_; (apply K1_ev; exact rfl; exact E_nilCheck rfl)) <;> (try refine G_op1 ?_; (apply K1_ev; exact rfl; (focus (apply E_fieldAddr; exact rfl; exact r_fieldAt0 fo_85_3)))) <;> (try refine G_op1 ?_; (apply K1_ev; exact rfl; (focus (apply E_fieldAddr; exact rfl; (focus (apply r_fieldAt fo_36_1; (try simp only [Int.toNat_natCast]); (try simp only [Int.reduceToNat]); (try simp only [Nat.mul_one]); (try simp only [Nat.zero_mul]); (try simp only [Nat.reduceMul]); (try simp only [Nat.zero_add]); (try simp only [Nat.add_zero]); (try simp only [Nat.reduceAdd]); exact rfl)))))) <;> (try refine G_op1 ?_; (apply K1_store1 (t := 29); exact rfl; exact rfl; exact fd0; exact rfl; exact rfl; kernel_rfl; exact Nat.le_of_ble_eq_true rfl; (focus ((try simp only [List.set_cons_succ]); (try simp only [List.set_cons_zero]); exact rfl)); (try simp only [List.set_cons_succ]); (try simp only [List.set_cons_zero]))) <;> (try refine G_nil ?_)))
  refine ⟨?_⟩
  clear ht2 hk2 hac hts2 hts3 hts4
  repeat' (first | (refine G_markb (id := 0) ?_) | refine G_then_n ?_ | (refine G_region (id := 8) ?_ <;> (try refine G_op1 ?_; (apply K1_ev; exact rfl; exact E_move rfl)) <;> (try refine G_op1 ?_; (apply K1_call (F := 53); kernel_rfl; exact rfl; exact rfl; apply ht3; (focus ((try simp only [List.eraseIdx_cons_succ]); (try simp only [List.eraseIdx_cons_zero]); exact fd0)); (focus ((try simp only [List.eraseIdx_cons_succ]); (try simp only [List.eraseIdx_cons_zero]); exact fd0)); (with_reducible assumption); rintro _ _ ⟨a6, c6, rfl, hts6, rfl⟩; (try simp only [List.eraseIdx_cons_succ]); (try simp only [List.eraseIdx_cons_zero]))) <;> (try refine G_nil ?_)))
  refine ⟨?_⟩
  refine G_block ?_
  refine G_loopk (γ := RdD × Pol × PS) (AlI ct rb m L0 x (PZ, z, z1, z2, z3)) (fun g => g.2.2.1.length) (fun _ => []) [(0, _)]
    (fun g => g.1.blocks b pb ct rb g.2.1 g.2.2 x) ({ d with a := a6, c := c6 }, ⟨tx, act, [], 0, [], []⟩, r6, p1, p2, p3) (.cons rfl .nil) ⟨hnx.out a6 c6 hts6, fun _ => ⟨Nat.zero_le _, Nat.zero_le _, Nat.zero_le _⟩, hZ⟩ (by (focus (repeat (exact Sub.nil)))) (by dsimp only [RdD.blocks, RdD.o]; intro w H; refine Sel.out ?_ H; (try simp only [List.cons_append, List.nil_append]); repeat (first | exact Sel.refl _ | (apply Sel.cons; (focus (repeat (first | exact fd0 | apply fdS))); (try simp only [List.eraseIdx_cons_succ]); (try simp only [List.eraseIdx_cons_zero])) | apply Sel.drop)) ?_
  clear hnx hZ hts6 hts5 ht3
  clear f1 f2 f3 i1 i2 i3 j1 j2 j3 k1 k2 k3 p1 p2 p3
  rintro ⟨d, P, l, p1, p2, p3⟩ ⟨hd, hL, hZ⟩
  dsimp only at hd hL hZ
  have hq := wr_eq p1 p2 p3
  have hB : RdD.blocks d b pb ct rb P (l, p1, p2, p3) x = rdB b (.pointer (some ⟨pb, 0, none⟩)) d.a l.length d.c (p1, p2, p3) (d.o P) :: x :: prB pb ct rb :: mapB d.mh d.kh :: mapB d.mp d.kp :: (d.er ++ (d.ep ++ (d.eq ++ d.T))) := rfl
  show G _ _ S w0 (RdD.blocks d b pb ct rb P (l, p1, p2, p3) x) _
  rw [hB]
  clear hB
  have hxt := fun h => (linesGo_stop (P := P) (s := (l, p1, p2, p3)) h).symm.trans hZ
  cases l with
  | nil =>
    have h1 := hxt (Or.inl rfl)
    injection h1 with y1 y2
    injection y2 with y2 y3
    injection y3 with y3 y4
    injection y4 with y4 y5
    subst y1 y2 y3 y4 y5
    rw [List.length_nil]
    have hd' := Lib.hid hd
    clear hxt hZ hq hd hL
    dsimp only [RdD.o]
    repeat' (first | refine G_seq ?_ | refine G_then_n ?_ | refine G_cut_x ?_ | refine G_then_x ?_ | refine G_blk_x ?_ | refine G_exit ?_ | refine G_cond_f rfl ?_ | (refine G_region (id := 9) ?_ <;> (try refine G_op1 ?_; (apply K1_ev; exact rfl; exact E_move rfl)) <;> (try refine G_op1 ?_; (apply K1_ev; exact rfl; exact E_nilCheck rfl)) <;> (try refine G_op1 ?_; (apply K1_ev; exact rfl; (focus (apply E_fieldAddr; exact rfl; exact r_fieldAt0 fo_85_1)))) <;> (try refine G_op1 ?_; (apply K1_ev; exact rfl; (focus (apply E_load1 (t := 78); exact rfl; exact fd0; kernel_rfl; kernel_rfl; exact rfl)))) <;> (try refine G_op1 ?_; (apply K1_ev; exact rfl; (focus (apply E_builtin; exact rfl; exact (fun _ => BigFrame.builtin_len ..); apply r_len_slice_e Tryz.underlying78; (focus ((try simp only [Int.cast_ofNat_Int]); exact rfl)))))) <;> (try refine G_op1 ?_; (apply K1_ev; exact rfl; (focus (apply E_bin (op := .gtr) (t := 3); exact rfl; exact rfl; exact rfl; (focus (refine rb_gtr_f ?_; first | (with_reducible assumption) | (decide; done) | omega)))))) <;> (try refine G_op1 ?_; (apply K1_ev; exact rfl; exact E_move rfl)) <;> (try refine G_op1 ?_; (refine K1_no rfl rfl rfl rfl ?_)) <;> (try refine G_op1 ?_; (refine K1_no rfl rfl rfl rfl ?_)) <;> (try refine G_op1 ?_; (refine K1_no rfl rfl rfl rfl ?_)) <;> (try refine G_op1 ?_; (refine K1_no rfl rfl rfl rfl ?_)) <;> (try refine G_op1 ?_; (refine K1_no rfl rfl rfl rfl ?_)) <;> (try refine G_op1 ?_; (refine K1_no rfl rfl rfl rfl ?_)) <;> (try refine G_op1 ?_; (apply K1_ev; exact rfl; exact E_pick rfl rfl)) <;> (try refine G_nil ?_)))
    (first | refine G_done Tryz.results23 .nil ?_ | refine G_done_n Tryz.results23 .nil ?_)
    exact ⟨_, ⟨rfl, d, hd'.out, rfl⟩, by dsimp only [RdD.blocks, RdD.o]; intro w H; refine Sel.out ?_ H; (try simp only [List.cons_append, List.nil_append]); repeat (exact Sel.refl _)⟩
  | cons t1 r =>
    have hcm := hd.ts.cm
    have hle := hd.ts.le
    rw [List.length_cons] at *
    by_cases hw : (p1, p2, p3) = ((0, 0, 0) : Wr)
    · rw [decide_eq_true hw] at hq
      have hl0 := hL hw
      have hgo := (linesGo_go (P := P) (s := (t1 :: r, p1, p2, p3)) (List.cons_ne_nil _ _) hw).symm.trans hZ
      injection hw with y1 y2
      injection y2 with y2 y3
      subst y1 y2 y3
      clear hxt hL hZ
      have hln := line_s (S := S) (w0 := w0) (pb := pb) (b := b) hd hl0 hm
      have hlw := fun h => lineW_l (P := P) (t := (takeF 1 (t1 :: r, 0, 0, 0)).1) (s := (takeF 1 (t1 :: r, 0, 0, 0)).2) hl0 h
      have hll := lineP_len P (t1 :: r, 0, 0, 0)
      change ((lineP P (t1 :: r, 0, 0, 0)).2.2 = (0, 0, 0) → PolL (lineP P (t1 :: r, 0, 0, 0)).1) at hlw
      generalize lineP P (t1 :: r, 0, 0, 0) = Q at *
      obtain ⟨P2, l2, m1, m2, m3⟩ := Q
      dsimp only at *
      have htk := fun (L : List Blk) (i j : Nat) (d2 : RdD) h1 h2 (hd2 : d2.ok ct rb m L0 P2 (l2, m1, m2, m3) x) => take_d (S := S) (w0 := w0) (L := L) 0 (by decide) (i := i) (j := j) (b := b) (c := d2.c) (p := .pointer (some ⟨pb, 0, none⟩)) (a := d2.a) (l := l2) (w := (m1, m2, m3)) (o := d2.o P2) (x := x) h1 h2 hd2.ts
      have htw := takeF_wr (k := 0) (s := (l2, m1, m2, m3))
      have htl : (takeF 0 (l2, m1, m2, m3)).2.1.length = l2.length - 1 := List.length_tail
      generalize takeF 0 (l2, m1, m2, m3) = Q at *
      obtain ⟨t2, l3, n1, n2, n3⟩ := Q
      unfold LnR RdD.blocks at hln
      dsimp only [RdD.o] at *
      rw [List.length_cons] at hln hll
      have hd' := Lib.hid hd
      clear hd
      repeat' (first | refine G_seq ?_ | refine G_then_n ?_ | refine G_cut_n ?_ | refine G_blk_n ?_ | refine G_block ?_ | refine G_skip ?_ | refine G_cond_t rfl ?_ | (refine G_region (id := 9) ?_ <;> (try refine G_op1 ?_; (apply K1_ev; exact rfl; exact E_move rfl)) <;> (try refine G_op1 ?_; (apply K1_ev; exact rfl; exact E_nilCheck rfl)) <;> (try refine G_op1 ?_; (apply K1_ev; exact rfl; (focus (apply E_fieldAddr; exact rfl; exact r_fieldAt0 fo_85_1)))) <;> (try refine G_op1 ?_; (apply K1_ev; exact rfl; (focus (apply E_load1 (t := 78); exact rfl; exact fd0; kernel_rfl; kernel_rfl; exact rfl)))) <;> (try refine G_op1 ?_; (apply K1_ev; exact rfl; (focus (apply E_builtin; exact rfl; exact (fun _ => BigFrame.builtin_len ..); apply r_len_slice_e Tryz.underlying78; (focus ((try simp only [Int.cast_ofNat_Int]); exact rfl)))))) <;> (try refine G_op1 ?_; (apply K1_ev; exact rfl; (focus (apply E_bin (op := .gtr) (t := 3); exact rfl; exact rfl; exact rfl; (focus (refine rb_gtr_t ?_; first | (with_reducible assumption) | (decide; done) | omega)))))) <;> (try refine G_op1 ?_; (apply K1_ev; exact rfl; exact E_move rfl)) <;> (try refine G_op1 ?_; (refine K1_yes rfl rfl rfl ?_; (apply K1_ev; exact rfl; exact E_move rfl))) <;> (try refine G_op1 ?_; (refine K1_yes rfl rfl rfl ?_; (apply K1_ev; exact rfl; exact E_nilCheck rfl))) <;> (try refine G_op1 ?_; (refine K1_yes rfl rfl rfl ?_; (apply K1_ev; exact rfl; (focus (apply E_fieldAddr; exact rfl; exact r_fieldAt0 fo_85_2))))) <;> (try refine G_op1 ?_; (refine K1_yes rfl rfl rfl ?_; (apply K1_ev; exact rfl; (focus (apply E_loadA (t := 25); exact rfl; exact fd0; kernel_rfl; kernel_rfl; exact sz_25; exact Nat.le_of_ble_eq_true rfl; (focus ((try simp only [List.drop_succ_cons]); (try simp only [List.drop_zero]); (try simp only [List.take_succ_cons]); (try simp only [List.take_zero]); (try simp only [List.take_nil]); exact rfl))))))) <;> (try refine G_op1 ?_; (refine K1_yes rfl rfl rfl ?_; (apply K1_ev; exact rfl; exact E_build (t := 25) (fun (vs : List (Nat × Value)) => (match vs with | [] => [Value.int .i64 0, Value.int .i64 0, Value.int .i64 0] | _ => [] : List Value)) rfl (fun w => by kernel_rfl); (try simp only [Value.cells]); (try simp only [List.cons_append]); (try simp only [List.nil_append])))) <;> (try refine G_op1 ?_; (refine K1_yes rfl rfl rfl ?_; (apply K1_ev; exact rfl; (focus (apply E_bin_agg (op := .eql) (t := 25); exact rfl; exact rfl; kernel_rfl; (with_reducible assumption)))))) <;> (try refine G_op1 ?_; (apply K1_ev; exact rfl; exact E_pick rfl rfl)) <;> (try refine G_nil ?_)) | (refine G_region (id := 10) ?_ <;> (try refine G_op1 ?_; (apply K1_ev; exact rfl; exact E_move rfl)) <;> (try refine G_op1 ?_; (apply K1_call (F := 55); kernel_rfl; exact rfl; exact rfl; apply hln; rintro _ _ ⟨rfl, d2, hd2, rfl⟩; (try simp only [List.eraseIdx_cons_succ]); (try simp only [List.eraseIdx_cons_zero]))) <;> (try refine G_nil ?_)) | (refine G_region (id := 11) ?_ <;> (try refine G_op1 ?_; (apply K1_ev; exact rfl; exact E_move rfl)) <;> (try refine G_op1 ?_; (apply K1_call (F := 53); kernel_rfl; exact rfl; exact rfl; apply htk; (focus ((try simp only [List.eraseIdx_cons_succ]); (try simp only [List.eraseIdx_cons_zero]); exact fd0)); (focus ((try simp only [List.eraseIdx_cons_succ]); (try simp only [List.eraseIdx_cons_zero]); exact fd0)); (with_reducible assumption); rintro _ _ ⟨a7, c7, rfl, hts7, rfl⟩; (try simp only [List.eraseIdx_cons_succ]); (try simp only [List.eraseIdx_cons_zero]))) <;> (try refine G_nil ?_)))
      exact G_meet ({ d2 with a := a7, c := c7 }, P2, l3, n1, n2, n3) ⟨⟨hd2.next hts7, fun h => hlw (htw h), hgo⟩, by show l3.length < r.length + 1; omega⟩ (by (focus (repeat (first | exact Sub.nil | refine Sub.cons rfl ?_)))) (by dsimp only [RdD.blocks, RdD.o]; intro w H; refine Sel.out ?_ H; (try simp only [List.cons_append, List.nil_append]); repeat (exact Sel.refl _))
    · rw [decide_eq_false hw] at hq
      have h1 := hxt (Or.inr hw)
      injection h1 with y1 y2
      injection y2 with y2 y3
      injection y3 with y3 y4
      injection y4 with y4 y5
      subst y1 y2 y3 y4 y5
      have hd' := Lib.hid hd
      clear hxt hZ hd hL hw
      dsimp only [RdD.o]
      repeat' (first | refine G_seq ?_ | refine G_then_n ?_ | refine G_cut_x ?_ | refine G_then_x ?_ | refine G_blk_x ?_ | refine G_exit ?_ | refine G_cond_f rfl ?_ | (refine G_region (id := 9) ?_ <;> (try refine G_op1 ?_; (apply K1_ev; exact rfl; exact E_move rfl)) <;> (try refine G_op1 ?_; (apply K1_ev; exact rfl; exact E_nilCheck rfl)) <;> (try refine G_op1 ?_; (apply K1_ev; exact rfl; (focus (apply E_fieldAddr; exact rfl; exact r_fieldAt0 fo_85_1)))) <;> (try refine G_op1 ?_; (apply K1_ev; exact rfl; (focus (apply E_load1 (t := 78); exact rfl; exact fd0; kernel_rfl; kernel_rfl; exact rfl)))) <;> (try refine G_op1 ?_; (apply K1_ev; exact rfl; (focus (apply E_builtin; exact rfl; exact (fun _ => BigFrame.builtin_len ..); apply r_len_slice_e Tryz.underlying78; (focus ((try simp only [Int.cast_ofNat_Int]); exact rfl)))))) <;> (try refine G_op1 ?_; (apply K1_ev; exact rfl; (focus (apply E_bin (op := .gtr) (t := 3); exact rfl; exact rfl; exact rfl; (focus (refine rb_gtr_t ?_; first | (with_reducible assumption) | (decide; done) | omega)))))) <;> (try refine G_op1 ?_; (apply K1_ev; exact rfl; exact E_move rfl)) <;> (try refine G_op1 ?_; (refine K1_yes rfl rfl rfl ?_; (apply K1_ev; exact rfl; exact E_move rfl))) <;> (try refine G_op1 ?_; (refine K1_yes rfl rfl rfl ?_; (apply K1_ev; exact rfl; exact E_nilCheck rfl))) <;> (try refine G_op1 ?_; (refine K1_yes rfl rfl rfl ?_; (apply K1_ev; exact rfl; (focus (apply E_fieldAddr; exact rfl; exact r_fieldAt0 fo_85_2))))) <;> (try refine G_op1 ?_; (refine K1_yes rfl rfl rfl ?_; (apply K1_ev; exact rfl; (focus (apply E_loadA (t := 25); exact rfl; exact fd0; kernel_rfl; kernel_rfl; exact sz_25; exact Nat.le_of_ble_eq_true rfl; (focus ((try simp only [List.drop_succ_cons]); (try simp only [List.drop_zero]); (try simp only [List.take_succ_cons]); (try simp only [List.take_zero]); (try simp only [List.take_nil]); exact rfl))))))) <;> (try refine G_op1 ?_; (refine K1_yes rfl rfl rfl ?_; (apply K1_ev; exact rfl; exact E_build (t := 25) (fun (vs : List (Nat × Value)) => (match vs with | [] => [Value.int .i64 0, Value.int .i64 0, Value.int .i64 0] | _ => [] : List Value)) rfl (fun w => by kernel_rfl); (try simp only [Value.cells]); (try simp only [List.cons_append]); (try simp only [List.nil_append])))) <;> (try refine G_op1 ?_; (refine K1_yes rfl rfl rfl ?_; (apply K1_ev; exact rfl; (focus (apply E_bin_agg (op := .eql) (t := 25); exact rfl; exact rfl; kernel_rfl; (with_reducible assumption)))))) <;> (try refine G_op1 ?_; (apply K1_ev; exact rfl; exact E_pick rfl rfl)) <;> (try refine G_nil ?_)))
      (first | refine G_done Tryz.results23 .nil ?_ | refine G_done_n Tryz.results23 .nil ?_)
      exact ⟨_, ⟨rfl, d, hd'.out, rfl⟩, by dsimp only [RdD.blocks, RdD.o]; intro w H; refine Sel.out ?_ H; (try simp only [List.cons_append, List.nil_append]); repeat (exact Sel.refl _)⟩
end Go.Proofs.YtecbgehooembmaaGreatDoor
namespace Go.Proofs.YtecbgehooembmaaGreatDoor
open Go Go.RowKit
def okTk (P : List (List UInt8)) (p t : Tk) : Prop := 1 ≤ t.line ∧ t.line ≤ P.length ∧ p.line ≤ t.line ∧ (t.line = p.line → p.col + p.text.length ≤ t.col) ∧ t.col + t.text.length ≤ (P.getD (t.line - 1) []).length + 1 ∧
  (t.kind ≠ 0 → t.text ≠ [] ∧ 1 ≤ t.col ∧ t.col - 1 + t.text.length ≤ (P.getD (t.line - 1) []).length ∧ ((P.getD (t.line - 1) []).drop (t.col - 1)).take t.text.length = t.text)
def Chn2 (P : List (List UInt8)) : Tk → List Tk → Prop
  | _, [] => True
  | p, t :: r => okTk P p t ∧ Chn2 P t r
theorem chn_app {P : List (List UInt8)} {p : Tk} {a b : List Tk} (h1 : Chn2 P p a) (h2 : Chn2 P (a.getLastD p) b) : Chn2 P p (a ++ b) := by
  induction a generalizing p with
  | nil => exact h2
  | cons t r ih =>
    refine ⟨h1.1, ih h1.2 ?_⟩
    cases r with
    | nil => exact h2
    | cons u s => exact h2
theorem lexGo_app (line : Nat) (l : List UInt8) (f a : Nat) (out : List Tk) : lexGo line l f a out = (out ++ (lexGo line l f a []).1, (lexGo line l f a []).2) := by
  induction f generalizing a out with
  | zero => simp [lexGo]
  | succ f ih =>
    rw [lexGo, lexGo]
    cases nextF line l a with
    | done => simp
    | wrong c e => simp
    | tok t a' =>
      dsimp only
      rw [ih a' (out ++ [t]), ih a' ([] ++ [t])]
      simp
theorem lexGo_tok {line : Nat} {l : List UInt8} {f a a' : Nat} {t : Tk} (h : nextF line l a = .tok t a') : lexGo line l (f + 1) a [] = (t :: (lexGo line l f a' []).1, (lexGo line l f a' []).2) := by
  rw [lexGo, h]
  dsimp only
  rw [lexGo_app]; rfl
theorem tok_pos {c : UInt8} {r : List UInt8} (hq : (rightF (kindF c) ((c :: r).take (wl (predF (kindF c)) (c :: r)))).1 = 0) : 0 < wl (predF (kindF c)) (c :: r) := by
  by_cases h1 : letF c = true
  · have hk : kindF c = 1 := by unfold kindF; rw [if_pos h1]
    rw [hk]
    exact wl_pos (p := witF) (by simp [witF, h1])
  · by_cases h2 : digF c = true
    · have hk : kindF c = 2 := by unfold kindF; rw [if_neg h1, if_pos h2]
      rw [hk]
      exact wl_pos (p := alnF) (by simp [alnF, h2])
    · by_cases h3 : c = 47
      · have hk : kindF c = 3 := by unfold kindF; rw [if_neg h1, if_neg h2, if_pos h3]
        rw [hk]
        exact wl_pos (p := prnF) (by rw [h3]; decide)
      · have hk : kindF c = 4 := by unfold kindF; rw [if_neg h1, if_neg h2, if_neg h3]
        rw [hk] at hq ⊢
        rcases Nat.eq_zero_or_pos (wl (predF 4) (c :: r)) with h0 | h0
        · rw [h0, List.take_zero] at hq
          exact absurd hq (by decide)
        · exact h0
theorem next_is {line : Nat} {l : List UInt8} {a a' : Nat} {t : Tk} (h : nextF line l a = .tok t a') :
    t.line = line ∧ t.kind ≠ 0 ∧ a + 1 ≤ t.col ∧ t.text ≠ [] ∧ t.col - 1 + t.text.length ≤ l.length ∧ (l.drop (t.col - 1)).take t.text.length = t.text ∧ a' + 1 = t.col + t.text.length := by
  unfold nextF at h
  have hb := wl_le blkF (l.drop a)
  generalize hA : a + wl blkF (l.drop a) = a1 at *
  cases hd : l.drop a1 with
  | nil => rw [hd] at h; cases h
  | cons c r =>
    rw [hd] at h
    have hl : (l.drop a1).length = r.length + 1 := by rw [hd]; rfl
    rw [List.length_drop] at hl
    dsimp only [nextAt] at h
    have hw := wl_le (predF (kindF c)) (c :: r)
    rw [List.length_cons] at hw
    by_cases hq : (rightF (kindF c) ((c :: r).take (wl (predF (kindF c)) (c :: r)))).1 = 0
    · have hpos := tok_pos hq
      rw [if_pos hq] at h
      generalize wl (predF (kindF c)) (c :: r) = m at *
      injection h with h1 h2
      have hk : kindF c ≠ 0 := by unfold kindF; split <;> (try split) <;> (try split) <;> decide
      have hlen : ((c :: r).take m).length = m := by rw [List.length_take, List.length_cons]; omega
      subst h1
      dsimp only
      refine ⟨rfl, hk, by omega, ?_, by rw [hlen]; omega, ?_, by rw [hlen]; omega⟩
      · intro e
        rw [e] at hlen
        have hm : 0 = m := hlen
        omega
      · rw [Nat.add_sub_cancel, hlen, hd]
    · rw [if_neg hq] at h; cases h
theorem next_wrong {line : Nat} {l : List UInt8} {a c e : Nat} (h : nextF line l a = .wrong c e) : 1 ≤ c ∧ c ≤ l.length ∧ (e = 204 ∨ e = 36 ∨ e = 202) := by
  unfold nextF at h
  generalize hA : a + wl blkF (l.drop a) = a1 at *
  cases hd : l.drop a1 with
  | nil => rw [hd] at h; cases h
  | cons x r =>
    rw [hd] at h
    have hl : (l.drop a1).length = r.length + 1 := by rw [hd]; rfl
    rw [List.length_drop] at hl
    dsimp only [nextAt] at h
    generalize wl (predF (kindF x)) (x :: r) = m at *
    by_cases hq : (rightF (kindF x) ((x :: r).take m)).1 = 0
    · rw [if_pos hq] at h; cases h
    · rw [if_neg hq] at h
      injection h with h1 h2
      refine ⟨by omega, by omega, ?_⟩
      rw [← h2]
      unfold rightF at hq ⊢
      split at hq
      · rw [if_pos (by assumption)]
        split at hq
        · simp_all
        · exact absurd rfl hq
      · rw [if_neg (by assumption)]
        split at hq
        · rw [if_pos (by assumption)]
          split at hq
          · rw [if_pos (by assumption)]; simp
          · exact absurd rfl hq
        · rw [if_neg (by assumption)]
          split at hq
          · rw [if_pos (by assumption)]
            split at hq
            · exact absurd rfl hq
            · rw [if_neg (by assumption)]; simp
          · exact absurd rfl hq
theorem lexGo_chn {P : List (List UInt8)} {k : Nat} (hk : k < P.length) (l : List UInt8) (hl : ∀ c n, c + n ≤ l.length → c + n ≤ (P.getD k []).length ∧ ((P.getD k []).drop c).take n = (l.drop c).take n) :
    ∀ (f a : Nat) (p : Tk), (p.line ≤ k ∨ (p.line = k + 1 ∧ p.col + p.text.length ≤ a + 1)) → (a ≤ l.length) →
      Chn2 P p (lexGo (k + 1) l f a []).1 ∧
      ((lexGo (k + 1) l f a []).1 ≠ [] → ((lexGo (k + 1) l f a []).1.getLastD p).line = k + 1 ∧ ((lexGo (k + 1) l f a []).1.getLastD p).col + ((lexGo (k + 1) l f a []).1.getLastD p).text.length ≤ l.length + 1) := by
  intro f
  induction f with
  | zero => intro a p _ _; exact ⟨trivial, fun h => absurd rfl h⟩
  | succ f ih =>
    intro a p hp ha
    cases hq : nextF (k + 1) l a with
    | done => rw [lexGo, hq]; exact ⟨trivial, fun h => absurd rfl h⟩
    | wrong c e => rw [lexGo, hq]; exact ⟨trivial, fun h => absurd rfl h⟩
    | tok t a' =>
      rw [lexGo_tok hq]
      dsimp only
      obtain ⟨i1, i2, i3, i4, i5, i6, i7⟩ := next_is hq
      obtain ⟨t1, t2⟩ := next_tok hq
      obtain ⟨j1, j2⟩ := ih a' t (.inr ⟨i1, by omega⟩) t2
      have hlp := hl (t.col - 1) t.text.length i5
      have e : t.line - 1 = k := by omega
      refine ⟨⟨⟨by omega, by omega, ?_, ?_, (by rw [e]; have := hlp.1; omega), fun _ => ⟨i4, by omega, ?_, ?_⟩⟩, j1⟩, fun _ => ?_⟩
      · rcases hp with hp | hp <;> omega
      · intro h
        rcases hp with hp | hp <;> omega
      · rw [e]; exact hlp.1
      · rw [e, hlp.2, i6]
      · rw [List.getLastD_cons]
        by_cases hn : (lexGo (k + 1) l f a' []).1 = []
        · rw [hn, List.getLastD_nil]
          exact ⟨i1, by omega⟩
        · exact j2 hn
theorem lexGo_wrong {line : Nat} {l : List UInt8} (f a : Nat) {c e : Nat} (h : (lexGo line l f a []).2 = some (c, e)) : 1 ≤ c ∧ c ≤ l.length ∧ (e = 204 ∨ e = 36 ∨ e = 202) := by
  induction f generalizing a with
  | zero => cases h
  | succ f ih =>
    cases hq : nextF line l a with
    | done => rw [lexGo, hq] at h; cases h
    | wrong c' e' =>
      rw [lexGo, hq] at h
      simp only [Option.some.injEq, Prod.mk.injEq] at h
      rw [← h.1, ← h.2]
      exact next_wrong hq
    | tok t a' =>
      rw [lexGo_tok hq] at h
      exact ih a' h
theorem headF_sub (c : UInt8) (p : List UInt8) (a n : Nat) (h : a + n ≤ (headF c p).length) : a + n ≤ p.length ∧ (p.drop a).take n = ((headF c p).drop a).take n := by
  have hle := headF_len c p
  refine ⟨by omega, ?_⟩
  unfold headF at h ⊢
  by_cases h0 : p.count c = 0
  · rw [ix_none h0]; rfl
  · obtain ⟨m, h1, h2, h3, h4⟩ := ix_some (c := c) (l := p) (by omega)
    rw [h3, List.headD_cons] at h ⊢
    rw [List.length_take] at h
    rw [List.drop_take, List.take_take, Nat.min_eq_left (by omega)]
structure LexOk (P : List (List UInt8)) (r : List Tk × Option (Nat × Nat × Nat)) : Prop where
  none : ∀ x, r.2 = some x → r.1 = []
  wrong : ∀ a b c, r.2 = some (a, b, c) → 1 ≤ a ∧ a ≤ P.length ∧ 1 ≤ b ∧ b ≤ (P.getD (a - 1) []).length ∧ (c = 204 ∨ c = 36 ∨ c = 202)
  chn : Chn2 P ⟨0, [], 0, 0, 0⟩ r.1
  last : r.1 = [] ∨ (r.1.getLastD ⟨0, [], 0, 0, 0⟩).kind = 0
theorem lexAll_ok (P : List (List UInt8)) : ∀ (n k : Nat) (out : List Tk), k + n = P.length → Chn2 P ⟨0, [], 0, 0, 0⟩ out → (out = [] ∨ (out.getLastD ⟨0, [], 0, 0, 0⟩).kind = 0) → (out.getLastD ⟨0, [], 0, 0, 0⟩).line ≤ k → LexOk P (lexAll k (P.drop k) out) := by
  intro n
  induction n with
  | zero =>
    intro k out hk hc hl _
    rw [List.drop_eq_nil_of_le (by omega), lexAll]
    exact ⟨fun _ h => (by cases h), fun _ _ _ h => (by cases h), hc, hl⟩
  | succ n ih =>
    intro k out hk hc hl hll
    have hlt : k < P.length := by omega
    have hg : P.getD k [] = P[k] := by rw [List.getD_eq_getElem?_getD, List.getElem?_eq_getElem hlt]; rfl
    rw [List.drop_eq_getElem_cons hlt, lexAll]
    have hsub := fun a m (h : a + m ≤ (headF 35 P[k]).length) => headF_sub 35 P[k] a m h
    have hchn := lexGo_chn hlt (headF 35 P[k]) (fun c n h => by rw [hg]; exact hsub c n h) ((headF 35 P[k]).length + 1) 0 (out.getLastD ⟨0, [], 0, 0, 0⟩) (.inl hll) (Nat.zero_le _)
    have hwr := fun c e => lexGo_wrong (line := k + 1) (l := headF 35 P[k]) ((headF 35 P[k]).length + 1) 0 (c := c) (e := e)
    have hln : lexLn (k + 1) (headF 35 P[k]) = lexGo (k + 1) (headF 35 P[k]) ((headF 35 P[k]).length + 1) 0 [] := rfl
    rw [hln]
    have hhl := headF_len 35 P[k]
    generalize lexGo (k + 1) (headF 35 P[k]) ((headF 35 P[k]).length + 1) 0 [] = q at *
    obtain ⟨ts, w⟩ := q
    dsimp only at hchn hwr ⊢
    cases w with
    | some w =>
      obtain ⟨c, e⟩ := w
      obtain ⟨w1, w2, w3⟩ := hwr c e rfl
      refine ⟨fun _ _ => rfl, fun x y z h => ?_, trivial, .inl rfl⟩
      simp only [Option.some.injEq, Prod.mk.injEq] at h
      obtain ⟨rfl, rfl, rfl⟩ := h
      rw [Nat.add_sub_cancel, hg]
      exact ⟨by omega, by omega, w1, by omega, w3⟩
    | none =>
      dsimp only
      by_cases hts : ts = []
      · rw [if_pos hts]
        exact ih (k + 1) out (by omega) hc hl (by omega)
      · rw [if_neg hts]
        obtain ⟨g1, g2⟩ := hchn.2 hts
        have hla : (out ++ ts).getLastD ⟨0, [], 0, 0, 0⟩ = ts.getLastD (out.getLastD ⟨0, [], 0, 0, 0⟩) := by
          cases ts with
          | nil => exact absurd rfl hts
          | cons t r => simp [List.getLastD_eq_getLast?, List.getLast?_append]
        refine ih (k + 1) _ (by omega) (chn_app (chn_app hc hchn.1) ⟨⟨by dsimp only; omega, by dsimp only; omega, ?_, ?_, ?_, fun h => absurd rfl h⟩, trivial⟩) (.inr ?_) ?_
        · rw [hla]; dsimp only; omega
        · intro _
          rw [hla]; dsimp only; omega
        · dsimp only
          rw [Nat.add_sub_cancel, hg, List.length_nil]; omega
        · simp [List.getLastD_eq_getLast?, List.getLast?_append]
        · simp [List.getLastD_eq_getLast?, List.getLast?_append]
theorem lexF_ok (l : List UInt8) (h : l.length ≤ 65536) : LexOk (splitC 10 l) (lexF l) := by
  unfold lexF
  rw [if_neg (by omega)]
  have := lexAll_ok (splitC 10 l) (splitC 10 l).length 0 [] (Nat.zero_add _) trivial (.inl rfl) (Nat.le_refl _)
  rwa [List.drop_zero] at this
end Go.Proofs.YtecbgehooembmaaGreatDoor
namespace Go.Proofs.YtecbgehooembmaaGreatDoor
open Go Go.RowKit
theorem numGo_lt (b : Nat) (hb : 0 < b) (l : List UInt8) : ∀ n k, n < 18446744073709551616 → numGo b n l = some k → k < 18446744073709551616 := by
  induction l with
  | nil => intro n k h e; obtain rfl := Option.some.inj e; exact h
  | cons c r ih =>
    intro n k h e
    unfold numGo at e
    split at e
    · rename_i hc
      refine ih _ _ ?_ e
      have h2 := (Nat.le_div_iff_mul_le hb).1 hc.2
      have h3 : dgt c ≤ 99 := by unfold dgt; split <;> (try split) <;> (try omega); all_goals have := c.toNat_lt; omega
      omega
    · cases e
theorem numF_lt {l : List UInt8} {k : Nat} (h : numF l = some k) : k < 18446744073709551616 := by
  unfold numF numD at h
  split at h
  · split at h
    · cases h
    · exact numGo_lt 16 (by omega) _ _ _ (Nat.zero_lt_succ _) h
  · split at h
    · cases h
    · exact numGo_lt 10 (by omega) _ _ _ (Nat.zero_lt_succ _) h
def TkQ (t : Tk) : Prop := t.kind ≤ 4 ∧ t.num < 18446744073709551616 ∧ (t.kind = 0 → t.text = [])
theorem rightF_lt (k : Nat) (t : List UInt8) : (rightF k t).2 < 18446744073709551616 := by
  unfold rightF
  split
  · split
    · exact Nat.zero_lt_succ _
    · rename_i n h; exact numF_lt h
  · split
    · split <;> exact Nat.zero_lt_succ _
    · split
      · split <;> exact Nat.zero_lt_succ _
      · exact Nat.zero_lt_succ _
theorem kindF_le (c : UInt8) : 1 ≤ kindF c ∧ kindF c ≤ 4 := by
  unfold kindF
  split
  · omega
  · split
    · omega
    · split <;> omega
theorem nextF_q {line : Nat} {l : List UInt8} {a a' : Nat} {t : Tk} (h : nextF line l a = .tok t a') : TkQ t := by
  unfold nextF at h
  split at h
  · cases h
  · unfold nextAt at h
    dsimp only at h
    split at h
    · injection h with h1 h2
      subst h1
      have hk := kindF_le
      refine ⟨(hk _).2, rightF_lt _ _, fun h0 => ?_⟩
      have := (hk ‹UInt8›).1
      simp only at h0
      omega
    · cases h
theorem lexGo_q (line : Nat) (l : List UInt8) (f : Nat) : ∀ a out, (∀ t ∈ out, TkQ t) → ∀ t ∈ (lexGo line l f a out).1, TkQ t := by
  induction f with
  | zero => intro a out h; exact h
  | succ f ih =>
    intro a out h
    unfold lexGo
    split
    · exact h
    · exact h
    · rename_i t a' he
      exact ih _ _ (fun u hu => by
        rcases List.mem_append.1 hu with h1 | h1
        · exact h u h1
        · rw [List.mem_singleton.1 h1]; exact nextF_q he)
theorem lexAll_q : ∀ (P : List (List UInt8)) (n : Nat) (out : List Tk), (∀ t ∈ out, TkQ t) → ∀ t ∈ (lexAll n P out).1, TkQ t := by
  intro P
  induction P with
  | nil => intro n out h; exact h
  | cons p ps ih =>
    intro n out h
    unfold lexAll
    have hq := lexGo_q (n + 1) (headF 35 p) ((headF 35 p).length + 1) 0 [] (by simp)
    change ∀ t ∈ (lexLn (n + 1) (headF 35 p)).1, TkQ t at hq
    split
    · intro t ht; cases ht
    · rename_i ts he
      rw [he] at hq
      refine ih _ _ ?_
      split
      · exact h
      · intro t ht
        rcases List.mem_append.1 ht with h1 | h1
        · rcases List.mem_append.1 h1 with h2 | h2
          · exact h t h2
          · exact hq t h2
        · rw [List.mem_singleton.1 h1]; exact ⟨Nat.zero_le _, Nat.zero_lt_succ _, fun _ => rfl⟩
theorem chn_all {P : List (List UInt8)} : ∀ (l : List Tk) (p : Tk), Chn2 P p l → ∀ t ∈ l, ∃ p, okTk P p t := by
  intro l
  induction l with
  | nil => intro p _ t ht; cases ht
  | cons u r ih =>
    intro p h t ht
    rcases List.mem_cons.1 ht with rfl | ht
    · exact ⟨p, h.1⟩
    · exact ih u h.2 t ht
theorem getD_le (l : List UInt8) (i : Nat) : ((splitC 10 l).getD i []).length ≤ l.length := by
  rw [List.getD_eq_getElem?_getD]
  by_cases h : i < (splitC 10 l).length
  · rw [List.getElem?_eq_getElem h]
    exact splitC_le l _ (List.getElem_mem h)
  · rw [List.getElem?_eq_none (by omega)]
    exact Nat.zero_le _
theorem lexF_tk (l : List UInt8) : ∀ t ∈ (lexF l).1, TkOk t := by
  by_cases hl : l.length > 65536
  · unfold lexF
    rw [if_pos hl]
    intro t ht; cases ht
  intro t ht
  have h1 := lexF_ok l (by omega)
  have h2 : TkQ t := by
    have e : lexF l = lexAll 0 (splitC 10 l) [] := by unfold lexF; rw [if_neg hl]
    rw [e] at ht
    exact lexAll_q _ _ _ (by simp) t ht
  obtain ⟨p, h3⟩ := chn_all _ _ h1.chn t ht
  obtain ⟨h4, h5, -, -, h6, h7⟩ := h3
  have h8 := splitC_cnt 10 l
  have h9 := getD_le l (t.line - 1)
  refine ⟨h2.1, ?_, h2.2.1, by omega, by omega⟩
  by_cases h0 : t.kind = 0
  · rw [h2.2.2 h0]; exact Nat.zero_le _
  · have := (h7 h0).2.2.1
    omega
end Go.Proofs.YtecbgehooembmaaGreatDoor
namespace Go.Proofs.YtecbgehooembmaaGreatDoor
open Go Go.RowKit
theorem wr_ne (a b c : Nat) : RBin Tryz.prog .neq 25 (.agg #[.int .i64 (a : Nat), .int .i64 (b : Nat), .int .i64 (c : Nat)]) (.agg #[.int .i64 0, .int .i64 0, .int .i64 0]) (.bool (!decide ((a, b, c) = ((0, 0, 0) : Wr)))) := by
  have key : ∀ r : Bool, (r = (decide ((a : Int) = 0) && (decide ((b : Int) = 0) && decide ((c : Int) = 0)))) → decide ((a, b, c) = ((0, 0, 0) : Wr)) = r := by
    rintro r rfl
    by_cases ha : a = 0
    · by_cases hb : b = 0
      · by_cases hc : c = 0
        · simp [ha, hb, hc]
        · simp [ha, hb, hc]
      · simp [ha, hb]
    · simp [ha]
  apply RBin.mk
  intro w
  rw [key _ rfl]
  go_simp
  by_cases ha : a = 0 <;> by_cases hb : b = 0 <;> by_cases hc : c = 0 <;> simp [ha, hb, hc]
structure PoD where
  vr : Value
  vp : Value
  vq : Value
  cz : List Value
  er : List Blk
  ec : List Blk
  ep : List Blk
  eq : List Blk
structure PoD.ok (d : PoD) (P : Pol) : Prop where
  rs : RulsR P.rules d.cz d.ec
  vr : Own 73 3 d.vr P.rules.length d.cz d.er
  vp : Own 104 2 d.vp P.paths.length (pthC P.paths) d.ep
  vq : Own 106 2 d.vq P.ports.length (porC P.ports) d.eq
  hd : P.hd < 65536
  l1 : P.rules.length ≤ 65
  l2 : P.paths.length ≤ 33
  l3 : P.ports.length ≤ 33
def PoD.blocks (d : PoD) : List Blk := d.er ++ (d.ep ++ (d.eq ++ d.ec))
abbrev polC (P : Pol) (vr vp vq : Value) : List Value := [.string (mB8 P.nm), .int .u32 P.df, vr, .int .u16 (P.hd : Nat), vp, vq]
def zPoD : PoD := ⟨.slice none 0 0, .slice none 0 0, .slice none 0 0, [], [], [], [], []⟩
theorem zPoD_ok : zPoD.ok zPol := ⟨.nil, Own.nil _ _, Own.nil _ _, Own.nil _ _, Nat.zero_lt_succ _, Nat.zero_le _, Nat.zero_le _, Nat.zero_le _⟩
abbrev wrA (w : Wr) : List Value := [.int .i64 (w.1 : Nat), .int .i64 (w.2.1 : Nat), .int .i64 (w.2.2 : Nat)]
def ParR (pb ct rb m : Nat) (L0 : List Blk) (l : List UInt8) (v : Value) (L' : List Blk) : Prop :=
  ∃ (d : PoD) (m' : Nat) (T' : List Blk), v = tupleOf [.agg (polC (polF l).1 d.vr d.vp d.vq).toArray, .agg (wrA (polF l).2).toArray] ∧ d.ok (polF l).1 ∧ m' ≤ m + 65 ∧ EnS ct rb m' L0 T' ∧ prB pb ct rb :: (d.blocks ++ T') = L'
theorem LnR.frameL {S : List Nat} {w0 : World} {b pb ct rb m : Nat} {L0 : List Blk} {x : Blk} {F : Nat} {args : Array Value} {P P' : Pol} {s s' : PS} (hc : ∀ (L0 : List Blk) (d : RdD), d.ok ct rb m L0 P s x → LnR S w0 b pb ct rb m L0 x F args d P s P' s') (e : List Blk) {d : RdD} (h : d.ok ct rb m L0 P s x) :
    Fn Tryz.prog F args S w0 (e ++ d.blocks b pb ct rb P s x) fun v L' => v = .tuple #[] ∧ ∃ d' : RdD, d'.ok ct rb m L0 P' s' x ∧ e ++ d'.blocks b pb ct rb P' s' x = L' := by
  obtain ⟨T2, h2, hput⟩ := RdD.put (S := S) (w0 := w0) (b := b) (pb := pb) e h
  refine Fn.weak hput ((hc _ _ h2).mono ?_)
  rintro v L' ⟨rfl, d', hd', rfl⟩
  obtain ⟨T3, h3, hget⟩ := RdD.get (S := S) (w0 := w0) (b := b) (pb := pb) e hd'
  exact ⟨_, ⟨rfl, _, h3, rfl⟩, hget⟩
theorem lexF_wr {l : List UInt8} {a b c : Nat} (h : (lexF l).2 = some (a, b, c)) : (a, b, c) ≠ (0, 0, 0) := by
  by_cases hl : l.length > 65536
  · have e : lexF l = ([], some (0, 0, 36)) := by unfold lexF; rw [if_pos hl]
    rw [e] at h
    injection h with h
    rw [← h]; decide
  · have := (lexF_ok l (by omega)).wrong _ _ _ h
    intro h0
    injection h0 with h0 _
    omega
set_option maxRecDepth 100000 in
theorem parsen_c {S w0 L} (s : ByteArray) : Fn Tryz.prog 10 #[.pointer none, .string s] S w0 L fun v L' => v = tupleOf [.agg (polC zPol (.slice none 0 0) (.slice none 0 0) (.slice none 0 0)).toArray, .agg (wrA (0, 0, 201)).toArray] ∧ L = L' := by
  have emp : mB8 ([] : List UInt8) = ⟨#[]⟩ := rfl
  dsimp only [zPol, polC]
  refine Fn2 Tryz.func10 Tryz.ntmps10 rfl rfl ?_
  repeat' (first | refine G_seq ?_ | refine G_then_n ?_ | refine G_then_r ?_ | refine G_ret ?_ | refine G_cond_t rfl ?_ | (refine G_region (id := 0) ?_ <;> (try refine G_op1 ?_; (refine K1_alloc (t := 36) rfl Tryz.zeroValue36 ?_; intro nb hnb; (try simp only [Value.cells]))) <;> (try refine G_op1 ?_; (refine K1_alloc (t := 25) rfl Tryz.zeroValue25 ?_; intro nb hnb; (try simp only [Value.cells]))) <;> (try refine G_nil ?_)) | (refine G_region (id := 1) ?_ <;> (try refine G_op1 ?_; (apply K1_ev; exact rfl; exact E_move rfl)) <;> (try refine G_op1 ?_; (apply K1_ev; exact rfl; (focus (apply E_bin (op := .eql) (t := 38); exact rfl; exact rfl; exact rfl; exact rb_peq_nn Tryz.underlying38)))) <;> (try refine G_nil ?_)) | (refine G_region (id := 2) ?_ <;> (try refine G_op1 ?_; (apply K1_ev; exact rfl; exact E_build (t := 36) (fun (vs : List (Nat × Value)) => (match vs with | [] => [Value.string ⟨#[]⟩, Value.int .u32 0, Value.slice none 0 0, Value.int .u16 0, Value.slice none 0 0, Value.slice none 0 0] | _ => [] : List Value)) rfl (fun w => by kernel_rfl); (try simp only [Value.cells]); (try simp only [List.cons_append]); (try simp only [List.nil_append]))) <;> (try refine G_op1 ?_; (apply K1_ev; exact rfl; exact E_build (t := 25) (fun (vs : List (Nat × Value)) => (match vs with | [(_, x0)] => [Value.int .i64 0, Value.int .i64 0, x0] | _ => [] : List Value)) rfl (fun w => by kernel_rfl); (try simp only [Value.cells]); (try simp only [List.cons_append]); (try simp only [List.nil_append]))) <;> (try refine G_op1 ?_; (apply K1_storeW (t := 36); exact rfl; exact rfl; (focus (repeat (first | exact fd0 | apply fdS))); kernel_rfl; exact rfl; exact rfl; (try simp only [List.set_cons_succ]); (try simp only [List.set_cons_zero]))) <;> (try refine G_op1 ?_; (apply K1_storeW (t := 25); exact rfl; exact rfl; exact fd0; kernel_rfl; exact rfl; exact rfl; (try simp only [List.set_cons_succ]); (try simp only [List.set_cons_zero]))) <;> (try refine G_nil ?_)))
  (apply G_done Tryz.results10; (focus (apply Res.agg; exact rfl; (focus (repeat (first | exact fd0 | (with_reducible assumption) | apply fdA | apply fdS))); kernel_rfl; kernel_rfl; (focus (first | (with_reducible assumption) | exact rfl | (simp; done))); exact sz_36; apply Res.agg; exact rfl; (focus (repeat (first | exact fd0 | (with_reducible assumption) | apply fdA | apply fdS))); kernel_rfl; kernel_rfl; (focus (first | (with_reducible assumption) | exact rfl | (simp; done))); exact sz_25; exact Res.nil)))
  exact ⟨_, ⟨rfl, rfl⟩, by intro w H; refine H.sub ?_; (try simp only [List.cons_append, List.nil_append]); repeat (first | exact List.Sublist.refl _ | refine List.Sublist.cons _ ?_)⟩
set_option maxRecDepth 100000 in
set_option maxHeartbeats 2000000 in
theorem parse_c {S w0} (pb ct rb m : Nat) (L0 T : List Blk) (hm : m ≤ 90000) (hT : EnS ct rb m L0 T) (s : ByteArray) (hs : s.size ≤ 1000000) :
    Fn Tryz.prog 10 #[.pointer (some ⟨pb, 0, none⟩), .string s] S w0 (prB pb ct rb :: T) (ParR pb ct rb m L0 (lB s)) := by
  have hlx := fun (L : List Blk) => lex_c (S := S) (w0 := w0) (L := L) s hs
  unfold LexR at hlx
  have htk := lexF_tk (lB s)
  cases hw : (lexF (lB s)).2 with
  | some W =>
    obtain ⟨a, b, c⟩ := W
    have hne := lexF_wr hw
    have hq := wr_ne a b c
    rw [decide_eq_false hne] at hq
    have hP : polF (lB s) = (zPol, (a, b, c)) := by unfold polF; rw [hw]
    unfold ParR
    rw [hP]
    clear hP htk
    rw [hw] at hlx
    dsimp only [wrC] at hlx
    generalize lexF (lB s) = X at *
    clear hne hw
    have emp : mB8 ([] : List UInt8) = ⟨#[]⟩ := rfl
    refine Fn2 Tryz.func10 Tryz.ntmps10 rfl rfl ?_
    repeat' (first | (refine G_markr (id := 5) ?_) | refine G_seq ?_ | refine G_then_n ?_ | refine G_skip ?_ | refine G_cond_t rfl ?_ | refine G_cond_f rfl ?_ | (refine G_region (id := 0) ?_ <;> (try refine G_op1 ?_; (refine K1_alloc (t := 36) rfl Tryz.zeroValue36 ?_; intro nb hnb; (try simp only [Value.cells]))) <;> (try refine G_op1 ?_; (refine K1_alloc (t := 25) rfl Tryz.zeroValue25 ?_; intro nb hnb; (try simp only [Value.cells]))) <;> (try refine G_nil ?_)) | (refine G_region (id := 1) ?_ <;> (try refine G_op1 ?_; (apply K1_ev; exact rfl; exact E_move rfl)) <;> (try refine G_op1 ?_; (apply K1_ev; exact rfl; (focus (apply E_bin (op := .eql) (t := 38); exact rfl; exact rfl; exact rfl; exact rb_peq_sn Tryz.underlying38)))) <;> (try refine G_nil ?_)) | (refine G_region (id := 3) ?_ <;> (try refine G_op1 ?_; (apply K1_ev; exact rfl; exact E_move rfl)) <;> (try refine G_op1 ?_; (apply K1_call (F := 22); kernel_rfl; exact rfl; exact rfl; apply hlx; rintro _ _ ⟨v, e, rfl, ho, rfl⟩; (try simp only [List.eraseIdx_cons_succ]); (try simp only [List.eraseIdx_cons_zero]))) <;> (try refine G_op1 ?_; (apply K1_ev; exact rfl; exact E_move rfl)) <;> (try refine G_op1 ?_; (apply K1_ev; exact rfl; exact E_extractL rfl rfl)) <;> (try refine G_op1 ?_; (apply K1_ev; exact rfl; exact E_extractL rfl rfl)) <;> (try refine G_op1 ?_; (refine K1_alloc (t := 25) rfl Tryz.zeroValue25 ?_; intro nb hnb; (try simp only [Value.cells]))) <;> (try refine G_op1 ?_; (apply K1_ev; exact rfl; exact E_assign rfl)) <;> (try refine G_op1 ?_; (apply K1_storeW (t := 25); exact rfl; exact rfl; exact fd0; kernel_rfl; exact rfl; exact rfl; (try simp only [List.set_cons_succ]); (try simp only [List.set_cons_zero]))) <;> (try refine G_nil ?_)) | (refine G_region (id := 4) ?_ <;> (try refine G_op1 ?_; (apply K1_ev; exact rfl; (focus (apply E_loadA (t := 25); exact rfl; exact fd0; kernel_rfl; kernel_rfl; exact sz_25; exact Nat.le_of_ble_eq_true rfl; (focus ((try simp only [List.drop_succ_cons]); (try simp only [List.drop_zero]); (try simp only [List.take_succ_cons]); (try simp only [List.take_zero]); (try simp only [List.take_nil]); exact rfl)))))) <;> (try refine G_op1 ?_; (apply K1_ev; exact rfl; exact E_build (t := 25) (fun (vs : List (Nat × Value)) => (match vs with | [] => [Value.int .i64 0, Value.int .i64 0, Value.int .i64 0] | _ => [] : List Value)) rfl (fun w => by kernel_rfl); (try simp only [Value.cells]); (try simp only [List.cons_append]); (try simp only [List.nil_append]))) <;> (try refine G_op1 ?_; (apply K1_ev; exact rfl; (focus (apply E_bin_agg (op := .neq) (t := 25); exact rfl; exact rfl; kernel_rfl; (with_reducible assumption))))) <;> (try refine G_nil ?_)))
    refine ⟨?_⟩
    rename_i n4 h4 n5 h5
    refine G_blocks (L' := ⟨true, nb, .cells #[.int .i64 (a : Nat), .int .i64 (b : Nat), .int .i64 (c : Nat)] 25 (0, 0)⟩ :: ⟨true, n5, .cells #[.int .i64 0, .int .i64 0, .int .i64 0] 25 (0, 0)⟩ :: ⟨true, n4, .cells #[.string ⟨#[]⟩, .int .u32 0, .slice none 0 0, .int .u16 0, .slice none 0 0, .slice none 0 0] 36 (0, 0)⟩ :: prB pb ct rb :: T) (by intro w H; refine H.sub ?_; (try simp only [List.cons_append, List.nil_append]); repeat (first | exact List.Sublist.refl _ | refine List.Sublist.cons_cons _ ?_ | refine List.sublist_append_of_sublist_right ?_)) ?_
    repeat' (first | refine G_then_n ?_ | refine G_then_r ?_ | refine G_ret ?_ | ((apply G_regionHc (i := 1) (j := 1) (id := 5) (m := 4); (focus ((try simp only [List.eraseIdx_cons_succ]); (try simp only [List.eraseIdx_cons_zero]); exact rfl)); kernel_rfl; exact rfl) <;> (try apply H_take (i := 0); exact rfl; kernel_rfl; kernel_rfl; kernel_rfl; exact rfl; (focus (intro w H; refine H.sub ?_; (try simp only [List.cons_append, List.nil_append]); repeat (first | exact List.Sublist.refl _ | refine List.Sublist.cons_cons _ ?_ | refine List.Sublist.cons _ ?_))); (focus (apply Y_ev; exact E_build (t := 36) (fun (vs : List (Nat × Value)) => (match vs with | [] => [Value.string ⟨#[]⟩, Value.int .u32 0, Value.slice none 0 0, Value.int .u16 0, Value.slice none 0 0, Value.slice none 0 0] | _ => [] : List Value)) rfl (fun w => by kernel_rfl))); (try simp only [Value.cells]); (try simp only [List.cons_append]); (try simp only [List.nil_append])) <;> (try apply H_take (i := 1); exact rfl; kernel_rfl; kernel_rfl; kernel_rfl; exact rfl; (focus (intro w H; refine H.sub ?_; (try simp only [List.cons_append, List.nil_append]); repeat (first | exact List.Sublist.refl _ | refine List.Sublist.cons_cons _ ?_ | refine List.Sublist.cons _ ?_))); (focus (apply Y_ev; (apply E_loadA (t := 25); exact rfl; exact fd0; kernel_rfl; kernel_rfl; exact sz_25; exact Nat.le_of_ble_eq_true rfl; (focus ((try simp only [List.drop_succ_cons]); (try simp only [List.drop_zero]); (try simp only [List.take_succ_cons]); (try simp only [List.take_zero]); (try simp only [List.take_nil]); exact rfl)))))) <;> (try refine H_run (i := 2) rfl (by kernel_rfl) ?_; (apply K1_storeW (t := 36); exact rfl; exact rfl; (focus (repeat (first | exact fd0 | apply fdS))); kernel_rfl; exact rfl; exact rfl; (try simp only [List.set_cons_succ]); (try simp only [List.set_cons_zero])); refine H_go ?_ ?_; (focus (intro w H; refine H.sub ?_; (try simp only [List.cons_append, List.nil_append]); repeat (first | exact List.Sublist.refl _ | refine List.Sublist.cons_cons _ ?_ | refine List.Sublist.cons _ ?_)))) <;> (try refine H_run (i := 3) rfl (by kernel_rfl) ?_; (apply K1_storeW (t := 25); exact rfl; exact rfl; (focus (repeat (first | exact fd0 | apply fdS))); kernel_rfl; exact rfl; exact rfl; (try simp only [List.set_cons_succ]); (try simp only [List.set_cons_zero])); refine H_go ?_ ?_; (focus (intro w H; refine H.sub ?_; (try simp only [List.cons_append, List.nil_append]); repeat (first | exact List.Sublist.refl _ | refine List.Sublist.cons_cons _ ?_ | refine List.Sublist.cons _ ?_)))) <;> (try refine H_done (by kernel_rfl) ?_)))
    (apply G_done Tryz.results10; (focus (apply Res.agg; exact rfl; (focus (repeat (first | exact fd0 | (with_reducible assumption) | apply fdA | apply fdS))); kernel_rfl; kernel_rfl; (focus (first | (with_reducible assumption) | exact rfl | (simp; done))); exact sz_36; apply Res.agg; exact rfl; (focus (repeat (first | exact fd0 | (with_reducible assumption) | apply fdA | apply fdS))); kernel_rfl; kernel_rfl; (focus (first | (with_reducible assumption) | exact rfl | (simp; done))); exact sz_25; exact Res.nil)))
    exact ⟨_, ⟨zPoD, m, T, rfl, zPoD_ok, by omega, hT, rfl⟩, by intro w H; refine Sel.out ?_ H; (try simp only [List.cons_append, List.nil_append]); repeat (first | exact Sel.refl _ | (apply Sel.cons; (focus (repeat (first | exact fd0 | apply fdS))); (try simp only [List.eraseIdx_cons_succ]); (try simp only [List.eraseIdx_cons_zero])) | apply Sel.drop)⟩
  | none =>
    have hq0 : RBin Tryz.prog .neq 25 (.agg #[.int .i64 0, .int .i64 0, .int .i64 0]) (.agg #[.int .i64 0, .int .i64 0, .int .i64 0]) (.bool false) := by
      have := wr_ne 0 0 0
      rw [decide_eq_true (rfl : ((0, 0, 0) : Wr) = (0, 0, 0))] at this
      exact this
    unfold ParR
    rw [hw] at hlx
    dsimp only [wrC] at hlx
    have hP : polF (lB s) = if (allP ((lexF (lB s)).1, (0, 0, 0))).2.2 = (0, 0, 0) then ((allP ((lexF (lB s)).1, (0, 0, 0))).1, (0, 0, 0)) else (zPol, (allP ((lexF (lB s)).1, (0, 0, 0))).2.2) := by unfold polF; rw [hw]
    rw [hP]
    clear hP hw
    generalize (lexF (lB s)).1 = X at *
    have hlx2 := fun (L : List Blk) => (hlx L).mono (R' := fun r L' => ∃ a c e, r = tupleOf [.slice a X.length c, .agg #[.int .i64 0, .int .i64 0, .int .i64 0]] ∧ Own 166 5 (.slice a X.length c) X.length (flatTk X) e ∧ e ++ L = L') (by
      rintro r L' ⟨v, e, rfl, ho, rfl⟩
      obtain ⟨a, c, rfl, -⟩ := ho.sli []
      exact ⟨_, ⟨a, c, e, rfl, ho, rfl⟩, fun _ H => H⟩)
    clear hlx
    have emp : mB8 ([] : List UInt8) = ⟨#[]⟩ := rfl
    refine Fn2 Tryz.func10 Tryz.ntmps10 rfl rfl ?_
    repeat' (first | (refine G_markr (id := 7) ?_) | refine G_seq ?_ | refine G_then_n ?_ | refine G_skip ?_ | refine G_cond_f rfl ?_ | (refine G_region (id := 0) ?_ <;> (try refine G_op1 ?_; (refine K1_alloc (t := 36) rfl Tryz.zeroValue36 ?_; intro nb hnb; (try simp only [Value.cells]))) <;> (try refine G_op1 ?_; (refine K1_alloc (t := 25) rfl Tryz.zeroValue25 ?_; intro nb hnb; (try simp only [Value.cells]))) <;> (try refine G_nil ?_)) | (refine G_region (id := 1) ?_ <;> (try refine G_op1 ?_; (apply K1_ev; exact rfl; exact E_move rfl)) <;> (try refine G_op1 ?_; (apply K1_ev; exact rfl; (focus (apply E_bin (op := .eql) (t := 38); exact rfl; exact rfl; exact rfl; exact rb_peq_sn Tryz.underlying38)))) <;> (try refine G_nil ?_)) | (refine G_region (id := 3) ?_ <;> (try refine G_op1 ?_; (apply K1_ev; exact rfl; exact E_move rfl)) <;> (try refine G_op1 ?_; (apply K1_call (F := 22); kernel_rfl; exact rfl; exact rfl; apply hlx2; rintro _ _ ⟨va, vc, e, rfl, ho, rfl⟩; (try simp only [List.eraseIdx_cons_succ]); (try simp only [List.eraseIdx_cons_zero]))) <;> (try refine G_op1 ?_; (apply K1_ev; exact rfl; exact E_move rfl)) <;> (try refine G_op1 ?_; (apply K1_ev; exact rfl; exact E_extractL rfl rfl)) <;> (try refine G_op1 ?_; (apply K1_ev; exact rfl; exact E_extractL rfl rfl)) <;> (try refine G_op1 ?_; (refine K1_alloc (t := 25) rfl Tryz.zeroValue25 ?_; intro nb hnb; (try simp only [Value.cells]))) <;> (try refine G_op1 ?_; (apply K1_ev; exact rfl; exact E_assign rfl)) <;> (try refine G_op1 ?_; (apply K1_storeW (t := 25); exact rfl; exact rfl; exact fd0; kernel_rfl; exact rfl; exact rfl; (try simp only [List.set_cons_succ]); (try simp only [List.set_cons_zero]))) <;> (try refine G_nil ?_)) | (refine G_region (id := 4) ?_ <;> (try refine G_op1 ?_; (apply K1_ev; exact rfl; (focus (apply E_loadA (t := 25); exact rfl; exact fd0; kernel_rfl; kernel_rfl; exact sz_25; exact Nat.le_of_ble_eq_true rfl; (focus ((try simp only [List.drop_succ_cons]); (try simp only [List.drop_zero]); (try simp only [List.take_succ_cons]); (try simp only [List.take_zero]); (try simp only [List.take_nil]); exact rfl)))))) <;> (try refine G_op1 ?_; (apply K1_ev; exact rfl; exact E_build (t := 25) (fun (vs : List (Nat × Value)) => (match vs with | [] => [Value.int .i64 0, Value.int .i64 0, Value.int .i64 0] | _ => [] : List Value)) rfl (fun w => by kernel_rfl); (try simp only [Value.cells]); (try simp only [List.cons_append]); (try simp only [List.nil_append]))) <;> (try refine G_op1 ?_; (apply K1_ev; exact rfl; (focus (apply E_bin_agg (op := .neq) (t := 25); exact rfl; exact rfl; kernel_rfl; (with_reducible assumption))))) <;> (try refine G_nil ?_)) | (refine G_region (id := 6) ?_ <;> (try refine G_op1 ?_; (apply K1_ev; exact rfl; exact E_move rfl)) <;> (try refine G_op1 ?_; (apply K1_ev; exact rfl; exact E_move rfl)) <;> (try refine G_op1 ?_; (refine K1_makeMap rfl ?_; intro nb hnb)) <;> (try refine G_op1 ?_; (refine K1_makeMap rfl ?_; intro nb hnb)) <;> (try refine G_op1 ?_; (apply K1_ev; exact rfl; exact E_build (t := 85) (fun (vs : List (Nat × Value)) => (match vs with | [(_, x0), (_, x1), (_, x2), (_, x3)] => [x0, x1, Value.int .i64 0, Value.int .i64 0, Value.int .i64 0, Value.string ⟨#[]⟩, Value.int .u32 0, Value.slice none 0 0, Value.int .u16 0, Value.slice none 0 0, Value.slice none 0 0, x2, x3] | _ => [] : List Value)) rfl (fun w => by kernel_rfl); (try simp only [Value.cells]); (try simp only [List.cons_append]); (try simp only [List.nil_append]))) <;> (try refine G_op1 ?_; (refine K1_box (t := 85) rfl rfl ?_; intro nb hnb; (try simp only [Value.cells]))) <;> (try refine G_op1 ?_; (apply K1_ev; exact rfl; exact E_assign rfl)) <;> (try refine G_nil ?_)))
    refine ⟨?_⟩
    rename_i n4 h4 n5 h5 n7 h7 nmh hmh nmp hmp
    have hx : ∃ x, TkS x va vc X ∧ ∀ w, ∀ A B : List Blk, HP S w0 w (A ++ (⟨true, n7, .cells #[.int .i64 0, .int .i64 0, .int .i64 0] 25 (0, 0)⟩ :: (e ++ B))) → HP S w0 w (A ++ (x :: B)) := by
      rcases own_cases ho with ⟨h1, h0, hx, rfl⟩ | ⟨g, capg, cur, h1, rfl, q1, q2, q3, q4⟩
      · injection h1 with h1 h2 h3
        subst h1 h3
        refine ⟨⟨true, n7, .cells #[.int .i64 0, .int .i64 0, .int .i64 0] 25 (0, 0)⟩, ⟨⟨by rw [flatTk_len], Or.inl h0⟩, by omega, by unfold maxLen; omega, htk⟩, fun _ _ _ H => H⟩
      · injection h1 with h1 h2 h3
        subst h1 h3
        refine ⟨_, ⟨⟨by rw [flatTk_len], Or.inr ⟨0, true, g, 0, cur, _, _, rfl, rfl, by omega, by rw [List.drop_zero]; exact q4⟩⟩, q1, q2, htk⟩, fun w A B H => H.sub (List.Sublist.append_left (List.sublist_cons_self _ _) _)⟩
    obtain ⟨x, hts, hxb⟩ := hx
    have h0 : RdD.ok ⟨va, vc, .slice none 0 0, .slice none 0 0, .slice none 0 0, nmh, nmp, [], [], [], [], [], [], T, []⟩ ct rb m L0 zPol (X, (0, 0, 0)) x := ⟨hts, .nil, Own.nil _ _, MapS.nil _, Own.nil _ _, MapS.nil _, Own.nil _ _, hT, Nat.zero_lt_succ _, Nat.zero_le _, Nat.zero_le _, Nat.zero_le _⟩
    have hal := LnR.frameL (S := S) (w0 := w0) (b := nb) (pb := pb) (fun L0 d h => all_s h hm) [⟨true, n5, .cells #[.int .i64 0, .int .i64 0, .int .i64 0] 25 (0, 0)⟩, ⟨true, n4, .cells #[.string ⟨#[]⟩, .int .u32 0, .slice none 0 0, .int .u16 0, .slice none 0 0, .slice none 0 0] 36 (0, 0)⟩] h0
    unfold RdD.blocks at hal
    dsimp only [List.cons_append, List.nil_append, RdD.o, zPol] at hal
    generalize allP (X, (0, 0, 0)) = Z at *
    obtain ⟨PZ, z, z1, z2, z3⟩ := Z
    dsimp only at *
    refine G_blocks (L' := ⟨true, n5, .cells #[.int .i64 0, .int .i64 0, .int .i64 0] 25 (0, 0)⟩ :: ⟨true, n4, .cells #[.string ⟨#[]⟩, .int .u32 0, .slice none 0 0, .int .u16 0, .slice none 0 0, .slice none 0 0] 36 (0, 0)⟩ :: rdB nb (.pointer (some ⟨pb, 0, none⟩)) va X.length vc (0, 0, 0) ⟨.string (mB8 []), .int .u32 0, .slice none 0 0, .int .u16 0, .slice none 0 0, .slice none 0 0, .map (some nmh), .map (some nmp)⟩ :: x :: prB pb ct rb :: mapB nmh [] :: mapB nmp [] :: T) (fun w H => ?_) ?_
    · have H1 := hxb w [_, _, _] _ H
      refine Sel.out ?_ H1
      (try simp only [List.cons_append, List.nil_append]); repeat (first | exact Sel.refl _ | (apply Sel.cons; (focus (repeat (first | exact fd0 | apply fdS))); (try simp only [List.eraseIdx_cons_succ]); (try simp only [List.eraseIdx_cons_zero])))
    have hal2 := hal.mono (R' := fun v L' => v = .tuple #[] ∧ ∃ (a1 : Option Addr) (c1 : Nat) (r1 : Option Addr) (r2 : Nat) (p1 : Option Addr) (p2 : Nat) (q1 : Option Addr) (q2 : Nat) (mh mp : Nat) (kh kp : List (Value × Value)) (er ec ep eq T6 : List Blk) (cz : List Value), RdD.ok ⟨a1, c1, .slice r1 PZ.rules.length r2, .slice p1 PZ.paths.length p2, .slice q1 PZ.ports.length q2, mh, mp, kh, kp, er, ec, ep, eq, T6, cz⟩ ct rb m L0 PZ (z, (z1, z2, z3)) x ∧ ⟨true, n5, .cells #[.int .i64 0, .int .i64 0, .int .i64 0] 25 (0, 0)⟩ :: ⟨true, n4, .cells #[.string ⟨#[]⟩, .int .u32 0, .slice none 0 0, .int .u16 0, .slice none 0 0, .slice none 0 0] 36 (0, 0)⟩ :: rdB nb (.pointer (some ⟨pb, 0, none⟩)) a1 z.length c1 (z1, z2, z3) ⟨.string (mB8 PZ.nm), .int .u32 PZ.df, .slice r1 PZ.rules.length r2, .int .u16 (PZ.hd : Nat), .slice p1 PZ.paths.length p2, .slice q1 PZ.ports.length q2, .map (some mh), .map (some mp)⟩ :: x :: prB pb ct rb :: mapB mh kh :: mapB mp kp :: (er ++ (ep ++ (eq ++ T6))) = L') (by
      rintro v L' ⟨rfl, ⟨a1, c1, vr, vp, vq, mh, mp, kh, kp, er, ec, ep, eq, T6, cz⟩, hd, rfl⟩
      obtain ⟨r1, r2, e1, -⟩ := hd.vr.sli []
      obtain ⟨p1, p2, e2, -⟩ := hd.vp.sli []
      obtain ⟨q1, q2, e3, -⟩ := hd.vq.sli []
      dsimp only at e1 e2 e3
      subst e1 e2 e3
      exact ⟨_, ⟨rfl, a1, c1, r1, r2, p1, p2, q1, q2, mh, mp, kh, kp, er, ec, ep, eq, T6, cz, hd, rfl⟩, fun _ H => H⟩)
    clear hal hlx2 h0 hts hxb ho
    by_cases hz : (z1, z2, z3) = ((0, 0, 0) : Wr)
    · rw [if_pos hz]
      injection hz with y1 y2
      injection y2 with y2 y3
      subst y1 y2 y3
      repeat' (first | refine G_seq ?_ | refine G_then_n ?_ | refine G_skip ?_ | refine G_ret ?_ | refine G_cond_f rfl ?_ | (refine G_region (id := 7) ?_ <;> (try refine G_op1 ?_; (apply K1_ev; exact rfl; exact E_move rfl)) <;> (try refine G_op1 ?_; (apply K1_call (F := 23); kernel_rfl; exact rfl; exact rfl; apply hal2; rintro _ _ ⟨rfl, a1, c1, r1, r2, p1, p2, q1, q2, mh, mp, kh, kp, er, ec, ep, eq, T6, cz, hd, rfl⟩; (try simp only [List.eraseIdx_cons_succ]); (try simp only [List.eraseIdx_cons_zero]))) <;> (try refine G_nil ?_)) | (refine G_region (id := 8) ?_ <;> (try refine G_op1 ?_; (apply K1_ev; exact rfl; exact E_move rfl)) <;> (try refine G_op1 ?_; (apply K1_ev; exact rfl; exact E_nilCheck rfl)) <;> (try refine G_op1 ?_; (apply K1_ev; exact rfl; (focus (apply E_fieldAddr; exact rfl; exact r_fieldAt0 fo_85_2)))) <;> (try refine G_op1 ?_; (apply K1_ev; exact rfl; (focus (apply E_loadA (t := 25); exact rfl; (focus (repeat (first | exact fd0 | apply fdS))); kernel_rfl; kernel_rfl; exact sz_25; exact Nat.le_of_ble_eq_true rfl; (focus ((try simp only [List.drop_succ_cons]); (try simp only [List.drop_zero]); (try simp only [List.take_succ_cons]); (try simp only [List.take_zero]); (try simp only [List.take_nil]); exact rfl)))))) <;> (try refine G_op1 ?_; (apply K1_ev; exact rfl; exact E_build (t := 25) (fun (vs : List (Nat × Value)) => (match vs with | [] => [Value.int .i64 0, Value.int .i64 0, Value.int .i64 0] | _ => [] : List Value)) rfl (fun w => by kernel_rfl); (try simp only [Value.cells]); (try simp only [List.cons_append]); (try simp only [List.nil_append]))) <;> (try refine G_op1 ?_; (apply K1_ev; exact rfl; (focus (apply E_bin_agg (op := .neq) (t := 25); exact rfl; exact rfl; kernel_rfl; (apply rb_neq_agg Tryz.underlying25 (by kernel_rfl); apply EqF.int; (focus (simp)); exact Tryz.underlying3; exact rfl; exact rfl; exact rfl; apply EqF.int; (focus (simp)); exact Tryz.underlying3; exact rfl; exact rfl; exact rfl; exact EqF.int1 (by simp) Tryz.underlying23 rfl rfl rfl))))) <;> (try refine G_nil ?_)) | (refine G_region (id := 10) ?_ <;> (try refine G_op1 ?_; (apply K1_ev; exact rfl; exact E_move rfl)) <;> (try refine G_op1 ?_; (apply K1_ev; exact rfl; exact E_nilCheck rfl)) <;> (try refine G_op1 ?_; (apply K1_ev; exact rfl; (focus (apply E_fieldAddr; exact rfl; exact r_fieldAt0 fo_85_3)))) <;> (try refine G_op1 ?_; (apply K1_ev; exact rfl; (focus (apply E_loadA (t := 36); exact rfl; (focus (repeat (first | exact fd0 | apply fdS))); kernel_rfl; kernel_rfl; exact sz_36; exact Nat.le_of_ble_eq_true rfl; (focus ((try simp only [List.drop_succ_cons]); (try simp only [List.drop_zero]); (try simp only [List.take_succ_cons]); (try simp only [List.take_zero]); (try simp only [List.take_nil]); exact rfl)))))) <;> (try refine G_op1 ?_; (apply K1_ev; exact rfl; exact E_build (t := 25) (fun (vs : List (Nat × Value)) => (match vs with | [] => [Value.int .i64 0, Value.int .i64 0, Value.int .i64 0] | _ => [] : List Value)) rfl (fun w => by kernel_rfl); (try simp only [Value.cells]); (try simp only [List.cons_append]); (try simp only [List.nil_append]))) <;> (try refine G_op1 ?_; (apply K1_storeW (t := 36); exact rfl; exact rfl; (focus (repeat (first | exact fd0 | apply fdS))); kernel_rfl; exact rfl; exact rfl; (try simp only [List.set_cons_succ]); (try simp only [List.set_cons_zero]))) <;> (try refine G_op1 ?_; (apply K1_storeW (t := 25); exact rfl; exact rfl; exact fd0; kernel_rfl; exact rfl; exact rfl; (try simp only [List.set_cons_succ]); (try simp only [List.set_cons_zero]))) <;> (try refine G_nil ?_)))
      (apply G_done Tryz.results10; (focus (apply Res.agg; exact rfl; (focus (repeat (first | exact fd0 | (with_reducible assumption) | apply fdA | apply fdS))); kernel_rfl; kernel_rfl; (focus (first | (with_reducible assumption) | exact rfl | (simp; done))); exact sz_36; apply Res.agg; exact rfl; (focus (repeat (first | exact fd0 | (with_reducible assumption) | apply fdA | apply fdS))); kernel_rfl; kernel_rfl; (focus (first | (with_reducible assumption) | exact rfl | (simp; done))); exact sz_25; exact Res.nil)))
      obtain ⟨T7, hT7, hg7⟩ := hd.T.get (S := S) (w0 := w0) ec
      refine ⟨_, ⟨⟨.slice r1 PZ.rules.length r2, .slice p1 PZ.paths.length p2, .slice q1 PZ.ports.length q2, cz, er, ec, ep, eq⟩, _, T7, rfl, ⟨hd.rs, hd.vr, hd.vp, hd.vq, hd.hd, hd.l1, hd.l2, hd.l3⟩, Nat.add_le_add_left hd.l1 m, hT7, rfl⟩, fun w H => ?_⟩
      have H1 : HP S w0 w ((prB pb ct rb :: (er ++ (ep ++ eq))) ++ T6) := by
        simp only [List.cons_append, List.append_assoc]
        revert w
        intro w H; refine H.sub ?_; (try simp only [List.cons_append, List.nil_append]); repeat (first | exact List.Sublist.refl _ | refine List.Sublist.cons_cons _ ?_ | refine List.Sublist.cons _ ?_)
      have H2 := hg7 w _ H1
      unfold PoD.blocks
      simp only [List.cons_append, List.append_assoc] at H2 ⊢
      exact H2
    · rw [if_neg hz]
      have hq := wr_ne z1 z2 z3
      rw [decide_eq_false hz] at hq
      repeat' (first | refine G_seq ?_ | refine G_then_n ?_ | refine G_then_r ?_ | refine G_ret ?_ | refine G_cond_t rfl ?_ | (refine G_region (id := 7) ?_ <;> (try refine G_op1 ?_; (apply K1_ev; exact rfl; exact E_move rfl)) <;> (try refine G_op1 ?_; (apply K1_call (F := 23); kernel_rfl; exact rfl; exact rfl; apply hal2; rintro _ _ ⟨rfl, a1, c1, r1, r2, p1, p2, q1, q2, mh, mp, kh, kp, er, ec, ep, eq, T6, cz, hd, rfl⟩; (try simp only [List.eraseIdx_cons_succ]); (try simp only [List.eraseIdx_cons_zero]))) <;> (try refine G_nil ?_)) | (refine G_region (id := 8) ?_ <;> (try refine G_op1 ?_; (apply K1_ev; exact rfl; exact E_move rfl)) <;> (try refine G_op1 ?_; (apply K1_ev; exact rfl; exact E_nilCheck rfl)) <;> (try refine G_op1 ?_; (apply K1_ev; exact rfl; (focus (apply E_fieldAddr; exact rfl; exact r_fieldAt0 fo_85_2)))) <;> (try refine G_op1 ?_; (apply K1_ev; exact rfl; (focus (apply E_loadA (t := 25); exact rfl; (focus (repeat (first | exact fd0 | apply fdS))); kernel_rfl; kernel_rfl; exact sz_25; exact Nat.le_of_ble_eq_true rfl; (focus ((try simp only [List.drop_succ_cons]); (try simp only [List.drop_zero]); (try simp only [List.take_succ_cons]); (try simp only [List.take_zero]); (try simp only [List.take_nil]); exact rfl)))))) <;> (try refine G_op1 ?_; (apply K1_ev; exact rfl; exact E_build (t := 25) (fun (vs : List (Nat × Value)) => (match vs with | [] => [Value.int .i64 0, Value.int .i64 0, Value.int .i64 0] | _ => [] : List Value)) rfl (fun w => by kernel_rfl); (try simp only [Value.cells]); (try simp only [List.cons_append]); (try simp only [List.nil_append]))) <;> (try refine G_op1 ?_; (apply K1_ev; exact rfl; (focus (apply E_bin_agg (op := .neq) (t := 25); exact rfl; exact rfl; kernel_rfl; (with_reducible assumption))))) <;> (try refine G_nil ?_)) | ((apply G_regionHc (i := 0) (j := 0) (id := 9) (m := 7); (focus ((try simp only [List.eraseIdx_cons_succ]); (try simp only [List.eraseIdx_cons_zero]); exact rfl)); kernel_rfl; exact rfl) <;> (try apply H_take (i := 0); exact rfl; kernel_rfl; kernel_rfl; kernel_rfl; exact rfl; (focus (intro w H; refine H.sub ?_; (try simp only [List.cons_append, List.nil_append]); repeat (first | exact List.Sublist.refl _ | refine List.Sublist.cons _ ?_))); (focus (apply Y_ev; exact E_build (t := 36) (fun (vs : List (Nat × Value)) => (match vs with | [] => [Value.string ⟨#[]⟩, Value.int .u32 0, Value.slice none 0 0, Value.int .u16 0, Value.slice none 0 0, Value.slice none 0 0] | _ => [] : List Value)) rfl (fun w => by kernel_rfl))); (try simp only [Value.cells]); (try simp only [List.cons_append]); (try simp only [List.nil_append])) <;> (try apply H_take (i := 1); exact rfl; kernel_rfl; kernel_rfl; kernel_rfl; exact rfl; (focus (intro w H; refine H.sub ?_; (try simp only [List.cons_append, List.nil_append]); repeat (first | exact List.Sublist.refl _ | refine List.Sublist.cons _ ?_))); (focus (apply Y_ev; exact E_move rfl))) <;> (try apply H_take (i := 2); exact rfl; kernel_rfl; kernel_rfl; kernel_rfl; exact rfl; (focus (intro w H; refine H.sub ?_; (try simp only [List.cons_append, List.nil_append]); repeat (first | exact List.Sublist.refl _ | refine List.Sublist.cons _ ?_))); (focus (apply Y_ev; exact E_nilCheck rfl))) <;> (try apply H_take (i := 3); exact rfl; kernel_rfl; kernel_rfl; kernel_rfl; exact rfl; (focus (intro w H; refine H.sub ?_; (try simp only [List.cons_append, List.nil_append]); repeat (first | exact List.Sublist.refl _ | refine List.Sublist.cons _ ?_))); (focus (apply Y_ev; (apply E_fieldAddr; exact rfl; exact r_fieldAt0 fo_85_2)))) <;> (try apply H_take (i := 4); exact rfl; kernel_rfl; kernel_rfl; kernel_rfl; exact rfl; (focus (intro w H; refine H.sub ?_; (try simp only [List.cons_append, List.nil_append]); repeat (first | exact List.Sublist.refl _ | refine List.Sublist.cons _ ?_))); (focus (apply Y_ev; (apply E_loadA (t := 25); exact rfl; exact fd0; kernel_rfl; kernel_rfl; exact sz_25; exact Nat.le_of_ble_eq_true rfl; (focus ((try simp only [List.drop_succ_cons]); (try simp only [List.drop_zero]); (try simp only [List.take_succ_cons]); (try simp only [List.take_zero]); (try simp only [List.take_nil]); exact rfl)))))) <;> (try refine H_run (i := 5) rfl (by kernel_rfl) ?_; (apply K1_storeW (t := 36); exact rfl; exact rfl; (focus (repeat (first | exact fd0 | apply fdS))); kernel_rfl; exact rfl; exact rfl; (try simp only [List.set_cons_succ]); (try simp only [List.set_cons_zero])); refine H_go ?_ ?_; (focus (intro w H; refine H.sub ?_; (try simp only [List.cons_append, List.nil_append]); repeat (first | exact List.Sublist.refl _ | refine List.Sublist.cons _ ?_)))) <;> (try refine H_run (i := 6) rfl (by kernel_rfl) ?_; (apply K1_storeW (t := 25); exact rfl; exact rfl; exact fd0; kernel_rfl; exact rfl; exact rfl; (try simp only [List.set_cons_succ]); (try simp only [List.set_cons_zero])); refine H_go ?_ ?_; (focus (intro w H; refine H.sub ?_; (try simp only [List.cons_append, List.nil_append]); repeat (first | exact List.Sublist.refl _ | refine List.Sublist.cons _ ?_)))) <;> (try refine H_done (by kernel_rfl) ?_)))
      (apply G_done Tryz.results10; (focus (apply Res.agg; exact rfl; (focus (repeat (first | exact fd0 | (with_reducible assumption) | apply fdA | apply fdS))); kernel_rfl; kernel_rfl; (focus (first | (with_reducible assumption) | exact rfl | (simp; done))); exact sz_36; apply Res.agg; exact rfl; (focus (repeat (first | exact fd0 | (with_reducible assumption) | apply fdA | apply fdS))); kernel_rfl; kernel_rfl; (focus (first | (with_reducible assumption) | exact rfl | (simp; done))); exact sz_25; exact Res.nil)))
      obtain ⟨T7, hT7, hg7⟩ := hd.T.get (S := S) (w0 := w0) ec
      obtain ⟨m1, m2, o, rfl⟩ := hT7
      refine ⟨_, ⟨zPoD, _, _, rfl, zPoD_ok, Nat.add_le_add_left hd.l1 m, ⟨m1, m2, o, rfl⟩, rfl⟩, fun w H => ?_⟩
      have H1 : HP S w0 w ([prB pb ct rb] ++ T6) := by
        revert w
        intro w H; refine H.sub ?_; (try simp only [List.cons_append, List.nil_append]); repeat (first | exact List.Sublist.refl _ | refine List.Sublist.cons_cons _ ?_ | refine List.Sublist.cons _ ?_ | refine List.sublist_append_of_sublist_right ?_)
      have H2 := hg7 w _ H1
      exact H2.sub (List.Sublist.cons_cons _ (List.sublist_append_right _ _))
theorem callsn_p {S w0 L} : Fn Tryz.prog 11 #[.pointer none] S w0 L fun v L' => v = .pointer none ∧ L = L' := by
  refine Fn1 Tryz.func11 Tryz.ntmps11 rfl rfl ?_
  repeat' (first | refine G_seq ?_ | refine G_then_n ?_ | refine G_then_r ?_ | refine G_ret ?_ | refine G_cond_t rfl ?_ | (refine G_region (id := 0) ?_ <;> (try refine G_op1 ?_; (apply K1_ev; exact rfl; exact E_assign rfl)) <;> (try refine G_nil ?_)) | (refine G_region (id := 1) ?_ <;> (try refine G_op1 ?_; (apply K1_ev; exact rfl; exact E_move rfl)) <;> (try refine G_op1 ?_; (apply K1_ev; exact rfl; (focus (apply E_bin (op := .eql) (t := 38); exact rfl; exact rfl; exact rfl; exact rb_peq_nn Tryz.underlying38)))) <;> (try refine G_nil ?_)) | (refine G_region (id := 2) ?_ <;> (try refine G_op1 ?_; (apply K1_ev; exact rfl; exact E_assign rfl)) <;> (try refine G_nil ?_)))
  (refine G_done Tryz.results11 (.tmp rfl .nil) ?_)
  exact ⟨_, ⟨rfl, rfl⟩, by intro w H; refine H.sub ?_; (try simp only [List.cons_append, List.nil_append]); repeat (exact List.Sublist.refl _)⟩
end Go.Proofs.YtecbgehooembmaaGreatDoor
namespace Go.Proofs.YtecbgehooembmaaGreatDoor
open Go Go.RowKit
theorem new_q {S w0 L} : Fn Tryz.prog 9 #[] S w0 L fun v L' => ∃ pb ct rb, v = .pointer (some ⟨pb, 0, none⟩) ∧ prB pb ct rb :: tbl0 ct 0 0 :: Rg.wrd0 rb :: L = L' := by
  refine Fn0 Tryz.func9 Tryz.ntmps9 rfl ?_
  repeat' (first | refine G_seq ?_ | refine G_nil ?_ | refine G_then_n ?_ | refine G_cut_n ?_ | refine G_cut_x ?_ | refine G_cut_r ?_ | refine G_then_x ?_ | refine G_then_r ?_ | refine G_blk_n ?_ | refine G_blk_r ?_ | refine G_blk_x ?_ | refine G_blk_y rfl ?_ | refine G_block ?_ | refine G_skip ?_ | refine G_exit ?_ | refine G_ret ?_ | refine G_cond_t rfl ?_ | refine G_cond_f rfl ?_ | (refine G_region (id := 0) ?_ <;> (try refine G_op1 ?_; (first | (apply K1_ev; exact rfl; exact E_assign rfl))) <;> (try refine G_nil ?_)) | (refine G_region (id := 1) ?_ <;> (try refine G_op1 ?_; (first | (first | (apply K1_call (F := 20); kernel_rfl; exact rfl; exact rfl; apply new_c; rintro _ _ ⟨ct, rfl, rfl⟩; (try simp only [List.eraseIdx_cons_succ]); (try simp only [List.eraseIdx_cons_zero]))))) <;> (try refine G_op1 ?_; (first | (first | (apply K1_call (F := 21); kernel_rfl; exact rfl; exact rfl; apply Rg.rnew_c; rintro _ _ ⟨rb, rfl, rfl⟩; (try simp only [List.eraseIdx_cons_succ]); (try simp only [List.eraseIdx_cons_zero]))))) <;> (try refine G_op1 ?_; (first | (apply K1_ev; exact rfl; exact E_build (t := 77) (fun (vs : List (Nat × Value)) => (match vs with | [(_, x0), (_, x1)] => [x0, x1] | _ => [] : List Value)) rfl (fun w => by kernel_rfl); (try simp only [Value.cells]); (try simp only [List.cons_append]); (try simp only [List.nil_append])))) <;> (try refine G_op1 ?_; (first | (refine K1_box (t := 77) rfl rfl ?_; intro nb hnb; (try simp only [Value.cells])))) <;> (try refine G_op1 ?_; (first | (apply K1_ev; exact rfl; exact E_assign rfl))) <;> (try refine G_nil ?_)) | ((first | (refine G_cond_nd rfl (fun hc => ?_) (fun hc => ?_)) | (refine G_cond_d rfl (fun hc => ?_) (fun hc => ?_)) | (refine G_cond rfl (fun hc => ?_) (fun hc => ?_))) <;> (try subst hc)))
  (refine G_done Tryz.results9 (.tmp rfl .nil) ?_)
  exact ⟨_, ⟨_, ct, rb, rfl, rfl⟩, fun w H => H.re2 (env := [[_], [_], [_], L]) [0, 1, 2, 3] [0, 2, 1, 3] (by decide) rfl rfl⟩
theorem wr_same (a b c : Int) : RBin Tryz.prog .eql 25 (.agg #[.int .i64 a, .int .i64 b, .int .i64 c]) (.agg #[.int .i64 a, .int .i64 b, .int .i64 c]) (.bool true) := by
  apply RBin.mk
  intro w
  go_simp
def PqR (l : List UInt8) (v : Value) : Prop := ∃ (nm : ByteArray) (df : Int) (r1 : Option Addr) (r2 r3 : Nat) (hd : Int) (p1 : Option Addr) (p2 p3 : Nat) (q1 : Option Addr) (q2 q3 : Nat),
  v = tupleOf [.agg #[.string nm, .int .u32 df, .slice r1 r2 r3, .int .u16 hd, .slice p1 p2 p3, .slice q1 q2 q3], .agg (wrA (polF l).2).toArray]
theorem PoD.ok.sl {d : PoD} {P : Pol} (h : d.ok P) : ∃ r1 r3 p1 p3 q1 q3, d.vr = .slice r1 P.rules.length r3 ∧ d.vp = .slice p1 P.paths.length p3 ∧ d.vq = .slice q1 P.ports.length q3 := by
  obtain ⟨r1, r2, e1, -⟩ := h.vr.sli []
  obtain ⟨p1, p2, e2, -⟩ := h.vp.sli []
  obtain ⟨q1, q2, e3, -⟩ := h.vq.sli []
  exact ⟨r1, r2, p1, p2, q1, q2, e1, e2, e3⟩
theorem parse_q {S w0 L} (e : List Blk) (pb ct rb : Nat) (s : ByteArray) (hs : s.size ≤ 1000000) :
    Fn Tryz.prog 10 #[.pointer (some ⟨pb, 0, none⟩), .string s] S w0 (e ++ (prB pb ct rb :: tbl0 ct 0 0 :: Rg.wrd0 rb :: L)) fun v L' => PqR (lB s) v ∧ e ++ L = L' := by
  refine Fn.weak (fun w H => ?_) ((parse_c (S := S) (w0 := w0) pb ct rb 0 (e ++ L) _ (by omega) ⟨0, 0, none, rfl⟩ s hs).mono ?_)
  · exact H.re2 (env := [e, [prB pb ct rb], [tbl0 ct 0 0], [Rg.wrd0 rb], L]) [0, 1, 2, 3, 4] [1, 2, 3, 0, 4] (by decide) rfl rfl
  · rintro v L' ⟨d, m', T', rfl, hd, -, ⟨m1, m2, o, rfl⟩, rfl⟩
    obtain ⟨r1, r3, p1, p3, q1, q3, e1, e2, e3⟩ := hd.sl
    refine ⟨_, ⟨⟨_, _, r1, _, r3, _, p1, _, p3, q1, _, q3, by rw [e1, e2, e3]⟩, rfl⟩, fun w H => ?_⟩
    refine H.sub (List.Sublist.cons _ ?_)
    rw [← List.append_assoc, ← List.append_assoc]
    exact List.sublist_append_right _ _
end Go.Proofs.YtecbgehooembmaaGreatDoor
namespace Go.Proofs.YtecbgehooembmaaGreatDoor
open Go Go.RowKit
section
variable {P : Program} {n : Nat} {l : List (Nat × Value)} {S : List Nat} {w0 : World} {L : List Blk} {k : Kont} {ops : Array Oper}
structure TagC (p : Prop) : Prop where
  out : p
theorem H_run3t {i j m fuel : Nat} {listed : Array Bool} {Lb : List Blk} {o o' o'' : Oper} (hi : ops[i]? = some o) (hj : ops[j]? = some o') (hm : ops[m]? = some o'') (hr : Region.ready .any ops listed = [i, j, m]) (h : TagA (G n l S w0 L (K1 P ops k o (KHS P S w0 Lb ops k fuel (listed.setIfInBounds i true)))))
    (h' : TagB (G n l S w0 L (K1 P ops k o' (KHS P S w0 Lb ops k fuel (listed.setIfInBounds j true))))) (h'' : TagC (G n l S w0 L (K1 P ops k o'' (KHS P S w0 Lb ops k fuel (listed.setIfInBounds m true))))) : G n l S w0 L (KH P S w0 Lb ops k (fuel + 1) listed) := .mk fun a w hF H => by
  refine ⟨wpAnyH_all hr (by simp) fun q hq => ?_⟩
  rcases (show q = i ∨ q = j ∨ q = m by simpa using hq) with rfl | rfl | rfl
  · have hh := (h.out.out a w hF H).out
    unfold wpOp
    simp only [hi]
    split
    · rename_i hw; rw [if_pos hw] at hh; exact .inl (Oper.wp_mono (fun _ _ h => ⟨h.out.1, h.out.2.out⟩) hh)
    · rename_i hw; rw [if_neg hw] at hh; exact ⟨hh.out.1, hh.out.2.out⟩
  · have hh := (h'.out.out a w hF H).out
    unfold wpOp
    simp only [hj]
    split
    · rename_i hw; rw [if_pos hw] at hh; exact .inl (Oper.wp_mono (fun _ _ h => ⟨h.out.1, h.out.2.out⟩) hh)
    · rename_i hw; rw [if_neg hw] at hh; exact ⟨hh.out.1, hh.out.2.out⟩
  · have hh := (h''.out.out a w hF H).out
    unfold wpOp
    simp only [hm]
    split
    · rename_i hw; rw [if_pos hw] at hh; exact .inl (Oper.wp_mono (fun _ _ h => ⟨h.out.1, h.out.2.out⟩) hh)
    · rename_i hw; rw [if_neg hw] at hh; exact ⟨hh.out.1, hh.out.2.out⟩
end
end Go.Proofs.YtecbgehooembmaaGreatDoor
namespace Go.Proofs.YtecbgehooembmaaGreatDoor
open Go Go.RowKit
abbrev AT10 : ByteArray := ⟨#[112, 111, 108, 105, 99, 121, 32, 112, 10, 100, 101, 102, 97, 117, 108, 116, 32, 97, 108, 108, 111, 119, 10, 99, 97, 108, 108, 32, 119, 114, 105, 116, 101, 32, 107, 105, 108, 108, 10]⟩
theorem at10_pol : polF (lB AT10) = (⟨[112], 2147418112, [⟨1, 2147483648, []⟩], 0, [], []⟩, (0, 0, 0)) := by kernel_rfl
theorem RulsR.inv {rs : List RulP} {cz : List Value} {ec : List Blk} (h : RulsR rs cz ec) : (rs = [] ∧ cz = [] ∧ ec = []) ∨ ∃ rs' cz' ec' r v e, rs = rs' ++ [r] ∧ cz = cz' ++ [.int .u32 r.num, .int .u32 r.act, v] ∧ ec = e ++ ec' ∧ RulsR rs' cz' ec' ∧ Own 99 4 v r.conds.length (cndC r.conds) e := by
  cases h with
  | nil => exact Or.inl ⟨rfl, rfl, rfl⟩
  | snoc h1 h2 => exact Or.inr ⟨_, _, _, _, _, _, rfl, rfl, rfl, h1, h2⟩
theorem rules_one {r : RulP} {cz : List Value} {ec : List Blk} (h : RulsR [r] cz ec) : ∃ v, cz = [.int .u32 r.num, .int .u32 r.act, v] := by
  rcases h.inv with ⟨h1, -⟩ | ⟨rs', cz', ec', r', v, e, h1, h2, -, h3, -⟩
  · cases h1
  · have hl := congrArg List.length h1
    rw [List.length_append] at hl
    obtain rfl : rs' = [] := List.eq_nil_of_length_eq_zero (by simpa using hl)
    injection h1 with h4 h5
    subst h4
    rcases h3.inv with ⟨-, h6, -⟩ | ⟨rs2, cz2, ec2, r2, v2, e2, h6, -⟩
    · exact ⟨v, by rw [h2, h6]; rfl⟩
    · have hl := congrArg List.length h6
      rw [List.length_append] at hl
      simp at hl
theorem pw10_c {S w0 L} (pb ct rb : Nat) : Fn Tryz.prog 10 #[.pointer (some ⟨pb, 0, none⟩), .string AT10] S w0 (prB pb ct rb :: tbl0 ct 0 0 :: Rg.wrd0 rb :: L) fun v L' => ∃ g cap cur p1 p2 p3 q1 q2 q3,
    v = tupleOf [.agg #[.string ⟨#[112]⟩, .int .u32 2147418112, .slice (some ⟨g, 0, none⟩) 1 cap, .int .u16 0, .slice p1 p2 p3, .slice q1 q2 q3], .agg #[.int .i64 0, .int .i64 0, .int .i64 0]] ∧ 3 ≤ cur.size ∧ cur.toList[0]? = some (.int .u32 1) ∧ cur.toList[1]? = some (.int .u32 2147483648) ∧ ⟨true, g, .cells cur 73 (0, 0)⟩ :: L = L' := by
  refine (parse_c (S := S) (w0 := w0) pb ct rb 0 L (tbl0 ct 0 0 :: Rg.wrd0 rb :: L) (by omega) ⟨0, 0, none, rfl⟩ AT10 (by decide)).mono ?_
  rintro v L' ⟨d, m', T', rfl, hd, -, ⟨m1, m2, o, rfl⟩, rfl⟩
  rw [at10_pol] at hd ⊢
  obtain ⟨r1, r3, p1, p3, q1, q3, e1, e2, e3⟩ := hd.sl
  obtain ⟨vc, hcz⟩ := rules_one hd.rs
  rcases own_cases hd.vr with ⟨h1, h0, -, -⟩ | ⟨g, cap, cur, h1, h2, h3, h4, h5, h6⟩
  · cases h0
  · rw [hcz] at h6
    have h7 : ∀ i : Nat, i < 3 → cur.toList[i]? = [Value.int .u32 1, .int .u32 2147483648, vc][i]? := by
      intro i hi
      have h8 : (cur.toList.take 3)[i]? = [Value.int .u32 1, .int .u32 2147483648, vc][i]? := by
        show (cur.toList.take (1 * 3))[i]? = _
        rw [show (1 : Nat) = ([⟨1, 2147483648, []⟩] : List RulP).length from rfl, h6]
      rw [← h8, List.getElem?_take_of_lt hi]
    have h9 : ([⟨1, 2147483648, []⟩] : List RulP).length = 1 := rfl
    rw [h9] at h3
    refine ⟨_, ⟨g, cap, cur, p1, _, p3, q1, _, q3, by rw [h1, e2, e3]; rfl, by omega, h7 0 (by omega), h7 1 (by omega), rfl⟩, fun w H => ?_⟩
    unfold PoD.blocks at H
    rw [h2] at H
    refine H.sub (List.Sublist.cons _ ?_)
    simp only [List.cons_append, List.nil_append]
    refine List.Sublist.cons_cons _ ?_
    simp only [← List.append_assoc]
    exact List.sublist_append_right _ _
set_option maxRecDepth 100000 in
theorem awake10_c {S w0 L} : Fn Tryz.prog 8 #[] S w0 L fun v L' => v = .bool true ∧ L = L' := by
  have hp := fun (L : List Blk) (pb ct rb : Nat) => pw10_c (S := S) (w0 := w0) (L := L) pb ct rb
  refine Fn0 Tryz.func8 Tryz.ntmps8 rfl ?_
  repeat' (first | refine G_seq ?_ | refine G_then_n ?_ | refine G_ret ?_ | (refine G_region (id := 0) ?_ <;> (try refine G_op1 ?_; (apply K1_ev; exact rfl; exact E_assign rfl)) <;> (try refine G_nil ?_)) | (refine G_region (id := 1) ?_ <;> (try refine G_op1 ?_; (apply K1_call (F := 9); kernel_rfl; exact rfl; exact rfl; apply new_q; rintro _ _ ⟨pb, ct, rb, rfl, rfl⟩; (try simp only [List.eraseIdx_cons_succ]); (try simp only [List.eraseIdx_cons_zero]))) <;> (try refine G_op1 ?_; (apply K1_call (F := 10); kernel_rfl; exact rfl; exact rfl; apply hp; rintro _ _ ⟨g, cap, cur, p1, p2, p3, q1, q2, q3, rfl, hsz, h0, h1, rfl⟩; (try simp only [List.eraseIdx_cons_succ]); (try simp only [List.eraseIdx_cons_zero]))) <;> (try refine G_op1 ?_; (apply K1_ev; exact rfl; exact E_move rfl)) <;> (try refine G_op1 ?_; (apply K1_ev; exact rfl; exact E_extractL rfl rfl)) <;> (try refine G_op1 ?_; (apply K1_ev; exact rfl; exact E_extractL rfl rfl)) <;> (try refine G_op1 ?_; (refine K1_alloc (t := 36) rfl Tryz.zeroValue36 ?_; intro nb hnb; (try simp only [Value.cells]))) <;> (try refine G_op1 ?_; (refine K1_alloc (t := 25) rfl Tryz.zeroValue25 ?_; intro nb hnb; (try simp only [Value.cells]))) <;> (try refine G_op1 ?_; (apply K1_storeW (t := 36); exact rfl; exact rfl; (focus (repeat (first | exact fd0 | apply fdS))); kernel_rfl; exact rfl; exact rfl; (try simp only [List.set_cons_succ]); (try simp only [List.set_cons_zero]))) <;> (try refine G_op1 ?_; (apply K1_storeW (t := 25); exact rfl; exact rfl; exact fd0; kernel_rfl; exact rfl; exact rfl; (try simp only [List.set_cons_succ]); (try simp only [List.set_cons_zero]))) <;> (try refine G_nil ?_)) | (refine G_region (id := 2) ?_ <;> (try refine G_op1 ?_; (apply K1_ev; exact rfl; (focus (apply E_loadA (t := 25); exact rfl; exact fd0; kernel_rfl; kernel_rfl; exact sz_25; exact Nat.le_of_ble_eq_true rfl; (focus ((try simp only [List.drop_succ_cons]); (try simp only [List.drop_zero]); (try simp only [List.take_succ_cons]); (try simp only [List.take_zero]); (try simp only [List.take_nil]); exact rfl)))))) <;> (try refine G_op1 ?_; (apply K1_ev; exact rfl; exact E_build (t := 25) (fun (vs : List (Nat × Value)) => (match vs with | [] => [Value.int .i64 0, Value.int .i64 0, Value.int .i64 0] | _ => [] : List Value)) rfl (fun w => by kernel_rfl); (try simp only [Value.cells]); (try simp only [List.cons_append]); (try simp only [List.nil_append]))) <;> (try refine G_op1 ?_; (apply K1_ev; exact rfl; (focus (apply E_bin_agg (op := .eql) (t := 25); exact rfl; exact rfl; kernel_rfl; (apply rb_eql_agg Tryz.underlying25 (by kernel_rfl); apply EqF.int; (focus (simp)); exact Tryz.underlying3; exact rfl; exact rfl; exact rfl; apply EqF.int; (focus (simp)); exact Tryz.underlying3; exact rfl; exact rfl; exact rfl; exact EqF.int1 (by simp) Tryz.underlying23 rfl rfl rfl))))) <;> (try refine G_op1 ?_; (apply K1_ev; exact rfl; exact E_move rfl)) <;> (try refine G_op1 ?_; (refine K1_yes rfl rfl rfl ?_; (apply K1_ev; exact rfl; (focus (apply E_fieldAddr; exact rfl; exact r_fieldAt0 fo_36_0))))) <;> (try refine G_op1 ?_; (refine K1_yes rfl rfl rfl ?_; (apply K1_ev; exact rfl; (focus (apply E_load1 (t := 9); exact rfl; (focus (repeat (first | exact fd0 | apply fdS))); kernel_rfl; kernel_rfl; exact rfl))))) <;> (try refine G_op1 ?_; (refine K1_yes rfl rfl rfl ?_; (apply K1_ev; exact rfl; (focus (apply E_bin (op := .eql) (t := 9); exact rfl; exact rfl; exact rfl; exact rb_streq_s))))) <;> (try refine G_op1 ?_; (apply K1_ev; exact rfl; exact E_pick rfl rfl)) <;> (try refine G_op1 ?_; (apply K1_ev; exact rfl; exact E_move rfl)) <;> (try refine G_op1 ?_; (refine K1_yes rfl rfl rfl ?_; (apply K1_ev; exact rfl; (focus (apply E_fieldAddr; exact rfl; exact r_fieldAt0 fo_36_1))))) <;> (try refine G_op1 ?_; (refine K1_yes rfl rfl rfl ?_; (apply K1_ev; exact rfl; (focus (apply E_load1 (t := 29); exact rfl; (focus (repeat (first | exact fd0 | apply fdS))); kernel_rfl; kernel_rfl; exact rfl))))) <;> (try refine G_op1 ?_; (refine K1_yes rfl rfl rfl ?_; (apply K1_ev; exact rfl; (focus (apply E_bin (op := .eql) (t := 29); exact rfl; exact rfl; exact rfl; (focus (refine rb_eql_t' ?_; first | rfl | (with_reducible assumption) | (decide; done) | omega))))))) <;> (try refine G_op1 ?_; (apply K1_ev; exact rfl; exact E_pick rfl rfl)) <;> (try refine G_op1 ?_; (apply K1_ev; exact rfl; exact E_move rfl)) <;> (try refine G_op1 ?_; (refine K1_yes rfl rfl rfl ?_; (apply K1_ev; exact rfl; (focus (apply E_fieldAddr; exact rfl; exact r_fieldAt0 fo_36_2))))) <;> (try refine G_op1 ?_; (refine K1_yes rfl rfl rfl ?_; (apply K1_ev; exact rfl; (focus (apply E_load1 (t := 30); exact rfl; (focus (repeat (first | exact fd0 | apply fdS))); kernel_rfl; kernel_rfl; exact rfl))))) <;> (try refine G_op1 ?_; (refine K1_yes rfl rfl rfl ?_; (apply K1_ev; exact rfl; (focus (apply E_builtin; exact rfl; exact (fun _ => BigFrame.builtin_len ..); apply r_len_slice_e Tryz.underlying30; (focus ((try simp only [Int.cast_ofNat_Int]); exact rfl))))))) <;> (try refine G_op1 ?_; (refine K1_yes rfl rfl rfl ?_; (apply K1_ev; exact rfl; (focus (apply E_bin (op := .eql) (t := 3); exact rfl; exact rfl; exact rfl; (focus (refine rb_eql_t' ?_; first | rfl | (with_reducible assumption) | (decide; done) | omega))))))) <;> (try refine G_op1 ?_; (apply K1_ev; exact rfl; exact E_pick rfl rfl)) <;> (try refine G_op1 ?_; (apply K1_ev; exact rfl; exact E_move rfl)) <;> (try refine G_op1 ?_; (refine K1_yes rfl rfl rfl ?_; (apply K1_ev; exact rfl; (focus (apply E_fieldAddr; exact rfl; exact r_fieldAt0 fo_36_2))))) <;> (try refine G_op1 ?_; (refine K1_yes rfl rfl rfl ?_; (apply K1_ev; exact rfl; (focus (apply E_load1 (t := 30); exact rfl; (focus (repeat (first | exact fd0 | apply fdS))); kernel_rfl; kernel_rfl; exact rfl))))) <;> (try refine G_op1 ?_; (refine K1_yes rfl rfl rfl ?_; (apply K1_ev; exact rfl; (focus (apply E_indexAddr; exact rfl; exact rfl; (focus (apply r_ixs Tryz.underlying30 sz_73; omega; omega; (focus ((try simp only [Int.toNat_natCast]); (try simp only [Int.reduceToNat]); (try simp only [Nat.mul_one]); (try simp only [Nat.zero_mul]); (try simp only [Nat.reduceMul]); (try simp only [Nat.zero_add]); (try simp only [Nat.add_zero]); (try simp only [Nat.reduceAdd]); exact rfl))))))))) <;> (try refine G_op1 ?_; (refine K1_yes rfl rfl rfl ?_; (apply K1_ev; exact rfl; (focus (apply E_fieldAddr; exact rfl; exact r_fieldAt0 fo_73_0))))) <;> (try refine G_op1 ?_; (refine K1_yes rfl rfl rfl ?_; (apply K1_ev; exact rfl; (focus (apply E_load1 (t := 28); exact rfl; (focus (repeat (first | exact fd0 | apply fdS))); kernel_rfl; kernel_rfl; (with_reducible assumption)))))) <;> (try refine G_op1 ?_; (refine K1_yes rfl rfl rfl ?_; (apply K1_ev; exact rfl; (focus (apply E_bin (op := .eql) (t := 28); exact rfl; exact rfl; exact rfl; (focus (refine rb_eql_t' ?_; first | rfl | (with_reducible assumption) | (decide; done) | omega))))))) <;> (try refine G_op1 ?_; (apply K1_ev; exact rfl; exact E_pick rfl rfl)) <;> (try refine G_op1 ?_; (apply K1_ev; exact rfl; exact E_move rfl)) <;> (try refine G_op1 ?_; (refine K1_yes rfl rfl rfl ?_; (apply K1_ev; exact rfl; (focus (apply E_fieldAddr; exact rfl; exact r_fieldAt0 fo_36_2))))) <;> (try refine G_op1 ?_; (refine K1_yes rfl rfl rfl ?_; (apply K1_ev; exact rfl; (focus (apply E_load1 (t := 30); exact rfl; (focus (repeat (first | exact fd0 | apply fdS))); kernel_rfl; kernel_rfl; exact rfl))))) <;> (try refine G_op1 ?_; (refine K1_yes rfl rfl rfl ?_; (apply K1_ev; exact rfl; (focus (apply E_indexAddr; exact rfl; exact rfl; (focus (apply r_ixs Tryz.underlying30 sz_73; omega; omega; (focus ((try simp only [Int.toNat_natCast]); (try simp only [Int.reduceToNat]); (try simp only [Nat.mul_one]); (try simp only [Nat.zero_mul]); (try simp only [Nat.reduceMul]); (try simp only [Nat.zero_add]); (try simp only [Nat.add_zero]); (try simp only [Nat.reduceAdd]); exact rfl))))))))) <;> (try refine G_op1 ?_; (refine K1_yes rfl rfl rfl ?_; (apply K1_ev; exact rfl; (focus (apply E_fieldAddr; exact rfl; exact r_fieldAt0 fo_73_1))))) <;> (try refine G_op1 ?_; (refine K1_yes rfl rfl rfl ?_; (apply K1_ev; exact rfl; (focus (apply E_load1 (t := 29); exact rfl; (focus (repeat (first | exact fd0 | apply fdS))); kernel_rfl; kernel_rfl; (with_reducible assumption)))))) <;> (try refine G_op1 ?_; (refine K1_yes rfl rfl rfl ?_; (apply K1_ev; exact rfl; (focus (apply E_bin (op := .eql) (t := 29); exact rfl; exact rfl; exact rfl; (focus (refine rb_eql_t' ?_; first | rfl | (with_reducible assumption) | (decide; done) | omega))))))) <;> (try refine G_op1 ?_; (apply K1_ev; exact rfl; exact E_pick rfl rfl)) <;> (try refine G_op1 ?_; (apply K1_ev; exact rfl; exact E_assign rfl)) <;> (try refine G_nil ?_)))
  (refine G_done Tryz.results8 (.tmp rfl .nil) ?_)
  exact ⟨_, ⟨rfl, rfl⟩, by intro w H; refine H.sub ?_; (try simp only [List.cons_append, List.nil_append]); repeat (first | exact List.Sublist.refl _ | refine List.Sublist.cons _ ?_)⟩
abbrev HdC : List Value := [.string ⟨#[]⟩, .int .i64 0, .int .i64 0, .int .i64 203, .string ⟨#[100, 101, 102, 97, 117, 108, 116, 32, 97, 108, 108, 111, 119, 10]⟩, .int .i64 1, .int .i64 1, .int .i64 203, .string ⟨#[112, 111, 108, 105, 99, 121, 10]⟩, .int .i64 1, .int .i64 7, .int .i64 203, .string ⟨#[112, 111, 108, 105, 99, 121, 32, 97, 44, 98, 10]⟩, .int .i64 1, .int .i64 8, .int .i64 203, .string ⟨#[112, 111, 108, 105, 99, 121, 32, 97, 98, 99, 100, 101, 102, 103, 104, 105, 106, 107, 108, 109, 110, 111, 10]⟩, .int .i64 1, .int .i64 8, .int .i64 202, .string ⟨#[112, 111, 108, 105, 99, 121, 32, 112, 32, 113, 10]⟩, .int .i64 1, .int .i64 10, .int .i64 203, .string ⟨#[112, 111, 108, 105, 99, 121, 32, 112, 10]⟩, .int .i64 0, .int .i64 0, .int .i64 203, .string ⟨#[112, 111, 108, 105, 99, 121, 32, 112, 10, 99, 97, 108, 108, 32, 111, 112, 101, 110, 32, 97, 108, 108, 111, 119, 10]⟩, .int .i64 2, .int .i64 1, .int .i64 203, .string ⟨#[112, 111, 108, 105, 99, 121, 32, 112, 10, 100, 101, 102, 97, 117, 108, 116, 10]⟩, .int .i64 2, .int .i64 8, .int .i64 203, .string ⟨#[112, 111, 108, 105, 99, 121, 32, 112, 10, 100, 101, 102, 97, 117, 108, 116, 32, 110, 111, 10]⟩, .int .i64 2, .int .i64 9, .int .i64 202, .string ⟨#[112, 111, 108, 105, 99, 121, 32, 112, 10, 100, 101, 102, 97, 117, 108, 116, 32, 101, 114, 114, 110, 111, 32, 53, 32, 54, 10]⟩, .int .i64 2, .int .i64 17, .int .i64 203, .string ⟨#[112, 111, 108, 105, 99, 121, 32, 112, 10, 100, 101, 102, 97, 117, 108, 116, 32, 36, 10]⟩, .int .i64 2, .int .i64 9, .int .i64 202]
def HdW (i : Nat) : Prop := ∃ (t : ByteArray) (a b c : Nat), (HdC.drop (i * 4)).take 4 = [.string t, .int .i64 (a : Nat), .int .i64 (b : Nat), .int .i64 (c : Nat)] ∧ t.size ≤ 1000 ∧ (polF (lB t)).2 = (a, b, c)
theorem hd_0 : HdW 0 := ⟨⟨#[]⟩, 0, 0, 203, rfl, by decide, by kernel_rfl⟩
theorem hd_1 : HdW 1 := ⟨⟨#[100, 101, 102, 97, 117, 108, 116, 32, 97, 108, 108, 111, 119, 10]⟩, 1, 1, 203, rfl, by decide, by kernel_rfl⟩
theorem hd_2 : HdW 2 := ⟨⟨#[112, 111, 108, 105, 99, 121, 10]⟩, 1, 7, 203, rfl, by decide, by kernel_rfl⟩
theorem hd_3 : HdW 3 := ⟨⟨#[112, 111, 108, 105, 99, 121, 32, 97, 44, 98, 10]⟩, 1, 8, 203, rfl, by decide, by kernel_rfl⟩
theorem hd_4 : HdW 4 := ⟨⟨#[112, 111, 108, 105, 99, 121, 32, 97, 98, 99, 100, 101, 102, 103, 104, 105, 106, 107, 108, 109, 110, 111, 10]⟩, 1, 8, 202, rfl, by decide, by kernel_rfl⟩
theorem hd_5 : HdW 5 := ⟨⟨#[112, 111, 108, 105, 99, 121, 32, 112, 32, 113, 10]⟩, 1, 10, 203, rfl, by decide, by kernel_rfl⟩
theorem hd_6 : HdW 6 := ⟨⟨#[112, 111, 108, 105, 99, 121, 32, 112, 10]⟩, 0, 0, 203, rfl, by decide, by kernel_rfl⟩
theorem hd_7 : HdW 7 := ⟨⟨#[112, 111, 108, 105, 99, 121, 32, 112, 10, 99, 97, 108, 108, 32, 111, 112, 101, 110, 32, 97, 108, 108, 111, 119, 10]⟩, 2, 1, 203, rfl, by decide, by kernel_rfl⟩
theorem hd_8 : HdW 8 := ⟨⟨#[112, 111, 108, 105, 99, 121, 32, 112, 10, 100, 101, 102, 97, 117, 108, 116, 10]⟩, 2, 8, 203, rfl, by decide, by kernel_rfl⟩
theorem hd_9 : HdW 9 := ⟨⟨#[112, 111, 108, 105, 99, 121, 32, 112, 10, 100, 101, 102, 97, 117, 108, 116, 32, 110, 111, 10]⟩, 2, 9, 202, rfl, by decide, by kernel_rfl⟩
theorem hd_10 : HdW 10 := ⟨⟨#[112, 111, 108, 105, 99, 121, 32, 112, 10, 100, 101, 102, 97, 117, 108, 116, 32, 101, 114, 114, 110, 111, 32, 53, 32, 54, 10]⟩, 2, 17, 203, rfl, by decide, by kernel_rfl⟩
theorem hd_11 : HdW 11 := ⟨⟨#[112, 111, 108, 105, 99, 121, 32, 112, 10, 100, 101, 102, 97, 117, 108, 116, 32, 36, 10]⟩, 2, 9, 202, rfl, by decide, by kernel_rfl⟩
theorem hd_all (i : Nat) (h : i < 12) : HdW i := by
  obtain rfl | rfl | rfl | rfl | rfl | rfl | rfl | rfl | rfl | rfl | rfl | rfl : i = 0 ∨ i = 1 ∨ i = 2 ∨ i = 3 ∨ i = 4 ∨ i = 5 ∨ i = 6 ∨ i = 7 ∨ i = 8 ∨ i = 9 ∨ i = 10 ∨ i = 11 := by omega
  · exact hd_0
  · exact hd_1
  · exact hd_2
  · exact hd_3
  · exact hd_4
  · exact hd_5
  · exact hd_6
  · exact hd_7
  · exact hd_8
  · exact hd_9
  · exact hd_10
  · exact hd_11
set_option maxRecDepth 100000 in
set_option maxHeartbeats 2000000 in
theorem parseHeads_c {S w0 L} (k : Int) (hk : 0 ≤ k ∧ k < 256) (s : ByteArray) (hs : s.size ≤ maxLen) : Fn Tryz.prog 3 #[.int .u8 k, .string s] S w0 L fun v L' => v = .bool true ∧ L = L' := by
  by_cases hbig : s.size > 100
  · refine Fn2 Tryz.func3 Tryz.ntmps3 rfl rfl ?_
    repeat' (first | refine G_seq ?_ | refine G_then_n ?_ | refine G_then_r ?_ | refine G_skip ?_ | refine G_ret ?_ | refine G_cond_t rfl ?_ | refine G_cond_f rfl ?_ | (refine G_region (id := 0) ?_ <;> (try refine G_op1 ?_; (apply K1_ev; exact rfl; exact E_assign rfl)) <;> (try refine G_nil ?_)) | (refine G_region (id := 1) ?_ <;> (try refine G_op1 ?_; (apply K1_call (F := 8); kernel_rfl; exact rfl; exact rfl; apply awake10_c; rintro _ _ ⟨rfl, rfl⟩; (try simp only [List.eraseIdx_cons_succ]); (try simp only [List.eraseIdx_cons_zero]))) <;> (try refine G_op1 ?_; (apply K1_ev; exact rfl; (focus (apply E_un; exact rfl; exact ru_not_t)))) <;> (try refine G_nil ?_)) | (refine G_region (id := 3) ?_ <;> (try refine G_op1 ?_; (apply K1_ev; exact rfl; exact E_move rfl)) <;> (try refine G_op1 ?_; (apply K1_ev; exact rfl; exact E_builtin rfl (fun _ => BigFrame.builtin_len ..) (r_len_string Tryz.underlying9))) <;> (try refine G_op1 ?_; (apply K1_ev; exact rfl; (focus (apply E_bin (op := .gtr) (t := 3); exact rfl; exact rfl; exact rfl; (focus (refine rb_gtr_t ?_; first | (with_reducible assumption) | (decide; done) | omega)))))) <;> (try refine G_nil ?_)) | (refine G_region (id := 4) ?_ <;> (try refine G_op1 ?_; (apply K1_ev; exact rfl; exact E_assign rfl)) <;> (try refine G_nil ?_)))
    (refine G_done Tryz.results3 (.tmp rfl .nil) ?_)
    exact ⟨_, ⟨rfl, rfl⟩, by intro w H; refine H.sub ?_; (try simp only [List.cons_append, List.nil_append]); repeat (exact List.Sublist.refl _)⟩
  · obtain ⟨t, a, b, c, h4, ht, hpw⟩ := hd_all (k % 12).toNat (by omega)
    have hsm := wr_same a b c
    have hs2 := wr_same 0 0 201
    have hp := fun (L e : List Blk) (pb ct rb : Nat) => (parse_q (S := S) (w0 := w0) (L := L) e pb ct rb t (by omega)).mono (R' := fun v L' => ∃ (nm : ByteArray) (df : Int) (r1 : Option Addr) (r2 r3 : Nat) (hd : Int) (p1 : Option Addr) (p2 p3 : Nat) (q1 : Option Addr) (q2 q3 : Nat), v = tupleOf [.agg #[.string nm, .int .u32 df, .slice r1 r2 r3, .int .u16 hd, .slice p1 p2 p3, .slice q1 q2 q3], .agg #[.int .i64 (a : Nat), .int .i64 (b : Nat), .int .i64 (c : Nat)]] ∧ e ++ L = L') (by
      rintro v L' ⟨⟨nm, df, r1, r2, r3, hd, p1, p2, p3, q1, q2, q3, rfl⟩, rfl⟩
      exact ⟨_, ⟨nm, df, r1, r2, r3, hd, p1, p2, p3, q1, q2, q3, by rw [hpw], rfl⟩, fun _ H => H⟩)
    have hp0 := fun (L : List Blk) => hp L []
    have hp1 := fun (L : List Blk) (x : Blk) => hp L [x]
    have hp2 := fun (L : List Blk) (x y : Blk) => hp L [x, y]
    clear hp hpw
    dsimp only [List.cons_append, List.nil_append] at hp0 hp1 hp2
    have hpn := fun (L : List Blk) => parsen_c (S := S) (w0 := w0) (L := L) s
    dsimp only [polC, zPol, wrA] at hpn
    have emp : mB8 ([] : List UInt8) = ⟨#[]⟩ := rfl
    rw [emp] at hpn
    refine Fn2 Tryz.func3 Tryz.ntmps3 rfl rfl ?_
    repeat' (first | (refine G_markr (id := 7) ?_) | refine G_seq ?_ | refine G_then_n ?_ | refine G_skip ?_ | refine G_cond_f rfl ?_ | (refine G_region (id := 0) ?_ <;> (try refine G_op1 ?_; (apply K1_ev; exact rfl; exact E_assign rfl)) <;> (try refine G_nil ?_)) | (refine G_region (id := 1) ?_ <;> (try refine G_op1 ?_; (apply K1_call (F := 8); kernel_rfl; exact rfl; exact rfl; apply awake10_c; rintro _ _ ⟨rfl, rfl⟩; (try simp only [List.eraseIdx_cons_succ]); (try simp only [List.eraseIdx_cons_zero]))) <;> (try refine G_op1 ?_; (apply K1_ev; exact rfl; (focus (apply E_un; exact rfl; exact ru_not_t)))) <;> (try refine G_nil ?_)) | (refine G_region (id := 3) ?_ <;> (try refine G_op1 ?_; (apply K1_ev; exact rfl; exact E_move rfl)) <;> (try refine G_op1 ?_; (apply K1_ev; exact rfl; exact E_builtin rfl (fun _ => BigFrame.builtin_len ..) (r_len_string Tryz.underlying9))) <;> (try refine G_op1 ?_; (apply K1_ev; exact rfl; (focus (apply E_bin (op := .gtr) (t := 3); exact rfl; exact rfl; exact rfl; (focus (refine rb_gtr_f ?_; first | (with_reducible assumption) | (decide; done) | omega)))))) <;> (try refine G_nil ?_)) | (refine G_region (id := 5) ?_ <;> (try refine G_op1 ?_; (apply K1_ev; exact rfl; exact E_build (t := 25) (fun (vs : List (Nat × Value)) => (match vs with | [(_, x0)] => [Value.int .i64 0, Value.int .i64 0, x0] | _ => [] : List Value)) rfl (fun w => by kernel_rfl); (try simp only [Value.cells]); (try simp only [List.cons_append]); (try simp only [List.nil_append]))) <;> (try refine G_op1 ?_; (apply K1_ev; exact rfl; exact E_build (t := 26) (fun (vs : List (Nat × Value)) => (match vs with | [(_, x0), (_, x1)] => [x0] ++ x1.cells.toList | _ => [] : List Value)) rfl (fun w => by kernel_rfl); (try simp only [Value.cells]); (try simp only [List.cons_append]); (try simp only [List.nil_append]))) <;> (try refine G_op1 ?_; (apply K1_ev; exact rfl; exact E_build (t := 25) (fun (vs : List (Nat × Value)) => (match vs with | [(_, x0), (_, x1), (_, x2)] => [x0, x1, x2] | _ => [] : List Value)) rfl (fun w => by kernel_rfl); (try simp only [Value.cells]); (try simp only [List.cons_append]); (try simp only [List.nil_append]))) <;> (try refine G_op1 ?_; (apply K1_ev; exact rfl; exact E_build (t := 26) (fun (vs : List (Nat × Value)) => (match vs with | [(_, x0), (_, x1)] => [x0] ++ x1.cells.toList | _ => [] : List Value)) rfl (fun w => by kernel_rfl); (try simp only [Value.cells]); (try simp only [List.cons_append]); (try simp only [List.nil_append]))) <;> (try refine G_op1 ?_; (apply K1_ev; exact rfl; exact E_build (t := 25) (fun (vs : List (Nat × Value)) => (match vs with | [(_, x0), (_, x1), (_, x2)] => [x0, x1, x2] | _ => [] : List Value)) rfl (fun w => by kernel_rfl); (try simp only [Value.cells]); (try simp only [List.cons_append]); (try simp only [List.nil_append]))) <;> (try refine G_op1 ?_; (apply K1_ev; exact rfl; exact E_build (t := 26) (fun (vs : List (Nat × Value)) => (match vs with | [(_, x0), (_, x1)] => [x0] ++ x1.cells.toList | _ => [] : List Value)) rfl (fun w => by kernel_rfl); (try simp only [Value.cells]); (try simp only [List.cons_append]); (try simp only [List.nil_append]))) <;> (try refine G_op1 ?_; (apply K1_ev; exact rfl; exact E_build (t := 25) (fun (vs : List (Nat × Value)) => (match vs with | [(_, x0), (_, x1), (_, x2)] => [x0, x1, x2] | _ => [] : List Value)) rfl (fun w => by kernel_rfl); (try simp only [Value.cells]); (try simp only [List.cons_append]); (try simp only [List.nil_append]))) <;> (try refine G_op1 ?_; (apply K1_ev; exact rfl; exact E_build (t := 26) (fun (vs : List (Nat × Value)) => (match vs with | [(_, x0), (_, x1)] => [x0] ++ x1.cells.toList | _ => [] : List Value)) rfl (fun w => by kernel_rfl); (try simp only [Value.cells]); (try simp only [List.cons_append]); (try simp only [List.nil_append]))) <;> (try refine G_op1 ?_; (apply K1_ev; exact rfl; exact E_build (t := 25) (fun (vs : List (Nat × Value)) => (match vs with | [(_, x0), (_, x1), (_, x2)] => [x0, x1, x2] | _ => [] : List Value)) rfl (fun w => by kernel_rfl); (try simp only [Value.cells]); (try simp only [List.cons_append]); (try simp only [List.nil_append]))) <;> (try refine G_op1 ?_; (apply K1_ev; exact rfl; exact E_build (t := 26) (fun (vs : List (Nat × Value)) => (match vs with | [(_, x0), (_, x1)] => [x0] ++ x1.cells.toList | _ => [] : List Value)) rfl (fun w => by kernel_rfl); (try simp only [Value.cells]); (try simp only [List.cons_append]); (try simp only [List.nil_append]))) <;> (try refine G_op1 ?_; (apply K1_ev; exact rfl; exact E_build (t := 25) (fun (vs : List (Nat × Value)) => (match vs with | [(_, x0), (_, x1), (_, x2)] => [x0, x1, x2] | _ => [] : List Value)) rfl (fun w => by kernel_rfl); (try simp only [Value.cells]); (try simp only [List.cons_append]); (try simp only [List.nil_append]))) <;> (try refine G_op1 ?_; (apply K1_ev; exact rfl; exact E_build (t := 26) (fun (vs : List (Nat × Value)) => (match vs with | [(_, x0), (_, x1)] => [x0] ++ x1.cells.toList | _ => [] : List Value)) rfl (fun w => by kernel_rfl); (try simp only [Value.cells]); (try simp only [List.cons_append]); (try simp only [List.nil_append]))) <;> (try refine G_op1 ?_; (apply K1_ev; exact rfl; exact E_build (t := 25) (fun (vs : List (Nat × Value)) => (match vs with | [(_, x0)] => [Value.int .i64 0, Value.int .i64 0, x0] | _ => [] : List Value)) rfl (fun w => by kernel_rfl); (try simp only [Value.cells]); (try simp only [List.cons_append]); (try simp only [List.nil_append]))) <;> (try refine G_op1 ?_; (apply K1_ev; exact rfl; exact E_build (t := 26) (fun (vs : List (Nat × Value)) => (match vs with | [(_, x0), (_, x1)] => [x0] ++ x1.cells.toList | _ => [] : List Value)) rfl (fun w => by kernel_rfl); (try simp only [Value.cells]); (try simp only [List.cons_append]); (try simp only [List.nil_append]))) <;> (try refine G_op1 ?_; (apply K1_ev; exact rfl; exact E_build (t := 25) (fun (vs : List (Nat × Value)) => (match vs with | [(_, x0), (_, x1), (_, x2)] => [x0, x1, x2] | _ => [] : List Value)) rfl (fun w => by kernel_rfl); (try simp only [Value.cells]); (try simp only [List.cons_append]); (try simp only [List.nil_append]))) <;> (try refine G_op1 ?_; (apply K1_ev; exact rfl; exact E_build (t := 26) (fun (vs : List (Nat × Value)) => (match vs with | [(_, x0), (_, x1)] => [x0] ++ x1.cells.toList | _ => [] : List Value)) rfl (fun w => by kernel_rfl); (try simp only [Value.cells]); (try simp only [List.cons_append]); (try simp only [List.nil_append]))) <;> (try refine G_op1 ?_; (apply K1_ev; exact rfl; exact E_build (t := 25) (fun (vs : List (Nat × Value)) => (match vs with | [(_, x0), (_, x1), (_, x2)] => [x0, x1, x2] | _ => [] : List Value)) rfl (fun w => by kernel_rfl); (try simp only [Value.cells]); (try simp only [List.cons_append]); (try simp only [List.nil_append]))) <;> (try refine G_op1 ?_; (apply K1_ev; exact rfl; exact E_build (t := 26) (fun (vs : List (Nat × Value)) => (match vs with | [(_, x0), (_, x1)] => [x0] ++ x1.cells.toList | _ => [] : List Value)) rfl (fun w => by kernel_rfl); (try simp only [Value.cells]); (try simp only [List.cons_append]); (try simp only [List.nil_append]))) <;> (try refine G_op1 ?_; (apply K1_ev; exact rfl; exact E_build (t := 25) (fun (vs : List (Nat × Value)) => (match vs with | [(_, x0), (_, x1), (_, x2)] => [x0, x1, x2] | _ => [] : List Value)) rfl (fun w => by kernel_rfl); (try simp only [Value.cells]); (try simp only [List.cons_append]); (try simp only [List.nil_append]))) <;> (try refine G_op1 ?_; (apply K1_ev; exact rfl; exact E_build (t := 26) (fun (vs : List (Nat × Value)) => (match vs with | [(_, x0), (_, x1)] => [x0] ++ x1.cells.toList | _ => [] : List Value)) rfl (fun w => by kernel_rfl); (try simp only [Value.cells]); (try simp only [List.cons_append]); (try simp only [List.nil_append]))) <;> (try refine G_op1 ?_; (apply K1_ev; exact rfl; exact E_build (t := 25) (fun (vs : List (Nat × Value)) => (match vs with | [(_, x0), (_, x1), (_, x2)] => [x0, x1, x2] | _ => [] : List Value)) rfl (fun w => by kernel_rfl); (try simp only [Value.cells]); (try simp only [List.cons_append]); (try simp only [List.nil_append]))) <;> (try refine G_op1 ?_; (apply K1_ev; exact rfl; exact E_build (t := 26) (fun (vs : List (Nat × Value)) => (match vs with | [(_, x0), (_, x1)] => [x0] ++ x1.cells.toList | _ => [] : List Value)) rfl (fun w => by kernel_rfl); (try simp only [Value.cells]); (try simp only [List.cons_append]); (try simp only [List.nil_append]))) <;> (try refine G_op1 ?_; (apply K1_ev; exact rfl; exact E_build (t := 25) (fun (vs : List (Nat × Value)) => (match vs with | [(_, x0), (_, x1), (_, x2)] => [x0, x1, x2] | _ => [] : List Value)) rfl (fun w => by kernel_rfl); (try simp only [Value.cells]); (try simp only [List.cons_append]); (try simp only [List.nil_append]))) <;> (try refine G_op1 ?_; (apply K1_ev; exact rfl; exact E_build (t := 26) (fun (vs : List (Nat × Value)) => (match vs with | [(_, x0), (_, x1)] => [x0] ++ x1.cells.toList | _ => [] : List Value)) rfl (fun w => by kernel_rfl); (try simp only [Value.cells]); (try simp only [List.cons_append]); (try simp only [List.nil_append]))) <;> (try refine G_op1 ?_; (refine K1_buildSlice (t := 27) (m := 12) (e := 26) (fun (vs : List (Nat × Value)) => (match vs with | [(_, x0), (_, x1), (_, x2), (_, x3), (_, x4), (_, x5), (_, x6), (_, x7), (_, x8), (_, x9), (_, x10), (_, x11)] => x0.cells.toList ++ (x1.cells.toList ++ (x2.cells.toList ++ (x3.cells.toList ++ (x4.cells.toList ++ (x5.cells.toList ++ (x6.cells.toList ++ (x7.cells.toList ++ (x8.cells.toList ++ (x9.cells.toList ++ (x10.cells.toList ++ x11.cells.toList)))))))))) | _ => [] : List Value)) rfl rfl (fun w => by kernel_rfl) ?_; intro nb hnb; (try simp only [Value.cells]); (try simp only [List.cons_append]); (try simp only [List.nil_append]))) <;> (try refine G_op1 ?_; (apply K1_ev; exact rfl; exact E_assign rfl)) <;> (try refine G_nil ?_)) | (refine G_region (id := 6) ?_ <;> (try refine G_op1 ?_; (apply K1_ev; exact rfl; exact E_move rfl)) <;> (try refine G_op1 ?_; (apply K1_ev; exact rfl; exact E_move rfl)) <;> (try refine G_op1 ?_; (apply K1_ev; exact rfl; (focus (apply E_conv; exact rfl; (focus (apply r_conv Tryz.underlying5 Tryz.underlying3; first | (refine IntWalk.i64_in _ ?_; omega) | (refine IntWalk.u8_in _ ?_; omega) | (refine IntWalk.u16_in _ ?_; omega) | (refine IntWalk.u32_in _ ?_; omega) | (refine IntWalk.u64_in _ ?_; omega) | (refine IntWalk.i32_in _ ?_; omega) | exact rfl)))))) <;> (try refine G_op1 ?_; (apply K1_ev; exact rfl; exact E_move rfl)) <;> (try refine G_op1 ?_; (apply K1_ev; exact rfl; (focus (apply E_builtin; exact rfl; exact (fun _ => BigFrame.builtin_len ..); apply r_len_slice_e Tryz.underlying27; (focus ((try simp only [Int.cast_ofNat_Int]); exact rfl)))))) <;> (try refine G_op1 ?_; (apply K1_ev; exact rfl; (focus (apply E_bin (op := .rem) (t := 3); exact rfl; exact rfl; exact rfl; (focus (apply rb_rem; omega; omega; (focus ((try simp only [Int.reduceAdd]); (try simp only [Int.reduceSub]); (try simp only [Int.reduceMul]); (try simp only [Int.reduceMod]); (try simp only [Int.reduceDiv]); exact rfl)))))))) <;> (try refine G_op1 ?_; (apply K1_ev; exact rfl; (focus (apply E_indexAddr; exact rfl; exact rfl; (focus (apply r_ixs Tryz.underlying27 sz_26; omega; omega; (focus ((try simp only [Int.toNat_natCast]); (try simp only [Int.reduceToNat]); (try simp only [Nat.mul_one]); (try simp only [Nat.zero_mul]); (try simp only [Nat.reduceMul]); (try simp only [Nat.zero_add]); (try simp only [Nat.add_zero]); (try simp only [Nat.reduceAdd]); exact rfl)))))))) <;> (try refine G_op1 ?_; (apply K1_ev; exact rfl; (focus (apply E_loadA (t := 26); exact rfl; exact fd0; kernel_rfl; kernel_rfl; exact sz_26; (focus (simp; omega)); (with_reducible assumption))))) <;> (try refine G_op1 ?_; (refine K1_alloc (t := 26) rfl Tryz.zeroValue26 ?_; intro nb hnb; (try simp only [Value.cells]))) <;> (try refine G_op1 ?_; (apply K1_storeW (t := 26); exact rfl; exact rfl; exact fd0; kernel_rfl; exact rfl; exact rfl; (try simp only [List.set_cons_succ]); (try simp only [List.set_cons_zero]))) <;> (try refine G_nil ?_)))
    refine ⟨?_⟩
    obtain ⟨nb6, rfl⟩ : ∃ x, x = nb := ⟨_, rfl⟩
    refine G_meetk (γ := Nat) (fun _ => True) (fun g => [(8, .pointer (some ⟨g, 0, none⟩))]) [(1, _), (6, _)]
      (fun g => ⟨true, g, .cells #[.int .i64 (a : Nat), .int .i64 (b : Nat), .int .i64 (c : Nat)] 25 (0, 0)⟩ :: ⟨true, nb6, .cells #[.string t, .int .i64 (a : Nat), .int .i64 (b : Nat), .int .i64 (c : Nat)] 26 (0, 0)⟩ :: L) (.cons rfl (.cons rfl .nil)) ?_ ?_
    · repeat' (first | refine G_cut_n ?_ | ((refine G_regionH (id := 7) (m := 11) (by kernel_rfl) rfl ?_) <;> (try apply H_take (i := 1); exact rfl; kernel_rfl; kernel_rfl; kernel_rfl; exact rfl; (exact fun _ H => H); (focus (apply Y_ev; (apply E_fieldAddr; exact rfl; exact r_fieldAt0 fo_26_0)))) <;> (try apply H_take (i := 2); exact rfl; kernel_rfl; kernel_rfl; kernel_rfl; exact rfl; (exact fun _ H => H); (focus (apply Y_ev; (apply E_load1 (t := 9); exact rfl; exact fd0; kernel_rfl; kernel_rfl; exact rfl)))) <;> (try refine H_run3t (i := 0) (j := 7) (m := 8) rfl rfl rfl (by kernel_rfl) ?_ ?_ ?_ <;> (first | (refine TagA.mk ?_; (((apply K1_call (F := 9); kernel_rfl; exact rfl; exact rfl; apply new_q; rintro _ _ ⟨pb, ct, rb, rfl, rfl⟩; (try simp only [List.eraseIdx_cons_succ]); (try simp only [List.eraseIdx_cons_zero])); refine H_go ?_ ?_; (focus (intro w H; repeat (first | exact H | (replace H := H.tail))))) <;> (try refine H_run3t (i := 3) (j := 7) (m := 8) rfl rfl rfl (by kernel_rfl) ?_ ?_ ?_ <;> (first | (refine TagA.mk ?_; (((apply K1_call (F := 10); kernel_rfl; exact rfl; exact rfl; apply hp0; rintro _ _ ⟨nm, df, r1, r2, r3, hd, p1, p2, p3, q1, q2, q3, rfl, rfl⟩; (try simp only [List.eraseIdx_cons_succ]); (try simp only [List.eraseIdx_cons_zero])); refine H_go ?_ ?_; (exact fun _ H => H)) <;> (try apply H_take (i := 4); exact rfl; kernel_rfl; kernel_rfl; kernel_rfl; exact rfl; (exact fun _ H => H); (focus (apply Y_ev; exact E_move rfl))) <;> (try apply H_take (i := 5); exact rfl; kernel_rfl; kernel_rfl; kernel_rfl; exact rfl; (exact fun _ H => H); (focus (apply Y_ev; exact E_extractL rfl rfl))) <;> (try apply H_take (i := 6); exact rfl; kernel_rfl; kernel_rfl; kernel_rfl; exact rfl; (exact fun _ H => H); (focus (apply Y_ev; exact E_extractL rfl rfl))) <;> (try refine H_run2t (i := 7) (j := 8) rfl rfl (by kernel_rfl) ?_ ?_ <;> (first | (refine TagA.mk ?_; (((refine K1_alloc (t := 36) rfl Tryz.zeroValue36 ?_; intro nb hnb; (try simp only [Value.cells])); refine H_go ?_ ?_; (focus (intro w H; repeat (first | exact H | (replace H := H.tail))))) <;> (try refine H_run (i := 8) rfl (by kernel_rfl) ?_; (refine K1_alloc (t := 25) rfl Tryz.zeroValue25 ?_; intro nb hnb; (try simp only [Value.cells])); refine H_go ?_ ?_; (focus (intro w H; repeat (first | exact H | (replace H := H.tail))))) <;> (try refine H_run (i := 9) rfl (by kernel_rfl) ?_; (apply K1_storeW (t := 36); exact rfl; exact rfl; (focus (repeat (first | exact fd0 | apply fdS))); kernel_rfl; exact rfl; exact rfl; (try simp only [List.set_cons_succ]); (try simp only [List.set_cons_zero])); refine H_go ?_ ?_; (focus (intro w H; repeat (first | exact H | (replace H := H.tail))))) <;> (try refine H_run (i := 10) rfl (by kernel_rfl) ?_; (apply K1_storeW (t := 25); exact rfl; exact rfl; exact fd0; kernel_rfl; exact rfl; exact rfl; (try simp only [List.set_cons_succ]); (try simp only [List.set_cons_zero])); refine H_go ?_ ?_; (focus (intro w H; repeat (first | exact H | (replace H := H.tail))))) <;> (try refine H_done (by kernel_rfl) ?_))) | (refine TagB.mk ?_; (((refine K1_alloc (t := 25) rfl Tryz.zeroValue25 ?_; intro nb hnb; (try simp only [Value.cells])); refine H_go ?_ ?_; (focus (intro w H; repeat (first | exact H | (replace H := H.tail))))) <;> (try refine H_run (i := 7) rfl (by kernel_rfl) ?_; (refine K1_alloc (t := 36) rfl Tryz.zeroValue36 ?_; intro nb hnb; (try simp only [Value.cells])); refine H_go ?_ ?_; (focus (intro w H; repeat (first | exact H | (replace H := H.tail))))) <;> (try refine H_run (i := 9) rfl (by kernel_rfl) ?_; (apply K1_storeW (t := 36); exact rfl; exact rfl; exact fd0; kernel_rfl; exact rfl; exact rfl; (try simp only [List.set_cons_succ]); (try simp only [List.set_cons_zero])); refine H_go ?_ ?_; (focus (intro w H; repeat (first | exact H | (replace H := H.tail))))) <;> (try refine H_run (i := 10) rfl (by kernel_rfl) ?_; (apply K1_storeW (t := 25); exact rfl; exact rfl; (focus (repeat (first | exact fd0 | apply fdS))); kernel_rfl; exact rfl; exact rfl; (try simp only [List.set_cons_succ]); (try simp only [List.set_cons_zero])); refine H_go ?_ ?_; (focus (intro w H; repeat (first | exact H | (replace H := H.tail))))) <;> (try refine H_done (by kernel_rfl) ?_))))))) | (refine TagB.mk ?_; (((refine K1_alloc (t := 36) rfl Tryz.zeroValue36 ?_; intro nb hnb; (try simp only [Value.cells])); refine H_go ?_ ?_; (focus (intro w H; repeat (first | exact H | (replace H := H.tail))))) <;> (try refine H_run2t (i := 3) (j := 8) rfl rfl (by kernel_rfl) ?_ ?_ <;> (first | (refine TagA.mk ?_; (((apply K1_call (F := 10); kernel_rfl; exact rfl; exact rfl; apply hp1; rintro _ _ ⟨nm, df, r1, r2, r3, hd, p1, p2, p3, q1, q2, q3, rfl, rfl⟩; (try simp only [List.eraseIdx_cons_succ]); (try simp only [List.eraseIdx_cons_zero])); refine H_go ?_ ?_; (focus (intro w H; repeat (first | exact H | (replace H := H.tail))))) <;> (try apply H_take (i := 4); exact rfl; kernel_rfl; kernel_rfl; kernel_rfl; exact rfl; (focus (intro w H; repeat (first | exact H | (replace H := H.tail)))); (focus (apply Y_ev; exact E_move rfl))) <;> (try apply H_take (i := 5); exact rfl; kernel_rfl; kernel_rfl; kernel_rfl; exact rfl; (focus (intro w H; repeat (first | exact H | (replace H := H.tail)))); (focus (apply Y_ev; exact E_extractL rfl rfl))) <;> (try apply H_take (i := 6); exact rfl; kernel_rfl; kernel_rfl; kernel_rfl; exact rfl; (focus (intro w H; repeat (first | exact H | (replace H := H.tail)))); (focus (apply Y_ev; exact E_extractL rfl rfl))) <;> (try refine H_run (i := 8) rfl (by kernel_rfl) ?_; (refine K1_alloc (t := 25) rfl Tryz.zeroValue25 ?_; intro nb hnb; (try simp only [Value.cells])); refine H_go ?_ ?_; (focus (intro w H; repeat (first | exact H | (replace H := H.tail))))) <;> (try refine H_run (i := 9) rfl (by kernel_rfl) ?_; (apply K1_storeW (t := 36); exact rfl; exact rfl; (focus (repeat (first | exact fd0 | apply fdS))); kernel_rfl; exact rfl; exact rfl; (try simp only [List.set_cons_succ]); (try simp only [List.set_cons_zero])); refine H_go ?_ ?_; (focus (intro w H; repeat (first | exact H | (replace H := H.tail))))) <;> (try refine H_run (i := 10) rfl (by kernel_rfl) ?_; (apply K1_storeW (t := 25); exact rfl; exact rfl; exact fd0; kernel_rfl; exact rfl; exact rfl; (try simp only [List.set_cons_succ]); (try simp only [List.set_cons_zero])); refine H_go ?_ ?_; (focus (intro w H; repeat (first | exact H | (replace H := H.tail))))) <;> (try refine H_done (by kernel_rfl) ?_))) | (refine TagB.mk ?_; (((refine K1_alloc (t := 25) rfl Tryz.zeroValue25 ?_; intro nb hnb; (try simp only [Value.cells])); refine H_go ?_ ?_; (focus (intro w H; repeat (first | exact H | (replace H := H.tail))))) <;> (try refine H_run (i := 3) rfl (by kernel_rfl) ?_; (apply K1_call (F := 10); kernel_rfl; exact rfl; exact rfl; apply hp2; rintro _ _ ⟨nm, df, r1, r2, r3, hd, p1, p2, p3, q1, q2, q3, rfl, rfl⟩; (try simp only [List.eraseIdx_cons_succ]); (try simp only [List.eraseIdx_cons_zero])); refine H_go ?_ ?_; (focus (intro w H; repeat (first | exact H | (replace H := H.tail))))) <;> (try apply H_take (i := 4); exact rfl; kernel_rfl; kernel_rfl; kernel_rfl; exact rfl; (focus (intro w H; repeat (first | exact H | (replace H := H.tail)))); (focus (apply Y_ev; exact E_move rfl))) <;> (try apply H_take (i := 5); exact rfl; kernel_rfl; kernel_rfl; kernel_rfl; exact rfl; (focus (intro w H; repeat (first | exact H | (replace H := H.tail)))); (focus (apply Y_ev; exact E_extractL rfl rfl))) <;> (try apply H_take (i := 6); exact rfl; kernel_rfl; kernel_rfl; kernel_rfl; exact rfl; (focus (intro w H; repeat (first | exact H | (replace H := H.tail)))); (focus (apply Y_ev; exact E_extractL rfl rfl))) <;> (try refine H_run (i := 9) rfl (by kernel_rfl) ?_; (apply K1_storeW (t := 36); exact rfl; exact rfl; (focus (repeat (first | exact fd0 | apply fdS))); kernel_rfl; exact rfl; exact rfl; (try simp only [List.set_cons_succ]); (try simp only [List.set_cons_zero])); refine H_go ?_ ?_; (focus (intro w H; repeat (first | exact H | (replace H := H.tail))))) <;> (try refine H_run (i := 10) rfl (by kernel_rfl) ?_; (apply K1_storeW (t := 25); exact rfl; exact rfl; exact fd0; kernel_rfl; exact rfl; exact rfl; (try simp only [List.set_cons_succ]); (try simp only [List.set_cons_zero])); refine H_go ?_ ?_; (focus (intro w H; repeat (first | exact H | (replace H := H.tail))))) <;> (try refine H_done (by kernel_rfl) ?_))))))) | (refine TagC.mk ?_; (((refine K1_alloc (t := 25) rfl Tryz.zeroValue25 ?_; intro nb hnb; (try simp only [Value.cells])); refine H_go ?_ ?_; (focus (intro w H; repeat (first | exact H | (replace H := H.tail))))) <;> (try refine H_run2t (i := 3) (j := 7) rfl rfl (by kernel_rfl) ?_ ?_ <;> (first | (refine TagA.mk ?_; (((apply K1_call (F := 10); kernel_rfl; exact rfl; exact rfl; apply hp1; rintro _ _ ⟨nm, df, r1, r2, r3, hd, p1, p2, p3, q1, q2, q3, rfl, rfl⟩; (try simp only [List.eraseIdx_cons_succ]); (try simp only [List.eraseIdx_cons_zero])); refine H_go ?_ ?_; (focus (intro w H; repeat (first | exact H | (replace H := H.tail))))) <;> (try apply H_take (i := 4); exact rfl; kernel_rfl; kernel_rfl; kernel_rfl; exact rfl; (focus (intro w H; repeat (first | exact H | (replace H := H.tail)))); (focus (apply Y_ev; exact E_move rfl))) <;> (try apply H_take (i := 5); exact rfl; kernel_rfl; kernel_rfl; kernel_rfl; exact rfl; (focus (intro w H; repeat (first | exact H | (replace H := H.tail)))); (focus (apply Y_ev; exact E_extractL rfl rfl))) <;> (try apply H_take (i := 6); exact rfl; kernel_rfl; kernel_rfl; kernel_rfl; exact rfl; (focus (intro w H; repeat (first | exact H | (replace H := H.tail)))); (focus (apply Y_ev; exact E_extractL rfl rfl))) <;> (try refine H_run (i := 7) rfl (by kernel_rfl) ?_; (refine K1_alloc (t := 36) rfl Tryz.zeroValue36 ?_; intro nb hnb; (try simp only [Value.cells])); refine H_go ?_ ?_; (focus (intro w H; repeat (first | exact H | (replace H := H.tail))))) <;> (try refine H_run (i := 9) rfl (by kernel_rfl) ?_; (apply K1_storeW (t := 36); exact rfl; exact rfl; exact fd0; kernel_rfl; exact rfl; exact rfl; (try simp only [List.set_cons_succ]); (try simp only [List.set_cons_zero])); refine H_go ?_ ?_; (focus (intro w H; repeat (first | exact H | (replace H := H.tail))))) <;> (try refine H_run (i := 10) rfl (by kernel_rfl) ?_; (apply K1_storeW (t := 25); exact rfl; exact rfl; (focus (repeat (first | exact fd0 | apply fdS))); kernel_rfl; exact rfl; exact rfl; (try simp only [List.set_cons_succ]); (try simp only [List.set_cons_zero])); refine H_go ?_ ?_; (focus (intro w H; repeat (first | exact H | (replace H := H.tail))))) <;> (try refine H_done (by kernel_rfl) ?_))) | (refine TagB.mk ?_; (((refine K1_alloc (t := 36) rfl Tryz.zeroValue36 ?_; intro nb hnb; (try simp only [Value.cells])); refine H_go ?_ ?_; (focus (intro w H; repeat (first | exact H | (replace H := H.tail))))) <;> (try refine H_run (i := 3) rfl (by kernel_rfl) ?_; (apply K1_call (F := 10); kernel_rfl; exact rfl; exact rfl; apply hp2; rintro _ _ ⟨nm, df, r1, r2, r3, hd, p1, p2, p3, q1, q2, q3, rfl, rfl⟩; (try simp only [List.eraseIdx_cons_succ]); (try simp only [List.eraseIdx_cons_zero])); refine H_go ?_ ?_; (focus (intro w H; repeat (first | exact H | (replace H := H.tail))))) <;> (try apply H_take (i := 4); exact rfl; kernel_rfl; kernel_rfl; kernel_rfl; exact rfl; (focus (intro w H; repeat (first | exact H | (replace H := H.tail)))); (focus (apply Y_ev; exact E_move rfl))) <;> (try apply H_take (i := 5); exact rfl; kernel_rfl; kernel_rfl; kernel_rfl; exact rfl; (focus (intro w H; repeat (first | exact H | (replace H := H.tail)))); (focus (apply Y_ev; exact E_extractL rfl rfl))) <;> (try apply H_take (i := 6); exact rfl; kernel_rfl; kernel_rfl; kernel_rfl; exact rfl; (focus (intro w H; repeat (first | exact H | (replace H := H.tail)))); (focus (apply Y_ev; exact E_extractL rfl rfl))) <;> (try refine H_run (i := 9) rfl (by kernel_rfl) ?_; (apply K1_storeW (t := 36); exact rfl; exact rfl; exact fd0; kernel_rfl; exact rfl; exact rfl; (try simp only [List.set_cons_succ]); (try simp only [List.set_cons_zero])); refine H_go ?_ ?_; (focus (intro w H; repeat (first | exact H | (replace H := H.tail))))) <;> (try refine H_run (i := 10) rfl (by kernel_rfl) ?_; (apply K1_storeW (t := 25); exact rfl; exact rfl; (focus (repeat (first | exact fd0 | apply fdS))); kernel_rfl; exact rfl; exact rfl; (try simp only [List.set_cons_succ]); (try simp only [List.set_cons_zero])); refine H_go ?_ ?_; (focus (intro w H; repeat (first | exact H | (replace H := H.tail))))) <;> (try refine H_done (by kernel_rfl) ?_))))))))))) | (refine TagB.mk ?_; (((refine K1_alloc (t := 36) rfl Tryz.zeroValue36 ?_; intro nb hnb; (try simp only [Value.cells])); refine H_go ?_ ?_; (focus (intro w H; repeat (first | exact H | (replace H := H.tail))))) <;> (try refine H_run2t (i := 0) (j := 8) rfl rfl (by kernel_rfl) ?_ ?_ <;> (first | (refine TagA.mk ?_; (((apply K1_call (F := 9); kernel_rfl; exact rfl; exact rfl; apply new_q; rintro _ _ ⟨pb, ct, rb, rfl, rfl⟩; (try simp only [List.eraseIdx_cons_succ]); (try simp only [List.eraseIdx_cons_zero])); refine H_go ?_ ?_; (focus (intro w H; repeat (first | exact H | (replace H := H.tail))))) <;> (try refine H_run2t (i := 3) (j := 8) rfl rfl (by kernel_rfl) ?_ ?_ <;> (first | (refine TagA.mk ?_; (((apply K1_call (F := 10); kernel_rfl; exact rfl; exact rfl; apply hp0; rintro _ _ ⟨nm, df, r1, r2, r3, hd, p1, p2, p3, q1, q2, q3, rfl, rfl⟩; (try simp only [List.eraseIdx_cons_succ]); (try simp only [List.eraseIdx_cons_zero])); refine H_go ?_ ?_; (focus (intro w H; repeat (first | exact H | (replace H := H.tail))))) <;> (try apply H_take (i := 4); exact rfl; kernel_rfl; kernel_rfl; kernel_rfl; exact rfl; (focus (intro w H; repeat (first | exact H | (replace H := H.tail)))); (focus (apply Y_ev; exact E_move rfl))) <;> (try apply H_take (i := 5); exact rfl; kernel_rfl; kernel_rfl; kernel_rfl; exact rfl; (focus (intro w H; repeat (first | exact H | (replace H := H.tail)))); (focus (apply Y_ev; exact E_extractL rfl rfl))) <;> (try apply H_take (i := 6); exact rfl; kernel_rfl; kernel_rfl; kernel_rfl; exact rfl; (focus (intro w H; repeat (first | exact H | (replace H := H.tail)))); (focus (apply Y_ev; exact E_extractL rfl rfl))) <;> (try refine H_run (i := 8) rfl (by kernel_rfl) ?_; (refine K1_alloc (t := 25) rfl Tryz.zeroValue25 ?_; intro nb hnb; (try simp only [Value.cells])); refine H_go ?_ ?_; (focus (intro w H; repeat (first | exact H | (replace H := H.tail))))) <;> (try refine H_run (i := 9) rfl (by kernel_rfl) ?_; (apply K1_storeW (t := 36); exact rfl; exact rfl; (focus (repeat (first | exact fd0 | apply fdS))); kernel_rfl; exact rfl; exact rfl; (try simp only [List.set_cons_succ]); (try simp only [List.set_cons_zero])); refine H_go ?_ ?_; (focus (intro w H; repeat (first | exact H | (replace H := H.tail))))) <;> (try refine H_run (i := 10) rfl (by kernel_rfl) ?_; (apply K1_storeW (t := 25); exact rfl; exact rfl; exact fd0; kernel_rfl; exact rfl; exact rfl; (try simp only [List.set_cons_succ]); (try simp only [List.set_cons_zero])); refine H_go ?_ ?_; (focus (intro w H; repeat (first | exact H | (replace H := H.tail))))) <;> (try refine H_done (by kernel_rfl) ?_))) | (refine TagB.mk ?_; (((refine K1_alloc (t := 25) rfl Tryz.zeroValue25 ?_; intro nb hnb; (try simp only [Value.cells])); refine H_go ?_ ?_; (focus (intro w H; repeat (first | exact H | (replace H := H.tail))))) <;> (try refine H_run (i := 3) rfl (by kernel_rfl) ?_; (apply K1_call (F := 10); kernel_rfl; exact rfl; exact rfl; apply hp1; rintro _ _ ⟨nm, df, r1, r2, r3, hd, p1, p2, p3, q1, q2, q3, rfl, rfl⟩; (try simp only [List.eraseIdx_cons_succ]); (try simp only [List.eraseIdx_cons_zero])); refine H_go ?_ ?_; (focus (intro w H; repeat (first | exact H | (replace H := H.tail))))) <;> (try apply H_take (i := 4); exact rfl; kernel_rfl; kernel_rfl; kernel_rfl; exact rfl; (focus (intro w H; repeat (first | exact H | (replace H := H.tail)))); (focus (apply Y_ev; exact E_move rfl))) <;> (try apply H_take (i := 5); exact rfl; kernel_rfl; kernel_rfl; kernel_rfl; exact rfl; (focus (intro w H; repeat (first | exact H | (replace H := H.tail)))); (focus (apply Y_ev; exact E_extractL rfl rfl))) <;> (try apply H_take (i := 6); exact rfl; kernel_rfl; kernel_rfl; kernel_rfl; exact rfl; (focus (intro w H; repeat (first | exact H | (replace H := H.tail)))); (focus (apply Y_ev; exact E_extractL rfl rfl))) <;> (try refine H_run (i := 9) rfl (by kernel_rfl) ?_; (apply K1_storeW (t := 36); exact rfl; exact rfl; (focus (repeat (first | exact fd0 | apply fdS))); kernel_rfl; exact rfl; exact rfl; (try simp only [List.set_cons_succ]); (try simp only [List.set_cons_zero])); refine H_go ?_ ?_; (focus (intro w H; repeat (first | exact H | (replace H := H.tail))))) <;> (try refine H_run (i := 10) rfl (by kernel_rfl) ?_; (apply K1_storeW (t := 25); exact rfl; exact rfl; exact fd0; kernel_rfl; exact rfl; exact rfl; (try simp only [List.set_cons_succ]); (try simp only [List.set_cons_zero])); refine H_go ?_ ?_; (focus (intro w H; repeat (first | exact H | (replace H := H.tail))))) <;> (try refine H_done (by kernel_rfl) ?_))))))) | (refine TagB.mk ?_; (((refine K1_alloc (t := 25) rfl Tryz.zeroValue25 ?_; intro nb hnb; (try simp only [Value.cells])); refine H_go ?_ ?_; (focus (intro w H; repeat (first | exact H | (replace H := H.tail))))) <;> (try refine H_run (i := 0) rfl (by kernel_rfl) ?_; (apply K1_call (F := 9); kernel_rfl; exact rfl; exact rfl; apply new_q; rintro _ _ ⟨pb, ct, rb, rfl, rfl⟩; (try simp only [List.eraseIdx_cons_succ]); (try simp only [List.eraseIdx_cons_zero])); refine H_go ?_ ?_; (focus (intro w H; repeat (first | exact H | (replace H := H.tail))))) <;> (try refine H_run (i := 3) rfl (by kernel_rfl) ?_; (apply K1_call (F := 10); kernel_rfl; exact rfl; exact rfl; apply hp0; rintro _ _ ⟨nm, df, r1, r2, r3, hd, p1, p2, p3, q1, q2, q3, rfl, rfl⟩; (try simp only [List.eraseIdx_cons_succ]); (try simp only [List.eraseIdx_cons_zero])); refine H_go ?_ ?_; (focus (intro w H; repeat (first | exact H | (replace H := H.tail))))) <;> (try apply H_take (i := 4); exact rfl; kernel_rfl; kernel_rfl; kernel_rfl; exact rfl; (focus (intro w H; repeat (first | exact H | (replace H := H.tail)))); (focus (apply Y_ev; exact E_move rfl))) <;> (try apply H_take (i := 5); exact rfl; kernel_rfl; kernel_rfl; kernel_rfl; exact rfl; (focus (intro w H; repeat (first | exact H | (replace H := H.tail)))); (focus (apply Y_ev; exact E_extractL rfl rfl))) <;> (try apply H_take (i := 6); exact rfl; kernel_rfl; kernel_rfl; kernel_rfl; exact rfl; (focus (intro w H; repeat (first | exact H | (replace H := H.tail)))); (focus (apply Y_ev; exact E_extractL rfl rfl))) <;> (try refine H_run (i := 9) rfl (by kernel_rfl) ?_; (apply K1_storeW (t := 36); exact rfl; exact rfl; (focus (repeat (first | exact fd0 | apply fdS))); kernel_rfl; exact rfl; exact rfl; (try simp only [List.set_cons_succ]); (try simp only [List.set_cons_zero])); refine H_go ?_ ?_; (focus (intro w H; repeat (first | exact H | (replace H := H.tail))))) <;> (try refine H_run (i := 10) rfl (by kernel_rfl) ?_; (apply K1_storeW (t := 25); exact rfl; exact rfl; exact fd0; kernel_rfl; exact rfl; exact rfl; (try simp only [List.set_cons_succ]); (try simp only [List.set_cons_zero])); refine H_go ?_ ?_; (focus (intro w H; repeat (first | exact H | (replace H := H.tail))))) <;> (try refine H_done (by kernel_rfl) ?_))))))) | (refine TagC.mk ?_; (((refine K1_alloc (t := 25) rfl Tryz.zeroValue25 ?_; intro nb hnb; (try simp only [Value.cells])); refine H_go ?_ ?_; (focus (intro w H; repeat (first | exact H | (replace H := H.tail))))) <;> (try refine H_run2t (i := 0) (j := 7) rfl rfl (by kernel_rfl) ?_ ?_ <;> (first | (refine TagA.mk ?_; (((apply K1_call (F := 9); kernel_rfl; exact rfl; exact rfl; apply new_q; rintro _ _ ⟨pb, ct, rb, rfl, rfl⟩; (try simp only [List.eraseIdx_cons_succ]); (try simp only [List.eraseIdx_cons_zero])); refine H_go ?_ ?_; (focus (intro w H; repeat (first | exact H | (replace H := H.tail))))) <;> (try refine H_run2t (i := 3) (j := 7) rfl rfl (by kernel_rfl) ?_ ?_ <;> (first | (refine TagA.mk ?_; (((apply K1_call (F := 10); kernel_rfl; exact rfl; exact rfl; apply hp0; rintro _ _ ⟨nm, df, r1, r2, r3, hd, p1, p2, p3, q1, q2, q3, rfl, rfl⟩; (try simp only [List.eraseIdx_cons_succ]); (try simp only [List.eraseIdx_cons_zero])); refine H_go ?_ ?_; (focus (intro w H; repeat (first | exact H | (replace H := H.tail))))) <;> (try apply H_take (i := 4); exact rfl; kernel_rfl; kernel_rfl; kernel_rfl; exact rfl; (focus (intro w H; repeat (first | exact H | (replace H := H.tail)))); (focus (apply Y_ev; exact E_move rfl))) <;> (try apply H_take (i := 5); exact rfl; kernel_rfl; kernel_rfl; kernel_rfl; exact rfl; (focus (intro w H; repeat (first | exact H | (replace H := H.tail)))); (focus (apply Y_ev; exact E_extractL rfl rfl))) <;> (try apply H_take (i := 6); exact rfl; kernel_rfl; kernel_rfl; kernel_rfl; exact rfl; (focus (intro w H; repeat (first | exact H | (replace H := H.tail)))); (focus (apply Y_ev; exact E_extractL rfl rfl))) <;> (try refine H_run (i := 7) rfl (by kernel_rfl) ?_; (refine K1_alloc (t := 36) rfl Tryz.zeroValue36 ?_; intro nb hnb; (try simp only [Value.cells])); refine H_go ?_ ?_; (focus (intro w H; repeat (first | exact H | (replace H := H.tail))))) <;> (try refine H_run (i := 9) rfl (by kernel_rfl) ?_; (apply K1_storeW (t := 36); exact rfl; exact rfl; exact fd0; kernel_rfl; exact rfl; exact rfl; (try simp only [List.set_cons_succ]); (try simp only [List.set_cons_zero])); refine H_go ?_ ?_; (focus (intro w H; repeat (first | exact H | (replace H := H.tail))))) <;> (try refine H_run (i := 10) rfl (by kernel_rfl) ?_; (apply K1_storeW (t := 25); exact rfl; exact rfl; (focus (repeat (first | exact fd0 | apply fdS))); kernel_rfl; exact rfl; exact rfl; (try simp only [List.set_cons_succ]); (try simp only [List.set_cons_zero])); refine H_go ?_ ?_; (focus (intro w H; repeat (first | exact H | (replace H := H.tail))))) <;> (try refine H_done (by kernel_rfl) ?_))) | (refine TagB.mk ?_; (((refine K1_alloc (t := 36) rfl Tryz.zeroValue36 ?_; intro nb hnb; (try simp only [Value.cells])); refine H_go ?_ ?_; (focus (intro w H; repeat (first | exact H | (replace H := H.tail))))) <;> (try refine H_run (i := 3) rfl (by kernel_rfl) ?_; (apply K1_call (F := 10); kernel_rfl; exact rfl; exact rfl; apply hp1; rintro _ _ ⟨nm, df, r1, r2, r3, hd, p1, p2, p3, q1, q2, q3, rfl, rfl⟩; (try simp only [List.eraseIdx_cons_succ]); (try simp only [List.eraseIdx_cons_zero])); refine H_go ?_ ?_; (focus (intro w H; repeat (first | exact H | (replace H := H.tail))))) <;> (try apply H_take (i := 4); exact rfl; kernel_rfl; kernel_rfl; kernel_rfl; exact rfl; (focus (intro w H; repeat (first | exact H | (replace H := H.tail)))); (focus (apply Y_ev; exact E_move rfl))) <;> (try apply H_take (i := 5); exact rfl; kernel_rfl; kernel_rfl; kernel_rfl; exact rfl; (focus (intro w H; repeat (first | exact H | (replace H := H.tail)))); (focus (apply Y_ev; exact E_extractL rfl rfl))) <;> (try apply H_take (i := 6); exact rfl; kernel_rfl; kernel_rfl; kernel_rfl; exact rfl; (focus (intro w H; repeat (first | exact H | (replace H := H.tail)))); (focus (apply Y_ev; exact E_extractL rfl rfl))) <;> (try refine H_run (i := 9) rfl (by kernel_rfl) ?_; (apply K1_storeW (t := 36); exact rfl; exact rfl; exact fd0; kernel_rfl; exact rfl; exact rfl; (try simp only [List.set_cons_succ]); (try simp only [List.set_cons_zero])); refine H_go ?_ ?_; (focus (intro w H; repeat (first | exact H | (replace H := H.tail))))) <;> (try refine H_run (i := 10) rfl (by kernel_rfl) ?_; (apply K1_storeW (t := 25); exact rfl; exact rfl; (focus (repeat (first | exact fd0 | apply fdS))); kernel_rfl; exact rfl; exact rfl; (try simp only [List.set_cons_succ]); (try simp only [List.set_cons_zero])); refine H_go ?_ ?_; (focus (intro w H; repeat (first | exact H | (replace H := H.tail))))) <;> (try refine H_done (by kernel_rfl) ?_))))))) | (refine TagB.mk ?_; (((refine K1_alloc (t := 36) rfl Tryz.zeroValue36 ?_; intro nb hnb; (try simp only [Value.cells])); refine H_go ?_ ?_; (focus (intro w H; repeat (first | exact H | (replace H := H.tail))))) <;> (try refine H_run (i := 0) rfl (by kernel_rfl) ?_; (apply K1_call (F := 9); kernel_rfl; exact rfl; exact rfl; apply new_q; rintro _ _ ⟨pb, ct, rb, rfl, rfl⟩; (try simp only [List.eraseIdx_cons_succ]); (try simp only [List.eraseIdx_cons_zero])); refine H_go ?_ ?_; (focus (intro w H; repeat (first | exact H | (replace H := H.tail))))) <;> (try refine H_run (i := 3) rfl (by kernel_rfl) ?_; (apply K1_call (F := 10); kernel_rfl; exact rfl; exact rfl; apply hp0; rintro _ _ ⟨nm, df, r1, r2, r3, hd, p1, p2, p3, q1, q2, q3, rfl, rfl⟩; (try simp only [List.eraseIdx_cons_succ]); (try simp only [List.eraseIdx_cons_zero])); refine H_go ?_ ?_; (focus (intro w H; repeat (first | exact H | (replace H := H.tail))))) <;> (try apply H_take (i := 4); exact rfl; kernel_rfl; kernel_rfl; kernel_rfl; exact rfl; (focus (intro w H; repeat (first | exact H | (replace H := H.tail)))); (focus (apply Y_ev; exact E_move rfl))) <;> (try apply H_take (i := 5); exact rfl; kernel_rfl; kernel_rfl; kernel_rfl; exact rfl; (focus (intro w H; repeat (first | exact H | (replace H := H.tail)))); (focus (apply Y_ev; exact E_extractL rfl rfl))) <;> (try apply H_take (i := 6); exact rfl; kernel_rfl; kernel_rfl; kernel_rfl; exact rfl; (focus (intro w H; repeat (first | exact H | (replace H := H.tail)))); (focus (apply Y_ev; exact E_extractL rfl rfl))) <;> (try refine H_run (i := 9) rfl (by kernel_rfl) ?_; (apply K1_storeW (t := 36); exact rfl; exact rfl; exact fd0; kernel_rfl; exact rfl; exact rfl; (try simp only [List.set_cons_succ]); (try simp only [List.set_cons_zero])); refine H_go ?_ ?_; (focus (intro w H; repeat (first | exact H | (replace H := H.tail))))) <;> (try refine H_run (i := 10) rfl (by kernel_rfl) ?_; (apply K1_storeW (t := 25); exact rfl; exact rfl; (focus (repeat (first | exact fd0 | apply fdS))); kernel_rfl; exact rfl; exact rfl; (try simp only [List.set_cons_succ]); (try simp only [List.set_cons_zero])); refine H_go ?_ ?_; (focus (intro w H; repeat (first | exact H | (replace H := H.tail))))) <;> (try refine H_done (by kernel_rfl) ?_)))))))))))
      all_goals exact G_meet _ trivial (by (focus (repeat (first | exact Sub.nil | refine Sub.cons rfl ?_)))) (by intro w H; refine Sel.out ?_ H; (try simp only [List.cons_append, List.nil_append]); repeat (first | exact Sel.refl _ | (apply Sel.cons; (focus (repeat (first | exact fd0 | apply fdS))); (try simp only [List.eraseIdx_cons_succ]); (try simp only [List.eraseIdx_cons_zero])) | apply Sel.drop))
    rintro nb8 -
    dsimp only [List.cons_append, List.nil_append]
    clear hp0 hp1 hp2
    repeat' (first | refine G_seq ?_ | refine G_then_n ?_ | refine G_ret ?_ | (refine G_region (id := 8) ?_ <;> (try refine G_op1 ?_; (apply K1_ev; exact rfl; exact E_assign rfl)) <;> (try refine G_nil ?_)) | (refine G_region (id := 9) ?_ <;> (try refine G_op1 ?_; (apply K1_ev; exact rfl; exact E_move rfl)) <;> (try refine G_op1 ?_; (apply K1_ev; exact rfl; exact E_move rfl)) <;> (try refine G_op1 ?_; (apply K1_call (F := 10); kernel_rfl; exact rfl; exact rfl; apply hpn; rintro _ _ ⟨rfl, rfl⟩; (try simp only [List.eraseIdx_cons_succ]); (try simp only [List.eraseIdx_cons_zero]))) <;> (try refine G_op1 ?_; (apply K1_ev; exact rfl; exact E_move rfl)) <;> (try refine G_op1 ?_; (apply K1_ev; exact rfl; exact E_extractL rfl rfl)) <;> (try refine G_op1 ?_; (apply K1_ev; exact rfl; exact E_extractL rfl rfl)) <;> (try refine G_op1 ?_; (refine K1_alloc (t := 36) rfl Tryz.zeroValue36 ?_; intro nb hnb; (try simp only [Value.cells]))) <;> (try refine G_op1 ?_; (refine K1_alloc (t := 25) rfl Tryz.zeroValue25 ?_; intro nb hnb; (try simp only [Value.cells]))) <;> (try refine G_op1 ?_; (apply K1_storeW (t := 36); exact rfl; exact rfl; (focus (repeat (first | exact fd0 | apply fdS))); kernel_rfl; exact rfl; exact rfl; (try simp only [List.set_cons_succ]); (try simp only [List.set_cons_zero]))) <;> (try refine G_op1 ?_; (apply K1_storeW (t := 25); exact rfl; exact rfl; exact fd0; kernel_rfl; exact rfl; exact rfl; (try simp only [List.set_cons_succ]); (try simp only [List.set_cons_zero]))) <;> (try refine G_nil ?_)) | (refine G_region (id := 10) ?_ <;> (try refine G_op1 ?_; (apply K1_ev; exact rfl; (focus (apply E_loadA (t := 25); exact rfl; (focus (repeat (first | exact fd0 | apply fdS))); kernel_rfl; kernel_rfl; exact sz_25; exact Nat.le_of_ble_eq_true rfl; (focus ((try simp only [List.drop_succ_cons]); (try simp only [List.drop_zero]); (try simp only [List.take_succ_cons]); (try simp only [List.take_zero]); (try simp only [List.take_nil]); exact rfl)))))) <;> (try refine G_op1 ?_; (apply K1_ev; exact rfl; (focus (apply E_fieldAddr; exact rfl; exact r_fieldAt0 fo_26_1)))) <;> (try refine G_op1 ?_; (apply K1_ev; exact rfl; (focus (apply E_loadA (t := 25); exact rfl; (focus (repeat (first | exact fd0 | apply fdS))); kernel_rfl; kernel_rfl; exact sz_25; exact Nat.le_of_ble_eq_true rfl; (focus ((try simp only [List.drop_succ_cons]); (try simp only [List.drop_zero]); (try simp only [List.take_succ_cons]); (try simp only [List.take_zero]); (try simp only [List.take_nil]); exact rfl)))))) <;> (try refine G_op1 ?_; (apply K1_ev; exact rfl; (focus (apply E_bin_agg (op := .eql) (t := 25); exact rfl; exact rfl; kernel_rfl; (with_reducible assumption))))) <;> (try refine G_op1 ?_; (apply K1_ev; exact rfl; exact E_move rfl)) <;> (try refine G_op1 ?_; (refine K1_yes rfl rfl rfl ?_; (apply K1_ev; exact rfl; (focus (apply E_loadA (t := 25); exact rfl; exact fd0; kernel_rfl; kernel_rfl; exact sz_25; exact Nat.le_of_ble_eq_true rfl; (focus ((try simp only [List.drop_succ_cons]); (try simp only [List.drop_zero]); (try simp only [List.take_succ_cons]); (try simp only [List.take_zero]); (try simp only [List.take_nil]); exact rfl))))))) <;> (try refine G_op1 ?_; (refine K1_yes rfl rfl rfl ?_; (apply K1_ev; exact rfl; exact E_build (t := 25) (fun (vs : List (Nat × Value)) => (match vs with | [(_, x0)] => [Value.int .i64 0, Value.int .i64 0, x0] | _ => [] : List Value)) rfl (fun w => by kernel_rfl); (try simp only [Value.cells]); (try simp only [List.cons_append]); (try simp only [List.nil_append])))) <;> (try refine G_op1 ?_; (refine K1_yes rfl rfl rfl ?_; (apply K1_ev; exact rfl; (focus (apply E_bin_agg (op := .eql) (t := 25); exact rfl; exact rfl; kernel_rfl; (apply rb_eql_agg Tryz.underlying25 (by kernel_rfl); apply EqF.int; (focus (simp)); exact Tryz.underlying3; exact rfl; exact rfl; exact rfl; apply EqF.int; (focus (simp)); exact Tryz.underlying3; exact rfl; exact rfl; exact rfl; exact EqF.int1 (by simp) Tryz.underlying23 rfl rfl rfl)))))) <;> (try refine G_op1 ?_; (apply K1_ev; exact rfl; exact E_pick rfl rfl)) <;> (try refine G_op1 ?_; (apply K1_ev; exact rfl; exact E_move rfl)) <;> (try refine G_op1 ?_; (refine K1_yes rfl rfl rfl ?_; (apply K1_ev; exact rfl; exact E_move rfl))) <;> (try refine G_op1 ?_; (refine K1_yes rfl rfl rfl ?_; (apply K1_call (F := 11); kernel_rfl; exact rfl; exact rfl; apply callsn_p; rintro _ _ ⟨rfl, rfl⟩; (try simp only [List.eraseIdx_cons_succ]); (try simp only [List.eraseIdx_cons_zero])))) <;> (try refine G_op1 ?_; (refine K1_yes rfl rfl rfl ?_; (apply K1_ev; exact rfl; (focus (apply E_bin (op := .eql) (t := 41); exact rfl; exact rfl; exact rfl; exact rb_peq_nn Tryz.underlying41))))) <;> (try refine G_op1 ?_; (apply K1_ev; exact rfl; exact E_pick rfl rfl)) <;> (try refine G_op1 ?_; (apply K1_ev; exact rfl; exact E_assign rfl)) <;> (try refine G_nil ?_)))
    (refine G_done Tryz.results3 (.tmp rfl .nil) ?_)
    exact ⟨_, ⟨rfl, rfl⟩, by intro w H; refine H.sub ?_; (try simp only [List.cons_append, List.nil_append]); repeat (first | exact List.Sublist.refl _ | refine List.Sublist.cons _ ?_)⟩
end Go.Proofs.YtecbgehooembmaaGreatDoor
namespace Go.Proofs.YtecbgehooembmaaGreatDoor
open Go Go.RowKit
theorem wf_u8 {a : Int} (h : (Lit.int .u8 a).wf = true) : 0 ≤ a ∧ a < 256 := by
  simp [Lit.wf, IntKind.min, IntKind.max, IntKind.signed, IntKind.bits] at h; omega
end Go.Proofs.YtecbgehooembmaaGreatDoor
namespace Go.Proofs.YtecbgehooembmaaGreatDoor
open Go.ChangeShapes Go.WideShapes Go.ChangeAt Go.RowKit
theorem ownParseHeads : ownKnob Tryz.prog.godebug = none := by kernel_rfl
theorem laidParseHeads : laidOutB Tryz.prog = true := by kernel_rfl
set_option maxRecDepth 100000 in
theorem parseHeads_lifted (os : Os) (started : os.Started) (H : Type) (enc : TypeId × Value → H) :
    ReturnsInHanded {} Tryz.checked os 3 .any (fun w args => (Rows.parseHeadsSpec.pre enc Tryz.prog Tryz.f3 [] false w args ∧ laidMetH Tryz.prog Rows.parseHeadsRow.laid w) ∧ sizedMet enc Tryz.prog Tryz.f3 (OpenSpec.ofChange Rows.parseHeadsSpec) false w args)
      (Rows.parseHeadsSpec.post enc Tryz.prog Tryz.f3 false true false false) := by
  refine returnsInHanded_of_change_and (C := Tryz.checked) (X := fun w _ => laidMetH Tryz.prog Rows.parseHeadsRow.laid w) (fun _ _ _ hh h => h.of_heap hh) ownParseHeads started (by kernel_rfl) Tryz.func3
    (ChangeSpec.witness_shaped (enc := enc) (C := Tryz.checked) (os := os) (X := fun w _ => laidMetH Tryz.prog Rows.parseHeadsRow.laid w) false (World.laidAll Tryz.prog os Rows.parseHeadsRow.laid) #[.int .u8 0, .string ⟨#[]⟩] 8 (World.laidAll_os _ _ _)
      (World.shaped_of_ZipB (by kernel_rfl) (by kernel_rfl)) (by kernel_rfl) (by kernel_rfl) (by kernel_rfl)
      (by rw [MakeChecks.laidMetH_plain _ _ _ (by kernel_rfl)]; exact laidMet_laidAll _ (by kernel_rfl) (by kernel_rfl))) ?_
  intro W base args ds gs before hval0 hW _ _ _ _
  have hval : ∀ (j : Nat) t v, Tryz.f3.params[j]? = some t → args[j]? = some v → Value.okWide Tryz.prog W .any base t v := hval0
  have hW' := hW
  obtain ⟨p, q, hA0, hV, rfl, hfz, hnd⟩ := hW
  have hA : DataW.TrodAll enc Tryz.prog W 0 (fun _ => true) true Tryz.f3.params.toList args.toList ds p := hA0
  rw [Tryz.params3] at hA hval
  obtain ⟨v0, vs0, d0, ds0, p0, q0, hargs, rfl, rfl, h0, r0⟩ := trodAll_cons hA
  obtain ⟨v1, vs1, d1, ds1, p1, q1, rfl, rfl, rfl, h1, r1⟩ := trodAll_cons r0
  obtain ⟨rfl, rfl, rfl⟩ := trodAll_nil r1
  obtain rfl : args = #[v0, v1] := by cases args; simp_all
  obtain ⟨rfl, rfl⟩ := trodVars_none hV
  have k0 := h0
  have lt0 : ∀ x ∈ p0, x.block < W.heap.size := by obtain ⟨m, hm⟩ := k0; exact DataW.trod_lt m _ _ _ hm
  have k1 := h1
  have lt1 : ∀ x ∈ p1, x.block < W.heap.size := by obtain ⟨m, hm⟩ := k1; exact DataW.trod_lt m _ _ _ hm
  obtain ⟨a0, rfl, rfl, rfl, w0⟩ := open_int Tryz.underlying5 (hval 0 5 v0 rfl rfl) h0
  have b0 := wf_u8 w0
  obtain ⟨a1, rfl, rfl, rfl, b1⟩ := Go.ChangeMaps.open_string Tryz.underlying9 (hval 1 9 v1 rfl rfl) h1
  clear hA0 hval0
  refine ((parseHeads_c (S := []) (w0 := W) (L := []) a0 b0 a1 b1).out W (HP.start W)).mono fun e W' ⟨v, L', he, ⟨hv, _⟩, H'⟩ => ?_
  subst he hv
  have bel := H'.below
  exact ⟨_, rfl, _, _, _, [], _, [], hW', trodAll_mk1 (shut_bool Tryz.underlying4 _), (trodAll_cons_mk (Below.trod laidParseHeads (by kernel_rfl) (of_decide_eq_true (by kernel_rfl)) k0 bel lt0) (trodAll_cons_mk (Below.trod laidParseHeads (by kernel_rfl) (of_decide_eq_true (by kernel_rfl)) k1 bel lt1) trodAll_mk0)), rfl, bel.frame _, fun h => by cases h⟩
theorem parseHeads_said : Rows.ParseHeadsSaid :=
  OpenClaim.holds_of_wide 3 Tryz.f3 rfl rfl rfl rfl rfl rfl rfl ⟨rfl, rfl, rfl, rfl, rfl⟩ rfl rfl rfl rfl rfl (by kernel_rfl) Tryz.func3 (by kernel_rfl)
    (of_decide_eq_true (by kernel_rfl)) (by unfold Func.isWrapper; first | (rw [if_pos (by decide +kernel)]; kernel_rfl) | (rw [if_neg (by decide +kernel)]; exact ⟨rfl, rfl⟩))
    (fun os started H enc _ => parseHeads_lifted os started H enc)
theorem parseHeads_plain (f : FuncId) (fn : Func) (hf : Tryz.pinned.checked.prog.funcNamed "pinfold/pinfoldlaw10.ParseHeads" = some f) (hfn : Tryz.pinned.checked.prog.funcs[f]? = some fn) :
    false = Tryz.pinned.checked.prog.looks [] ∧ ∀ (j : Nat) t, fn.params[j]? = some t → Tryz.pinned.checked.prog.wantsStandIn t = false := by
  obtain rfl : f = 3 := Option.some.inj ((show Tryz.prog.funcNamed "pinfold/pinfoldlaw10.ParseHeads" = some 3 by kernel_rfl).symm.trans hf) |>.symm
  obtain rfl : fn = Tryz.f3 := (Option.some.inj (Tryz.func3.symm.trans hfn)).symm
  refine ⟨by kernel_rfl, fun j t ht => ?_⟩
  rw [Tryz.params3] at ht
  have hm : t ∈ [5, 9] := by simpa using Array.mem_of_getElem? ht
  have hall : ([5, 9].all fun u => !Tryz.prog.wantsStandIn u) = true := by kernel_rfl
  exact (show Tryz.prog.wantsStandIn t = false by simpa using List.all_eq_true.1 hall t hm)
theorem parseHeads_holds : Rows.ParseHeadsCardSaid :=
  Claim7.holds_tied_plain_at .later [] _ _ _ _ parseHeads_said (fun _ h => by cases h) (by kernel_rfl) (fun _ h => by cases h) parseHeads_row_tie rfl ⟨rfl, rfl⟩ (by kernel_rfl) rfl parseHeads_plain (by kernel_rfl)
#print axioms parseHeads_holds
end Go.Proofs.YtecbgehooembmaaGreatDoor
