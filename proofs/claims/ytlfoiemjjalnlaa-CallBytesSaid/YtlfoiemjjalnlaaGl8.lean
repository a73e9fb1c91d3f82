/- Rules for equality of pointers, slices and nil, for texts (compared, joined, cut, made of bytes and back), for the logic of walks. Conditions: each rule's own premises. -/
import Derived.Test.YtlfoiemjjalnlaaGl7
import Derived.Laws.Strings
namespace Go.Proofs.Ytlfoiemjjalnlaa
open Go Go.RowKit
/-- blocks chosen out of others, in another order -/
def Sel (L L' : List Blk) : Prop := ∃ M, L.Perm M ∧ L'.Sublist M
theorem Sel.refl (L : List Blk) : Sel L L := ⟨L, .refl _, .refl _⟩
theorem Sel.nil (L : List Blk) : Sel L [] := ⟨L, .refl _, List.nil_sublist _⟩
theorem Sel.cons {L L' : List Blk} {i : Nat} {x : Blk} (h : L[i]? = some x) (h2 : Sel (L.eraseIdx i) L') : Sel L (x :: L') :=
  let ⟨M, h3, h4⟩ := h2; ⟨x :: M, (erase_perm h).trans (h3.cons x), h4.cons_cons x⟩
theorem Sel.drop {L L' : List Blk} {x : Blk} (h : Sel L L') : Sel (x :: L) L' := let ⟨M, h3, h4⟩ := h; ⟨x :: M, h3.cons x, h4.cons x⟩
theorem Sel.dropA {L L' e : List Blk} (h : Sel L L') : Sel (e ++ L) L' := let ⟨M, h3, h4⟩ := h; ⟨e ++ M, h3.append_left e, h4.trans (List.sublist_append_right _ _)⟩
theorem Sel.out {S : List Nat} {w0 w : World} {L L' : List Blk} (h : Sel L L') (H : HP S w0 w L) : HP S w0 w L' := let ⟨_, h3, h4⟩ := h; (H.perm h3).sub h4
section
variable {P : Program} {n : Nat} {l : List (Nat × Value)} {S : List Nat} {w0 : World} {L : List Blk} {k : Kont} {ops : Array Oper}
/-- two operations may come up: both ways -/
theorem H_run2 {i j fuel : Nat} {listed : Array Bool} {Lb : List Blk} {o o' : Oper} (hi : ops[i]? = some o) (hj : ops[j]? = some o') (hr : Region.ready .any ops listed = [i, j]) (h : G n l S w0 L (K1 P ops k o (KHS P S w0 Lb ops k fuel (listed.setIfInBounds i true))))
    (h' : G n l S w0 L (K1 P ops k o' (KHS P S w0 Lb ops k fuel (listed.setIfInBounds j true)))) : G n l S w0 L (KH P S w0 Lb ops k (fuel + 1) listed) := .mk fun a w hF H => by
  refine ⟨wpAnyH_all hr (by simp) fun q hq => ?_⟩
  rcases (show q = i ∨ q = j by simpa using hq) with rfl | rfl
  · have hh := (h.out a w hF H).out
    unfold wpOp
    simp only [hi]
    split
    · rename_i hw; rw [if_pos hw] at hh; exact .inl (Oper.wp_mono (fun _ _ h => ⟨h.out.1, h.out.2.out⟩) hh)
    · rename_i hw; rw [if_neg hw] at hh; exact ⟨hh.out.1, hh.out.2.out⟩
  · have hh := (h'.out a w hF H).out
    unfold wpOp
    simp only [hj]
    split
    · rename_i hw; rw [if_pos hw] at hh; exact .inl (Oper.wp_mono (fun _ _ h => ⟨h.out.1, h.out.2.out⟩) hh)
    · rename_i hw; rw [if_neg hw] at hh; exact ⟨hh.out.1, hh.out.2.out⟩
/-- which of two goals -/
structure TagA (p : Prop) : Prop where
  out : p
structure TagB (p : Prop) : Prop where
  out : p
theorem H_run2t {i j fuel : Nat} {listed : Array Bool} {Lb : List Blk} {o o' : Oper} (hi : ops[i]? = some o) (hj : ops[j]? = some o') (hr : Region.ready .any ops listed = [i, j]) (h : TagA (G n l S w0 L (K1 P ops k o (KHS P S w0 Lb ops k fuel (listed.setIfInBounds i true)))))
    (h' : TagB (G n l S w0 L (K1 P ops k o' (KHS P S w0 Lb ops k fuel (listed.setIfInBounds j true))))) : G n l S w0 L (KH P S w0 Lb ops k (fuel + 1) listed) := H_run2 hi hj hr h.out h'.out
end
section
variable {P : Program} {t s : TypeId} {k : IntKind} {a b c e : Int}
theorem rb_eq_of {op : BinOp} {x y : Value} {r : Bool} (h1 : ∀ w, (Op.equal t x y).run P w = .ok r w) (hb : ∀ w, (binOp .eql t x y).run P w = ((do pure (.bool (← Op.equal t x y))) : Sem Value).run P w) (ho : op = .eql) : RBin P op t x y (.bool r) := .mk fun w => by
  subst ho; rw [hb, Sem.run_bind, h1]; rfl
theorem rb_ne_of {op : BinOp} {x y : Value} {r : Bool} (h1 : ∀ w, (Op.equal t x y).run P w = .ok r w) (hb : ∀ w, (binOp .neq t x y).run P w = ((do pure (.bool (!(← Op.equal t x y)))) : Sem Value).run P w) (ho : op = .neq) : RBin P op t x y (.bool !r) := .mk fun w => by
  subst ho; rw [hb, Sem.run_bind, h1]; rfl
theorem run_peq_nil {el : TypeId} {y : Option Addr} (ht : P.underlying t = some (.pointer el)) (w : World) : (Op.equal t (.pointer none) (.pointer y)).run P w = .ok y.isNone w := by
  show (Op.equalIn (9999 + 1) t _ _).run P w = _
  unfold Op.equalIn
  rw [Sem.run_bind, run_underlying ht]; rfl
theorem run_peq_some {el : TypeId} {x : Addr} (ht : P.underlying t = some (.pointer el)) (w : World) : (Op.equal t (.pointer (some x)) (.pointer none)).run P w = .ok false w := by
  show (Op.equalIn (9999 + 1) t _ _).run P w = _
  unfold Op.equalIn
  rw [Sem.run_bind, run_underlying ht]; rfl
theorem rb_peq_nil {el : TypeId} {y : Option Addr} (ht : P.underlying t = some (.pointer el)) : RBin P .eql t (.pointer none) (.pointer y) (.bool y.isNone) := rb_eq_of (run_peq_nil ht) (fun _ => rfl) rfl
theorem rb_peq_nn {el : TypeId} (ht : P.underlying t = some (.pointer el)) : RBin P .eql t (.pointer none) (.pointer none) (.bool true) := rb_peq_nil ht
theorem rb_peq_ns {el : TypeId} {x : Addr} (ht : P.underlying t = some (.pointer el)) : RBin P .eql t (.pointer none) (.pointer (some x)) (.bool false) := rb_peq_nil ht
theorem rb_peq_sn {el : TypeId} {x : Addr} (ht : P.underlying t = some (.pointer el)) : RBin P .eql t (.pointer (some x)) (.pointer none) (.bool false) := rb_eq_of (run_peq_some ht) (fun _ => rfl) rfl
theorem rb_pne_nn {el : TypeId} (ht : P.underlying t = some (.pointer el)) : RBin P .neq t (.pointer none) (.pointer none) (.bool false) := rb_ne_of (r := true) (run_peq_nil ht) (fun _ => rfl) rfl
theorem rb_pne_ns {el : TypeId} {x : Addr} (ht : P.underlying t = some (.pointer el)) : RBin P .neq t (.pointer none) (.pointer (some x)) (.bool true) := rb_ne_of (r := false) (run_peq_nil ht) (fun _ => rfl) rfl
theorem rb_pne_sn {el : TypeId} {x : Addr} (ht : P.underlying t = some (.pointer el)) : RBin P .neq t (.pointer (some x)) (.pointer none) (.bool true) := rb_ne_of (r := false) (run_peq_some ht) (fun _ => rfl) rfl
theorem run_seq_sn {el : TypeId} {x : Addr} {n m c' : Nat} {c : Nat} (ht : P.underlying t = some (.slice el)) (w : World) : (Op.equal t (.slice (some x) n c) (.slice none m c')).run P w = .ok false w := by
  show (Op.equalIn (9999 + 1) t _ _).run P w = _
  unfold Op.equalIn
  rw [Sem.run_bind, run_underlying ht]; rfl
theorem run_seq_nn {el : TypeId} {n m c' : Nat} {c : Nat} (ht : P.underlying t = some (.slice el)) (w : World) : (Op.equal t (.slice none n c) (.slice none m c')).run P w = .ok true w := by
  show (Op.equalIn (9999 + 1) t _ _).run P w = _
  unfold Op.equalIn
  rw [Sem.run_bind, run_underlying ht]; rfl
theorem rb_sleq_sn {el : TypeId} {x : Addr} {n m c c' : Nat} (ht : P.underlying t = some (.slice el)) : RBin P .eql t (.slice (some x) n c) (.slice none m c') (.bool false) := rb_eq_of (run_seq_sn ht) (fun _ => rfl) rfl
theorem rb_sleq_nn {el : TypeId} {n m c c' : Nat} (ht : P.underlying t = some (.slice el)) : RBin P .eql t (.slice none n c) (.slice none m c') (.bool true) := rb_eq_of (run_seq_nn ht) (fun _ => rfl) rfl
theorem rb_slne_sn {el : TypeId} {x : Addr} {n m c c' : Nat} (ht : P.underlying t = some (.slice el)) : RBin P .neq t (.slice (some x) n c) (.slice none m c') (.bool true) := rb_ne_of (r := false) (run_seq_sn ht) (fun _ => rfl) rfl
theorem rb_slne_nn {el : TypeId} {n m c c' : Nat} (ht : P.underlying t = some (.slice el)) : RBin P .neq t (.slice none n c) (.slice none m c') (.bool false) := rb_ne_of (r := true) (run_seq_nn ht) (fun _ => rfl) rfl

theorem rb_bne_s {x : Bool} (hu : P.underlying t = some .bool) : RBin P .neq t (.bool x) (.bool x) (.bool false) := by
  have := rb_bne (x := x) (y := x) hu
  simpa using this
theorem rb_beq_s {x : Bool} (hu : P.underlying t = some .bool) : RBin P .eql t (.bool x) (.bool x) (.bool true) := by
  have := rb_beq (x := x) (y := x) hu
  simpa using this
theorem rb_streq_s {x : ByteArray} : RBin P .eql t (.string x) (.string x) (.bool true) := .mk fun w => by
  simp [binOp, Op.stringOp]
theorem rb_strne_s {x : ByteArray} : RBin P .neq t (.string x) (.string x) (.bool false) := .mk fun w => by
  simp [binOp, Op.stringOp]
/-! ### texts -/
theorem ba_toList (x : ByteArray) : x.toList = x.data.toList := ByteArray.toList_eq x
theorem str_beq (x y : ByteArray) : (x.toList == y.toList) = decide (x = y) := by
  by_cases h : x = y
  · subst h; simp
  · have : x.toList ≠ y.toList := fun e => h (by
      rw [ba_toList, ba_toList] at e
      cases x; cases y; simp only at e ⊢; congr 1; exact Array.ext' e)
    simp [h, this]
theorem rb_streq {x y : ByteArray} : RBin P .eql t (.string x) (.string y) (.bool (decide (x = y))) := .mk fun w => by
  simp only [binOp, Op.stringOp, Sem.run_pure, str_beq]
theorem rb_strne {x y : ByteArray} : RBin P .neq t (.string x) (.string y) (.bool (decide (¬ x = y))) := .mk fun w => by
  simp only [binOp, Op.stringOp, Sem.run_pure, str_beq, decide_not]
theorem rb_streq_f {x y : ByteArray} (h : x.size ≠ y.size) : RBin P .eql t (.string x) (.string y) (.bool false) := by
  have : decide (x = y) = false := by simp; rintro rfl; exact h rfl
  rw [← this]; exact rb_streq
theorem rb_strne_t {x y : ByteArray} (h : x.size ≠ y.size) : RBin P .neq t (.string x) (.string y) (.bool true) := by
  have : decide (¬ x = y) = true := by simp; rintro rfl; exact h rfl
  rw [← this]; exact rb_strne
theorem rb_stradd {x y z : ByteArray} (h : x ++ y = z) (hl : x.size + y.size ≤ 9223372036854775807) : RBin P .add t (.string x) (.string y) (.string z) := .mk fun w => by
  subst h
  have : ¬ ((x.size + y.size : Nat) : Int) > IntKind.i64.max := by simp [IntKind.max, IntKind.signed, IntKind.bits]; omega
  simp only [binOp, Op.stringOp, this, if_false, Sem.run_pure]
theorem r_sl_str {x z : ByteArray} {lo hi : Option Value} {h' l' : Nat} (ht : P.underlying t = some .string)
    (hb : ∀ w, (Instr.sliceBounds false x.size x.size lo hi none).run P w = .ok (l', h', x.size) w) (hz : x.extract l' h' = z) : RSlc P t (.string x) lo hi none (.string z) := .mk fun w => by
  subst hz
  simp [Instr.sliceAt, Instr.slice, Sem.run_bind, run_underlying ht, hb]
theorem bd_00 {n m : Nat} {q : Bool} (w : World) : (Instr.sliceBounds q n m none none none).run P w = .ok (0, n, m) w := by
  simp [Instr.sliceBounds, Sem.run_bind]
theorem bd_10 {n m : Nat} {q : Bool} {lo : Int} {l' : Nat} (h0 : 0 ≤ lo) (h1 : lo ≤ n) (hl : lo.toNat = l') (w : World) : (Instr.sliceBounds q n m (some (.int k lo)) none none).run P w = .ok (l', n, m) w := by
  subst hl; simp [Instr.sliceBounds, Instr.sliceBound, asIntOf, Sem.run_bind, h0, h1]
theorem bd_01 {n m : Nat} {q : Bool} {hi : Int} {h' : Nat} (h0 : 0 ≤ hi) (h1 : hi ≤ m) (hl : hi.toNat = h') (w : World) : (Instr.sliceBounds q n m none (some (.int k hi)) none).run P w = .ok (0, h', m) w := by
  subst hl; simp [Instr.sliceBounds, Instr.sliceBound, asIntOf, Sem.run_bind, h0, h1]
theorem bd_11 {n m : Nat} {q : Bool} {lo hi : Int} {l' h' : Nat} {k' : IntKind} (h0 : 0 ≤ lo) (h1 : lo ≤ hi) (h2 : hi ≤ m) (hl : lo.toNat = l') (hh : hi.toNat = h') (w : World) : (Instr.sliceBounds q n m (some (.int k lo)) (some (.int k' hi)) none).run P w = .ok (l', h', m) w := by
  subst hl hh
  have h3 : 0 ≤ hi := by omega
  have h4 : lo ≤ max hi 0 := by omega
  simp [Instr.sliceBounds, Instr.sliceBound, asIntOf, Sem.run_bind, h0, h2, h3, h4]
end
end Go.Proofs.Ytlfoiemjjalnlaa
