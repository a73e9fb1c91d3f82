/- A logic of walks over states that are told in part: the slots that are known, the blocks that are known ('HP'). Conditions: none beyond each rule's own premises. -/
import Derived.Test.YtlfoiemjjalnlaaKit1
import Derived.Test.YtlfoiemjjalnlaaKit4
import Derived.OrdersHeld
namespace Go.Proofs.Ytlfoiemjjalnlaa
open Go Go.RowKit

/-! ### states -/
/-- the last value laid under a number -/
def lk : List (Nat × Value) → Nat → Option Value
  | [], _ => none
  | (k, v) :: l, i => bif Nat.beq i k then some v else lk l i

/-- an operand's value, if its slot is known -/
def ev (l : List (Nat × Value)) : Operand → Option Value
  | .tmp t => lk l t
  | .const v => some v
  | .global g => some (.pointer (some ⟨g, 0, none⟩))
  | .func f => some (.func (.func f) #[] #[])

/-- a frame of n slots, nothing deferred, that holds what is known -/
structure Fr (n : Nat) (l : List (Nat × Value)) (a : Act) : Prop where
  size : a.tmps.size = n
  defers : a.defers = []
  slot : ∀ i v, lk l i = some v → a.tmps[i]? = some v

structure G (n : Nat) (l : List (Nat × Value)) (S : List Nat) (w0 : World) (L : List Blk) (K : Act → World → Prop) : Prop where
  out : ∀ a w, Fr n l a → HP S w0 w L → K a w

def pushD (d : Option Tmp) (v : Value) (l : List (Nat × Value)) : List (Nat × Value) :=
  match d with | some d => (d, v) :: l | none => l

def okD (n : Nat) : Option Tmp → Bool
  | some d => Nat.blt d n
  | none => true

theorem Fr.eval {n : Nat} {l : List (Nat × Value)} {a : Act} (h : Fr n l a) {x : Operand} {v : Value} (hx : ev l x = some v) : a.eval x = v := by
  cases x with
  | tmp t =>
    have := h.slot t v hx
    simp [Act.eval, Array.getD_eq_getD_getElem?, this]
  | const c => simpa [Act.eval, ev] using hx
  | global g => simpa [Act.eval, ev] using hx
  | func f => simpa [Act.eval, ev] using hx

theorem Fr.put {n : Nat} {l : List (Nat × Value)} {a : Act} (h : Fr n l a) (d : Option Tmp) (v : Value) (hd : okD n d = true) : Fr n (pushD d v l) (a.put d v) := by
  cases d with
  | none => exact h
  | some d =>
    have hd' : d < n := by simpa [okD, Nat.blt_eq] using hd
    refine ⟨by simp [Act.put, h.size], by simp [Act.put, h.defers], fun i v' hv => ?_⟩
    simp only [pushD, lk] at hv
    cases hb : Nat.beq i d with
    | true =>
      have := Nat.eq_of_beq_eq_true hb
      subst this
      simp only [hb, cond_true, Option.some.injEq] at hv
      subst hv
      simp [Act.put, h.size, hd']
    | false =>
      simp only [hb, cond_false] at hv
      have hne : d ≠ i := by rintro rfl; simp at hb
      simp only [Act.put]
      rw [Array.getElem?_setIfInBounds_ne hne]
      exact h.slot i v' hv

/-- what is known of the slots follows from what is known -/
def Sub (l : List (Nat × Value)) : List (Nat × Value) → Prop
  | [] => True
  | (k, v) :: l' => lk l k = some v ∧ Sub l l'

theorem Sub.nil {l : List (Nat × Value)} : Sub l [] := trivial
theorem Sub.cons {l l' : List (Nat × Value)} {k : Nat} {v : Value} (h : lk l k = some v) (h' : Sub l l') : Sub l ((k, v) :: l') := ⟨h, h'⟩
theorem Sub.lk {l : List (Nat × Value)} : ∀ {l' : List (Nat × Value)}, Sub l l' → ∀ i v, lk l' i = some v → Ytlfoiemjjalnlaa.lk l i = some v
  | [], _, i, v, h => by simp [Ytlfoiemjjalnlaa.lk] at h
  | (k, u) :: l', ⟨h1, h2⟩, i, v, h => by
    simp only [Ytlfoiemjjalnlaa.lk] at h
    cases hb : Nat.beq i k with
    | true =>
      rw [hb, cond_true, Option.some.injEq] at h
      rw [Nat.eq_of_beq_eq_true hb, h1, h]
    | false =>
      rw [hb, cond_false] at h
      exact Sub.lk h2 i v h

theorem Fr.sub {n : Nat} {l l' : List (Nat × Value)} {a : Act} (h : Fr n l a) (hs : Sub l l') : Fr n l' a :=
  ⟨h.size, h.defers, fun i v hv => h.slot i v (hs.lk i v hv)⟩

/-- what stands behind a piece of code -/
inductive Kont where
  | seq (y : Code) (k : Kont)
  | blk (id : Nat) (k : Kont)
  | fin (fn : Func) (R : Ending → World → Prop)
  | cut (K : Act → World → Prop) (k : Kont)

def Kont.den (P : Program) : Kont → Exit → Act → World → Prop
  | .seq y k => Exit.then (Code.wp P y (k.den P)) (k.den P)
  | .blk id k => Exit.inBlock id (k.den P)
  | .fin fn R => bodyPost P fn R
  | .cut K k => Exit.then K (k.den P)

structure KC (P : Program) (c : Code) (k : Kont) (a : Act) (w : World) : Prop where
  out : c.wp P (k.den P) a w
structure KO (P : Program) (ops : Array Oper) (k : Kont) (rest : List Oper) (a : Act) (w : World) : Prop where
  out : wpList P ops (k.den P) rest a w
structure KX (P : Program) (k : Kont) (e : Exit) (a : Act) (w : World) : Prop where
  out : k.den P e a w

section
variable {P : Program} {n : Nat} {l : List (Nat × Value)} {S : List Nat} {w0 : World} {L : List Blk} {K : Act → World → Prop} {k : Kont}

/-! ### code -/
theorem G.imp {K' : Act → World → Prop} (h : G n l S w0 L K') (hk : ∀ a w, K' a w → K a w) : G n l S w0 L K := .mk fun a w hf H => hk a w (h.out a w hf H)

/-- the known slots are forgotten but these -/
theorem G_keep {l' : List (Nat × Value)} (hs : Sub l l') (h : G n l' S w0 L K) : G n l S w0 L K := .mk fun a w hf H => h.out a w (hf.sub hs) H
theorem G_blocks {L' : List Blk} (hs : ∀ w, HP S w0 w L → HP S w0 w L') (h : G n l S w0 L' K) : G n l S w0 L K := .mk fun a w hf H => h.out a w hf (hs w H)
/-- what the blocks tell -/
theorem G_fact {p : Prop} (hp : ∀ w, HP S w0 w L → p) (h : p → G n l S w0 L K) : G n l S w0 L K := .mk fun a w hf H => (h (hp w H)).out a w hf H

theorem G_seq {x y : Code} (h : G n l S w0 L (KC P x (.seq y k))) : G n l S w0 L (KC P (.seq x y) k) := .mk fun a w hf H => ⟨wp_seq (h.out a w hf H).out⟩
theorem G_block {id : Nat} {c : Code} (h : G n l S w0 L (KC P c (.blk id k))) : G n l S w0 L (KC P (.block id c) k) := .mk fun a w hf H => ⟨wp_block (h.out a w hf H).out⟩
theorem G_skip (h : G n l S w0 L (KX P k .normal)) : G n l S w0 L (KC P .skip k) := .mk fun a w hf H => ⟨wp_skip (h.out a w hf H).out⟩
theorem G_exit {id : Nat} (h : G n l S w0 L (KX P k (.exit id))) : G n l S w0 L (KC P (.exit id) k) := .mk fun a w hf H => ⟨wp_exit (h.out a w hf H).out⟩
theorem G_ret (h : G n l S w0 L (KX P k .ret)) : G n l S w0 L (KC P .ret k) := .mk fun a w hf H => ⟨wp_ret (h.out a w hf H).out⟩
theorem G_region {id : Nat} {ops : List Oper} (h : G n l S w0 L (KO P ops.toArray k ops)) : G n l S w0 L (KC P (.region id ops.toArray false) k) := .mk fun a w hf H => ⟨wp_region_lit (h.out a w hf H).out⟩
theorem G_nil {ops : Array Oper} (h : G n l S w0 L (KX P k .normal)) : G n l S w0 L (KO P ops k []) := .mk fun a w hf H => ⟨(h.out a w hf H).out⟩
theorem G_then_n {y : Code} (h : G n l S w0 L (KC P y k)) : G n l S w0 L (KX P (.seq y k) .normal) := .mk fun a w hf H => ⟨(h.out a w hf H).out⟩
theorem G_then_x {y : Code} {id : Nat} (h : G n l S w0 L (KX P k (.exit id))) : G n l S w0 L (KX P (.seq y k) (.exit id)) := .mk fun a w hf H => ⟨(h.out a w hf H).out⟩
theorem G_then_r {y : Code} (h : G n l S w0 L (KX P k .ret)) : G n l S w0 L (KX P (.seq y k) .ret) := .mk fun a w hf H => ⟨(h.out a w hf H).out⟩
theorem G_cut_n (h : G n l S w0 L K) : G n l S w0 L (KX P (.cut K k) .normal) := .mk fun a w hf H => ⟨h.out a w hf H⟩
theorem G_cut_x {id : Nat} (h : G n l S w0 L (KX P k (.exit id))) : G n l S w0 L (KX P (.cut K k) (.exit id)) := .mk fun a w hf H => ⟨(h.out a w hf H).out⟩
theorem G_cut_r (h : G n l S w0 L (KX P k .ret)) : G n l S w0 L (KX P (.cut K k) .ret) := .mk fun a w hf H => ⟨(h.out a w hf H).out⟩
theorem G_blk_n {id : Nat} (h : G n l S w0 L (KX P k .normal)) : G n l S w0 L (KX P (.blk id k) .normal) := .mk fun a w hf H => ⟨(h.out a w hf H).out⟩
theorem G_blk_r {id : Nat} (h : G n l S w0 L (KX P k .ret)) : G n l S w0 L (KX P (.blk id k) .ret) := .mk fun a w hf H => ⟨(h.out a w hf H).out⟩
theorem G_blk_x {id : Nat} (h : G n l S w0 L (KX P k .normal)) : G n l S w0 L (KX P (.blk id k) (.exit id)) := by
  refine .mk fun a w hf H => ⟨?_⟩
  simp only [Kont.den, Exit.inBlock, if_true]; exact (h.out a w hf H).out
theorem G_blk_y {id id' : Nat} (hne : Nat.beq id' id = false) (h : G n l S w0 L (KX P k (.exit id'))) : G n l S w0 L (KX P (.blk id k) (.exit id')) := by
  refine .mk fun a w hf H => ⟨?_⟩
  have : id' ≠ id := by rintro rfl; simp at hne
  simp only [Kont.den, Exit.inBlock, if_neg this]; exact (h.out a w hf H).out

theorem G_cond_t {c : Operand} {x y : Code} (hc : ev l c = some (.bool true)) (h : G n l S w0 L (KC P x k)) : G n l S w0 L (KC P (.cond c x y) k) := .mk
  fun a w hf H => ⟨wp_cond_true (hf.eval hc) (h.out a w hf H).out⟩
theorem G_cond_f {c : Operand} {x y : Code} (hc : ev l c = some (.bool false)) (h : G n l S w0 L (KC P y k)) : G n l S w0 L (KC P (.cond c x y) k) := .mk
  fun a w hf H => ⟨wp_cond_false (hf.eval hc) (h.out a w hf H).out⟩
theorem Fr.again {a : Act} {t : Tmp} {v : Value} (hf : Fr n l a) (hv : lk l t = some v) : Fr n ((t, v) :: l) a :=
  ⟨hf.size, hf.defers, fun i u hi => by
    simp only [lk] at hi
    cases hb : Nat.beq i t with
    | true => rw [hb, cond_true, Option.some.injEq] at hi; rw [Nat.eq_of_beq_eq_true hb, ← hi]; exact hf.slot _ _ hv
    | false => rw [hb, cond_false] at hi; exact hf.slot i u hi⟩
theorem G_cond {t : Tmp} {x y : Code} {b : Bool} (hc : lk l t = some (.bool b)) (ht : b = true → G n ((t, .bool true) :: l) S w0 L (KC P x k)) (hF : b = false → G n ((t, .bool false) :: l) S w0 L (KC P y k)) :
    G n l S w0 L (KC P (.cond (.tmp t) x y) k) := .mk fun a w hf H => by
  cases b with
  | true => exact ⟨wp_cond_true (hf.eval (x := .tmp t) hc) ((ht rfl).out a w (hf.again hc) H).out⟩
  | false => exact ⟨wp_cond_false (hf.eval (x := .tmp t) hc) ((hF rfl).out a w (hf.again hc) H).out⟩
theorem G_cond_d {t : Tmp} {x y : Code} {p : Prop} {i : Decidable p} (hc : lk l t = some (.bool (decide p))) (ht : p → G n ((t, .bool true) :: l) S w0 L (KC P x k)) (hF : ¬ p → G n ((t, .bool false) :: l) S w0 L (KC P y k)) :
    G n l S w0 L (KC P (.cond (.tmp t) x y) k) :=
  G_cond hc (fun h => ht (of_decide_eq_true h)) (fun h => hF (of_decide_eq_false h))
theorem G_cond_nd {t : Tmp} {x y : Code} {p : Prop} {i : Decidable (¬ p)} (hc : lk l t = some (.bool (@decide (¬ p) i))) (ht : ¬ p → G n ((t, .bool true) :: l) S w0 L (KC P x k)) (hF : p → G n ((t, .bool false) :: l) S w0 L (KC P y k)) :
    G n l S w0 L (KC P (.cond (.tmp t) x y) k) :=
  G_cond hc (fun h => ht (of_decide_eq_true h)) (fun h => hF (Classical.not_not.1 (of_decide_eq_false h)))

/-- a state told by a ghost -/
structure At {γ : Type} (n : Nat) (S : List Nat) (w0 : World) (R : γ → Prop) (l' : γ → List (Nat × Value)) (L' : γ → List Blk) (a : Act) (w : World) : Prop where
  out : ∃ g, R g ∧ Fr n (l' g) a ∧ HP S w0 w (L' g)

/-- ways that meet again: what is known there, by a ghost g -/
theorem G_meetat {γ : Type} {c y : Code} (R : γ → Prop) (l' : γ → List (Nat × Value)) (L' : γ → List Blk)
    (h1 : G n l S w0 L (KC P c (.cut (At n S w0 R l' L') k))) (h2 : ∀ g, R g → G n (l' g) S w0 (L' g) (KC P y k)) :
    G n l S w0 L (KC P c (.seq y k)) := .mk fun a w hf H =>
  ⟨wp_mono (h1.out a w hf H).out fun e a w h => by
    cases e <;> first | exact (let ⟨g, hR, hf, H⟩ := h.out; ((h2 g hR).out a w hf H).out) | exact h⟩
/-- the end of a cut, of a loop's round -/
theorem G_meet {γ : Type} {R : γ → Prop} {l' : γ → List (Nat × Value)} {L' : γ → List Blk} (g : γ) (hR : R g) (hs : Sub l (l' g)) (hL : ∀ w, HP S w0 w L → HP S w0 w (L' g)) :
    G n l S w0 L (At n S w0 R l' L') := .mk fun _ w hf H => ⟨g, hR, hf.sub hs, hL w H⟩

/-- a loop: what holds at each round's head, by a ghost; a measure of the ghost that each round lowers -/
theorem G_loop {γ : Type} {c : Code} (R : γ → Prop) (μ : γ → Nat) (l' : γ → List (Nat × Value)) (L' : γ → List Blk) (g0 : γ) (hR : R g0) (hs : Sub l (l' g0)) (hL : ∀ w, HP S w0 w L → HP S w0 w (L' g0))
    (round : ∀ g, R g → G n (l' g) S w0 (L' g) (KC P c (.cut (At n S w0 (fun g' => R g' ∧ μ g' < μ g) l' L') k))) :
    G n l S w0 L (KC P (.loop c) k) := by
  refine .mk fun a w hf H => ⟨?_⟩
  intro b k' cs
  have key : ∀ m g a w, μ g = m → R g → Fr n (l' g) a → HP S w0 w (L' g) →
      ∃ e a' w', k.den P e a' w' ∧ Arrives P (lone (b.at a (.code c :: .inLoop c :: k')) cs w) b k' cs e a' w' := by
    intro m
    induction m using Nat.strongRecOn with
    | _ m ih =>
      intro g a w hm hR hf H
      obtain ⟨e, a₁, w₁, hq, harr⟩ := ((round g hR).out a w hf H).out b (.inLoop c :: k') cs
      cases e with
      | normal =>
        obtain ⟨g', ⟨hR', hlt⟩, hf', H'⟩ := hq.out
        obtain ⟨e₂, a₂, w₂, hq₂, harr₂⟩ := ih (μ g') (hm ▸ hlt) g' a₁ w₁ rfl hR' hf' H'
        exact ⟨e₂, a₂, w₂, hq₂, .of_steps (Steps.trans harr (.one step_inLoop)) harr₂⟩
      | exit id => exact ⟨_, a₁, w₁, hq, .pass (x := .inLoop c) rfl (fun _ _ => .inl (by simp)) harr⟩
      | goto l => exact ⟨_, a₁, w₁, hq, .pass (x := .inLoop c) rfl (fun _ _ => .inl (by simp)) harr⟩
      | ret => exact ⟨_, a₁, w₁, hq, .pass (x := .inLoop c) rfl (fun _ _ => .inl (by simp)) harr⟩
      | panic ch => exact ⟨_, a₁, w₁, hq, .pass (x := .inLoop c) rfl (fun _ _ => .inl (by simp)) harr⟩
      | outgrown => exact ⟨_, a₁, w₁, hq, .pass (x := .inLoop c) rfl (fun _ _ => .inl (by simp)) harr⟩
  obtain ⟨e, a', w', hq, harr⟩ := key _ g0 a w rfl hR (hf.sub hs) (hL w H)
  exact ⟨e, a', w', hq, .of_steps (.one step_loop) harr⟩

/-! ### operations -/
variable {ops : Array Oper} {rest : List Oper} {d : Tmp} {ty : TypeId} {pos : String} {af : Array Edge}

theorem Fr.not_wanted {a : Act} {o : Oper} {j : Nat} {want b : Bool} {dj : Tmp} (hf : Fr n l a) (hg : o.guard = some (j, want)) (hj : (ops[j]?).bind (·.dst) = some dj) (hv : lk l dj = some (.bool b)) (hne : (b == want) = false) :
    Region.wanted o (yielded ops a.tmps) = false := by
  simp only [Region.wanted, hg, yielded, hj, Option.bind_some, hf.slot dj _ hv]
  cases b <;> cases want <;> simp_all
theorem Fr.not_wanted_u {a : Act} {o : Oper} {j : Nat} {want : Bool} {dj : Tmp} (hf : Fr n l a) (hg : o.guard = some (j, want)) (hj : (ops[j]?).bind (·.dst) = some dj) (hv : lk l dj = some undef) :
    Region.wanted o (yielded ops a.tmps) = false := by
  simp only [Region.wanted, hg, yielded, hj, Option.bind_some, hf.slot dj _ hv]
  rfl
/-- a guard that is not known: both ways -/
theorem G_again {b : Bool} {dj : Tmp} {K : Act → World → Prop} (hv : lk l dj = some (.bool b)) (ht : b = true → G n ((dj, .bool true) :: l) S w0 L K) (hF : b = false → G n ((dj, .bool false) :: l) S w0 L K) : G n l S w0 L K := .mk fun a w hf H => by
  cases b with
  | true => exact (ht rfl).out a w (hf.again hv) H
  | false => exact (hF rfl).out a w (hf.again hv) H

/-- an operation on the operands' values alone -/
structure Runs (P : Program) (s : Sem Value) (v : Value) : Prop where
  out : ∀ w, s.run P w = .ok v w

/-- the same for one kind of operation: so that what does not fit is seen at once -/
structure RBin (P : Program) (op : BinOp) (t : TypeId) (x y v : Value) : Prop where
  out : ∀ w, (binOp op t x y).run P w = .ok v w
structure RUn (P : Program) (op : UnOp) (x v : Value) : Prop where
  out : ∀ w, (Op.unary op x).run P w = .ok v w
structure RConv (P : Program) (s t : TypeId) (x v : Value) : Prop where
  out : ∀ w, (convert s t x).run P w = .ok v w
structure RIdx (P : Program) (t : TypeId) (x i v : Value) : Prop where
  out : ∀ w, (Instr.index t x i).run P w = .ok v w
structure RIdxA (P : Program) (t : TypeId) (x i v : Value) : Prop where
  out : ∀ w, (Instr.indexAt t x i).run P w = .ok v w
structure RFldA (P : Program) (t : TypeId) (x : Value) (f : Nat) (v : Value) : Prop where
  out : ∀ w, (Instr.fieldAt t x f).run P w = .ok v w
structure RFld (P : Program) (t : TypeId) (x : Value) (f : Nat) (v : Value) : Prop where
  out : ∀ w, (Instr.field t x f).run P w = .ok v w
structure RSlc (P : Program) (t : TypeId) (x : Value) (lo hi mx : Option Value) (v : Value) : Prop where
  out : ∀ w, (Instr.sliceAt t x lo hi mx).run P w = .ok v w

def plainEq (vx : Value) : Bool := match vx with | .nilIface | .agg _ => false | _ => true

def evO (l : List (Nat × Value)) : Option Operand → Option (Option Value)
  | none => some none
  | some x => (ev l x).map some
theorem Fr.evalO {a : Act} (h : Fr n l a) {x : Option Operand} {v : Option Value} (hx : evO l x = some v) : x.map a.eval = v := by
  cases x with
  | none => simpa [evO] using hx
  | some x =>
    cases hq : ev l x with
    | none => simp [evO, hq] at hx
    | some u => simp only [evO, hq, Option.map_some, Option.some.injEq] at hx; simp [h.eval hq, hx]
/-- the values of a list of operands -/
def evs (l : List (Nat × Value)) : List Operand → Option (List Value)
  | [] => some []
  | x :: xs => match ev l x with | some v => (match evs l xs with | some vs => some (v :: vs) | none => none) | none => none
theorem Fr.evals {a : Act} (h : Fr n l a) : ∀ {xs : List Operand} {vs : List Value}, evs l xs = some vs → xs.map a.eval = vs
  | [], vs, hx => by simp [evs] at hx; simp [hx]
  | x :: xs, vs, hx => by
    unfold evs at hx
    cases hq : ev l x with
    | none => simp [hq] at hx
    | some v =>
      cases hr : evs l xs with
      | none => simp [hq, hr] at hx
      | some us =>
        simp only [hq, hr, Option.some.injEq] at hx
        simp [h.eval hq, h.evals hr, hx]

/-- a struct or an array is put together -/
def evp (l : List (Nat × Value)) : List (Nat × Operand) → Option (List (Nat × Value))
  | [] => some []
  | p :: xs => match ev l p.2 with | some v => (match evp l xs with | some vs => some ((p.1, v) :: vs) | none => none) | none => none
theorem Fr.evalp {a : Act} (h : Fr n l a) : ∀ {xs : List (Nat × Operand)} {vs : List (Nat × Value)}, evp l xs = some vs → xs.map (fun (i, x) => (i, a.eval x)) = vs
  | [], vs, hx => by simp [evp] at hx; simp [hx]
  | p :: xs, vs, hx => by
    unfold evp at hx
    cases hq : ev l p.2 with
    | none => simp [hq] at hx
    | some v =>
      cases hr : evp l xs with
      | none => simp [hq, hr] at hx
      | some us =>
        simp only [hq, hr, Option.some.injEq] at hx
        simp only [List.map_cons, h.evalp hr]
        rw [← hx, h.eval hq]
/-! ### blocks -/
theorem fd0 {x : Blk} {L : List Blk} : (x :: L)[0]? = some x := rfl
theorem fdS {y x : Blk} {L : List Blk} {i : Nat} (h : L[i]? = some x) : (y :: L)[i + 1]? = some x := h

theorem G_again_d {p : Prop} {i : Decidable p} {dj : Tmp} {K : Act → World → Prop} (hv : lk l dj = some (.bool (decide p))) (ht : p → G n ((dj, .bool true) :: l) S w0 L K) (hF : ¬ p → G n ((dj, .bool false) :: l) S w0 L K) : G n l S w0 L K :=
  G_again hv (fun h => ht (of_decide_eq_true h)) (fun h => hF (of_decide_eq_false h))
theorem G_again_nd {p : Prop} {i : Decidable (¬ p)} {dj : Tmp} {K : Act → World → Prop} (hv : lk l dj = some (.bool (@decide (¬ p) i))) (ht : ¬ p → G n ((dj, .bool true) :: l) S w0 L K) (hF : p → G n ((dj, .bool false) :: l) S w0 L K) : G n l S w0 L K :=
  G_again hv (fun h => ht (of_decide_eq_true h)) (fun h => hF (Classical.not_not.1 (of_decide_eq_false h)))

/-- an operation on what is known yields this value and turns nothing -/
structure ValOf (P : Program) (n : Nat) (l : List (Nat × Value)) (S : List Nat) (w0 : World) (L : List Blk) (o : Oper) (v : Value) : Prop where
  out : ∀ a w, Fr n l a → HP S w0 w L → (execOp a.eval o).run P w = .ok (.value v) w

/-- one operation, and what is wanted behind it -/
structure K1 (P : Program) (ops : Array Oper) (k : Kont) (o : Oper) (K : Act → World → Prop) (a : Act) (w : World) : Prop where
  out : if Region.wanted o (yielded ops a.tmps) then o.wp P a w K (k.den P) else K (a.put o.dst undef) w

theorem G_op1 {o : Oper} (h : G n l S w0 L (K1 P ops k o (KO P ops k rest))) : G n l S w0 L (KO P ops k (o :: rest)) := .mk fun a w hf H => by
  have hh := (h.out a w hf H).out
  refine ⟨?_⟩
  unfold wpList
  split
  · rename_i hw; rw [if_pos hw] at hh; exact .inl (Oper.wp_mono (fun _ _ h => h.out) hh)
  · rename_i hw; rw [if_neg hw] at hh; exact hh.out

theorem k1_want {o : Oper} {a : Act} {w : World} (hw : Region.wanted o (yielded ops a.tmps) = true) (h : o.wp P a w K (k.den P)) : K1 P ops k o K a w := ⟨by rw [if_pos hw]; exact h⟩
theorem K1_of_wp {o : Oper} {L' : List Blk} {l' : List (Nat × Value)} (hg : o.guard = none) (hw : ∀ a w (K : Act → World → Prop), Fr n l a → HP S w0 w L → (∀ a w, Fr n l' a → HP S w0 w L' → K a w) → o.wp P a w K (k.den P))
    (h : G n l' S w0 L' K) : G n l S w0 L (K1 P ops k o K) := .mk fun a w hf H => by
  refine ⟨?_⟩
  rw [if_pos (by simp [Region.wanted, hg])]
  exact hw a w K hf H fun a w hf H => h.out a w hf H

theorem K1_ev {op : Op} {v : Value} (hd : Nat.blt d n = true) (hv : ValOf P n l S w0 L ⟨some d, op, ty, pos, af, none⟩ v) (h : G n ((d, v) :: l) S w0 L K) : G n l S w0 L (K1 P ops k ⟨some d, op, ty, pos, af, none⟩ K) :=
  K1_of_wp rfl (fun a w K hf H hK => by
    unfold Oper.wp
    rw [hv.out a w hf H]
    exact hK _ _ (hf.put (some d) v hd) H) h

/-- an operation whose guard says no -/
theorem K1_not {o : Oper} (hw : ∀ a, Fr n l a → Region.wanted o (yielded ops a.tmps) = false) (hd : okD n o.dst = true) (h : G n (pushD o.dst undef l) S w0 L K) : G n l S w0 L (K1 P ops k o K) := .mk fun a w hf H => by
  refine ⟨?_⟩
  rw [if_neg (by simp [hw a hf])]
  exact h.out _ _ (hf.put _ _ hd) H
theorem K1_no {op : Op} {j : Nat} {want b : Bool} {dj : Tmp} (hj : (ops[j]?).bind (·.dst) = some dj) (hv : lk l dj = some (.bool b)) (hne : (b == want) = false)
    (hd : Nat.blt d n = true) (h : G n ((d, undef) :: l) S w0 L K) : G n l S w0 L (K1 P ops k ⟨some d, op, ty, pos, af, some (j, want)⟩ K) :=
  K1_not (fun _ hf => hf.not_wanted rfl hj hv hne) hd h
theorem K1_no_n {op : Op} {j : Nat} {want b : Bool} {dj : Tmp} (hj : (ops[j]?).bind (·.dst) = some dj) (hv : lk l dj = some (.bool b)) (hne : (b == want) = false)
    (h : G n l S w0 L K) : G n l S w0 L (K1 P ops k ⟨none, op, ty, pos, af, some (j, want)⟩ K) :=
  K1_not (fun _ hf => hf.not_wanted rfl hj hv hne) rfl h
/-- an operation whose guard was itself passed over -/
theorem K1_nou {op : Op} {j : Nat} {want : Bool} {dj : Tmp} (hj : (ops[j]?).bind (·.dst) = some dj) (hv : lk l dj = some undef)
    (hd : Nat.blt d n = true) (h : G n ((d, undef) :: l) S w0 L K) : G n l S w0 L (K1 P ops k ⟨some d, op, ty, pos, af, some (j, want)⟩ K) :=
  K1_not (fun _ hf => hf.not_wanted_u rfl hj hv) hd h
theorem K1_nou_n {op : Op} {j : Nat} {want : Bool} {dj : Tmp} (hj : (ops[j]?).bind (·.dst) = some dj) (hv : lk l dj = some undef)
    (h : G n l S w0 L K) : G n l S w0 L (K1 P ops k ⟨none, op, ty, pos, af, some (j, want)⟩ K) :=
  K1_not (fun _ hf => hf.not_wanted_u rfl hj hv) rfl h
theorem Fr.is_wanted {a : Act} {d : Option Tmp} {op : Op} {j : Nat} {want b : Bool} {dj : Tmp} (hf : Fr n l a) (hj : (ops[j]?).bind (·.dst) = some dj) (hv : lk l dj = some (.bool b)) (he : (b == want) = true) :
    Region.wanted (⟨d, op, ty, pos, af, some (j, want)⟩ : Oper) (yielded ops a.tmps) = true := by
  simp only [Region.wanted, yielded, hj, Option.bind_some, hf.slot dj _ hv]
  cases b <;> cases want <;> simp_all
/-- an operation whose guard says yes -/
theorem K1_yes {d : Option Tmp} {op : Op} {j : Nat} {want b : Bool} {dj : Tmp} (hj : (ops[j]?).bind (·.dst) = some dj) (hv : lk l dj = some (.bool b)) (he : (b == want) = true)
    (h : G n l S w0 L (K1 P ops k ⟨d, op, ty, pos, af, none⟩ K)) : G n l S w0 L (K1 P ops k ⟨d, op, ty, pos, af, some (j, want)⟩ K) := .mk fun a w hf H => by
  have hh := (h.out a w hf H).out
  rw [if_pos (by rfl)] at hh
  refine ⟨?_⟩
  rw [if_pos (hf.is_wanted hj hv he)]
  exact hh
/-- a guard that is not known: both ways -/
theorem K1_guard {d : Option Tmp} {op : Op} {j : Nat} {want b : Bool} {dj : Tmp} (hj : (ops[j]?).bind (·.dst) = some dj) (hv : lk l dj = some (.bool b))
    (ht : b = true → G n ((dj, .bool true) :: l) S w0 L (K1 P ops k ⟨d, op, ty, pos, af, some (j, want)⟩ K)) (hF : b = false → G n ((dj, .bool false) :: l) S w0 L (K1 P ops k ⟨d, op, ty, pos, af, some (j, want)⟩ K)) :
    G n l S w0 L (K1 P ops k ⟨d, op, ty, pos, af, some (j, want)⟩ K) := have _ := hj; G_again hv ht hF
theorem K1_guard_d {d : Option Tmp} {op : Op} {j : Nat} {want : Bool} {p : Prop} {i : Decidable p} {dj : Tmp} (hj : (ops[j]?).bind (·.dst) = some dj) (hv : lk l dj = some (.bool (decide p)))
    (ht : p → G n ((dj, .bool true) :: l) S w0 L (K1 P ops k ⟨d, op, ty, pos, af, some (j, want)⟩ K)) (hF : ¬ p → G n ((dj, .bool false) :: l) S w0 L (K1 P ops k ⟨d, op, ty, pos, af, some (j, want)⟩ K)) :
    G n l S w0 L (K1 P ops k ⟨d, op, ty, pos, af, some (j, want)⟩ K) :=
  K1_guard hj hv (fun h => ht (of_decide_eq_true h)) (fun h => hF (of_decide_eq_false h))
theorem K1_guard_nd {d : Option Tmp} {op : Op} {j : Nat} {want : Bool} {p : Prop} {i : Decidable (¬ p)} {dj : Tmp} (hj : (ops[j]?).bind (·.dst) = some dj) (hv : lk l dj = some (.bool (@decide (¬ p) i)))
    (ht : ¬ p → G n ((dj, .bool true) :: l) S w0 L (K1 P ops k ⟨d, op, ty, pos, af, some (j, want)⟩ K)) (hF : p → G n ((dj, .bool false) :: l) S w0 L (K1 P ops k ⟨d, op, ty, pos, af, some (j, want)⟩ K)) :
    G n l S w0 L (K1 P ops k ⟨d, op, ty, pos, af, some (j, want)⟩ K) :=
  K1_guard hj hv (fun h => ht (of_decide_eq_true h)) (fun h => hF (Classical.not_not.1 (of_decide_eq_false h)))

/-! ### regions that draw their order: what only reads is taken first, as soon as it may come up; what writes or makes memory comes up in one order -/
structure KH (P : Program) (S : List Nat) (w0 : World) (Lb : List Blk) (ops : Array Oper) (k : Kont) (fuel : Nat) (listed : Array Bool) (a : Act) (w : World) : Prop where
  out : wpAnyH P .any ops (k.den P) (fun w' => HP S w0 w' Lb) fuel listed a w
structure KHS (P : Program) (S : List Nat) (w0 : World) (Lb : List Blk) (ops : Array Oper) (k : Kont) (fuel : Nat) (listed : Array Bool) (a : Act) (w : World) : Prop where
  out : HP S w0 w Lb ∧ KH P S w0 Lb ops k fuel listed a w

theorem G_regionH {id m : Nat} {ops : List Oper} (hm : P.follows .mixedOrders = true) (hl : ops.length = m) (h : G n l S w0 L (KH P S w0 L ops.toArray k m (Array.replicate m false))) : G n l S w0 L (KC P (.region id ops.toArray true) k) := .mk fun a w hf H => by
  subst hl
  exact ⟨wp_region_held hm (by simpa using (h.out a _ hf H.drew).out)⟩

/-- an operation in a state: its value (undef, if its guard says no) -/
structure YOf (P : Program) (n : Nat) (l : List (Nat × Value)) (S : List Nat) (w0 : World) (L : List Blk) (ops : Array Oper) (o : Oper) (v : Value) : Prop where
  out : ∀ a, Fr n l a → YieldsIf P ops (fun w => HP S w0 w L) o v a
theorem Y_ev {op : Op} {v : Value} (hv : ValOf P n l S w0 L ⟨some d, op, ty, pos, af, none⟩ v) : YOf P n l S w0 L ops ⟨some d, op, ty, pos, af, none⟩ v := ⟨fun a hf => .inl ⟨rfl, fun w H => hv.out a w hf H⟩⟩
theorem Y_yes {op : Op} {v : Value} {j : Nat} {want b : Bool} {dj : Tmp} (hj : (ops[j]?).bind (·.dst) = some dj) (hb : lk l dj = some (.bool b)) (he : (b == want) = true) (hv : ValOf P n l S w0 L ⟨some d, op, ty, pos, af, none⟩ v) :
    YOf P n l S w0 L ops ⟨some d, op, ty, pos, af, some (j, want)⟩ v := ⟨fun a hf => .inl ⟨hf.is_wanted hj hb he, fun w H => hv.out a w hf H⟩⟩
theorem Y_no {op : Op} {j : Nat} {want b : Bool} {dj : Tmp} (hj : (ops[j]?).bind (·.dst) = some dj) (hb : lk l dj = some (.bool b)) (he : (b == want) = false) :
    YOf P n l S w0 L ops ⟨some d, op, ty, pos, af, some (j, want)⟩ undef := ⟨fun a hf => .inr ⟨hf.not_wanted rfl hj hb he, rfl⟩⟩
theorem Y_nou {op : Op} {j : Nat} {want : Bool} {dj : Tmp} (hj : (ops[j]?).bind (·.dst) = some dj) (hb : lk l dj = some undef) :
    YOf P n l S w0 L ops ⟨some d, op, ty, pos, af, some (j, want)⟩ undef := ⟨fun a hf => .inr ⟨hf.not_wanted_u rfl hj hb, rfl⟩⟩

theorem Kont.panics (k : Kont) (c : List PanicEntry) (a : Act) (d : Option Tmp) (v : Value) (w : World) (h : k.den P (.panic c) (a.put d v) w) : k.den P (.panic c) a w := by
  induction k with
  | seq y k ih => exact ih h
  | blk id k ih => exact ih h
  | cut K k ih => exact ih h
  | fin fn R =>
    cases d with
    | none => exact h
    | some d => exact h

/-- an operation that only reads comes up -/
theorem H_take {i fuel : Nat} {listed : Array Bool} {Lb : List Blk} {op : Op} {g : Option (Nat × Bool)} {v : Value} (hi : ops[i]? = some ⟨some d, op, ty, pos, af, g⟩) (hs : Region.noSelect ops = true) (hf : Region.free .any ops listed i = true) (hr : (Region.ready .any ops listed).contains i = true)
    (hd : Nat.blt d n = true) (hL : ∀ w, HP S w0 w L → HP S w0 w Lb) (hv : YOf P n l S w0 Lb ops ⟨some d, op, ty, pos, af, g⟩ v) (h : G n ((d, v) :: l) S w0 L (KH P S w0 Lb ops k fuel (listed.setIfInBounds i true))) :
    G n l S w0 L (KH P S w0 Lb ops k (fuel + 1) listed) := .mk fun a w hF H =>
  ⟨wpAnyH_take hi hs hf hr (fun c a w h => Kont.panics k c a _ v w h) (hv.out a hF) (hL w H) (h.out _ w (hF.put (some d) v hd) H).out⟩
/-- the one operation that may come up comes up -/
theorem H_run {i fuel : Nat} {listed : Array Bool} {Lb : List Blk} {o : Oper} (hi : ops[i]? = some o) (hr : Region.ready .any ops listed = [i]) (h : G n l S w0 L (K1 P ops k o (KHS P S w0 Lb ops k fuel (listed.setIfInBounds i true)))) :
    G n l S w0 L (KH P S w0 Lb ops k (fuel + 1) listed) := .mk fun a w hF H => by
  refine ⟨wpAnyH_all hr (by simp) fun j hj => ?_⟩
  obtain rfl : j = i := by simpa using hj
  have hh := (h.out a w hF H).out
  unfold wpOp
  simp only [hi]
  split
  · rename_i hw; rw [if_pos hw] at hh; exact .inl (Oper.wp_mono (fun _ _ h => ⟨h.out.1, h.out.2.out⟩) hh)
  · rename_i hw; rw [if_neg hw] at hh; exact ⟨hh.out.1, hh.out.2.out⟩
theorem H_go {fuel : Nat} {listed : Array Bool} {Lb : List Blk} (hL : ∀ w, HP S w0 w L → HP S w0 w Lb) (h : G n l S w0 L (KH P S w0 Lb ops k fuel listed)) : G n l S w0 L (KHS P S w0 Lb ops k fuel listed) := .mk fun a w hF H => ⟨hL w H, h.out a w hF H⟩
theorem H_done {fuel : Nat} {listed : Array Bool} {Lb : List Blk} (hr : Region.ready .any ops listed = []) (h : G n l S w0 L (KX P k .normal)) : G n l S w0 L (KH P S w0 Lb ops k fuel listed) := .mk fun a w hF H => ⟨wpAnyH_done hr (h.out a w hF H).out fuel⟩

theorem E_move {x : Operand} {v : Value} (hx : ev l x = some v) :
    ValOf P n l S w0 L ⟨some d, .move x, ty, pos, af, none⟩ (v) :=
  ⟨fun a w hf H => by simp only [execOp, hf.eval hx, Sem.run_pure]⟩
theorem E_assign {x : Operand} {v : Value} (hx : ev l x = some v) :
    ValOf P n l S w0 L ⟨some d, .assign x, ty, pos, af, none⟩ (v) :=
  ⟨fun a w hf H => by simp only [execOp, hf.eval hx, Sem.run_pure]⟩
theorem E_pick {c x y : Operand} {b : Bool} {v : Value} (hc : ev l c = some (.bool b)) (hxy : (if b then ev l x else ev l y) = some v) :
    ValOf P n l S w0 L ⟨some d, .pick c x y, ty, pos, af, none⟩ (v) :=
  ⟨fun a w hf H => by
    simp only [execOp, hf.eval hc, asBool, Sem.run_bind, Sem.run_pure, Result.andThen_ok]
    cases b with
    | true => simp only [if_true] at hxy; simp [hf.eval hxy]
    | false => simp only [Bool.false_eq_true, if_false] at hxy; simp [hf.eval hxy]⟩
theorem E_un {op : UnOp} {x : Operand} {vx v : Value} {t : TypeId} (hx : ev l x = some vx) (hr : RUn P op vx v) :
    ValOf P n l S w0 L ⟨some d, .unOp op t x, ty, pos, af, none⟩ (v) :=
  ⟨fun a w hf H => by simp only [execOp, hf.eval hx, Sem.run_bind, hr.out w, Result.andThen_ok, Sem.run_pure]⟩
theorem E_conv {x : Operand} {vx v : Value} {s t : TypeId} (hx : ev l x = some vx) (hr : RConv P s t vx v) :
    ValOf P n l S w0 L ⟨some d, .convert s t x, ty, pos, af, none⟩ (v) :=
  ⟨fun a w hf H => by simp only [execOp, hf.eval hx, Sem.run_bind, hr.out w, Result.andThen_ok, Sem.run_pure]⟩
theorem E_bin {op : BinOp} {x y : Operand} {vx vy v : Value} {t yt : TypeId} (hx : ev l x = some vx) (hy : ev l y = some vy) (hp : plainEq vx = true) (hr : RBin P op t vx vy v) : ValOf P n l S w0 L ⟨some d, .binOp op t x y yt, ty, pos, af, none⟩ (v) :=
  ⟨fun a w hf H => by
    have hg : (eqGuard op t x y vx vy).run P w = .ok () w := by
      cases op <;> first | rfl | (cases vx <;> first | (simp [plainEq] at hp; done) | rfl | (cases vy <;> rfl))
    simp only [execOp, hf.eval hx, hf.eval hy, Sem.run_bind, hg, hr.out w, Result.andThen_ok, Sem.run_pure]⟩
theorem E_bin_agg {op : BinOp} {x y : Operand} {xs ys : Array Value} {v : Value} {t yt : TypeId} (hx : ev l x = some (.agg xs)) (hy : ev l y = some (.agg ys)) (hp : P.eqGuardType P.depth t = false)
    (hr : RBin P op t (.agg xs) (.agg ys) v) : ValOf P n l S w0 L ⟨some d, .binOp op t x y yt, ty, pos, af, none⟩ (v) :=
  ⟨fun a w hf H => by
    have hg : (eqGuard op t x y (.agg xs) (.agg ys)).run P w = .ok () w := by
      cases op <;> first | rfl | simp [eqGuard, hp, Sem.run_bind, run_program]
    simp only [execOp, hf.eval hx, hf.eval hy, Sem.run_bind, hg, hr.out w, Result.andThen_ok, Sem.run_pure]⟩
theorem E_instr {op : Op} {s : Sem Value} {v : Value} (he : ∀ a, Fr n l a → execOp a.eval ⟨some d, op, ty, pos, af, none⟩ = (do pure (.value (← s)))) (hr : Runs P s v) : ValOf P n l S w0 L ⟨some d, op, ty, pos, af, none⟩ (v) :=
  ⟨fun a w hf H => by rw [he a hf, Sem.run_bind, hr.out w]; rfl⟩
theorem E_index {x i : Operand} {vx vi v : Value} {t : TypeId} (hx : ev l x = some vx) (hi : ev l i = some vi) (hr : RIdx P t vx vi v) :
    ValOf P n l S w0 L ⟨some d, .index t x i, ty, pos, af, none⟩ (v) :=
  E_instr (fun a hf => by simp only [execOp, hf.eval hx, hf.eval hi]) ⟨hr.out⟩
theorem E_indexAddr {x i : Operand} {vx vi v : Value} {t : TypeId} (hx : ev l x = some vx) (hi : ev l i = some vi) (hr : RIdxA P t vx vi v) :
    ValOf P n l S w0 L ⟨some d, .indexAddr t x i, ty, pos, af, none⟩ (v) :=
  E_instr (fun a hf => by simp only [execOp, hf.eval hx, hf.eval hi]) ⟨hr.out⟩
theorem E_fieldAddr {x : Operand} {vx v : Value} {t : TypeId} {f : Nat} (hx : ev l x = some vx) (hr : RFldA P t vx f v) :
    ValOf P n l S w0 L ⟨some d, .fieldAddr t x f, ty, pos, af, none⟩ (v) :=
  E_instr (fun a hf => by simp only [execOp, hf.eval hx]) ⟨hr.out⟩
theorem E_field {x : Operand} {vx v : Value} {t : TypeId} {f : Nat} (hx : ev l x = some vx) (hr : RFld P t vx f v) :
    ValOf P n l S w0 L ⟨some d, .field t x f, ty, pos, af, none⟩ (v) :=
  E_instr (fun a hf => by simp only [execOp, hf.eval hx]) ⟨hr.out⟩
theorem E_extract {x : Operand} {vs : Array Value} {v : Value} {i : Nat} (hx : ev l x = some (.tuple vs)) (hr : vs[i]? = some v) :
    ValOf P n l S w0 L ⟨some d, .extract x i, ty, pos, af, none⟩ (v) :=
  E_instr (s := Instr.extract (.tuple vs) i) (fun a hf => by simp only [execOp, hf.eval hx]) ⟨fun w => by simp [Instr.extract, hr]⟩
theorem E_extractL {x : Operand} {vs : List Value} {v : Value} {i : Nat} (hx : ev l x = some (.tuple vs.toArray)) (hr : vs[i]? = some v) :
    ValOf P n l S w0 L ⟨some d, .extract x i, ty, pos, af, none⟩ (v) := E_extract hx (by simpa using hr)
theorem E_nilCheck {x : Operand} {p : Addr} (hx : ev l x = some (.pointer (some p))) :
    ValOf P n l S w0 L ⟨some d, .nilCheck x, ty, pos, af, none⟩ (.pointer (some p)) :=
  ⟨fun a w hf H => by simp only [execOp, hf.eval hx, Sem.run_pure]⟩
theorem E_slice {x : Operand} {lo hi mx : Option Operand} {vx v : Value} {vlo vhi vmx : Option Value} {t : TypeId} (hx : ev l x = some vx) (h1 : evO l lo = some vlo) (h2 : evO l hi = some vhi) (h3 : evO l mx = some vmx)
    (hr : RSlc P t vx vlo vhi vmx v) : ValOf P n l S w0 L ⟨some d, .slice t x lo hi mx, ty, pos, af, none⟩ (v) :=
  E_instr (fun a hf => by simp only [execOp, hf.eval hx, hf.evalO h1, hf.evalO h2, hf.evalO h3]) ⟨hr.out⟩

theorem E_builtin {b : Builtin} {xs : List Operand} {vs : List Value} {ats : Array TypeId} {s : Sem Value} {v : Value} (hx : evs l xs = some vs) (hs : ∀ cs, builtin b ats ty cs vs.toArray = (do pure (.value (← s)))) (hr : Runs P s v) : ValOf P n l S w0 L ⟨some d, .call { callee := .builtin b, args := xs.toArray, argTypes := ats }, ty, pos, af, none⟩ (v) :=
  E_instr (s := s) (fun a hf => by rw [BigFrame.execOp_builtin]; simp only [List.map_toArray]; rw [hf.evals hx, hs]) hr
theorem E_build {xs : List (Nat × Operand)} {vs : List (Nat × Value)} (mk : List (Nat × Value) → List Value) {t : TypeId} (hx : evp l xs = some vs) (hr : ∀ w, (Instr.build t vs.toArray).run P w = .ok (.agg (mk vs).toArray) w) :
    ValOf P n l S w0 L ⟨some d, .build t xs.toArray, ty, pos, af, none⟩ (.agg (mk vs).toArray) :=
  E_instr (s := Instr.build t vs.toArray) (fun a hf => by
    have e := hf.evalp hx
    simp only [execOp, List.map_toArray]
    rw [e]) ⟨hr⟩
theorem E_load1 {i : Nat} {t : TypeId} {x : Operand} {q : Bool} {b off : Nat} {cs : Array Value} {T : TypeId} {fr : Nat × Nat} {v : Value} (hx : ev l x = some (.pointer (some ⟨b, off, none⟩)))
    (hi : L[i]? = some ⟨q, b, .cells cs T fr⟩) (hag : aggB P t = false) (hu : (P.underlying t).isSome = true) (hv : cs.toList[off]? = some v) : ValOf P n l S w0 L ⟨some d, .load t x, ty, pos, af, none⟩ (v) :=
  ⟨fun _ _ hf H => run_load_one H i rfl (hf.eval hx) hi hu hag (by simpa using hv)⟩
theorem E_loadA {i : Nat} {t : TypeId} {x : Operand} {q : Bool} {b off m : Nat} {cs : Array Value} {vs : List Value} {T : TypeId} {fr : Nat × Nat} (hx : ev l x = some (.pointer (some ⟨b, off, none⟩)))
    (hi : L[i]? = some ⟨q, b, .cells cs T fr⟩) (hag : aggB P t = true) (hu : (P.underlying t).isSome = true) (hm : (P.info? t).map (·.size) = some m) (hle : off + m ≤ cs.size) (hv : (cs.toList.drop off).take m = vs) : ValOf P n l S w0 L ⟨some d, .load t x, ty, pos, af, none⟩ (.agg vs.toArray) :=
  ⟨fun _ _ hf H => run_load_agg H i rfl (hf.eval hx) hi hm hle (by subst hv; apply Array.ext'; simp) hu hag⟩
theorem K1_store1 {i : Nat} {t : TypeId} {x y : Operand} {b off : Nat} {cs : List Value} {cs' : List Value} {T : TypeId} {v : Value} (hx : ev l x = some (.pointer (some ⟨b, off, none⟩))) (hy : ev l y = some v)
    (hi : L[i]? = some ⟨true, b, .cells cs.toArray T (0, 0)⟩) (hvn : v.cells = #[v]) (hone : v.oneCell' = true) (hm : (P.info? t).map (·.size) = some 1) (hle : off < cs.length) (hcs : cs.set off v = cs')
    (h : G n l S w0 (L.set i ⟨true, b, .cells cs'.toArray T (0, 0)⟩) K) : G n l S w0 L (K1 P ops k ⟨none, .store t x y, ty, pos, af, none⟩ K) :=
  K1_of_wp rfl (fun _ _ _ hf H hK => wp_store_one H i rfl (hf.eval hx) (hf.eval hy) hvn hone hi hm (by simpa using hle) (fun w' H' => hK _ w' hf (by subst hcs; simpa using H'))) h
theorem K1_storeW {i : Nat} {t : TypeId} {x y : Operand} {b : Nat} {cs cs' : Array Value} {T : TypeId} (hx : ev l x = some (.pointer (some ⟨b, 0, none⟩))) (hy : ev l y = some (.agg cs'))
    (hi : L[i]? = some ⟨true, b, .cells cs T (0, 0)⟩) (hm : (P.info? t).map (·.size) = some cs'.size) (hs : cs.size = cs'.size) (hone : cs'.toList.all (·.oneCell') = true)
    (h : G n l S w0 (L.set i ⟨true, b, .cells cs' T (0, 0)⟩) K) : G n l S w0 L (K1 P ops k ⟨none, .store t x y, ty, pos, af, none⟩ K) :=
  K1_of_wp rfl (fun _ _ _ hf H hK => wp_store H i _ cs' rfl (hf.eval hx) (hf.eval hy) hi hm rfl hone (by omega) (by simp [Value.cells]; omega) (fun w' H' => hK _ w' hf H')) h

theorem K1_store {i : Nat} {t : TypeId} {x y : Operand} {b off m : Nat} {cs cs' : Array Value} {T : TypeId} {v : Value} {L' : List Blk} (hx : ev l x = some (.pointer (some ⟨b, off, none⟩))) (hy : ev l y = some v)
    (hi : L[i]? = some ⟨true, b, .cells cs T (0, 0)⟩) (hm : (P.info? t).map (·.size) = some m) (hvn : v.cells.size = m) (hone : v.cells.toList.all (·.oneCell') = true) (hle : off + m ≤ cs.size)
    (hcs : cs.toList.take off ++ v.cells.toList ++ cs.toList.drop (off + m) = cs'.toList) (hL : L.set i ⟨true, b, .cells cs' T (0, 0)⟩ = L')
    (h : G n l S w0 L' K) : G n l S w0 L (K1 P ops k ⟨none, .store t x y, ty, pos, af, none⟩ K) :=
  K1_of_wp rfl (fun _ _ _ hf H hK => wp_store H i v cs' rfl (hf.eval hx) (hf.eval hy) hi hm hvn hone hle hcs (fun w' H' => hK _ w' hf (hL ▸ H'))) h

theorem zero_of {t : TypeId} {v : Value} (h : (P.info? t).bind (·.zero) = some v) : ∀ w, (zeroValue t).run P w = .ok v w := by
  intro w
  unfold zeroValue
  cases hi : P.info? t with
  | none => simp [hi] at h
  | some i => simp [hi] at h; simp [Sem.run_bind, run_program, typeInfo, hi, h]

theorem K1_alloc {t : TypeId} {d : Tmp} {v : Value} (hd : Nat.blt d n = true) (hz : ∀ w, (zeroValue t).run P w = .ok v w)
    (h : ∀ nb, w0.heap.size ≤ nb → G n ((d, .pointer (some ⟨nb, 0, none⟩)) :: l) S w0 (⟨true, nb, .cells v.cells t (0, 0)⟩ :: L) K) : G n l S w0 L (K1 P ops k ⟨some d, .alloc t, ty, pos, af, none⟩ K) := .mk fun a w hf H => k1_want rfl <| by
    unfold Oper.wp execOp
    simp only [Instr.alloc, Sem.run_bind, hz, Result.andThen_ok, newVar, newRow, run_newObj, Sem.run_pure]
    exact ((h _ H.size).out _ _ (hf.put (some d) _ hd) (H.alloc _))

theorem K1_box {t : TypeId} {d : Tmp} {x : Operand} {v : Value} (hd : Nat.blt d n = true) (hx : ev l x = some v)
    (h : ∀ nb, w0.heap.size ≤ nb → G n ((d, .pointer (some ⟨nb, 0, none⟩)) :: l) S w0 (⟨true, nb, .cells v.cells t (0, 0)⟩ :: L) K) : G n l S w0 L (K1 P ops k ⟨some d, .box t x, ty, pos, af, none⟩ K) := .mk fun a w hf H => k1_want rfl <| by
    unfold Oper.wp execOp
    simp only [hf.eval hx, Instr.box, Sem.run_bind, Result.andThen_ok, newVar, newRow, run_newObj, Sem.run_pure]
    exact ((h _ H.size).out _ _ (hf.put (some d) _ hd) (H.alloc _))

/-! ### calls -/
/-- a function's contract: from the blocks L, what it returns and what blocks are known behind it -/
structure Fn (P : Program) (F : FuncId) (args : Array Value) (S : List Nat) (w0 : World) (L : List Blk) (R : Value → List Blk → Prop) : Prop where
  out : ∀ w, HP S w0 w L → Calls P F args w fun e w' => ∃ v L', e = .returned v ∧ R v L' ∧ HP S w0 w' L'

theorem Fn.mono {F : FuncId} {args : Array Value} {R R' : Value → List Blk → Prop} (h : Fn P F args S w0 L R) (hr : ∀ v L', R v L' → ∃ L'', R' v L'' ∧ ∀ w, HP S w0 w L' → HP S w0 w L'') : Fn P F args S w0 L R' :=
  .mk fun w H => (h.out w H).mono fun _ _ ⟨v, L', e, r, H'⟩ => let ⟨L'', r', hs⟩ := hr v L' r; ⟨v, L'', e, r', hs _ H'⟩

/-- the contract of a function by its text -/
theorem Fn_of {F : FuncId} {args : List Value} {R : Value → List Blk → Prop} {fn : Func} {c : Code} (hf : P.funcs[F]? = some fn) (hb : fn.body = some c) (hle : Nat.ble args.length fn.ntmps = true) {l0 : List (Nat × Value)} (hl : args.zipIdx.map (fun p => (p.2, p.1)) = l0)
    (h : G fn.ntmps l0 S w0 L (KC P c (.fin fn fun e w' => ∃ v L', e = .returned v ∧ R v L' ∧ HP S w0 w' L'))) : Fn P F args.toArray S w0 L R := .mk fun w H => by
  refine calls_of_wp hf hb (h.out _ w ⟨?_, rfl, ?_⟩ H).out
  · have := Nat.le_of_ble_eq_true hle
    simp; omega
  · subst hl
    have key : ∀ (xs : List Value) (k i : Nat) (v : Value), lk ((xs.zipIdx k).map (fun p => (p.2, p.1))) i = some v → k ≤ i ∧ xs[i - k]? = some v := by
      intro xs
      induction xs with
      | nil => intro k i v h; simp [lk] at h
      | cons x xs ih =>
        intro k i v h
        simp only [List.zipIdx_cons, List.map_cons, lk] at h
        cases hb : Nat.beq i k with
        | true =>
          rw [hb, cond_true, Option.some.injEq] at h
          have := Nat.eq_of_beq_eq_true hb
          subst this; subst h
          simp
        | false =>
          rw [hb, cond_false] at h
          obtain ⟨h1, h2⟩ := ih (k + 1) i v h
          refine ⟨by omega, ?_⟩
          have : i - k = (i - (k + 1)) + 1 := by omega
          rw [this, List.getElem?_cons_succ]; exact h2
    intro i v hv
    obtain ⟨_, h2⟩ := key args 0 i v hv
    simp only [Nat.sub_zero] at h2
    have hi : i < args.length := by
      rcases Nat.lt_or_ge i args.length with h' | h'
      · exact h'
      · simp [List.getElem?_eq_none h'] at h2
    rw [Array.getElem?_append_left (by simpa using hi)]
    simpa using h2

theorem Fn0 {F : FuncId} {R : Value → List Blk → Prop} {fn : Func} {c : Code} (hf : P.funcs[F]? = some fn) (hn : fn.ntmps = n) (hb : fn.body = some c) (h : G n [] S w0 L (KC P c (.fin fn fun e w' => ∃ v L', e = .returned v ∧ R v L' ∧ HP S w0 w' L'))) : Fn P F #[] S w0 L R := by
  subst hn; exact Fn_of (args := []) hf hb (Nat.ble_eq_true_of_le (Nat.zero_le _)) rfl h
theorem Fn1 {F : FuncId} {R : Value → List Blk → Prop} {fn : Func} {c : Code} {v0 : Value} (hf : P.funcs[F]? = some fn) (hn : fn.ntmps = n) (hb : fn.body = some c) (hl : Nat.ble 1 n = true) (h : G n [(0, v0)] S w0 L (KC P c (.fin fn fun e w' => ∃ v L', e = .returned v ∧ R v L' ∧ HP S w0 w' L'))) : Fn P F #[v0] S w0 L R := by
  subst hn; exact Fn_of (args := [v0]) hf hb hl rfl h
theorem Fn2 {F : FuncId} {R : Value → List Blk → Prop} {fn : Func} {c : Code} {v0 v1 : Value} (hf : P.funcs[F]? = some fn) (hn : fn.ntmps = n) (hb : fn.body = some c) (hl : Nat.ble 2 n = true) (h : G n [(0, v0), (1, v1)] S w0 L (KC P c (.fin fn fun e w' => ∃ v L', e = .returned v ∧ R v L' ∧ HP S w0 w' L'))) : Fn P F #[v0, v1] S w0 L R := by
  subst hn; exact Fn_of (args := [v0, v1]) hf hb hl rfl h
theorem Fn3 {F : FuncId} {R : Value → List Blk → Prop} {fn : Func} {c : Code} {v0 v1 v2 : Value} (hf : P.funcs[F]? = some fn) (hn : fn.ntmps = n) (hb : fn.body = some c) (hl : Nat.ble 3 n = true) (h : G n [(0, v0), (1, v1), (2, v2)] S w0 L (KC P c (.fin fn fun e w' => ∃ v L', e = .returned v ∧ R v L' ∧ HP S w0 w' L'))) : Fn P F #[v0, v1, v2] S w0 L R := by
  subst hn; exact Fn_of (args := [v0, v1, v2]) hf hb hl rfl h
theorem Fn4 {F : FuncId} {R : Value → List Blk → Prop} {fn : Func} {c : Code} {v0 v1 v2 v3 : Value} (hf : P.funcs[F]? = some fn) (hn : fn.ntmps = n) (hb : fn.body = some c) (hl : Nat.ble 4 n = true) (h : G n [(0, v0), (1, v1), (2, v2), (3, v3)] S w0 L (KC P c (.fin fn fun e w' => ∃ v L', e = .returned v ∧ R v L' ∧ HP S w0 w' L'))) : Fn P F #[v0, v1, v2, v3] S w0 L R := by
  subst hn; exact Fn_of (args := [v0, v1, v2, v3]) hf hb hl rfl h
theorem Fn5 {F : FuncId} {R : Value → List Blk → Prop} {fn : Func} {c : Code} {v0 v1 v2 v3 v4 : Value} (hf : P.funcs[F]? = some fn) (hn : fn.ntmps = n) (hb : fn.body = some c) (hl : Nat.ble 5 n = true) (h : G n [(0, v0), (1, v1), (2, v2), (3, v3), (4, v4)] S w0 L (KC P c (.fin fn fun e w' => ∃ v L', e = .returned v ∧ R v L' ∧ HP S w0 w' L'))) : Fn P F #[v0, v1, v2, v3, v4] S w0 L R := by
  subst hn; exact Fn_of (args := [v0, v1, v2, v3, v4]) hf hb hl rfl h
theorem Fn6 {F : FuncId} {R : Value → List Blk → Prop} {fn : Func} {c : Code} {v0 v1 v2 v3 v4 v5 : Value} (hf : P.funcs[F]? = some fn) (hn : fn.ntmps = n) (hb : fn.body = some c) (hl : Nat.ble 6 n = true) (h : G n [(0, v0), (1, v1), (2, v2), (3, v3), (4, v4), (5, v5)] S w0 L (KC P c (.fin fn fun e w' => ∃ v L', e = .returned v ∧ R v L' ∧ HP S w0 w' L'))) : Fn P F #[v0, v1, v2, v3, v4, v5] S w0 L R := by
  subst hn; exact Fn_of (args := [v0, v1, v2, v3, v4, v5]) hf hb hl rfl h

theorem run_callFunc {F : FuncId} (hfn : (P.funcs[F]?).map (fun fn => (fn.name == "runtime.NumGoroutine", fn.body.isNone)) = some (false, false)) (args : Array Value) (w : World) :
    (callFunc F args).run P w = .ok (.enter F args) w := by
  unfold callFunc
  cases hq : P.funcs[F]? with
  | none => simp [hq] at hfn
  | some fn =>
    simp only [hq, Option.map_some, Option.some.injEq, Prod.mk.injEq] at hfn
    simp only [Sem.run_bind, run_program, Result.andThen_ok, hq, hfn.1, hfn.2, Bool.false_eq_true, if_false, Sem.run_pure]

theorem K1_call {F : FuncId} {xs : List Operand} {vs : List Value} {ats : Array TypeId} {R : Value → List Blk → Prop} (hfn : (P.funcs[F]?).map (fun fn => (fn.name == "runtime.NumGoroutine", fn.body.isNone)) = some (false, false)) (hd : Nat.blt d n = true)
    (hx : evs l xs = some vs) (hc : Fn P F vs.toArray S w0 L R) (h : ∀ v L', R v L' → G n ((d, v) :: l) S w0 L' K) :
    G n l S w0 L (K1 P ops k ⟨some d, .call { callee := .value (.func F), args := xs.toArray, argTypes := ats }, ty, pos, af, none⟩ K) := .mk fun a w hf H => k1_want rfl <| by
    unfold Oper.wp
    rw [execOp_call_go, List.map_toArray, hf.evals hx]
    have : (#[] ++ vs.toArray ++ #[] : Array Value) = vs.toArray := by simp
    rw [this, run_callFunc hfn]
    refine (hc.out w H).mono fun e w' ⟨v, L', he, hR, H'⟩ => ?_
    subst he
    exact ((h v L' hR).out _ _ (hf.put (some d) v hd) H')

theorem K1_call_n {F : FuncId} {xs : List Operand} {vs : List Value} {ats : Array TypeId} {R : Value → List Blk → Prop} (hfn : (P.funcs[F]?).map (fun fn => (fn.name == "runtime.NumGoroutine", fn.body.isNone)) = some (false, false))
    (hx : evs l xs = some vs) (hc : Fn P F vs.toArray S w0 L R) (h : ∀ v L', R v L' → G n l S w0 L' K) :
    G n l S w0 L (K1 P ops k ⟨none, .call { callee := .value (.func F), args := xs.toArray, argTypes := ats }, ty, pos, af, none⟩ K) := .mk fun a w hf H => k1_want rfl <| by
    unfold Oper.wp
    rw [execOp_call_go, List.map_toArray, hf.evals hx]
    have : (#[] ++ vs.toArray ++ #[] : Array Value) = vs.toArray := by simp
    rw [this, run_callFunc hfn]
    refine (hc.out w H).mono fun e w' ⟨v, L', he, hR, H'⟩ => ?_
    subst he
    exact ((h v L' hR).out _ _ hf H')

/-! ### the end -/
inductive Res (P : Program) (l : List (Nat × Value)) (L : List Blk) : List ResultVar → List Value → Prop
  | nil : Res P l L [] []
  | tmp {t : Tmp} {v : Value} {rs vs} : lk l t = some v → Res P l L rs vs → Res P l L (.tmp t :: rs) (v :: vs)
  | agg {t : Tmp} {T : TypeId} {i b k : Nat} {q : Bool} {cs : Array Value} {u : TypeId} {fr : Nat × Nat} {rs vs} : lk l t = some (.pointer (some ⟨b, 0, none⟩)) → L[i]? = some ⟨q, b, .cells cs u fr⟩ → aggB P T = true → (P.underlying T).isSome = true →
      cs.size = k → (P.info? T).map (·.size) = some k → Res P l L rs vs → Res P l L (.cell t T :: rs) (.agg cs :: vs)
  | one {t : Tmp} {T : TypeId} {i b : Nat} {q : Bool} {v : Value} {cs : Array Value} {u : TypeId} {fr : Nat × Nat} {rs vs} : lk l t = some (.pointer (some ⟨b, 0, none⟩)) → L[i]? = some ⟨q, b, .cells cs u fr⟩ → aggB P T = false → (P.underlying T).isSome = true →
      cs.toList[0]? = some v → Res P l L rs vs → Res P l L (.cell t T :: rs) (v :: vs)

def resSem (tmps : Array Value) : ResultVar → Sem Value
  | .tmp t => pure (tmps.getD t undef)
  | .cell p t => do loadVar t (← asAddr (tmps.getD p undef))

theorem Res.run {rs : List ResultVar} {vs : List Value} (h : Res P l L rs vs) {a : Act} {w : World} (hf : Fr n l a) (H : HP S w0 w L) :
    (rs.mapM (resSem a.tmps)).run P w = .ok vs w := by
  induction h with
  | nil => rfl
  | @tmp t v rs vs hl _ ih =>
    have e : a.tmps.getD t undef = v := hf.eval (x := .tmp t) hl
    simp only [List.mapM_cons, resSem, Sem.run_bind, Sem.run_pure, Result.andThen_ok, ih, e]
  | @agg t T i b k q cs u fr rs vs hl hi ha hu hs hm _ ih =>
    have e : a.tmps.getD t undef = .pointer (some ⟨b, 0, none⟩) := hf.eval (x := .tmp t) hl
    obtain ⟨dd, hd'⟩ := Option.isSome_iff_exists.1 hu
    have hdd : (match dd with | .struct _ | .array _ _ => true | _ => false) = true := by
      unfold aggB at ha; rw [hd'] at ha; cases dd <;> simp_all
    simp only [List.mapM_cons, resSem, Sem.run_bind, Sem.run_pure, Result.andThen_ok, ih, e, asAddr, run_loadVar_row w b u T cs fr dd (H.at_ i hi) hd' hdd (hs ▸ hm)]
  | @one t T i b q v cs u fr rs vs hl hi ha hu hv _ ih =>
    have e : a.tmps.getD t undef = .pointer (some ⟨b, 0, none⟩) := hf.eval (x := .tmp t) hl
    have hc : w.cell? ⟨b, 0, none⟩ = some v := (cell_at H i hi).trans (by simpa using hv)
    simp only [List.mapM_cons, resSem, Sem.run_bind, Sem.run_pure, Result.andThen_ok, ih, e, asAddr, loadVar, run_isAgg_of hu ha, Bool.false_eq_true, if_false, run_load, hc]

def tupleOf : List Value → Value
  | [v] => v
  | vs => .tuple vs.toArray

theorem results_of {fn : Func} {rs : List ResultVar} {vs : List Value} (hr : fn.results = rs.toArray) (h : Res P l L rs vs) {a : Act} {w : World} (hf : Fr n l a) (H : HP S w0 w L) :
    (results fn a.tmps).run P w = .ok (tupleOf vs) w := by
  have := h.run hf H
  have e : results fn a.tmps = (do let vs ← fn.results.mapM (resSem a.tmps); pure (if h : vs.size = 1 then vs[0] else .tuple vs)) := by
    unfold results
    congr 1
  rw [e, hr, Sem.run_bind, List.mapM_toArray, Sem.run_map]
  simp only [this, Result.andThen_ok, Sem.run_pure]
  congr 1
  match vs with
  | [] => rfl
  | [v] => rfl
  | _ :: _ :: _ => rfl

theorem G_done {fn : Func} {rs : List ResultVar} {vs : List Value} {R : Value → List Blk → Prop} (hr : fn.results = rs.toArray) (h : Res P l L rs vs) (hR : ∃ L', R (tupleOf vs) L' ∧ ∀ w, HP S w0 w L → HP S w0 w L') :
    G n l S w0 L (KX P (.fin fn fun e w' => ∃ v L', e = .returned v ∧ R v L' ∧ HP S w0 w' L') .ret) := .mk fun _ w hf H =>
  let ⟨L', hR, hs⟩ := hR; ⟨⟨hf.defers, _, results_of hr h hf H, _, L', rfl, hR, hs w H⟩⟩
theorem G_doneA {fn : Func} {t : Tmp} {T : TypeId} {i b kk : Nat} {q : Bool} {cs : Array Value} {u : TypeId} {fr : Nat × Nat} {R : Value → List Blk → Prop} (hr : fn.results = #[.cell t T]) (hv : lk l t = some (.pointer (some ⟨b, 0, none⟩))) (hi : L[i]? = some ⟨q, b, .cells cs u fr⟩)
    (hag : aggB P T = true) (hu : (P.underlying T).isSome = true) (hm : (P.info? T).map (·.size) = some kk) (hs : cs.size = kk) (hR : ∃ L', R (.agg cs) L' ∧ ∀ w, HP S w0 w L → HP S w0 w L') :
    G n l S w0 L (KX P (.fin fn fun e w' => ∃ v L', e = .returned v ∧ R v L' ∧ HP S w0 w' L') .ret) :=
  G_done (rs := [.cell t T]) hr (.agg hv hi hag hu hs hm .nil) hR
theorem G_done_n {fn : Func} {rs : List ResultVar} {vs : List Value} {R : Value → List Blk → Prop} (hr : fn.results = rs.toArray) (h : Res P l L rs vs) (hR : ∃ L', R (tupleOf vs) L' ∧ ∀ w, HP S w0 w L → HP S w0 w L') :
    G n l S w0 L (KX P (.fin fn fun e w' => ∃ v L', e = .returned v ∧ R v L' ∧ HP S w0 w' L') .normal) := .mk fun _ w hf H =>
  let ⟨L', hR, hs⟩ := hR; ⟨⟨hf.defers, _, results_of hr h hf H, _, L', rfl, hR, hs w H⟩⟩
end
end Go.Proofs.Ytlfoiemjjalnlaa
