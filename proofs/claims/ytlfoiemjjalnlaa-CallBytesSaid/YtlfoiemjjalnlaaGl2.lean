/- Values of operations, for the logic of walks of Gl1. Conditions: none beyond each lemma's own premises. -/
import Derived.Test.YtlfoiemjjalnlaaGl1
namespace Go.Proofs.Ytlfoiemjjalnlaa
open Go Go.RowKit
section
variable {P : Program} {t s : TypeId} {k : IntKind} {a b c e : Int}
theorem beq_d (a b : Int) : (a == b) = decide (a = b) := by by_cases h : a = b <;> simp [h]
theorem rb_eql : RBin P .eql t (.int k a) (.int k b) (.bool (decide (a = b))) := .mk fun w => by simp [binOp, Op.intCmp, beq_d]
theorem rb_eql_t : RBin P .eql t (.int k a) (.int k a) (.bool true) := .mk fun w => by simp [binOp, Op.intCmp]
theorem rb_eql_t' (h : a = b) : RBin P .eql t (.int k a) (.int k b) (.bool true) := .mk fun w => by simp [binOp, Op.intCmp, h]
theorem rb_eql_f (h : a ≠ b) : RBin P .eql t (.int k a) (.int k b) (.bool false) := .mk fun w => by simp [binOp, Op.intCmp, h]
theorem rb_neq : RBin P .neq t (.int k a) (.int k b) (.bool (decide (a ≠ b))) := .mk fun w => by simp [binOp, Op.intCmp, bne, beq_d]
theorem rb_neq_t (h : a ≠ b) : RBin P .neq t (.int k a) (.int k b) (.bool true) := .mk fun w => by simp [binOp, Op.intCmp, h]
theorem rb_neq_f (h : a = b) : RBin P .neq t (.int k a) (.int k b) (.bool false) := .mk fun w => by simp [binOp, Op.intCmp, h]
theorem rb_lss : RBin P .lss t (.int k a) (.int k b) (.bool (decide (a < b))) := .mk fun w => by simp [binOp, Op.intCmp]
theorem rb_lss_t (h : a < b) : RBin P .lss t (.int k a) (.int k b) (.bool true) := .mk fun w => by simp [binOp, Op.intCmp, h]
theorem rb_lss_f (h : ¬ a < b) : RBin P .lss t (.int k a) (.int k b) (.bool false) := .mk fun w => by simp [binOp, Op.intCmp]; omega
theorem rb_leq : RBin P .leq t (.int k a) (.int k b) (.bool (decide (a ≤ b))) := .mk fun w => by simp [binOp, Op.intCmp]
theorem rb_leq_t (h : a ≤ b) : RBin P .leq t (.int k a) (.int k b) (.bool true) := .mk fun w => by simp [binOp, Op.intCmp, h]
theorem rb_leq_f (h : ¬ a ≤ b) : RBin P .leq t (.int k a) (.int k b) (.bool false) := .mk fun w => by simp [binOp, Op.intCmp]; omega
theorem rb_gtr : RBin P .gtr t (.int k a) (.int k b) (.bool (decide (b < a))) := .mk fun w => by simp [binOp, Op.intCmp]
theorem rb_gtr_t (h : b < a) : RBin P .gtr t (.int k a) (.int k b) (.bool true) := .mk fun w => by simp [binOp, Op.intCmp, h]
theorem rb_gtr_f (h : ¬ b < a) : RBin P .gtr t (.int k a) (.int k b) (.bool false) := .mk fun w => by simp [binOp, Op.intCmp]; omega
theorem rb_geq : RBin P .geq t (.int k a) (.int k b) (.bool (decide (b ≤ a))) := .mk fun w => by simp [binOp, Op.intCmp]
theorem rb_geq_t (h : b ≤ a) : RBin P .geq t (.int k a) (.int k b) (.bool true) := .mk fun w => by simp [binOp, Op.intCmp, h]
theorem rb_geq_f (h : ¬ b ≤ a) : RBin P .geq t (.int k a) (.int k b) (.bool false) := .mk fun w => by simp [binOp, Op.intCmp]; omega
theorem rb_add (h : a + b = c) (hw : k.wrap c = e) : RBin P .add t (.int k a) (.int k b) (.int k e) := .mk fun w => by subst h hw; simp [binOp, Op.intArith]
theorem rb_sub (h : a - b = c) (hw : k.wrap c = e) : RBin P .sub t (.int k a) (.int k b) (.int k e) := .mk fun w => by subst h hw; simp [binOp, Op.intArith]
theorem rb_mul (h : a * b = c) (hw : k.wrap c = e) : RBin P .mul t (.int k a) (.int k b) (.int k e) := .mk fun w => by subst h hw; simp [binOp, Op.intArith]
theorem rb_rem (ha : 0 ≤ a) (hb : 0 < b) (h : a % b = c) : RBin P .rem t (.int k a) (.int k b) (.int k c) := .mk fun w => by
  subst h; have : b ≠ 0 := by omega
  simp [binOp, Op.intDiv, this, Int.tmod_eq_emod_of_nonneg ha]
theorem rb_quo (ha : 0 ≤ a) (hb : 0 < b) (h : a / b = c) (hw : k.wrap c = e) : RBin P .quo t (.int k a) (.int k b) (.int k e) := .mk fun w => by
  subst h hw; have : b ≠ 0 := by omega
  simp [binOp, Op.intDiv, this, Int.tdiv_eq_ediv_of_nonneg ha]
theorem rb_shr {k' : IntKind} (hb : 0 ≤ b) (h : a.fdiv (2 ^ (min b.toNat k.bits)) = c) : RBin P .shr t (.int k a) (.int k' b) (.int k c) := .mk fun w => by
  subst h; have : ¬ b < 0 := by omega
  simp [binOp, Op.shift, this]
theorem rb_shl {k' : IntKind} (hb : 0 ≤ b) (h : k.wrap (a * 2 ^ (min b.toNat k.bits)) = c) : RBin P .shl t (.int k a) (.int k' b) (.int k c) := .mk fun w => by
  subst h; have : ¬ b < 0 := by omega
  simp [binOp, Op.shift, this]
theorem run_eq_bool {x y : Bool} (hu : P.underlying t = some .bool) (w : World) : (Op.equal t (.bool x) (.bool y)).run P w = .ok (x == y) w := by
  show (Op.equalIn (9999 + 1) t (.bool x) (.bool y)).run P w = _
  unfold Op.equalIn
  rw [Sem.run_bind, run_underlying hu]; rfl
theorem rb_beq {x y : Bool} (hu : P.underlying t = some .bool) : RBin P .eql t (.bool x) (.bool y) (.bool (x == y)) := .mk fun w => by
  show ((do pure (.bool (← Op.equal t (.bool x) (.bool y)))) : Sem Value).run P w = _
  rw [Sem.run_bind, run_eq_bool hu]; rfl
theorem rb_bne {x y : Bool} (hu : P.underlying t = some .bool) : RBin P .neq t (.bool x) (.bool y) (.bool (!(x == y))) := .mk fun w => by
  show ((do pure (.bool (!(← Op.equal t (.bool x) (.bool y))))) : Sem Value).run P w = _
  rw [Sem.run_bind, run_eq_bool hu]; rfl
theorem ru_not_d {p : Prop} [i : Decidable p] : RUn P .not (.bool (decide p)) (.bool (decide (¬ p))) := .mk fun w => by simp [Op.unary]
theorem ru_not_t : RUn P .not (.bool true) (.bool false) := .mk fun _ => rfl
theorem ru_not_f : RUn P .not (.bool false) (.bool true) := .mk fun _ => rfl
theorem ru_not {x : Bool} : RUn P .not (.bool x) (.bool (!x)) := .mk fun _ => rfl

/-! ### bits of numbers that are not below nought -/
def iand (a b : Int) : Int := ((a.toNat &&& b.toNat : Nat) : Int)
def ior (a b : Int) : Int := ((a.toNat ||| b.toNat : Nat) : Int)
def ixor (a b : Int) : Int := ((a.toNat ^^^ b.toNat : Nat) : Int)
def iandn (a b : Int) : Int := ((a.toNat ^^^ (a.toNat &&& b.toNat) : Nat) : Int)
theorem iand_le (a b : Int) (h : 0 ≤ a) : 0 ≤ iand a b ∧ iand a b ≤ a := by
  have := Nat.and_le_left (n := a.toNat) (m := b.toNat); unfold iand; omega
theorem iand_le' (a b : Int) (h : 0 ≤ b) : iand a b ≤ b := by
  have := Nat.and_le_right (n := a.toNat) (m := b.toNat); unfold iand; omega
theorem nat_andn_le (x y : Nat) : x ^^^ (x &&& y) ≤ x := by
  have : x ^^^ (x &&& y) = x &&& (x ^^^ (x &&& y)) := by
    apply Nat.eq_of_testBit_eq; intro i
    simp only [Nat.testBit_and, Nat.testBit_xor]
    cases x.testBit i <;> cases y.testBit i <;> rfl
  rw [this]; exact Nat.and_le_left
theorem iandn_le (a b : Int) (h : 0 ≤ a) : 0 ≤ iandn a b ∧ iandn a b ≤ a := by have := nat_andn_le a.toNat b.toNat; unfold iandn; omega
theorem ior_lt (a b : Int) (n : Nat) (ha : 0 ≤ a ∧ a < 2 ^ n) (hb : 0 ≤ b ∧ b < 2 ^ n) : 0 ≤ ior a b ∧ ior a b < 2 ^ n := by
  have h1 : a.toNat < 2 ^ n := by have : ((2 ^ n : Nat) : Int) = 2 ^ n := by simp
                                  omega
  have h2 : b.toNat < 2 ^ n := by have : ((2 ^ n : Nat) : Int) = 2 ^ n := by simp
                                  omega
  have := Nat.or_lt_two_pow h1 h2
  have e : ((2 ^ n : Nat) : Int) = 2 ^ n := by simp
  unfold ior; omega
theorem ixor_lt (a b : Int) (n : Nat) (ha : 0 ≤ a ∧ a < 2 ^ n) (hb : 0 ≤ b ∧ b < 2 ^ n) : 0 ≤ ixor a b ∧ ixor a b < 2 ^ n := by
  have h1 : a.toNat < 2 ^ n := by have : ((2 ^ n : Nat) : Int) = 2 ^ n := by simp
                                  omega
  have h2 : b.toNat < 2 ^ n := by have : ((2 ^ n : Nat) : Int) = 2 ^ n := by simp
                                  omega
  have := Nat.xor_lt_two_pow h1 h2
  have e : ((2 ^ n : Nat) : Int) = 2 ^ n := by simp
  unfold ixor; omega

theorem iand_mask (a : Int) (n : Nat) (ha : 0 ≤ a) : iand a (2 ^ n - 1) = a % 2 ^ n := by
  have e : ((2 : Int) ^ n - 1).toNat = 2 ^ n - 1 := by
    have : ((2 ^ n : Nat) : Int) = 2 ^ n := by simp
    have : 0 < 2 ^ n := Nat.two_pow_pos n
    omega
  unfold iand
  rw [e, Nat.and_two_pow_sub_one_eq_mod]
  obtain ⟨m, rfl⟩ := Int.eq_ofNat_of_zero_le ha
  simp

/-- is a kind without sign, and are a, b of it? -/
structure inU (k : IntKind) (a : Int) : Prop where
  s : k.signed = false
  b : 0 ≤ a ∧ a < 2 ^ k.bits

theorem bv_toNat {k : IntKind} {a : Int} (h : inU k a) : (BitVec.ofInt k.bits a).toNat = a.toNat := by
  obtain ⟨_, h1, h2⟩ := h
  obtain ⟨m, rfl⟩ := Int.eq_ofNat_of_zero_le h1
  have : m < 2 ^ k.bits := by exact_mod_cast h2
  simp [Nat.mod_eq_of_lt this]
theorem wrap_inU {k : IntKind} {a : Int} (h : inU k a) : k.wrap a = a := by
  obtain ⟨h0, h1, h2⟩ := h
  unfold IntKind.wrap
  simp only [h0, Bool.false_and, Bool.false_eq_true, if_false]
  exact Int.emod_eq_of_lt h1 h2
theorem inU_cast {k : IntKind} {a : Int} {m : Nat} (h : inU k a) (hm : (m : Int) ≤ a) : inU k (m : Int) := ⟨h.1, by omega, by have := h.b.2; omega⟩

theorem rb_and (ha : inU k a) (hb : inU k b) : RBin P .and t (.int k a) (.int k b) (.int k (iand a b)) := .mk fun w => by
  have h := iand_le a b ha.b.1
  have e : k.wrap (iand a b) = iand a b := wrap_inU ⟨ha.1, ⟨h.1, by have := ha.b.2; omega⟩⟩
  have e2 : ((BitVec.ofInt k.bits a &&& BitVec.ofInt k.bits b).toNat : Int) = iand a b := by
    rw [BitVec.toNat_and, bv_toNat ha, bv_toNat hb]; rfl
  simp only [binOp, Op.intBits, ne_eq, not_true, if_false, e2, e, Sem.run_pure]
theorem rb_or (ha : inU k a) (hb : inU k b) : RBin P .or t (.int k a) (.int k b) (.int k (ior a b)) := .mk fun w => by
  have h := ior_lt a b k.bits ha.b hb.b
  have e : k.wrap (ior a b) = ior a b := wrap_inU ⟨ha.1, h⟩
  have e2 : ((BitVec.ofInt k.bits a ||| BitVec.ofInt k.bits b).toNat : Int) = ior a b := by
    rw [BitVec.toNat_or, bv_toNat ha, bv_toNat hb]; rfl
  simp only [binOp, Op.intBits, ne_eq, not_true, if_false, e2, e, Sem.run_pure]
theorem rb_xor (ha : inU k a) (hb : inU k b) : RBin P .xor t (.int k a) (.int k b) (.int k (ixor a b)) := .mk fun w => by
  have h := ixor_lt a b k.bits ha.b hb.b
  have e : k.wrap (ixor a b) = ixor a b := wrap_inU ⟨ha.1, h⟩
  have e2 : ((BitVec.ofInt k.bits a ^^^ BitVec.ofInt k.bits b).toNat : Int) = ixor a b := by
    rw [BitVec.toNat_xor, bv_toNat ha, bv_toNat hb]; rfl
  simp only [binOp, Op.intBits, ne_eq, not_true, if_false, e2, e, Sem.run_pure]
theorem nat_andNot (n x y : Nat) (hx : x < 2 ^ n) : (BitVec.ofNat n x &&& ~~~ BitVec.ofNat n y).toNat = x ^^^ (x &&& y) := by
  apply Nat.eq_of_testBit_eq; intro i
  rw [BitVec.testBit_toNat, BitVec.getLsbD_and, BitVec.getLsbD_not, BitVec.getLsbD_ofNat, BitVec.getLsbD_ofNat, Nat.testBit_xor, Nat.testBit_and]
  by_cases hi : i < n
  · cases h : x.testBit i <;> cases h' : y.testBit i <;> simp [hi]
  · have : x.testBit i = false := Nat.testBit_lt_two_pow (Nat.lt_of_lt_of_le hx (Nat.pow_le_pow_right (by omega) (by omega)))
    simp [this]
theorem rb_andn (ha : inU k a) (hb : inU k b) : RBin P .andNot t (.int k a) (.int k b) (.int k (iandn a b)) := .mk fun w => by
  have h := iandn_le a b ha.b.1
  have e : k.wrap (iandn a b) = iandn a b := wrap_inU ⟨ha.1, ⟨h.1, by have := ha.b.2; omega⟩⟩
  have e2 : ((BitVec.ofInt k.bits a &&& ~~~ BitVec.ofInt k.bits b).toNat : Int) = iandn a b := by
    obtain ⟨_, h1, h2⟩ := ha
    obtain ⟨_, h3, h4⟩ := hb
    obtain ⟨x, rfl⟩ := Int.eq_ofNat_of_zero_le h1
    obtain ⟨y, rfl⟩ := Int.eq_ofNat_of_zero_le h3
    have hx : x < 2 ^ k.bits := by exact_mod_cast h2
    have := nat_andNot k.bits x y hx
    simp only [BitVec.ofInt_natCast, iandn, Int.toNat_natCast] at this ⊢
    rw [this]
  simp only [binOp, Op.intBits, ne_eq, not_true, if_false, e2, e, Sem.run_pure]

/-! ### other operations -/
theorem r_conv {x : TypeDesc} {ks : IntKind} (hs : P.underlying s = some x) (ht : P.underlying t = some (.int k)) (hw : k.wrap a = e) : RConv P s t (.int ks a) (.int k e) := .mk fun w => by
  subst hw
  unfold convert
  rw [Sem.run_bind, run_underlying hs, Result.andThen_ok, Sem.run_bind, run_underlying ht, Result.andThen_ok]
  rfl
end
end Go.Proofs.Ytlfoiemjjalnlaa
