/- Bytes of raw calls: numbers as eight bytes, texts behind their lengths. Plain laws. -/
import Derived.Test.YtlfoiemjjalnlaaCal3
import Derived.Test.YtlfoiemjjalnlaaWord1
namespace Go.Proofs.Ytlfoiemjjalnlaa
open Go Go.RowKit
/-- bytes as a number, the lowest first -/
def leN : List Int → Int
  | [] => 0
  | c :: r => c + 256 * leN r
/-- a number as so many bytes -/
def leB : Nat → Int → List Int
  | 0, _ => []
  | k + 1, n => n % 256 :: leB k (n / 256)
theorem leB_len (k : Nat) (n : Int) : (leB k n).length = k := by
  induction k generalizing n with
  | zero => rfl
  | succ k ih => rw [leB, List.length_cons, ih]
theorem leN_rng {cs : List Int} (h : ∀ c ∈ cs, 0 ≤ c ∧ c < 256) : 0 ≤ leN cs ∧ leN cs < 256 ^ cs.length := by
  induction cs with
  | nil => simp [leN]
  | cons c r ih =>
    have h1 := h c (List.mem_cons_self ..)
    have h2 := ih (fun x hx => h x (List.mem_cons_of_mem _ hx))
    rw [leN, List.length_cons, Int.pow_succ]
    omega
theorem leB_leN {cs : List Int} (h : ∀ c ∈ cs, 0 ≤ c ∧ c < 256) : leB cs.length (leN cs) = cs := by
  induction cs with
  | nil => rfl
  | cons c r ih =>
    have h1 := h c (List.mem_cons_self ..)
    have h2 := leN_rng (fun x hx => h x (List.mem_cons_of_mem _ hx) : ∀ x ∈ r, 0 ≤ x ∧ x < 256)
    have h3 := ih (fun x hx => h x (List.mem_cons_of_mem _ hx))
    rw [List.length_cons, leB, leN]
    have e1 : (c + 256 * leN r) % 256 = c := by omega
    have e2 : (c + 256 * leN r) / 256 = leN r := by omega
    rw [e1, e2, h3]
theorem leN_snoc (cs : List Int) (c : Int) : leN (cs ++ [c]) = leN cs + c * 256 ^ cs.length := by
  induction cs with
  | nil => simp [leN]
  | cons d r ih =>
    rw [List.cons_append, leN, ih, leN, List.length_cons, Int.pow_succ]
    have : 256 * (c * 256 ^ r.length) = c * (256 ^ r.length * 256) := by
      rw [← Int.mul_assoc, Int.mul_comm 256 c, Int.mul_assoc, Int.mul_comm 256]
    rw [Int.mul_add, this]
    omega
theorem ior_add {x c : Int} (k : Nat) (hx : 0 ≤ x ∧ x < 2 ^ k) (hc : 0 ≤ c) : ior x (c * 2 ^ k) = x + c * 2 ^ k := by
  obtain ⟨m, rfl⟩ := Int.eq_ofNat_of_zero_le hx.1
  obtain ⟨d, rfl⟩ := Int.eq_ofNat_of_zero_le hc
  have hm : m < 2 ^ k := by have := hx.2; exact_mod_cast this
  have e : ((d : Int) * 2 ^ k) = ((2 ^ k * d : Nat) : Int) := by rw [Int.natCast_mul, Int.mul_comm, Int.natCast_pow]; rfl
  rw [e]
  unfold ior
  simp only [Int.toNat_natCast]
  rw [Nat.or_comm, ← Nat.two_pow_add_eq_or_of_lt hm, Int.natCast_add, Int.add_comm]
theorem pow256 (k : Nat) : (256 : Int) ^ k = 2 ^ (8 * k) := by rw [Int.pow_mul]; rfl
theorem takeN_leN {cs : List Int} (h : ∀ c ∈ cs, 0 ≤ c ∧ c < 256) (k : Nat) (hk : k ≤ cs.length) (h8 : k ≤ 8) : takeN cs k = leN (cs.take k) := by
  induction k with
  | zero => simp [takeN, leN]
  | succ k ih =>
    have hlt : k < cs.length := by omega
    have hc := h _ (List.getElem_mem hlt)
    have hr := leN_rng (cs := cs.take k) (fun c hc => h c (List.mem_of_mem_take hc))
    rw [List.length_take, Nat.min_eq_left (by omega), pow256] at hr
    have e1 : min (8 * (k : Int)).toNat 64 = 8 * k := by omega
    have e2 : min k cs.length = k := by omega
    rw [takeN, e1, ih (by omega) (by omega), List.take_succ_eq_append_getElem hlt, leN_snoc, List.length_take, e2, List.getD_eq_getElem?_getD, List.getElem?_eq_getElem hlt, pow256]
    show ior _ (IntKind.u64.wrap (cs[k] * 2 ^ (8 * k))) = _
    have hw : IntKind.u64.wrap (cs[k] * 2 ^ (8 * k)) = cs[k] * 2 ^ (8 * k) := by
      refine IntWalk.u64_in _ ?_
      rcases (show k = 0 ∨ k = 1 ∨ k = 2 ∨ k = 3 ∨ k = 4 ∨ k = 5 ∨ k = 6 ∨ k = 7 by omega) with rfl | rfl | rfl | rfl | rfl | rfl | rfl | rfl <;> omega
    rw [hw, ior_add _ hr hc.1]
theorem bI_son {xs : List Int} (h : ∀ c ∈ xs, 0 ≤ c ∧ c < 256) : bI (strOfNums xs) = xs := by
  unfold bI strOfNums
  simp only [List.map_map]
  conv => rhs; rw [← List.map_id xs]
  refine List.map_congr_left fun c hc => ?_
  have := h c hc
  simp only [Function.comp, id]
  have e : (UInt8.ofNat c.toNat).toNat = c.toNat % 2 ^ 8 := UInt8.toNat_ofNat'
  rw [e]
  omega
/-- an argument's bytes -/
def encArg (cl : Nat) (c : CallD) (i : Nat) : List Int := if tsel cl i then ((if i = 0 then c.t0 else c.t1).size : Int) :: bI (if i = 0 then c.t0 else c.t1) else leB 8 (if i = 0 then c.n0 else c.n1)
def encA (cl : Nat) (c : CallD) : Nat → List Int
  | 0 => []
  | i + 1 => encA cl c i ++ encArg cl c i
def hdr (c : CallD) : List Int := [c.task + (if c.frn then 128 else 0), c.num % 256, c.num / 256, 0, 0]
end Go.Proofs.Ytlfoiemjjalnlaa
