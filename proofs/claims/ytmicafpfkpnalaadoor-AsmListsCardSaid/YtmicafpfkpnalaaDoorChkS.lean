/- What the functions of check compute, as plain functions of lists. -/
import Derived.Test.YtmicafpfkpnalaaDoorCheck1
namespace Go.Proofs.YtmicafpfkpnalaaDoor
open Go Go.RowKit
def ways (i : Ins) (at_ : Nat) : List Nat :=
  if i.code % 8 = 6 then [] else if i.code = 5 then [at_ + 1 + i.k.toNat] else if i.code % 8 = 5 then [at_ + 1 + i.jt.toNat, at_ + 1 + i.jf.toNat] else [at_ + 1]
def ints (l : List Nat) : List Value := l.map fun (x : Nat) => Value.int .i64 (x : Int)
def u16s (l : List Int) : List Value := l.map fun x => Value.int .u16 x
def flat (l : List Ins) : List Value := l.flatMap Ins.cells
def isLd (i : Ins) : Bool := i.code = 96 || i.code = 97
def isSt (i : Ins) : Bool := i.code = 2 || i.code = 3
def shl1 (k : Int) : Int := IntKind.u16.wrap (1 * 2 ^ (min k.toNat 16))
def bit (x k : Int) : Int := iand (x.fdiv (2 ^ (min k.toNat 16))) 1
def nowOf (i : Ins) (now : Int) : Int := if isSt i then ior now (shl1 i.k) else now
def meetAll (ws : List Nat) (now : Int) (st : List Int) : List Int := ws.foldl (fun st x => st.set x (iand (st.getD x 0) now)) st
def loadsGo : List Ins → Nat → List Int → Int × Int
  | [], _, _ => (0, 0)
  | i :: r, at_, st =>
    if isLd i && bit (st.getD at_ 0) i.k = 0 then (at_, 2)
    else loadsGo r (at_ + 1) (meetAll (ways i at_) (nowOf i (st.getD at_ 0)) st)
def loads (l : List Ins) : Int × Int := loadsGo l 0 ((List.replicate l.length 65535).set 0 0)
def firstBad (n : Nat) : List Ins → Nat → Option (Int × Int)
  | [], _ => none
  | i :: r, at_ => if one i at_ n ≠ 0 then some (at_, one i at_ n) else firstBad n r (at_ + 1)
theorem firstBad_cons (n : Nat) (i : Ins) (r : List Ins) (at_ : Nat) : firstBad n (i :: r) at_ = if one i at_ n ≠ 0 then some ((at_ : Int), one i at_ n) else firstBad n r (at_ + 1) := rfl
def isRet (i : Ins) : Bool := i.code % 8 = 6
def check (l : List Ins) : Int × Int :=
  if l.length = 0 then (0, 203) else if l.length > 4096 then (4096, 205) else
  match firstBad l.length l 0 with
  | some r => r
  | none => if isRet (l.getD (l.length - 1) ⟨0, 0, 0, 0⟩) then loads l else ((l.length : Int) - 1, 209)
def wrongV (r : Int × Int) : Value := .agg #[.int .i64 r.1, .int .i64 r.2]

theorem flat_len (l : List Ins) : (flat l).length = l.length * 4 := by
  induction l with
  | nil => rfl
  | cons i l ih => simp only [flat, List.flatMap_cons, List.length_append] at ih ⊢; rw [ih]; simp [Ins.cells]; omega
theorem flat_at (l : List Ins) (k : Nat) (h : k < l.length) : ((flat l).drop (k * 4)).take 4 = (l[k]).cells := by
  induction l generalizing k with
  | nil => simp at h
  | cons i l ih =>
    cases k with
    | zero => simp [flat, List.flatMap_cons, Ins.cells]
    | succ k =>
      have := ih k (by simpa using h)
      simp only [flat, List.flatMap_cons, List.getElem_cons_succ] at this ⊢
      have e : (k + 1) * 4 = i.cells.length + k * 4 := by simp [Ins.cells]; omega
      rw [e, ← List.drop_drop, List.drop_left]; exact this

theorem ways_le (i : Ins) (k : Nat) : (ways i k).length ≤ 2 := by unfold ways; repeat (first | split | simp)
theorem meetAll_succ (ws : List Nat) (j : Nat) (h : j < ws.length) (nw : Int) (st : List Int) :
    meetAll (ws.take (j + 1)) nw st = (meetAll (ws.take j) nw st).set ws[j] (iand ((meetAll (ws.take j) nw st).getD ws[j] 0) nw) := by
  unfold meetAll
  rw [List.take_succ_eq_append_getElem h, List.foldl_append]
  rfl
theorem meetAll_len (ws : List Nat) (nw : Int) (st : List Int) : (meetAll ws nw st).length = st.length := by
  unfold meetAll
  induction ws generalizing st with
  | nil => rfl
  | cons x ws ih => rw [List.foldl_cons, ih]; simp
theorem iand_rng {x y : Int} (h : 0 ≤ x ∧ x < 65536) : 0 ≤ iand x y ∧ iand x y < 65536 := by have := iand_le x y h.1; omega
theorem meetAll_rng (ws : List Nat) (nw : Int) (st : List Int) (h : ∀ x ∈ st, 0 ≤ x ∧ x < 65536) : ∀ x ∈ meetAll ws nw st, 0 ≤ x ∧ x < 65536 := by
  unfold meetAll
  induction ws generalizing st with
  | nil => exact h
  | cons y ws ih =>
    rw [List.foldl_cons]
    refine ih _ fun x hx => ?_
    rcases List.mem_or_eq_of_mem_set hx with h1 | rfl
    · exact h x h1
    · refine iand_rng ?_
      rw [List.getD_eq_getElem?_getD]
      cases hq : st[y]? with
      | none => simp
      | some z => exact h z (List.mem_of_getElem? hq)
theorem u16s_set (st : List Int) (k : Nat) (x : Int) : (u16s st).set k (.int .u16 x) = u16s (st.set k x) := by simp [u16s, List.map_set]
theorem u16s_get {st : List Int} {k : Nat} {x : Int} (h : st[k]? = some x) : (u16s st).toArray.toList[k]? = some (.int .u16 x) := by simp [u16s, h]
theorem ints_get {l : List Nat} {k x : Nat} (h : l[k]? = some x) : (ints l)[k]? = some (.int .i64 (x : Int)) := by simp [ints, h]
theorem fdiv_rng {x : Int} (n : Nat) (h : 0 ≤ x ∧ x < 65536) : 0 ≤ x.fdiv (2 ^ n) ∧ x.fdiv (2 ^ n) < 65536 := by
  have h2 : (0 : Int) < 2 ^ n := Int.pow_pos (by omega)
  rw [Int.fdiv_eq_ediv_of_nonneg _ (by omega)]
  exact ⟨Int.ediv_nonneg h.1 (by omega), by have := Int.ediv_le_self (2 ^ n) h.1; omega⟩
theorem u16_rng (x : Int) : 0 ≤ IntKind.u16.wrap x ∧ IntKind.u16.wrap x < 65536 := by
  simp only [IntKind.wrap, IntKind.bits, IntKind.signed]; simp; omega
theorem now_rng {i : Ins} {x : Int} (h : 0 ≤ x ∧ x < 65536) : 0 ≤ nowOf i x ∧ nowOf i x < 65536 := by
  unfold nowOf
  split
  · exact ior_lt x _ 16 h (u16_rng _)
  · exact h
theorem firstBad_none {n : Nat} : ∀ {l : List Ins} {at_ : Nat}, firstBad n l at_ = none → ∀ k (h : k < l.length), one l[k] ((at_ + k : Nat) : Int) n = 0
  | [], _, _, k, h => by simp at h
  | i :: r, at_, h, k, hk => by
    unfold firstBad at h
    split at h
    · simp at h
    · rename_i h0
      cases k with
      | zero => simpa using h0
      | succ k =>
        have := firstBad_none h k (by simpa using hk)
        simpa [Nat.add_assoc, Nat.add_comm 1 k] using this
theorem ways_in {i : Ins} (hi : i.ok) {at_ n : Nat} (h : one i at_ n = 0) (hl : isRet i = true ∨ at_ + 1 < n) : ∀ x ∈ ways i at_, at_ < x ∧ x < n := by
  obtain ⟨c, jt, jf, k⟩ := i
  obtain ⟨hc, ht, hf, hk⟩ := hi
  intro x hx
  simp only [one, ways, isRet] at *
  split at hx
  · simp at hx
  · rename_i h6
    split at hx
    · rename_i h5
      subst h5
      simp only [List.mem_singleton] at hx
      split at h
      · omega
      · split at h
        · omega
        · rename_i h7
          simp only [true_and, ge_iff_le, Int.not_le] at h7
          omega
    · rename_i h5
      split at hx
      · rename_i h55
        split at h
        · omega
        · split at h
          · omega
          · split at h
            · omega
            · rename_i h7
              simp only [h55, h5, ne_eq, not_false_eq_true, true_and, ge_iff_le, Int.not_le] at h7
              simp only [List.mem_cons, List.not_mem_nil, or_false] at hx
              omega
      · simp only [List.mem_singleton] at hx
        simp only [h6, decide_false, Bool.false_eq_true, false_or] at hl
        omega
theorem ways_lt {l : List Ins} (hl : ∀ i ∈ l, i.ok) (hb : firstBad l.length l 0 = none) (hr : isRet (l.getD (l.length - 1) ⟨0, 0, 0, 0⟩) = true) (k : Nat) (hk : k < l.length) : ∀ x ∈ ways l[k] k, k < x ∧ x < l.length := by
  have h1 := firstBad_none hb k hk
  rw [Nat.zero_add] at h1
  refine ways_in (hl _ (List.getElem_mem _)) h1 ?_
  by_cases hkk : k + 1 < l.length
  · exact .inr hkk
  · left
    have : l.length - 1 = k := by omega
    rw [this] at hr
    simpa [List.getD_eq_getElem?_getD, List.getElem?_eq_getElem hk] using hr
end Go.Proofs.YtmicafpfkpnalaaDoor
