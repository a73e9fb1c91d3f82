/- Lines put together: what is read of them. Plain. -/
import Derived.Test.YtpdnigifoaoflaaDoorScrW
namespace Go.Proofs.YtpdnigifoaoflaaDoor
open Go Go.RowKit
def gdL : List (List UInt8 × Option CallD) := [
  ([49, 32, 112, 105, 100], some ⟨1, false, 39, 0, 0, ⟨#[]⟩, ⟨#[]⟩⟩),
  ([49, 50, 55, 32, 99, 108, 111, 115, 101, 32, 51, 32, 35, 32, 120], some ⟨127, false, 3, 3, 0, ⟨#[]⟩, ⟨#[]⟩⟩),
  ([50, 33, 32, 111, 112, 101, 110, 32, 47, 97, 37, 50, 48, 98, 32, 48, 120, 49, 102], some ⟨2, true, 2, 0, 31, ⟨#[47, 97, 32, 98]⟩, ⟨#[]⟩⟩),
  ([], none),
  ([35, 32, 110, 111, 116, 104, 105, 110, 103], none),
  ([48, 32, 119, 114, 105, 116, 101, 32, 49, 32, 45], some ⟨0, false, 1, 1, 0, ⟨#[]⟩, ⟨#[]⟩⟩),
  ([49, 32, 114, 101, 110, 97, 109, 101, 32, 47, 97, 32, 47, 98], some ⟨1, false, 82, 0, 0, ⟨#[47, 97]⟩, ⟨#[47, 98]⟩⟩),
  ([51, 32, 115, 121, 109, 108, 105, 110, 107, 32, 37, 50, 100, 32, 120], some ⟨3, false, 88, 0, 0, ⟨#[45]⟩, ⟨#[120]⟩⟩)]
def bdL : List (List UInt8 × Nat) := [
  ([120, 32, 112, 105, 100], 202),
  ([49, 50, 56, 32, 112, 105, 100], 204),
  ([33], 202),
  ([49], 203),
  ([49, 32, 102, 111, 111], 38),
  ([49, 32, 112, 105, 100, 32, 50], 203),
  ([49, 32, 111, 112, 101, 110, 32, 47, 97], 203),
  ([49, 32, 99, 108, 111, 115, 101, 32, 120], 202),
  ([49, 32, 99, 108, 111, 115, 101, 32, 49, 56, 52, 52, 54, 55, 52, 52, 48, 55, 51, 55, 48, 57, 53, 53, 49, 54, 49, 54], 202),
  ([49, 32, 109, 107, 100, 105, 114, 32, 37, 50], 203),
  ([49, 32, 109, 107, 100, 105, 114, 32, 37, 122, 122], 202),
  ([49, 32, 109, 107, 100, 105, 114, 32] ++ List.replicate 129 97, 36),
  ([49, 32, 111, 112, 101, 110, 32, 47, 97, 32, 48, 49], 202),
  ([49, 33, 33, 32, 112, 105, 100], 202)]
/-- a line's call, and what is wrong with it -/
def lineS (p : List UInt8) : Option (CallD × Nat) := match Lib.fields (headF 35 p) with
  | [] => none
  | x :: xs => some (wdsF x xs)
theorem scrGo_cons (n : Nat) (p : List UInt8) (ps : List (List UInt8)) (out : List CallD) : scrGo n (p :: ps) out = match lineS p with
    | none => scrGo (n + 1) ps out
    | some (i, e) => if e ≠ 0 then ([], n + 1, e) else if out.length = 1024 then ([], n + 1, 205) else scrGo (n + 1) ps (out ++ [i]) := by
  rw [scrGo]
  unfold lineS
  cases Lib.fields (headF 35 p) <;> rfl
theorem scrGo_good (X : List (List UInt8 × Option CallD)) (h : ∀ p ∈ X, lineS p.1 = p.2.map fun c => (c, 0)) (n : Nat) (rest : List (List UInt8)) (out : List CallD) (hl : out.length + X.length ≤ 1024) :
    scrGo n (X.map (·.1) ++ rest) out = scrGo (n + X.length) rest (out ++ X.filterMap (·.2)) := by
  induction X generalizing n out with
  | nil => simp
  | cons p r ih =>
    obtain ⟨t, o⟩ := p
    rw [List.map_cons, List.cons_append, scrGo_cons, h _ (List.mem_cons_self ..)]
    cases o with
    | none =>
      dsimp only [Option.map_none]
      rw [ih (fun q hq => h q (List.mem_cons_of_mem _ hq)) _ _ (by rw [List.length_cons] at hl; omega)]
      rw [List.length_cons, List.filterMap_cons, show n + 1 + r.length = n + (r.length + 1) by omega]
    | some c =>
      dsimp only [Option.map_some]
      rw [if_neg (fun h => h rfl), if_neg (by rw [List.length_cons] at hl; omega), ih (fun q hq => h q (List.mem_cons_of_mem _ hq)) _ _ (by rw [List.length_append, List.length_singleton]; rw [List.length_cons] at hl; omega)]
      rw [List.length_cons, List.filterMap_cons, List.append_assoc, show n + 1 + r.length = n + (r.length + 1) by omega]; rfl
def txtS (X : List (List UInt8 × Option CallD)) : List UInt8 := (X.map (·.1)).flatMap (fun t => t ++ [10])
theorem txtS_snoc (X : List (List UInt8 × Option CallD)) (p : List UInt8 × Option CallD) : txtS (X ++ [p]) = txtS X ++ (p.1 ++ [10]) := by
  unfold txtS
  rw [List.map_append, List.flatMap_append]; simp
theorem gd_eq : gdL.map (fun p => lineS p.1) = gdL.map (fun p => p.2.map fun c => (c, 0)) := by kernel_rfl
theorem bd_eq : bdL.map (fun p => (lineS p.1).map (·.2)) = bdL.map (fun p => some p.2) := by kernel_rfl
/-- does a line begin with a word -/
def fstOk (t : List UInt8) : Bool := match t with
  | [] => false
  | x :: _ => !decide (x.toNat = 35)
theorem gd_ok : ∀ k : Fin 8, (10 : UInt8) ∉ (gdL[k.val]'(k.isLt)).1 ∧ (∀ b ∈ (gdL[k.val]'(k.isLt)).1, b.toNat < 128) ∧ (gdL[k.val]'(k.isLt)).1.length ≤ 20 ∧ (gdL[k.val]'(k.isLt)).2.isSome = fstOk (gdL[k.val]'(k.isLt)).1 := by decide +kernel
theorem bd_ok : ∀ k : Fin 14, (bdL[k.val]'(k.isLt)).2 ≠ 0 ∧ (10 : UInt8) ∉ (bdL[k.val]'(k.isLt)).1 ∧ (∀ b ∈ (bdL[k.val]'(k.isLt)).1, b.toNat < 128) ∧ (bdL[k.val]'(k.isLt)).1.length ≤ 140 := by decide +kernel
theorem gd_mem {p : List UInt8 × Option CallD} (h : p ∈ gdL) : (lineS p.1 = p.2.map fun c => (c, 0)) ∧ (10 : UInt8) ∉ p.1 ∧ (∀ b ∈ p.1, b.toNat < 128) ∧ p.1.length ≤ 20 ∧ p.2.isSome = fstOk p.1 := by
  obtain ⟨k, hk, rfl⟩ := List.mem_iff_getElem.1 h
  exact ⟨map_at gd_eq h, gd_ok ⟨k, hk⟩⟩
theorem bd_mem {p : List UInt8 × Nat} (h : p ∈ bdL) : (lineS p.1).map (·.2) = some p.2 ∧ p.2 ≠ 0 ∧ (10 : UInt8) ∉ p.1 ∧ (∀ b ∈ p.1, b.toNat < 128) ∧ p.1.length ≤ 140 := by
  obtain ⟨k, hk, rfl⟩ := List.mem_iff_getElem.1 h
  exact ⟨map_at bd_eq h, bd_ok ⟨k, hk⟩⟩
theorem txtS_len (X : List (List UInt8 × Option CallD)) (h : ∀ p ∈ X, p ∈ gdL) : (txtS X).length ≤ 21 * X.length := by
  induction X with
  | nil => exact Nat.le_refl _
  | cons p r ih =>
    have h1 := (gd_mem (h p (List.mem_cons_self ..))).2.2.2.1
    have h2 := ih (fun q hq => h q (List.mem_cons_of_mem _ hq))
    unfold txtS at h2 ⊢
    rw [List.map_cons, List.flatMap_cons]
    simp only [List.length_append, List.length_cons, List.length_nil]
    omega
theorem txtS_asc (X : List (List UInt8 × Option CallD)) (h : ∀ p ∈ X, p ∈ gdL) : ∀ b ∈ txtS X, b.toNat < 128 := by
  intro b hb
  obtain ⟨t, ht, hb⟩ := List.mem_flatMap.1 hb
  obtain ⟨p, hp, rfl⟩ := List.mem_map.1 ht
  rcases List.mem_append.1 hb with hb | hb
  · exact (gd_mem (h p hp)).2.2.1 b hb
  · rw [List.mem_singleton.1 hb]; decide
theorem txtS_split (X : List (List UInt8 × Option CallD)) (h : ∀ p ∈ X, p ∈ gdL) (rest : List UInt8) : splitC 10 (txtS X ++ rest) = X.map (·.1) ++ splitC 10 rest := by
  unfold txtS
  exact splitC_lines _ (fun t ht => by
    obtain ⟨p, hp, rfl⟩ := List.mem_map.1 ht
    exact (gd_mem (h p hp)).2.1) rest
theorem line_no : lineS [] = none := by kernel_rfl
theorem txtS_parse (X : List (List UInt8 × Option CallD)) (h : ∀ p ∈ X, p ∈ gdL) (hl : X.length ≤ 30) : scrF (txtS X) = (X.filterMap (·.2), 0, 0) := by
  have e := txtS_split X h []
  rw [List.append_nil] at e
  unfold scrF
  rw [e, scrGo_good X (fun p hp => (gd_mem (h p hp)).1) _ _ _ (by simp; omega)]
  have e1 : splitC 10 [] = [[]] := rfl
  rw [e1, scrGo_cons, line_no]
  dsimp only
  rw [scrGo]; rfl
theorem txtS_bad (X : List (List UInt8 × Option CallD)) (h : ∀ p ∈ X, p ∈ gdL) (hl : X.length ≤ 30) (q : List UInt8 × Nat) (hq : q ∈ bdL) : scrF (txtS X ++ (q.1 ++ [10, 49, 32, 112, 105, 100, 10])) = ([], X.length + 1, q.2) := by
  obtain ⟨q1, q2, q3, q4, q5⟩ := bd_mem hq
  unfold scrF
  rw [txtS_split X h, scrGo_good X (fun p hp => (gd_mem (h p hp)).1) _ _ _ (by simp; omega)]
  have e1 : q.1 ++ [10, 49, 32, 112, 105, 100, 10] = q.1 ++ 10 :: [49, 32, 112, 105, 100, 10] := rfl
  rw [e1, splitC_line q3, scrGo_cons]
  cases hs : lineS q.1 with
  | none => rw [hs] at q1; cases q1
  | some p =>
    rw [hs] at q1
    obtain ⟨c, e⟩ := p
    have : e = q.2 := Option.some.inj q1
    subst this
    dsimp only
    rw [if_pos q2, Nat.zero_add]
end Go.Proofs.YtpdnigifoaoflaaDoor
