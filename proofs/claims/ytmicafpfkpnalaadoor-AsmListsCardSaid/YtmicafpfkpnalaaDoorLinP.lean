/- Lines put together: what is read of them. Plain. -/
import Derived.Test.YtmicafpfkpnalaaDoorAsmW4
namespace Go.Proofs.YtmicafpfkpnalaaDoor
open Go Go.RowKit
def gdL : List (List UInt8 × Ins) := [
  ([108, 100, 108, 101, 110], ⟨128, 0, 0, 0⟩),
  ([32, 32, 108, 100, 120, 108, 101, 110, 32, 35, 32, 120], ⟨129, 0, 0, 0⟩),
  ([114, 101, 116, 97], ⟨22, 0, 0, 0⟩),
  ([116, 97, 120], ⟨7, 0, 0, 0⟩),
  ([116, 120, 97], ⟨135, 0, 0, 0⟩),
  ([110, 101, 103], ⟨132, 0, 0, 0⟩),
  ([97, 100, 100, 120], ⟨12, 0, 0, 0⟩),
  ([120, 111, 114, 120], ⟨172, 0, 0, 0⟩),
  ([108, 100, 32, 53], ⟨0, 0, 0, 5⟩),
  ([108, 100, 97, 98, 115, 32, 48, 120, 49, 48], ⟨32, 0, 0, 16⟩),
  ([108, 100, 109, 101, 109, 32, 51], ⟨96, 0, 0, 3⟩),
  ([108, 100, 120, 32, 52, 50, 57, 52, 57, 54, 55, 50, 57, 53], ⟨1, 0, 0, 4294967295⟩),
  ([108, 100, 120, 109, 101, 109, 32, 49], ⟨97, 0, 0, 1⟩),
  ([115, 116, 32, 50], ⟨2, 0, 0, 2⟩),
  ([115, 116, 120, 32, 50], ⟨3, 0, 0, 2⟩),
  ([114, 101, 116, 32, 55], ⟨6, 0, 0, 7⟩),
  ([106, 97, 32, 57], ⟨5, 0, 0, 9⟩),
  ([115, 117, 98, 32, 49], ⟨20, 0, 0, 1⟩),
  ([114, 115, 104, 32, 49], ⟨116, 0, 0, 1⟩),
  ([106, 101, 113, 32, 49, 32, 50, 32, 51], ⟨21, 2, 3, 1⟩),
  ([106, 115, 101, 116, 32, 49, 32, 50, 53, 53, 32, 48], ⟨69, 255, 0, 1⟩),
  ([106, 103, 101, 120, 32, 52, 32, 53], ⟨61, 4, 5, 0⟩),
  ([114, 97, 119, 32, 54, 53, 53, 51, 53, 32, 49, 32, 50, 32, 51], ⟨65535, 1, 2, 3⟩)]
def bdL : List (List UInt8 × Nat) := [
  ([102, 111, 111], 202),
  ([108, 100], 203),
  ([108, 100, 32, 49, 32, 50], 203),
  ([116, 97, 120, 32, 49], 203),
  ([108, 100, 32, 120], 202),
  ([108, 100, 32, 48, 49], 202),
  ([108, 100, 32, 52, 50, 57, 52, 57, 54, 55, 50, 57, 54], 204),
  ([106, 101, 113, 32, 49, 32, 50, 53, 54, 32, 48], 204),
  ([106, 101, 113, 120, 32, 49], 203),
  ([114, 97, 119, 32, 54, 53, 53, 51, 54, 32, 48, 32, 48, 32, 48], 204),
  ([114, 97, 119, 32, 49, 32, 50, 32, 51], 203),
  ([106, 101, 113, 32, 49, 32, 50, 32, 120], 202)]
/-- a line's instruction, and what is wrong with it -/
def lineF (p : List UInt8) : Option (Ins × Nat) := match Lib.fields (headF 35 p) with
  | [] => none
  | x :: xs => some (parsedF (x :: xs))
theorem parseGo_cons (n : Nat) (p : List UInt8) (ps : List (List UInt8)) (out : List Ins) : parseGo n (p :: ps) out = match lineF p with
    | none => parseGo (n + 1) ps out
    | some (i, e) => if e ≠ 0 then ([], n + 1, e) else if out.length = 4096 then ([], n + 1, 205) else parseGo (n + 1) ps (out ++ [i]) := by
  rw [parseGo]
  unfold lineF
  cases Lib.fields (headF 35 p) <;> rfl
theorem parseGo_good (X : List (List UInt8 × Ins)) (h : ∀ p ∈ X, lineF p.1 = some (p.2, 0)) (n : Nat) (rest : List (List UInt8)) (out : List Ins) (hl : out.length + X.length ≤ 4096) :
    parseGo n (X.map (·.1) ++ rest) out = parseGo (n + X.length) rest (out ++ X.map (·.2)) := by
  induction X generalizing n out with
  | nil => simp
  | cons p r ih =>
    rw [List.map_cons, List.cons_append, parseGo_cons, h p (List.mem_cons_self ..)]
    dsimp only
    rw [if_neg (fun h => h rfl), if_neg (by rw [List.length_cons] at hl; omega), ih (fun q hq => h q (List.mem_cons_of_mem _ hq)) _ _ (by rw [List.length_append, List.length_singleton]; rw [List.length_cons] at hl; omega)]
    rw [List.length_cons, List.map_cons, List.append_assoc, show n + 1 + r.length = n + (r.length + 1) by omega]; rfl
theorem splitC_line {c : UInt8} {a b : List UInt8} (h : c ∉ a) : splitC c (a ++ c :: b) = a :: splitC c b := by
  induction a with
  | nil => rw [List.nil_append, splitC, if_pos rfl]
  | cons x r ih =>
    have hx : ¬ x = c := fun e => h (e ▸ List.mem_cons_self ..)
    rw [List.cons_append, splitC, if_neg hx, ih (fun hm => h (List.mem_cons_of_mem _ hm))]; rfl
theorem splitC_lines (X : List (List UInt8)) (h : ∀ t ∈ X, (10 : UInt8) ∉ t) (rest : List UInt8) : splitC 10 (X.flatMap (fun t => t ++ [10]) ++ rest) = X ++ splitC 10 rest := by
  induction X with
  | nil => rfl
  | cons t r ih =>
    rw [List.flatMap_cons, List.append_assoc, List.append_assoc, List.singleton_append, splitC_line (h t (List.mem_cons_self ..)), ih (fun q hq => h q (List.mem_cons_of_mem _ hq))]; rfl
def hdrL : List UInt8 := [10, 35, 32, 110, 111, 116, 104, 105, 110, 103, 10]
def txtL (X : List (List UInt8 × Ins)) : List UInt8 := hdrL ++ (X.map (·.1)).flatMap (fun t => t ++ [10])
theorem txtL_snoc (X : List (List UInt8 × Ins)) (p : List UInt8 × Ins) : txtL (X ++ [p]) = txtL X ++ (p.1 ++ [10]) := by
  unfold txtL
  rw [List.map_append, List.flatMap_append, List.append_assoc]; simp
theorem gd_eq : gdL.map (fun p => lineF p.1) = gdL.map (fun p => some (p.2, 0)) := by kernel_rfl
theorem bd_eq : bdL.map (fun p => lineF p.1) = bdL.map (fun p => some (zIns, p.2)) := by kernel_rfl
theorem map_at {α β : Type} {f g : α → β} {l : List α} (h : l.map f = l.map g) {x : α} (hx : x ∈ l) : f x = g x := by
  induction l with
  | nil => cases hx
  | cons a r ih =>
    rw [List.map_cons, List.map_cons] at h
    injection h with h1 h2
    rcases List.mem_cons.1 hx with rfl | hx
    · exact h1
    · exact ih h2 hx
theorem gd_ok : ∀ k : Fin 23, (10 : UInt8) ∉ (gdL[k.val]'(k.isLt)).1 ∧ (∀ b ∈ (gdL[k.val]'(k.isLt)).1, b.toNat < 128) ∧ (gdL[k.val]'(k.isLt)).1.length ≤ 20 := by decide +kernel
theorem bd_ok : ∀ k : Fin 12, (bdL[k.val]'(k.isLt)).2 ≠ 0 ∧ (10 : UInt8) ∉ (bdL[k.val]'(k.isLt)).1 ∧ (∀ b ∈ (bdL[k.val]'(k.isLt)).1, b.toNat < 128) ∧ (bdL[k.val]'(k.isLt)).1.length ≤ 20 := by decide +kernel
theorem gd_mem {p : List UInt8 × Ins} (h : p ∈ gdL) : lineF p.1 = some (p.2, 0) ∧ (10 : UInt8) ∉ p.1 ∧ (∀ b ∈ p.1, b.toNat < 128) ∧ p.1.length ≤ 20 := by
  obtain ⟨k, hk, rfl⟩ := List.mem_iff_getElem.1 h
  exact ⟨map_at gd_eq h, gd_ok ⟨k, hk⟩⟩
theorem bd_mem {p : List UInt8 × Nat} (h : p ∈ bdL) : lineF p.1 = some (zIns, p.2) ∧ p.2 ≠ 0 ∧ (10 : UInt8) ∉ p.1 ∧ (∀ b ∈ p.1, b.toNat < 128) ∧ p.1.length ≤ 20 := by
  obtain ⟨k, hk, rfl⟩ := List.mem_iff_getElem.1 h
  exact ⟨map_at bd_eq h, bd_ok ⟨k, hk⟩⟩
theorem txtL_len (X : List (List UInt8 × Ins)) (h : ∀ p ∈ X, p ∈ gdL) : (txtL X).length ≤ 11 + 21 * X.length := by
  unfold txtL
  rw [List.length_append]
  have : ((X.map (·.1)).flatMap (fun t => t ++ [10])).length ≤ 21 * X.length := by
    induction X with
    | nil => simp
    | cons p r ih =>
      have h1 := (gd_mem (h p (List.mem_cons_self ..))).2.2.2
      have h2 := ih (fun q hq => h q (List.mem_cons_of_mem _ hq))
      rw [List.map_cons, List.flatMap_cons]
      simp only [List.length_append, List.length_cons, List.length_nil]
      omega
  have h3 : hdrL.length = 11 := rfl
  omega
theorem txtL_asc (X : List (List UInt8 × Ins)) (h : ∀ p ∈ X, p ∈ gdL) : ∀ b ∈ txtL X, b.toNat < 128 := by
  intro b hb
  rcases List.mem_append.1 hb with hb | hb
  · have : ∀ b ∈ hdrL, b.toNat < 128 := by decide
    exact this b hb
  · obtain ⟨t, ht, hb⟩ := List.mem_flatMap.1 hb
    obtain ⟨p, hp, rfl⟩ := List.mem_map.1 ht
    rcases List.mem_append.1 hb with hb | hb
    · exact (gd_mem (h p hp)).2.2.1 b hb
    · rw [List.mem_singleton.1 hb]; decide
theorem txtL_split (X : List (List UInt8 × Ins)) (h : ∀ p ∈ X, p ∈ gdL) (rest : List UInt8) : splitC 10 (txtL X ++ rest) = [] :: [35, 32, 110, 111, 116, 104, 105, 110, 103] :: (X.map (·.1) ++ splitC 10 rest) := by
  have e : txtL X ++ rest = [] ++ 10 :: ([35, 32, 110, 111, 116, 104, 105, 110, 103] ++ 10 :: ((X.map (·.1)).flatMap (fun t => t ++ [10]) ++ rest)) := by
    unfold txtL hdrL
    rw [List.append_assoc]; rfl
  rw [e, splitC_line (by simp), splitC_line (by decide), splitC_lines _ (fun t ht => by
    obtain ⟨p, hp, rfl⟩ := List.mem_map.1 ht
    exact (gd_mem (h p hp)).2.1)]
theorem hdr_no : lineF [] = none ∧ lineF [35, 32, 110, 111, 116, 104, 105, 110, 103] = none := ⟨by kernel_rfl, by kernel_rfl⟩
theorem txtL_parse (X : List (List UInt8 × Ins)) (h : ∀ p ∈ X, p ∈ gdL) (hl : X.length ≤ 30) : parseF (txtL X) = (X.map (·.2), 0, 0) := by
  have hlen := txtL_len X h
  have e := txtL_split X h []
  rw [List.append_nil] at e
  unfold parseF
  rw [if_neg (by omega), e, parseGo_cons, hdr_no.1]
  dsimp only
  rw [parseGo_cons, hdr_no.2]
  dsimp only
  rw [parseGo_good X (fun p hp => (gd_mem (h p hp)).1) _ _ _ (by simp; omega)]
  have e1 : splitC 10 [] = [[]] := rfl
  rw [e1, parseGo_cons, hdr_no.1]
  dsimp only
  rw [parseGo]; rfl
theorem txtL_bad (X : List (List UInt8 × Ins)) (h : ∀ p ∈ X, p ∈ gdL) (hl : X.length ≤ 30) (q : List UInt8 × Nat) (hq : q ∈ bdL) : parseF (txtL X ++ (q.1 ++ [10, 114, 101, 116, 32, 49, 10])) = ([], X.length + 3, q.2) := by
  have hlen := txtL_len X h
  obtain ⟨q1, q2, q3, q4, q5⟩ := bd_mem hq
  unfold parseF
  rw [if_neg (by rw [List.length_append, List.length_append]; simp; omega), txtL_split X h, parseGo_cons, hdr_no.1]
  dsimp only
  rw [parseGo_cons, hdr_no.2]
  dsimp only
  rw [parseGo_good X (fun p hp => (gd_mem (h p hp)).1) _ _ _ (by simp; omega)]
  have e1 : q.1 ++ [10, 114, 101, 116, 32, 49, 10] = q.1 ++ 10 :: [114, 101, 116, 32, 49, 10] := rfl
  rw [e1, splitC_line q3, parseGo_cons, q1]
  dsimp only
  rw [if_pos q2, show 0 + 1 + 1 + X.length + 1 = X.length + 3 by omega]
end Go.Proofs.YtmicafpfkpnalaaDoor
