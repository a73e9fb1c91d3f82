/- Words in any order, blanks and lines between; words that can't stand. Plain. -/
import Derived.Test.YtmicafpfkpnalaaDoorLexS
namespace Go.Proofs.YtmicafpfkpnalaaDoor
open Go Go.RowKit
def pcL : List (List UInt8 × Nat) := [([99, 97, 108, 108], 1), ([97, 44, 98, 45, 99, 95, 49], 1), ([55], 2), ([48, 120, 49, 102], 2), ([49, 56, 52, 52, 54, 55, 52, 52, 48, 55, 51, 55, 48, 57, 53, 53, 49, 54, 49, 53], 2), ([47], 3), ([47, 97, 47, 98, 46, 99], 3), ([61, 61], 4), ([33, 61], 4), ([60], 4), ([60, 61], 4), ([62], 4), ([62, 61], 4), ([38], 4)]
def bdW : List (List UInt8 × Nat × Nat) := [([48, 49], 2, 204), ([55, 120], 2, 204), ([49, 56, 52, 52, 54, 55, 52, 52, 48, 55, 51, 55, 48, 57, 53, 53, 49, 54, 49, 54], 2, 204), ([61], 4, 202), ([38, 38], 4, 202), ([36], 4, 202), ([65], 4, 202), ([45], 4, 202), ([0], 4, 202), ([61, 60], 4, 202), ([44], 4, 202)]
def pcN (p : List UInt8 × Nat) : Nat := if p.2 = 2 then (numF p.1).getD 0 else 0
def pcT (p : List UInt8 × Nat) : Tk := ⟨p.2, p.1, pcN p, 0, 0⟩
def gtnB (t : Tk) : Bool := decide (t.kind ≠ 0) && (match t.text with | c :: _ => !blkF c && decide (kindF c = t.kind) | [] => false) && t.text.all (predF t.kind) && decide (rightF t.kind t.text = (0, t.num)) && t.text.all (fun x => decide (x ≠ 10) && decide (x ≠ 35))
theorem gtn_of {t : Tk} (h : gtnB t = true) : GTn t := by
  unfold gtnB at h
  simp only [Bool.and_eq_true, decide_eq_true_eq, List.all_eq_true] at h
  obtain ⟨⟨⟨⟨h1, h2⟩, h3⟩, h4⟩, h5⟩ := h
  refine ⟨⟨h1, ?_, h3, h4⟩, h5⟩
  cases ht : t.text with
  | nil => rw [ht] at h2; cases h2
  | cons c r =>
    rw [ht] at h2
    simp only [Bool.and_eq_true, Bool.not_eq_true', decide_eq_true_eq] at h2
    exact ⟨c, r, rfl, h2.1, h2.2⟩
theorem pc_all : pcL.all (fun p => gtnB (pcT p) && decide (p.1.length ≤ 20) && decide (p.2 < 5)) = true := by decide +kernel
theorem pc_mem {p : List UInt8 × Nat} (h : p ∈ pcL) : GTn (pcT p) ∧ p.1.length ≤ 20 ∧ p.2 < 5 := by
  have := List.all_eq_true.1 pc_all p h
  simp only [Bool.and_eq_true, decide_eq_true_eq] at this
  exact ⟨gtn_of this.1.1, this.1.2, this.2⟩
def bdB (p : List UInt8 × Nat × Nat) : Bool := (match p.1 ++ [32, 122] with | c :: r => !blkF c && decide ((rightF (kindF c) ((c :: r).take (wl (predF (kindF c)) (c :: r)))).1 = p.2.2) | [] => false) && decide (p.2.2 ≠ 0) && (p.1 ++ [32, 122]).all (fun x => decide (x ≠ 10) && decide (x ≠ 35)) && decide (p.1.length ≤ 20)
theorem bw_all : bdW.all bdB = true := by decide +kernel
/-- a word that can't stand, and what is behind it -/
structure BadW (bad : List UInt8) (e : Nat) : Prop where
  word : ∃ c r, bad = c :: r ∧ blkF c = false ∧ (rightF (kindF c) (bad.take (wl (predF (kindF c)) bad))).1 = e
  ne : e ≠ 0
  no : ∀ x ∈ bad, x ≠ 10 ∧ x ≠ 35
theorem bw_mem {p : List UInt8 × Nat × Nat} (h : p ∈ bdW) : BadW (p.1 ++ [32, 122]) p.2.2 ∧ p.1.length ≤ 20 := by
  have h := List.all_eq_true.1 bw_all p h
  unfold bdB at h
  simp only [Bool.and_eq_true, decide_eq_true_eq, List.all_eq_true] at h
  obtain ⟨⟨⟨h1, h2⟩, h3⟩, h4⟩ := h
  refine ⟨⟨?_, h2, h3⟩, h4⟩
  cases ht : p.1 ++ [32, 122] with
  | nil => rw [ht] at h1; cases h1
  | cons c r =>
    rw [ht] at h1
    simp only [Bool.and_eq_true, Bool.not_eq_true', decide_eq_true_eq] at h1
    exact ⟨c, r, rfl, h1.1, h1.2⟩
def gapW (k : Nat) : List UInt8 := if k = 0 then [32] else if k = 1 then [32, 32] else if k = 2 then [9] else [32, 13]
theorem gapW_ok (k : Nat) : Blks (gapW k) ∧ gapW k ≠ [] ∧ (∀ x ∈ gapW k, x ≠ 10 ∧ x ≠ 35) ∧ (gapW k).length ≤ 2 := by
  unfold gapW Blks
  split
  · decide
  · split
    · decide
    · split
      · decide
      · decide
def accN : Nat → List (List (List UInt8 × Tk)) → List Tk
  | _, [] => []
  | n, ws :: r => tokL (n + 1) 0 ws ++ [⟨0, [], 0, n + 1, (pcs ws).length + 1⟩] ++ accN (n + 1) r
theorem accN_snoc (D : List (List (List UInt8 × Tk))) (ws : List (List UInt8 × Tk)) (n : Nat) : accN n (D ++ [ws]) = accN n D ++ (tokL (n + D.length + 1) 0 ws ++ [⟨0, [], 0, n + D.length + 1, (pcs ws).length + 1⟩]) := by
  induction D generalizing n with
  | nil => simp [accN]
  | cons x r ih =>
    rw [List.cons_append, accN, ih (n + 1), accN, List.length_cons, show n + 1 + r.length + 1 = n + (r.length + 1) + 1 by omega]
    simp only [List.append_assoc]
theorem tokL_snoc (line : Nat) (cur : List (List UInt8 × Tk)) (g : List UInt8) (t : Tk) (a : Nat) : tokL line a (cur ++ [(g, t)]) = tokL line a cur ++ [⟨t.kind, t.text, t.num, line, a + (pcs cur).length + g.length + 1⟩] := by
  induction cur generalizing a with
  | nil => rfl
  | cons p r ih =>
    obtain ⟨gp, u⟩ := p
    rw [List.cons_append, tokL, ih, tokL, pcs_cons, List.cons_append]
    congr 3
    simp only [List.length_append]
    congr 1
    omega
theorem pcs_snoc (cur : List (List UInt8 × Tk)) (g : List UInt8) (t : Tk) : pcs (cur ++ [(g, t)]) = pcs cur ++ g ++ t.text := by
  unfold pcs
  rw [List.flatMap_append, List.flatMap_cons, List.flatMap_nil, List.append_nil, List.append_assoc]
def txtW (D : List (List (List UInt8 × Tk))) (cur : List (List UInt8 × Tk)) (g : List UInt8) : List UInt8 := (D.map pcs).flatMap (fun p => p ++ [10]) ++ (pcs cur ++ g)
def NoW (ws : List (List UInt8 × Tk)) : Prop := ∀ p ∈ ws, (∀ x ∈ p.1, x ≠ 10 ∧ x ≠ 35) ∧ ∀ x ∈ p.2.text, x ≠ 10 ∧ x ≠ 35
/-- lines, and a line that is being put together -/
structure WdW (D : List (List (List UInt8 × Tk))) (cur : List (List UInt8 × Tk)) (g : List UInt8) : Prop where
  lines : ∀ ws ∈ D, ws ≠ [] ∧ Apart ws ∧ NoW ws
  apart : Apart cur
  no : NoW cur
  blks : Blks g
  gno : ∀ x ∈ g, x ≠ 10 ∧ x ≠ 35
  gnil : cur = [] → g = []
  gne : cur ≠ [] → g ≠ []
theorem apart_snoc' {cur : List (List UInt8 × Tk)} {g : List UInt8} {t : Tk} (hc : Apart cur) (hg : Blks g) (hn : cur ≠ [] → g ≠ []) (ht : GTk t) : Apart (cur ++ [(g, t)]) := by
  cases cur with
  | nil => exact ⟨hg, ht, fun q hq => (by cases hq), trivial⟩
  | cons p r => exact apart_snoc hc hg (hn (by simp)) ht
theorem split_lines (D : List (List (List UInt8 × Tk))) (h : ∀ ws ∈ D, NoW ws) (rest : List UInt8) : splitC 10 ((D.map pcs).flatMap (fun p => p ++ [10]) ++ rest) = D.map pcs ++ splitC 10 rest := by
  induction D with
  | nil => rfl
  | cons ws r ih =>
    have h10 : (10 : UInt8) ∉ pcs ws := fun hm => (pcs_no (h ws (List.mem_cons_self ..)) _ hm).1 rfl
    rw [List.map_cons, List.flatMap_cons, List.append_assoc, List.append_assoc, List.singleton_append, splitC_ln h10, ih (fun w hw => h w (List.mem_cons_of_mem _ hw))]; rfl
theorem lexAll_lines (D : List (List (List UInt8 × Tk))) (h : ∀ ws ∈ D, ws ≠ [] ∧ Apart ws ∧ NoW ws) (rest : List (List UInt8)) : ∀ (n : Nat) (out : List Tk), lexAll n (D.map pcs ++ rest) out = lexAll (n + D.length) rest (out ++ accN n D) := by
  induction D with
  | nil => intro n out; simp [accN]
  | cons ws r ih =>
    intro n out
    obtain ⟨h1, h2, h3⟩ := h ws (List.mem_cons_self ..)
    have h35 : (35 : UInt8) ∉ pcs ws := fun hm => (pcs_no h3 _ hm).2 rfl
    rw [List.map_cons, List.cons_append, lexAll_line (ws := ws) (tail := []) h2 h1 (fun x hx => by cases hx) (by rw [List.append_nil]; exact headF_id h35), ih (fun w hw => h w (List.mem_cons_of_mem _ hw)), accN, List.length_cons, List.append_nil, show n + 1 + r.length = n + (r.length + 1) by omega]
    simp only [List.append_assoc]
theorem line_no {D : List (List (List UInt8 × Tk))} {cur : List (List UInt8 × Tk)} {g : List UInt8} (h : WdW D cur g) : ∀ x ∈ pcs cur ++ g, x ≠ 10 ∧ x ≠ 35 := fun x hx => (List.mem_append.1 hx).elim (pcs_no h.no x) (h.gno x)
theorem lexF_words {D : List (List (List UInt8 × Tk))} {cur : List (List UInt8 × Tk)} {g : List UInt8} (h : WdW D cur g) (hl : (txtW D cur g).length ≤ 65536) :
    lexF (txtW D cur g) = (accN 0 D ++ tokL (D.length + 1) 0 cur ++ (if cur = [] then [] else [⟨0, [], 0, D.length + 1, (pcs cur).length + g.length + 1⟩]), none) := by
  have hno := line_no h
  unfold lexF
  rw [if_neg (by omega)]
  unfold txtW
  have h10 : (10 : UInt8) ∉ pcs cur ++ g := fun hm => (hno _ hm).1 rfl
  have h35 : (35 : UInt8) ∉ pcs cur ++ g := fun hm => (hno _ hm).2 rfl
  rw [split_lines D (fun ws hw => (h.lines ws hw).2.2), ix_none (List.count_eq_zero.2 h10), lexAll_lines D h.lines, Nat.zero_add, List.nil_append]
  by_cases hc : cur = []
  · subst hc
    have hg := h.gnil rfl
    subst hg
    rw [if_pos rfl]
    have e : pcs [] ++ [] = ([] : List UInt8) := rfl
    rw [e, lexAll_none (fun line => ln_blank (X := headF 35 []) (fun x hx => by cases hx) line), lexAll]
    simp [tokL]
  · rw [if_neg hc, lexAll_line (ws := cur) (tail := g) h.apart hc h.blks (headF_id h35), lexAll, List.length_append]
theorem lexF_badw {D : List (List (List UInt8 × Tk))} {cur : List (List UInt8 × Tk)} {g bad : List UInt8} {e : Nat} (h : WdW D cur g) (hb : BadW bad e) (hl : (txtW D cur g ++ (bad ++ [10])).length ≤ 65536) :
    lexF (txtW D cur g ++ (bad ++ [10])) = ([], some (D.length + 1, (pcs cur).length + g.length + 1, e)) := by
  have hno := line_no h
  have hno2 : ∀ x ∈ pcs cur ++ (g ++ bad), x ≠ 10 ∧ x ≠ 35 := fun x hx => by
    rw [← List.append_assoc] at hx
    exact (List.mem_append.1 hx).elim (hno x) (hb.no x)
  unfold lexF
  rw [if_neg (by omega)]
  unfold txtW
  have h10 : (10 : UInt8) ∉ pcs cur ++ (g ++ bad) := fun hm => (hno2 _ hm).1 rfl
  have h35 : (35 : UInt8) ∉ pcs cur ++ (g ++ bad) := fun hm => (hno2 _ hm).2 rfl
  have e0 : (D.map pcs).flatMap (fun p => p ++ [10]) ++ (pcs cur ++ g) ++ (bad ++ [10]) = (D.map pcs).flatMap (fun p => p ++ [10]) ++ ((pcs cur ++ (g ++ bad)) ++ 10 :: []) := by simp only [List.append_assoc]
  obtain ⟨c, r, w1, w2, w3⟩ := hb.word
  have hlg := lexGo_bad (D.length + 1) cur h.apart h.blks h.gne w1 w2 w3 hb.ne [] ((pcs cur ++ (g ++ bad)).length + 1) (by have := pcs_len cur h.apart; rw [List.length_append]; omega)
  have hln : lexLn (D.length + 1) (headF 35 (pcs cur ++ (g ++ bad))) = lexGo (D.length + 1) (pcs cur ++ (g ++ bad)) ((pcs cur ++ (g ++ bad)).length + 1) 0 [] := by rw [headF_id h35]; rfl
  rw [e0, split_lines D (fun ws hw => (h.lines ws hw).2.2), splitC_ln h10, lexAll_lines D h.lines, Nat.zero_add, List.nil_append, lexAll, hln]
  have hlg' : (lexGo (D.length + 1) (pcs cur ++ (g ++ bad)) ((pcs cur ++ (g ++ bad)).length + 1) 0 []).2 = some (0 + (pcs cur).length + g.length + 1, e) := hlg
  generalize lexGo (D.length + 1) (pcs cur ++ (g ++ bad)) ((pcs cur ++ (g ++ bad)).length + 1) 0 [] = q at *
  obtain ⟨q1, q2⟩ := q
  dsimp only at hlg'
  subst hlg'
  dsimp only
  rw [Nat.zero_add]
/-- a word more -/
theorem WdW.word {D : List (List (List UInt8 × Tk))} {cur : List (List UInt8 × Tk)} {g : List UInt8} (h : WdW D cur g) {t : Tk} (ht : GTn t) : Apart (cur ++ [(g, t)]) ∧ NoW (cur ++ [(g, t)]) :=
  ⟨apart_snoc' h.apart h.blks h.gne ht.good, fun p hp => by
    rcases List.mem_append.1 hp with hp | hp
    · exact h.no p hp
    · rw [List.mem_singleton.1 hp]; exact ⟨h.gno, ht.no⟩⟩
theorem WdW.gap {D : List (List (List UInt8 × Tk))} {cur : List (List UInt8 × Tk)} {g : List UInt8} (h : WdW D cur g) {t : Tk} (ht : GTn t) (k : Nat) : WdW D (cur ++ [(g, t)]) (gapW k) := by
  obtain ⟨g1, g2, g3, g4⟩ := gapW_ok k
  obtain ⟨w1, w2⟩ := h.word ht
  exact ⟨h.lines, w1, w2, g1, g3, fun e => by simp at e, fun _ => g2⟩
theorem WdW.line {D : List (List (List UInt8 × Tk))} {cur : List (List UInt8 × Tk)} {g : List UInt8} (h : WdW D cur g) {t : Tk} (ht : GTn t) : WdW (D ++ [cur ++ [(g, t)]]) [] [] := by
  obtain ⟨w1, w2⟩ := h.word ht
  refine ⟨fun ws hw => ?_, trivial, fun p hp => (by cases hp), fun x hx => (by cases hx), fun x hx => (by cases hx), fun _ => rfl, fun h => absurd rfl h⟩
  rcases List.mem_append.1 hw with hw | hw
  · exact h.lines ws hw
  · rw [List.mem_singleton.1 hw]; exact ⟨by simp, w1, w2⟩
theorem txtW_word (D : List (List (List UInt8 × Tk))) (cur : List (List UInt8 × Tk)) (g : List UInt8) (t : Tk) (g2 : List UInt8) : txtW D (cur ++ [(g, t)]) g2 = txtW D cur g ++ t.text ++ g2 := by
  unfold txtW
  rw [pcs_snoc]
  simp only [List.append_assoc]
theorem txtW_line (D : List (List (List UInt8 × Tk))) (cur : List (List UInt8 × Tk)) (g : List UInt8) (t : Tk) : txtW (D ++ [cur ++ [(g, t)]]) [] [] = txtW D cur g ++ t.text ++ [10] := by
  unfold txtW
  rw [List.map_append, List.flatMap_append, List.map_cons, List.map_nil, List.flatMap_cons, List.flatMap_nil, pcs_snoc]
  simp [pcs]
end Go.Proofs.YtmicafpfkpnalaaDoor
