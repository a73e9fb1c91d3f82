/- A text put together out of words and blanks: what is read of it. Plain. -/
import Derived.Test.YtmicafpfkpnalaaDoorLexQ
namespace Go.Proofs.YtmicafpfkpnalaaDoor
open Go Go.RowKit
/-- a word that is one -/
structure GTk (t : Tk) : Prop where
  kind : t.kind ≠ 0
  word : ∃ c r, t.text = c :: r ∧ blkF c = false ∧ kindF c = t.kind
  pred : ∀ x ∈ t.text, predF t.kind x = true
  right : rightF t.kind t.text = (0, t.num)
def Blks (g : List UInt8) : Prop := ∀ x ∈ g, blkF x = true
theorem blk_pred : ∀ c : UInt8, ∀ x : UInt8, blkF x = true → predF (kindF c) x = false := by
  intro c x hx
  have hk : kindF c = 1 ∨ kindF c = 2 ∨ kindF c = 3 ∨ kindF c = 4 := by
    unfold kindF
    split
    · left; rfl
    · split
      · right; left; rfl
      · split
        · right; right; left; rfl
        · right; right; right; rfl
  have hx3 : x = 32 ∨ x = 9 ∨ x = 13 := by
    unfold blkF at hx
    simp only [Bool.or_eq_true, decide_eq_true_eq] at hx
    rcases hx with (h | h) | h
    · exact .inl h
    · exact .inr (.inl h)
    · exact .inr (.inr h)
  rcases hk with h | h | h | h <;> rw [h] <;> rcases hx3 with rfl | rfl | rfl <;> decide
/-- words, each behind its blanks -/
def pcs (ws : List (List UInt8 × Tk)) : List UInt8 := ws.flatMap fun p => p.1 ++ p.2.text
def tokL (line : Nat) : Nat → List (List UInt8 × Tk) → List Tk
  | _, [] => []
  | a, (g, t) :: r => ⟨t.kind, t.text, t.num, line, a + g.length + 1⟩ :: tokL line (a + g.length + t.text.length) r
/-- words that stand apart -/
def Apart : List (List UInt8 × Tk) → Prop
  | [] => True
  | p :: r => Blks p.1 ∧ GTk p.2 ∧ (∀ q ∈ r.head?, q.1 ≠ []) ∧ Apart r
theorem wl_gap {p : UInt8 → Bool} {w rest : List UInt8} (hw : ∀ x ∈ w, p x = true) (hr : ∀ x ∈ rest.head?, p x = false) : wl p (w ++ rest) = w.length := by
  cases rest with
  | nil => rw [List.append_nil]; exact wl_all hw
  | cons x r => exact wl_stop hw (hr x rfl)
theorem next_gap (line : Nat) {pre g rest : List UInt8} {t : Tk} (hg : Blks g) (ht : GTk t) (hr : ∀ x ∈ rest.head?, blkF x = true) :
    nextF line (pre ++ (g ++ t.text ++ rest)) pre.length = .tok ⟨t.kind, t.text, t.num, line, pre.length + g.length + 1⟩ (pre.length + g.length + t.text.length) := by
  obtain ⟨c, r, hc, hb, hk⟩ := ht.word
  have e1 : (pre ++ (g ++ t.text ++ rest)).drop pre.length = g ++ (t.text ++ rest) := by rw [List.drop_left, List.append_assoc]
  have e2 : wl blkF (g ++ (t.text ++ rest)) = g.length := by
    rw [hc, List.cons_append]
    exact wl_stop hg hb
  have e3 : (pre ++ (g ++ t.text ++ rest)).drop (pre.length + g.length) = t.text ++ rest := by
    rw [← List.drop_drop, e1, List.drop_left]
  have e4 : wl (predF (kindF c)) (t.text ++ rest) = t.text.length := by
    refine wl_gap (fun x hx => by rw [hk]; exact ht.pred x hx) (fun x hx => blk_pred c x (hr x hx))
  unfold nextF
  rw [e1, e2, e3]
  have e5 : t.text ++ rest = c :: (r ++ rest) := by rw [hc]; rfl
  rw [e5]
  show nextAt line (pre.length + g.length) (c :: (r ++ rest)) c = _
  have hn : nextAt line (pre.length + g.length) (c :: (r ++ rest)) c = (if (rightF (kindF c) ((c :: (r ++ rest)).take (wl (predF (kindF c)) (c :: (r ++ rest))))).1 = 0 then Nx.tok ⟨kindF c, (c :: (r ++ rest)).take (wl (predF (kindF c)) (c :: (r ++ rest))), (rightF (kindF c) ((c :: (r ++ rest)).take (wl (predF (kindF c)) (c :: (r ++ rest))))).2, line, pre.length + g.length + 1⟩ (pre.length + g.length + wl (predF (kindF c)) (c :: (r ++ rest))) else .wrong (pre.length + g.length + 1) (rightF (kindF c) ((c :: (r ++ rest)).take (wl (predF (kindF c)) (c :: (r ++ rest))))).1) := rfl
  rw [hn, ← e5, e4, List.take_left, hk, ht.right]
  rw [if_pos rfl]
theorem next_tail (line : Nat) {pre tail : List UInt8} (ht : Blks tail) : nextF line (pre ++ tail) pre.length = .done := by
  unfold nextF
  have e1 : wl blkF ((pre ++ tail).drop pre.length) = tail.length := by rw [List.drop_left]; exact wl_all ht
  rw [e1, ← List.length_append, List.drop_length]
theorem pcs_cons (p : List UInt8 × Tk) (r : List (List UInt8 × Tk)) : pcs (p :: r) = p.1 ++ p.2.text ++ pcs r := by simp [pcs]
theorem apart_head {p : List UInt8 × Tk} {r : List (List UInt8 × Tk)} {tail : List UInt8} (h : Apart (p :: r)) (ht : Blks tail) : ∀ x ∈ (pcs r ++ tail).head?, blkF x = true := by
  intro x hx
  obtain ⟨h1, h2, h3, h4⟩ := h
  cases r with
  | nil =>
    have hx : x ∈ tail.head? := hx
    exact ht x (List.mem_of_mem_head? hx)
  | cons q r =>
    have hq := h3 q rfl
    obtain ⟨k1, k2, k3, k4⟩ := h4
    rw [pcs_cons] at hx
    cases hg : q.1 with
    | nil => exact absurd hg hq
    | cons b g =>
      rw [hg] at hx k1
      have : x = b := by simpa using hx.symm
      rw [this]
      exact k1 b (List.mem_cons_self ..)
theorem lexGo_pcs (line : Nat) (ws : List (List UInt8 × Tk)) (hw : Apart ws) {tail : List UInt8} (ht : Blks tail) : ∀ (pre : List UInt8) (f : Nat), ws.length < f → lexGo line (pre ++ (pcs ws ++ tail)) f pre.length [] = (tokL line pre.length ws, none) := by
  induction ws with
  | nil =>
    intro pre f hf
    obtain ⟨f, rfl⟩ : ∃ g, f = g + 1 := ⟨f - 1, by simp at hf; omega⟩
    have : pcs [] ++ tail = tail := rfl
    rw [this, lexGo, next_tail line ht]; rfl
  | cons p r ih =>
    intro pre f hf
    obtain ⟨f, rfl⟩ : ∃ g, f = g + 1 := ⟨f - 1, by simp at hf; omega⟩
    obtain ⟨g, t⟩ := p
    have hh := apart_head hw ht
    obtain ⟨h1, h2, h3, h4⟩ := hw
    have e : pre ++ (pcs ((g, t) :: r) ++ tail) = pre ++ (g ++ t.text ++ (pcs r ++ tail)) := by rw [pcs_cons]; simp only [List.append_assoc]
    have hn := next_gap line (pre := pre) h1 h2 hh
    rw [e, lexGo_tok hn]
    have e2 : pre ++ (g ++ t.text ++ (pcs r ++ tail)) = (pre ++ g ++ t.text) ++ (pcs r ++ tail) := by simp only [List.append_assoc]
    have e3 : pre.length + g.length + t.text.length = (pre ++ g ++ t.text).length := by simp only [List.length_append]
    have hih := ih h4 (pre ++ g ++ t.text) f (by simp at hf; omega)
    dsimp only at hih ⊢
    rw [e2, e3, hih]
    show _ = (tokL line pre.length ((g, t) :: r), none)
    rw [tokL, e3]
theorem gtk_pos {t : Tk} (h : GTk t) : 0 < t.text.length := by
  obtain ⟨c, r, hc, -⟩ := h.word
  rw [hc]; simp
theorem pcs_len (ws : List (List UInt8 × Tk)) (hw : Apart ws) : ws.length ≤ (pcs ws).length := by
  induction ws with
  | nil => simp
  | cons p r ih =>
    obtain ⟨h1, h2, h3, h4⟩ := hw
    have := ih h4
    have := gtk_pos h2
    rw [pcs_cons, List.length_cons, List.length_append, List.length_append]
    omega
theorem lexLn_pcs (line : Nat) (ws : List (List UInt8 × Tk)) (hw : Apart ws) {tail : List UInt8} (ht : Blks tail) : lexLn line (pcs ws ++ tail) = (tokL line 0 ws, none) := by
  have h := lexGo_pcs line ws hw ht [] ((pcs ws ++ tail).length + 1) (by have := pcs_len ws hw; rw [List.length_append]; omega)
  exact h
theorem tokL_ne {line a : Nat} {ws : List (List UInt8 × Tk)} (h : ws ≠ []) : tokL line a ws ≠ [] := by
  cases ws with
  | nil => exact absurd rfl h
  | cons p r => obtain ⟨g, t⟩ := p; rw [tokL]; simp
/-- a word that can't stand, behind words that can -/
theorem lexGo_bad (line : Nat) (ws : List (List UInt8 × Tk)) (hw : Apart ws) {g bad : List UInt8} {c : UInt8} {r : List UInt8} (hg : Blks g) (hgn : ws ≠ [] → g ≠ []) (hb : bad = c :: r) (hc : blkF c = false) {e : Nat} (he : (rightF (kindF c) (bad.take (wl (predF (kindF c)) bad))).1 = e) (h0 : e ≠ 0) :
    ∀ (pre : List UInt8) (f : Nat), ws.length < f → (lexGo line (pre ++ (pcs ws ++ (g ++ bad))) f pre.length []).2 = some (pre.length + (pcs ws).length + g.length + 1, e) := by
  induction ws with
  | nil =>
    intro pre f hf
    obtain ⟨f, rfl⟩ : ∃ g, f = g + 1 := ⟨f - 1, by simp at hf; omega⟩
    have e0 : pcs [] ++ (g ++ bad) = g ++ bad := rfl
    have e1 : (pre ++ (g ++ bad)).drop pre.length = g ++ bad := List.drop_left
    have e2 : wl blkF (g ++ bad) = g.length := by rw [hb]; exact wl_stop hg hc
    have e3 : (pre ++ (g ++ bad)).drop (pre.length + g.length) = bad := by rw [← List.drop_drop, e1, List.drop_left]
    have hn : nextF line (pre ++ (g ++ bad)) pre.length = .wrong (pre.length + g.length + 1) e := by
      unfold nextF
      rw [e1, e2, e3]
      subst hb
      show nextAt line (pre.length + g.length) (c :: r) c = _
      have hn : nextAt line (pre.length + g.length) (c :: r) c = (if (rightF (kindF c) ((c :: r).take (wl (predF (kindF c)) (c :: r)))).1 = 0 then Nx.tok ⟨kindF c, (c :: r).take (wl (predF (kindF c)) (c :: r)), (rightF (kindF c) ((c :: r).take (wl (predF (kindF c)) (c :: r)))).2, line, pre.length + g.length + 1⟩ (pre.length + g.length + wl (predF (kindF c)) (c :: r)) else .wrong (pre.length + g.length + 1) (rightF (kindF c) ((c :: r).take (wl (predF (kindF c)) (c :: r)))).1) := rfl
      rw [hn, he, if_neg h0]
    rw [e0, lexGo, hn]
    rfl
  | cons p q ih =>
    intro pre f hf
    obtain ⟨f, rfl⟩ : ∃ g, f = g + 1 := ⟨f - 1, by simp at hf; omega⟩
    obtain ⟨gp, t⟩ := p
    have hgne := hgn (by simp)
    have hh : ∀ x ∈ (pcs q ++ (g ++ bad)).head?, blkF x = true := by
      obtain ⟨b, g', hgb⟩ : ∃ b g', g = b :: g' := by
        cases g with
        | nil => exact absurd rfl hgne
        | cons b g' => exact ⟨b, g', rfl⟩
      have h1 := apart_head (tail := g) hw hg
      intro x hx
      apply h1 x
      cases hq : pcs q with
      | nil => rw [hq, hgb] at hx; rw [hgb]; exact hx
      | cons y ys => rw [hq] at hx; exact hx
    obtain ⟨h1, h2, h3, h4⟩ := hw
    have e1 : pre ++ (pcs ((gp, t) :: q) ++ (g ++ bad)) = pre ++ (gp ++ t.text ++ (pcs q ++ (g ++ bad))) := by rw [pcs_cons]; simp only [List.append_assoc]
    have hn := next_gap line (pre := pre) h1 h2 hh
    rw [e1, lexGo_tok hn]
    have e2 : pre ++ (gp ++ t.text ++ (pcs q ++ (g ++ bad))) = (pre ++ gp ++ t.text) ++ (pcs q ++ (g ++ bad)) := by simp only [List.append_assoc]
    have e3 : pre.length + gp.length + t.text.length = (pre ++ gp ++ t.text).length := by simp only [List.length_append]
    have hih := ih h4 (fun _ => hgne) (pre ++ gp ++ t.text) f (by simp at hf; omega)
    dsimp only at hih ⊢
    rw [e2, e3, hih, pcs_cons]
    dsimp only
    simp only [List.length_append]
    congr 2
    omega
end Go.Proofs.YtmicafpfkpnalaaDoor
