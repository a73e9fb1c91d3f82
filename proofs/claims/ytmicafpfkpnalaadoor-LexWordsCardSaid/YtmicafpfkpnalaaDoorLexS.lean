/- Words with other blanks, empty lines and notes between are read as the same words. Plain. -/
import Derived.Test.YtmicafpfkpnalaaDoorLexR
namespace Go.Proofs.YtmicafpfkpnalaaDoor
open Go Go.RowKit
def kn (t : Tk) : Nat × List UInt8 × Nat := (t.kind, t.text, t.num)
/-- a word without a line's end or a note's beginning in it -/
structure GTn (t : Tk) : Prop where
  good : GTk t
  no : ∀ x ∈ t.text, x ≠ 10 ∧ x ≠ 35
/-- words, and behind the last one of each line its end -/
def Sq : Bool → List Tk → Prop
  | b, [] => b = false
  | b, t :: r => (t.kind = 0 ∧ b = true ∧ t.text = [] ∧ t.num = 0 ∧ Sq false r) ∨ (GTn t ∧ Sq true r)
theorem sq_words {ws r : List Tk} (hw : ∀ t ∈ ws, GTn t) (b : Bool) (hr : Sq (b || !ws.isEmpty) r) : Sq b (ws ++ r) := by
  induction ws generalizing b with
  | nil => simpa using hr
  | cons t ws ih =>
    right
    refine ⟨hw t (List.mem_cons_self ..), ih (fun u hu => hw u (List.mem_cons_of_mem _ hu)) true ?_⟩
    simpa using hr
theorem sq_app {a c : List Tk} (b : Bool) (ha : Sq b a) (hc : Sq false c) : Sq b (a ++ c) := by
  induction a generalizing b with
  | nil =>
    have hb : b = false := ha
    rw [hb]; exact hc
  | cons t r ih =>
    rcases ha with ⟨h1, h2, h3, h4, h5⟩ | ⟨h1, h2⟩
    · exact .inl ⟨h1, h2, h3, h4, ih false h5⟩
    · exact .inr ⟨h1, ih true h2⟩
theorem wl_take_all (p : UInt8 → Bool) (l : List UInt8) : ∀ x ∈ l.take (wl p l), p x = true := by
  induction l with
  | nil => intro x hx; simp at hx
  | cons c r ih =>
    intro x hx
    cases hc : p c with
    | false => rw [wl_no _ hc] at hx; simp at hx
    | true =>
      rw [wl_yes _ hc, List.take_succ_cons] at hx
      rcases List.mem_cons.1 hx with rfl | hx
      · exact hc
      · exact ih x hx
theorem wl_drop_no (p : UInt8 → Bool) (l : List UInt8) {c : UInt8} {r : List UInt8} (h : l.drop (wl p l) = c :: r) : p c = false := by
  induction l with
  | nil => simp at h
  | cons x l ih =>
    cases hx : p x with
    | false => rw [wl_no _ hx, List.drop_zero] at h; injection h with h1 h2; rw [← h1]; exact hx
    | true => rw [wl_yes _ hx, List.drop_succ_cons] at h; exact ih h
theorem next_gtn {line : Nat} {l : List UInt8} {a a' : Nat} {t : Tk} (hl : ∀ x ∈ l, x ≠ 10 ∧ x ≠ 35) (h : nextF line l a = .tok t a') : GTn t := by
  unfold nextF at h
  generalize hA : a + wl blkF (l.drop a) = a1 at *
  have hd0 : l.drop a1 = (l.drop a).drop (wl blkF (l.drop a)) := by rw [List.drop_drop, hA]
  cases hd : l.drop a1 with
  | nil => rw [hd] at h; cases h
  | cons c r =>
    rw [hd] at h
    have hb : blkF c = false := wl_drop_no blkF (l.drop a) (by rw [← hd0]; exact hd)
    dsimp only [nextAt] at h
    by_cases hq : (rightF (kindF c) ((c :: r).take (wl (predF (kindF c)) (c :: r)))).1 = 0
    · have hpos := tok_pos hq
      rw [if_pos hq] at h
      have hall := wl_take_all (predF (kindF c)) (c :: r)
      have hmem : ∀ x ∈ c :: r, x ∈ l := fun x hx => List.mem_of_mem_drop (hd ▸ hx)
      generalize wl (predF (kindF c)) (c :: r) = m at *
      injection h with h1 h2
      subst h1
      obtain ⟨m, rfl⟩ : ∃ k, m = k + 1 := ⟨m - 1, by omega⟩
      have hk : kindF c ≠ 0 := by unfold kindF; split <;> (try split) <;> (try split) <;> decide
      refine ⟨⟨hk, ⟨c, r.take m, rfl, hb, rfl⟩, hall, ?_⟩, fun x hx => hl x (hmem x (List.mem_of_mem_take hx))⟩
      exact Prod.ext hq rfl
    · rw [if_neg hq] at h; cases h
theorem lexGo_gtn {line : Nat} {l : List UInt8} (hl : ∀ x ∈ l, x ≠ 10 ∧ x ≠ 35) (f a : Nat) : ∀ t ∈ (lexGo line l f a []).1, GTn t := by
  induction f generalizing a with
  | zero => intro t ht; cases ht
  | succ f ih =>
    intro t ht
    cases hq : nextF line l a with
    | done => rw [lexGo, hq] at ht; cases ht
    | wrong c e => rw [lexGo, hq] at ht; cases ht
    | tok u a' =>
      rw [lexGo_tok hq] at ht
      rcases List.mem_cons.1 ht with rfl | ht
      · exact next_gtn hl hq
      · exact ih a' t ht
theorem headF_no (p : List UInt8) : (35 : UInt8) ∉ headF 35 p := by
  unfold headF
  induction p with
  | nil => simp [splitC]
  | cons b r ih =>
    rw [splitC]
    split
    · simp
    · rename_i hb
      rw [List.headD_cons]
      intro hm
      rcases List.mem_cons.1 hm with h | h
      · exact hb h.symm
      · exact ih h
theorem splitC_nin (c : UInt8) (l : List UInt8) : ∀ x ∈ splitC c l, c ∉ x := by
  induction l with
  | nil => intro x hx; rw [splitC, List.mem_singleton] at hx; subst hx; simp
  | cons b r ih =>
    intro x hx
    rw [splitC] at hx
    have hne := splitC_ne c r
    split at hx
    · rcases List.mem_cons.1 hx with rfl | hx
      · simp
      · exact ih x hx
    · rename_i hb
      cases hsr : splitC c r with
      | nil => exact absurd hsr hne
      | cons y ys =>
        rw [hsr] at hx ih
        rw [List.headD_cons, List.tail_cons] at hx
        rcases List.mem_cons.1 hx with rfl | hx
        · intro hm
          rcases List.mem_cons.1 hm with h | h
          · exact hb h.symm
          · exact ih y (List.mem_cons_self ..) h
        · exact ih x (List.mem_cons_of_mem _ hx)
theorem headF_in (c : UInt8) (p : List UInt8) : ∀ b ∈ headF c p, b ∈ p := by
  unfold headF
  by_cases h0 : p.count c = 0
  · rw [ix_none h0]; exact fun b h => h
  · obtain ⟨m, h1, h2, h3, h4⟩ := ix_some (c := c) (l := p) (by omega)
    rw [h3, List.headD_cons]
    exact fun b h => List.mem_of_mem_take h
theorem lexAll_sq (P : List (List UInt8)) (hP : ∀ p ∈ P, (10 : UInt8) ∉ p) : ∀ (n : Nat) (out : List Tk), Sq false out → ∀ ts, lexAll n P out = (ts, none) → Sq false ts := by
  induction P with
  | nil =>
    intro n out ho ts h
    rw [lexAll] at h
    cases h
    exact ho
  | cons p ps ih =>
    intro n out ho ts h
    rw [lexAll] at h
    have hl : ∀ x ∈ headF 35 p, x ≠ 10 ∧ x ≠ 35 := fun x hx => ⟨fun e => hP p (List.mem_cons_self ..) (e ▸ headF_in 35 p x hx), fun e => headF_no p (e ▸ hx)⟩
    have hg := lexGo_gtn (line := n + 1) hl ((headF 35 p).length + 1) 0
    have hln : lexLn (n + 1) (headF 35 p) = lexGo (n + 1) (headF 35 p) ((headF 35 p).length + 1) 0 [] := rfl
    rw [hln] at h
    generalize lexGo (n + 1) (headF 35 p) ((headF 35 p).length + 1) 0 [] = q at *
    obtain ⟨us, w⟩ := q
    cases w with
    | some w => cases h
    | none =>
      dsimp only at h hg
      refine ih (fun p hp => hP p (List.mem_cons_of_mem _ hp)) (n + 1) _ ?_ ts h
      by_cases hu : us = []
      · rw [if_pos hu]; exact ho
      · rw [if_neg hu, List.append_assoc]
        refine sq_app false ho (sq_words hg false ?_)
        left
        refine ⟨rfl, ?_, rfl, rfl, rfl⟩
        cases us with
        | nil => exact absurd rfl hu
        | cons u us => rfl
theorem lexF_sq {l : List UInt8} {ts : List Tk} (h : lexF l = (ts, none)) : Sq false ts := by
  unfold lexF at h
  split at h
  · cases h
  · exact lexAll_sq _ (splitC_nin 10 l) 0 [] rfl ts h
def gapS (k : Nat) : List UInt8 := if k = 0 then [32] else if k = 1 then [9, 32, 9] else if k = 2 then [32, 32] else [13, 32]
def endS (k : Nat) : List UInt8 := if k = 0 then [10] else if k = 1 then [10, 10] else if k = 2 then [35, 32, 110, 111, 116, 101, 32, 61, 32, 36, 10] else [10, 35, 32, 36, 10, 32, 10]
def bldP (tg : List (Nat × Tk)) : List UInt8 := tg.flatMap fun p => gapS p.1 ++ (if p.2.kind = 0 then endS p.1 else p.2.text)
theorem gapS_ok (k : Nat) : Blks (gapS k) ∧ gapS k ≠ [] ∧ ∀ x ∈ gapS k, x ≠ 10 ∧ x ≠ 35 := by
  unfold gapS Blks
  split
  · decide
  · split
    · decide
    · split
      · decide
      · decide
theorem apart_snoc {cur : List (List UInt8 × Tk)} {g : List UInt8} {t : Tk} (hc : Apart cur) (hg : Blks g) (hn : g ≠ []) (ht : GTk t) : Apart (cur ++ [(g, t)]) := by
  induction cur with
  | nil => exact ⟨hg, ht, fun q hq => (by cases hq), trivial⟩
  | cons p r ih =>
    obtain ⟨h1, h2, h3, h4⟩ := hc
    refine ⟨h1, h2, fun q hq => ?_, ih h4⟩
    cases r with
    | nil =>
      have : q = (g, t) := by simpa using hq.symm
      rw [this]; exact hn
    | cons y ys => exact h3 q hq
theorem tokL_kn (line a : Nat) (ws : List (List UInt8 × Tk)) : (tokL line a ws).map kn = ws.map fun p => kn p.2 := by
  induction ws generalizing a with
  | nil => rfl
  | cons p r ih => obtain ⟨g, t⟩ := p; rw [tokL, List.map_cons, List.map_cons, ih]; rfl
theorem headF_cut {X y : List UInt8} (h : (35 : UInt8) ∉ X) : headF 35 (X ++ 35 :: y) = X := by
  unfold headF
  have : splitC 35 (X ++ 35 :: y) = X :: splitC 35 y := by
    induction X with
    | nil => rw [List.nil_append, splitC, if_pos rfl]
    | cons x r ih =>
      have hx : ¬ x = 35 := fun e => h (e ▸ List.mem_cons_self ..)
      rw [List.cons_append, splitC, if_neg hx, ih (fun hm => h (List.mem_cons_of_mem _ hm))]; rfl
  rw [this]; rfl
theorem headF_id {X : List UInt8} (h : (35 : UInt8) ∉ X) : headF 35 X = X := by
  unfold headF
  rw [ix_none (List.count_eq_zero.2 h)]; rfl
theorem splitC_ln {a b : List UInt8} (h : (10 : UInt8) ∉ a) : splitC 10 (a ++ 10 :: b) = a :: splitC 10 b := by
  induction a with
  | nil => rw [List.nil_append, splitC, if_pos rfl]
  | cons x r ih =>
    have hx : ¬ x = 10 := fun e => h (e ▸ List.mem_cons_self ..)
    rw [List.cons_append, splitC, if_neg hx, ih (fun hm => h (List.mem_cons_of_mem _ hm))]; rfl
theorem lexAll_none {n : Nat} {p : List UInt8} {ps : List (List UInt8)} {out : List Tk} (h : ∀ line, lexLn line (headF 35 p) = ([], none)) : lexAll n (p :: ps) out = lexAll (n + 1) ps out := by
  rw [lexAll, h]
  dsimp only
  rw [if_pos rfl]
theorem ln_blank {X : List UInt8} (h : Blks X) (line : Nat) : lexLn line X = ([], none) := lexLn_pcs line [] trivial h
theorem lexAll_line {n : Nat} {p : List UInt8} {ps : List (List UInt8)} {out : List Tk} {ws : List (List UInt8 × Tk)} {tail : List UInt8} (hw : Apart ws) (hn : ws ≠ []) (ht : Blks tail) (hp : headF 35 p = pcs ws ++ tail) :
    lexAll n (p :: ps) out = lexAll (n + 1) ps (out ++ tokL (n + 1) 0 ws ++ [⟨0, [], 0, n + 1, (pcs ws ++ tail).length + 1⟩]) := by
  rw [lexAll, hp, lexLn_pcs (n + 1) ws hw ht]
  dsimp only
  rw [if_neg (tokL_ne hn)]
theorem pcs_no {ws : List (List UInt8 × Tk)} (h : ∀ p ∈ ws, (∀ x ∈ p.1, x ≠ 10 ∧ x ≠ 35) ∧ ∀ x ∈ p.2.text, x ≠ 10 ∧ x ≠ 35) : ∀ x ∈ pcs ws, x ≠ 10 ∧ x ≠ 35 := by
  intro x hx
  obtain ⟨p, hp, hx⟩ := List.mem_flatMap.1 hx
  rcases List.mem_append.1 hx with hx | hx
  · exact (h p hp).1 x hx
  · exact (h p hp).2 x hx
theorem lex_again (tg : List (Nat × Tk)) : ∀ (cur : List (List UInt8 × Tk)) (n : Nat) (out : List Tk), Sq (!cur.isEmpty) (tg.map (·.2)) → Apart cur → (∀ p ∈ cur, (∀ x ∈ p.1, x ≠ 10 ∧ x ≠ 35) ∧ ∀ x ∈ p.2.text, x ≠ 10 ∧ x ≠ 35) →
    ∃ ts, lexAll n (splitC 10 (pcs cur ++ bldP tg)) out = (ts, none) ∧ ts.map kn = out.map kn ++ (cur.map fun p => kn p.2) ++ tg.map fun p => kn p.2 := by
  induction tg with
  | nil =>
    intro cur n out hs hc hn
    have hcur : cur = [] := by
      have : (!cur.isEmpty) = false := hs
      cases cur with
      | nil => rfl
      | cons p r => simp at this
    subst hcur
    refine ⟨out, ?_, by simp⟩
    have e : splitC 10 (pcs [] ++ bldP []) = [[]] := rfl
    rw [e, lexAll_none (fun line => ln_blank (X := headF 35 []) (fun x hx => by cases hx) line), lexAll]
  | cons p r ih =>
    intro cur n out hs hc hn
    obtain ⟨k, t⟩ := p
    obtain ⟨hg1, hg2, hg3⟩ := gapS_ok k
    rcases hs with ⟨h1, h2, h3, h4, h5⟩ | ⟨h1, h2⟩
    · have hcn : cur ≠ [] := by intro e; rw [e] at h2; simp at h2
      have hX := pcs_no hn
      have hX2 : ∀ x ∈ pcs cur ++ gapS k, x ≠ 10 ∧ x ≠ 35 := fun x hx => (List.mem_append.1 hx).elim (hX x) (hg3 x)
      have h10 : (10 : UInt8) ∉ pcs cur ++ gapS k := fun h => (hX2 _ h).1 rfl
      have h35 : (35 : UInt8) ∉ pcs cur ++ gapS k := fun h => (hX2 _ h).2 rfl
      have hkn : kn t = (0, [], 0) := by unfold kn; have h1' : t.kind = 0 := h1; rw [h1', h3, h4]
      have fin : ∀ (m : Nat) (u : Tk), kn u = (0, [], 0) → ∃ ts, lexAll m (splitC 10 (bldP r)) (out ++ tokL (n + 1) 0 cur ++ [u]) = (ts, none) ∧ ts.map kn = out.map kn ++ (cur.map fun p => kn p.2) ++ ((k, t) :: r).map fun p => kn p.2 := by
        intro m u hu
        obtain ⟨ts, i1, i2⟩ := ih [] m (out ++ tokL (n + 1) 0 cur ++ [u]) h5 trivial (fun p hp => by cases hp)
        refine ⟨ts, i1, ?_⟩
        rw [i2, List.map_append, List.map_append, tokL_kn, List.map_cons]
        simp [hu, hkn]
      have e0 : pcs cur ++ bldP ((k, t) :: r) = (pcs cur ++ gapS k) ++ (endS k ++ bldP r) := by
        have h1' : t.kind = 0 := h1
        unfold bldP
        rw [List.flatMap_cons, if_pos h1']
        simp only [List.append_assoc]
      rw [e0]
      unfold endS
      by_cases k0 : k = 0
      · rw [if_pos k0]
        have e1 : (pcs cur ++ gapS k) ++ ([10] ++ bldP r) = (pcs cur ++ gapS k) ++ 10 :: bldP r := rfl
        rw [e1, splitC_ln h10, lexAll_line hc hcn hg1 (headF_id h35)]
        exact fin _ _ rfl
      rw [if_neg k0]
      by_cases k1 : k = 1
      · rw [if_pos k1]
        have e1 : (pcs cur ++ gapS k) ++ ([10, 10] ++ bldP r) = (pcs cur ++ gapS k) ++ 10 :: ([] ++ 10 :: bldP r) := rfl
        rw [e1, splitC_ln h10, splitC_ln (by simp), lexAll_line hc hcn hg1 (headF_id h35), lexAll_none (fun line => ln_blank (X := headF 35 []) (fun x hx => by cases hx) line)]
        exact fin _ _ rfl
      rw [if_neg k1]
      by_cases k2 : k = 2
      · rw [if_pos k2]
        have e1 : (pcs cur ++ gapS k) ++ ([35, 32, 110, 111, 116, 101, 32, 61, 32, 36, 10] ++ bldP r) = ((pcs cur ++ gapS k) ++ 35 :: [32, 110, 111, 116, 101, 32, 61, 32, 36]) ++ 10 :: bldP r := by simp
        have h10' : (10 : UInt8) ∉ (pcs cur ++ gapS k) ++ 35 :: [32, 110, 111, 116, 101, 32, 61, 32, 36] := fun h => (List.mem_append.1 h).elim h10 (by decide)
        rw [e1, splitC_ln h10', lexAll_line hc hcn hg1 (headF_cut h35)]
        exact fin _ _ rfl
      · rw [if_neg k2]
        have e1 : (pcs cur ++ gapS k) ++ ([10, 35, 32, 36, 10, 32, 10] ++ bldP r) = (pcs cur ++ gapS k) ++ 10 :: ([35, 32, 36] ++ 10 :: ([32] ++ 10 :: bldP r)) := rfl
        rw [e1, splitC_ln h10, splitC_ln (by decide), splitC_ln (by decide), lexAll_line hc hcn hg1 (headF_id h35), lexAll_none (fun line => ln_blank (X := headF 35 [35, 32, 36]) (fun x hx => by cases hx) line),
          lexAll_none (fun line => ln_blank (X := headF 35 [32]) (fun x hx => by have : headF 35 [32] = [32] := by decide
                                                                                 rw [this] at hx; rw [List.mem_singleton.1 hx]; decide) line)]
        exact fin _ _ rfl
    · have hk0 : ¬ t.kind = 0 := h1.good.kind
      have e0 : pcs cur ++ bldP ((k, t) :: r) = pcs (cur ++ [(gapS k, t)]) ++ bldP r := by
        unfold bldP pcs
        rw [List.flatMap_cons, if_neg hk0, List.flatMap_append, List.flatMap_cons, List.flatMap_nil]
        simp only [List.append_assoc, List.append_nil]
      rw [e0]
      obtain ⟨ts, i1, i2⟩ := ih (cur ++ [(gapS k, t)]) n out (by
        have : (!(cur ++ [(gapS k, t)]).isEmpty) = true := by cases cur <;> rfl
        rw [this]; exact h2) (apart_snoc hc hg1 hg2 h1.good) (fun p hp => by
          rcases List.mem_append.1 hp with hp | hp
          · exact hn p hp
          · rw [List.mem_singleton.1 hp]; exact ⟨hg3, h1.no⟩)
      refine ⟨ts, i1, ?_⟩
      rw [i2, List.map_append, List.map_cons, List.map_cons, List.map_nil]
      simp
theorem lexF_again {l : List UInt8} {ts : List Tk} (h : lexF l = (ts, none)) (tg : List (Nat × Tk)) (htg : tg.map (·.2) = ts) (hlen : (bldP tg).length ≤ 65536) : ∃ us, lexF (bldP tg) = (us, none) ∧ us.map kn = ts.map kn := by
  have hs := lexF_sq h
  rw [← htg] at hs
  obtain ⟨us, h1, h2⟩ := lex_again tg [] 0 [] hs trivial (fun p hp => by cases hp)
  refine ⟨us, ?_, ?_⟩
  · unfold lexF
    rw [if_neg (by omega)]
    exact h1
  · rw [h2, ← htg, List.map_map]; rfl
end Go.Proofs.YtmicafpfkpnalaaDoor
