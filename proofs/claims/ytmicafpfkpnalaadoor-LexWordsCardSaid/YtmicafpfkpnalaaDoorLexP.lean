/- Words stand where they are told, one behind the other; or it is told where it isn't right. Plain. -/
import Derived.Test.YtmicafpfkpnalaaDoorLex3
namespace Go.Proofs.YtmicafpfkpnalaaDoor
open Go Go.RowKit
def okTk (P : List (List UInt8)) (p t : Tk) : Prop := 1 ≤ t.line ∧ t.line ≤ P.length ∧ p.line ≤ t.line ∧ (t.line = p.line → p.col + p.text.length ≤ t.col) ∧ t.col + t.text.length ≤ (P.getD (t.line - 1) []).length + 1 ∧
  (t.kind ≠ 0 → t.text ≠ [] ∧ 1 ≤ t.col ∧ t.col - 1 + t.text.length ≤ (P.getD (t.line - 1) []).length ∧ ((P.getD (t.line - 1) []).drop (t.col - 1)).take t.text.length = t.text)
def Chn2 (P : List (List UInt8)) : Tk → List Tk → Prop
  | _, [] => True
  | p, t :: r => okTk P p t ∧ Chn2 P t r
theorem chn_app {P : List (List UInt8)} {p : Tk} {a b : List Tk} (h1 : Chn2 P p a) (h2 : Chn2 P (a.getLastD p) b) : Chn2 P p (a ++ b) := by
  induction a generalizing p with
  | nil => exact h2
  | cons t r ih =>
    refine ⟨h1.1, ih h1.2 ?_⟩
    cases r with
    | nil => exact h2
    | cons u s => exact h2
theorem lexGo_app (line : Nat) (l : List UInt8) (f a : Nat) (out : List Tk) : lexGo line l f a out = (out ++ (lexGo line l f a []).1, (lexGo line l f a []).2) := by
  induction f generalizing a out with
  | zero => simp [lexGo]
  | succ f ih =>
    rw [lexGo, lexGo]
    cases nextF line l a with
    | done => simp
    | wrong c e => simp
    | tok t a' =>
      dsimp only
      rw [ih a' (out ++ [t]), ih a' ([] ++ [t])]
      simp
theorem lexGo_tok {line : Nat} {l : List UInt8} {f a a' : Nat} {t : Tk} (h : nextF line l a = .tok t a') : lexGo line l (f + 1) a [] = (t :: (lexGo line l f a' []).1, (lexGo line l f a' []).2) := by
  rw [lexGo, h]
  dsimp only
  rw [lexGo_app]; rfl
theorem tok_pos {c : UInt8} {r : List UInt8} (hq : (rightF (kindF c) ((c :: r).take (wl (predF (kindF c)) (c :: r)))).1 = 0) : 0 < wl (predF (kindF c)) (c :: r) := by
  by_cases h1 : letF c = true
  · have hk : kindF c = 1 := by unfold kindF; rw [if_pos h1]
    rw [hk]
    exact wl_pos (p := witF) (by simp [witF, h1])
  · by_cases h2 : digF c = true
    · have hk : kindF c = 2 := by unfold kindF; rw [if_neg h1, if_pos h2]
      rw [hk]
      exact wl_pos (p := alnF) (by simp [alnF, h2])
    · by_cases h3 : c = 47
      · have hk : kindF c = 3 := by unfold kindF; rw [if_neg h1, if_neg h2, if_pos h3]
        rw [hk]
        exact wl_pos (p := prnF) (by rw [h3]; decide)
      · have hk : kindF c = 4 := by unfold kindF; rw [if_neg h1, if_neg h2, if_neg h3]
        rw [hk] at hq ⊢
        rcases Nat.eq_zero_or_pos (wl (predF 4) (c :: r)) with h0 | h0
        · rw [h0, List.take_zero] at hq
          exact absurd hq (by decide)
        · exact h0
/-- what a word more says -/
theorem next_is {line : Nat} {l : List UInt8} {a a' : Nat} {t : Tk} (h : nextF line l a = .tok t a') :
    t.line = line ∧ t.kind ≠ 0 ∧ a + 1 ≤ t.col ∧ t.text ≠ [] ∧ t.col - 1 + t.text.length ≤ l.length ∧ (l.drop (t.col - 1)).take t.text.length = t.text ∧ a' + 1 = t.col + t.text.length := by
  unfold nextF at h
  have hb := wl_le blkF (l.drop a)
  generalize hA : a + wl blkF (l.drop a) = a1 at *
  cases hd : l.drop a1 with
  | nil => rw [hd] at h; cases h
  | cons c r =>
    rw [hd] at h
    have hl : (l.drop a1).length = r.length + 1 := by rw [hd]; rfl
    rw [List.length_drop] at hl
    dsimp only [nextAt] at h
    have hw := wl_le (predF (kindF c)) (c :: r)
    rw [List.length_cons] at hw
    by_cases hq : (rightF (kindF c) ((c :: r).take (wl (predF (kindF c)) (c :: r)))).1 = 0
    · have hpos := tok_pos hq
      rw [if_pos hq] at h
      generalize wl (predF (kindF c)) (c :: r) = m at *
      injection h with h1 h2
      have hk : kindF c ≠ 0 := by unfold kindF; split <;> (try split) <;> (try split) <;> decide
      have hlen : ((c :: r).take m).length = m := by rw [List.length_take, List.length_cons]; omega
      subst h1
      dsimp only
      refine ⟨rfl, hk, by omega, ?_, by rw [hlen]; omega, ?_, by rw [hlen]; omega⟩
      · intro e
        rw [e] at hlen
        have hm : 0 = m := hlen
        omega
      · rw [Nat.add_sub_cancel, hlen, hd]
    · rw [if_neg hq] at h; cases h
theorem next_wrong {line : Nat} {l : List UInt8} {a c e : Nat} (h : nextF line l a = .wrong c e) : 1 ≤ c ∧ c ≤ l.length ∧ (e = 204 ∨ e = 36 ∨ e = 202) := by
  unfold nextF at h
  generalize hA : a + wl blkF (l.drop a) = a1 at *
  cases hd : l.drop a1 with
  | nil => rw [hd] at h; cases h
  | cons x r =>
    rw [hd] at h
    have hl : (l.drop a1).length = r.length + 1 := by rw [hd]; rfl
    rw [List.length_drop] at hl
    dsimp only [nextAt] at h
    generalize wl (predF (kindF x)) (x :: r) = m at *
    by_cases hq : (rightF (kindF x) ((x :: r).take m)).1 = 0
    · rw [if_pos hq] at h; cases h
    · rw [if_neg hq] at h
      injection h with h1 h2
      refine ⟨by omega, by omega, ?_⟩
      rw [← h2]
      unfold rightF at hq ⊢
      split at hq
      · rw [if_pos (by assumption)]
        split at hq
        · simp_all
        · exact absurd rfl hq
      · rw [if_neg (by assumption)]
        split at hq
        · rw [if_pos (by assumption)]
          split at hq
          · rw [if_pos (by assumption)]; simp
          · exact absurd rfl hq
        · rw [if_neg (by assumption)]
          split at hq
          · rw [if_pos (by assumption)]
            split at hq
            · exact absurd rfl hq
            · rw [if_neg (by assumption)]; simp
          · exact absurd rfl hq
/-- a line's words stand one behind the other -/
theorem lexGo_chn {P : List (List UInt8)} {k : Nat} (hk : k < P.length) (l : List UInt8) (hl : ∀ c n, c + n ≤ l.length → c + n ≤ (P.getD k []).length ∧ ((P.getD k []).drop c).take n = (l.drop c).take n) :
    ∀ (f a : Nat) (p : Tk), (p.line ≤ k ∨ (p.line = k + 1 ∧ p.col + p.text.length ≤ a + 1)) → (a ≤ l.length) →
      Chn2 P p (lexGo (k + 1) l f a []).1 ∧
      ((lexGo (k + 1) l f a []).1 ≠ [] → ((lexGo (k + 1) l f a []).1.getLastD p).line = k + 1 ∧ ((lexGo (k + 1) l f a []).1.getLastD p).col + ((lexGo (k + 1) l f a []).1.getLastD p).text.length ≤ l.length + 1) := by
  intro f
  induction f with
  | zero => intro a p _ _; exact ⟨trivial, fun h => absurd rfl h⟩
  | succ f ih =>
    intro a p hp ha
    cases hq : nextF (k + 1) l a with
    | done => rw [lexGo, hq]; exact ⟨trivial, fun h => absurd rfl h⟩
    | wrong c e => rw [lexGo, hq]; exact ⟨trivial, fun h => absurd rfl h⟩
    | tok t a' =>
      rw [lexGo_tok hq]
      dsimp only
      obtain ⟨i1, i2, i3, i4, i5, i6, i7⟩ := next_is hq
      obtain ⟨t1, t2⟩ := next_tok hq
      obtain ⟨j1, j2⟩ := ih a' t (.inr ⟨i1, by omega⟩) t2
      have hlp := hl (t.col - 1) t.text.length i5
      have e : t.line - 1 = k := by omega
      refine ⟨⟨⟨by omega, by omega, ?_, ?_, (by rw [e]; have := hlp.1; omega), fun _ => ⟨i4, by omega, ?_, ?_⟩⟩, j1⟩, fun _ => ?_⟩
      · rcases hp with hp | hp <;> omega
      · intro h
        rcases hp with hp | hp <;> omega
      · rw [e]; exact hlp.1
      · rw [e, hlp.2, i6]
      · rw [List.getLastD_cons]
        by_cases hn : (lexGo (k + 1) l f a' []).1 = []
        · rw [hn, List.getLastD_nil]
          exact ⟨i1, by omega⟩
        · exact j2 hn
theorem lexGo_wrong {line : Nat} {l : List UInt8} (f a : Nat) {c e : Nat} (h : (lexGo line l f a []).2 = some (c, e)) : 1 ≤ c ∧ c ≤ l.length ∧ (e = 204 ∨ e = 36 ∨ e = 202) := by
  induction f generalizing a with
  | zero => cases h
  | succ f ih =>
    cases hq : nextF line l a with
    | done => rw [lexGo, hq] at h; cases h
    | wrong c' e' =>
      rw [lexGo, hq] at h
      simp only [Option.some.injEq, Prod.mk.injEq] at h
      rw [← h.1, ← h.2]
      exact next_wrong hq
    | tok t a' =>
      rw [lexGo_tok hq] at h
      exact ih a' h
theorem headF_sub (c : UInt8) (p : List UInt8) (a n : Nat) (h : a + n ≤ (headF c p).length) : a + n ≤ p.length ∧ (p.drop a).take n = ((headF c p).drop a).take n := by
  have hle := headF_len c p
  refine ⟨by omega, ?_⟩
  unfold headF at h ⊢
  by_cases h0 : p.count c = 0
  · rw [ix_none h0]; rfl
  · obtain ⟨m, h1, h2, h3, h4⟩ := ix_some (c := c) (l := p) (by omega)
    rw [h3, List.headD_cons] at h ⊢
    rw [List.length_take] at h
    rw [List.drop_take, List.take_take, Nat.min_eq_left (by omega)]
/-- what is said of a text's words -/
structure LexOk (P : List (List UInt8)) (r : List Tk × Option (Nat × Nat × Nat)) : Prop where
  none : ∀ x, r.2 = some x → r.1 = []
  wrong : ∀ a b c, r.2 = some (a, b, c) → 1 ≤ a ∧ a ≤ P.length ∧ 1 ≤ b ∧ b ≤ (P.getD (a - 1) []).length ∧ (c = 204 ∨ c = 36 ∨ c = 202)
  chn : Chn2 P ⟨0, [], 0, 0, 0⟩ r.1
  last : r.1 = [] ∨ (r.1.getLastD ⟨0, [], 0, 0, 0⟩).kind = 0
theorem lexAll_ok (P : List (List UInt8)) : ∀ (n k : Nat) (out : List Tk), k + n = P.length → Chn2 P ⟨0, [], 0, 0, 0⟩ out → (out = [] ∨ (out.getLastD ⟨0, [], 0, 0, 0⟩).kind = 0) → (out.getLastD ⟨0, [], 0, 0, 0⟩).line ≤ k → LexOk P (lexAll k (P.drop k) out) := by
  intro n
  induction n with
  | zero =>
    intro k out hk hc hl _
    rw [List.drop_eq_nil_of_le (by omega), lexAll]
    exact ⟨fun _ h => (by cases h), fun _ _ _ h => (by cases h), hc, hl⟩
  | succ n ih =>
    intro k out hk hc hl hll
    have hlt : k < P.length := by omega
    have hg : P.getD k [] = P[k] := by rw [List.getD_eq_getElem?_getD, List.getElem?_eq_getElem hlt]; rfl
    rw [List.drop_eq_getElem_cons hlt, lexAll]
    have hsub := fun a m (h : a + m ≤ (headF 35 P[k]).length) => headF_sub 35 P[k] a m h
    have hchn := lexGo_chn hlt (headF 35 P[k]) (fun c n h => by rw [hg]; exact hsub c n h) ((headF 35 P[k]).length + 1) 0 (out.getLastD ⟨0, [], 0, 0, 0⟩) (.inl hll) (Nat.zero_le _)
    have hwr := fun c e => lexGo_wrong (line := k + 1) (l := headF 35 P[k]) ((headF 35 P[k]).length + 1) 0 (c := c) (e := e)
    have hln : lexLn (k + 1) (headF 35 P[k]) = lexGo (k + 1) (headF 35 P[k]) ((headF 35 P[k]).length + 1) 0 [] := rfl
    rw [hln]
    have hhl := headF_len 35 P[k]
    generalize lexGo (k + 1) (headF 35 P[k]) ((headF 35 P[k]).length + 1) 0 [] = q at *
    obtain ⟨ts, w⟩ := q
    dsimp only at hchn hwr ⊢
    cases w with
    | some w =>
      obtain ⟨c, e⟩ := w
      obtain ⟨w1, w2, w3⟩ := hwr c e rfl
      refine ⟨fun _ _ => rfl, fun x y z h => ?_, trivial, .inl rfl⟩
      simp only [Option.some.injEq, Prod.mk.injEq] at h
      obtain ⟨rfl, rfl, rfl⟩ := h
      rw [Nat.add_sub_cancel, hg]
      exact ⟨by omega, by omega, w1, by omega, w3⟩
    | none =>
      dsimp only
      by_cases hts : ts = []
      · rw [if_pos hts]
        exact ih (k + 1) out (by omega) hc hl (by omega)
      · rw [if_neg hts]
        obtain ⟨g1, g2⟩ := hchn.2 hts
        have hla : (out ++ ts).getLastD ⟨0, [], 0, 0, 0⟩ = ts.getLastD (out.getLastD ⟨0, [], 0, 0, 0⟩) := by
          cases ts with
          | nil => exact absurd rfl hts
          | cons t r => simp [List.getLastD_eq_getLast?, List.getLast?_append]
        refine ih (k + 1) _ (by omega) (chn_app (chn_app hc hchn.1) ⟨⟨by dsimp only; omega, by dsimp only; omega, ?_, ?_, ?_, fun h => absurd rfl h⟩, trivial⟩) (.inr ?_) ?_
        · rw [hla]; dsimp only; omega
        · intro _
          rw [hla]; dsimp only; omega
        · dsimp only
          rw [Nat.add_sub_cancel, hg, List.length_nil]; omega
        · simp [List.getLastD_eq_getLast?, List.getLast?_append]
        · simp [List.getLastD_eq_getLast?, List.getLast?_append]
theorem lexF_ok (l : List UInt8) (h : l.length ≤ 65536) : LexOk (splitC 10 l) (lexF l) := by
  unfold lexF
  rw [if_neg (by omega)]
  have := lexAll_ok (splitC 10 l) (splitC 10 l).length 0 [] (Nat.zero_add _) trivial (.inl rfl) (Nat.le_refl _)
  rwa [List.drop_zero] at this
end Go.Proofs.YtmicafpfkpnalaaDoor
