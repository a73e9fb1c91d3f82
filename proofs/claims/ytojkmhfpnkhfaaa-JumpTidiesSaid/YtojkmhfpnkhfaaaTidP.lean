/- Tidied parts: nothing is left to tidy. Plain laws. -/
import Derived.Test.YtojkmhfpnkhfaaaPtsP
import Derived.Test.YtojkmhfpnkhfaaaTdy1
namespace Go.Proofs.Ytojkmhfpnkhfaaa
open Go Go.RowKit
/-- ways go to names below 100; behind such a name stands no way -/
def Fw : List Prt → Prop
  | [] => True
  | p :: r => (p.kind = 1 → p.to < 100 → ∀ q ∈ r, q.kind ≠ 4) ∧ (p.kind = 4 → p.to < 100) ∧ Fw r
theorem Fw.sub {a b : List Prt} (h : a.Sublist b) (hb : Fw b) : Fw a := by
  induction h with
  | slnil => exact hb
  | cons x h ih => exact ih hb.2.2
  | cons_cons x h ih => exact ⟨fun h1 h2 q hq => hb.1 h1 h2 q (h.subset hq), hb.2.1, ih hb.2.2⟩
theorem Fw.goto {l : List Prt} (h : Fw l) {q : Prt} (hq : q ∈ l) (hk : q.kind = 4) : q.to < 100 := by
  induction l with
  | nil => simp at hq
  | cons p r ih =>
    rcases List.mem_cons.1 hq with rfl | hm
    · exact h.2.1 hk
    · exact ih h.2.2 hm
theorem keepGo_sub (us : List Int) (l : List Prt) (dead : Bool) : (keepGo us l dead).Sublist l := by
  induction l generalizing dead with
  | nil => exact .slnil
  | cons p r ih =>
    unfold keepGo
    split
    · split
      · exact (ih _).cons_cons p
      · exact (ih _).cons p
    · split
      · exact (ih _).cons p
      · exact (ih _).cons_cons p
theorem ng_mem {l : List Prt} {x : Int} (h : ng l = some x) : ∃ q ∈ l, q.kind = 4 ∧ q.to = x := by
  induction l with
  | nil => simp [ng] at h
  | cons p r ih =>
    rw [ng] at h
    split at h
    · obtain ⟨q, h1, h2⟩ := ih h
      exact ⟨q, List.mem_cons_of_mem _ h1, h2⟩
    · split at h
      · next h4 => exact ⟨p, List.mem_cons_self .., h4, by simpa using h⟩
      · simp at h
theorem wset_mem {n x : Int} {w : List (Int × Int)} {q : Int × Int} (h : q ∈ wset n x w) : q = (n, x) ∨ q ∈ w := by
  induction w with
  | nil => simp [wset] at h; exact .inl h
  | cons c r ih =>
    rw [wset] at h
    split at h
    · rcases List.mem_cons.1 h with h | h
      · exact .inl h
      · exact .inr (List.mem_cons_of_mem _ h)
    · rcases List.mem_cons.1 h with h | h
      · exact .inr (by rw [h]; exact List.mem_cons_self ..)
      · rcases ih h with h | h
        · exact .inl h
        · exact .inr (List.mem_cons_of_mem _ h)
def WFw (w : List (Int × Int)) : Prop := ∀ q ∈ w, 100 ≤ q.1 ∧ q.2 < 100
theorem thr_fw {l : List Prt} (h : Fw l) (w : List (Int × Int)) (hw : WFw w) : WFw (threadsGo l w) := by
  induction l generalizing w with
  | nil => exact hw
  | cons p r ih =>
    rw [threadsGo]
    refine ih h.2.2 _ ?_
    unfold thr1
    split
    · next h1 =>
      cases hn : ng r with
      | none => exact hw
      | some x =>
        obtain ⟨g, g1, g2, g3⟩ := ng_mem hn
        intro q hq
        rcases wset_mem hq with rfl | hq
        · refine ⟨?_, by rw [← g3]; exact h.2.2.goto g1 g2⟩
          show 100 ≤ p.to
          rcases Int.lt_or_le p.to 100 with h5 | h5
          · exact absurd g2 (h.1 h1 h5 g g1)
          · exact h5
        · exact hw q hq
    · exact hw
theorem look_none {w : List (Int × Int)} (hw : WFw w) {n : Int} (hn : n < 100) : look n w = none := by
  induction w with
  | nil => rfl
  | cons c r ih =>
    have := (hw c (List.mem_cons_self ..)).1
    rw [look, if_neg (by omega)]
    exact ih fun q hq => hw q (List.mem_cons_of_mem _ hq)
theorem look_lt {w : List (Int × Int)} (hw : WFw w) {n x : Int} (h : look n w = some x) : x < 100 := by
  induction w with
  | nil => simp [look] at h
  | cons c r ih =>
    rw [look] at h
    split at h
    · have := (hw c (List.mem_cons_self ..)).2
      simp at h; omega
    · exact ih (fun q hq => hw q (List.mem_cons_of_mem _ hq)) h
theorem along_lt {w : List (Int × Int)} (hw : WFw w) {n : Int} (hn : n < 100) : along w n = n := along_keep (look_none hw hn) _
theorem along_out {w : List (Int × Int)} (hw : WFw w) (n : Int) : look (along w n) w = none := by
  unfold along
  cases hl : look n w with
  | none => rw [along_keep hl]; exact hl
  | some x =>
    have hx := look_lt hw hl
    cases hc : w.length with
    | zero =>
      rw [List.eq_nil_of_length_eq_zero hc] at hl
      simp [look] at hl
    | succ f =>
      rw [alongGo, hl]
      show look (alongGo w f x) w = none
      rw [along_keep (look_none hw hx)]
      exact look_none hw hx
theorem fwd_kind (w : List (Int × Int)) (p : Prt) : (fwd w p).kind = p.kind := by
  unfold fwd
  split
  · rfl
  · split <;> rfl
theorem fwd_here {w : List (Int × Int)} {p : Prt} (h : p.kind = 1) : fwd w p = p := by
  unfold fwd
  rw [if_neg (by omega), if_neg (by omega)]
theorem fwd_goto {w : List (Int × Int)} {p : Prt} (h : p.kind = 4) : (fwd w p).to = along w p.to := by
  unfold fwd
  rw [if_pos h]
theorem Fw.map {w : List (Int × Int)} (hw : WFw w) {l : List Prt} (h : Fw l) : Fw (l.map (fwd w)) := by
  induction l with
  | nil => exact h
  | cons p r ih =>
    refine ⟨?_, ?_, ih h.2.2⟩
    · intro h1 h2 q hq
      rw [fwd_kind] at h1
      rw [fwd_here h1] at h2
      obtain ⟨q0, hq0, rfl⟩ := List.mem_map.1 hq
      rw [fwd_kind]
      exact h.1 h1 h2 q0 hq0
    · intro h1
      rw [fwd_kind] at h1
      rw [fwd_goto h1, along_lt hw (h.2.1 h1)]
      exact h.2.1 h1
theorem thr_ok {l : List Prt} (h : Fw l) : WFw (threads l) := thr_fw h [] (fun q hq => by simp at hq)
theorem once_fw {l : List Prt} (h : Fw l) : Fw (once l) := (h.map (thr_ok h)).sub (keepGo_sub _ _ _)
theorem tidy_fix : ∀ (n : Nat) (l : List Prt), l.length ≤ n → Fw l → ∃ z, Fw z ∧ tidy l = once z ∧ (once z).length = z.length := by
  intro n
  induction n with
  | zero =>
    intro l hn hf
    have := once_len l
    exact ⟨l, hf, by rw [tidy, if_pos (by omega)], by omega⟩
  | succ n ih =>
    intro l hn hf
    have := once_len l
    by_cases h : (once l).length = l.length
    · exact ⟨l, hf, by rw [tidy, if_pos h], h⟩
    · obtain ⟨z, h1, h2, h3⟩ := ih (once l) (by omega) (once_fw hf)
      exact ⟨z, h1, by rw [tidy, if_neg h, h2], h3⟩
theorem keep_cons {us : List Int} {p : Prt} {r : List Prt} {dead : Bool} (h : keepGo us (p :: r) dead = p :: r) :
    (p.kind = 1 ∧ p.to ∈ us ∧ keepGo us r false = r) ∨ (p.kind ≠ 1 ∧ dead = false ∧ ¬(p.kind = 4 ∧ follows r p.to = true) ∧ keepGo us r (ends p) = r) := by
  have hl : ∀ d, keepGo us r d ≠ p :: r := by
    intro d e
    have := keepGo_len us r d
    rw [e, List.length_cons] at this
    omega
  rw [keepGo] at h
  split at h
  · next h1 =>
    split at h
    · next h2 => exact .inl ⟨h1, h2, (List.cons.inj h).2⟩
    · exact absurd h (hl _)
  · next h1 =>
    split at h
    · exact absurd h (hl _)
    · next h2 =>
      refine .inr ⟨h1, ?_, fun h3 => h2 (.inr h3), (List.cons.inj h).2⟩
      cases dead with
      | false => rfl
      | true => exact absurd (.inl rfl) h2
theorem keep_drop {us : List Int} {l : List Prt} {dead : Bool} (h : keepGo us l dead = l) (i : Nat) : ∃ d, keepGo us (l.drop i) d = l.drop i := by
  induction i generalizing l dead with
  | zero => exact ⟨dead, h⟩
  | succ i ih =>
    cases l with
    | nil => exact ⟨dead, rfl⟩
    | cons p r =>
      rcases keep_cons h with ⟨_, _, h3⟩ | ⟨_, _, _, h3⟩
      · exact ih h3
      · exact ih h3
theorem thr_keep {l : List Prt} {w : List (Int × Int)} {n : Int} (h : look n w ≠ none) : look n (threadsGo l w) ≠ none := by
  induction l generalizing w with
  | nil => exact h
  | cons p r ih =>
    rw [threadsGo]
    refine ih ?_
    unfold thr1
    split
    · cases ng r with
      | none => exact h
      | some x =>
        dsimp only
        rw [look_wset]
        split
        · simp
        · exact h
    · exact h
theorem thr_here {l : List Prt} {w : List (Int × Int)} {i : Nat} (hi : i < l.length) (h1 : l[i].kind = 1) (h2 : ng (l.drop (i + 1)) ≠ none) : look l[i].to (threadsGo l w) ≠ none := by
  induction l generalizing i w with
  | nil => simp at hi
  | cons p r ih =>
    rw [threadsGo]
    cases i with
    | zero =>
      simp only [List.getElem_cons_zero] at h1 ⊢
      refine thr_keep ?_
      unfold thr1
      rw [if_pos h1]
      have h2' : ng r ≠ none := by simpa using h2
      cases hn : ng r with
      | none => exact absurd hn h2'
      | some x =>
        dsimp only
        rw [look_wset, if_pos rfl]
        simp
    | succ i =>
      simp only [List.getElem_cons_succ] at h1 ⊢
      exact ih (by simpa using hi) h1 (by simpa using h2)
theorem thr_nil {l : List Prt} {w : List (Int × Int)} (h : ∀ (i : Nat) (hi : i < l.length), l[i].kind = 1 → ng (l.drop (i + 1)) = none) : threadsGo l w = w := by
  induction l generalizing w with
  | nil => rfl
  | cons p r ih =>
    rw [threadsGo]
    have e : thr1 p r w = w := by
      unfold thr1
      split
      · next h1 =>
        have := h 0 (by simp) h1
        simp only [Nat.zero_add, List.drop_succ_cons, List.drop_zero] at this
        rw [this]
      · rfl
    rw [e]
    exact ih fun i hi h1 => by
      have := h (i + 1) (by simpa using hi) (by simpa using h1)
      simpa using this
theorem ng_map (w : List (Int × Int)) (l : List Prt) : (ng (l.map (fwd w))).isSome = (ng l).isSome := by
  induction l with
  | nil => rfl
  | cons p r ih =>
    rw [List.map_cons, ng, ng, fwd_kind]
    split
    · exact ih
    · split <;> rfl
theorem uset_mem {m n : Int} {us : List Int} (h : m ∈ uset n us) : m = n ∨ m ∈ us := by
  unfold uset at h
  split at h
  · exact .inr h
  · rcases List.mem_append.1 h with h | h
    · exact .inr h
    · exact .inl (List.mem_singleton.1 h)
theorem use_mem {w : List (Int × Int)} (hw : WFw w) {n : Int} (l : List Prt) (us : List Int) (hu : n ∈ us → look n w = none) (h : n ∈ (l.map (fwd w)).foldl useP us) : look n w = none := by
  induction l generalizing us with
  | nil => exact hu h
  | cons p r ih =>
    rw [List.map_cons, List.foldl_cons] at h
    refine ih _ ?_ h
    intro h1
    unfold useP at h1
    rw [fwd_kind] at h1
    split at h1
    · next h4 =>
      rcases uset_mem h1 with rfl | h2
      · rw [fwd_goto h4]; exact along_out hw _
      · exact hu h2
    · split at h1
      · next h3 =>
        have e : fwd w p = { p with to := along w p.to, els := along w p.els } := by
          unfold fwd
          rw [if_neg (by omega), if_pos h3]
        rw [e] at h1
        dsimp only at h1
        rcases uset_mem h1 with rfl | h2
        · exact along_out hw _
        · rcases uset_mem h2 with rfl | h2
          · exact along_out hw _
          · exact hu h2
      · exact hu h1
/-- nothing to tidy -/
structure Td (y : List Prt) : Prop where
  here : ∀ (i : Nat) (h : i < y.length), y[i].kind = 1 → y[i].to ∈ y.foldl useP []
  fol : ∀ (i : Nat) (h : i < y.length), y[i].kind = 4 → follows (y.drop (i + 1)) y[i].to ≠ true
  ends : ∀ (i : Nat) (h : i + 1 < y.length), ends y[i] = true → y[i + 1].kind = 1
  ng : ∀ (i : Nat) (h : i < y.length), y[i].kind = 1 → ng (y.drop (i + 1)) = none
  again : tidy y = y
theorem fwd_nil (l : List Prt) : l.map (fwd []) = l := by
  induction l with
  | nil => rfl
  | cons p r ih =>
    rw [List.map_cons, ih]
    congr 1
    unfold fwd
    split
    · rfl
    · split <;> rfl
theorem tidy_td {l : List Prt} (h : Fw l) : Td (tidy l) := by
  obtain ⟨z, hz, e, hl⟩ := tidy_fix l.length l (Nat.le_refl _) h
  have hw := thr_ok hz
  have hpl : (onceP z).length = z.length := by unfold onceP; rw [List.length_map]
  have hk : keepGo ((onceP z).foldl useP []) (onceP z) false = onceP z := by
    refine (keepGo_sub _ _ _).eq_of_length ?_
    rw [hpl]; exact hl
  have hP : onceP z = z.map (fwd (threads z)) := rfl
  rw [e]
  show Td (keepGo ((onceP z).foldl useP []) (onceP z) false)
  rw [hk]
  have hlen : z.length = (onceP z).length := hpl.symm
  generalize onceP z = P at *
  have hat : ∀ (i : Nat) (h : i < P.length), (P[i].kind = 1 ∧ P[i].to ∈ P.foldl useP [] ∧ keepGo (P.foldl useP []) (P.drop (i + 1)) false = P.drop (i + 1)) ∨ (P[i].kind ≠ 1 ∧ ¬(P[i].kind = 4 ∧ follows (P.drop (i + 1)) P[i].to = true) ∧ keepGo (P.foldl useP []) (P.drop (i + 1)) (ends P[i]) = P.drop (i + 1)) := by
    intro i h
    obtain ⟨d, hd⟩ := keep_drop hk i
    rw [List.drop_eq_getElem_cons h] at hd
    rcases keep_cons hd with h1 | ⟨h1, _, h2, h3⟩
    · exact .inl h1
    · exact .inr ⟨h1, h2, h3⟩
  have hhere : ∀ (i : Nat) (h : i < P.length), P[i].kind = 1 → P[i].to ∈ P.foldl useP [] := by
    intro i h h1
    rcases hat i h with ⟨_, h2, _⟩ | ⟨h2, _⟩
    · exact h2
    · exact absurd h1 h2
  have hng : ∀ (i : Nat) (h : i < P.length), P[i].kind = 1 → ng (P.drop (i + 1)) = none := by
    intro i h h1
    have h2 := hhere i h h1
    have h3 : look P[i].to (threads z) = none := by
      refine use_mem hw (n := P[i].to) z [] (fun q => by simp at q) ?_
      rw [← hP]; exact h2
    cases hn : ng (P.drop (i + 1)) with
    | none => rfl
    | some x =>
      exfalso
      have hi : i < z.length := by omega
      have e1 : P[i] = fwd (threads z) z[i] := by simp only [hP, List.getElem_map]
      have hk1 : z[i].kind = 1 := by rw [e1, fwd_kind] at h1; exact h1
      rw [e1, fwd_here hk1] at h3
      refine thr_here (w := []) hi hk1 ?_ h3
      intro h5
      have h6 := ng_map (threads z) (z.drop (i + 1))
      rw [List.map_drop, ← hP, hn, h5] at h6
      simp at h6
  refine ⟨hhere, ?_, ?_, hng, ?_⟩
  · intro i h h4 hf
    rcases hat i h with ⟨h1, _⟩ | ⟨_, h2, _⟩
    · omega
    · exact h2 ⟨h4, hf⟩
  · intro i h he
    rcases hat i (by omega) with ⟨h1, _⟩ | ⟨_, _, h3⟩
    · exfalso
      unfold Go.Proofs.Ytojkmhfpnkhfaaa.ends at he
      simp [h1] at he
    · rw [he, List.drop_eq_getElem_cons h] at h3
      rcases keep_cons h3 with ⟨h1, _⟩ | ⟨_, h1, _⟩
      · exact h1
      · simp at h1
  · have ht : threads P = [] := thr_nil hng
    have ho : onceP P = P := by
      unfold onceP
      rw [ht]
      exact fwd_nil P
    have h1 : once P = P := by
      unfold once
      rw [ho]
      exact hk
    rw [tidy, if_pos (by rw [h1]), h1]
theorem fw_app {a b : List Prt} (ha : ∀ p ∈ a, (p.kind = 1 → 100 ≤ p.to) ∧ (p.kind = 4 → p.to < 100)) (hb : Fw b) : Fw (a ++ b) := by
  induction a with
  | nil => exact hb
  | cons p r ih =>
    have h := ha p (List.mem_cons_self ..)
    refine ⟨fun h1 h2 => absurd (h.1 h1) (by omega), h.2, ih fun q hq => ha q (List.mem_cons_of_mem _ hq)⟩
theorem fw_nog {b : List Prt} (hb : ∀ p ∈ b, p.kind ≠ 4) : Fw b := by
  induction b with
  | nil => trivial
  | cons p r ih =>
    refine ⟨fun _ _ q hq => hb q (List.mem_cons_of_mem _ hq), fun h => absurd h (hb p (List.mem_cons_self ..)), ih fun q hq => hb q (List.mem_cons_of_mem _ hq)⟩
theorem tl1_nog (pad n : Nat) : ∀ p ∈ tl1 pad n, p.kind ≠ 4 := by
  intro p hp
  unfold tl1 at hp
  rcases List.mem_append.1 hp with h | h
  · rw [List.eq_of_mem_replicate h]; decide
  · rcases List.mem_cons.1 h with rfl | h
    · dsimp only; decide
    · split at h
      · rw [List.mem_singleton.1 h]; dsimp only; decide
      · simp at h
theorem tails_nog (pad n : Nat) : ∀ p ∈ tails pad n, p.kind ≠ 4 := by
  induction n with
  | zero => intro p hp; simp [tails] at hp
  | succ n ih =>
    intro p hp
    rw [tails] at hp
    rcases List.mem_append.1 hp with h | h
    · exact ih p h
    · exact tl1_nog pad _ p h
theorem heads_fw (l : List SPt) (i : Nat) : ∀ p ∈ heads l i, (p.kind = 1 → 100 ≤ p.to) ∧ (p.kind = 4 → p.to < 100) := by
  induction l generalizing i with
  | nil => intro p hp; simp [heads] at hp
  | cons q r ih =>
    intro p hp
    rw [heads] at hp
    rcases List.mem_append.1 hp with h | h
    · unfold hd1 at h
      split at h
      · rw [List.mem_singleton.1 h]
        exact ⟨fun h => by simp at h, fun h => by simp at h⟩
      split at h
      · rw [List.mem_singleton.1 h]
        exact ⟨fun h => by simp at h, fun _ => by dsimp only; omega⟩
      · rcases List.mem_cons.1 h with rfl | h
        · exact ⟨fun h => by simp at h, fun h => by simp at h⟩
        · rw [List.mem_singleton.1 h]
          exact ⟨fun _ => by dsimp only; omega, fun h => by simp at h⟩
    · exact ih _ p h
theorem partsF_fw (l : List SPt) (pad : Nat) : Fw (partsF l pad) := by
  refine fw_app (heads_fw _ _) (fw_nog ?_)
  intro p hp
  rcases List.mem_append.1 hp with h | h
  · exact tails_nog _ _ p h
  · rw [List.mem_singleton.1 h]; decide
end Go.Proofs.Ytojkmhfpnkhfaaa
