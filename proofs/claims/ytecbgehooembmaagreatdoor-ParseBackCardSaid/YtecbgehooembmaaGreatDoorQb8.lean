/- Part 8 of what the last text of this claim leans on: rules of walks, contracts, plain facts. Conditions: those of each statement. -/
import Derived.Test.YtecbgehooembmaaGreatDoorQb7
set_option maxRecDepth 100000
namespace Go.Proofs.YtecbgehooembmaaGreatDoor
open Go Go.RowKit
def gapG : List W3 → List (List UInt8 × Tk)
 | [] => []
 | w :: r => ([], tk0 w) :: r.map fun v => ([32], tk0 v)
theorem pcs_gapG (ws : List W3) : pcs (gapG ws) = spcL ws := by
 cases ws with
 | nil => rfl
 | cons w r =>
  rw [gapG, pcs_cons]
  show [] ++ w.2.1 ++ pcs (r.map fun v => ([32], tk0 v)) = w.2.1 ++ r.flatMap fun v => 32 :: v.2.1
  rw [List.nil_append]
  congr 1
  induction r with
  | nil => rfl
  | cons v r ih => rw [List.map_cons, pcs_cons, ih, List.flatMap_cons]; rfl
theorem blk32 : Blks [32] := by
 intro x hx
 rw [List.mem_singleton] at hx
 rw [hx]; decide
theorem apart_gapG (ws : List W3) (h : ∀ w ∈ ws, WOk w) : Apart (gapG ws) := by
 cases ws with
 | nil => trivial
 | cons w r =>
  have key : ∀ r : List W3, (∀ w ∈ r, WOk w) → Apart (r.map fun v => ([32], tk0 v)) := by
   intro r
   induction r with
   | nil => intro _; trivial
   | cons v r ih =>
    intro h
    refine ⟨blk32, (h v (List.mem_cons_self ..)).good, ?_, ih (fun w hw => h w (List.mem_cons_of_mem _ hw))⟩
    intro q hq
    cases r with
    | nil => cases hq
    | cons u r =>
     have : q = ([32], tk0 u) := (Option.some.inj hq).symm
     rw [this]; simp
  refine ⟨(fun x hx => by cases hx), (h w (List.mem_cons_self ..)).good, ?_, key r (fun w hw => h w (List.mem_cons_of_mem _ hw))⟩
  intro q hq
  cases r with
  | nil => cases hq
  | cons u r =>
   have : q = ([32], tk0 u) := (Option.some.inj hq).symm
   rw [this]; simp
theorem gapG_mem (ws : List W3) : ∀ p ∈ gapG ws, (p.1 = [] ∨ p.1 = [32]) ∧ ∃ w ∈ ws, p.2 = tk0 w := by
 cases ws with
 | nil => intro p hp; cases hp
 | cons w r =>
  intro p hp
  rcases List.mem_cons.1 hp with rfl | hp
  ·exact ⟨Or.inl rfl, w, List.mem_cons_self .., rfl⟩
  ·obtain ⟨v, hv, rfl⟩ := List.mem_map.1 hp
   exact ⟨Or.inr rfl, v, List.mem_cons_of_mem _ hv, rfl⟩
theorem no_gapG (ws : List W3) (h : ∀ w ∈ ws, WOk w) : NoW (gapG ws) := by
 intro p hp
 obtain ⟨h1, w, hw, h2⟩ := gapG_mem ws p hp
 refine ⟨fun x hx => ?_, fun x hx => ?_⟩
 ·rcases h1 with h1 | h1 <;> rw [h1] at hx
  ·cases hx
  ·rw [List.mem_singleton] at hx
   rw [hx]; decide
 ·rw [h2] at hx
  exact (h w hw).no x hx
theorem gapG_kn (ws : List W3) : (gapG ws).map (fun p => kn p.2) = ws := by
 cases ws with
 | nil => rfl
 | cons w r =>
  rw [gapG, List.map_cons, List.map_map]
  show w :: r.map (fun v => (v.1, v.2.1, v.2.2)) = w :: r
  rw [show (fun v : W3 => (v.1, v.2.1, v.2.2)) = id from rfl, List.map_id]
theorem accN_kn (D : List (List W3)) : ∀ n, (accN n (D.map gapG)).map kn = (toks D).map kn := by
 induction D with
 | nil => intro n; rfl
 | cons ws D ih =>
  intro n
  rw [List.map_cons, accN, toks_cons]
  simp only [List.map_append, List.map_cons, List.map_nil, ih, tokL_kn, gapG_kn, List.append_assoc, List.singleton_append]
  have e : (ws.map tk0).map kn = ws := by
   rw [List.map_map, show (kn ∘ tk0) = id from rfl, List.map_id]
  rw [e]; rfl
structure LinesOk (D : List (List W3)) : Prop where
 ne : ∀ ws ∈ D, ws ≠ []
 ok : ∀ ws ∈ D, ∀ w ∈ ws, WOk w
theorem lex_lines (D : List (List W3)) (h : LinesOk D) (hl : (lnsT D).length ≤ 65536) : ∃ ts, lexF (lnsT D) = (ts, none) ∧ ts.map kn = (toks D).map kn := by
 have e : txtW (D.map gapG) [] [] = lnsT D := by
  unfold txtW lnsT
  rw [List.map_map, show pcs ([] : List (List UInt8 × Tk)) ++ [] = [] from rfl, List.append_nil, List.flatMap_map]
  congr 1
  funext ws
  rw [Function.comp_apply, pcs_gapG]
 have hW : WdW (D.map gapG) [] [] := by
  refine ⟨?_, trivial, (fun p hp => by cases hp), (fun x hx => by cases hx), (fun x hx => by cases hx), fun _ => rfl, fun h => absurd rfl h⟩
  intro g hg
  obtain ⟨ws, hws, rfl⟩ := List.mem_map.1 hg
  refine ⟨?_, apart_gapG ws (h.ok ws hws), no_gapG ws (h.ok ws hws)⟩
  cases hx : ws with
  | nil => exact absurd hx (h.ne ws hws)
  | cons w r => simp [gapG]
 have h1 := lexF_words hW (by rw [e]; exact hl)
 rw [e, if_pos rfl, List.append_nil] at h1
 refine ⟨_, h1, ?_⟩
 rw [List.map_append, accN_kn]
 show _ ++ [] = _
 rw [List.append_nil]
def Rs (s s' : PS) : Prop := s.1.map kn = s'.1.map kn ∧ (s.2 = (0, 0, 0) ↔ s'.2 = (0, 0, 0))
theorem h5r {w w' : Wr} {t t' : Tk} {e e' : Nat} (he : e ≠ 0) (he' : e' ≠ 0) : (h2u w t e = (0, 0, 0) ↔ h2u w' t' e' = (0, 0, 0)) :=
 ⟨fun h => absurd h (failW_ne _ _ _ he), fun h => absurd h (failW_ne _ _ _ he')⟩
theorem head_r {l l' : List Tk} (h : l.map kn = l'.map kn) : kn (l.headD zTk) = kn (l'.headD zTk) ∧ l.tail.map kn = l'.tail.map kn := by
 cases l with
 | nil =>
  cases l' with
  | nil => exact ⟨rfl, rfl⟩
  | cons b r => cases h
 | cons a r =>
  cases l' with
  | nil => cases h
  | cons b r' =>
   injection h with h1 h2
   exact ⟨h1, h2⟩
theorem h5k {t t' : Tk} (h : kn t = kn t') : t.kind = t'.kind ∧ t.text = t'.text ∧ t.num = t'.num := by
 injection h with h1 h2
 injection h2 with h2 h3
 exact ⟨h1, h2, h3⟩
theorem ite_r {c c' : Prop} [Decidable c] [Decidable c'] {a b a' b' : Wr} (hc : c ↔ c') (h1 : a = (0, 0, 0) ↔ a' = (0, 0, 0)) (h2 : b = (0, 0, 0) ↔ b' = (0, 0, 0)) : ((if c then a else b) = (0, 0, 0) ↔ (if c' then a' else b') = (0, 0, 0)) := by
 by_cases h : c
 ·rw [if_pos h, if_pos (hc.1 h)]; exact h1
 ·rw [if_neg h, if_neg (fun h' => h (hc.2 h'))]; exact h2
theorem h6j {k : Nat} {s s' : PS} (h : Rs s s') : kn (h1d k s).1 = kn (h1d k s').1 ∧ Rs (h1d k s).2 (h1d k s').2 := by
 obtain ⟨h1, h2⟩ := head_r h.1
 refine ⟨h1, h2, ?_⟩
 show (if (s.1.headD zTk).kind = k then s.2 else h2u s.2 (s.1.headD zTk) 203) = (0, 0, 0) ↔ (if (s'.1.headD zTk).kind = k then s'.2 else h2u s'.2 (s'.1.headD zTk) 203) = (0, 0, 0)
 exact ite_r (by rw [(h5k h1).1]) h.2 (h5r (by omega) (by omega))
theorem wordT_r {s s' : PS} (h : Rs s s') : kn (h2a s).1 = kn (h2a s').1 ∧ Rs (h2a s).2 (h2a s').2 := by
 obtain ⟨h1, h2, h3⟩ := h6j (k:=1) h
 refine ⟨h1, h2, ite_r ?_ (h5r (by omega) (by omega)) h3⟩
 rw [h3, (h5k h1).2.1]
theorem keyF_r {k : List UInt8} {s s' : PS} (h : Rs s s') : Rs (keyF k s) (keyF k s') := by
 obtain ⟨h1, h2, h3⟩ := h6j (k:=1) h
 refine ⟨h2, ite_r ?_ (h5r (by omega) (by omega)) h3⟩
 rw [h3, (h5k h1).2.1]
theorem actF_r {s s' : PS} (h : Rs s s') : (actF s).1 = (actF s').1 ∧ Rs (actF s).2 (actF s').2 := by
 obtain ⟨h1, h2⟩ := wordT_r h
 obtain ⟨g1, g2⟩ := h6j (k:=2) h2
 have ht := (h5k h1).2.1
 have hn := (h5k g1).2.2
 unfold actF
 rw [ht]
 by_cases c1 : (h2a s').1.text = tKill
 ·rw [if_pos c1, if_pos c1]; exact ⟨rfl, h2⟩
 rw [if_neg c1, if_neg c1]
 by_cases c2 : (h2a s').1.text = tLog
 ·rw [if_pos c2, if_pos c2]; exact ⟨rfl, h2⟩
 rw [if_neg c2, if_neg c2]
 by_cases c3 : (h2a s').1.text = tAllow
 ·rw [if_pos c3, if_pos c3]; exact ⟨rfl, h2⟩
 rw [if_neg c3, if_neg c3]
 by_cases c4 : (h2a s').1.text = tErrno
 ·rw [if_pos c4, if_pos c4]
  by_cases c5 : (h1d 2 (h2a s').2).2.2 = (0, 0, 0) ∧ ((h1d 2 (h2a s').2).1.num < 1 ∨ 4095 < (h1d 2 (h2a s').2).1.num)
  ·rw [if_pos c5, if_pos ⟨g2.2.2 c5.1, by rw [hn]; exact c5.2⟩]
   exact ⟨rfl, g2.1, h5r (by omega) (by omega)⟩
  ·rw [if_neg c5, if_neg (fun c => c5 ⟨g2.2.1 c.1, by rw [← hn]; exact c.2⟩), hn]
   exact ⟨rfl, g2⟩
 ·rw [if_neg c4, if_neg c4]
  exact ⟨rfl, h2.1, h5r (by omega) (by omega)⟩
theorem mskF_r {o : Nat} {s s' : PS} (h : Rs s s') : (mskF o s).1 = (mskF o s').1 ∧ Rs (mskF o s).2 (mskF o s').2 := by
 obtain ⟨h1, h2⟩ := h6j (k:=2) h
 obtain ⟨g1, g2, g3⟩ := h6j (k:=4) h2
 unfold mskF
 by_cases c : o = 7
 ·rw [if_pos c, if_pos c]
  refine ⟨(h5k h1).2.2, g2, ite_r ?_ (h5r (by omega) (by omega)) g3⟩
  rw [(h5k g1).2.1]
 ·rw [if_neg c, if_neg c]; exact ⟨rfl, h⟩
theorem valF_r {a o m : Nat} {s s' : PS} (h : Rs s s') : (valF a o m s).1 = (valF a o m s').1 ∧ Rs (valF a o m s).2 (valF a o m s').2 := by
 obtain ⟨h1, h2, h3⟩ := h6j (k:=2) h
 have hn := (h5k h1).2.2
 unfold valF
 rw [hn]
 exact ⟨rfl, h2, ite_r Iff.rfl (h5r (by omega) (by omega)) h3⟩
theorem cndF_r {s s' : PS} (h : Rs s s') : (cndF s).1 = (cndF s').1 ∧ Rs (cndF s).2 (cndF s').2 := by
 obtain ⟨h1, h2, h3⟩ := wordT_r h
 have ht := (h5k h1).2.1
 unfold cndF argW
 rw [ht]
 have hs : Rs ((h2a s).2.1, if (argOf (h2a s').1.text).isSome then (h2a s).2.2 else h2u (h2a s).2.2 (h2a s).1 202) ((h2a s').2.1, if (argOf (h2a s').1.text).isSome then (h2a s').2.2 else h2u (h2a s').2.2 (h2a s').1 202) := ⟨h2, ite_r Iff.rfl h3 (h5r (by omega) (by omega))⟩
 generalize ((h2a s).2.1, if (argOf (h2a s').1.text).isSome then (h2a s).2.2 else h2u (h2a s).2.2 (h2a s).1 202) = z at *
 generalize ((h2a s').2.1, if (argOf (h2a s').1.text).isSome then (h2a s').2.2 else h2u (h2a s').2.2 (h2a s').1 202) = z' at *
 unfold sgnS
 obtain ⟨g1, g2⟩ := h6j (k:=4) hs
 rw [(h5k g1).2.1]
 obtain ⟨k1, k2⟩ := mskF_r (o:=opOf (h1d 4 z').1.text) g2
 rw [k1]
 exact valF_r k2
theorem cndsGo_r (f : Nat) : ∀ (key : List UInt8) (s s' : PS) (out : List Cnd), Rs s s' → (h4z f key s out).1 = (h4z f key s' out).1 ∧ Rs (h4z f key s out).2 (h4z f key s' out).2 := by
 induction f with
 | zero => intro key s s' out h; exact ⟨rfl, h⟩
 | succ f ih =>
  intro key s s' out h
  obtain ⟨h1, -⟩ := head_r h.1
  have hk := (h5k h1).1
  have hn : s.1 = [] ↔ s'.1 = [] := by
   rw [← List.map_eq_nil_iff (f:=kn), h.1, List.map_eq_nil_iff]
  unfold h4z
  by_cases c : s'.1 = [] ∨ (s'.1.headD zTk).kind = 0 ∨ s'.2 ≠ (0, 0, 0)
  ·rw [if_pos c, if_pos (by rw [hn, hk, ne_eq, h.2]; exact c)]
   exact ⟨rfl, h⟩
  ·rw [if_neg c, if_neg (by rw [hn, hk, ne_eq, h.2]; exact c)]
   obtain ⟨g1, g2, g3⟩ := cndF_r (keyF_r (k:=key) h)
   rw [g1]
   exact ih _ _ _ _ ⟨g2, ite_r Iff.rfl (h5r (by omega) (by omega)) g3⟩
theorem setF_r {k : Nat} {s s' : PS} (h : Rs s s') : (setF k s).1 = (setF k s').1 ∧ Rs (setF k s).2 (setF k s').2 := by
 obtain ⟨h1, h2, h3⟩ := h6j (k:=1) h
 have ht := (h5k h1).2.1
 unfold setF
 rw [ht]
 refine ⟨rfl, h2, ?_⟩
 by_cases c : (Rg.parseF 0 (h1g 44 (h1d 1 s').1.text)).2 ≠ 0
 ·rw [if_pos c, if_pos c]; exact h5r c c
 ·rw [if_neg c, if_neg c]; exact ite_r Iff.rfl (h5r (by omega) (by omega)) h3
theorem rulF_r {t t' : Tk} {rs : List RulP} {s s' : PS} (h : Rs s s') : (rulF t rs s).1 = (rulF t' rs s').1 ∧ Rs (rulF t rs s).2 (rulF t' rs s').2 := by
 obtain ⟨h1, h2, h3⟩ := wordT_r h
 have ht := (h5k h1).2.1
 have hc : rulC s = rulC s' := by unfold rulC; rw [ht]
 have hn : rulN s = rulN s' := by unfold rulN; rw [hc]
 have h4 : Rs (rul1 s) (rul1 s') := ⟨h2, ite_r (by rw [hc]) h3 (h5r (by omega) (by omega))⟩
 obtain ⟨g1, g2⟩ := actF_r h4
 have hl : (rul2 s).2.1.length = (rul2 s').2.1.length := by
  have := congrArg List.length g2.1
  rwa [List.length_map, List.length_map] at this
 obtain ⟨k1, k2, k3⟩ := cndsGo_r ((rul2 s').2.1.length + 1) tIf _ _ [] g2
 have e : rul3 s = h4z ((rul2 s').2.1.length + 1) tIf (rul2 s).2 [] := by unfold rul3; rw [hl]
 unfold rulF
 rw [hn, e]
 refine ⟨?_, k2, ite_r Iff.rfl (h5r (by omega) (by omega)) k3⟩
 show rs ++ [⟨rulN s', (rul2 s).1, _⟩] = rs ++ [⟨rulN s', (rul2 s').1, _⟩]
 rw [show (rul2 s).1 = (rul2 s').1 from g1]
 exact congrArg (fun x => rs ++ [(⟨rulN s', (rul2 s').1, x⟩ : RulP)]) k1
theorem hanF_r {hd : Nat} {t t' : Tk} {s s' : PS} (h : Rs s s') : (hanF hd t s).1 = (hanF hd t' s').1 ∧ Rs (hanF hd t s).2 (hanF hd t' s').2 :=
 setF_r ⟨h.1, ite_r Iff.rfl (h5r (by omega) (by omega)) h.2⟩
theorem benF_r {hd : Nat} {t t' : Tk} {ps : List (List UInt8 × Nat)} {s s' : PS} (h : Rs s s') : (benF hd t ps s).1 = (benF hd t' ps s').1 ∧ Rs (benF hd t ps s).2 (benF hd t' ps s').2 := by
 obtain ⟨h1, h2, h3⟩ := h6j (k:=3) h
 have ht := (h5k h1).2.1
 have h4 : Rs (ben1 s) (ben1 s') := ⟨h2, ite_r (by rw [h3, ht]) (h5r (by omega) (by omega)) h3⟩
 obtain ⟨g1, g2, g3⟩ := setF_r (k:=hd &&& 2047) h4
 refine ⟨?_, g2, ite_r Iff.rfl (h5r (by omega) (by omega)) ?_⟩
 ·show ps ++ [(_, _)] = ps ++ [(_, _)]
  rw [ht]
  exact congrArg (fun x => ps ++ [((h1d 3 s').1.text, x)]) g1
 ·exact ite_r (by rw [ht]) (h5r (by omega) (by omega)) g3
theorem porF_r {hd : Nat} {t t' : Tk} {ps : List (Nat × Nat)} {s s' : PS} (h : Rs s s') : (porF hd t ps s).1 = (porF hd t' ps s').1 ∧ Rs (porF hd t ps s).2 (porF hd t' ps s').2 := by
 obtain ⟨h1, h2, h3⟩ := h6j (k:=2) h
 have ht := (h5k h1).2.2
 have hp : porN s = porN s' := by unfold porN; rw [ht]
 have h4 : Rs (por1 s) (por1 s') := ⟨h2, ite_r (by rw [ht]) (h5r (by omega) (by omega)) h3⟩
 obtain ⟨g1, g2, g3⟩ := setF_r (k:=hd &&& 49152) h4
 refine ⟨?_, g2, ite_r Iff.rfl (h5r (by omega) (by omega)) ?_⟩
 ·show ps ++ [(_, _)] = ps ++ [(_, _)]
  rw [hp]
  exact congrArg (fun x => ps ++ [(porN s', x)]) g1
 ·exact ite_r (by rw [hp]) (h5r (by omega) (by omega)) g3
theorem lineP_r {P : Pol} {s s' : PS} (h : Rs s s') : (lineP P s).1 = (lineP P s').1 ∧ Rs (lineP P s).2 (lineP P s').2 := by
 obtain ⟨h1, h2⟩ := h6j (k:=1) h
 have ht := (h5k h1).2.1
 unfold lineP lineW
 rw [ht]
 by_cases c1 : (h1d 1 s').1.text = tCall
 ·rw [if_pos c1, if_pos c1]
  obtain ⟨g1, g2⟩ := rulF_r (t:=(h1d 1 s).1) (t' := (h1d 1 s').1) (rs:=P.rules) h2
  exact ⟨by rw [g1], g2⟩
 rw [if_neg c1, if_neg c1]
 by_cases c2 : (h1d 1 s').1.text = tHandle
 ·rw [if_pos c2, if_pos c2]
  obtain ⟨g1, g2⟩ := hanF_r (hd:=P.hd) (t:=(h1d 1 s).1) (t' := (h1d 1 s').1) h2
  exact ⟨by rw [g1], g2⟩
 rw [if_neg c2, if_neg c2]
 by_cases c3 : (h1d 1 s').1.text = tBeneath
 ·rw [if_pos c3, if_pos c3]
  obtain ⟨g1, g2⟩ := benF_r (hd:=P.hd) (t:=(h1d 1 s).1) (t' := (h1d 1 s').1) (ps:=P.paths) h2
  exact ⟨by rw [g1], g2⟩
 rw [if_neg c3, if_neg c3]
 by_cases c4 : (h1d 1 s').1.text = tPort
 ·rw [if_pos c4, if_pos c4]
  obtain ⟨g1, g2⟩ := porF_r (hd:=P.hd) (t:=(h1d 1 s).1) (t' := (h1d 1 s').1) (ps:=P.ports) h2
  exact ⟨by rw [g1], g2⟩
 rw [if_neg c4, if_neg c4]
 exact ⟨rfl, h2.1, h5r (by omega) (by omega)⟩
theorem linesGo_r (f : Nat) : ∀ (P : Pol) (s s' : PS), Rs s s' → (h3c f (P, s)).1 = (h3c f (P, s')).1 ∧ Rs (h3c f (P, s)).2 (h3c f (P, s')).2 := by
 induction f with
 | zero => intro P s s' h; exact ⟨rfl, h⟩
 | succ f ih =>
  intro P s s' h
  have hn : s.1 = [] ↔ s'.1 = [] := by
   rw [← List.map_eq_nil_iff (f:=kn), h.1, List.map_eq_nil_iff]
  unfold h3c
  by_cases c : s'.1 = [] ∨ s'.2 ≠ (0, 0, 0)
  ·rw [if_pos c, if_pos (by rw [hn, ne_eq, h.2]; exact c)]
   exact ⟨rfl, h⟩
  ·rw [if_neg c, if_neg (by rw [hn, ne_eq, h.2]; exact c)]
   obtain ⟨g1, g2⟩ := lineP_r (P:=P) h
   rw [g1]
   exact ih _ _ _ (h6j (k:=0) g2).2
theorem allP_r {s s' : PS} (h : Rs s s') : (allP s).1 = (allP s').1 ∧ Rs (allP s).2 (allP s').2 := by
 have h1 := keyF_r (k:=tPolicy) h
 obtain ⟨h2, h3, h4⟩ := wordT_r h1
 have ht := (h5k h2).2.1
 have h5 : Rs (nmS s) (nmS s') := ⟨h3, ite_r (by rw [h4, ht]) (h5r (by omega) (by omega)) h4⟩
 obtain ⟨g1, g2⟩ := actF_r (keyF_r (k:=tDefault) (h6j (k:=0) h5).2)
 have g3 := (h6j (k:=0) g2).2
 have e : (polS s).1 = (polS s').1 := by
  show (⟨_, _, [], 0, [], []⟩ : Pol) = ⟨_, _, [], 0, [], []⟩
  rw [ht, show (dfS s).1 = (dfS s').1 from g1]
 have hl : (polS s).2.1.length = (polS s').2.1.length := by
  have := congrArg List.length g3.1
  rwa [List.length_map, List.length_map] at this
 have e1 : allP s = h3c ((polS s').2.1.length + 1) ((polS s').1, (polS s).2) := by
  unfold allP
  rw [hl, ← e]
 rw [e1]
 exact linesGo_r _ _ _ _ g3
structure PolRn (P : Pol) : Prop where
 c : ∀ r ∈ P.rules, ∀ c ∈ r.conds, c.mask ≤ 18446744073709551615 ∧ c.val ≤ 18446744073709551615
theorem pol_words {l : List UInt8} {ts : List Tk} (P : Pol) (h : PolOk P) (hl : lexF l = (ts, none)) (hk : ts.map kn = (toks (polL P)).map kn) : polF l = (P, (0, 0, 0)) := by
 have h1 := all_tk P h
 obtain ⟨g1, g2, g3⟩ := allP_r (s:=(ts, (0, 0, 0))) (s' := (toks (polL P), (0, 0, 0))) ⟨hk, Iff.rfl⟩
 have h2 : allP (toks (polL P), (0, 0, 0)) = (P, ([], (0, 0, 0))) := h1
 rw [h2] at g1 g3
 unfold polF
 rw [hl]
 dsimp only
 rw [if_pos (g3.2 rfl), g1]
theorem actL_ok {a : Int} (h : h6d a = true) : (∀ w ∈ actL a, WOk w) ∧ actL a ≠ [] ∧ ((actL a).map fun w => w.2.1.length + 1).sum ≤ 27 := by
 unfold actL
 split
 ·refine ⟨fun w hw => ?_, by simp, ?_⟩
  ·rcases List.mem_cons.1 hw with rfl | hw
   ·exact nmB_ok (by decide)
   ·rw [List.mem_singleton.1 hw]
    have := and_lt a
    exact wD_ok (by omega)
  ·have := decF_len 5 (iand a 65535).toNat (by omega) (by have := and_lt a; omega)
   simp only [List.map_cons, List.map_nil, List.sum_cons, List.sum_nil]
   have e : tErrno.length = 5 := rfl
   omega
 ·split
  ·exact ⟨fun w hw => by rw [List.mem_singleton.1 hw]; exact nmB_ok (by decide), by simp, by decide⟩
  ·split
   ·exact ⟨fun w hw => by rw [List.mem_singleton.1 hw]; exact nmB_ok (by decide), by simp, by decide⟩
   ·exact ⟨fun w hw => by rw [List.mem_singleton.1 hw]; exact nmB_ok (by decide), by simp, by decide⟩
theorem d20 {n : Nat} (h : n ≤ 18446744073709551615) : (decF n).length ≤ 20 := decF_len 20 n (by omega) (by omega)
theorem argTx_ok {n : Nat} (h : n ≤ 5) : WOk (wN (argTx n)) ∧ (argTx n).length = 4 := by
 obtain rfl | rfl | rfl | rfl | rfl | rfl : n = 0 ∨ n = 1 ∨ n = 2 ∨ n = 3 ∨ n = 4 ∨ n = 5 := by omega
 all_goals
  unfold argTx
  rw [decF_dig (by omega)]
  exact ⟨nmB_ok (by decide), by decide⟩
theorem cndL_ok {c : Cnd} (h : CndOk c) (hm : c.mask ≤ 18446744073709551615) (hv : c.val ≤ 18446744073709551615) : (∀ w ∈ cndL c, WOk w) ∧ ((cndL c).map fun w => w.2.1.length + 1).sum ≤ 53 := by
 have h1 := argTx_ok h.arg
 have h2 := sg_ok h.op1 h.op2
 have h3 := d20 hm
 have h4 := d20 hv
 unfold cndL
 by_cases c7 : c.op = 7
 ·rw [if_pos c7]
  refine ⟨fun w hw => ?_, ?_⟩
  ·simp only [List.cons_append, List.nil_append, List.mem_cons, List.not_mem_nil, or_false] at hw
   rcases hw with rfl | rfl | rfl | rfl | rfl
   ·exact h1.1
   ·exact h2.1
   ·exact wD_ok hm
   ·exact wG_ok (by decide)
   ·exact wD_ok hv
  ·simp only [List.cons_append, List.nil_append, List.map_cons, List.map_nil, List.sum_cons, List.sum_nil, List.length_cons, List.length_nil]
   omega
 ·rw [if_neg c7]
  refine ⟨fun w hw => ?_, ?_⟩
  ·simp only [List.nil_append, List.mem_cons, List.not_mem_nil, or_false] at hw
   rcases hw with rfl | rfl | rfl
   ·exact h1.1
   ·exact h2.1
   ·exact wD_ok hv
  ·simp only [List.nil_append, List.map_cons, List.map_nil, List.sum_cons, List.sum_nil]
   omega
theorem cndsL_ok (cs : List Cnd) (h : ∀ c ∈ cs, CndOk c ∧ c.mask ≤ 18446744073709551615 ∧ c.val ≤ 18446744073709551615) : ∀ key : List UInt8, nmB key = true → key.length ≤ 3 → (∀ w ∈ cndsL key cs, WOk w) ∧ ((cndsL key cs).map fun w => w.2.1.length + 1).sum ≤ 57 * cs.length := by
 induction cs with
 | nil => intro key _ _; exact ⟨(fun w hw => by cases hw), Nat.le_refl _⟩
 | cons c cs ih =>
  intro key hk hl
  obtain ⟨h1, h2, h3⟩ := h c (List.mem_cons_self ..)
  obtain ⟨g1, g2⟩ := cndL_ok h1 h2 h3
  obtain ⟨k1, k2⟩ := ih (fun c hc => h c (List.mem_cons_of_mem _ hc)) tAnd (by decide) (by decide)
  refine ⟨fun w hw => ?_, ?_⟩
  ·rcases List.mem_cons.1 hw with rfl | hw
   ·exact nmB_ok hk
   ·rcases List.mem_append.1 hw with hw | hw
    ·exact g1 w hw
    ·exact k1 w hw
  ·show ((wN key :: (cndL c ++ cndsL tAnd cs)).map fun w => w.2.1.length + 1).sum ≤ _
   rw [List.map_cons, List.sum_cons, List.map_append, List.sum_append, List.length_cons]
   show key.length + 1 + _ ≤ _
   omega
theorem clls_nm : (clls.all fun m => nmB (lB m.name) && decide ((lB m.name).length ≤ 14)) = true := by decide +kernel
theorem rulL_ok {r : RulP} (h : RulOk r) (hr : ∀ c ∈ r.conds, c.mask ≤ 18446744073709551615 ∧ c.val ≤ 18446744073709551615) : (∀ w ∈ rulL r, WOk w) ∧ rulL r ≠ [] ∧ ((rulL r).map fun w => w.2.1.length + 1).sum ≤ 390 := by
 obtain ⟨a1, a2, a3⟩ := actL_ok h.act
 obtain ⟨c1, c2⟩ := cndsL_ok r.conds (fun c hc => ⟨h.conds c hc, hr c hc⟩) tIf (by decide) (by decide)
 have hn : nmB (h5j r.num) = true ∧ (h5j r.num).length ≤ 14 := by
  cases hc : h4w r.num clls with
  | none => have := h.num; rw [hc] at this; cases this
  | some m =>
   have h2 := List.all_eq_true.1 clls_nm m (cnumF_mem hc).1
   rw [Bool.and_eq_true, decide_eq_true_eq] at h2
   unfold h5j
   rw [hc]; exact h2
 refine ⟨fun w hw => ?_, by simp [rulL], ?_⟩
 ·rcases List.mem_cons.1 hw with rfl | hw
  ·exact nmB_ok (by decide)
  rcases List.mem_cons.1 hw with rfl | hw
  ·exact nmB_ok hn.1
  rcases List.mem_append.1 hw with hw | hw
  ·exact a1 w hw
  ·exact c1 w hw
 ·show ((wN tCall :: wN (h5j r.num) :: (actL r.act ++ cndsL tIf r.conds)).map fun w => w.2.1.length + 1).sum ≤ _
  rw [List.map_cons, List.map_cons, List.sum_cons, List.sum_cons, List.map_append, List.sum_append]
  show tCall.length + 1 + ((h5j r.num).length + 1 + _) ≤ _
  have e : tCall.length = 4 := rfl
  have := h.len
  omega
theorem spcL_len (ws : List W3) : (spcL ws).length ≤ (ws.map fun w => w.2.1.length + 1).sum := by
 cases ws with
 | nil => exact Nat.le_refl _
 | cons w r =>
  rw [List.map_cons, List.sum_cons]
  show (w.2.1 ++ r.flatMap fun v => 32 :: v.2.1).length ≤ _
  have key : ∀ r : List W3, (r.flatMap fun v => 32 :: v.2.1).length ≤ (r.map fun w => w.2.1.length + 1).sum := by
   intro r
   induction r with
   | nil => exact Nat.le_refl _
   | cons v r ih =>
    rw [List.flatMap_cons, List.length_append, List.map_cons, List.sum_cons, List.length_cons]
    omega
  have := key r
  rw [List.length_append]
  omega
theorem lnsT_len (D : List (List W3)) (k : Nat) (h : ∀ ws ∈ D, (ws.map fun w => w.2.1.length + 1).sum ≤ k) : (lnsT D).length ≤ D.length * (k + 1) := by
 induction D with
 | nil => exact Nat.zero_le _
 | cons ws D ih =>
  have h1 := ih (fun w hw => h w (List.mem_cons_of_mem _ hw))
  have h2 := h ws (List.mem_cons_self ..)
  have h3 := spcL_len ws
  show ((ws :: D).flatMap fun ws => spcL ws ++ [10]).length ≤ _
  rw [List.flatMap_cons, List.length_append, List.length_append, List.length_singleton, List.length_cons, Nat.succ_mul]
  have e : (D.flatMap fun ws => spcL ws ++ [10]).length = (lnsT D).length := rfl
  omega
theorem lnsT_app (A B : List (List W3)) : lnsT (A ++ B) = lnsT A ++ lnsT B := by simp [lnsT]
theorem polL_ok (P : Pol) (h : PolOk P) (hr : PolRn P) : LinesOk (polL P) ∧ (polT P).length ≤ 55000 := by
 obtain ⟨n1, n2⟩ := nm_ok h.nm
 obtain ⟨a1, a2, a3⟩ := actL_ok h.df
 have hru : ∀ ws ∈ P.rules.map rulL, (∀ w ∈ ws, WOk w) ∧ ws ≠ [] ∧ (ws.map fun w => w.2.1.length + 1).sum ≤ 390 := by
  intro ws hws
  obtain ⟨r, hr1, rfl⟩ := List.mem_map.1 hws
  exact rulL_ok (h.rules r hr1) (hr.c r hr1)
 have hha : ∀ ws ∈ hanL P.hd, (∀ w ∈ ws, WOk w) ∧ ws ≠ [] ∧ (ws.map fun w => w.2.1.length + 1).sum ≤ 390 := by
  intro ws hws
  unfold hanL at hws
  split at hws
  ·rename_i h0
   obtain ⟨r1, r2⟩ := rg_ok h0 h.hd
   rw [List.mem_singleton.1 hws]
   refine ⟨fun w hw => ?_, by simp, ?_⟩
   ·rcases List.mem_cons.1 hw with rfl | hw
    ·exact nmB_ok (by decide)
    ·rw [List.mem_singleton.1 hw]; exact r1
   ·show tHandle.length + 1 + ((rgT P.hd).length + 1 + 0) ≤ 390
    have e : tHandle.length = 6 := rfl
    omega
  ·cases hws
 have hpa : ∀ ws ∈ P.paths.map benL, (∀ w ∈ ws, WOk w) ∧ ws ≠ [] ∧ (ws.map fun w => w.2.1.length + 1).sum ≤ 450 := by
  intro ws hws
  obtain ⟨p, hp, rfl⟩ := List.mem_map.1 hws
  obtain ⟨g1, g2, g3, g4⟩ := h.paths p hp
  obtain ⟨p1, p2⟩ := wP_ok g1
  obtain ⟨r1, r2⟩ := rg_ok g2 (and_sub g3 h.hd)
  refine ⟨fun w hw => ?_, by simp [benL], ?_⟩
  ·simp only [benL, List.mem_cons, List.not_mem_nil, or_false] at hw
   rcases hw with rfl | rfl | rfl
   ·exact nmB_ok (by decide)
   ·exact p1
   ·exact r1
  ·show tBeneath.length + 1 + (p.1.length + 1 + ((rgT p.2).length + 1 + 0)) ≤ 450
   have e : tBeneath.length = 7 := rfl
   omega
 have hpo : ∀ ws ∈ P.ports.map porL, (∀ w ∈ ws, WOk w) ∧ ws ≠ [] ∧ (ws.map fun w => w.2.1.length + 1).sum ≤ 390 := by
  intro ws hws
  obtain ⟨p, hp, rfl⟩ := List.mem_map.1 hws
  obtain ⟨g1, g2, g3, g4⟩ := h.ports p hp
  obtain ⟨r1, r2⟩ := rg_ok g2 (and_sub g3 h.hd)
  have hd := d20 (n:=p.1) (by omega)
  refine ⟨fun w hw => ?_, by simp [porL], ?_⟩
  ·simp only [porL, List.mem_cons, List.not_mem_nil, or_false] at hw
   rcases hw with rfl | rfl | rfl
   ·exact nmB_ok (by decide)
   ·exact wD_ok (by omega)
   ·exact r1
  ·show tPort.length + 1 + ((decF p.1).length + 1 + ((rgT p.2).length + 1 + 0)) ≤ 390
   have e : tPort.length = 4 := rfl
   omega
 have hh : ∀ ws ∈ [[wN tPolicy, wN P.nm], wN tDefault :: actL P.df], (∀ w ∈ ws, WOk w) ∧ ws ≠ [] ∧ (ws.map fun w => w.2.1.length + 1).sum ≤ 40 := by
  intro ws hws
  rcases List.mem_cons.1 hws with rfl | hws
  ·refine ⟨fun w hw => ?_, by simp, ?_⟩
   ·rcases List.mem_cons.1 hw with rfl | hw
    ·exact nmB_ok (by decide)
    ·rw [List.mem_singleton.1 hw]; exact n1
   ·show tPolicy.length + 1 + (P.nm.length + 1 + 0) ≤ 40
    have e : tPolicy.length = 6 := rfl
    omega
  ·rw [List.mem_singleton.1 hws]
   refine ⟨fun w hw => ?_, by simp, ?_⟩
   ·rcases List.mem_cons.1 hw with rfl | hw
    ·exact nmB_ok (by decide)
    ·exact a1 w hw
   ·rw [List.map_cons, List.sum_cons]
    show tDefault.length + 1 + _ ≤ 40
    have e : tDefault.length = 7 := rfl
    omega
 have e : polL P = [[wN tPolicy, wN P.nm], wN tDefault :: actL P.df] ++ (P.rules.map rulL ++ (hanL P.hd ++ (P.paths.map benL ++ P.ports.map porL))) := rfl
 have all : ∀ ws ∈ polL P, (∀ w ∈ ws, WOk w) ∧ ws ≠ [] := by
  intro ws hws
  rw [e] at hws
  rcases List.mem_append.1 hws with hws | hws
  ·exact ⟨(hh ws hws).1, (hh ws hws).2.1⟩
  rcases List.mem_append.1 hws with hws | hws
  ·exact ⟨(hru ws hws).1, (hru ws hws).2.1⟩
  rcases List.mem_append.1 hws with hws | hws
  ·exact ⟨(hha ws hws).1, (hha ws hws).2.1⟩
  rcases List.mem_append.1 hws with hws | hws
  ·exact ⟨(hpa ws hws).1, (hpa ws hws).2.1⟩
  ·exact ⟨(hpo ws hws).1, (hpo ws hws).2.1⟩
 refine ⟨⟨fun ws hws => (all ws hws).2, fun ws hws => (all ws hws).1⟩, ?_⟩
 unfold polT
 rw [e, lnsT_app, lnsT_app, lnsT_app, lnsT_app]
 have b1 := lnsT_len _ _ (fun ws hws => (hh ws hws).2.2)
 have b2 := lnsT_len _ _ (fun ws hws => (hru ws hws).2.2)
 have b3 := lnsT_len _ _ (fun ws hws => (hha ws hws).2.2)
 have b4 := lnsT_len _ _ (fun ws hws => (hpa ws hws).2.2)
 have b5 := lnsT_len _ _ (fun ws hws => (hpo ws hws).2.2)
 have l3 : (hanL P.hd).length ≤ 1 := by unfold hanL; split <;> simp
 rw [List.length_map] at b2 b4 b5
 simp only [List.length_append]
 have l1 := h.l1
 have l2 := h.l2
 have l4 := h.l3
 simp only [List.length_cons, List.length_nil] at b1
 omega
theorem pol_back (P : Pol) (h : PolOk P) (hr : PolRn P) : polF (polT P) = (P, (0, 0, 0)) := by
 obtain ⟨h1, h2⟩ := polL_ok P h hr
 obtain ⟨ts, h3, h4⟩ := lex_lines (polL P) h1 (by show (polT P).length ≤ 65536; omega)
 exact pol_words P h h3 h4
theorem nd_app {α} {l : List α} {a : α} (h : l.Nodup) (ha : a ∉ l) : (l ++ [a]).Nodup := by
 rw [List.nodup_append]
 refine ⟨h, by simp, fun x hx y hy => ?_⟩
 rw [List.mem_singleton.1 hy]
 exact fun e => ha (e ▸ hx)
theorem mem_app1 {α} {p : α → Prop} {l : List α} {a : α} (h : ∀ x ∈ l, p x) (ha : p a) : ∀ x ∈ l ++ [a], p x := by
 intro x hx
 rcases List.mem_append.1 hx with h1 | h1
 ·exact h x h1
 ·rw [List.mem_singleton.1 h1]; exact ha
theorem firstE_z {l : List Nat} : h5q l = 0 ↔ ∀ e ∈ l, e = 0 := by
 induction l with
 | nil => simp [h5q]
 | cons e r ih =>
  unfold h5q
  split
  ·rename_i h
   exact ⟨fun h2 => absurd h2 h, fun h2 => absurd (h2 e (List.mem_cons_self ..)) h⟩
  ·rename_i h
   rw [ih]
   exact ⟨fun h2 x hx => by
    rcases List.mem_cons.1 hx with rfl | hx
    ·exact Decidable.byContradiction h
    ·exact h2 x hx, fun h2 x hx => h2 x (List.mem_cons_of_mem _ hx)⟩
theorem chkC_z {c : Cnd} : chkC c.g = 0 ↔ CndOk c := by
 obtain ⟨a, o, m, v⟩ := c
 unfold chkC Cnd.g
 dsimp only
 constructor
 ·intro h
  split at h
  ·cases h
  rename_i h1
  split at h
  ·cases h
  rename_i h2
  split at h
  ·cases h
  rename_i h3
  split at h
  ·cases h
  rename_i h4
  refine ⟨?_, ?_, ?_, ?_, ?_⟩
  ·dsimp only; omega
  ·dsimp only; omega
  ·dsimp only; omega
  ·intro h7; dsimp only at *; exact Decidable.byContradiction fun hm => h3 ⟨h7, hm⟩
  ·intro h7; dsimp only at *; exact ⟨fun hm => h4 ⟨h7, .inl hm⟩, Decidable.byContradiction fun hm => h4 ⟨h7, .inr hm⟩⟩
 ·rintro ⟨h1, h2, h3, h4, h5⟩
  dsimp only at *
  rw [if_neg (by omega), if_neg (by omega), if_neg (fun h => h.2 (h4 h.1)), if_neg (fun h => by
   obtain ⟨g1, g2⟩ := h5 h.1
   rcases h.2 with h6 | h6
   ·exact g1 h6
   ·exact h6 g2)]
theorem grant_z {hd r k : Nat} : grantF hd r k = true ↔ r ≠ 0 ∧ r &&& hd = r ∧ r &&& k = r := by
 unfold grantF
 rw [Bool.and_eq_true, Bool.and_eq_true, decide_eq_true_eq]
 exact ⟨fun h => ⟨h.1, hasF_nat h.2.1, hasF_nat h.2.2⟩, fun h => ⟨h.1, nat_hasF h.2.1, nat_hasF h.2.2⟩⟩
theorem chkR_z {r : RulP} (h0 : 0 ≤ r.act) : chkR r.g = 0 ↔ RulOk r := by
 obtain ⟨n, a, cs⟩ := r
 unfold chkR RulP.g
 dsimp only
 rw [List.length_map]
 constructor
 ·intro h
  split at h
  ·cases h
  rename_i h1
  split at h
  ·cases h
  rename_i h2
  split at h
  ·cases h
  rename_i h3
  rw [firstE_z] at h
  refine ⟨?_, h0, ?_, ?_, ?_⟩
  ·dsimp only; cases hc : h4w n clls with
   | none => rw [hc] at h1; exact absurd rfl h1
   | some _ => rfl
  ·dsimp only; simpa using h2
  ·dsimp only; omega
  ·intro c hc
   exact chkC_z.1 (h _ (List.mem_map.2 ⟨c.g, List.mem_map.2 ⟨c, hc, rfl⟩, rfl⟩))
 ·rintro ⟨h1, h2, h3, h4, h5⟩
  dsimp only at *
  rw [if_neg (by cases hc : h4w n clls with
   | none => rw [hc] at h1; cases h1
   | some _ => exact fun h => by cases h), if_neg (by rw [h3]; exact fun h => by cases h), if_neg (by omega), firstE_z]
  intro e he
  obtain ⟨c', hc', rfl⟩ := List.mem_map.1 he
  obtain ⟨c, hc, rfl⟩ := List.mem_map.1 hc'
  exact chkC_z.2 (h5 c hc)
theorem chkPaths_z (hd : Nat) (ps : List (List UInt8 × Nat)) : ∀ seen : List (List UInt8), h4s hd ps seen = 0 ↔ (∀ p ∈ ps, Pt.pathF p.1 = true ∧ grantF hd p.2 2047 = true) ∧ (ps.map (·.1)).Nodup ∧ ∀ p ∈ ps, p.1 ∉ seen := by
 induction ps with
 | nil => intro seen; simp [h4s]
 | cons p r ih =>
  intro seen
  unfold h4s
  cases h1 : Pt.pathF p.1 with
  | false =>
   rw [if_pos rfl]
   exact ⟨fun h => (by cases h), fun h => by have := (h.1 p (List.mem_cons_self ..)).1; rw [h1] at this; cases this⟩
  | true =>
   rw [if_neg (by decide)]
   cases h2 : grantF hd p.2 2047 with
   | false =>
    rw [if_pos rfl]
    exact ⟨fun h => (by cases h), fun h => by have := (h.1 p (List.mem_cons_self ..)).2; rw [h2] at this; cases this⟩
   | true =>
    rw [if_neg (by decide)]
    by_cases h3 : p.1 ∈ seen
    ·rw [if_pos h3]
     exact ⟨fun h => (by cases h), fun h => absurd h3 (h.2.2 p (List.mem_cons_self ..))⟩
    ·rw [if_neg h3, ih]
     constructor
     ·rintro ⟨g1, g2, g3⟩
      refine ⟨?_, ?_, ?_⟩
      ·intro q hq
       rcases List.mem_cons.1 hq with rfl | hq
       ·exact ⟨h1, h2⟩
       ·exact g1 q hq
      ·rw [List.map_cons, List.nodup_cons]
       refine ⟨fun hm => ?_, g2⟩
       obtain ⟨q, hq, he⟩ := List.mem_map.1 hm
       exact g3 q hq (by rw [he]; simp)
      ·intro q hq
       rcases List.mem_cons.1 hq with rfl | hq
       ·exact h3
       ·exact fun hm => g3 q hq (List.mem_append_left _ hm)
     ·rintro ⟨g1, g2, g3⟩
      rw [List.map_cons, List.nodup_cons] at g2
      refine ⟨fun q hq => g1 q (List.mem_cons_of_mem _ hq), g2.2, fun q hq hm => ?_⟩
      rcases List.mem_append.1 hm with hm | hm
      ·exact g3 q (List.mem_cons_of_mem _ hq) hm
      ·exact g2.1 (List.mem_map.2 ⟨q, hq, List.mem_singleton.1 hm⟩)
theorem chkPorts_z (hd : Nat) (ps : List (Nat × Nat)) : ∀ seen : List Nat, h5g hd ps seen = 0 ↔ (∀ p ∈ ps, grantF hd p.2 49152 = true) ∧ (ps.map (·.1)).Nodup ∧ ∀ p ∈ ps, p.1 ∉ seen := by
 induction ps with
 | nil => intro seen; simp [h5g]
 | cons p r ih =>
  intro seen
  unfold h5g
  cases h2 : grantF hd p.2 49152 with
  | false =>
   rw [if_pos rfl]
   exact ⟨fun h => (by cases h), fun h => by have := h.1 p (List.mem_cons_self ..); rw [h2] at this; cases this⟩
  | true =>
   rw [if_neg (by decide)]
   by_cases h3 : p.1 ∈ seen
   ·rw [if_pos h3]
    exact ⟨fun h => (by cases h), fun h => absurd h3 (h.2.2 p (List.mem_cons_self ..))⟩
   ·rw [if_neg h3, ih]
    constructor
    ·rintro ⟨g1, g2, g3⟩
     refine ⟨?_, ?_, ?_⟩
     ·intro q hq
      rcases List.mem_cons.1 hq with rfl | hq
      ·exact h2
      ·exact g1 q hq
     ·rw [List.map_cons, List.nodup_cons]
      refine ⟨fun hm => ?_, g2⟩
      obtain ⟨q, hq, he⟩ := List.mem_map.1 hm
      exact g3 q hq (by rw [he]; simp)
     ·intro q hq
      rcases List.mem_cons.1 hq with rfl | hq
      ·exact h3
      ·exact fun hm => g3 q hq (List.mem_append_left _ hm)
    ·rintro ⟨g1, g2, g3⟩
     rw [List.map_cons, List.nodup_cons] at g2
     refine ⟨fun q hq => g1 q (List.mem_cons_of_mem _ hq), g2.2, fun q hq hm => ?_⟩
     rcases List.mem_append.1 hm with hm | hm
     ·exact g3 q (List.mem_cons_of_mem _ hq) hm
     ·exact g2.1 (List.mem_map.2 ⟨q, hq, List.mem_singleton.1 hm⟩)
theorem hd_z {n : Nat} : h4u (n : Int) 51199 = 0 ↔ n &&& 51199 = n := by
 have e : Rg.hasF 51199 n = true ↔ h4u (n : Int) 51199 = 0 := by
  unfold Rg.hasF
  rw [decide_eq_true_eq]; rfl
 rw [← e]
 exact ⟨hasF_nat, nat_hasF⟩
theorem chkG_z {P : Pol} (h0 : 0 ≤ P.df) (ha : ∀ r ∈ P.rules, 0 ≤ r.act) (hq : ∀ p ∈ P.ports, p.1 < 65536) : chkG P.g = 0 ↔ PolOk P := by
 obtain ⟨nm, df, rs, hd, ps, qs⟩ := P
 unfold chkG Pol.g
 dsimp only at *
 rw [List.length_map]
 constructor
 ·intro h
  split at h
  ·cases h
  rename_i h1
  split at h
  ·cases h
  rename_i h2
  split at h
  ·cases h
  rename_i h3
  split at h
  ·cases h
  rename_i h4
  split at h
  ·rename_i h5; exact absurd h h5
  rename_i h5
  split at h
  ·rename_i h6; exact absurd h h6
  rename_i h6
  have h5 := firstE_z.1 (Decidable.byContradiction h5)
  obtain ⟨p1, p2, -⟩ := (chkPaths_z hd ps []).1 (Decidable.byContradiction h6)
  obtain ⟨q1, q2, -⟩ := (chkPorts_z hd qs []).1 h
  refine ⟨by simpa using h1, h0, by simpa using h2, ?_, hd_z.1 (Decidable.byContradiction h4), by dsimp only; omega, by dsimp only; omega, by dsimp only; omega, ?_, p2, ?_, q2⟩
  ·intro r hr
   exact (chkR_z (ha r hr)).1 (h5 _ (List.mem_map.2 ⟨r.g, List.mem_map.2 ⟨r, hr, rfl⟩, rfl⟩))
  ·intro p hp
   exact ⟨(p1 p hp).1, grant_z.1 (p1 p hp).2⟩
  ·intro p hp
   exact ⟨hq p hp, grant_z.1 (q1 p hp)⟩
 ·rintro ⟨h1, h2, h3, h4, h5, h6, h7, h8, h9, h10, h11, h12⟩
  dsimp only at *
  have e5 : h5q ((rs.map RulP.g).map chkR) = 0 := by
   rw [firstE_z]
   intro e he
   obtain ⟨r', hr', rfl⟩ := List.mem_map.1 he
   obtain ⟨r, hr, rfl⟩ := List.mem_map.1 hr'
   exact (chkR_z (ha r hr)).2 (h4 r hr)
  have e6 : h4s hd ps [] = 0 := (chkPaths_z hd ps []).2 ⟨fun p hp => ⟨(h9 p hp).1, grant_z.2 (h9 p hp).2⟩, h10, fun _ _ h => by cases h⟩
  have e7 : h5g hd qs [] = 0 := (chkPorts_z hd qs []).2 ⟨fun p hp => grant_z.2 (h11 p hp).2, h12, fun _ _ h => by cases h⟩
  rw [if_neg (by rw [h1]; decide), if_neg (by rw [h3]; decide), if_neg (by omega), if_neg (fun h => h (hd_z.2 h5)), if_neg (fun h => h e5), if_neg (fun h => h e6), e7]
section
variable {P : Program} {n : Nat} {l : List (Nat × Value)} {S : List Nat} {w0 : World} {L : List Blk} {k : Kont} {ops : Array Oper}
structure TagC (p : Prop) : Prop where
 out : p
theorem H_run3t {i j m fuel : Nat} {listed : Array Bool} {Lb : List Blk} {o o' o'' : Oper} (hi : ops[i]? = some o) (hj : ops[j]? = some o') (hm : ops[m]? = some o'') (hr : Region.ready .any ops listed = [i, j, m]) (h : TagA (G n l S w0 L (K1 P ops k o (KHS P S w0 Lb ops k fuel (listed.setIfInBounds i true)))))
  (h' : TagB (G n l S w0 L (K1 P ops k o' (KHS P S w0 Lb ops k fuel (listed.setIfInBounds j true))))) (h'' : TagC (G n l S w0 L (K1 P ops k o'' (KHS P S w0 Lb ops k fuel (listed.setIfInBounds m true))))) : G n l S w0 L (KH P S w0 Lb ops k (fuel + 1) listed) := .mk fun a w hF H => by
 refine ⟨wpAnyH_all hr (by simp) fun q hq => ?_⟩
 rcases (show q = i ∨ q = j ∨ q = m by simpa using hq) with rfl | rfl | rfl
 ·have hh := (h.out.out a w hF H).out
  unfold wpOp
  simp only [hi]
  split
  ·rename_i hw; rw [if_pos hw] at hh; exact .inl (Oper.wp_mono (fun _ _ h => ⟨h.out.1, h.out.2.out⟩) hh)
  ·rename_i hw; rw [if_neg hw] at hh; exact ⟨hh.out.1, hh.out.2.out⟩
 ·have hh := (h'.out.out a w hF H).out
  unfold wpOp
  simp only [hj]
  split
  ·rename_i hw; rw [if_pos hw] at hh; exact .inl (Oper.wp_mono (fun _ _ h => ⟨h.out.1, h.out.2.out⟩) hh)
  ·rename_i hw; rw [if_neg hw] at hh; exact ⟨hh.out.1, hh.out.2.out⟩
 ·have hh := (h''.out.out a w hF H).out
  unfold wpOp
  simp only [hm]
  split
  ·rename_i hw; rw [if_pos hw] at hh; exact .inl (Oper.wp_mono (fun _ _ h => ⟨h.out.1, h.out.2.out⟩) hh)
  ·rename_i hw; rw [if_neg hw] at hh; exact ⟨hh.out.1, hh.out.2.out⟩
end
abbrev AT10 : ByteArray := ⟨#[112, 111, 108, 105, 99, 121, 32, 112, 10, 100, 101, 102, 97, 117, 108, 116, 32, 97, 108, 108, 111, 119, 10, 99, 97, 108, 108, 32, 119, 114, 105, 116, 101, 32, 107, 105, 108, 108, 10]⟩
theorem at10_pol : polF (lB AT10) = (⟨[112], 2147418112, [⟨1, 2147483648, []⟩], 0, [], []⟩, (0, 0, 0)) := by kernel_rfl
theorem RulsR.inv {rs : List RulP} {cz : List Value} {ec : List Blk} (h : RulsR rs cz ec) : (rs = [] ∧ cz = [] ∧ ec = []) ∨ ∃ rs' cz' ec' r v e, rs = rs' ++ [r] ∧ cz = cz' ++ [.int .u32 r.num, .int .u32 r.act, v] ∧ ec = e ++ ec' ∧ RulsR rs' cz' ec' ∧ Own 99 4 v r.conds.length (cndC r.conds) e := by
 cases h with
 | nil => exact Or.inl ⟨rfl, rfl, rfl⟩
 | snoc h1 h2 => exact Or.inr ⟨_, _, _, _, _, _, rfl, rfl, rfl, h1, h2⟩
theorem rules_one {r : RulP} {cz : List Value} {ec : List Blk} (h : RulsR [r] cz ec) : ∃ v, cz = [.int .u32 r.num, .int .u32 r.act, v] := by
 rcases h.inv with ⟨h1, -⟩ | ⟨rs', cz', ec', r', v, e, h1, h2, -, h3, -⟩
 ·cases h1
 ·have hl := congrArg List.length h1
  rw [List.length_append] at hl
  obtain rfl : rs' = [] := List.eq_nil_of_length_eq_zero (by simpa using hl)
  injection h1 with h4 h5
  subst h4
  rcases h3.inv with ⟨-, h6, -⟩ | ⟨rs2, cz2, ec2, r2, v2, e2, h6, -⟩
  ·exact ⟨v, by rw [h2, h6]; rfl⟩
  ·have hl := congrArg List.length h6
   rw [List.length_append] at hl
   simp at hl
theorem pw10_c {S w0 L} (pb ct rb : Nat) : Fn Tryz.prog 10 #[.pointer (some ⟨pb, 0, none⟩), .string AT10] S w0 (prB pb ct rb :: tbl0 ct 0 0 :: Rg.wrd0 rb :: L) fun v L' => ∃ g cap cur p1 p2 p3 q1 q2 q3,
  v = h2y [.agg #[.string ⟨#[112]⟩, .int .u32 2147418112, .slice (some ⟨g, 0, none⟩) 1 cap, .int .u16 0, .slice p1 p2 p3, .slice q1 q2 q3], .agg #[.int .i64 0, .int .i64 0, .int .i64 0]] ∧ 3 ≤ cur.size ∧ cur.toList[0]? = some (.int .u32 1) ∧ cur.toList[1]? = some (.int .u32 2147483648) ∧ ⟨true, g, .cells cur 73 (0, 0)⟩ :: L = L' := by
 refine (parse_c (S:=S) (w0:=w0) pb ct rb 0 L (tbl0 ct 0 0 :: Rg.wrd0 rb :: L) (by omega) ⟨0, 0, none, rfl⟩ AT10 (by decide)).mono ?_
 rintro v L' ⟨d, m', T', rfl, hd, -, ⟨m1, m2, o, rfl⟩, rfl⟩
 rw [at10_pol] at hd ⊢
 obtain ⟨r1, r3, p1, p3, q1, q3, e1, e2, e3⟩ := hd.sl
 obtain ⟨vc, hcz⟩ := rules_one hd.rs
 rcases h2z hd.vr with ⟨h1, h0, -, -⟩ | ⟨g, cap, cur, h1, h2, h3, h4, h5, h6⟩
 ·cases h0
 ·rw [hcz] at h6
  have h7 : ∀ i : Nat, i < 3 → cur.toList[i]? = [Value.int .u32 1, .int .u32 2147483648, vc][i]? := by
   intro i hi
   have h8 : (cur.toList.take 3)[i]? = [Value.int .u32 1, .int .u32 2147483648, vc][i]? := by
    show (cur.toList.take (1 * 3))[i]? = _
    rw [show (1 : Nat) = ([⟨1, 2147483648, []⟩] : List RulP).length from rfl, h6]
   rw [← h8, List.getElem?_take_of_lt hi]
  have h9 : ([⟨1, 2147483648, []⟩] : List RulP).length = 1 := rfl
  rw [h9] at h3
  refine ⟨_, ⟨g, cap, cur, p1, _, p3, q1, _, q3, by rw [h1, e2, e3]; rfl, by omega, h7 0 (by omega), h7 1 (by omega), rfl⟩, fun w H => ?_⟩
  unfold PoD.blocks at H
  rw [h2] at H
  refine H.sub (List.Sublist.cons _ ?_)
  simp only [List.cons_append, List.nil_append]
  refine List.Sublist.cons_cons _ ?_
  simp only [← List.append_assoc]
  exact List.sublist_append_right _ _
theorem awake10_c {S w0 L} : Fn Tryz.prog 8 #[] S w0 L fun v L' => v = .bool true ∧ L = L' := by
 have hp := fun (L : List Blk) (pb ct rb : Nat) => pw10_c (S:=S) (w0:=w0) (L:=L) pb ct rb
 refine Fn0 Tryz.func8 Tryz.ntmps8 rfl ?_
 repeat' (first | refine h0i ?_ | refine h0b ?_ | refine h0v ?_ | (refine gR 0 (p_a (h:=h0a ?_))) | (refine gR 1 ?_ <;> (try refine h0c ?_; (refine q_c 9 (c:=by apply new_q) (h:=?_); rintro _ _ ⟨pb, ct, rb, rfl, rfl⟩; (try simp only [zzE, zzF]))) <;> (try refine h0c ?_; (refine q_c 10 (c:=by apply hp) (h:=?_); rintro _ _ ⟨g, cap, cur, p1, p2, p3, q1, q2, q3, rfl, hsz, h0, h1, rfl⟩; (try simp only [zzE, zzF]))) <;> (try refine p_m (h:=p_x (h:=q_x ?_))) <;> (try refine h0c ?_; (refine h0k (t:=36) rfl Tryz.zeroValue36 ?_; intro nb hnb; (try simp only [Value.cells]))) <;> (try refine h0c ?_; (refine h0k (t:=25) rfl Tryz.zeroValue25 ?_; intro nb hnb; (try simp only [Value.cells]))) <;> (try refine h0c ?_; (refine q_W ?_)) <;> (try refine h0c ?_; (refine q_W ?_)) <;> (try refine h0a ?_)) | (refine gR 2 (q_e (q_L h3z) ?_) <;> (try refine q_e (by exact h0q (t:=25) (fun vs => (match vs with | [] => [Value.int .i64 0, Value.int .i64 0, Value.int .i64 0] | _ => [])) rfl (fun w => by kernel_rfl)) ?_; (try simp only [Value.cells]); (try simp only [zzC, zzN])) <;> (try refine p_e (by apply h1l (op:=.eql) (t:=25); exact rfl; exact rfl; kernel_rfl; (apply rb_eql_agg Tryz.underlying25 (by kernel_rfl); apply EqF.int; (focus (simp)); exact Tryz.underlying3; exact rfl; exact rfl; exact rfl; apply EqF.int; (focus (simp)); exact Tryz.underlying3; exact rfl; exact rfl; exact rfl; exact EqF.int1 (by simp) Tryz.underlying23 rfl rfl rfl)) (h:=p_m (h:=p_y (q_f h6b) (h:=p_y q_l (h:=p_y (q_b (r:=by exact h2m)) (h:=p_p (h:=p_m (h:=p_y (q_f fo_36_1) (h:=q_y q_l ?_))))))))) <;> (try refine q_y (by exact q_b (r:=by refine h1e ?_; first | rfl | (with_reducible assumption) | (decide; done) | omega)) ?_) <;> (try refine p_p (h:=p_m (h:=p_y (q_f h2t) (h:=p_y q_l (h:=q_y (by apply h0e; exact rfl; exact (fun _ => BigFrame.builtin_len ..); apply h0d Tryz.underlying30; exact h3m) ?_))))) <;> (try refine q_y (by exact q_b (r:=by refine h1e ?_; first | rfl | (with_reducible assumption) | (decide; done) | omega)) ?_) <;> (try refine p_p (h:=p_m (h:=p_y (q_f h2t) (h:=p_y q_l (h:=p_y (by apply h0n; exact rfl; exact rfl; (focus (apply h2j Tryz.underlying30 sz_73; omega; omega; exact c_1))) (h:=p_y (q_f fo_73_0) (h:=q_y (by apply h1v (t:=28); exact rfl; exact h3i; kernel_rfl; kernel_rfl; (with_reducible assumption)) ?_))))))) <;> (try refine q_y (by exact q_b (r:=by refine h1e ?_; first | rfl | (with_reducible assumption) | (decide; done) | omega)) ?_) <;> (try refine p_p (h:=p_m (h:=p_y (q_f h2t) (h:=p_y q_l (h:=p_y (by apply h0n; exact rfl; exact rfl; (focus (apply h2j Tryz.underlying30 sz_73; omega; omega; exact c_1))) (h:=p_y (q_f fo_73_1) (h:=q_y (by apply h1v (t:=29); exact rfl; exact h3i; kernel_rfl; kernel_rfl; (with_reducible assumption)) ?_))))))) <;> (try refine q_y (by exact q_b (r:=by refine h1e ?_; first | rfl | (with_reducible assumption) | (decide; done) | omega)) ?_) <;> (try refine p_p (h:=p_a (h:=h0a ?_)))))
 (refine h0o Tryz.results8 (.tmp rfl .nil) ?_)
 exact ⟨_, ⟨rfl, rfl⟩, by intro w H; refine H.sub ?_; (try simp only [zzC, zzN]); repeat (first | exact List.Sublist.refl _ | refine List.Sublist.cons _ ?_)⟩
theorem RulsG.snoc {L : List Blk} {v : Value} {r : GRul} : ∀ {rs : List GRul} {cz : List Value}, RulsG L rs cz → CndS L v r.conds → RulsG L (rs ++ [r]) (cz ++ [.int .u32 r.num, .int .u32 r.act, v])
 | [], cz, h, hc => by
  obtain rfl : cz = [] := h
  exact ⟨v, [], rfl, hc, rfl⟩
 | _ :: _, _, ⟨v2, cz', h1, h2, h3⟩, hc => ⟨v2, _, by rw [h1]; rfl, h2, RulsG.snoc h3 hc⟩
theorem RulsR.g {rs : List RulP} {cz : List Value} {ec : List Blk} (h : RulsR rs cz ec) (hl : ∀ r ∈ rs, r.conds.length ≤ maxLen) : RulsG ec (rs.map RulP.g) cz := by
 induction h with
 | nil => rfl
 | @snoc rs cz ec r v e _ ho ih =>
  rw [List.map_append]
  obtain ⟨a, c, hv, hs⟩ := ho.sli ec
  refine RulsG.snoc (RulsG.upA e (ih fun q hq => hl q (List.mem_append_left _ hq))) ?_
  refine ⟨a, c, ?_, ?_, ?_⟩
  ·show v = .slice a (r.conds.map Cnd.g).length c
   rw [List.length_map]; exact hv
  ·show Sli (e ++ ec) a (r.conds.map Cnd.g).length 4 (gcC (r.conds.map Cnd.g))
   rw [List.length_map, gcC_map]; exact hs
  ·show (r.conds.map Cnd.g).length ≤ maxLen
   rw [List.length_map]; exact hl r (List.mem_append_right _ (List.mem_singleton.2 rfl))
theorem PoD.ok.polS {d : PoD} {P : Pol} (h : d.ok P) (hl : ∀ r ∈ P.rules, r.conds.length ≤ maxLen) : PolS d.blocks P.g d.vr d.vp d.vq := by
 obtain ⟨r1, r2, e1, s1⟩ := h.vr.sli (d.ep ++ (d.eq ++ d.ec))
 obtain ⟨p1, p2, e2, s2⟩ := h.vp.sli (d.eq ++ d.ec)
 obtain ⟨q1, q2, e3, s3⟩ := h.vq.sli d.ec
 have g := RulsR.g h.rs hl
 have hm : (1000 : Nat) ≤ maxLen := by unfold maxLen; omega
 have elr : P.g.rules.length = P.rules.length := List.length_map ..
 refine ⟨⟨r1, r2, d.cz, by rw [elr]; exact e1, by rw [elr]; exact s1, ((g.upA d.eq).upA d.ep).upA d.er⟩, ⟨p1, p2, e2, s2.upA d.er⟩, ⟨q1, q2, e3, (s3.upA d.ep).upA d.er⟩, ?_, ?_, ?_⟩
 ·rw [elr]; have := h.l1; omega
 ·show P.paths.length ≤ maxLen
  have := h.l2; omega
 ·show P.ports.length ≤ maxLen
  have := h.l3; omega
theorem condchk_c {S w0 L} (c : GCnd) (h : c.ok) : Fn Tryz.prog 65 #[.agg c.cells.toArray] S w0 L fun v L' => v = .int .i64 (chkC c : Nat) ∧ L = L' := by
 obtain ⟨a, o, m, x⟩ := c
 obtain ⟨h1, h2, h3, h4⟩ := h
 have key : ∀ k : Nat, chkC ⟨a, o, m, x⟩ = k → Fn Tryz.prog 65 #[.agg (GCnd.cells ⟨a, o, m, x⟩).toArray] S w0 L (fun v L' => v = .int .i64 (k : Nat) ∧ L = L') → Fn Tryz.prog 65 #[.agg (GCnd.cells ⟨a, o, m, x⟩).toArray] S w0 L (fun v L' => v = .int .i64 (chkC ⟨a, o, m, x⟩ : Nat) ∧ L = L') := by
  intro k hk hf; rw [hk]; exact hf
 dsimp only [GCnd.cells] at *
 by_cases c1 : a < 0
 ·refine key 204 (by unfold chkC; rw [if_pos (Or.inl c1)]) ?_
  refine Fn1 Tryz.func65 Tryz.ntmps65 rfl rfl ?_
  repeat' (first | refine h0i ?_ | refine h0b ?_ | refine h0t ?_ | refine h1k ?_ | refine h0j ?_ | refine h0v ?_ | refine h0g rfl ?_ | (refine gR 0 ?_ <;> (try refine h0c ?_; (refine h2n (t:=99) rfl rfl ?_; intro nb hnb; (try simp only [Value.cells]))) <;> (try refine p_a (h:=h0a ?_))) | (refine gR 1 (p_e (q_f h4m) (h:=p_e q_l (h:=p_e (q_b (r:=by exact h0u q_o)) (h:=p_m (h:=p_z (h:=p_z (h:=p_z (h:=p_p (h:=p_a (h:=h0a ?_))))))))))) | (refine gR 2 (p_a (h:=h0a ?_))))
  (refine h0o Tryz.results65 (.tmp rfl .nil) ?_)
  exact ⟨_, ⟨rfl, rfl⟩, by intro w H; refine H.sub ?_; (try simp only [zzC, zzN]); repeat (first | exact List.Sublist.refl _ | refine List.Sublist.cons _ ?_)⟩
 by_cases c2 : 5 < a
 ·refine key 204 (by unfold chkC; rw [if_pos (Or.inr c2)]) ?_
  refine Fn1 Tryz.func65 Tryz.ntmps65 rfl rfl ?_
  repeat' (first | refine h0i ?_ | refine h0b ?_ | refine h0t ?_ | refine h1k ?_ | refine h0j ?_ | refine h0v ?_ | refine h0g rfl ?_ | (refine gR 0 ?_ <;> (try refine h0c ?_; (refine h2n (t:=99) rfl rfl ?_; intro nb hnb; (try simp only [Value.cells]))) <;> (try refine p_a (h:=h0a ?_))) | (refine gR 1 (p_e (q_f h4m) (h:=p_e q_l (h:=p_e (q_b (r:=by exact h0y q_o)) (h:=p_m (h:=p_y (q_f h4m) (h:=p_y q_l (h:=p_y (q_b (r:=by exact h1x q_o)) (h:=p_p (h:=p_a (h:=h0a ?_))))))))))) | (refine gR 2 (p_a (h:=h0a ?_))))
  (refine h0o Tryz.results65 (.tmp rfl .nil) ?_)
  exact ⟨_, ⟨rfl, rfl⟩, by intro w H; refine H.sub ?_; (try simp only [zzC, zzN]); repeat (first | exact List.Sublist.refl _ | refine List.Sublist.cons _ ?_)⟩
 have n1 : ¬ (a < 0 ∨ 5 < a) := fun h => h.elim c1 c2
 by_cases c3 : o < 1
 ·refine key 210 (by unfold chkC; rw [if_neg n1, if_pos (Or.inl c3)]) ?_
  refine Fn1 Tryz.func65 Tryz.ntmps65 rfl rfl ?_
  repeat' (first | refine h0i ?_ | refine h0b ?_ | refine h0t ?_ | refine h1k ?_ | refine h0j ?_ | refine h0v ?_ | refine h0g rfl ?_ | refine h0f rfl ?_ | (refine gR 0 ?_ <;> (try refine h0c ?_; (refine h2n (t:=99) rfl rfl ?_; intro nb hnb; (try simp only [Value.cells]))) <;> (try refine p_a (h:=h0a ?_))) | (refine gR 1 (p_e (q_f h4m) (h:=p_e q_l (h:=p_e (q_b (r:=by exact h0y q_o)) (h:=p_m (h:=p_y (q_f h4m) (h:=p_y q_l (h:=p_y (q_b (r:=by exact h1h q_o)) (h:=p_p (h:=p_a (h:=h0a ?_))))))))))) | (refine gR 3 (p_e (q_f h3d) (h:=p_e q_l (h:=p_e (q_b (r:=by exact h0u q_o)) (h:=p_m (h:=p_z (h:=p_z (h:=p_z (h:=p_p (h:=p_a (h:=h0a ?_))))))))))) | (refine gR 4 (p_a (h:=h0a ?_))))
  (refine h0o Tryz.results65 (.tmp rfl .nil) ?_)
  exact ⟨_, ⟨rfl, rfl⟩, by intro w H; refine H.sub ?_; (try simp only [zzC, zzN]); repeat (first | exact List.Sublist.refl _ | refine List.Sublist.cons _ ?_)⟩
 by_cases c4 : 7 < o
 ·refine key 210 (by unfold chkC; rw [if_neg n1, if_pos (Or.inr c4)]) ?_
  refine Fn1 Tryz.func65 Tryz.ntmps65 rfl rfl ?_
  repeat' (first | refine h0i ?_ | refine h0b ?_ | refine h0t ?_ | refine h1k ?_ | refine h0j ?_ | refine h0v ?_ | refine h0g rfl ?_ | refine h0f rfl ?_ | (refine gR 0 ?_ <;> (try refine h0c ?_; (refine h2n (t:=99) rfl rfl ?_; intro nb hnb; (try simp only [Value.cells]))) <;> (try refine p_a (h:=h0a ?_))) | (refine gR 1 (p_e (q_f h4m) (h:=p_e q_l (h:=p_e (q_b (r:=by exact h0y q_o)) (h:=p_m (h:=p_y (q_f h4m) (h:=p_y q_l (h:=p_y (q_b (r:=by exact h1h q_o)) (h:=p_p (h:=p_a (h:=h0a ?_))))))))))) | (refine gR 3 (p_e (q_f h3d) (h:=p_e q_l (h:=p_e (q_b (r:=by exact h0y q_o)) (h:=p_m (h:=p_y (q_f h3d) (h:=p_y q_l (h:=p_y (q_b (r:=by exact h1x q_o)) (h:=p_p (h:=p_a (h:=h0a ?_))))))))))) | (refine gR 4 (p_a (h:=h0a ?_))))
  (refine h0o Tryz.results65 (.tmp rfl .nil) ?_)
  exact ⟨_, ⟨rfl, rfl⟩, by intro w H; refine H.sub ?_; (try simp only [zzC, zzN]); repeat (first | exact List.Sublist.refl _ | refine List.Sublist.cons _ ?_)⟩
 have n2 : ¬ (o < 1 ∨ 7 < o) := fun h => h.elim c3 c4
 by_cases c5 : o = 7
 ·have n3 : ¬ (o ≠ 7 ∧ m ≠ 0) := fun h => h.1 c5
  by_cases c6 : m = 0
  ·refine key 204 (by unfold chkC; dsimp only; rw [if_neg n1, if_neg n2, if_neg n3, if_pos ⟨c5, Or.inl c6⟩]) ?_
   refine Fn1 Tryz.func65 Tryz.ntmps65 rfl rfl ?_
   repeat' (first | refine h0i ?_ | refine h0b ?_ | refine h0t ?_ | refine h1k ?_ | refine h0j ?_ | refine h0v ?_ | refine h0g rfl ?_ | refine h0f rfl ?_ | (refine gR 0 ?_ <;> (try refine h0c ?_; (refine h2n (t:=99) rfl rfl ?_; intro nb hnb; (try simp only [Value.cells]))) <;> (try refine p_a (h:=h0a ?_))) | (refine gR 1 (p_e (q_f h4m) (h:=p_e q_l (h:=p_e (q_b (r:=by exact h0y q_o)) (h:=p_m (h:=p_y (q_f h4m) (h:=p_y q_l (h:=p_y (q_b (r:=by exact h1h q_o)) (h:=p_p (h:=p_a (h:=h0a ?_))))))))))) | (refine gR 3 (p_e (q_f h3d) (h:=p_e q_l (h:=p_e (q_b (r:=by exact h0y q_o)) (h:=p_m (h:=p_y (q_f h3d) (h:=p_y q_l (h:=p_y (q_b (r:=by exact h1h q_o)) (h:=p_p (h:=p_a (h:=h0a ?_))))))))))) | (refine gR 5 (p_e (q_f h3d) (h:=q_e q_l ?_)) <;> (try refine q_e (by exact q_b (r:=by refine h1w ?_; first | rfl | (with_reducible assumption) | (decide; done) | omega)) ?_) <;> (try refine p_m (h:=p_z (h:=p_z (h:=p_z (h:=p_p (h:=p_a (h:=h0a ?_)))))))) | (refine gR 7 (p_e (q_f h3d) (h:=q_e q_l ?_)) <;> (try refine q_e (by exact q_b (r:=by refine h1e ?_; first | rfl | (with_reducible assumption) | (decide; done) | omega)) ?_) <;> (try refine p_m (h:=p_y (q_f h5b) (h:=q_y q_l ?_))) <;> (try refine q_y (by exact q_b (r:=by refine h1e ?_; first | rfl | (with_reducible assumption) | (decide; done) | omega)) ?_) <;> (try refine p_y (h0h rfl) (h:=p_z (h:=p_z (h:=p_z (h:=p_z (h:=p_z (h:=p_z (h:=p_y (h4o rfl rfl) (h:=p_p (h:=p_a (h:=h0a ?_)))))))))))) | (refine gR 8 (p_a (h:=h0a ?_))))
   (refine h0o Tryz.results65 (.tmp rfl .nil) ?_)
   exact ⟨_, ⟨rfl, rfl⟩, by intro w H; refine H.sub ?_; (try simp only [zzC, zzN]); repeat (first | exact List.Sublist.refl _ | refine List.Sublist.cons _ ?_)⟩
  by_cases c7 : h4u (x : Int) (m : Int) = 0
  ·refine key 0 (by unfold chkC; dsimp only; rw [if_neg n1, if_neg n2, if_neg n3, if_neg (fun h => h.2.elim c6 (fun h => h c7))]) ?_
   refine Fn1 Tryz.func65 Tryz.ntmps65 rfl rfl ?_
   repeat' (first | refine h0i ?_ | refine h0b ?_ | refine h0x ?_ | refine h0j ?_ | refine h0r ?_ | refine h0v ?_ | refine h0f rfl ?_ | (refine gR 0 ?_ <;> (try refine h0c ?_; (refine h2n (t:=99) rfl rfl ?_; intro nb hnb; (try simp only [Value.cells]))) <;> (try refine p_a (h:=h0a ?_))) | (refine gR 1 (p_e (q_f h4m) (h:=p_e q_l (h:=p_e (q_b (r:=by exact h0y q_o)) (h:=p_m (h:=p_y (q_f h4m) (h:=p_y q_l (h:=p_y (q_b (r:=by exact h1h q_o)) (h:=p_p (h:=p_a (h:=h0a ?_))))))))))) | (refine gR 3 (p_e (q_f h3d) (h:=p_e q_l (h:=p_e (q_b (r:=by exact h0y q_o)) (h:=p_m (h:=p_y (q_f h3d) (h:=p_y q_l (h:=p_y (q_b (r:=by exact h1h q_o)) (h:=p_p (h:=p_a (h:=h0a ?_))))))))))) | (refine gR 5 (p_e (q_f h3d) (h:=q_e q_l ?_)) <;> (try refine q_e (by exact q_b (r:=by refine h1w ?_; first | rfl | (with_reducible assumption) | (decide; done) | omega)) ?_) <;> (try refine p_m (h:=p_z (h:=p_z (h:=p_z (h:=p_p (h:=p_a (h:=h0a ?_)))))))) | (refine gR 7 (p_e (q_f h3d) (h:=q_e q_l ?_)) <;> (try refine q_e (by exact q_b (r:=by refine h1e ?_; first | rfl | (with_reducible assumption) | (decide; done) | omega)) ?_) <;> (try refine p_m (h:=p_y (q_f h5b) (h:=p_y q_l (h:=p_y (q_b (r:=by exact h1c q_o)) (h:=p_y (h0h rfl) (h:=p_y (q_f fo_99_3) (h:=p_y q_l (h:=p_y (q_f h5b) (h:=q_y q_l ?_))))))))) <;> (try refine q_y (q_b (r:=by refine rb_andn ?_ ?_; (focus (refine ⟨rfl, ⟨?_, ?_⟩⟩; omega; (focus (simp only [IntKind.bits]; omega)))); (focus (refine ⟨rfl, ⟨?_, ?_⟩⟩; omega; (focus (simp only [IntKind.bits]; omega)))))) ?_) <;> (try refine q_y (by exact q_b (r:=by refine h1w ?_; first | rfl | (with_reducible assumption) | (decide; done) | omega)) ?_) <;> (try refine p_y (h4o rfl rfl) (h:=p_p (h:=p_a (h:=h0a ?_))))) | (refine gR 9 (p_a (h:=h0a ?_))))
   (refine h0o Tryz.results65 (.tmp rfl .nil) ?_)
   exact ⟨_, ⟨rfl, rfl⟩, by intro w H; refine H.sub ?_; (try simp only [zzC, zzN]); repeat (first | exact List.Sublist.refl _ | refine List.Sublist.cons _ ?_)⟩
  ·refine key 204 (by unfold chkC; dsimp only; rw [if_neg n1, if_neg n2, if_neg n3, if_pos ⟨c5, Or.inr c7⟩]) ?_
   refine Fn1 Tryz.func65 Tryz.ntmps65 rfl rfl ?_
   repeat' (first | refine h0i ?_ | refine h0b ?_ | refine h0t ?_ | refine h1k ?_ | refine h0j ?_ | refine h0v ?_ | refine h0g rfl ?_ | refine h0f rfl ?_ | (refine gR 0 ?_ <;> (try refine h0c ?_; (refine h2n (t:=99) rfl rfl ?_; intro nb hnb; (try simp only [Value.cells]))) <;> (try refine p_a (h:=h0a ?_))) | (refine gR 1 (p_e (q_f h4m) (h:=p_e q_l (h:=p_e (q_b (r:=by exact h0y q_o)) (h:=p_m (h:=p_y (q_f h4m) (h:=p_y q_l (h:=p_y (q_b (r:=by exact h1h q_o)) (h:=p_p (h:=p_a (h:=h0a ?_))))))))))) | (refine gR 3 (p_e (q_f h3d) (h:=p_e q_l (h:=p_e (q_b (r:=by exact h0y q_o)) (h:=p_m (h:=p_y (q_f h3d) (h:=p_y q_l (h:=p_y (q_b (r:=by exact h1h q_o)) (h:=p_p (h:=p_a (h:=h0a ?_))))))))))) | (refine gR 5 (p_e (q_f h3d) (h:=q_e q_l ?_)) <;> (try refine q_e (by exact q_b (r:=by refine h1w ?_; first | rfl | (with_reducible assumption) | (decide; done) | omega)) ?_) <;> (try refine p_m (h:=p_z (h:=p_z (h:=p_z (h:=p_p (h:=p_a (h:=h0a ?_)))))))) | (refine gR 7 (p_e (q_f h3d) (h:=q_e q_l ?_)) <;> (try refine q_e (by exact q_b (r:=by refine h1e ?_; first | rfl | (with_reducible assumption) | (decide; done) | omega)) ?_) <;> (try refine p_m (h:=p_y (q_f h5b) (h:=p_y q_l (h:=p_y (q_b (r:=by exact h1c q_o)) (h:=p_y (h0h rfl) (h:=p_y (q_f fo_99_3) (h:=p_y q_l (h:=p_y (q_f h5b) (h:=q_y q_l ?_))))))))) <;> (try refine q_y (q_b (r:=by refine rb_andn ?_ ?_; (focus (refine ⟨rfl, ⟨?_, ?_⟩⟩; omega; (focus (simp only [IntKind.bits]; omega)))); (focus (refine ⟨rfl, ⟨?_, ?_⟩⟩; omega; (focus (simp only [IntKind.bits]; omega)))))) ?_) <;> (try refine p_y (q_b (r:=by exact h2p q_o)) (h:=p_y (h4o rfl rfl) (h:=p_p (h:=p_a (h:=h0a ?_)))))) | (refine gR 8 (p_a (h:=h0a ?_))))
   (refine h0o Tryz.results65 (.tmp rfl .nil) ?_)
   exact ⟨_, ⟨rfl, rfl⟩, by intro w H; refine H.sub ?_; (try simp only [zzC, zzN]); repeat (first | exact List.Sublist.refl _ | refine List.Sublist.cons _ ?_)⟩
 ·by_cases c6 : m = 0
  ·refine key 0 (by unfold chkC; dsimp only; rw [if_neg n1, if_neg n2, if_neg (fun h => h.2 c6), if_neg (fun h => c5 h.1)]) ?_
   refine Fn1 Tryz.func65 Tryz.ntmps65 rfl rfl ?_
   repeat' (first | refine h0i ?_ | refine h0b ?_ | refine h0x ?_ | refine h0j ?_ | refine h0r ?_ | refine h0v ?_ | refine h0f rfl ?_ | (refine gR 0 ?_ <;> (try refine h0c ?_; (refine h2n (t:=99) rfl rfl ?_; intro nb hnb; (try simp only [Value.cells]))) <;> (try refine p_a (h:=h0a ?_))) | (refine gR 1 (p_e (q_f h4m) (h:=p_e q_l (h:=p_e (q_b (r:=by exact h0y q_o)) (h:=p_m (h:=p_y (q_f h4m) (h:=p_y q_l (h:=p_y (q_b (r:=by exact h1h q_o)) (h:=p_p (h:=p_a (h:=h0a ?_))))))))))) | (refine gR 3 (p_e (q_f h3d) (h:=p_e q_l (h:=p_e (q_b (r:=by exact h0y q_o)) (h:=p_m (h:=p_y (q_f h3d) (h:=p_y q_l (h:=p_y (q_b (r:=by exact h1h q_o)) (h:=p_p (h:=p_a (h:=h0a ?_))))))))))) | (refine gR 5 (p_e (q_f h3d) (h:=p_e q_l (h:=p_e (q_b (r:=by exact h2p q_o)) (h:=p_m (h:=p_y (q_f h5b) (h:=q_y q_l ?_)))))) <;> (try refine q_y (by exact q_b (r:=by refine h1w ?_; first | rfl | (with_reducible assumption) | (decide; done) | omega)) ?_) <;> (try refine p_p (h:=p_a (h:=h0a ?_)))) | (refine gR 7 (p_e (q_f h3d) (h:=p_e q_l (h:=p_e (q_b (r:=by exact h1c q_o)) (h:=p_m (h:=p_z (h:=p_z (h:=p_z (h:=q_z ?_)))))))) <;> (try refine h0c ?_; (refine h4j rfl rfl rfl ?_)) <;> (try refine h0c ?_; (refine h4j rfl rfl rfl ?_)) <;> (try refine h0c ?_; (refine h4j rfl rfl rfl ?_)) <;> (try refine h0c ?_; (refine h4j rfl rfl rfl ?_)) <;> (try refine h0c ?_; (refine h4j rfl rfl rfl ?_)) <;> (try refine h0c ?_; (refine h4j rfl rfl rfl ?_)) <;> (try refine p_z (h:=p_p (h:=p_a (h:=h0a ?_))))) | (refine gR 9 (p_a (h:=h0a ?_))))
   (refine h0o Tryz.results65 (.tmp rfl .nil) ?_)
   exact ⟨_, ⟨rfl, rfl⟩, by intro w H; refine H.sub ?_; (try simp only [zzC, zzN]); repeat (first | exact List.Sublist.refl _ | refine List.Sublist.cons _ ?_)⟩
  ·refine key 203 (by unfold chkC; dsimp only; rw [if_neg n1, if_neg n2, if_pos ⟨c5, c6⟩]) ?_
   refine Fn1 Tryz.func65 Tryz.ntmps65 rfl rfl ?_
   repeat' (first | refine h0i ?_ | refine h0b ?_ | refine h0t ?_ | refine h1k ?_ | refine h0j ?_ | refine h0v ?_ | refine h0g rfl ?_ | refine h0f rfl ?_ | (refine gR 0 ?_ <;> (try refine h0c ?_; (refine h2n (t:=99) rfl rfl ?_; intro nb hnb; (try simp only [Value.cells]))) <;> (try refine p_a (h:=h0a ?_))) | (refine gR 1 (p_e (q_f h4m) (h:=p_e q_l (h:=p_e (q_b (r:=by exact h0y q_o)) (h:=p_m (h:=p_y (q_f h4m) (h:=p_y q_l (h:=p_y (q_b (r:=by exact h1h q_o)) (h:=p_p (h:=p_a (h:=h0a ?_))))))))))) | (refine gR 3 (p_e (q_f h3d) (h:=p_e q_l (h:=p_e (q_b (r:=by exact h0y q_o)) (h:=p_m (h:=p_y (q_f h3d) (h:=p_y q_l (h:=p_y (q_b (r:=by exact h1h q_o)) (h:=p_p (h:=p_a (h:=h0a ?_))))))))))) | (refine gR 5 (p_e (q_f h3d) (h:=p_e q_l (h:=p_e (q_b (r:=by exact h2p q_o)) (h:=p_m (h:=p_y (q_f h5b) (h:=p_y q_l (h:=p_y (q_b (r:=by exact h2p q_o)) (h:=p_p (h:=p_a (h:=h0a ?_))))))))))) | (refine gR 6 (p_a (h:=h0a ?_))))
   (refine h0o Tryz.results65 (.tmp rfl .nil) ?_)
   exact ⟨_, ⟨rfl, rfl⟩, by intro w H; refine H.sub ?_; (try simp only [zzC, zzN]); repeat (first | exact List.Sublist.refl _ | refine List.Sublist.cons _ ?_)⟩
theorem akind_c {S w0 L} (a : Int) (h : 0 ≤ a ∧ a < 4294967296) : Fn Tryz.prog 59 #[.int .u32 a] S w0 L fun v L' => v = .int .u32 (kndA a) ∧ L = L' := by
 have h8 := iandn_le a 65535 h.1
 have hj : kndA a = if h4u a 65535 = 327680 ∨ h4u a 65535 = 2147221504 ∨ h4u a 65535 = 2147418112 then h4u a 65535 else 2147483648 := rfl
 rw [hj]
 clear hj
 by_cases c1 : h4u a 65535 = 327680
 ·rw [if_pos (Or.inl c1)]
  refine Fn1 Tryz.func59 Tryz.ntmps59 rfl rfl ?_
  repeat' (first | refine h0i ?_ | refine h0b ?_ | refine h0t ?_ | refine h1k ?_ | refine h0j ?_ | refine h0r ?_ | refine h0v ?_ | refine h0g rfl ?_ | (refine gR 0 (p_a (h:=h0a ?_))) | (refine gR 1 (q_m ?_) <;> (try refine q_e (q_b (r:=by refine rb_andn ?_ ?_; (focus (refine ⟨rfl, ⟨?_, ?_⟩⟩; omega; (focus (simp only [IntKind.bits]; omega)))); (focus (refine ⟨rfl, ⟨?_, ?_⟩⟩; omega; (focus (simp only [IntKind.bits]; omega)))))) ?_) <;> (try refine p_a (h:=h0a ?_))) | (refine gR 2 (p_m (h:=h0a ?_))) | (refine gR 3 ?_ <;> (try refine q_e (by exact q_b (r:=by refine h1e ?_; first | rfl | (with_reducible assumption) | (decide; done) | omega)) ?_) <;> (try refine p_a (h:=h0a ?_))) | (refine gR 6 (p_m (h:=p_a (h:=h0a ?_)))))
  (refine h0o Tryz.results59 (.tmp rfl .nil) ?_)
  exact ⟨_, ⟨rfl, rfl⟩, by intro w H; refine H.sub ?_; (try simp only [zzC, zzN]); repeat (exact List.Sublist.refl _)⟩
 by_cases c2 : h4u a 65535 = 2147221504
 ·rw [if_pos (Or.inr (Or.inl c2))]
  refine Fn1 Tryz.func59 Tryz.ntmps59 rfl rfl ?_
  repeat' (first | refine h0i ?_ | refine h0b ?_ | refine h0t ?_ | refine h1k ?_ | refine h0j ?_ | refine h0r ?_ | refine h0v ?_ | refine h0g rfl ?_ | refine h0f rfl ?_ | (refine gR 0 (p_a (h:=h0a ?_))) | (refine gR 1 (q_m ?_) <;> (try refine q_e (q_b (r:=by refine rb_andn ?_ ?_; (focus (refine ⟨rfl, ⟨?_, ?_⟩⟩; omega; (focus (simp only [IntKind.bits]; omega)))); (focus (refine ⟨rfl, ⟨?_, ?_⟩⟩; omega; (focus (simp only [IntKind.bits]; omega)))))) ?_) <;> (try refine p_a (h:=h0a ?_))) | (refine gR 2 (p_m (h:=h0a ?_))) | (refine gR 3 (p_e (q_b (r:=by exact h1c q_o)) (h:=p_a (h:=h0a ?_)))) | (refine gR 4 ?_ <;> (try refine q_e (by exact q_b (r:=by refine h1e ?_; first | rfl | (with_reducible assumption) | (decide; done) | omega)) ?_) <;> (try refine p_a (h:=h0a ?_))) | (refine gR 6 (p_m (h:=p_a (h:=h0a ?_)))))
  (refine h0o Tryz.results59 (.tmp rfl .nil) ?_)
  exact ⟨_, ⟨rfl, rfl⟩, by intro w H; refine H.sub ?_; (try simp only [zzC, zzN]); repeat (exact List.Sublist.refl _)⟩
 by_cases c3 : h4u a 65535 = 2147418112
 ·rw [if_pos (Or.inr (Or.inr c3))]
  refine Fn1 Tryz.func59 Tryz.ntmps59 rfl rfl ?_
  repeat' (first | refine h0i ?_ | refine h0b ?_ | refine h0t ?_ | refine h1k ?_ | refine h0j ?_ | refine h0v ?_ | refine h0g rfl ?_ | refine h0f rfl ?_ | (refine gR 0 (p_a (h:=h0a ?_))) | (refine gR 1 (q_m ?_) <;> (try refine q_e (q_b (r:=by refine rb_andn ?_ ?_; (focus (refine ⟨rfl, ⟨?_, ?_⟩⟩; omega; (focus (simp only [IntKind.bits]; omega)))); (focus (refine ⟨rfl, ⟨?_, ?_⟩⟩; omega; (focus (simp only [IntKind.bits]; omega)))))) ?_) <;> (try refine p_a (h:=h0a ?_))) | (refine gR 2 (p_m (h:=h0a ?_))) | (refine gR 3 (p_e (q_b (r:=by exact h1c q_o)) (h:=p_a (h:=h0a ?_)))) | (refine gR 4 (p_e (q_b (r:=by exact h1c q_o)) (h:=p_a (h:=h0a ?_)))) | (refine gR 5 ?_ <;> (try refine q_e (by exact q_b (r:=by refine h1e ?_; first | rfl | (with_reducible assumption) | (decide; done) | omega)) ?_) <;> (try refine p_a (h:=h0a ?_))) | (refine gR 6 (p_m (h:=p_a (h:=h0a ?_)))))
  (refine h0o Tryz.results59 (.tmp rfl .nil) ?_)
  exact ⟨_, ⟨rfl, rfl⟩, by intro w H; refine H.sub ?_; (try simp only [zzC, zzN]); repeat (exact List.Sublist.refl _)⟩
 rw [if_neg (fun h => h.elim c1 (fun h => h.elim c2 c3))]
 refine Fn1 Tryz.func59 Tryz.ntmps59 rfl rfl ?_
 repeat' (first | refine h0i ?_ | refine h0b ?_ | refine h0x ?_ | refine h0j ?_ | refine h0r ?_ | refine h0v ?_ | refine h0f rfl ?_ | (refine gR 0 (p_a (h:=h0a ?_))) | (refine gR 1 (q_m ?_) <;> (try refine q_e (q_b (r:=by refine rb_andn ?_ ?_; (focus (refine ⟨rfl, ⟨?_, ?_⟩⟩; omega; (focus (simp only [IntKind.bits]; omega)))); (focus (refine ⟨rfl, ⟨?_, ?_⟩⟩; omega; (focus (simp only [IntKind.bits]; omega)))))) ?_) <;> (try refine p_a (h:=h0a ?_))) | (refine gR 2 (p_m (h:=h0a ?_))) | (refine gR 3 (p_e (q_b (r:=by exact h1c q_o)) (h:=p_a (h:=h0a ?_)))) | (refine gR 4 (p_e (q_b (r:=by exact h1c q_o)) (h:=p_a (h:=h0a ?_)))) | (refine gR 5 (p_e (q_b (r:=by exact h1c q_o)) (h:=p_a (h:=h0a ?_)))) | (refine gR 7 (p_a (h:=h0a ?_))))
 (refine h0o Tryz.results59 (.tmp rfl .nil) ?_)
 exact ⟨_, ⟨rfl, rfl⟩, by intro w H; refine H.sub ?_; (try simp only [zzC, zzN]); repeat (exact List.Sublist.refl _)⟩
theorem actok_c {S w0 L} (a : Int) (h : 0 ≤ a ∧ a < 4294967296) : Fn Tryz.prog 40 #[.int .u32 a] S w0 L fun v L' => v = .bool (h6d a) ∧ L = L' := by
 have hk := fun (L : List Blk) => akind_c (S:=S) (w0:=w0) (L:=L) a h
 have hr : ∀ b : Bool, h6d a = b → Fn Tryz.prog 40 #[.int .u32 a] S w0 L (fun v L' => v = .bool b ∧ L = L') → Fn Tryz.prog 40 #[.int .u32 a] S w0 L (fun v L' => v = .bool (h6d a) ∧ L = L') := by
  intro k hk hf; rw [hk]; exact hf
 by_cases c1 : a = 2147483648
 ·refine hr true (by unfold h6d; rw [decide_eq_true (Or.inl c1)]) ?_
  subst c1
  clear hk hr
  refine Fn1 Tryz.func40 Tryz.ntmps40 rfl rfl ?_
  repeat' (first | refine h0i ?_ | refine h0b ?_ | refine h0t ?_ | refine h1k ?_ | refine h0j ?_ | refine h0r ?_ | refine h0v ?_ | refine h0g rfl ?_ | (refine gR 0 (p_a (h:=h0a ?_))) | (refine gR 1 (p_m (h:=h0a ?_))) | (refine gR 2 ?_ <;> (try refine q_e (by exact q_b (r:=by refine h1e ?_; first | rfl | (with_reducible assumption) | (decide; done) | omega)) ?_) <;> (try refine p_a (h:=h0a ?_))) | (refine gR 5 (p_a (h:=h0a ?_))))
  (refine h0o Tryz.results40 (.tmp rfl .nil) ?_)
  exact ⟨_, ⟨rfl, rfl⟩, by intro w H; refine H.sub ?_; (try simp only [zzC, zzN]); repeat (exact List.Sublist.refl _)⟩
 by_cases c2 : a = 2147221504
 ·refine hr true (by unfold h6d; rw [decide_eq_true (Or.inr (Or.inl c2))]) ?_
  subst c2
  clear hk hr
  refine Fn1 Tryz.func40 Tryz.ntmps40 rfl rfl ?_
  repeat' (first | refine h0i ?_ | refine h0b ?_ | refine h0t ?_ | refine h1k ?_ | refine h0j ?_ | refine h0r ?_ | refine h0v ?_ | refine h0g rfl ?_ | refine h0f rfl ?_ | (refine gR 0 (p_a (h:=h0a ?_))) | (refine gR 1 (p_m (h:=h0a ?_))) | (refine gR 2 (p_e (q_b (r:=by exact h1c q_o)) (h:=p_a (h:=h0a ?_)))) | (refine gR 3 ?_ <;> (try refine q_e (by exact q_b (r:=by refine h1e ?_; first | rfl | (with_reducible assumption) | (decide; done) | omega)) ?_) <;> (try refine p_a (h:=h0a ?_))) | (refine gR 5 (p_a (h:=h0a ?_))))
  (refine h0o Tryz.results40 (.tmp rfl .nil) ?_)
  exact ⟨_, ⟨rfl, rfl⟩, by intro w H; refine H.sub ?_; (try simp only [zzC, zzN]); repeat (exact List.Sublist.refl _)⟩
 by_cases c3 : a = 2147418112
 ·refine hr true (by unfold h6d; rw [decide_eq_true (Or.inr (Or.inr (Or.inl c3)))]) ?_
  subst c3
  clear hk hr
  refine Fn1 Tryz.func40 Tryz.ntmps40 rfl rfl ?_
  repeat' (first | refine h0i ?_ | refine h0b ?_ | refine h0t ?_ | refine h1k ?_ | refine h0j ?_ | refine h0v ?_ | refine h0g rfl ?_ | refine h0f rfl ?_ | (refine gR 0 (p_a (h:=h0a ?_))) | (refine gR 1 (p_m (h:=h0a ?_))) | (refine gR 2 (p_e (q_b (r:=by exact h1c q_o)) (h:=p_a (h:=h0a ?_)))) | (refine gR 3 (p_e (q_b (r:=by exact h1c q_o)) (h:=p_a (h:=h0a ?_)))) | (refine gR 4 ?_ <;> (try refine q_e (by exact q_b (r:=by refine h1e ?_; first | rfl | (with_reducible assumption) | (decide; done) | omega)) ?_) <;> (try refine p_a (h:=h0a ?_))) | (refine gR 5 (p_a (h:=h0a ?_))))
  (refine h0o Tryz.results40 (.tmp rfl .nil) ?_)
  exact ⟨_, ⟨rfl, rfl⟩, by intro w H; refine H.sub ?_; (try simp only [zzC, zzN]); repeat (exact List.Sublist.refl _)⟩
 by_cases c4 : kndA a = 327680
 ·by_cases c5 : 1 ≤ iand a 65535
  ·by_cases c6 : iand a 65535 ≤ 4095
   ·refine hr true (by unfold h6d; rw [decide_eq_true (Or.inr (Or.inr (Or.inr ⟨c4, c5, c6⟩)))]) ?_
    clear hr
    rw [c4] at hk
    refine Fn1 Tryz.func40 Tryz.ntmps40 rfl rfl ?_
    repeat' (first | refine h0i ?_ | refine h0b ?_ | refine h0x ?_ | refine h0j ?_ | refine h0r ?_ | refine h0v ?_ | refine h0f rfl ?_ | (refine gR 0 (p_a (h:=h0a ?_))) | (refine gR 1 (p_m (h:=h0a ?_))) | (refine gR 2 (p_e (q_b (r:=by exact h1c q_o)) (h:=p_a (h:=h0a ?_)))) | (refine gR 3 (p_e (q_b (r:=by exact h1c q_o)) (h:=p_a (h:=h0a ?_)))) | (refine gR 4 (p_e (q_b (r:=by exact h1c q_o)) (h:=p_a (h:=h0a ?_)))) | (refine gR 6 (q_m ?_) <;> (try refine q_e (q_b (r:=by refine h5w ?_ ?_; (focus (refine ⟨rfl, ⟨?_, ?_⟩⟩; omega; (focus (simp only [IntKind.bits]; omega)))); (focus (refine ⟨rfl, ⟨?_, ?_⟩⟩; omega; (focus (simp only [IntKind.bits]; omega)))))) ?_) <;> (try refine p_a (h:=h0a ?_))) | (refine gR 7 (q_m ?_) <;> (try refine h0c ?_; (refine q_c 59 (c:=by apply hk) (h:=?_); rintro _ _ ⟨rfl, rfl⟩; (try simp only [zzE, zzF]))) <;> (try refine q_e (by exact q_b (r:=by refine h1e ?_; first | rfl | (with_reducible assumption) | (decide; done) | omega)) ?_) <;> (try refine p_m (h:=p_y (h0h rfl) (h:=p_y (q_b (r:=by exact rb_geq_t q_o)) (h:=p_p (h:=p_m (h:=p_y (h0h rfl) (h:=p_y (q_b (r:=by exact h4p q_o)) (h:=p_p (h:=p_a (h:=h0a ?_))))))))))))
    (refine h0o Tryz.results40 (.tmp rfl .nil) ?_)
    exact ⟨_, ⟨rfl, rfl⟩, by intro w H; refine H.sub ?_; (try simp only [zzC, zzN]); repeat (exact List.Sublist.refl _)⟩
   ·refine hr false (by unfold h6d; rw [decide_eq_false (fun h => h.elim c1 (fun h => h.elim c2 (fun h => h.elim c3 (fun h => c6 h.2.2))))]) ?_
    clear hr
    rw [c4] at hk
    refine Fn1 Tryz.func40 Tryz.ntmps40 rfl rfl ?_
    repeat' (first | refine h0i ?_ | refine h0b ?_ | refine h0x ?_ | refine h0j ?_ | refine h0r ?_ | refine h0v ?_ | refine h0f rfl ?_ | (refine gR 0 (p_a (h:=h0a ?_))) | (refine gR 1 (p_m (h:=h0a ?_))) | (refine gR 2 (p_e (q_b (r:=by exact h1c q_o)) (h:=p_a (h:=h0a ?_)))) | (refine gR 3 (p_e (q_b (r:=by exact h1c q_o)) (h:=p_a (h:=h0a ?_)))) | (refine gR 4 (p_e (q_b (r:=by exact h1c q_o)) (h:=p_a (h:=h0a ?_)))) | (refine gR 6 (q_m ?_) <;> (try refine q_e (q_b (r:=by refine h5w ?_ ?_; (focus (refine ⟨rfl, ⟨?_, ?_⟩⟩; omega; (focus (simp only [IntKind.bits]; omega)))); (focus (refine ⟨rfl, ⟨?_, ?_⟩⟩; omega; (focus (simp only [IntKind.bits]; omega)))))) ?_) <;> (try refine p_a (h:=h0a ?_))) | (refine gR 7 (q_m ?_) <;> (try refine h0c ?_; (refine q_c 59 (c:=by apply hk) (h:=?_); rintro _ _ ⟨rfl, rfl⟩; (try simp only [zzE, zzF]))) <;> (try refine q_e (by exact q_b (r:=by refine h1e ?_; first | rfl | (with_reducible assumption) | (decide; done) | omega)) ?_) <;> (try refine p_m (h:=p_y (h0h rfl) (h:=p_y (q_b (r:=by exact rb_geq_t q_o)) (h:=p_p (h:=p_m (h:=p_y (h0h rfl) (h:=p_y (q_b (r:=by exact rb_leq_f q_o)) (h:=p_p (h:=p_a (h:=h0a ?_))))))))))))
    (refine h0o Tryz.results40 (.tmp rfl .nil) ?_)
    exact ⟨_, ⟨rfl, rfl⟩, by intro w H; refine H.sub ?_; (try simp only [zzC, zzN]); repeat (exact List.Sublist.refl _)⟩
  ·refine hr false (by unfold h6d; rw [decide_eq_false (fun h => h.elim c1 (fun h => h.elim c2 (fun h => h.elim c3 (fun h => c5 h.2.1))))]) ?_
   clear hr
   rw [c4] at hk
   refine Fn1 Tryz.func40 Tryz.ntmps40 rfl rfl ?_
   repeat' (first | refine h0i ?_ | refine h0b ?_ | refine h0x ?_ | refine h0j ?_ | refine h0r ?_ | refine h0v ?_ | refine h0f rfl ?_ | (refine gR 0 (p_a (h:=h0a ?_))) | (refine gR 1 (p_m (h:=h0a ?_))) | (refine gR 2 (p_e (q_b (r:=by exact h1c q_o)) (h:=p_a (h:=h0a ?_)))) | (refine gR 3 (p_e (q_b (r:=by exact h1c q_o)) (h:=p_a (h:=h0a ?_)))) | (refine gR 4 (p_e (q_b (r:=by exact h1c q_o)) (h:=p_a (h:=h0a ?_)))) | (refine gR 6 (q_m ?_) <;> (try refine q_e (q_b (r:=by refine h5w ?_ ?_; (focus (refine ⟨rfl, ⟨?_, ?_⟩⟩; omega; (focus (simp only [IntKind.bits]; omega)))); (focus (refine ⟨rfl, ⟨?_, ?_⟩⟩; omega; (focus (simp only [IntKind.bits]; omega)))))) ?_) <;> (try refine p_a (h:=h0a ?_))) | (refine gR 7 (q_m ?_) <;> (try refine h0c ?_; (refine q_c 59 (c:=by apply hk) (h:=?_); rintro _ _ ⟨rfl, rfl⟩; (try simp only [zzE, zzF]))) <;> (try refine q_e (by exact q_b (r:=by refine h1e ?_; first | rfl | (with_reducible assumption) | (decide; done) | omega)) ?_) <;> (try refine p_m (h:=p_y (h0h rfl) (h:=p_y (q_b (r:=by exact rb_geq_f q_o)) (h:=p_p (h:=p_m (h:=p_z (h:=p_z (h:=p_p (h:=p_a (h:=h0a ?_))))))))))))
   (refine h0o Tryz.results40 (.tmp rfl .nil) ?_)
   exact ⟨_, ⟨rfl, rfl⟩, by intro w H; refine H.sub ?_; (try simp only [zzC, zzN]); repeat (exact List.Sublist.refl _)⟩
 ·refine hr false (by unfold h6d; rw [decide_eq_false (fun h => h.elim c1 (fun h => h.elim c2 (fun h => h.elim c3 (fun h => c4 h.1))))]) ?_
  clear hr
  generalize kndA a = k at *
  refine Fn1 Tryz.func40 Tryz.ntmps40 rfl rfl ?_
  repeat' (first | refine h0i ?_ | refine h0b ?_ | refine h0x ?_ | refine h0j ?_ | refine h0r ?_ | refine h0v ?_ | refine h0f rfl ?_ | (refine gR 0 (p_a (h:=h0a ?_))) | (refine gR 1 (p_m (h:=h0a ?_))) | (refine gR 2 (p_e (q_b (r:=by exact h1c q_o)) (h:=p_a (h:=h0a ?_)))) | (refine gR 3 (p_e (q_b (r:=by exact h1c q_o)) (h:=p_a (h:=h0a ?_)))) | (refine gR 4 (p_e (q_b (r:=by exact h1c q_o)) (h:=p_a (h:=h0a ?_)))) | (refine gR 6 (q_m ?_) <;> (try refine q_e (q_b (r:=by refine h5w ?_ ?_; (focus (refine ⟨rfl, ⟨?_, ?_⟩⟩; omega; (focus (simp only [IntKind.bits]; omega)))); (focus (refine ⟨rfl, ⟨?_, ?_⟩⟩; omega; (focus (simp only [IntKind.bits]; omega)))))) ?_) <;> (try refine p_a (h:=h0a ?_))) | (refine gR 7 (q_m ?_) <;> (try refine h0c ?_; (refine q_c 59 (c:=by apply hk) (h:=?_); rintro _ _ ⟨rfl, rfl⟩; (try simp only [zzE, zzF]))) <;> (try refine p_e (q_b (r:=by exact h1c q_o)) (h:=p_m (h:=p_z (h:=p_z (h:=p_p (h:=p_m (h:=p_z (h:=p_z (h:=p_p (h:=p_a (h:=h0a ?_)))))))))))))
  (refine h0o Tryz.results40 (.tmp rfl .nil) ?_)
  exact ⟨_, ⟨rfl, rfl⟩, by intro w H; refine H.sub ?_; (try simp only [zzC, zzN]); repeat (exact List.Sublist.refl _)⟩
theorem numS_c {S w0} (e L : List Blk) (b m1 m2 n : Nat) (hn : n ≤ 100000) (s : Int) : Fn Tryz.prog 31 #[.pointer (some ⟨b, 0, none⟩), .int .u32 s] S w0 (e ++ (tbS b m1 m2 n ++ L)) fun v L' => ∃ m1' m2', v = gotV (h4w s clls) ∧ e ++ (tbS b m1' m2' (n + 1) ++ L) = L' := by
 have hsw : ∀ (A B : List Blk) w, HP S w0 w (A ++ (B ++ L)) → HP S w0 w (B ++ (A ++ L)) := fun A B w H => H.perm (List.perm_append_comm_assoc A B L)
 cases n with
 | zero =>
  refine Fn.weak (hsw e _) ((numbered0_c (S:=S) (w0:=w0) (L:=e ++ L) b 0 0 (by omega) (by omega) s).mono ?_)
  rintro v L' ⟨x, y, rfl, rfl⟩
  exact ⟨_, ⟨x, y, rfl, rfl⟩, fun w H => hsw (tbS b x y 1) e w H⟩
 | succ n =>
  refine Fn.weak (hsw e _) ?_
  rw [tbS_succ]
  refine (numbered1_c (S:=S) (w0:=w0) (L:=e ++ L) b m1 m2 _ 1 (by omega) s).mono ?_
  rintro v L' ⟨rfl, rfl⟩
  refine ⟨_, ⟨m1, m2, rfl, rfl⟩, fun w H => hsw _ e w ?_⟩
  rw [tbS_succ, Int.natCast_add, Int.natCast_one]
  exact H
theorem firstE_drop {es : List Nat} {k : Nat} (hk : k < es.length) : h5q (es.drop k) = if es[k] ≠ 0 then es[k] else h5q (es.drop (k + 1)) := by
 rw [List.drop_eq_getElem_cons hk]; rfl
theorem firstE_nil {es : List Nat} {k : Nat} (hk : es.length ≤ k) : h5q (es.drop k) = 0 := by
 rw [List.drop_eq_nil_of_le hk]; rfl
set_option maxHeartbeats 1000000 in
theorem rulechk_c {S w0} (e L : List Blk) (r : GRul) (h : r.ok) (v : Value) (hv : CndS (e ++ L) v r.conds) (b m1 m2 n : Nat) (hn : n ≤ 100000) :
  Fn Tryz.prog 42 #[.agg #[.int .u32 r.num, .int .u32 r.act, v], .pointer (some ⟨b, 0, none⟩)] S w0 (e ++ (tbS b m1 m2 n ++ L)) fun v' L' => ∃ m1' m2', v' = .int .i64 (chkR r : Nat) ∧ e ++ (tbS b m1' m2' (n + 1) ++ L) = L' := by
 obtain ⟨a, c, rfl, hsl, hml⟩ := hv
 have hnu := fun (x : Blk) => numS_c (S:=S) (w0:=w0) (x :: e) L b m1 m2 n hn r.num
 obtain ⟨nm, ar, hg⟩ := gotV_num (h4w r.num clls)
 rw [hg] at hnu
 have hac := fun (L : List Blk) => actok_c (S:=S) (w0:=w0) (L:=L) r.act h.act
 obtain ⟨num, act, conds⟩ := r
 have hok := h.conds
 clear h hg
 dsimp only [List.cons_append] at *
 have hR : chkR ⟨num, act, conds⟩ = if (h4w num clls).isSome = false then 38 else if h6d act = false then 210 else if 6 < conds.length then 205 else h5q (conds.map chkC) := by
  unfold chkR
  cases h4w num clls <;> rfl
 rw [hR]
 clear hR
 generalize cnO (h4w num clls) = cn at *
 generalize (h4w num clls).isSome = ok at *
 generalize h6d act = ak at *
 cases ok with
 | false =>
  rw [if_pos rfl]
  refine Fn2 Tryz.func42 Tryz.ntmps42 rfl rfl ?_
  repeat' (first | refine h0i ?_ | refine h0b ?_ | refine h0t ?_ | refine h0v ?_ | refine h0g rfl ?_ | (refine gR 0 ?_ <;> (try refine h0c ?_; (refine h2n (t:=73) rfl rfl ?_; intro nb hnb; (try simp only [Value.cells]))) <;> (try refine p_a (h:=h0a ?_))) | (refine gR 1 (p_m (h:=p_e (q_f fo_73_0) (h:=q_e q_l ?_))) <;> (try refine h0c ?_; (refine q_c 31 (c:=by apply hnu) (h:=?_); rintro _ _ ⟨k1, k2, rfl, rfl⟩; (try simp only [zzE, zzF]))) <;> (try refine p_m (h:=p_x (h:=q_x ?_))) <;> (try refine h0c ?_; (refine h0k (t:=116) rfl Tryz.zeroValue116 ?_; intro nb hnb; (try simp only [Value.cells]))) <;> (try refine h0c ?_; (refine q_W ?_)) <;> (try refine p_a (h:=h0a ?_))) | (refine gR 2 (p_m (h:=p_e (by apply h5m; exact rfl; exact h3o) (h:=h0a ?_)))) | (refine gR 3 (p_a (h:=h0a ?_))))
  (refine h0o Tryz.results42 (.tmp rfl .nil) ?_)
  exact ⟨_, ⟨k1, k2, rfl, rfl⟩, fun _ H => H.tail.tail⟩
 | true =>
  rw [if_neg (fun h => by cases h)]
  cases ak with
  | false =>
   rw [if_pos rfl]
   refine Fn2 Tryz.func42 Tryz.ntmps42 rfl rfl ?_
   repeat' (first | refine h0i ?_ | refine h0b ?_ | refine h0t ?_ | refine h0r ?_ | refine h0v ?_ | refine h0g rfl ?_ | refine h0f rfl ?_ | (refine gR 0 ?_ <;> (try refine h0c ?_; (refine h2n (t:=73) rfl rfl ?_; intro nb hnb; (try simp only [Value.cells]))) <;> (try refine p_a (h:=h0a ?_))) | (refine gR 1 (p_m (h:=p_e (q_f fo_73_0) (h:=q_e q_l ?_))) <;> (try refine h0c ?_; (refine q_c 31 (c:=by apply hnu) (h:=?_); rintro _ _ ⟨k1, k2, rfl, rfl⟩; (try simp only [zzE, zzF]))) <;> (try refine p_m (h:=p_x (h:=q_x ?_))) <;> (try refine h0c ?_; (refine h0k (t:=116) rfl Tryz.zeroValue116 ?_; intro nb hnb; (try simp only [Value.cells]))) <;> (try refine h0c ?_; (refine q_W ?_)) <;> (try refine p_a (h:=h0a ?_))) | (refine gR 2 (p_m (h:=p_e (by apply h5m; exact rfl; exact h1r) (h:=h0a ?_)))) | (refine gR 4 (p_e (q_f fo_73_1) (h:=q_e q_l ?_)) <;> (try refine h0c ?_; (refine q_c 40 (c:=by apply hac) (h:=?_); rintro _ _ ⟨rfl, rfl⟩; (try simp only [zzE, zzF]))) <;> (try refine p_e (by apply h5m; exact rfl; exact h3o) (h:=h0a ?_))) | (refine gR 5 (p_a (h:=h0a ?_))))
   (refine h0o Tryz.results42 (.tmp rfl .nil) ?_)
   exact ⟨_, ⟨k1, k2, rfl, rfl⟩, fun _ H => H.tail.tail⟩
  | true =>
   rw [if_neg (fun h => by cases h)]
   by_cases hl : 6 < conds.length
   ·rw [if_pos hl]
    refine Fn2 Tryz.func42 Tryz.ntmps42 rfl rfl ?_
    repeat' (first | refine h0i ?_ | refine h0b ?_ | refine h0t ?_ | refine h0r ?_ | refine h0v ?_ | refine h0g rfl ?_ | refine h0f rfl ?_ | (refine gR 0 ?_ <;> (try refine h0c ?_; (refine h2n (t:=73) rfl rfl ?_; intro nb hnb; (try simp only [Value.cells]))) <;> (try refine p_a (h:=h0a ?_))) | (refine gR 1 (p_m (h:=p_e (q_f fo_73_0) (h:=q_e q_l ?_))) <;> (try refine h0c ?_; (refine q_c 31 (c:=by apply hnu) (h:=?_); rintro _ _ ⟨k1, k2, rfl, rfl⟩; (try simp only [zzE, zzF]))) <;> (try refine p_m (h:=p_x (h:=q_x ?_))) <;> (try refine h0c ?_; (refine h0k (t:=116) rfl Tryz.zeroValue116 ?_; intro nb hnb; (try simp only [Value.cells]))) <;> (try refine h0c ?_; (refine q_W ?_)) <;> (try refine p_a (h:=h0a ?_))) | (refine gR 2 (p_m (h:=p_e (by apply h5m; exact rfl; exact h1r) (h:=h0a ?_)))) | (refine gR 4 (p_e (q_f fo_73_1) (h:=q_e q_l ?_)) <;> (try refine h0c ?_; (refine q_c 40 (c:=by apply hac) (h:=?_); rintro _ _ ⟨rfl, rfl⟩; (try simp only [zzE, zzF]))) <;> (try refine p_e (by apply h5m; exact rfl; exact h1r) (h:=h0a ?_))) | (refine gR 6 (p_e (q_f h2w) (h:=p_e q_l (h:=p_e (by apply h0e; exact rfl; exact (fun _ => BigFrame.builtin_len ..); apply h0d Tryz.underlying71; exact h3m) (h:=p_e (q_b (r:=by exact h1x q_o)) (h:=h0a ?_)))))) | (refine gR 7 (p_a (h:=h0a ?_))))
    (refine h0o Tryz.results42 (.tmp rfl .nil) ?_)
    exact ⟨_, ⟨k1, k2, rfl, rfl⟩, fun _ H => H.tail.tail⟩
   ·rw [if_neg hl]
    refine Fn2 Tryz.func42 Tryz.ntmps42 rfl rfl ?_
    repeat' (first | (refine h2h (id:=0) ?_) | refine h0i ?_ | refine h0b ?_ | refine h0r ?_ | refine h0f rfl ?_ | (refine gR 0 ?_ <;> (try refine h0c ?_; (refine h2n (t:=73) rfl rfl ?_; intro nb hnb; (try simp only [Value.cells]))) <;> (try refine p_a (h:=h0a ?_))) | (refine gR 1 (p_m (h:=p_e (q_f fo_73_0) (h:=q_e q_l ?_))) <;> (try refine h0c ?_; (refine q_c 31 (c:=by apply hnu) (h:=?_); rintro _ _ ⟨k1, k2, rfl, rfl⟩; (try simp only [zzE, zzF]))) <;> (try refine p_m (h:=p_x (h:=q_x ?_))) <;> (try refine h0c ?_; (refine h0k (t:=116) rfl Tryz.zeroValue116 ?_; intro nb hnb; (try simp only [Value.cells]))) <;> (try refine h0c ?_; (refine q_W ?_)) <;> (try refine p_a (h:=h0a ?_))) | (refine gR 2 (p_m (h:=p_e (by apply h5m; exact rfl; exact h1r) (h:=h0a ?_)))) | (refine gR 4 (p_e (q_f fo_73_1) (h:=q_e q_l ?_)) <;> (try refine h0c ?_; (refine q_c 40 (c:=by apply hac) (h:=?_); rintro _ _ ⟨rfl, rfl⟩; (try simp only [zzE, zzF]))) <;> (try refine p_e (by apply h5m; exact rfl; exact h1r) (h:=h0a ?_))) | (refine gR 6 (p_e (q_f h2w) (h:=p_e q_l (h:=p_e (by apply h0e; exact rfl; exact (fun _ => BigFrame.builtin_len ..); apply h0d Tryz.underlying71; exact h3m) (h:=p_e (q_b (r:=by exact h1h q_o)) (h:=h0a ?_)))))) | (refine gR 8 (p_e (q_f h2w) (h:=p_e q_l (h:=p_e (by apply h0e; exact rfl; exact (fun _ => BigFrame.builtin_len ..); apply h0d Tryz.underlying71; exact h3m) (h:=p_m (h:=h0a ?_)))))))
    refine ⟨?_⟩
    clear hnu hac
    have hs2 : Sli (e ++ (tbS b k1 k2 (n + 1) ++ L)) a conds.length 4 (gcC conds) := by
     rcases hsl with ⟨g1, g2 | ⟨i, q, bb, off, cs, T, fr, g2, g3, g4, g5⟩⟩
     ·exact ⟨g1, Or.inl g2⟩
     ·have : ∃ j : Nat, (e ++ (tbS b k1 k2 (n + 1) ++ L))[j]? = some ⟨q, bb, .cells cs T fr⟩ := by
       have hm : (⟨q, bb, .cells cs T fr⟩ : Blk) ∈ e ++ L := List.mem_of_getElem? g3
       have hm2 : (⟨q, bb, .cells cs T fr⟩ : Blk) ∈ e ++ (tbS b k1 k2 (n + 1) ++ L) := by
        rcases List.mem_append.1 hm with h | h
        ·exact List.mem_append_left _ h
        ·exact List.mem_append_right _ (List.mem_append_right _ h)
       obtain ⟨j, hj⟩ := List.getElem?_of_mem hm2
       exact ⟨j, hj⟩
      obtain ⟨j, hj⟩ := this
      exact ⟨g1, Or.inr ⟨j, q, bb, off, cs, T, fr, g2, hj, g4, g5⟩⟩
    clear hsl
    obtain ⟨n7, rfl⟩ : ∃ x, x = nb := ⟨_, rfl⟩
    generalize hM : e ++ (tbS b k1 k2 (n + 1) ++ L) = M at *
    refine h2q (γ:=Unit) (fun _ => h5q (conds.map chkC) = 0) (fun _ => []) [] (fun _ => M) .nil ?_ ?_
    ·refine h0j ?_
     refine h2i (γ:=Nat) (fun k => k ≤ conds.length ∧ h5q (conds.map chkC) = h5q ((conds.map chkC).drop k)) (fun k => conds.length - k) (fun k => [(30, .int .i64 (k : Nat))]) [(28, _), (29, _)] (fun _ => M) 0 (.cons rfl (.cons rfl .nil)) ⟨Nat.zero_le _, by rw [List.drop_zero]⟩ (by (focus (repeat (first | exact Sub.nil | refine Sub.cons rfl ?_)))) (fun _ H => H.tail.tail) ?_
     rintro k ⟨hk, heq⟩
     simp only [List.cons_append, List.nil_append]
     unfold maxLen at hml
     by_cases hlt : k < conds.length
     ·obtain ⟨j, q, bb, off, cs, T, fr, rfl, hj, hsz, hx⟩ := hs2.elem hlt
      rw [gcC_at _ _ hlt] at hx
      have hch := fun (L : List Blk) => condchk_c (S:=S) (w0:=w0) (L:=L) conds[k] (hok _ (List.getElem_mem hlt))
      rw [firstE_drop (by rw [List.length_map]; exact hlt), List.getElem_map] at heq
      generalize chkC conds[k] = ck at *
      generalize conds[k] = cd at *
      obtain ⟨ca, co, cm, cv⟩ := cd
      dsimp only [GCnd.cells] at *
      by_cases hc : ck = 0
      ·rw [if_neg (fun h => h hc)] at heq
       subst hc
       repeat' (first | refine h0i ?_ | refine h0b ?_ | refine h0s ?_ | refine h0x ?_ | refine h0j ?_ | refine h0r ?_ | refine h0g rfl ?_ | refine h0f rfl ?_ | (refine gR 9 (p_e (q_b (r:=by exact h0u q_o)) (h:=h0a ?_))) | (refine gR 10 (p_e (by apply h0n; exact rfl; exact rfl; (focus (apply h2j Tryz.underlying71 h5n; omega; omega; exact c_1))) (h:=q_e (by apply h1u (t:=99); exact rfl; exact c_21; kernel_rfl; kernel_rfl; exact h5n; (with_reducible assumption); (with_reducible assumption)) ?_)) <;> (try refine h0c ?_; (refine h0k (t:=99) rfl Tryz.zeroValue99 ?_; intro nb hnb; (try simp only [Value.cells]))) <;> (try refine h0c ?_; (refine q_W ?_)) <;> (try refine h0a ?_)) | (refine gR 11 (q_e (q_L h5n) ?_) <;> (try refine h0c ?_; (refine q_c 65 (c:=by apply hch) (h:=?_); rintro _ _ ⟨rfl, rfl⟩; (try simp only [zzE, zzF]))) <;> (try refine p_a (h:=h0a ?_))) | (refine gR 12 (q_m ?_) <;> (try refine q_e (by exact q_b (r:=by refine h1w ?_; first | rfl | (with_reducible assumption) | (decide; done) | omega)) ?_) <;> (try refine h0a ?_)) | (refine gR 14 ?_ <;> (try refine q_e (q_b (r:=by apply h1n; exact c_5; (focus (refine IntWalk.i64_in _ ?_; omega)))) ?_) <;> (try refine p_m (h:=h0a ?_))))
       exact h0w (k + 1) ⟨⟨by omega, heq⟩, by show conds.length - (k + 1) < conds.length - k; omega⟩ (by (focus (repeat (first | exact Sub.nil | refine Sub.cons rfl ?_)))) (fun _ H => H.tail)
      ·rw [if_pos hc] at heq
       have hc' : ¬ (ck : Int) = 0 := by omega
       repeat' (first | refine h0i ?_ | refine h0b ?_ | refine h3q ?_ | refine h0t ?_ | refine h1k ?_ | refine h0j ?_ | refine h0r ?_ | refine h0v ?_ | refine h0g rfl ?_ | (refine gR 9 (p_e (q_b (r:=by exact h0u q_o)) (h:=h0a ?_))) | (refine gR 10 (p_e (by apply h0n; exact rfl; exact rfl; (focus (apply h2j Tryz.underlying71 h5n; omega; omega; exact c_1))) (h:=q_e (by apply h1u (t:=99); exact rfl; exact c_21; kernel_rfl; kernel_rfl; exact h5n; (with_reducible assumption); (with_reducible assumption)) ?_)) <;> (try refine h0c ?_; (refine h0k (t:=99) rfl Tryz.zeroValue99 ?_; intro nb hnb; (try simp only [Value.cells]))) <;> (try refine h0c ?_; (refine q_W ?_)) <;> (try refine h0a ?_)) | (refine gR 11 (q_e (q_L h5n) ?_) <;> (try refine h0c ?_; (refine q_c 65 (c:=by apply hch) (h:=?_); rintro _ _ ⟨rfl, rfl⟩; (try simp only [zzE, zzF]))) <;> (try refine p_a (h:=h0a ?_))) | (refine gR 12 (p_m (h:=p_e (q_b (r:=by exact h2p q_o)) (h:=h0a ?_)))) | (refine gR 13 (p_m (h:=p_a (h:=h0a ?_)))))
       (refine h0o Tryz.results42 (.tmp rfl .nil) ?_)
       refine ⟨_, ⟨k1, k2, ?_, hM⟩, fun _ H => H.tail⟩
       rw [heq]; rfl
     ·have hke : h5q ((conds.map chkC).drop k) = 0 := firstE_nil (by rw [List.length_map]; omega)
      rw [hke] at heq
      repeat' (first | refine h0i ?_ | refine h0b ?_ | refine h0s ?_ | refine h1p ?_ | refine h1f ?_ | refine h1o ?_ | refine h2c ?_ | refine h0f rfl ?_ | (refine gR 9 (p_e (q_b (r:=by exact h0y q_o)) (h:=h0a ?_))))
      exact h0w () heq (by (focus (repeat (exact Sub.nil)))) (fun _ H => H)
    ·rintro - heq
     rw [heq]
     simp only [List.cons_append, List.nil_append]
     repeat' (first | refine h0i ?_ | refine h0b ?_ | refine h0v ?_ | (refine gR 15 (p_a (h:=h0a ?_))))
     (refine h0o Tryz.results42 (.tmp rfl .nil) ?_)
     exact ⟨_, ⟨k1, k2, rfl, hM⟩, fun _ H => H⟩
theorem take_fst {α : Type} (ps : List (α × Nat)) (k : Nat) (h : k < ps.length) : (ps.take (k + 1)).map (·.1) = (ps.take k).map (·.1) ++ [ps[k].1] := by
 rw [List.take_succ_eq_append_getElem h, List.map_append]; rfl
theorem granted_c {S w0 L} (nm : ByteArray) (df : Int) (hd : Nat) (hhd : hd < 65536) (r1 p1 q1 : Option Addr) (r2 r3 p2 p3 q2 q3 : Nat) (r kd : Nat) (h1 : r < 65536) (h2 : kd < 65536) :
  Fn Tryz.prog 67 #[.agg #[.string nm, .int .u32 df, .slice r1 r2 r3, .int .u16 (hd : Nat), .slice p1 p2 p3, .slice q1 q2 q3], .int .u16 (r : Nat), .int .u16 (kd : Nat)] S w0 L fun v L' => v = .bool (grantF hd r kd) ∧ L = L' := by
 have ha := fun (L : List Blk) => Rg.has_c (S:=S) (w0:=w0) (L:=L) hd r hhd h1
 have hb := fun (L : List Blk) => Rg.has_c (S:=S) (w0:=w0) (L:=L) kd r h2 h1
 unfold grantF
 generalize Rg.hasF hd r = x at *
 generalize Rg.hasF kd r = y at *
 by_cases hr : r = 0
 ·subst hr
  refine Fn3 Tryz.func67 Tryz.ntmps67 rfl rfl ?_
  repeat' (first | refine h0i ?_ | refine h0b ?_ | refine h0v ?_ | (refine gR 0 ?_ <;> (try refine h0c ?_; (refine h2n (t:=36) rfl rfl ?_; intro nb hnb; (try simp only [Value.cells]))) <;> (try refine p_a (h:=h0a ?_))) | (refine gR 1 (q_m ?_) <;> (try refine q_e (by exact q_b (r:=by refine h1w ?_; first | rfl | (with_reducible assumption) | (decide; done) | omega)) ?_) <;> (try refine p_m (h:=p_z (h:=p_z (h:=p_z (h:=p_z (h:=p_p (h:=p_m (h:=p_z (h:=p_z (h:=p_z (h:=p_p (h:=p_a (h:=h0a ?_)))))))))))))))
  (refine h0o Tryz.results67 (.tmp rfl .nil) ?_)
  exact ⟨_, ⟨rfl, rfl⟩, by intro w H; refine H.sub ?_; (try simp only [zzC, zzN]); repeat (first | exact List.Sublist.refl _ | refine List.Sublist.cons _ ?_)⟩
 ·rw [decide_eq_true hr, Bool.true_and]
  cases x with
  | false =>
   refine Fn3 Tryz.func67 Tryz.ntmps67 rfl rfl ?_
   repeat' (first | refine h0i ?_ | refine h0b ?_ | refine h0v ?_ | (refine gR 0 ?_ <;> (try refine h0c ?_; (refine h2n (t:=36) rfl rfl ?_; intro nb hnb; (try simp only [Value.cells]))) <;> (try refine p_a (h:=h0a ?_))) | (refine gR 1 (p_m (h:=p_e (q_b (r:=by exact h2p q_o)) (h:=p_m (h:=p_y (q_f h5l) (h:=p_y q_l (h:=q_y (h0h rfl) ?_)))))) <;> (try refine h0c ?_; (refine h1s rfl rfl rfl ?_; (refine q_c 91 (c:=by apply ha) (h:=?_); rintro _ _ ⟨rfl, rfl⟩; (try simp only [zzE, zzF])))) <;> (try refine p_p (h:=p_m (h:=p_z (h:=p_z (h:=p_z (h:=p_p (h:=p_a (h:=h0a ?_))))))))))
   (refine h0o Tryz.results67 (.tmp rfl .nil) ?_)
   exact ⟨_, ⟨rfl, rfl⟩, by intro w H; refine H.sub ?_; (try simp only [zzC, zzN]); repeat (first | exact List.Sublist.refl _ | refine List.Sublist.cons _ ?_)⟩
  | true =>
   rw [Bool.true_and]
   refine Fn3 Tryz.func67 Tryz.ntmps67 rfl rfl ?_
   repeat' (first | refine h0i ?_ | refine h0b ?_ | refine h0v ?_ | (refine gR 0 ?_ <;> (try refine h0c ?_; (refine h2n (t:=36) rfl rfl ?_; intro nb hnb; (try simp only [Value.cells]))) <;> (try refine p_a (h:=h0a ?_))) | (refine gR 1 (p_m (h:=p_e (q_b (r:=by exact h2p q_o)) (h:=p_m (h:=p_y (q_f h5l) (h:=p_y q_l (h:=q_y (h0h rfl) ?_)))))) <;> (try refine h0c ?_; (refine h1s rfl rfl rfl ?_; (refine q_c 91 (c:=by apply ha) (h:=?_); rintro _ _ ⟨rfl, rfl⟩; (try simp only [zzE, zzF])))) <;> (try refine p_p (h:=p_m (h:=p_y (h0h rfl) (h:=q_y (h0h rfl) ?_)))) <;> (try refine h0c ?_; (refine h1s rfl rfl rfl ?_; (refine q_c 91 (c:=by apply hb) (h:=?_); rintro _ _ ⟨rfl, rfl⟩; (try simp only [zzE, zzF])))) <;> (try refine p_p (h:=p_a (h:=h0a ?_)))))
   (refine h0o Tryz.results67 (.tmp rfl .nil) ?_)
   exact ⟨_, ⟨rfl, rfl⟩, by intro w H; refine H.sub ?_; (try simp only [zzC, zzN]); repeat (first | exact List.Sublist.refl _ | refine List.Sublist.cons _ ?_)⟩
theorem pthC_at (ps : List (List UInt8 × Nat)) (k : Nat) (h : k < ps.length) : ((pthC ps).drop (k * 2)).take 2 = [.string (mB8 ps[k].1), .int .u16 (ps[k].2 : Nat)] := by
 induction ps generalizing k with
 | nil => simp at h
 | cons c r ih =>
  cases k with
  | zero => rfl
  | succ k =>
   rw [show (k + 1) * 2 = k * 2 + 2 by omega]
   exact ih k (by simpa using h)
theorem chkPaths_at (hd : Nat) (ps : List (List UInt8 × Nat)) (k : Nat) (h : k < ps.length) : h4s hd (ps.drop k) ((ps.take k).map (·.1)) = if Pt.pathF ps[k].1 = false then 203 else if grantF hd ps[k].2 2047 = false then 204 else if ps[k].1 ∈ (ps.take k).map (·.1) then 206 else h4s hd (ps.drop (k + 1)) ((ps.take (k + 1)).map (·.1)) := by
 rw [take_fst ps k h, List.drop_eq_getElem_cons h]
 rfl
set_option maxHeartbeats 1000000 in
theorem paths_c {S w0 L} (nm : ByteArray) (df : Int) (hd : Nat) (hhd : hd < 65536) (r1 p1 q1 : Option Addr) (r2 r3 p2 p3 q2 q3 : Nat) (ps : List (List UInt8 × Nat)) (hps : ∀ p ∈ ps, p.1.length ≤ 1000000 ∧ p.2 < 65536) (hl : ps.length ≤ maxLen) (hN : p2 = ps.length) (hs : Sli L p1 ps.length 2 (pthC ps)) :
  Fn Tryz.prog 43 #[.agg #[.string nm, .int .u32 df, .slice r1 r2 r3, .int .u16 (hd : Nat), .slice p1 p2 p3, .slice q1 q2 q3]] S w0 L fun v L' => v = .int .i64 (h4s hd ps [] : Nat) ∧ L = L' := by
 subst hN
 refine Fn1 Tryz.func43 Tryz.ntmps43 rfl rfl ?_
 repeat' (first | (refine h2h (id:=0) ?_) | refine h0i ?_ | refine h0b ?_ | (refine gR 0 ?_ <;> (try refine h0c ?_; (refine h2n (t:=36) rfl rfl ?_; intro nb hnb; (try simp only [Value.cells]))) <;> (try refine p_a (h:=h0a ?_))) | (refine gR 1 ?_ <;> (try refine h0c ?_; (refine h5p rfl ?_; intro nb hnb)) <;> (try refine p_a (h:=h0a ?_))) | (refine gR 2 (p_e (q_f h3h) (h:=p_e q_l (h:=p_e (by apply h0e; exact rfl; exact (fun _ => BigFrame.builtin_len ..); apply h0d Tryz.underlying33; exact h3m) (h:=p_m (h:=h0a ?_)))))))
 refine ⟨?_⟩
 rename_i n1 h1
 obtain ⟨n3, rfl⟩ : ∃ x, x = nb := ⟨_, rfl⟩
 refine h0j ?_
 refine h2i (γ:=Nat × List (Value × Value)) (fun g => g.1 ≤ ps.length ∧ MapS keyT g.2 ((ps.take g.1).map (·.1)) ∧ h4s hd ps [] = h4s hd (ps.drop g.1) ((ps.take g.1).map (·.1))) (fun g => ps.length - g.1) (fun g => [(10, .int .i64 (g.1 : Nat))]) [(1, _), (3, _), (8, _), (9, _)]
  (fun g => h3k n3 g.2 :: ⟨true, n1, .cells #[.string nm, .int .u32 df, .slice r1 r2 r3, .int .u16 (hd : Nat), .slice p1 ps.length p3, .slice q1 q2 q3] 36 (0, 0)⟩ :: L) (0, []) (.cons rfl (.cons rfl (.cons rfl (.cons rfl .nil)))) ⟨Nat.zero_le _, MapS.nil _, rfl⟩ (by (focus (repeat (first | exact Sub.nil | refine Sub.cons rfl ?_)))) c_28 ?_
 rintro ⟨k, kvs⟩ ⟨hk, hM, heq⟩
 simp only [List.cons_append, List.nil_append]
 dsimp only at hk hM heq
 unfold maxLen at hl
 by_cases hlt : k < ps.length
 ·obtain ⟨j, q, bb, off, cs, T, fr, rfl, hj, hsz, hx⟩ := hs.elem hlt
  rw [pthC_at _ _ hlt] at hx
  obtain ⟨g1, g2⟩ := hps _ (List.getElem_mem hlt)
  rw [chkPaths_at hd ps k hlt] at heq
  have hpa := fun (L : List Blk) => pathL_c (S:=S) (w0:=w0) (L:=L) (mB8 ps[k].1) (by rw [h2d]; exact g1)
  rw [h3y] at hpa
  have hgr := fun (L : List Blk) => granted_c (S:=S) (w0:=w0) (L:=L) nm df hd hhd r1 (some ⟨bb, off, none⟩) q1 r2 r3 ps.length p3 q2 q3 ps[k].2 2047 g2 (by omega)
  obtain ⟨rr, hl1, hl2, hl3⟩ := hM.look .string keyT keyT_same ps[k].1
  rw [← take_fst ps k hlt] at hl3
  clear hM g1
  generalize (ps.take k).map (·.1) = seen at *
  generalize Pt.pathF ps[k].1 = pf at *
  generalize grantF hd ps[k].2 2047 = gf at *
  generalize ps[k] = p at *
  obtain ⟨pt, pr⟩ := p
  dsimp only at *
  cases pf with
  | false =>
   rw [if_pos rfl] at heq
   repeat' (first | refine h0i ?_ | refine h0b ?_ | refine h3q ?_ | refine h0t ?_ | refine h1k ?_ | refine h0j ?_ | refine h0r ?_ | refine h0v ?_ | refine h0g rfl ?_ | (refine gR 3 (p_e (q_b (r:=by exact h0u q_o)) (h:=h0a ?_))) | (refine gR 4 (p_e (by apply h0n; exact rfl; exact rfl; (focus (apply h2j Tryz.underlying33 h4x; omega; omega; exact c_1))) (h:=q_e (by apply h1u (t:=104); exact rfl; exact c_19; kernel_rfl; kernel_rfl; exact h4x; (with_reducible assumption); (with_reducible assumption)) ?_)) <;> (try refine h0c ?_; (refine h0k (t:=104) rfl Tryz.zeroValue104 ?_; intro nb hnb; (try simp only [Value.cells]))) <;> (try refine h0c ?_; (refine q_W ?_)) <;> (try refine h0a ?_)) | (refine gR 5 (p_e (q_f h5f) (h:=q_e q_l ?_)) <;> (try refine h0c ?_; (refine q_c 66 (c:=by apply hpa) (h:=?_); rintro _ _ ⟨rfl, rfl⟩; (try simp only [zzE, zzF]))) <;> (try refine p_e (by apply h5m; exact rfl; exact h3o) (h:=p_a (h:=h0a ?_)))) | (refine gR 6 (p_a (h:=h0a ?_))))
   (refine h0o Tryz.results43 (.tmp rfl .nil) ?_)
   exact ⟨_, ⟨by rw [heq]; rfl, rfl⟩, fun _ H => H.tail.tail.tail⟩
  | true =>
  rw [if_neg (fun h => by cases h)] at heq
  cases gf with
  | false =>
   rw [if_pos rfl] at heq
   repeat' (first | refine h0i ?_ | refine h0b ?_ | refine h3q ?_ | refine h0t ?_ | refine h1k ?_ | refine h0j ?_ | refine h0r ?_ | refine h0v ?_ | refine h0g rfl ?_ | refine h0f rfl ?_ | (refine gR 3 (p_e (q_b (r:=by exact h0u q_o)) (h:=h0a ?_))) | (refine gR 4 (p_e (by apply h0n; exact rfl; exact rfl; (focus (apply h2j Tryz.underlying33 h4x; omega; omega; exact c_1))) (h:=q_e (by apply h1u (t:=104); exact rfl; exact c_19; kernel_rfl; kernel_rfl; exact h4x; (with_reducible assumption); (with_reducible assumption)) ?_)) <;> (try refine h0c ?_; (refine h0k (t:=104) rfl Tryz.zeroValue104 ?_; intro nb hnb; (try simp only [Value.cells]))) <;> (try refine h0c ?_; (refine q_W ?_)) <;> (try refine h0a ?_)) | (refine gR 5 (p_e (q_f h5f) (h:=q_e q_l ?_)) <;> (try refine h0c ?_; (refine q_c 66 (c:=by apply hpa) (h:=?_); rintro _ _ ⟨rfl, rfl⟩; (try simp only [zzE, zzF]))) <;> (try refine p_e (by apply h5m; exact rfl; exact h1r) (h:=p_a (h:=h0a ?_)))) | (refine gR 7 (p_e (q_L sz_36) (h:=p_e (q_f fo_104_1) (h:=q_e q_l ?_))) <;> (try refine h0c ?_; (refine q_c 67 (c:=by apply hgr) (h:=?_); rintro _ _ ⟨rfl, rfl⟩; (try simp only [zzE, zzF]))) <;> (try refine p_e (by apply h5m; exact rfl; exact h3o) (h:=p_a (h:=h0a ?_)))) | (refine gR 8 (p_a (h:=h0a ?_))))
   (refine h0o Tryz.results43 (.tmp rfl .nil) ?_)
   exact ⟨_, ⟨by rw [heq]; rfl, rfl⟩, fun _ H => H.tail.tail.tail⟩
  | true =>
   rw [if_neg (fun h => by cases h)] at heq
   by_cases hc : pt ∈ seen
   ·rw [if_pos hc] at heq
    replace hl2 := hl2.trans (congrArg Value.bool (@decide_eq_true _ (_) hc))
    repeat' (first | refine h0i ?_ | refine h0b ?_ | refine h3q ?_ | refine h0t ?_ | refine h1k ?_ | refine h0j ?_ | refine h0r ?_ | refine h0v ?_ | refine h0g rfl ?_ | refine h0f rfl ?_ | (refine gR 3 (p_e (q_b (r:=by exact h0u q_o)) (h:=h0a ?_))) | (refine gR 4 (p_e (by apply h0n; exact rfl; exact rfl; (focus (apply h2j Tryz.underlying33 h4x; omega; omega; exact c_1))) (h:=q_e (by apply h1u (t:=104); exact rfl; exact c_19; kernel_rfl; kernel_rfl; exact h4x; (with_reducible assumption); (with_reducible assumption)) ?_)) <;> (try refine h0c ?_; (refine h0k (t:=104) rfl Tryz.zeroValue104 ?_; intro nb hnb; (try simp only [Value.cells]))) <;> (try refine h0c ?_; (refine q_W ?_)) <;> (try refine h0a ?_)) | (refine gR 5 (p_e (q_f h5f) (h:=q_e q_l ?_)) <;> (try refine h0c ?_; (refine q_c 66 (c:=by apply hpa) (h:=?_); rintro _ _ ⟨rfl, rfl⟩; (try simp only [zzE, zzF]))) <;> (try refine p_e (by apply h5m; exact rfl; exact h1r) (h:=p_a (h:=h0a ?_)))) | (refine gR 7 (p_e (q_L sz_36) (h:=p_e (q_f fo_104_1) (h:=q_e q_l ?_))) <;> (try refine h0c ?_; (refine q_c 67 (c:=by apply hgr) (h:=?_); rintro _ _ ⟨rfl, rfl⟩; (try simp only [zzE, zzF]))) <;> (try refine p_e (by apply h5m; exact rfl; exact h1r) (h:=p_a (h:=h0a ?_)))) | (refine gR 9 (p_m (h:=p_e (q_f h5f) (h:=p_e q_l (h:=p_e (by apply h4l; exact rfl; exact rfl; exact h3i; exact Tryz.underlying82; exact Tryz.underlying9; exact trivial; exact Tryz.zeroValue4; (with_reducible assumption); (with_reducible assumption)) (h:=p_a (h:=h0a ?_))))))) | (refine gR 10 (p_a (h:=h0a ?_))))
    (refine h0o Tryz.results43 (.tmp rfl .nil) ?_)
    exact ⟨_, ⟨by rw [heq]; rfl, rfl⟩, fun _ H => H.tail.tail.tail⟩
   ·rw [if_neg hc] at heq
    replace hl2 := hl2.trans (congrArg Value.bool (@decide_eq_false _ (_) hc))
    repeat' (first | refine h0i ?_ | refine h0b ?_ | refine h0s ?_ | refine h0x ?_ | refine h0j ?_ | refine h0r ?_ | refine h0g rfl ?_ | refine h0f rfl ?_ | (refine gR 3 (p_e (q_b (r:=by exact h0u q_o)) (h:=h0a ?_))) | (refine gR 4 (p_e (by apply h0n; exact rfl; exact rfl; (focus (apply h2j Tryz.underlying33 h4x; omega; omega; exact c_1))) (h:=q_e (by apply h1u (t:=104); exact rfl; exact c_19; kernel_rfl; kernel_rfl; exact h4x; (with_reducible assumption); (with_reducible assumption)) ?_)) <;> (try refine h0c ?_; (refine h0k (t:=104) rfl Tryz.zeroValue104 ?_; intro nb hnb; (try simp only [Value.cells]))) <;> (try refine h0c ?_; (refine q_W ?_)) <;> (try refine h0a ?_)) | (refine gR 5 (p_e (q_f h5f) (h:=q_e q_l ?_)) <;> (try refine h0c ?_; (refine q_c 66 (c:=by apply hpa) (h:=?_); rintro _ _ ⟨rfl, rfl⟩; (try simp only [zzE, zzF]))) <;> (try refine p_e (by apply h5m; exact rfl; exact h1r) (h:=p_a (h:=h0a ?_)))) | (refine gR 7 (p_e (q_L sz_36) (h:=p_e (q_f fo_104_1) (h:=q_e q_l ?_))) <;> (try refine h0c ?_; (refine q_c 67 (c:=by apply hgr) (h:=?_); rintro _ _ ⟨rfl, rfl⟩; (try simp only [zzE, zzF]))) <;> (try refine p_e (by apply h5m; exact rfl; exact h1r) (h:=p_a (h:=h0a ?_)))) | (refine gR 9 (p_m (h:=p_e (q_f h5f) (h:=p_e q_l (h:=p_e (by apply h4l; exact rfl; exact rfl; exact h3i; exact Tryz.underlying82; exact Tryz.underlying9; exact trivial; exact Tryz.zeroValue4; (with_reducible assumption); (with_reducible assumption)) (h:=p_a (h:=h0a ?_))))))) | (refine gR 11 (p_m (h:=p_e (q_f h5f) (h:=q_e q_l ?_))) <;> (try refine h0c ?_; (apply h4k; exact rfl; exact rfl; exact rfl; exact h3i; exact Tryz.underlying82; exact Tryz.underlying9; exact trivial; (with_reducible assumption); (try simp only [List.set_cons_succ]); (try simp only [List.set_cons_zero]))) <;> (try refine h0a ?_)) | (refine gR 12 ?_ <;> (try refine q_e (q_b (r:=by apply h1n; exact c_5; (focus (refine IntWalk.i64_in _ ?_; omega)))) ?_) <;> (try refine p_m (h:=h0a ?_))))
    exact h0w (k + 1, _) ⟨⟨by show k + 1 ≤ ps.length; omega, hl3, heq⟩, by show ps.length - (k + 1) < ps.length - k; omega⟩ (by (focus (repeat (first | exact Sub.nil | refine Sub.cons rfl ?_)))) (fun _ H => H.tail)
 ·have hke : h4s hd (ps.drop k) ((ps.take k).map (·.1)) = 0 := by rw [List.drop_eq_nil_of_le (by omega)]; rfl
  rw [hke] at heq
  rw [heq]
  repeat' (first | refine h0i ?_ | refine h0b ?_ | refine h1p ?_ | refine h1f ?_ | refine h1o ?_ | refine h2c ?_ | refine h0v ?_ | refine h0f rfl ?_ | (refine gR 3 (p_e (q_b (r:=by exact h0y q_o)) (h:=h0a ?_))) | (refine gR 13 (p_a (h:=h0a ?_))))
  (refine h0o Tryz.results43 (.tmp rfl .nil) ?_)
  exact ⟨_, ⟨rfl, rfl⟩, fun _ H => H.tail.tail⟩
theorem porC_at (ps : List (Nat × Nat)) (k : Nat) (h : k < ps.length) : ((porC ps).drop (k * 2)).take 2 = [.int .u16 (ps[k].1 : Nat), .int .u16 (ps[k].2 : Nat)] := by
 induction ps generalizing k with
 | nil => simp at h
 | cons c r ih =>
  cases k with
  | zero => rfl
  | succ k =>
   rw [show (k + 1) * 2 = k * 2 + 2 by omega]
   exact ih k (by simpa using h)
theorem chkPorts_at (hd : Nat) (ps : List (Nat × Nat)) (k : Nat) (h : k < ps.length) : h5g hd (ps.drop k) ((ps.take k).map (·.1)) =  if grantF hd ps[k].2 49152 = false then 204 else if ps[k].1 ∈ (ps.take k).map (·.1) then 206 else h5g hd (ps.drop (k + 1)) ((ps.take (k + 1)).map (·.1)) := by
 rw [take_fst ps k h, List.drop_eq_getElem_cons h]
 rfl
set_option maxHeartbeats 1000000 in
theorem ports_c {S w0 L} (nm : ByteArray) (df : Int) (hd : Nat) (hhd : hd < 65536) (r1 p1 q1 : Option Addr) (r2 r3 p2 p3 q2 q3 : Nat) (ps : List (Nat × Nat)) (hps : ∀ p ∈ ps, p.1 < 65536 ∧ p.2 < 65536) (hl : ps.length ≤ maxLen) (hN : q2 = ps.length) (hs : Sli L q1 ps.length 2 (porC ps)) :
  Fn Tryz.prog 44 #[.agg #[.string nm, .int .u32 df, .slice r1 r2 r3, .int .u16 (hd : Nat), .slice p1 p2 p3, .slice q1 q2 q3]] S w0 L fun v L' => v = .int .i64 (h5g hd ps [] : Nat) ∧ L = L' := by
 subst hN
 refine Fn1 Tryz.func44 Tryz.ntmps44 rfl rfl ?_
 repeat' (first | (refine h2h (id:=0) ?_) | refine h0i ?_ | refine h0b ?_ | (refine gR 0 ?_ <;> (try refine h0c ?_; (refine h2n (t:=36) rfl rfl ?_; intro nb hnb; (try simp only [Value.cells]))) <;> (try refine p_a (h:=h0a ?_))) | (refine gR 1 ?_ <;> (try refine h0c ?_; (refine h5p rfl ?_; intro nb hnb)) <;> (try refine p_a (h:=h0a ?_))) | (refine gR 2 (p_e (q_f h3p) (h:=p_e q_l (h:=p_e (by apply h0e; exact rfl; exact (fun _ => BigFrame.builtin_len ..); apply h0d Tryz.underlying34; exact h3m) (h:=p_m (h:=h0a ?_)))))))
 refine ⟨?_⟩
 rename_i n1 h1
 obtain ⟨n3, rfl⟩ : ∃ x, x = nb := ⟨_, rfl⟩
 refine h0j ?_
 refine h2i (γ:=Nat × List (Value × Value)) (fun g => g.1 ≤ ps.length ∧ MapS keyP g.2 ((ps.take g.1).map (·.1)) ∧ h5g hd ps [] = h5g hd (ps.drop g.1) ((ps.take g.1).map (·.1))) (fun g => ps.length - g.1) (fun g => [(10, .int .i64 (g.1 : Nat))]) [(1, _), (3, _), (8, _), (9, _)]
  (fun g => h3k n3 g.2 :: ⟨true, n1, .cells #[.string nm, .int .u32 df, .slice r1 r2 r3, .int .u16 (hd : Nat), .slice p1 p2 p3, .slice q1 ps.length q3] 36 (0, 0)⟩ :: L) (0, []) (.cons rfl (.cons rfl (.cons rfl (.cons rfl .nil)))) ⟨Nat.zero_le _, MapS.nil _, rfl⟩ (by (focus (repeat (first | exact Sub.nil | refine Sub.cons rfl ?_)))) c_28 ?_
 rintro ⟨k, kvs⟩ ⟨hk, hM, heq⟩
 simp only [List.cons_append, List.nil_append]
 dsimp only at hk hM heq
 unfold maxLen at hl
 by_cases hlt : k < ps.length
 ·obtain ⟨j, q, bb, off, cs, T, fr, rfl, hj, hsz, hx⟩ := hs.elem hlt
  rw [porC_at _ _ hlt] at hx
  obtain ⟨g1, g2⟩ := hps _ (List.getElem_mem hlt)
  rw [chkPorts_at hd ps k hlt] at heq
  have hgr := fun (L : List Blk) => granted_c (S:=S) (w0:=w0) (L:=L) nm df hd hhd r1 p1 (some ⟨bb, off, none⟩) r2 r3 p2 p3 ps.length q3 ps[k].2 49152 g2 (by omega)
  obtain ⟨rr, hl1, hl2, hl3⟩ := hM.look (.int .u16) keyP keyP_same ps[k].1
  rw [← take_fst ps k hlt] at hl3
  clear hM g1
  generalize (ps.take k).map (·.1) = seen at *
  generalize grantF hd ps[k].2 49152 = gf at *
  generalize ps[k] = p at *
  obtain ⟨pt, pr⟩ := p
  dsimp only at *
  cases gf with
  | false =>
   rw [if_pos rfl] at heq
   repeat' (first | refine h0i ?_ | refine h0b ?_ | refine h3q ?_ | refine h0t ?_ | refine h1k ?_ | refine h0j ?_ | refine h0r ?_ | refine h0v ?_ | refine h0g rfl ?_ | (refine gR 3 (p_e (q_b (r:=by exact h0u q_o)) (h:=h0a ?_))) | (refine gR 4 (p_e (by apply h0n; exact rfl; exact rfl; (focus (apply h2j Tryz.underlying34 h6e; omega; omega; exact c_1))) (h:=q_e (by apply h1u (t:=106); exact rfl; exact c_19; kernel_rfl; kernel_rfl; exact h6e; (with_reducible assumption); (with_reducible assumption)) ?_)) <;> (try refine h0c ?_; (refine h0k (t:=106) rfl Tryz.zeroValue106 ?_; intro nb hnb; (try simp only [Value.cells]))) <;> (try refine h0c ?_; (refine q_W ?_)) <;> (try refine h0a ?_)) | (refine gR 5 (p_e (q_L sz_36) (h:=p_e (q_f fo_106_1) (h:=q_e q_l ?_))) <;> (try refine h0c ?_; (refine q_c 67 (c:=by apply hgr) (h:=?_); rintro _ _ ⟨rfl, rfl⟩; (try simp only [zzE, zzF]))) <;> (try refine p_e (by apply h5m; exact rfl; exact h3o) (h:=p_a (h:=h0a ?_)))) | (refine gR 6 (p_a (h:=h0a ?_))))
   (refine h0o Tryz.results44 (.tmp rfl .nil) ?_)
   exact ⟨_, ⟨by rw [heq]; rfl, rfl⟩, fun _ H => H.tail.tail.tail⟩
  | true =>
   rw [if_neg (fun h => by cases h)] at heq
   by_cases hc : pt ∈ seen
   ·rw [if_pos hc] at heq
    replace hl2 := hl2.trans (congrArg Value.bool (@decide_eq_true _ (_) hc))
    repeat' (first | refine h0i ?_ | refine h0b ?_ | refine h3q ?_ | refine h0t ?_ | refine h1k ?_ | refine h0j ?_ | refine h0r ?_ | refine h0v ?_ | refine h0g rfl ?_ | refine h0f rfl ?_ | (refine gR 3 (p_e (q_b (r:=by exact h0u q_o)) (h:=h0a ?_))) | (refine gR 4 (p_e (by apply h0n; exact rfl; exact rfl; (focus (apply h2j Tryz.underlying34 h6e; omega; omega; exact c_1))) (h:=q_e (by apply h1u (t:=106); exact rfl; exact c_19; kernel_rfl; kernel_rfl; exact h6e; (with_reducible assumption); (with_reducible assumption)) ?_)) <;> (try refine h0c ?_; (refine h0k (t:=106) rfl Tryz.zeroValue106 ?_; intro nb hnb; (try simp only [Value.cells]))) <;> (try refine h0c ?_; (refine q_W ?_)) <;> (try refine h0a ?_)) | (refine gR 5 (p_e (q_L sz_36) (h:=p_e (q_f fo_106_1) (h:=q_e q_l ?_))) <;> (try refine h0c ?_; (refine q_c 67 (c:=by apply hgr) (h:=?_); rintro _ _ ⟨rfl, rfl⟩; (try simp only [zzE, zzF]))) <;> (try refine p_e (by apply h5m; exact rfl; exact h1r) (h:=p_a (h:=h0a ?_)))) | (refine gR 7 (p_m (h:=p_e (q_f fo_106_0) (h:=p_e q_l (h:=p_e (by apply h4l; exact rfl; exact rfl; exact h3i; exact Tryz.underlying83; exact Tryz.underlying31; exact rfl; exact Tryz.zeroValue4; (with_reducible assumption); (with_reducible assumption)) (h:=p_a (h:=h0a ?_))))))) | (refine gR 8 (p_a (h:=h0a ?_))))
    (refine h0o Tryz.results44 (.tmp rfl .nil) ?_)
    exact ⟨_, ⟨by rw [heq]; rfl, rfl⟩, fun _ H => H.tail.tail.tail⟩
   ·rw [if_neg hc] at heq
    replace hl2 := hl2.trans (congrArg Value.bool (@decide_eq_false _ (_) hc))
    repeat' (first | refine h0i ?_ | refine h0b ?_ | refine h0s ?_ | refine h0x ?_ | refine h0j ?_ | refine h0r ?_ | refine h0g rfl ?_ | refine h0f rfl ?_ | (refine gR 3 (p_e (q_b (r:=by exact h0u q_o)) (h:=h0a ?_))) | (refine gR 4 (p_e (by apply h0n; exact rfl; exact rfl; (focus (apply h2j Tryz.underlying34 h6e; omega; omega; exact c_1))) (h:=q_e (by apply h1u (t:=106); exact rfl; exact c_19; kernel_rfl; kernel_rfl; exact h6e; (with_reducible assumption); (with_reducible assumption)) ?_)) <;> (try refine h0c ?_; (refine h0k (t:=106) rfl Tryz.zeroValue106 ?_; intro nb hnb; (try simp only [Value.cells]))) <;> (try refine h0c ?_; (refine q_W ?_)) <;> (try refine h0a ?_)) | (refine gR 5 (p_e (q_L sz_36) (h:=p_e (q_f fo_106_1) (h:=q_e q_l ?_))) <;> (try refine h0c ?_; (refine q_c 67 (c:=by apply hgr) (h:=?_); rintro _ _ ⟨rfl, rfl⟩; (try simp only [zzE, zzF]))) <;> (try refine p_e (by apply h5m; exact rfl; exact h1r) (h:=p_a (h:=h0a ?_)))) | (refine gR 7 (p_m (h:=p_e (q_f fo_106_0) (h:=p_e q_l (h:=p_e (by apply h4l; exact rfl; exact rfl; exact h3i; exact Tryz.underlying83; exact Tryz.underlying31; exact rfl; exact Tryz.zeroValue4; (with_reducible assumption); (with_reducible assumption)) (h:=p_a (h:=h0a ?_))))))) | (refine gR 9 (p_m (h:=p_e (q_f fo_106_0) (h:=q_e q_l ?_))) <;> (try refine h0c ?_; (apply h4k; exact rfl; exact rfl; exact rfl; exact h3i; exact Tryz.underlying83; exact Tryz.underlying31; exact rfl; (with_reducible assumption); (try simp only [List.set_cons_succ]); (try simp only [List.set_cons_zero]))) <;> (try refine h0a ?_)) | (refine gR 10 ?_ <;> (try refine q_e (q_b (r:=by apply h1n; exact c_5; (focus (refine IntWalk.i64_in _ ?_; omega)))) ?_) <;> (try refine p_m (h:=h0a ?_))))
    exact h0w (k + 1, _) ⟨⟨by show k + 1 ≤ ps.length; omega, hl3, heq⟩, by show ps.length - (k + 1) < ps.length - k; omega⟩ (by (focus (repeat (first | exact Sub.nil | refine Sub.cons rfl ?_)))) (fun _ H => H.tail)
 ·have hke : h5g hd (ps.drop k) ((ps.take k).map (·.1)) = 0 := by rw [List.drop_eq_nil_of_le (by omega)]; rfl
  rw [hke] at heq
  rw [heq]
  repeat' (first | refine h0i ?_ | refine h0b ?_ | refine h1p ?_ | refine h1f ?_ | refine h1o ?_ | refine h2c ?_ | refine h0v ?_ | refine h0f rfl ?_ | (refine gR 3 (p_e (q_b (r:=by exact h0y q_o)) (h:=h0a ?_))) | (refine gR 11 (p_a (h:=h0a ?_))))
  (refine h0o Tryz.results44 (.tmp rfl .nil) ?_)
  exact ⟨_, ⟨rfl, rfl⟩, fun _ H => H.tail.tail⟩
theorem ne_paths (a : ByteArray) (b : Int) : RBin Tryz.prog .neq 104 (.agg #[.string a, .int .u16 b]) (.agg #[.string a, .int .u16 b]) (.bool false) := by
 apply RBin.mk
 intro w
 go_simp
set_option maxHeartbeats 1000000 in
theorem same_paths {S w0 L} (ps : List (List UInt8 × Nat)) (n : Nat) (hn : n = ps.length) (a1 a2 : Option Addr) (c1 c2 : Nat) (hl : ps.length ≤ maxLen) (s1 : Sli L a1 ps.length 2 (pthC ps)) (s2 : Sli L a2 ps.length 2 (pthC ps)) :
  Fn Tryz.prog 37 #[.slice a1 n c1, .slice a2 n c2] S w0 L fun v L' => v = .bool true ∧ L = L' := by
 subst hn
 unfold maxLen at hl
 refine Fn2 Tryz.func37 Tryz.ntmps37 rfl rfl ?_
 repeat' (first | (refine h2h (id:=0) ?_) | refine h0i ?_ | refine h0b ?_ | (refine gR 0 (p_a (h:=h0a ?_))) | (refine gR 1 (p_m (h:=p_e (by apply h0e; exact rfl; exact (fun _ => BigFrame.builtin_len ..); apply h0d Tryz.underlying33; exact h3m) (h:=p_m (h:=h0a ?_))))))
 refine ⟨?_⟩
 refine h0j ?_
 refine h2i (γ:=Nat) (fun k => k ≤ ps.length) (fun k => ps.length - k) (fun k => [(9, .int .i64 (k : Nat))]) [(1, _), (7, _), (8, _)] (fun _ => L) 0 (.cons rfl (.cons rfl (.cons rfl .nil))) (Nat.zero_le _) (by (focus (repeat (first | exact Sub.nil | refine Sub.cons rfl ?_)))) (fun _ H => H) ?_
 intro k hk
 simp only [List.cons_append, List.nil_append]
 by_cases hlt : k < ps.length
 ·obtain ⟨j, q, bb, off, cs, T, fr, rfl, hj, hsz, hx⟩ := s1.elem hlt
  obtain ⟨j2, q2, bb2, off2, cs2, T2, fr2, rfl, hj2, hsz2, hx2⟩ := s2.elem hlt
  rw [pthC_at _ _ hlt] at hx hx2
  generalize ps[k] = p at *
  obtain ⟨pt, pr⟩ := p
  try dsimp only at *
  have hne := ne_paths (mB8 pt) (pr : Nat)
  repeat' (first | refine h0i ?_ | refine h0b ?_ | refine h0s ?_ | refine h0x ?_ | refine h0j ?_ | refine h0r ?_ | refine h0g rfl ?_ | refine h0f rfl ?_ | (refine gR 2 (p_e (q_b (r:=by exact h0u q_o)) (h:=h0a ?_))) | (refine gR 3 (p_m (h:=p_e (by apply h0n; exact rfl; exact rfl; (focus (apply h2j Tryz.underlying33 h4x; omega; omega; exact c_1))) (h:=q_e (by apply h1u (t:=104); exact rfl; exact c_21; kernel_rfl; kernel_rfl; exact h4x; (with_reducible assumption); (with_reducible assumption)) ?_))) <;> (try refine h0c ?_; (refine h0k (t:=104) rfl Tryz.zeroValue104 ?_; intro nb hnb; (try simp only [Value.cells]))) <;> (try refine q_a ?_) <;> (try refine h0c ?_; (refine q_W ?_)) <;> (try refine h0a ?_)) | ((refine h1z (id:=4) (m:=6) (by kernel_rfl) rfl (q_u 0 (x:=by exact q_L h4x) (h:=q_u 1 (x:=by exact h0h rfl) (h:=q_u 2 (x:=by exact h0h rfl) (h:=q_u 3 (x:=by apply h0n; exact rfl; exact rfl; (focus (apply h2j Tryz.underlying33 h4x; omega; omega; exact c_1))) (h:=q_u 4 (x:=by apply h1u (t:=104); exact rfl; exact c_19; kernel_rfl; kernel_rfl; exact h4x; (with_reducible assumption); (with_reducible assumption)) (h:=q_u 5 (x:=by apply h1l (op:=.neq) (t:=104); exact rfl; exact rfl; kernel_rfl; (with_reducible assumption)) (h:=h1a (by kernel_rfl) ?_))))))))) | (refine gR 6 ?_ <;> (try refine q_e (q_b (r:=by apply h1n; exact c_5; (focus (refine IntWalk.i64_in _ ?_; omega)))) ?_) <;> (try refine p_m (h:=h0a ?_))))
  exact h0w (k + 1) ⟨by show k + 1 ≤ ps.length; omega, by show ps.length - (k + 1) < ps.length - k; omega⟩ (by (focus (repeat (first | exact Sub.nil | refine Sub.cons rfl ?_)))) (fun _ H => H.tail)
 ·repeat' (first | refine h0i ?_ | refine h0b ?_ | refine h1p ?_ | refine h1f ?_ | refine h1o ?_ | refine h2c ?_ | refine h0v ?_ | refine h0f rfl ?_ | (refine gR 2 (p_e (q_b (r:=by exact h0y q_o)) (h:=h0a ?_))) | (refine gR 7 (p_a (h:=h0a ?_))))
  (refine h0o Tryz.results37 (.tmp rfl .nil) ?_)
  exact ⟨_, ⟨rfl, rfl⟩, by intro w H; refine H.sub ?_; (try simp only [zzC, zzN]); repeat (exact List.Sublist.refl _)⟩
theorem ne_ports (a : Int) (b : Int) : RBin Tryz.prog .neq 106 (.agg #[.int .u16 a, .int .u16 b]) (.agg #[.int .u16 a, .int .u16 b]) (.bool false) := by
 apply RBin.mk
 intro w
 go_simp
set_option maxHeartbeats 1000000 in
theorem same_ports {S w0 L} (ps : List (Nat × Nat)) (n : Nat) (hn : n = ps.length) (a1 a2 : Option Addr) (c1 c2 : Nat) (hl : ps.length ≤ maxLen) (s1 : Sli L a1 ps.length 2 (porC ps)) (s2 : Sli L a2 ps.length 2 (porC ps)) :
  Fn Tryz.prog 38 #[.slice a1 n c1, .slice a2 n c2] S w0 L fun v L' => v = .bool true ∧ L = L' := by
 subst hn
 unfold maxLen at hl
 refine Fn2 Tryz.func38 Tryz.ntmps38 rfl rfl ?_
 repeat' (first | (refine h2h (id:=0) ?_) | refine h0i ?_ | refine h0b ?_ | (refine gR 0 (p_a (h:=h0a ?_))) | (refine gR 1 (p_m (h:=p_e (by apply h0e; exact rfl; exact (fun _ => BigFrame.builtin_len ..); apply h0d Tryz.underlying34; exact h3m) (h:=p_m (h:=h0a ?_))))))
 refine ⟨?_⟩
 refine h0j ?_
 refine h2i (γ:=Nat) (fun k => k ≤ ps.length) (fun k => ps.length - k) (fun k => [(9, .int .i64 (k : Nat))]) [(1, _), (7, _), (8, _)] (fun _ => L) 0 (.cons rfl (.cons rfl (.cons rfl .nil))) (Nat.zero_le _) (by (focus (repeat (first | exact Sub.nil | refine Sub.cons rfl ?_)))) (fun _ H => H) ?_
 intro k hk
 simp only [List.cons_append, List.nil_append]
 by_cases hlt : k < ps.length
 ·obtain ⟨j, q, bb, off, cs, T, fr, rfl, hj, hsz, hx⟩ := s1.elem hlt
  obtain ⟨j2, q2, bb2, off2, cs2, T2, fr2, rfl, hj2, hsz2, hx2⟩ := s2.elem hlt
  rw [porC_at _ _ hlt] at hx hx2
  generalize ps[k] = p at *
  obtain ⟨pt, pr⟩ := p
  try dsimp only at *
  have hne := ne_ports (pt : Nat) (pr : Nat)
  repeat' (first | refine h0i ?_ | refine h0b ?_ | refine h0s ?_ | refine h0x ?_ | refine h0j ?_ | refine h0r ?_ | refine h0g rfl ?_ | refine h0f rfl ?_ | (refine gR 2 (p_e (q_b (r:=by exact h0u q_o)) (h:=h0a ?_))) | (refine gR 3 (p_m (h:=p_e (by apply h0n; exact rfl; exact rfl; (focus (apply h2j Tryz.underlying34 h6e; omega; omega; exact c_1))) (h:=q_e (by apply h1u (t:=106); exact rfl; exact c_21; kernel_rfl; kernel_rfl; exact h6e; (with_reducible assumption); (with_reducible assumption)) ?_))) <;> (try refine h0c ?_; (refine h0k (t:=106) rfl Tryz.zeroValue106 ?_; intro nb hnb; (try simp only [Value.cells]))) <;> (try refine q_a ?_) <;> (try refine h0c ?_; (refine q_W ?_)) <;> (try refine h0a ?_)) | ((refine h1z (id:=4) (m:=6) (by kernel_rfl) rfl (q_u 0 (x:=by exact q_L h6e) (h:=q_u 1 (x:=by exact h0h rfl) (h:=q_u 2 (x:=by exact h0h rfl) (h:=q_u 3 (x:=by apply h0n; exact rfl; exact rfl; (focus (apply h2j Tryz.underlying34 h6e; omega; omega; exact c_1))) (h:=q_u 4 (x:=by apply h1u (t:=106); exact rfl; exact c_19; kernel_rfl; kernel_rfl; exact h6e; (with_reducible assumption); (with_reducible assumption)) (h:=q_u 5 (x:=by apply h1l (op:=.neq) (t:=106); exact rfl; exact rfl; kernel_rfl; (with_reducible assumption)) (h:=h1a (by kernel_rfl) ?_))))))))) | (refine gR 6 ?_ <;> (try refine q_e (q_b (r:=by apply h1n; exact c_5; (focus (refine IntWalk.i64_in _ ?_; omega)))) ?_) <;> (try refine p_m (h:=h0a ?_))))
  exact h0w (k + 1) ⟨by show k + 1 ≤ ps.length; omega, by show ps.length - (k + 1) < ps.length - k; omega⟩ (by (focus (repeat (first | exact Sub.nil | refine Sub.cons rfl ?_)))) (fun _ H => H.tail)
 ·repeat' (first | refine h0i ?_ | refine h0b ?_ | refine h1p ?_ | refine h1f ?_ | refine h1o ?_ | refine h2c ?_ | refine h0v ?_ | refine h0f rfl ?_ | (refine gR 2 (p_e (q_b (r:=by exact h0y q_o)) (h:=h0a ?_))) | (refine gR 7 (p_a (h:=h0a ?_))))
  (refine h0o Tryz.results38 (.tmp rfl .nil) ?_)
  exact ⟨_, ⟨rfl, rfl⟩, by intro w H; refine H.sub ?_; (try simp only [zzC, zzN]); repeat (exact List.Sublist.refl _)⟩
theorem ne_conds (a b c d : Int) : RBin Tryz.prog .neq 99 (.agg #[.int .i64 a, .int .u8 b, .int .u64 c, .int .u64 d]) (.agg #[.int .i64 a, .int .u8 b, .int .u64 c, .int .u64 d]) (.bool false) := by
 apply RBin.mk
 intro w
 go_simp
set_option maxHeartbeats 1000000 in
theorem same_conds {S w0 L} (ps : List (GCnd)) (n : Nat) (hn : n = ps.length) (a1 a2 : Option Addr) (c1 c2 : Nat) (hl : ps.length ≤ maxLen) (s1 : Sli L a1 ps.length 4 (gcC ps)) (s2 : Sli L a2 ps.length 4 (gcC ps)) :
  Fn Tryz.prog 64 #[.slice a1 n c1, .slice a2 n c2] S w0 L fun v L' => v = .bool true ∧ L = L' := by
 subst hn
 unfold maxLen at hl
 refine Fn2 Tryz.func64 Tryz.ntmps64 rfl rfl ?_
 repeat' (first | (refine h2h (id:=0) ?_) | refine h0i ?_ | refine h0b ?_ | (refine gR 0 (p_a (h:=h0a ?_))) | (refine gR 1 (p_m (h:=p_e (by apply h0e; exact rfl; exact (fun _ => BigFrame.builtin_len ..); apply h0d Tryz.underlying71; exact h3m) (h:=p_m (h:=h0a ?_))))))
 refine ⟨?_⟩
 refine h0j ?_
 refine h2i (γ:=Nat) (fun k => k ≤ ps.length) (fun k => ps.length - k) (fun k => [(9, .int .i64 (k : Nat))]) [(1, _), (7, _), (8, _)] (fun _ => L) 0 (.cons rfl (.cons rfl (.cons rfl .nil))) (Nat.zero_le _) (by (focus (repeat (first | exact Sub.nil | refine Sub.cons rfl ?_)))) (fun _ H => H) ?_
 intro k hk
 simp only [List.cons_append, List.nil_append]
 by_cases hlt : k < ps.length
 ·obtain ⟨j, q, bb, off, cs, T, fr, rfl, hj, hsz, hx⟩ := s1.elem hlt
  obtain ⟨j2, q2, bb2, off2, cs2, T2, fr2, rfl, hj2, hsz2, hx2⟩ := s2.elem hlt
  rw [gcC_at _ _ hlt] at hx hx2
  generalize ps[k] = p at *
  obtain ⟨ca, co, cm, cv⟩ := p
  try dsimp only at *
  have hne := ne_conds ca (co : Nat) (cm : Nat) (cv : Nat)
  repeat' (first | refine h0i ?_ | refine h0b ?_ | refine h0s ?_ | refine h0x ?_ | refine h0j ?_ | refine h0r ?_ | refine h0g rfl ?_ | refine h0f rfl ?_ | (refine gR 2 (p_e (q_b (r:=by exact h0u q_o)) (h:=h0a ?_))) | (refine gR 3 (p_m (h:=p_e (by apply h0n; exact rfl; exact rfl; (focus (apply h2j Tryz.underlying71 h5n; omega; omega; exact c_1))) (h:=q_e (by apply h1u (t:=99); exact rfl; exact c_21; kernel_rfl; kernel_rfl; exact h5n; (with_reducible assumption); (with_reducible assumption)) ?_))) <;> (try refine h0c ?_; (refine h0k (t:=99) rfl Tryz.zeroValue99 ?_; intro nb hnb; (try simp only [Value.cells]))) <;> (try refine q_a ?_) <;> (try refine h0c ?_; (refine q_W ?_)) <;> (try refine h0a ?_)) | ((refine h1z (id:=4) (m:=6) (by kernel_rfl) rfl (q_u 0 (x:=by exact q_L h5n) (h:=q_u 1 (x:=by exact h0h rfl) (h:=q_u 2 (x:=by exact h0h rfl) (h:=q_u 3 (x:=by apply h0n; exact rfl; exact rfl; (focus (apply h2j Tryz.underlying71 h5n; omega; omega; exact c_1))) (h:=q_u 4 (x:=by apply h1u (t:=99); exact rfl; exact c_19; kernel_rfl; kernel_rfl; exact h5n; (with_reducible assumption); (with_reducible assumption)) (h:=q_u 5 (x:=by apply h1l (op:=.neq) (t:=99); exact rfl; exact rfl; kernel_rfl; (with_reducible assumption)) (h:=h1a (by kernel_rfl) ?_))))))))) | (refine gR 6 ?_ <;> (try refine q_e (q_b (r:=by apply h1n; exact c_5; (focus (refine IntWalk.i64_in _ ?_; omega)))) ?_) <;> (try refine p_m (h:=h0a ?_))))
  exact h0w (k + 1) ⟨by show k + 1 ≤ ps.length; omega, by show ps.length - (k + 1) < ps.length - k; omega⟩ (by (focus (repeat (first | exact Sub.nil | refine Sub.cons rfl ?_)))) (fun _ H => H.tail)
 ·repeat' (first | refine h0i ?_ | refine h0b ?_ | refine h1p ?_ | refine h1f ?_ | refine h1o ?_ | refine h2c ?_ | refine h0v ?_ | refine h0f rfl ?_ | (refine gR 2 (p_e (q_b (r:=by exact h0y q_o)) (h:=h0a ?_))) | (refine gR 7 (p_a (h:=h0a ?_))))
  (refine h0o Tryz.results64 (.tmp rfl .nil) ?_)
  exact ⟨_, ⟨rfl, rfl⟩, by intro w H; refine H.sub ?_; (try simp only [zzC, zzN]); repeat (exact List.Sublist.refl _)⟩
theorem samerule_c {S w0 L} (num act : Int) (cs : List GCnd) (v1 v2 : Value) (h1 : CndS L v1 cs) (h2 : CndS L v2 cs) :
  Fn Tryz.prog 36 #[.agg #[.int .u32 num, .int .u32 act, v1], .agg #[.int .u32 num, .int .u32 act, v2]] S w0 L fun v L' => v = .bool true ∧ L = L' := by
 obtain ⟨a1, c1, rfl, s1, l1⟩ := h1
 obtain ⟨a2, c2, rfl, s2, -⟩ := h2
 have hs := fun (e : List Blk) => same_conds (S:=S) (w0:=w0) (L:=e ++ L) cs _ rfl a1 a2 c1 c2 l1 (s1.upA e) (s2.upA e)
 have hs2 := fun (x1 x2 : Blk) => hs [x1, x2]
 simp only [List.cons_append, List.nil_append] at hs2
 refine Fn2 Tryz.func36 Tryz.ntmps36 rfl rfl ?_
 repeat' (first | refine h0i ?_ | refine h0b ?_ | refine h0r ?_ | refine h0v ?_ | refine h0f rfl ?_ | (refine gR 0 ?_ <;> (try refine h0c ?_; (refine h2n (t:=73) rfl rfl ?_; intro nb hnb; (try simp only [Value.cells]))) <;> (try refine h0c ?_; (refine h2n (t:=73) rfl rfl ?_; intro nb hnb; (try simp only [Value.cells]))) <;> (try refine p_a (h:=h0a ?_))) | (refine gR 1 (p_e (q_f fo_73_0) (h:=p_e q_l (h:=p_e (q_f fo_73_0) (h:=q_e q_l ?_)))) <;> (try refine q_e (by exact q_b (r:=by refine h1w ?_; first | rfl | (with_reducible assumption) | (decide; done) | omega)) ?_) <;> (try refine p_m (h:=p_y (q_f fo_73_1) (h:=p_y q_l (h:=p_y (q_f fo_73_1) (h:=q_y q_l ?_))))) <;> (try refine q_y (by exact q_b (r:=by refine h1w ?_; first | rfl | (with_reducible assumption) | (decide; done) | omega)) ?_) <;> (try refine p_p (h:=p_m (h:=p_y (q_f h2w) (h:=p_y q_l (h:=p_y (by apply h0e; exact rfl; exact (fun _ => BigFrame.builtin_len ..); apply h0d Tryz.underlying71; exact h3m) (h:=p_y (q_f h2w) (h:=p_y q_l (h:=q_y (by apply h0e; exact rfl; exact (fun _ => BigFrame.builtin_len ..); apply h0d Tryz.underlying71; exact h3m) ?_)))))))) <;> (try refine q_y (by exact q_b (r:=by refine h1w ?_; first | rfl | (with_reducible assumption) | (decide; done) | omega)) ?_) <;> (try refine p_p (h:=h0a ?_))) | (refine gR 3 (p_e (q_f h2w) (h:=p_e q_l (h:=p_e (q_f h2w) (h:=q_e q_l ?_)))) <;> (try refine h0c ?_; (refine q_c 64 (c:=by apply hs2) (h:=?_); rintro _ _ ⟨rfl, rfl⟩; (try simp only [zzE, zzF]))) <;> (try refine p_a (h:=h0a ?_))))
 (refine h0o Tryz.results36 (.tmp rfl .nil) ?_)
 exact ⟨_, ⟨rfl, rfl⟩, by intro w H; refine H.sub ?_; (try simp only [zzC, zzN]); repeat (first | exact List.Sublist.refl _ | refine List.Sublist.cons _ ?_)⟩
set_option maxHeartbeats 1000000 in
theorem psame_c {S w0 L} (P : GPol) (vr vp vq ur up uq : Value) (h1 : PolS L P vr vp vq) (h2 : PolS L P ur up uq) :
  Fn Tryz.prog 14 #[.agg (polG P vr vp vq).toArray, .agg (polG P ur up uq).toArray] S w0 L fun v L' => v = .bool true ∧ L = L' := by
 obtain ⟨⟨a1, c1, z1, rfl, r1, g1⟩, ⟨a2, c2, rfl, p1⟩, ⟨a3, c3, rfl, q1⟩, l1, l2, l3⟩ := h1
 obtain ⟨⟨b1, d1, z2, rfl, r2, g2⟩, ⟨b2, d2, rfl, p2⟩, ⟨b3, d3, rfl, q2⟩, -, -, -⟩ := h2
 have hsp := fun (x1 x2 : Blk) => same_paths (S:=S) (w0:=w0) (L:=[x1, x2] ++ L) P.paths _ rfl a2 b2 c2 d2 l2 (p1.upA _) (p2.upA _)
 have hsq := fun (x1 x2 : Blk) => same_ports (S:=S) (w0:=w0) (L:=[x1, x2] ++ L) P.ports _ rfl a3 b3 c3 d3 l3 (q1.upA _) (q2.upA _)
 obtain ⟨nm, df, rs, hd, ps, qs⟩ := P
 dsimp only at *
 generalize mB8 nm = nm' at *
 simp only [List.cons_append, List.nil_append] at hsp hsq
 unfold maxLen at l1 l2 l3
 refine Fn2 Tryz.func14 Tryz.ntmps14 rfl rfl ?_
 repeat' (first | (refine h2h (id:=0) ?_) | refine h0i ?_ | refine h0b ?_ | refine h0r ?_ | refine h0f rfl ?_ | (refine gR 0 ?_ <;> (try refine h0c ?_; (refine h2n (t:=36) rfl rfl ?_; intro nb hnb; (try simp only [Value.cells]))) <;> (try refine h0c ?_; (refine h2n (t:=36) rfl rfl ?_; intro nb hnb; (try simp only [Value.cells]))) <;> (try refine p_a (h:=h0a ?_))) | (refine gR 1 (p_e (q_f h6b) (h:=p_e q_l (h:=p_e (q_f h6b) (h:=p_e q_l (h:=p_e (q_b (r:=by exact rb_strne_s)) (h:=p_m (h:=p_y (q_f fo_36_1) (h:=p_y q_l (h:=p_y (q_f fo_36_1) (h:=q_y q_l ?_)))))))))) <;> (try refine q_y (by exact q_b (r:=by refine h1w ?_; first | rfl | (with_reducible assumption) | (decide; done) | omega)) ?_) <;> (try refine p_p (h:=p_m (h:=p_y (q_f h5l) (h:=p_y q_l (h:=p_y (q_f h5l) (h:=q_y q_l ?_)))))) <;> (try refine q_y (by exact q_b (r:=by refine h1w ?_; first | rfl | (with_reducible assumption) | (decide; done) | omega)) ?_) <;> (try refine p_p (h:=p_m (h:=p_y (q_f h2t) (h:=p_y q_l (h:=p_y (by apply h0e; exact rfl; exact (fun _ => BigFrame.builtin_len ..); apply h0d Tryz.underlying30; exact h3m) (h:=p_y (q_f h2t) (h:=p_y q_l (h:=q_y (by apply h0e; exact rfl; exact (fun _ => BigFrame.builtin_len ..); apply h0d Tryz.underlying30; exact h3m) ?_)))))))) <;> (try refine q_y (by exact q_b (r:=by refine h1w ?_; first | rfl | (with_reducible assumption) | (decide; done) | omega)) ?_) <;> (try refine p_p (h:=p_m (h:=p_y (q_f h3h) (h:=p_y q_l (h:=p_y (by apply h0e; exact rfl; exact (fun _ => BigFrame.builtin_len ..); apply h0d Tryz.underlying33; exact h3m) (h:=p_y (q_f h3h) (h:=p_y q_l (h:=q_y (by apply h0e; exact rfl; exact (fun _ => BigFrame.builtin_len ..); apply h0d Tryz.underlying33; exact h3m) ?_)))))))) <;> (try refine q_y (by exact q_b (r:=by refine h1w ?_; first | rfl | (with_reducible assumption) | (decide; done) | omega)) ?_) <;> (try refine p_p (h:=p_m (h:=p_y (q_f h3p) (h:=p_y q_l (h:=p_y (by apply h0e; exact rfl; exact (fun _ => BigFrame.builtin_len ..); apply h0d Tryz.underlying34; exact h3m) (h:=p_y (q_f h3p) (h:=p_y q_l (h:=q_y (by apply h0e; exact rfl; exact (fun _ => BigFrame.builtin_len ..); apply h0d Tryz.underlying34; exact h3m) ?_)))))))) <;> (try refine q_y (by exact q_b (r:=by refine h1w ?_; first | rfl | (with_reducible assumption) | (decide; done) | omega)) ?_) <;> (try refine p_p (h:=h0a ?_))) | (refine gR 3 (p_e (q_f h2t) (h:=p_e q_l (h:=p_e (by apply h0e; exact rfl; exact (fun _ => BigFrame.builtin_len ..); apply h0d Tryz.underlying30; exact h3m) (h:=p_m (h:=h0a ?_)))))))
 refine ⟨?_⟩
 rename_i n1 _
 obtain ⟨n2, rfl⟩ : ∃ x, x = nb := ⟨_, rfl⟩
 refine h0j ?_
 refine h2i (γ:=Nat) (fun k => k ≤ rs.length) (fun k => rs.length - k) (fun k => [(56, .int .i64 (k : Nat))]) [(2, _), (3, _), (54, _), (55, _)] (fun _ => _ :: _ :: L) 0 (.cons rfl (.cons rfl (.cons rfl (.cons rfl .nil)))) (Nat.zero_le _) (by (focus (repeat (first | exact Sub.nil | refine Sub.cons rfl ?_)))) (fun _ H => H) ?_
 intro k hk
 simp only [List.cons_append, List.nil_append]
 by_cases hlt : k < rs.length
 ·obtain ⟨j, q, bb, off, cs, T, fr, rfl, hj, hsz, hx⟩ := r1.elem hlt
  obtain ⟨j2, qb, bb2, off2, cs2, T2, fr2, rfl, hj2, hsz2, hx2⟩ := r2.elem hlt
  obtain ⟨v1, e1, k1⟩ := g1.at_ k hlt
  obtain ⟨v2, e2, k2⟩ := g2.at_ k hlt
  obtain ⟨u1, y1, rfl, m1, o1⟩ := k1
  obtain ⟨u2, y2, rfl, m2, o2⟩ := k2
  rw [e1] at hx
  rw [e2] at hx2
  have hsr := fun (x0 x1 x2 : Blk) => samerule_c (S:=S) (w0:=w0) (L:=[x0, x1, x2] ++ L) rs[k].num rs[k].act rs[k].conds _ _ ⟨u1, y1, rfl, m1.upA _, o1⟩ ⟨u2, y2, rfl, m2.upA _, o2⟩
  simp only [List.cons_append, List.nil_append] at hsr
  clear m1 m2 e1 e2 o1 o2
  generalize rs[k] = r at *
  obtain ⟨rn, ra, rcs⟩ := r
  dsimp only at *
  repeat' (first | refine h0i ?_ | refine h0b ?_ | refine h0s ?_ | refine h0x ?_ | refine h0j ?_ | refine h0r ?_ | refine h0g rfl ?_ | refine h0f rfl ?_ | (refine gR 4 (p_e (q_b (r:=by exact h0u q_o)) (h:=h0a ?_))) | (refine gR 5 (p_m (h:=p_e (by apply h0n; exact rfl; exact rfl; (focus (apply h2j Tryz.underlying30 sz_73; omega; omega; exact c_1))) (h:=q_e (by apply h1u (t:=73); exact rfl; exact c_19; kernel_rfl; kernel_rfl; exact sz_73; (with_reducible assumption); (with_reducible assumption)) ?_))) <;> (try refine h0c ?_; (refine h0k (t:=73) rfl Tryz.zeroValue73 ?_; intro nb hnb; (try simp only [Value.cells]))) <;> (try refine q_a ?_) <;> (try refine h0c ?_; (refine q_W ?_)) <;> (try refine h0a ?_)) | ((refine h1z (id:=6) (m:=8) (by kernel_rfl) rfl (q_u 0 (x:=by exact q_L sz_73) (h:=q_u 1 (x:=by exact q_f h2t) (h:=q_u 2 (x:=by exact q_l) (h:=q_u 3 (x:=by exact h0h rfl) (h:=q_u 4 (x:=by apply h0n; exact rfl; exact rfl; (focus (apply h2j Tryz.underlying30 sz_73; omega; omega; exact c_1))) (h:=q_u 5 (x:=by apply h1u (t:=73); exact rfl; exact c_19; kernel_rfl; kernel_rfl; exact sz_73; (with_reducible assumption); (with_reducible assumption)) (h:=?_)))))))) <;> (try refine q_r 6 ?_; (refine q_c 36 (c:=by apply hsr) (h:=?_); rintro _ _ ⟨rfl, rfl⟩; (try simp only [zzE, zzF])); refine h1b (fun _ H => H) ?_) <;> (try refine q_u 7 (x:=by apply h5m; exact rfl; exact h1r) (h:=h1a (by kernel_rfl) ?_))) | (refine gR 8 ?_ <;> (try refine q_e (q_b (r:=by apply h1n; exact c_5; (focus (refine IntWalk.i64_in _ ?_; omega)))) ?_) <;> (try refine p_m (h:=h0a ?_))))
  exact h0w (k + 1) ⟨by show k + 1 ≤ rs.length; omega, by show rs.length - (k + 1) < rs.length - k; omega⟩ (by (focus (repeat (first | exact Sub.nil | refine Sub.cons rfl ?_)))) (fun _ H => H.tail)
 ·repeat' (first | refine h0i ?_ | refine h0b ?_ | refine h1p ?_ | refine h1f ?_ | refine h1o ?_ | refine h2c ?_ | refine h0v ?_ | refine h0f rfl ?_ | (refine gR 4 (p_e (q_b (r:=by exact h0y q_o)) (h:=h0a ?_))) | (refine gR 9 (p_e (q_f h3h) (h:=p_e q_l (h:=p_e (q_f h3h) (h:=q_e q_l ?_)))) <;> (try refine h0c ?_; (refine q_c 37 (c:=by apply hsp) (h:=?_); rintro _ _ ⟨rfl, rfl⟩; (try simp only [zzE, zzF]))) <;> (try refine p_m (h:=p_y (q_f h3p) (h:=p_y q_l (h:=p_y (q_f h3p) (h:=q_y q_l ?_))))) <;> (try refine h0c ?_; (refine h1s rfl rfl rfl ?_; (refine q_c 38 (c:=by apply hsq) (h:=?_); rintro _ _ ⟨rfl, rfl⟩; (try simp only [zzE, zzF])))) <;> (try refine p_p (h:=p_a (h:=h0a ?_)))))
  (refine h0o Tryz.results14 (.tmp rfl .nil) ?_)
  exact ⟨_, ⟨rfl, rfl⟩, by intro w H; refine H.sub ?_; (try simp only [zzC, zzN]); repeat (first | exact List.Sublist.refl _ | refine List.Sublist.cons _ ?_)⟩
end Go.Proofs.YtecbgehooembmaaGreatDoor
