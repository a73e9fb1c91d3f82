import Derived.Test.YtdbelddaifllnaaW4
import Derived.Test.YtdbelddaifllnaaOpen
namespace Go.Proofs.Ytdbelddaifllnaa
open Go Go.RowKit

theorem split_at {α : Type} {l : List α} {j : Nat} {s : α} (h : l[j]? = some s) : ∃ A B, l = A ++ s :: B ∧ A.length = j := by
  obtain ⟨hj, e⟩ := List.getElem?_eq_some_iff.1 h
  refine ⟨l.take j, l.drop (j + 1), ?_, by simp; omega⟩
  rw [← e, ← List.drop_eq_getElem_cons hj, List.take_append_drop]
theorem set_split {α : Type} (A B : List α) (s s' : α) : (A ++ s :: B).set A.length s' = A ++ s' :: B := by
  rw [List.set_append, if_neg (by omega), Nat.sub_self, List.set_cons_zero]

abbrev entOf (x : Nat) (cs : Array Value) : Blk := ⟨true, x, .cells cs 35 (0, 0)⟩
theorem ents_append (A B : Tbl) : Tbl.ents (A ++ B) = Tbl.ents A ++ Tbl.ents B := by simp [Tbl.ents]
theorem ents_some (x : Nat) (cs : Array Value) (B : Tbl) : Tbl.ents (some (x, cs) :: B) = entOf x cs :: Tbl.ents B := by simp [Tbl.ents]
theorem ents_none (B : Tbl) : Tbl.ents (none :: B) = Tbl.ents B := by simp [Tbl.ents]

def entIdx (T : Tbl) (j : Nat) : Nat := (Tbl.ents (T.take j)).length
theorem entIdx_split (A B : Tbl) : entIdx (A ++ B) A.length = (Tbl.ents A).length := by simp [entIdx]

theorem ents_get {T : Tbl} {j x : Nat} {cs : Array Value} (h : T[j]? = some (some (x, cs))) : (Tbl.ents T)[entIdx T j]? = some (entOf x cs) := by
  obtain ⟨A, B, rfl, rfl⟩ := split_at h
  rw [entIdx_split, ents_append, ents_some, List.getElem?_append_right (Nat.le_refl _), Nat.sub_self]
  rfl
theorem ents_set {T : Tbl} {j x : Nat} {cs cs' : Array Value} (h : T[j]? = some (some (x, cs))) : Tbl.ents (T.set j (some (x, cs'))) = (Tbl.ents T).set (entIdx T j) (entOf x cs') := by
  obtain ⟨A, B, rfl, rfl⟩ := split_at h
  rw [entIdx_split, set_split, ents_append, ents_some, ents_append, ents_some, set_split]
theorem ents_drop {T : Tbl} {j : Nat} {s : Option (Nat × Array Value)} (h : T[j]? = some s) : (Tbl.ents (T.set j none)).Sublist (Tbl.ents T) := by
  obtain ⟨A, B, rfl, rfl⟩ := split_at h
  rw [set_split, ents_append, ents_none, ents_append]
  refine List.Sublist.append (List.Sublist.refl _) ?_
  cases s with
  | none => rw [ents_none]; exact List.Sublist.refl _
  | some p => obtain ⟨x, cs⟩ := p; rw [ents_some]; exact List.sublist_cons_self _ _
theorem ents_add {T : Tbl} {j x : Nat} {cs : Array Value} (h : T[j]? = some none) : (Tbl.ents (T.set j (some (x, cs)))).Perm (entOf x cs :: Tbl.ents T) := by
  obtain ⟨A, B, rfl, rfl⟩ := split_at h
  rw [set_split, ents_append, ents_some, ents_append, ents_none]
  exact List.perm_middle

theorem ps_set (T : Tbl) (j : Nat) (s : Option (Nat × Array Value)) : Tbl.ps (T.set j s) = (Tbl.ps T).set j (s.map (·.1)) := by simp [Tbl.ps, List.map_set]
theorem vals_set (T : Tbl) (j : Nat) (s : Option (Nat × Array Value)) : Tbl.vals (T.set j s) = (Tbl.vals T).set j (s.map (·.2)) := by simp [Tbl.vals, List.map_set]
theorem vals_get {T M : Tbl} (h : T.vals = M.vals) (j : Nat) : (T[j]?).map (fun s => s.map (·.2)) = (M[j]?).map (fun s => s.map (·.2)) := by
  have := congrArg (fun l => l[j]?) h
  simpa [Tbl.vals] using this
theorem vals_none {T M : Tbl} (h : T.vals = M.vals) {j : Nat} (hj : T[j]? = some none) : M[j]? = some none := by
  have := vals_get h j
  rw [hj] at this
  cases hm : M[j]? with
  | none => simp [hm] at this
  | some s => cases s <;> simp_all
theorem vals_some {T M : Tbl} (h : T.vals = M.vals) {j x : Nat} {cs : Array Value} (hj : T[j]? = some (some (x, cs))) : ∃ y, M[j]? = some (some (y, cs)) := by
  have := vals_get h j
  rw [hj] at this
  cases hm : M[j]? with
  | none => simp [hm] at this
  | some s =>
    cases s with
    | none => simp_all
    | some p => obtain ⟨y, cs'⟩ := p; simp [hm] at this; exact ⟨y, by rw [this]⟩
theorem lst_congr {p q : List (Option Nat)} (h : p.map Option.isSome = q.map Option.isSome) (k : Nat) : lst p k = lst q k := by
  unfold lst
  apply List.filter_congr
  intro i _
  have := congrArg (fun l => l[i]?) h
  simp only [List.getElem?_map] at this
  simp only [List.getD_eq_getElem?_getD]
  cases hp : p[i]? <;> cases hq : q[i]? <;> simp_all
theorem lst_vals {T M : Tbl} (h : T.vals = M.vals) (k : Nat) : lst T.ps k = lst M.ps k := by
  apply lst_congr
  have := congrArg (fun l => l.map Option.isSome) h
  simpa [Tbl.vals, Tbl.ps, Function.comp_def] using this
theorem len_vals {T M : Tbl} (h : T.vals = M.vals) : T.length = M.length := by
  have := congrArg List.length h
  simpa [Tbl.vals] using this

/-- the list's element behind those below j is j -/
theorem lst_at {ps : List (Option Nat)} {j k x : Nat} (hj : j < k) (h : ps[j]? = some (some x)) : (lst ps k)[(lst ps j).length]? = some j := by
  induction k with
  | zero => omega
  | succ k ih =>
    by_cases hk : j = k
    · subst hk
      rw [lst_some h]; simp
    · have := ih (by omega)
      have hlt : (lst ps j).length < (lst ps k).length := by
        rcases Nat.lt_or_ge (lst ps j).length (lst ps k).length with h1 | h1
        · exact h1
        · simp [List.getElem?_eq_none h1] at this
      unfold lst at this hlt ⊢
      rw [List.range_succ, List.filter_append, List.getElem?_append_left hlt]
      exact this

/-- all that is open is a struct of its kind -/
def AllOpen (T : Tbl) : Prop := ∀ (j x : Nat) (cs : Array Value), T[j]? = some (some (x, cs)) → IsOpen cs.toList
theorem AllOpen.wf {T : Tbl} (h : AllOpen T) {j x : Nat} {cs : Array Value} (hj : T[j]? = some (some (x, cs))) : WfOpen cs := by
  obtain ⟨k, m, i, t, r, p, l, e, _⟩ := h j x cs hj
  unfold WfOpen
  rw [← Array.length_toList, e]; exact ⟨rfl, rfl⟩
theorem AllOpen.set {T : Tbl} (h : AllOpen T) (k : Nat) {s : Option (Nat × Array Value)} (hs : ∀ x cs, s = some (x, cs) → IsOpen cs.toList) : AllOpen (T.set k s) := by
  intro j x cs hj
  by_cases e : j = k
  · subst e
    by_cases hl : j < T.length
    · rw [List.getElem?_set_self hl] at hj
      exact hs x cs (Option.some.inj hj)
    · rw [List.getElem?_eq_none (by simp; omega)] at hj; simp at hj
  · rw [List.getElem?_set_ne (fun q => e q.symm)] at hj
    exact h j x cs hj
theorem AllOpen.vals {T M : Tbl} (h : AllOpen T) (e : M.vals = T.vals) : AllOpen M := by
  intro j x cs hj
  obtain ⟨y, hy⟩ := vals_some e hj
  exact h j y cs hy

/-! ### the memory of the law -/
abbrev MB (bm : Nat) (M : Tbl) : Blk := ⟨true, bm, .cells (ptrs M.ps) 25 (0, 0)⟩
abbrev TB (bt : Nat) (T : Tbl) : Blk := ⟨true, bt, .cells (ptrs T.ps) 27 (0, 0)⟩
/-- the two tables, what they hold, and what came in -/
def Mem (bm bt : Nat) (M T : Tbl) (ro : List Blk) : List Blk := MB bm M :: TB bt T :: (T.ents ++ (M.ents ++ ro))
/-- the two tables hold the same -/
structure Same (M T : Tbl) : Prop where
  len : T.length = 16
  vals : T.vals = M.vals
  opens : AllOpen T

theorem perm_copy {α : Type} (a b c d : α) (C E : List α) : (c :: (C ++ a :: b :: d :: E)).Perm (a :: b :: d :: c :: (C ++ E)) := by
  have h1 := List.perm_middle (l₁ := c :: C) (a := a) (l₂ := b :: d :: E)
  have h2 := List.perm_middle (l₁ := c :: C) (a := b) (l₂ := d :: E)
  have h3 := List.perm_middle (l₁ := c :: C) (a := d) (l₂ := E)
  simp only [List.cons_append] at h1 h2 h3
  exact h1.trans (.cons _ (h2.trans (.cons _ h3)))

theorem perm_add {α : Type} (o n m t : α) {T T' M M' ro : List α} (hT : T'.Perm (n :: T)) (hM : M'.Perm (o :: M)) :
    (o :: n :: m :: t :: (T ++ (M ++ ro))).Perm (m :: t :: (T' ++ (M' ++ ro))) := by
  have h1 : (T' ++ (M' ++ ro)).Perm ((n :: T) ++ ((o :: M) ++ ro)) := hT.append (hM.append_right ro)
  have h2 : ((n :: T) ++ ((o :: M) ++ ro)).Perm (o :: n :: (T ++ (M ++ ro))) := by
    have := List.perm_middle (l₁ := n :: T) (a := o) (l₂ := M ++ ro)
    simpa using this
  have h3 : (m :: t :: o :: n :: (T ++ (M ++ ro))).Perm (o :: n :: m :: t :: (T ++ (M ++ ro))) := by
    have := (List.perm_append_comm (l₁ := [m, t]) (l₂ := [o, n])).append_right (T ++ (M ++ ro))
    simpa using this
  exact ((((h1.trans h2).cons t).cons m).trans h3).symm

/-! ### Add where all is taken -/
def AddFull (S : List Nat) (w0 : World) (L : List Blk) (o : Array Value) (e : Ending) (w' : World) : Prop :=
  ∃ nb, e = .returned (.tuple #[.int .i64 0, .int .i64 24]) ∧ HP S w0 w' (⟨true, nb, .cells o 35 (0, 0)⟩ :: L)
set_option maxRecDepth 100000 in
set_option maxHeartbeats 1000000 in
theorem add_full {S : List Nat} {w0 w : World} {L : List Blk} (H : HP S w0 w L) (o : Array Value) (i0 : Nat) {q : Bool} {b T : Nat} {fr : Nat × Nat} {ps : List (Option Nat)} (hps : ps.length = 16)
    (ht : L[i0]? = some ⟨q, b, .cells (ptrs ps) T fr⟩) (hl : ∀ j, j < 16 → ∃ x, ps[j]? = some (some x)) :
    Calls Try.prog 10 #[.pointer (some ⟨b, 0, none⟩), .agg o] w (AddFull S w0 L o) := by
  have hsz' : Hid ((ptrs ps).size = 16) := by rw [← hps]; exact ptrs_size ps
  go_enter Try.func10, Try.ntmps10
  go_wp2_with (first
    | (refine hp_box_agg H rfl rfl rfl ?_; intro nb w hnb H)
    | (refine hp_load_all H (i0 + 1) rfl rfl rfl ht (by kernel_rfl) (by kernel_rfl) hsz'.out (by kernel_rfl) ?_))
  go_loop [14] (fun c => ∃ k : Nat, k ≤ 16 ∧ c = .int .i64 k) (fun c => 16 - (intOf c).toNat)
  case atStart => exact ⟨0, by omega, rfl⟩
  case round =>
    obtain ⟨k, hk, rfl⟩ := hrel
    by_cases hlt : k < 16
    · have hix := fun w => run_index_ptr16 w (ptrs ps) k hlt hsz'.out
      obtain ⟨x, hx⟩ := hl k (by omega)
      rw [ptrs_get hx] at hix
      simp only [pv, Option.map_some] at hix
      clear hl
      go_wp2
      go_round
      case rel => exact ⟨k + 1, by omega, by go_num⟩
      case measure => simp [intOf]; omega
    · obtain rfl : k = 16 := by omega
      clear hl
      go_wp2
      go_ret2
      exact ⟨nb, rfl, H⟩
theorem lst_full {ps : List (Option Nat)} : ∀ {k : Nat}, (∀ j, j < k → ∃ x, ps[j]? = some (some x)) → (lst ps k).length = k
  | 0, _ => rfl
  | k + 1, h => by
    obtain ⟨x, hx⟩ := h k (by omega)
    rw [lst_some hx, List.length_append, lst_full (fun j hj => h j (by omega))]; rfl

/-- what the downward search has found among the slots from j on -/
def Want (ps : List (Option Nat)) (j : Nat) (want : Int) : Prop :=
  (want = -1 ∧ ∀ x, j ≤ x → x < 16 → ∃ y, ps[x]? = some (some y)) ∨
  (∃ x : Nat, want = x ∧ j ≤ x ∧ x < 16 ∧ ps[x]? = some none ∧ ∀ z, j ≤ z → z < x → ∃ y, ps[z]? = some (some y))
theorem Want.start (ps : List (Option Nat)) : Want ps 16 (-1) := .inl ⟨rfl, fun x h1 h2 => by omega⟩
theorem Want.hit {ps : List (Option Nat)} {j : Nat} (hj : j < 16) (h : ps[j]? = some none) : Want ps j (j : Nat) :=
  .inr ⟨j, rfl, Nat.le_refl _, hj, h, fun z h1 h2 => by omega⟩
theorem Want.miss {ps : List (Option Nat)} {j : Nat} {x : Nat} {want : Int} (hw : Want ps (j + 1) want) (h : ps[j]? = some (some x)) : Want ps j want := by
  have key : ∀ z, j ≤ z → (j + 1 ≤ z → ∃ y, ps[z]? = some (some y)) → ∃ y, ps[z]? = some (some y) := by
    intro z h1 h2
    by_cases e : z = j
    · subst e; exact ⟨x, h⟩
    · exact h2 (by omega)
  rcases hw with ⟨e, h1⟩ | ⟨y, e, h1, h2, h3, h4⟩
  · exact .inl ⟨e, fun z hz hz2 => key z hz fun h' => h1 z h' hz2⟩
  · exact .inr ⟨y, e, by omega, h2, h3, fun z hz hz2 => key z hz fun h' => h4 z h' hz2⟩
theorem Want.bd {ps : List (Option Nat)} {j : Nat} {want : Int} (hw : Want ps j want) : -1 ≤ want ∧ want ≤ 15 := by
  rcases hw with ⟨e, _⟩ | ⟨x, e, _, h, _⟩ <;> omega

/-- the memory behind something more that is open -/
theorem mem_add {S : List Nat} {w0 w : World} {bm bt nb ob j : Nat} {M T : Tbl} {o : Array Value} {ro : List Blk} {ab : Blk} (hT : T[j]? = some none) (hM : M[j]? = some none)
    (H : HP S w0 w (⟨true, ob, .cells o 35 (0, 0)⟩ :: ⟨true, nb, .cells o 35 (0, 0)⟩ :: ab :: ⟨true, bm, .cells (ptrs (M.ps.set j (some ob))) 25 (0, 0)⟩ :: ⟨true, bt, .cells (ptrs (T.ps.set j (some nb))) 27 (0, 0)⟩ :: (T.ents ++ (M.ents ++ ro)))) :
    HP S w0 w (Mem bm bt (M.set j (some (ob, o))) (T.set j (some (nb, o))) ro) := by
  have H1 := H.sub (L' := entOf ob o :: entOf nb o :: ⟨true, bm, .cells (ptrs (M.ps.set j (some ob))) 25 (0, 0)⟩ :: ⟨true, bt, .cells (ptrs (T.ps.set j (some nb))) 27 (0, 0)⟩ :: (T.ents ++ (M.ents ++ ro)))
    (.cons_cons _ (.cons_cons _ (List.sublist_cons_self _ _)))
  have H2 := H1.perm (perm_add _ _ _ _ (ents_add (x := nb) (cs := o) hT) (ents_add (x := ob) (cs := o) hM))
  unfold Mem MB TB
  rw [ps_set, ps_set]
  exact H2
theorem Same.add {M T : Tbl} (h : Same M T) {j nb ob : Nat} {o : Array Value} (ho : IsOpen o.toList) : Same (M.set j (some (ob, o))) (T.set j (some (nb, o))) :=
  ⟨by rw [List.length_set]; exact h.len, by rw [vals_set, vals_set, h.vals]; rfl, h.opens.set j fun x cs e => by cases e; exact ho⟩
theorem Same.drop {M T : Tbl} (h : Same M T) (j : Nat) : Same (M.set j none) (T.set j none) :=
  ⟨by rw [List.length_set]; exact h.len, by rw [vals_set, vals_set, h.vals], h.opens.set j fun x cs e => by cases e⟩
end Go.Proofs.Ytdbelddaifllnaa
