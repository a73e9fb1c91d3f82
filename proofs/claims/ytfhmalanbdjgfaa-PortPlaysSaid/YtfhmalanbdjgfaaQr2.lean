/- Part 2 of what the last text of this claim leans on: rules of walks, contracts, plain facts. Conditions: those of each statement. -/
import Derived.Test.YtfhmalanbdjgfaaQr1
set_option maxRecDepth 100000
namespace Go.Proofs.Ytfhmalanbdjgfaa
open Go Go.RowKit Go.ChangeMaps
theorem findNow_get {d : TypeDesc} {k : Value} {es : List MapEntry} {i j : Nat} {v : Value} (h : Instr.findNow d k es i = some (some (j, v))) : i ≤ j ∧ ∃ p, es[j - i]? = some p ∧ p.val = v ∧ Instr.sameNow d k p.key = some true := by
 induction es generalizing i with
 | nil => simp [Instr.findNow] at h
 | cons q r ih =>
  simp only [Instr.findNow] at h
  split at h
  ·rename_i hs
   simp only [Option.some.injEq, Prod.mk.injEq] at h
   obtain ⟨rfl, rfl⟩ := h
   exact ⟨Nat.le_refl _, q, by simp, rfl, hs⟩
  ·obtain ⟨h1, p, h2, h3⟩ := ih h
   refine ⟨by omega, p, ?_, h3⟩
   rw [show j - i = (j - (i + 1)) + 1 by omega, List.getElem?_cons_succ]; exact h2
  ·simp at h
abbrev mitG (r b c : Nat) (seen : List Nat) : Blk := ⟨true, r, .mapIter (some b) c seen.toArray c⟩
section
variable {P : Program} {n : Nat} {l : List (Nat × Value)} {S : List Nat} {w0 : World} {L : List Blk} {K : Act → World → Prop} {kt : Kont} {ops : Array Oper} {d : Tmp} {ty : TypeId} {pos : String} {af : Array Edge}
theorem K1_mapUpdateG2 {t key elem : TypeId} {dd : TypeDesc} {x ix y : Operand} {i j b c : Nat} {es : List MapEntry} {kv v u : Value} (hx : ev l x = some (.map (some b))) (hk : ev l ix = some kv) (hy : ev l y = some v) (hi : L[i]? = some (h2p b es c))
  (ht : P.underlying t = some (.map key elem)) (hkt : P.underlying key = some dd) (hp : h3h dd kv) (hf : Instr.findNow dd kv es 0 = some (some (j, u)))
  (h : G n l S w0 (L.set i (h2p b (es.modify j fun e => { key := kv, val := v, born := e.born }) c)) K) : G n l S w0 L (K1 P ops kt ⟨none, .mapUpdate t x ix y, ty, pos, af, none⟩ K) := .mk fun a w hF H => h3g rfl <| by
 have hat := H.at_ i hi
 have hr : (Instr.mapUpdate t (.map (some b)) kv v).run P w = .ok () { w with heap := w.heap.setIfInBounds b (h2p b (es.modify j fun e => { key := kv, val := v, born := e.born }) c).o } := by
  unfold Instr.mapUpdate
  simp only [Sem.run_bind, run_underlying ht, Result.andThen_ok, h3a hat, h2h hkt hp, run_findKey hkt hf]
  obtain ⟨_, q, hq, _, hsn⟩ := findNow_get hf
  simp only [Nat.sub_zero] at hq
  obtain ⟨hsb, hqe⟩ := same_plain hp hsn
  simp only [List.getElem?_toArray, hq, Option.map_some, Option.getD_some, Instr.keyThatStays, hsb, if_true, Sem.run_pure, Result.andThen_ok, Sem.run_bind, run_setMap hat]
  congr 1
  simp
 have hgo : (execOp a.eval (⟨none, .mapUpdate t x ix y, ty, pos, af, none⟩ : Oper)).run P w = .ok .skip { w with heap := w.heap.setIfInBounds b (h2p b (es.modify j fun e => { key := kv, val := v, born := e.born }) c).o } := by
  unfold execOp
  simp only [hF.eval hx, hF.eval hk, hF.eval hy, Sem.run_bind, hr, Result.andThen_ok, Sem.run_pure]
 unfold Oper.wp
 rw [hgo]
 exact h.out _ _ hF (H.setMap hi _)
theorem K1_rangeMapG {t k e : TypeId} {x : Operand} {i b c : Nat} {es : List MapEntry} (hd : Nat.blt d n = true) (hx : ev l x = some (.map (some b))) (hi : L[i]? = some (h2p b es c)) (ht : P.underlying t = some (.map k e))
  (h : ∀ nb, w0.heap.size ≤ nb → G n ((d, .pointer (some ⟨nb, 0, none⟩)) :: l) S w0 (mitG nb b c [] :: L) K) : G n l S w0 L (K1 P ops kt ⟨some d, .range t x, ty, pos, af, none⟩ K) := .mk fun a w hf H => h3g rfl <| by
 have hat := H.at_ i hi
 unfold Oper.wp execOp
 simp only [hf.eval hx, Sem.run_bind, run_range_map w t k e b _ _ ht hat, Result.andThen_ok, Sem.run_pure]
 exact (h _ H.size).out _ _ (hf.put (some d) _ hd) (H.alloc _)
theorem K1_nextMapG {x : Operand} {i j r b c : Nat} {es : List MapEntry} {seen : List Nat} (hold : ∀ e ∈ es, e.born < c) (hd : Nat.blt d n = true) (hx : ev l x = some (.pointer (some ⟨r, 0, none⟩))) (hi : L[i]? = some (mitG r b c seen)) (hj : L[j]? = some (h2p b es c))
  (hDone : (∀ e ∈ es, e.born ∈ seen) → G n ((d, .tuple #[.bool false]) :: l) S w0 L K)
  (hMore : ∀ e ∈ es, e.born ∉ seen → G n ((d, .tuple #[.bool true, e.key, e.val]) :: l) S w0 (L.set i (mitG r b c (seen ++ [e.born]))) K) :
  G n l S w0 L (K1 P ops kt ⟨some d, .next x false, ty, pos, af, none⟩ K) := .mk fun a w hf H => h3g rfl <| by
 have hr := H.at_ i hi
 have hb := H.at_ j hj
 have hlt : r < w.heap.size := H.lt i hi
 rcases run_next_at (P:=P) w ty r b c c seen.toArray es.toArray c hr hb (by simpa using hold) (Nat.le_refl _) with ⟨h0, hrun⟩ | ⟨e, he, w1, hal, hrun⟩
 ·unfold Oper.wp execOp
  simp only [hf.eval hx, Sem.run_bind, hrun, Result.andThen_ok, Sem.run_pure]
  refine (hDone ?_).out _ _ (hf.put (some d) _ hd) H
  intro e he
  by_cases hs : e.born ∈ seen
  ·exact hs
  ·exfalso
   have : e ∈ (leftOf es.toArray seen.toArray).toList := by
    unfold leftOf
    simp [he, hs]
   have h1 := List.length_pos_of_mem this
   rw [Array.length_toList] at h1
   omega
 ·have he2 : e ∈ es ∧ e.born ∉ seen := by
   unfold leftOf at he
   simp at he
   exact he
  have H1 : HP S w0 w1 L := by rcases hal with rfl | rfl; exact H; exact H.drew
  have hlt1 : r < w1.heap.size := H1.lt i hi
  have H2 := H1.turn i hi (setBlock w1 r (.mapIter (some b) c ((seen.toArray).push e.born) c)) (.mapIter (some b) c (seen ++ [e.born]).toArray c) rfl rfl rfl (by simp [setBlock]) (by simp [setBlock, hlt1])
   (fun k hk => by simp only [setBlock]; rw [Array.getElem?_setIfInBounds, if_neg (fun e => hk e.symm)])
  unfold Oper.wp execOp
  simp only [hf.eval hx, Sem.run_bind, hrun, Result.andThen_ok, Sem.run_pure]
  exact (hMore e he2.1 he2.2).out _ _ (hf.put (some d) _ hd) H2
theorem E_entryMapG {x : Operand} {i j r b c : Nat} {es : List MapEntry} {seen : List Nat} {e : MapEntry} (hn : (es.map (·.born)).Nodup) (he : e ∈ es) (hx : ev l x = some (.pointer (some ⟨r, 0, none⟩))) (hi : L[i]? = some (mitG r b c (seen ++ [e.born]))) (hj : L[j]? = some (h2p b es c)) :
  ValOf P n l S w0 L ⟨some d, .entry x, ty, pos, af, none⟩ (.tuple #[e.key, e.val]) :=
 ⟨fun a w hF H => by
  have hr := H.at_ i hi
  have hb := H.at_ j hj
  have hr' : w.heap[r]? = some (.mapIter (some b) c (seen.toArray.push e.born) c) := by rw [hr]; simp
  have := run_entry_at (P:=P) w r b c seen.toArray es.toArray c _ hr' hb (by simpa using he) (by simpa using hn)
  unfold execOp
  simp only [hF.eval hx, Sem.run_bind, this, Result.andThen_ok, Sem.run_pure]⟩
end
end Go.Proofs.Ytfhmalanbdjgfaa
namespace Go.Proofs.Ytfhmalanbdjgfaa
def gv (l : List Int) (i : Nat) : Int := l.getD i 0
theorem gv_get {l : List Int} {i : Nat} (h : i < l.length) : gv l i = l[i] := by simp [gv, List.getD_eq_getElem?_getD, h]
theorem gv_set {l : List Int} {i : Nat} {x : Int} (h : i < l.length) (k : Nat) : gv (l.set i x) k = if k = i then x else gv l k := by
 simp only [gv, List.getD_eq_getElem?_getD, List.getElem?_set]
 by_cases e : k = i
 ·subst e; simp [h]
 ·have e2 : ¬ i = k := fun h => e h.symm
  simp [e, e2]
def swp (l : List Int) (i j : Nat) : List Int := (l.set i (gv l j)).set j (gv l i)
theorem swp_len {l : List Int} {i j : Nat} : (swp l i j).length = l.length := by simp [swp]
theorem gv_swp {l : List Int} {i j : Nat} (hi : i < l.length) (hj : j < l.length) (k : Nat) : gv (swp l i j) k = if k = j then gv l i else if k = i then gv l j else gv l k := by
 rw [swp, gv_set (by simpa using hj), gv_set hi]
theorem cnt_set (l : List Int) (i : Nat) (x y : Int) (h : i < l.length) : (l.set i x).count y + (if gv l i = y then 1 else 0) = l.count y + (if x = y then 1 else 0) := by
 induction l generalizing i with
 | nil => simp at h
 | cons a t ih =>
  cases i with
  | zero => simp [gv, List.count_cons]; split <;> split <;> omega
  | succ i =>
   have := ih i (by simpa using h)
   simp [gv, List.count_cons] at this ⊢
   omega
theorem swp_perm {l : List Int} {i j : Nat} (hi : i < l.length) (hj : j < l.length) : (swp l i j).Perm l := by
 rw [List.perm_iff_count]
 intro y
 have h1 := cnt_set l i (gv l j) y hi
 have h2 := cnt_set (l.set i (gv l j)) j (gv l i) y (by simpa using hj)
 rw [gv_set hi] at h2
 rw [swp]
 by_cases e : j = i
 ·subst e; rw [if_pos rfl] at h2; omega
 ·rw [if_neg e] at h2; omega
structure Sw (a b : Nat) (l l' : List Int) : Prop where
 len : l'.length = l.length
 perm : l'.Perm l
 out : ∀ i, i < a ∨ b ≤ i → gv l' i = gv l i
 inn : ∀ i, a ≤ i → i < b → ∃ j, a ≤ j ∧ j < b ∧ gv l' i = gv l j
theorem Sw.refl (a b : Nat) (l : List Int) : Sw a b l l := ⟨rfl, .refl _, fun _ _ => rfl, fun i h1 h2 => ⟨i, h1, h2, rfl⟩⟩
theorem Sw.trans {a b : Nat} {l m n : List Int} (h : Sw a b l m) (k : Sw a b m n) : Sw a b l n :=
 ⟨k.len.trans h.len, k.perm.trans h.perm, fun i hi => (k.out i hi).trans (h.out i hi), fun i h1 h2 => by
  obtain ⟨j, j1, j2, e⟩ := k.inn i h1 h2
  obtain ⟨q, q1, q2, e2⟩ := h.inn j j1 j2
  exact ⟨q, q1, q2, e.trans e2⟩⟩
theorem Sw.wide {a b a' b' : Nat} {l m : List Int} (h : Sw a b l m) (ha : a' ≤ a) (hb : b ≤ b') : Sw a' b' l m :=
 ⟨h.len, h.perm, fun i hi => h.out i (by omega), fun i h1 h2 => by
  by_cases c : a ≤ i ∧ i < b
  ·obtain ⟨j, j1, j2, e⟩ := h.inn i c.1 c.2
   exact ⟨j, by omega, by omega, e⟩
  ·exact ⟨i, h1, h2, h.out i (by omega)⟩⟩
theorem Sw.swp {a b i j : Nat} {l : List Int} (hb : b ≤ l.length) (hi : a ≤ i ∧ i < b) (hj : a ≤ j ∧ j < b) : Sw a b l (swp l i j) :=
 ⟨swp_len, swp_perm (by omega) (by omega), fun k hk => by rw [gv_swp (by omega) (by omega)]; split; omega; split; omega; rfl, fun k h1 h2 => by
  rw [gv_swp (by omega) (by omega)]
  split
  ·exact ⟨i, by omega, by omega, rfl⟩
  split
  ·exact ⟨j, by omega, by omega, rfl⟩
  ·exact ⟨k, by omega, by omega, rfl⟩⟩
theorem Sw.all {a b : Nat} {l m : List Int} (h : Sw a b l m) {p : Int → Prop} (hp : ∀ i, a ≤ i → i < b → p (gv l i)) : ∀ i, a ≤ i → i < b → p (gv m i) := fun i h1 h2 => by
 obtain ⟨j, j1, j2, e⟩ := h.inn i h1 h2
 rw [e]; exact hp j j1 j2
def Srt (a b : Nat) (l : List Int) : Prop := ∀ i j, a ≤ i → i < j → j < b → gv l i ≤ gv l j
theorem Srt.nil {a b : Nat} {l : List Int} (h : b ≤ a + 1) : Srt a b l := fun i j h1 h2 h3 => by omega
theorem Srt.next {a i : Nat} {l : List Int} (h : Srt a i l) (h1 : a < i) (h2 : gv l (i - 1) ≤ gv l i) : Srt a (i + 1) l := fun p q p1 p2 p3 => by
 by_cases e : q = i
 ·subst e
  by_cases e2 : p = q - 1
  ·subst e2; exact h2
  ·have := h p (q - 1) p1 (by omega) (by omega); omega
 ·exact h p q p1 p2 (by omega)
theorem Srt.next' {a i : Nat} {l : List Int} (h : Srt a i l) (h2 : ∀ p, a ≤ p → p < i → gv l p ≤ gv l i) : Srt a (i + 1) l := fun p q p1 p2 p3 => by
 by_cases e : q = i
 ·subst e; exact h2 p p1 p2
 ·exact h p q p1 p2 (by omega)
theorem Srt.same {a b : Nat} {l m : List Int} (h : Srt a b l) (e : ∀ i, a ≤ i → i < b → gv m i = gv l i) : Srt a b m := fun p q p1 p2 p3 => by
 rw [e p p1 (by omega), e q (by omega) p3]; exact h p q p1 p2 p3
def Ins1 (a i j : Nat) (l : List Int) : Prop := ∀ p q, a ≤ p → p < q → q ≤ i → q ≠ j → gv l p ≤ gv l q
theorem Ins1.start {a i : Nat} {l : List Int} (h : Srt a i l) : Ins1 a i i l := fun p q p1 p2 p3 p4 => h p q p1 p2 (by omega)
theorem Ins1.step {a i j : Nat} {l : List Int} (h : Ins1 a i j l) (hj : a < j ∧ j ≤ i) (hl : i < l.length) (hc : gv l j < gv l (j - 1)) : Ins1 a i (j - 1) (swp l j (j - 1)) := fun p q p1 p2 p3 p4 => by
 rw [gv_swp (by omega) (by omega), gv_swp (by omega) (by omega), if_neg p4]
 have f1 := h p q p1 p2 p3
 have f2 := h p (j - 1) p1
 have f3 := h (j - 1) q (by omega)
 have f4 := h j q (by omega)
 by_cases e1 : p = j - 1
 ·rw [if_pos e1]
  by_cases e2 : q = j
  ·rw [if_pos e2]; omega
  ·rw [if_neg e2]; exact f4 (by omega) p3 e2
 ·rw [if_neg e1]
  by_cases e3 : p = j
  ·rw [if_pos e3, if_neg (by omega)]; exact f3 (by omega) p3 (by omega)
  ·rw [if_neg e3]
   by_cases e2 : q = j
   ·rw [if_pos e2]; exact f2 (by omega) (by omega) (by omega)
   ·rw [if_neg e2]; exact f1 e2
theorem Ins1.stop {a i j : Nat} {l : List Int} (h : Ins1 a i j l) (hj : a ≤ j ∧ j ≤ i) (hc : j = a ∨ gv l (j - 1) ≤ gv l j) : Srt a (i + 1) l := fun p q p1 p2 p3 => by
 by_cases e : q = j
 ·subst e
  rcases hc with hc | hc
  ·omega
  ·by_cases e2 : p = q - 1
   ·subst e2; exact hc
   ·have := h p (q - 1) p1 (by omega) (by omega) (by omega); omega
 ·exact h p q p1 p2 (by omega) e
def Heap (f lo hi : Nat) (l : List Int) : Prop := ∀ k c, lo ≤ k → (c = 2 * k + 1 ∨ c = 2 * k + 2) → c < hi → gv l (f + c) ≤ gv l (f + k)
structure HeapX (f lo hi r : Nat) (l : List Int) : Prop where
 but : ∀ k c, lo ≤ k → k ≠ r → (c = 2 * k + 1 ∨ c = 2 * k + 2) → c < hi → gv l (f + c) ≤ gv l (f + k)
 up : ∀ k c, lo ≤ k → (r = 2 * k + 1 ∨ r = 2 * k + 2) → (c = 2 * r + 1 ∨ c = 2 * r + 2) → c < hi → gv l (f + c) ≤ gv l (f + k)
theorem HeapX.stop {f lo hi r : Nat} {l : List Int} (h : HeapX f lo hi r l) (hc : ∀ c, (c = 2 * r + 1 ∨ c = 2 * r + 2) → c < hi → gv l (f + c) ≤ gv l (f + r)) : Heap f lo hi l := fun k c h1 h2 h3 => by
 by_cases e : k = r
 ·subst e; exact hc c h2 h3
 ·exact h.but k c h1 e h2 h3
theorem HeapX.step {f lo hi r c : Nat} {l : List Int} (h : HeapX f lo hi r l) (hr : lo ≤ r) (hc : c = 2 * r + 1 ∨ c = 2 * r + 2) (hlt : c < hi) (hl : f + hi ≤ l.length)
  (hmax : ∀ d, (d = 2 * r + 1 ∨ d = 2 * r + 2) → d < hi → gv l (f + d) ≤ gv l (f + c)) (hg : gv l (f + r) < gv l (f + c)) : HeapX f lo hi c (swp l (f + r) (f + c)) := by
 have hs := fun k => gv_swp (l:=l) (i:=f + r) (j:=f + c) (by omega) (by omega) k
 refine ⟨fun k d h1 h2 h3 h4 => ?_, fun k d h1 h2 h3 h4 => ?_⟩
 ·rw [hs, hs]
  have b1 := h.but k d h1
  by_cases e1 : k = r
  ·subst e1
   rw [if_neg (by omega : ¬ f + k = f + c), if_pos rfl]
   by_cases e2 : d = c
   ·rw [if_pos (by omega)]; omega
   ·rw [if_neg (by omega), if_neg (by omega)]; exact hmax d h3 h4
  ·rw [if_neg (by omega : ¬ f + k = f + c), if_neg (by omega : ¬ f + k = f + r)]
   by_cases e2 : d = c
   ·omega
   ·rw [if_neg (by omega)]
    by_cases e3 : d = r
    ·rw [if_pos (by omega)]; subst e3; exact h.up k c h1 (by omega) hc hlt
    ·rw [if_neg (by omega)]; exact b1 e1 h3 h4
 ·obtain rfl : k = r := by omega
  rw [hs, hs, if_neg (by omega), if_neg (by omega), if_neg (by omega), if_pos rfl]
  exact h.but c d (by omega) (by omega) h3 h4
theorem Heap.max {f hi : Nat} {l : List Int} (h : Heap f 0 hi l) : ∀ k, k < hi → gv l (f + k) ≤ gv l f := fun k => by
 induction k using Nat.strongRecOn with
 | _ k ih =>
  intro hk
  by_cases e : k = 0
  ·subst e; exact Int.le_refl _
  ·have h1 := ih ((k - 1) / 2) (by omega) (by omega)
   have h2 := h ((k - 1) / 2) k (by omega) (by omega) hk
   omega
theorem Heap.x {f lo hi : Nat} {l : List Int} (h : Heap f (lo + 1) hi l) : HeapX f lo hi lo l :=
 ⟨fun k c h1 h2 h3 h4 => h k c (by omega) h3 h4, fun k c h1 h2 h3 h4 => by omega⟩
structure Pop (f hi i : Nat) (l : List Int) : Prop where
 heap : Heap f 0 i l
 srt : Srt (f + i) (f + hi) l
 le : ∀ p q, p < i → i ≤ q → q < hi → gv l (f + p) ≤ gv l (f + q)
theorem Pop.swap {f hi i : Nat} {l : List Int} (h : Pop f hi (i + 1) l) (hi' : i + 1 ≤ hi) (hl : f + hi ≤ l.length) :
  HeapX f 0 i 0 (swp l f (f + i)) ∧ Srt (f + i) (f + hi) (swp l f (f + i)) ∧ ∀ p q, p < i → i ≤ q → q < hi → gv (swp l f (f + i)) (f + p) ≤ gv (swp l f (f + i)) (f + q) := by
 have hs := fun k => gv_swp (l:=l) (i:=f) (j:=f + i) (by omega) (by omega) k
 have mx := h.heap.max
 refine ⟨⟨fun k c h1 h2 h3 h4 => ?_, fun k c h1 h2 h3 h4 => by omega⟩, fun p q h1 h2 h3 => ?_, fun p q h1 h2 h3 => ?_⟩
 ·rw [hs, hs, if_neg (by omega), if_neg (by omega), if_neg (by omega), if_neg (by omega)]
  exact h.heap k c h1 h3 (by omega)
 ·rw [hs, hs]
  by_cases e0 : i = 0
  ·subst e0
   by_cases e : p = f
   ·rw [if_pos (by omega), if_neg (by omega), if_neg (by omega)]
    have := h.le 0 (q - f) (by omega) (by omega) (by omega)
    rw [show f + (q - f) = q by omega] at this
    exact this
   ·rw [if_neg (by omega), if_neg (by omega), if_neg (by omega), if_neg (by omega)]
    exact h.srt p q (by omega) h2 h3
  ·by_cases e : p = f + i
   ·rw [if_pos e, if_neg (by omega), if_neg (by omega)]
    have := h.le 0 (q - f) (by omega) (by omega) (by omega)
    rw [show f + (q - f) = q by omega] at this
    exact this
   ·rw [if_neg e, if_neg (by omega), if_neg (by omega), if_neg (by omega)]
    exact h.srt p q (by omega) h2 h3
 ·rw [hs, hs, if_neg (by omega)]
  have e0 : ¬ f + q = f := by omega
  rw [if_neg e0]
  by_cases e : p = 0
  ·subst e
   rw [if_pos (by omega : f + 0 = f)]
   by_cases e2 : q = i
   ·rw [if_pos (by omega)]; exact mx i (by omega)
   ·rw [if_neg (by omega)]; exact h.le i q (by omega) (by omega) h3
  ·rw [if_neg (by omega)]
   by_cases e2 : q = i
   ·rw [if_pos (by omega)]; exact mx p (by omega)
   ·rw [if_neg (by omega)]; exact h.le p q (by omega) (by omega) h3
theorem Srt.join {a m b : Nat} {l : List Int} (h1 : Srt a m l) (h2 : Srt m b l) (h : ∀ p q, a ≤ p → p < m → m ≤ q → q < b → gv l p ≤ gv l q) : Srt a b l := fun p q p1 p2 p3 => by
 by_cases e1 : q < m
 ·exact h1 p q p1 p2 e1
 ·by_cases e2 : m ≤ p
  ·exact h2 p q e2 p2 p3
  ·exact h p q p1 (by omega) (by omega) p3
structure Par (a b i j : Nat) (l : List Int) : Prop where
 lo : ∀ k, a < k → k < i → gv l k < gv l a
 hi : ∀ k, j < k → k < b → gv l a ≤ gv l k
theorem Par.start {a b : Nat} {l : List Int} : Par a b (a + 1) (b - 1) l := ⟨fun k h1 h2 => by omega, fun k h1 h2 => by omega⟩
theorem Par.up {a b i j : Nat} {l : List Int} (h : Par a b i j l) (hc : gv l i < gv l a) : Par a b (i + 1) j l :=
 ⟨fun k h1 h2 => by by_cases e : k = i; subst e; exact hc; exact h.lo k h1 (by omega), h.hi⟩
theorem Par.down {a b i j : Nat} {l : List Int} (h : Par a b i j l) (hc : gv l a ≤ gv l j) : Par a b i (j - 1) l :=
 ⟨h.lo, fun k h1 h2 => by by_cases e : k = j; subst e; exact hc; exact h.hi k (by omega) h2⟩
theorem Par.step {a b i j : Nat} {l : List Int} (h : Par a b i j l) (hi : a < i ∧ i < j ∧ j < b) (hl : b ≤ l.length) (h1 : gv l a ≤ gv l i) (h2 : gv l j < gv l a) : Par a b (i + 1) (j - 1) (swp l i j) := by
 have hs := fun k => gv_swp (l:=l) (i:=i) (j:=j) (by omega) (by omega) k
 refine ⟨fun k k1 k2 => ?_, fun k k1 k2 => ?_⟩
 ·rw [hs, hs, if_neg (by omega : ¬ k = j), if_neg (by omega : ¬ a = j), if_neg (by omega : ¬ a = i)]
  by_cases e : k = i
  ·rw [if_pos e]; exact h2
  ·rw [if_neg e]; exact h.lo k k1 (by omega)
 ·rw [hs, hs, if_neg (by omega : ¬ a = j), if_neg (by omega : ¬ a = i), if_neg (by omega : ¬ k = i)]
  by_cases e : k = j
  ·rw [if_pos e]; exact h1
  ·rw [if_neg e]; exact h.hi k (by omega) k2
structure Parted (a b m : Nat) (l : List Int) : Prop where
 lo : ∀ k, a ≤ k → k < m → gv l k ≤ gv l m
 hi : ∀ k, m < k → k < b → gv l m ≤ gv l k
theorem Par.fin {a b i j : Nat} {l : List Int} (h : Par a b i j l) (hj : a ≤ j ∧ j < b ∧ j < i) (hl : b ≤ l.length) : Parted a b j (swp l j a) := by
 have hs := fun k => gv_swp (l:=l) (i:=j) (j:=a) (by omega) (by omega) k
 have hm : gv (swp l j a) j = gv l a := by
  rw [hs]; by_cases e : j = a
  ·rw [if_pos e, e]
  ·rw [if_neg e, if_pos rfl]
 refine ⟨fun k k1 k2 => ?_, fun k k1 k2 => ?_⟩
 ·rw [hm, hs]
  by_cases e : k = a
  ·rw [if_pos e]
   have := h.lo j; omega
  ·rw [if_neg e, if_neg (by omega)]
   have := h.lo k (by omega) (by omega); omega
 ·rw [hm, hs, if_neg (by omega), if_neg (by omega)]
  exact h.hi k k1 k2
structure Peq (a b i j : Nat) (l : List Int) : Prop where
 lo : ∀ k, a ≤ k → k < i → gv l k ≤ gv l a
 hi : ∀ k, j < k → k < b → gv l a < gv l k
theorem Peq.start {a b : Nat} {l : List Int} : Peq a b (a + 1) (b - 1) l := ⟨fun k h1 h2 => (by obtain rfl : k = a := (by omega); exact Int.le_refl _), fun k h1 h2 => by omega⟩
theorem Peq.up {a b i j : Nat} {l : List Int} (h : Peq a b i j l) (hc : gv l i ≤ gv l a) : Peq a b (i + 1) j l :=
 ⟨fun k h1 h2 => by by_cases e : k = i; subst e; exact hc; exact h.lo k h1 (by omega), h.hi⟩
theorem Peq.down {a b i j : Nat} {l : List Int} (h : Peq a b i j l) (hc : gv l a < gv l j) : Peq a b i (j - 1) l :=
 ⟨h.lo, fun k h1 h2 => by by_cases e : k = j; subst e; exact hc; exact h.hi k (by omega) h2⟩
theorem Peq.step {a b i j : Nat} {l : List Int} (h : Peq a b i j l) (hi : a < i ∧ i < j ∧ j < b) (hl : b ≤ l.length) (h1 : gv l a < gv l i) (h2 : gv l j ≤ gv l a) : Peq a b (i + 1) (j - 1) (swp l i j) := by
 have hs := fun k => gv_swp (l:=l) (i:=i) (j:=j) (by omega) (by omega) k
 refine ⟨fun k k1 k2 => ?_, fun k k1 k2 => ?_⟩
 ·rw [hs, hs, if_neg (by omega : ¬ k = j), if_neg (by omega : ¬ a = j), if_neg (by omega : ¬ a = i)]
  by_cases e : k = i
  ·rw [if_pos e]; exact h2
  ·rw [if_neg e]; exact h.lo k k1 (by omega)
 ·rw [hs, hs, if_neg (by omega : ¬ a = j), if_neg (by omega : ¬ a = i), if_neg (by omega : ¬ k = i)]
  by_cases e : k = j
  ·rw [if_pos e]; exact h1
  ·rw [if_neg e]; exact h.hi k (by omega) k2
structure Pdq (a0 b0 : Nat) (l0 : List Int) (a b : Nat) (l : List Int) : Prop where
 ha : a0 ≤ a ∧ a ≤ b ∧ b ≤ b0
 hb : b0 ≤ l0.length
 sw : Sw a0 b0 l0 l
 left : Srt a0 a l
 right : Srt b b0 l
 le1 : ∀ p q, a0 ≤ p → p < a → a ≤ q → q < b0 → gv l p ≤ gv l q
 le2 : ∀ p q, a0 ≤ p → p < b → b ≤ q → q < b0 → gv l p ≤ gv l q
 bnd : 0 < a → ∀ q, a ≤ q → q < b → gv l (a - 1) ≤ gv l q
theorem Pdq.start {a b : Nat} {l : List Int} (h : a ≤ b) (hb : b ≤ l.length) (hbnd : 0 < a → ∀ q, a ≤ q → q < b → gv l (a - 1) ≤ gv l q) : Pdq a b l a b l :=
 ⟨⟨Nat.le_refl _, h, Nat.le_refl _⟩, hb, .refl _ _ _, .nil (by omega), .nil (by omega), fun p q => by omega, fun p q => by omega, hbnd⟩
theorem Pdq.turn {a0 b0 a b : Nat} {l0 l m : List Int} (h : Pdq a0 b0 l0 a b l) (hs : Sw a b l m) : Pdq a0 b0 l0 a b m := by
 obtain ⟨h1, h2, h3⟩ := h.ha
 refine ⟨h.ha, h.hb, h.sw.trans (hs.wide h1 h3), h.left.same fun i _ h => hs.out i (by omega), h.right.same fun i h _ => hs.out i (by omega), fun p q p1 p2 p3 p4 => ?_, fun p q p1 p2 p3 p4 => ?_, fun h0 q q1 q2 => ?_⟩
 ·rw [hs.out p (by omega)]
  by_cases e : q < b
  ·exact hs.all (p:=fun x => gv l p ≤ x) (fun i i1 i2 => h.le1 p i p1 p2 i1 (by omega)) q p3 e
  ·rw [hs.out q (by omega)]; exact h.le1 p q p1 p2 p3 p4
 ·rw [hs.out q (by omega)]
  by_cases e : a ≤ p
  ·exact hs.all (p:=fun x => x ≤ gv l q) (fun i i1 i2 => h.le2 i q (by omega) i2 p3 p4) p e p2
  ·rw [hs.out p (by omega)]; exact h.le2 p q p1 p2 p3 p4
 ·rw [hs.out (a - 1) (by omega)]
  exact hs.all (p:=fun x => gv l (a - 1) ≤ x) (fun i i1 i2 => h.bnd h0 i i1 i2) q q1 q2
theorem Pdq.fin {a0 b0 a b : Nat} {l0 l m : List Int} (h : Pdq a0 b0 l0 a b l) (hs : Sw a b l m) (hm : Srt a b m) : Sw a0 b0 l0 m ∧ Srt a0 b0 m := by
 have k := h.turn hs
 obtain ⟨h1, h2, h3⟩ := h.ha
 exact ⟨k.sw, (k.left.join (hm.join k.right fun p q p1 p2 p3 p4 => k.le2 p q (by omega) p2 p3 p4) fun p q p1 p2 p3 p4 => k.le1 p q p1 p2 p3 p4)⟩
theorem Pdq.rest {a0 b0 a b m : Nat} {l0 l n : List Int} (h : Pdq a0 b0 l0 a b l) (hp : Parted a b m l) (hm : a ≤ m ∧ m < b) (hs : Sw a m l n) (hn : Srt a m n) : Pdq a0 b0 l0 (m + 1) b n := by
 obtain ⟨h1, h2, h3⟩ := h.ha
 have k := h.turn (hs.wide (Nat.le_refl _) (by omega : m ≤ b))
 have om : gv n m = gv l m := hs.out m (by omega)
 have lo : ∀ p, a ≤ p → p < m → gv n p ≤ gv n m := by rw [om]; exact hs.all (p:=fun x => x ≤ gv l m) hp.lo
 have hi : ∀ q, m < q → q < b → gv n m ≤ gv n q := fun q q1 q2 => by rw [om, hs.out q (by omega)]; exact hp.hi q q1 q2
 have hi2 : ∀ q, m < q → q < b0 → gv n m ≤ gv n q := fun q q1 q2 => by
  by_cases e : q < b
  ·exact hi q q1 e
  ·exact k.le2 m q (by omega) (by omega) (by omega) q2
 refine ⟨by omega, k.hb, k.sw, (k.left.join hn fun p q p1 p2 p3 p4 => k.le1 p q p1 p2 p3 (by omega)).next' ?_, k.right, fun p q p1 p2 p3 p4 => ?_, k.le2, fun _ q q1 q2 => hi q (by omega) q2⟩
 ·intro p p1 p2
  by_cases e : a ≤ p
  ·exact lo p e p2
  ·exact k.le1 p m p1 (by omega) (by omega) (by omega)
 ·by_cases e : p = m
  ·subst e; exact hi2 q (by omega) p4
  ·by_cases e2 : a ≤ p
   ·have := lo p e2 (by omega); have := hi2 q (by omega) p4; omega
   ·exact k.le1 p q p1 (by omega) (by omega) p4
theorem Pdq.first {a0 b0 a b m : Nat} {l0 l n : List Int} (h : Pdq a0 b0 l0 a b l) (hp : Parted a b m l) (hm : a ≤ m ∧ m < b) (hs : Sw (m + 1) b l n) (hn : Srt (m + 1) b n) : Pdq a0 b0 l0 a m n := by
 obtain ⟨h1, h2, h3⟩ := h.ha
 have k := h.turn (hs.wide (by omega : a ≤ m + 1) (Nat.le_refl _))
 have om : gv n m = gv l m := hs.out m (by omega)
 have lo : ∀ p, a ≤ p → p < m → gv n p ≤ gv n m := fun p p1 p2 => by rw [om, hs.out p (by omega)]; exact hp.lo p p1 p2
 have hi : ∀ q, m + 1 ≤ q → q < b → gv n m ≤ gv n q := by rw [om]; exact hs.all (p:=fun x => gv l m ≤ x) fun i i1 i2 => hp.hi i (by omega) i2
 have hi2 : ∀ q, m < q → q < b0 → gv n m ≤ gv n q := fun q q1 q2 => by
  by_cases e : q < b
  ·exact hi q q1 e
  ·exact k.le2 m q (by omega) (by omega) (by omega) q2
 have sr : Srt m b0 n := fun p q p1 p2 p3 => by
  by_cases e : p = m
  ·subst e; exact hi2 q p2 p3
  ·exact hn.join k.right (fun p q p1 p2 p3 p4 => k.le2 p q (by omega) p2 p3 p4) p q (by omega) p2 p3
 refine ⟨by omega, k.hb, k.sw, k.left, sr, k.le1, fun p q p1 p2 p3 p4 => ?_, fun h0 q q1 q2 => k.bnd h0 q q1 (by omega)⟩
 have f : gv n p ≤ gv n m := by
  by_cases e : a ≤ p
  ·exact lo p e p2
  ·exact k.le1 p m p1 (by omega) (by omega) (by omega)
 by_cases e : q = m
 ·subst e; exact f
 ·have := hi2 q (by omega) p4; omega
theorem Pdq.eq {a0 b0 a b m j : Nat} {l0 l n : List Int} (h : Pdq a0 b0 l0 a b l) (hs : Sw a b l n) (hp : Peq a b m j n) (hj : m = j + 1) (hm : a < m ∧ m ≤ b) (hmin : ∀ q, a ≤ q → q < b → gv n a ≤ gv n q) : Pdq a0 b0 l0 m b n := by
 obtain ⟨h1, h2, h3⟩ := h.ha
 have k := h.turn hs
 have eqs : ∀ p, a ≤ p → p < m → gv n p = gv n a := fun p p1 p2 => by have := hp.lo p p1 p2; have := hmin p p1 (by omega); omega
 have up : ∀ q, a ≤ q → q < b0 → gv n a ≤ gv n q := fun q q1 q2 => by
  by_cases e : q < b
  ·exact hmin q q1 e
  ·exact k.le2 a q (by omega) (by omega) (by omega) q2
 refine ⟨by omega, k.hb, k.sw, k.left.join (fun p q p1 p2 p3 => ?_) fun p q p1 p2 p3 p4 => k.le1 p q p1 p2 p3 (by omega), k.right, fun p q p1 p2 p3 p4 => ?_, k.le2, fun h0 q q1 q2 => ?_⟩
 ·rw [eqs p p1 (by omega), eqs q (by omega) p3]; exact Int.le_refl _
 ·by_cases e : a ≤ p
  ·rw [eqs p e p2]; exact up q (by omega) p4
  ·exact k.le1 p q p1 (by omega) (by omega) p4
 ·rw [eqs (m - 1) (by omega) (by omega)]; exact up q (by omega) (by omega)
end Go.Proofs.Ytfhmalanbdjgfaa
namespace Go.Proofs.Ytfhmalanbdjgfaa
open Go Go.RowKit
structure PR where
 n : Nat
 o : Nat
 l : Nat
 b : Nat
def PR.val (r : PR) : Value := .agg #[.int .i64 (r.o : Nat), .int .i64 (r.l : Nat)]
def PR.ent (r : PR) : MapEntry := { key := .int .u16 (r.n : Nat), val := r.val, born := r.b }
def PR.cells (r : PR) : List Value := [.int .i64 (r.n : Nat), .int .i64 (r.o : Nat), .int .i64 (r.l : Nat)]
def prE (rs : List PR) : List MapEntry := rs.map PR.ent
def prC (rs : List PR) : List Value := rs.flatMap PR.cells
def pix : List PR → Nat → Option Nat
 | [], _ => none
 | r :: rs, n => if r.n = n then some 0 else (pix rs n).map (· + 1)
theorem h3f {rs : List PR} {n j : Nat} (h : pix rs n = some j) : ∃ r, rs[j]? = some r ∧ r.n = n := by
 induction rs generalizing j with
 | nil => simp [pix] at h
 | cons r rs ih =>
  simp only [pix] at h
  split at h
  ·injection h with h; subst h; exact ⟨r, rfl, by assumption⟩
  ·cases hp : pix rs n with
   | none => simp [hp] at h
   | some k =>
    simp [hp] at h; subst h
    obtain ⟨r', h1, h2⟩ := ih hp
    exact ⟨r', by simpa using h1, h2⟩
theorem pix_none {rs : List PR} {n : Nat} (h : pix rs n = none) : n ∉ rs.map (·.n) := by
 induction rs with
 | nil => simp
 | cons r rs ih =>
  simp only [pix] at h
  split at h
  ·simp at h
  ·cases hp : pix rs n with
   | none => simp only [List.map_cons, List.mem_cons, not_or]; exact ⟨fun e => by rename_i hne; exact hne e.symm, ih hp⟩
   | some k => simp [hp] at h
theorem pix_lt {rs : List PR} {n j : Nat} (h : pix rs n = some j) : j < rs.length := by
 obtain ⟨r, h1, _⟩ := h3f h
 exact (List.getElem?_eq_some_iff.1 h1).1
theorem find_pr (rs : List PR) (n : Nat) (i : Nat) (w : TypeDesc) (hw : ∀ m : Nat, Instr.sameNow w (.int .u16 (n : Nat)) (.int .u16 (m : Nat)) = some (decide (m = n))) : Instr.findNow w (.int .u16 (n : Nat)) (prE rs) i = some ((pix rs n).map fun j => (i + j, (rs[j]?.map PR.val).getD (.agg #[]))) := by
 induction rs generalizing i with
 | nil => rfl
 | cons r rs ih =>
  show Instr.findNow w (.int .u16 (n : Nat)) (r.ent :: prE rs) i = _
  simp only [Instr.findNow, PR.ent, pix, hw]
  by_cases h : r.n = n
  ·simp [h]
  ·rw [show decide (r.n = n) = false by simp [h]]
   simp only [ih, h, if_false]
   cases pix rs n with
   | none => rfl
   | some k => simp; omega
theorem same_u16 (n m : Nat) : Instr.sameNow (.int .u16) (.int .u16 (n : Nat)) (.int .u16 (m : Nat)) = some (decide (m = n)) := by
 simp only [Instr.sameNow]
 congr 1
 by_cases h : m = n
 ·subst h; simp
 ·have : ¬ (n : Int) = (m : Int) := by omega
  simp [h]; omega
theorem find_some {rs : List PR} {n j : Nat} {r : PR} (h : pix rs n = some j) (hr : rs[j]? = some r) : Instr.findNow (.int .u16) (.int .u16 (n : Nat)) (prE rs) 0 = some (some (j, r.val)) := by
 rw [find_pr rs n 0 _ (same_u16 n), h]; simp [hr]
theorem find_none {rs : List PR} {n : Nat} (h : pix rs n = none) : Instr.findNow (.int .u16) (.int .u16 (n : Nat)) (prE rs) 0 = some none := by
 rw [find_pr rs n 0 _ (same_u16 n), h]; rfl
theorem prE_snoc (rs : List PR) (r : PR) : prE rs ++ [{ key := .int .u16 (r.n : Nat), val := r.val, born := r.b }] = prE (rs ++ [r]) := by simp [prE, PR.ent]
theorem prE_set (rs : List PR) (j : Nat) (r r' : PR) (h : rs[j]? = some r) (hn : r'.n = r.n) (hb : r'.b = r.b) (k v : Value) (hk : k = .int .u16 (r.n : Nat)) (hv : v = r'.val) : (prE rs).modify j (fun e => { key := k, val := v, born := e.born }) = prE (rs.set j r') := by
 subst hk hv
 have hl := (List.getElem?_eq_some_iff.1 h).1
 have he := (List.getElem?_eq_some_iff.1 h).2
 apply List.ext_getElem?
 intro i
 simp only [prE, List.getElem?_modify, List.getElem?_map, List.getElem?_set]
 by_cases e : j = i
 ·subst e
  simp [hl, he, PR.ent, hn, hb]
 ·simp [e]
theorem prE_erase (rs : List PR) (j : Nat) : (prE rs).eraseIdx j = prE (rs.eraseIdx j) := by
 induction rs generalizing j with
 | nil => rfl
 | cons r rs ih => cases j with
  | zero => rfl
  | succ j => simpa [prE] using ih j
theorem prC_len (rs : List PR) : (prC rs).length = rs.length * 3 := by
 induction rs with
 | nil => rfl
 | cons r rs ih => simp only [prC, List.flatMap_cons, List.length_append, PR.cells, List.length_cons, List.length_nil] at ih ⊢; omega
theorem prC_snoc (rs : List PR) (r : PR) : prC rs ++ r.cells = prC (rs ++ [r]) := by simp [prC]
theorem prC_at (rs : List PR) (j : Nat) (h : j < rs.length) : ((prC rs).drop (j * 3)).take 3 = rs[j].cells := by
 induction rs generalizing j with
 | nil => simp at h
 | cons r rs ih =>
  cases j with
  | zero => simp [prC, PR.cells]
  | succ j =>
   have := ih j (by simpa using h)
   rw [show prC (r :: rs) = r.cells ++ prC rs by simp [prC], show (j + 1) * 3 = r.cells.length + j * 3 by simp [PR.cells]; omega, List.drop_append]
   rw [@List.drop_eq_nil_of_le _ r.cells _ (by omega), List.nil_append, show r.cells.length + j * 3 - r.cells.length = j * 3 by omega]
   simpa using this
theorem prC_get (rs : List PR) (j k : Nat) (h : j < rs.length) (hk : k < 3) : (prC rs)[j * 3 + k]? = rs[j].cells[k]? := by
 rw [← prC_at rs j h, List.getElem?_take, if_pos hk, List.getElem?_drop]
theorem prC_set (rs : List PR) (j k : Nat) (r' : PR) (v : Value) (h : j < rs.length) (hk : k < 3) (hv : rs[j].cells.set k v = r'.cells) : (prC rs).set (j * 3 + k) v = prC (rs.set j r') := by
 induction rs generalizing j with
 | nil => simp at h
 | cons r rs ih =>
  cases j with
  | zero =>
   simp only [Nat.zero_mul, Nat.zero_add, List.set_cons_zero, List.getElem_cons_zero] at hv ⊢
   rw [show prC (r :: rs) = r.cells ++ prC rs by simp [prC], show prC (r' :: rs) = r'.cells ++ prC rs by simp [prC], List.set_append_left _ _ (by simp [PR.cells]; omega), hv]
  | succ j =>
   simp only [List.set_cons_succ]
   rw [show prC (r :: rs) = r.cells ++ prC rs by simp [prC], show prC (r :: rs.set j r') = r.cells ++ prC (rs.set j r') by simp [prC], show (j + 1) * 3 + k = r.cells.length + (j * 3 + k) by simp [PR.cells]; omega, List.set_append_right _ _ (by omega)]
   rw [show r.cells.length + (j * 3 + k) - r.cells.length = j * 3 + k by omega, ih j (by simpa using h) (by simpa using hv)]
structure POk (k : Nat) (rs : List PR) (c : Nat) : Prop where
 nd : (rs.map (·.n)).Nodup
 lt : ∀ r ∈ rs, r.n < 65536
 op : ∀ r ∈ rs, 1 ≤ r.o ∧ r.o ≤ k ∧ r.l ≤ r.o
 bn : (rs.map (·.b)).Nodup
 bl : ∀ r ∈ rs, r.b < c
 len : rs.length ≤ k
theorem POk.nil : POk 0 [] 0 := ⟨by simp, by simp, by simp, by simp, by simp, by simp⟩
theorem POk.up {k : Nat} {rs : List PR} {c : Nat} (h : POk k rs c) : POk (k + 1) rs c := ⟨h.nd, h.lt, fun r hr => by have := h.op r hr; omega, h.bn, h.bl, by have := h.len; omega⟩
theorem POk.snoc {k : Nat} {rs : List PR} {c n : Nat} (h : POk k rs c) (hn : n < 65536) (hx : pix rs n = none) : POk (k + 1) (rs ++ [⟨n, 1, 0, c⟩]) (c + 1) := by
 have hx' := pix_none hx
 refine ⟨?_, ?_, ?_, ?_, ?_, by have := h.len; simp; omega⟩
 ·rw [List.map_append, List.nodup_append]; exact ⟨h.nd, by simp, by rintro a ha b hb rfl; simp at hb; subst hb; exact hx' ha⟩
 ·intro r hr; rcases List.mem_append.1 hr with hr | hr
  ·exact h.lt r hr
  ·simp at hr; subst hr; exact hn
 ·intro r hr; rcases List.mem_append.1 hr with hr | hr
  ·have := h.op r hr; omega
  ·simp at hr; subst hr; simp
 ·rw [List.map_append, List.nodup_append]
  refine ⟨h.bn, by simp, ?_⟩
  rintro a ha b hb rfl
  simp at hb; subst hb
  obtain ⟨r, hr, e⟩ := List.mem_map.1 ha
  have := h.bl r hr; omega
 ·intro r hr; rcases List.mem_append.1 hr with hr | hr
  ·have := h.bl r hr; omega
  ·simp at hr; subst hr; simp
theorem map_set_same {α β : Type} (f : α → β) (l : List α) (j : Nat) (x y : α) (h : l[j]? = some x) (e : f y = f x) : (l.set j y).map f = l.map f := by
 rw [List.map_set, e]
 apply List.ext_getElem?
 intro i
 rw [List.getElem?_set]
 by_cases c : j = i
 ·subst c
  have hl := (List.getElem?_eq_some_iff.1 h).1
  have he := (List.getElem?_eq_some_iff.1 h).2
  simp [hl, he]
 ·simp [c]
theorem POk.set {k j : Nat} {rs : List PR} {c : Nat} {r r' : PR} (h : POk k rs c) (hr : rs[j]? = some r) (hn : r'.n = r.n) (hb : r'.b = r.b) (ho : 1 ≤ r'.o ∧ r'.o ≤ k + 1 ∧ r'.l ≤ r'.o) : POk (k + 1) (rs.set j r') c := by
 have hm := List.mem_of_getElem? hr
 refine ⟨?_, ?_, ?_, ?_, ?_, by have := h.len; simp; omega⟩
 ·rw [map_set_same _ _ _ r _ hr hn]; exact h.nd
 ·intro q hq; rcases List.mem_or_eq_of_mem_set hq with hq | rfl
  ·exact h.lt q hq
  ·rw [hn]; exact h.lt r hm
 ·intro q hq; rcases List.mem_or_eq_of_mem_set hq with hq | rfl
  ·have := h.op q hq; omega
  ·exact ho
 ·rw [map_set_same _ _ _ r _ hr hb]; exact h.bn
 ·intro q hq; rcases List.mem_or_eq_of_mem_set hq with hq | rfl
  ·exact h.bl q hq
  ·rw [hb]; exact h.bl r hm
theorem POk.erase {k j : Nat} {rs : List PR} {c : Nat} (h : POk k rs c) : POk (k + 1) (rs.eraseIdx j) c := by
 have hs : (rs.eraseIdx j).Sublist rs := List.eraseIdx_sublist ..
 exact ⟨(hs.map _).nodup h.nd, fun r hr => h.lt r (hs.mem hr), fun r hr => by have := h.op r (hs.mem hr); omega, (hs.map _).nodup h.bn, fun r hr => h.bl r (hs.mem hr), by have := h.len; have := hs.length_le; omega⟩
def from_ (rs : List PR) (k : Nat) : Nat := (rs.filter (fun r => decide (k ≤ r.n))).length
theorem from_le (rs : List PR) (k : Nat) : from_ rs k ≤ rs.length := List.length_filter_le ..
theorem from_next {rs : List PR} {k j : Nat} (h : pix rs k = some j) : from_ rs (k + 1) + 1 ≤ from_ rs k := by
 induction rs generalizing j with
 | nil => simp [pix] at h
 | cons r rs ih =>
  have mono : ∀ rs : List PR, from_ rs (k + 1) ≤ from_ rs k := by
   intro rs
   induction rs with
   | nil => simp [from_]
   | cons r rs ih2 =>
    simp only [from_, List.filter_cons] at ih2 ⊢
    by_cases c1 : k + 1 ≤ r.n
    ·have c2 : k ≤ r.n := by omega
     simp [c1, c2]; exact ih2
    ·by_cases c2 : k ≤ r.n
     ·simp [c1, c2]; omega
     ·simp [c1, c2]; exact ih2
  simp only [pix] at h
  by_cases e : r.n = k
  ·have := mono rs
   simp only [from_, List.filter_cons] at this ⊢
   have c1 : ¬ k + 1 ≤ r.n := by omega
   have c2 : k ≤ r.n := by omega
   simp [c1, c2]; omega
  ·rw [if_neg e] at h
   cases hp : pix rs k with
   | none => simp [hp] at h
   | some q =>
    have := ih hp
    simp only [from_, List.filter_cons] at this ⊢
    by_cases c1 : k + 1 ≤ r.n
    ·have c2 : k ≤ r.n := by omega
     simp [c1, c2]; omega
    ·have c2 : ¬ k ≤ r.n := by omega
     simp [c1, c2]; omega
structure Free (rs : List PR) (k : Nat) : Prop where
 ge : 1024 ≤ k
 all : ∀ j, 1024 ≤ j → j < k → (pix rs j).isSome = true
structure IsFree (rs : List PR) (k : Nat) : Prop extends Free rs k where
 not : pix rs k = none
theorem IsFree.one {rs : List PR} {k k' : Nat} (h : IsFree rs k) (h' : IsFree rs k') : k = k' := by
 by_cases c : k < k'
 ·have := h'.all k h.ge c; rw [h.not] at this; cases this
 ·by_cases c2 : k' < k
  ·have := h.all k' h'.ge c2; rw [h'.not] at this; cases this
  ·omega
theorem Free.next {rs : List PR} {k j : Nat} (h : Free rs k) (hj : pix rs k = some j) : Free rs (k + 1) := ⟨by have := h.ge; omega, fun i i1 i2 => by
 by_cases e : i = k
 ·subst e; rw [hj]; rfl
 ·exact h.all i i1 (by omega)⟩
theorem G_loop1 {P : Program} {n : Nat} {l : List (Nat × Value)} {S : List Nat} {w0 : World} {L : List Blk} {k : Kont} {c : Code} (h : G n l S w0 L (KC P c (.cut (fun _ _ => False) k))) : G n l S w0 L (KC P (.loop c) k) := by
 refine .mk fun a w hf H => ⟨?_⟩
 intro b k' cs
 obtain ⟨e, a₁, w₁, hq, harr⟩ := ((h.out a w hf H).out) b (.inLoop c :: k') cs
 have key : ∃ e a' w', k.den P e a' w' ∧ Arrives P (lone (b.at a (.code c :: .inLoop c :: k')) cs w) b k' cs e a' w' := by
  cases e with
  | normal => exact hq.elim
  | exit id => exact ⟨_, a₁, w₁, hq, .pass (x:=.inLoop c) rfl (fun _ _ => .inl (by simp)) harr⟩
  | goto l => exact ⟨_, a₁, w₁, hq, .pass (x:=.inLoop c) rfl (fun _ _ => .inl (by simp)) harr⟩
  | ret => exact ⟨_, a₁, w₁, hq, .pass (x:=.inLoop c) rfl (fun _ _ => .inl (by simp)) harr⟩
  | panic ch => exact ⟨_, a₁, w₁, hq, .pass (x:=.inLoop c) rfl (fun _ _ => .inl (by simp)) harr⟩
  | outgrown => exact ⟨_, a₁, w₁, hq, .pass (x:=.inLoop c) rfl (fun _ _ => .inl (by simp)) harr⟩
 obtain ⟨e, a', w', hq, harr⟩ := key
 exact ⟨e, a', w', hq, .of_steps (.one step_loop) harr⟩
def slO (a : Option Addr) (lo cap m : Nat) : Option Addr := if cap = lo then a else a.map (·.add (lo * m))
theorem Sli.cut {L : List Blk} {a : Option Addr} {len cap m lo hi : Nat} {cells : List Value} (h : Sli L a len m cells) (h1 : lo ≤ hi) (h2 : hi ≤ len) (h3 : len ≤ cap) : Sli L (slO a lo cap m) (hi - lo) m ((cells.drop (lo * m)).take ((hi - lo) * m)) := by
 have hlen := h.1
 have e1 : lo * m + (hi - lo) * m = hi * m := by rw [← Nat.add_mul]; congr 1; omega
 have e2 : hi * m ≤ len * m := Nat.mul_le_mul_right _ h2
 refine ⟨by rw [List.length_take, List.length_drop, hlen]; omega, ?_⟩
 by_cases hz : hi - lo = 0
 ·exact .inl hz
 ·rcases h.2 with h0 | ⟨i, q, b, off, cs, T, fr, rfl, hi', hsz, htk⟩
  ·omega
  ·refine .inr ⟨i, q, b, off + lo * m, cs, T, fr, ?_, hi', by omega, ?_⟩
   ·unfold slO
    rw [if_neg (by omega), Option.map_some]
    congr 1
    unfold Addr.add; split <;> simp_all
   ·subst htk
    rw [List.drop_take, List.drop_drop, List.take_take, Nat.min_eq_left (by omega)]
section
variable {P : Program} {t s : TypeId}
theorem r_slg {elem m len cap l' h' : Nat} {a : Option Addr} {lo hi : Option Value} (ht : P.underlying t = some (.slice elem)) (hm : (P.info? elem).map (·.size) = some m)
  (hb : ∀ w, (Instr.sliceBounds true len cap lo hi none).run P w = .ok (l', h', cap) w) : RSlc P t (.slice a len cap) lo hi none (.slice (slO a l' cap m) (h' - l') (cap - l')) := .mk fun w => by
 cases hi' : P.info? elem with
 | none => simp [hi'] at hm
 | some i =>
  have h2 : i.size = m := by simpa [hi'] using hm
  simp [Instr.sliceAt, Instr.slice, Sem.run_bind, run_underlying ht, hb, sizeOf, typeInfo, hi', h2, slO]
end
section
variable {P : Program} {n : Nat} {l : List (Nat × Value)} {S : List Nat} {w0 : World} {L : List Blk} {d : Tmp} {ty : TypeId} {pos : String} {af : Array Edge}
end
def arrH (l : List Int) (r : List Value) : List Value := l.map (fun x => Value.int .u16 x) ++ r
abbrev h2y (b : Nat) (l : List Int) (r : List Value) : Blk := ⟨true, b, .cells (arrH l r).toArray 22 (0, 0)⟩
theorem h0y {l : List Int} {r : List Value} {k : Nat} (h : k < l.length) : (arrH l r).toArray.toList[k]? = some (.int .u16 (gv l k)) := by
 simp [arrH, List.getElem?_append, h, gv_get h]
theorem h2l {l : List Int} {r : List Value} {i : Int} (k : Nat) (h : k < l.length) (hi : i.toNat = k) : (arrH l r).toArray.toList[i.toNat]? = some (.int .u16 (gv l k)) := by
 rw [hi]; exact h0y h
theorem arrH_set {l : List Int} {r : List Value} {k : Nat} {x : Int} (h : k < l.length) : (arrH l r).set k (.int .u16 x) = arrH (l.set k x) r := by
 simp [arrH, List.set_append, h, List.map_set]
theorem arrH_size {l : List Int} {r : List Value} : (arrH l r).toArray.size = l.length + r.length := by simp [arrH]
theorem h1v {l : List Int} {r : List Value} : (arrH l r).length = l.length + r.length := by simp [arrH]
theorem h2f {l : List Int} {r : List Value} {p q : Nat} (i j : Nat) (hi : i < l.length) (hj : j < l.length) (hp : p = i) (hq : q = j) : ((arrH l r).set p (.int .u16 (gv l j))).set q (.int .u16 (gv l i)) = arrH (swp l i j) r := by
 subst hp hq
 rw [arrH_set hi, arrH_set (by simpa using hj)]; rfl
theorem Srt.less {a b c : Nat} {l : List Int} (h : Srt a b l) (hc : c ≤ b) : Srt a c l := fun p q p1 p2 p3 => h p q p1 p2 (by omega)
theorem isNaNH_c {S w0 L} (x : Int) : Fn Try.prog 34 #[.int .u16 x] S w0 L fun v L' => v = .bool false ∧ L = L' := by
 refine Fn1 Try.func34 Try.ntmps34 rfl rfl ?_
 repeat' (first | refine h0j ?_ | refine h0d ?_ | refine h1y ?_ | (refine gR 0 (p_a (h:=h0b ?_))) | (refine gR 1 (p_m (h:=q_m ?_)) <;> (try refine q_e (by exact q_b (r:=by refine rb_neq_f ?_; first | rfl | (with_reducible assumption) | (decide; done) | omega)) ?_) <;> (try refine p_a (h:=h0b ?_))))
 (refine h1b Try.results34 (.tmp rfl .nil) ?_)
 exact ⟨_, ⟨rfl, rfl⟩, by intro w H; refine H.sub ?_; (try simp only [zzC, zzN]); repeat (exact List.Sublist.refl _)⟩
theorem h3b {S w0 L} (x y : Int) : Fn Try.prog 24 #[.int .u16 x, .int .u16 y] S w0 L fun v L' => v = .bool (decide (x < y)) ∧ L = L' := by
 refine Fn2 Try.func24 Try.ntmps24 rfl rfl ?_
 repeat' (first | refine h0j ?_ | refine h0d ?_ | refine h1y ?_ | (refine gR 0 (p_a (h:=h0b ?_))) | (refine gR 1 (q_m ?_) <;> (try refine h0i ?_; (refine h0v (F:=34) (by kernel_rfl) rfl rfl (isNaNH_c _) ?_; rintro _ _ ⟨rfl, rfl⟩)) <;> (try refine p_m (h:=p_z (h:=p_z (h:=p_z (h:=p_p (h:=p_m (h:=p_y (h0c rfl) (h:=p_y (h0c rfl) (h:=p_y (q_b (r:=by exact rb_lss)) (h:=p_p (h:=p_a (h:=h0b ?_))))))))))))))
 (refine h1b Try.results24 (.tmp rfl .nil) ?_)
 exact ⟨_, ⟨rfl, rfl⟩, by intro w H; refine H.sub ?_; (try simp only [zzC, zzN]); repeat (exact List.Sublist.refl _)⟩
theorem insH_c {S w0 L} (b n cap : Nat) (r : List Value) (l : List Int) (a c : Nat) (hl : l.length = n) (hc : c ≤ n) (hn : n ≤ 255) (ha : a ≤ n) :
  Fn Try.prog 18 #[.slice (some ⟨b, 0, none⟩) n cap, .int .i64 (a : Nat), .int .i64 (c : Nat)] S w0 (h2y b l r :: L) fun v L' => v = .tuple #[] ∧ ∃ l', Sw a c l l' ∧ Srt a c l' ∧ h2y b l' r :: L = L' := by
 refine Fn3 Try.func18 Try.ntmps18 rfl rfl ?_
 repeat' (first | refine h0j ?_ | refine h0d ?_ | refine h0k ?_ | (refine gR 0 (q_m ?_) <;> (try refine q_e (q_b (r:=by apply h0u; exact c_6; (focus (refine IntWalk.i64_in _ ?_; omega)))) ?_) <;> (try refine p_a (h:=h0b ?_))))
 refine h1x (γ:=Nat × List Int) (fun g => a < g.1 ∧ (g.1 ≤ c ∨ g.1 = a + 1) ∧ Sw a c l g.2 ∧ Srt a g.1 g.2) (fun g => c - g.1) (fun g => [(6, .int .i64 (g.1 : Nat))]) [(0, _), (1, _), (2, _)]
  (fun g => h2y b g.2 r :: L) (a + 1, l) (.cons rfl (.cons rfl (.cons rfl .nil))) ⟨by simp, .inr rfl, .refl _ _ _, .nil (by simp)⟩ (by (focus (repeat (first | exact Sub.nil | refine Sub.cons rfl ?_)))) (fun _ H => H) ?_
 rintro ⟨i, m⟩ ⟨h1 : a < i, h2 : i ≤ c ∨ i = a + 1, h3 : Sw a c l m, h4 : Srt a i m⟩
 dsimp only [List.cons_append, List.nil_append]
 have hm := h3.len
 by_cases hlt : i < c
 ·repeat' (first | refine h0j ?_ | refine h0d ?_ | refine h0k ?_ | refine h0t ?_ | refine h0l rfl ?_ | (refine gR 1 (p_m (h:=p_m (h:=p_e (q_b (r:=by exact h2s q_o)) (h:=h0b ?_))))) | (refine gR 3 (p_m (h:=p_a (h:=h0b ?_)))))
  have h5 := Lib.hid (Ins1.start h4)
  refine h1x (γ:=Nat × List Int) (fun g => (a ≤ g.1 ∧ g.1 ≤ i) ∧ Sw a c l g.2 ∧ Ins1 a i g.1 g.2) (fun g => g.1) (fun g => [(7, .int .i64 (g.1 : Nat))]) [(0, _), (1, _), (2, _), (6, _)]
   (fun g => h2y b g.2 r :: L) (i, m) (.cons rfl (.cons rfl (.cons rfl (.cons rfl .nil)))) ⟨by simp; omega, h3, h5.out⟩ (by (focus (repeat (first | exact Sub.nil | refine Sub.cons rfl ?_)))) (fun _ H => H) ?_
  clear h5 h3 h4 hm m
  rintro ⟨j, m⟩ ⟨⟨j1 : a ≤ j, j2 : j ≤ i⟩, h3 : Sw a c l m, h4 : Ins1 a i j m⟩
  dsimp only [List.cons_append, List.nil_append]
  have hm := h3.len
  have g1 := h0y (l:=m) (r:=r) (k:=j) (by omega)
  have g2 := fun h1 h2 => h2l (l:=m) (r:=r) (i:=(j : Int) - 1) (j - 1) h1 h2
  have g4 := h1v (l:=m) (r:=r)
  by_cases hj : a < j
  ·have g3 := g2 (by omega) (by omega)
   repeat' (first | refine h0j ?_ | refine h0d ?_ | refine h0m ?_ | refine h1l ?_ | refine h0z ?_ | refine h0x ?_ | refine h1i ?_ | refine h0k ?_ | refine h0t ?_ | refine h1u ?_ | ((refine h1h (id:=4) (m:=15) (by kernel_rfl) rfl (q_u 0 (x:=by exact h0c rfl) (h:=q_u 1 (x:=by exact h0c rfl) (h:=q_u 2 (x:=by exact q_b (r:=by exact rb_gtr_t q_o)) (h:=q_u 3 (x:=by exact h0c rfl) (h:=q_T 4 (e:=(fun _ H => H)) (x:=by exact h0c rfl) (h:=q_T 5 (e:=(fun _ H => H)) (x:=by exact h0c rfl) (h:=q_T 6 (e:=(fun _ H => H)) (x:=by apply h0a; exact rfl; exact rfl; (focus (apply h0n Try.underlying30 h0r; omega; omega; exact c_1))) (h:=q_T 7 (e:=(fun _ H => H)) (x:=by apply h0e (t:=22); exact rfl; exact fd0; kernel_rfl; kernel_rfl; (with_reducible assumption)) (h:=q_T 8 (e:=(fun _ H => H)) (x:=by exact h0c rfl) (h:=q_T 9 (e:=(fun _ H => H)) (x:=by exact h0c rfl) (h:=?_)))))))))))) <;> (try refine q_T 10 (e:=(fun _ H => H)) (x:=by exact q_b (r:=by apply h1c; exact c_6; (focus (refine IntWalk.i64_in _ ?_; omega)))) (h:=?_)) <;> (try refine q_T 11 (e:=(fun _ H => H)) (x:=by apply h0a; exact rfl; exact rfl; (focus (apply h0n Try.underlying30 h0r; omega; omega; exact c_1))) (h:=q_T 12 (e:=(fun _ H => H)) (x:=by apply h0e (t:=22); exact rfl; exact fd0; kernel_rfl; kernel_rfl; (with_reducible assumption)) (h:=?_))) <;> (try refine q_r 13 ?_; (refine h1j rfl rfl rfl ?_; (refine h0v (F:=24) (by kernel_rfl) rfl rfl (h3b _ _) ?_; rintro _ _ ⟨rfl, rfl⟩)); refine h0s (fun _ H => H) ?_) <;> (try refine q_u 14 (x:=by exact h2g rfl rfl) (h:=h0q (by kernel_rfl) ?_))) | ((apply h1a (i:=0) (id:=6) (m:=18); exact c_9; kernel_rfl; exact rfl) <;> (try refine q_t 0 (e:=c_7) (x:=by exact h0c rfl) (h:=q_t 1 (e:=c_7) (x:=by exact h0c rfl) (h:=q_t 2 (e:=c_7) (x:=by exact h0c rfl) (h:=q_t 3 (e:=c_7) (x:=by exact h0c rfl) (h:=?_))))) <;> (try refine q_t 4 (e:=c_7) (x:=by exact q_b (r:=by apply h1c; exact c_6; (focus (refine IntWalk.i64_in _ ?_; omega)))) (h:=?_)) <;> (try refine q_t 5 (e:=c_7) (x:=by exact h0c rfl) (h:=q_t 6 (e:=c_7) (x:=by exact h0c rfl) (h:=?_))) <;> (try refine q_t 7 (e:=c_7) (x:=by exact q_b (r:=by apply h1c; exact c_6; (focus (refine IntWalk.i64_in _ ?_; omega)))) (h:=?_)) <;> (try refine q_t 8 (e:=c_7) (x:=by apply h0a; exact rfl; exact rfl; (focus (apply h0n Try.underlying30 h0r; omega; omega; exact c_1))) (h:=q_t 10 (e:=c_7) (x:=by exact h0c rfl) (h:=q_t 11 (e:=c_7) (x:=by exact h0c rfl) (h:=q_t 12 (e:=c_7) (x:=by apply h0a; exact rfl; exact rfl; (focus (apply h0n Try.underlying30 h0r; omega; omega; exact c_1))) (h:=?_))))) <;> (try refine h1s (i:=9) (j:=13) rfl rfl (by kernel_rfl) ?_ ?_ <;> (first | (refine TagA.mk ?_; (((refine q_k (by apply h0e (t:=22); exact rfl; exact fd0; kernel_rfl; kernel_rfl; (with_reducible assumption)) ?_); refine h0s c_7 ?_) <;> (try refine q_r 13 ?_; (refine q_k (by apply h0e (t:=22); exact rfl; exact fd0; kernel_rfl; kernel_rfl; (with_reducible assumption)) ?_); refine h0s c_7 ?_) <;> (try refine q_t 14 (e:=c_7) (x:=by apply h0a; exact rfl; exact rfl; (focus (apply h0n Try.underlying30 h0r; omega; omega; exact c_1))) (h:=?_)) <;> (try refine q_r 15 ?_; (apply h0f (t:=22); exact rfl; exact rfl; exact fd0; exact rfl; exact rfl; kernel_rfl; (focus (omega)); exact h2q; (try simp only [List.set_cons_succ]); (try simp only [List.set_cons_zero])); refine h0s c_7 ?_) <;> (try refine q_t 16 (e:=c_7) (x:=by apply h0a; exact rfl; exact rfl; (focus (apply h0n Try.underlying30 h0r; omega; omega; exact c_1))) (h:=?_)) <;> (try refine q_r 17 ?_; (apply h0f (t:=22); exact rfl; exact rfl; exact fd0; exact rfl; exact rfl; kernel_rfl; (focus (simp; omega)); exact h2q; (try simp only [List.set_cons_succ]); (try simp only [List.set_cons_zero])); refine h0s c_7 ?_) <;> (try refine h0q (by kernel_rfl) ?_))) | (refine TagB.mk ?_; (((refine q_k (by apply h0e (t:=22); exact rfl; exact fd0; kernel_rfl; kernel_rfl; (with_reducible assumption)) ?_); refine h0s c_7 ?_) <;> (try refine q_r 9 ?_; (refine q_k (by apply h0e (t:=22); exact rfl; exact fd0; kernel_rfl; kernel_rfl; (with_reducible assumption)) ?_); refine h0s c_7 ?_) <;> (try refine q_t 14 (e:=c_7) (x:=by apply h0a; exact rfl; exact rfl; (focus (apply h0n Try.underlying30 h0r; omega; omega; exact c_1))) (h:=?_)) <;> (try refine q_r 15 ?_; (apply h0f (t:=22); exact rfl; exact rfl; exact fd0; exact rfl; exact rfl; kernel_rfl; (focus (omega)); exact h2q; (try simp only [List.set_cons_succ]); (try simp only [List.set_cons_zero])); refine h0s c_7 ?_) <;> (try refine q_t 16 (e:=c_7) (x:=by apply h0a; exact rfl; exact rfl; (focus (apply h0n Try.underlying30 h0r; omega; omega; exact c_1))) (h:=?_)) <;> (try refine q_r 17 ?_; (apply h0f (t:=22); exact rfl; exact rfl; exact fd0; exact rfl; exact rfl; kernel_rfl; (focus (simp; omega)); exact h2q; (try simp only [List.set_cons_succ]); (try simp only [List.set_cons_zero])); refine h0s c_7 ?_) <;> (try refine h0q (by kernel_rfl) ?_)))))) | (refine gR 5 (q_m ?_) <;> (try refine q_e (q_b (r:=by apply h1c; exact c_6; (focus (refine IntWalk.i64_in _ ?_; omega)))) ?_) <;> (try refine p_a (h:=h0b ?_))) | (refine gR 2 (q_m ?_) <;> (try refine q_e (q_b (r:=by apply h0u; exact c_6; (focus (refine IntWalk.i64_in _ ?_; omega)))) ?_) <;> (try refine p_a (h:=h0b ?_))) | ((refine h2w rfl (fun hc => ?_) (fun hc => ?_)) <;> (try subst hc)))
   all_goals first
    | (rw [h2f j (j - 1) (by omega) (by omega) rfl (by omega)]; refine h0p (j - 1, swp m j (j - 1)) ⟨⟨⟨by simp; omega, by simp; omega⟩, h3.trans (.swp (by omega) (by omega) (by omega)), h4.step (by omega) (by omega) hc⟩, by simp; omega⟩ (by (focus (repeat (first | exact Sub.nil | refine Sub.cons rfl ?_ | (refine Sub.cons (congrArg some ?_) ?_; (focus go_num)))))) (fun _ H => H))
    | (refine h0p (i + 1, m) ⟨⟨by simp; omega, by simp; omega, h3, h4.stop (by omega) (.inr (by omega))⟩, by simp; omega⟩ (by (focus (repeat (first | exact Sub.nil | refine Sub.cons rfl ?_)))) (fun _ H => H))
  ·repeat' (first | refine h0j ?_ | refine h0d ?_ | refine h0m ?_ | refine h1l ?_ | refine h0z ?_ | refine h0x ?_ | refine h1i ?_ | refine h1u ?_ | refine h0g rfl ?_ | ((refine h1h (id:=4) (m:=15) (by kernel_rfl) rfl (q_u 0 (x:=by exact h0c rfl) (h:=q_u 1 (x:=by exact h0c rfl) (h:=q_u 2 (x:=by exact q_b (r:=by exact rb_gtr_f q_o)) (h:=q_u 3 (x:=by exact h0c rfl) (h:=?_)))))) <;> (try apply h0o (i:=4); exact rfl; kernel_rfl; kernel_rfl; kernel_rfl; exact rfl; (exact fun _ H => H); exact h2a rfl rfl rfl) <;> (try apply h0o (i:=5); exact rfl; kernel_rfl; kernel_rfl; kernel_rfl; exact rfl; (exact fun _ H => H); exact h2a rfl rfl rfl) <;> (try apply h0o (i:=6); exact rfl; kernel_rfl; kernel_rfl; kernel_rfl; exact rfl; (exact fun _ H => H); exact h2a rfl rfl rfl) <;> (try apply h0o (i:=7); exact rfl; kernel_rfl; kernel_rfl; kernel_rfl; exact rfl; (exact fun _ H => H); exact h2a rfl rfl rfl) <;> (try apply h0o (i:=8); exact rfl; kernel_rfl; kernel_rfl; kernel_rfl; exact rfl; (exact fun _ H => H); exact h2a rfl rfl rfl) <;> (try apply h0o (i:=9); exact rfl; kernel_rfl; kernel_rfl; kernel_rfl; exact rfl; (exact fun _ H => H); exact h2a rfl rfl rfl) <;> (try apply h0o (i:=10); exact rfl; kernel_rfl; kernel_rfl; kernel_rfl; exact rfl; (exact fun _ H => H); exact h2a rfl rfl rfl) <;> (try apply h0o (i:=11); exact rfl; kernel_rfl; kernel_rfl; kernel_rfl; exact rfl; (exact fun _ H => H); exact h2a rfl rfl rfl) <;> (try apply h0o (i:=12); exact rfl; kernel_rfl; kernel_rfl; kernel_rfl; exact rfl; (exact fun _ H => H); exact h2a rfl rfl rfl) <;> (try refine q_r 13 ?_; (refine h2m rfl rfl rfl rfl ?_); refine h0s (fun _ H => H) ?_) <;> (try refine q_u 14 (x:=by exact h2g rfl rfl) (h:=h0q (by kernel_rfl) ?_))) | (refine gR 2 (q_m ?_) <;> (try refine q_e (q_b (r:=by apply h0u; exact c_6; (focus (refine IntWalk.i64_in _ ?_; omega)))) ?_) <;> (try refine p_a (h:=h0b ?_))))
   refine h0p (i + 1, m) ⟨⟨by simp; omega, by simp; omega, h3, h4.stop (by omega) (.inl (by omega))⟩, by simp; omega⟩ (by (focus (repeat (first | exact Sub.nil | refine Sub.cons rfl ?_)))) (fun _ H => H)
 ·repeat' (first | refine h0j ?_ | refine h0d ?_ | refine h1l ?_ | refine h0z ?_ | refine h1i ?_ | refine h1u ?_ | refine h0g rfl ?_ | (refine gR 1 (p_m (h:=p_m (h:=p_e (q_b (r:=by exact h2i q_o)) (h:=h0b ?_))))))
  (first | refine h1b Try.results18 .nil ?_ | refine h2u Try.results18 .nil ?_)
  exact ⟨_, ⟨rfl, m, h3, h4.less (by omega), rfl⟩, fun _ H => H⟩
def bl8 (x : Nat) : Nat := if x = 0 then 0 else Nat.log2 x + 1
def lenTab : ByteArray := ⟨((List.range 256).map fun x => UInt8.ofNat (bl8 x)).toArray⟩
theorem lenTab_get {x : Nat} (h : x < 256) : lenTab[x]? = some (UInt8.ofNat (bl8 x)) := by
 have e : lenTab.size = 256 := by simp [lenTab, ByteArray.size]
 rw [getElem?_pos lenTab x (by omega)]
 simp [lenTab, ByteArray.getElem_eq_getElem_data]
theorem bl8_le : ∀ x : Fin 256, bl8 x ≤ 8 ∧ (x.1 ≠ 0 → 2 ^ bl8 x ≤ 2 * x.1 ∧ x.1 < 2 ^ bl8 x) := by decide +kernel
theorem r_len8 {P : Program} {t : TypeId} {k : IntKind} {bs : ByteArray} (hb : bs = lenTab) {x : Nat} (h : x < 256) (ht : P.underlying t = some .string) : RIdx P t (.string bs) (.int k (x : Nat)) (.int .u8 (bl8 x : Nat)) := by
 have e := lenTab_get h
 rw [← hb] at e
 have e2 := r_ixstr (P:=P) (k:=k) (a:=(x : Int)) ht (by omega) (by rw [Int.toNat_natCast]; exact e)
 have e3 := (bl8_le ⟨x, h⟩).1
 dsimp only at e3
 rwa [show (UInt8.ofNat (bl8 x)).toNat = bl8 x by simp; omega] at e2
theorem len64_c {S w0 L} (z : Int) (x : Nat) (hz : z = (x : Nat)) (hx : x < 256) : Fn Try.prog 28 #[.int .u64 z] S w0 L fun v L' => v = .int .i64 (bl8 x : Nat) ∧ L = L' := by
 subst hz
 refine Fn1 Try.func28 Try.ntmps28 rfl rfl ?_
 have hb := (bl8_le ⟨x, hx⟩).1
 dsimp only at hb
 repeat' (first | refine h0j ?_ | refine h0d ?_ | refine h0t ?_ | refine h0g rfl ?_ | (refine gR 0 (p_a (h:=h0b ?_))) | (refine gR 1 (p_m (h:=p_e (q_b (r:=by exact h2n q_o)) (h:=h0b ?_)))) | (refine gR 4 (p_m (h:=p_e (q_b (r:=by exact h2n q_o)) (h:=h0b ?_)))) | (refine gR 7 (p_m (h:=p_e (q_b (r:=by exact h2n q_o)) (h:=h0b ?_)))) | (refine gR 10 (p_m (h:=q_m ?_)) <;> (try refine q_e (by apply E_conv; exact rfl; (focus (apply r_conv Try.underlying64 Try.underlying5; first | (refine IntWalk.i64_in _ ?_; omega) | (refine IntWalk.u8_in _ ?_; omega) | (refine IntWalk.u16_in _ ?_; omega) | (refine IntWalk.u32_in _ ?_; omega) | (refine IntWalk.u64_in _ ?_; omega) | (refine IntWalk.i32_in _ ?_; omega) | exact rfl))) ?_) <;> (try refine h0i ?_; fail) <;> (try refine h0i ?_; fail) <;> (try refine h0i ?_; fail) <;> (try refine h0i ?_; fail) <;> (try refine h0b ?_)))
 refine h0i ?_
 (refine q_k (by apply E_index; exact rfl; exact rfl; exact r_len8 (by kernel_rfl) hx Try.underlying9) ?_)
 refine h0i ?_
 (refine q_k (by apply E_conv; exact rfl; (focus (apply r_conv Try.underlying5 Try.underlying3; first | (refine IntWalk.i64_in _ ?_; omega) | (refine IntWalk.u8_in _ ?_; omega) | (refine IntWalk.u16_in _ ?_; omega) | (refine IntWalk.u32_in _ ?_; omega) | (refine IntWalk.u64_in _ ?_; omega) | (refine IntWalk.i32_in _ ?_; omega) | exact rfl))) ?_)
 refine h0i ?_
 (refine q_k (by exact q_b (r:=by apply h0u; exact c_6; (focus (first | (refine IntWalk.i64_in _ ?_; omega) | (refine IntWalk.u8_in _ ?_; omega) | (refine IntWalk.u16_in _ ?_; omega) | (refine IntWalk.u32_in _ ?_; omega) | (refine IntWalk.u64_in _ ?_; omega) | (refine IntWalk.i32_in _ ?_; omega) | exact rfl)))) ?_)
 refine h0i ?_
 (refine q_k (E_assign rfl) ?_)
 refine h0b ?_
 repeat' (first | refine h0d ?_ | refine h1y ?_)
 (refine h1b Try.results28 (.tmp rfl .nil) ?_)
 exact ⟨_, ⟨by simp [tupleOf], rfl⟩, by intro w H; refine H.sub ?_; (try simp only [zzC, zzN]); repeat (exact List.Sublist.refl _)⟩
theorem bitLen_c {S w0 L} (z : Int) (x : Nat) (hz : z = (x : Nat)) (hx : x < 256) : Fn Try.prog 17 #[.int .u64 z] S w0 L fun v L' => v = .int .i64 (bl8 x : Nat) ∧ L = L' := by
 subst hz
 refine Fn1 Try.func17 Try.ntmps17 rfl rfl ?_
 repeat' (first | refine h0j ?_ | refine h0d ?_ | refine h0t ?_ | refine h1y ?_ | refine h0g rfl ?_ | (refine gR 0 (p_a (h:=h0b ?_))) | (refine gR 2 (q_m ?_) <;> (try refine h0i ?_; (refine h0v (F:=28) (by kernel_rfl) rfl rfl (len64_c _ x rfl hx) ?_; rintro _ _ ⟨rfl, rfl⟩)) <;> (try refine p_a (h:=h0b ?_))))
 (refine h1b Try.results17 (.tmp rfl .nil) ?_)
 exact ⟨_, ⟨rfl, rfl⟩, by intro w H; refine H.sub ?_; (try simp only [zzC, zzN]); repeat (exact List.Sublist.refl _)⟩
theorem pow2_c {S w0 L} (z : Int) (x : Nat) (hz : z = (x : Nat)) (hx : x < 256) : Fn Try.prog 30 #[.int .i64 z] S w0 L fun v L' => v = .int .u64 (2 ^ bl8 x : Nat) ∧ L = L' := by
 subst hz
 have hb := (bl8_le ⟨x, hx⟩).1
 dsimp only at hb
 have h2 : (2 : Nat) ^ bl8 x ≤ 2 ^ 8 := Nat.pow_le_pow_right (by omega) hb
 have h3 : IntKind.u64.wrap (1 * 2 ^ (min ((bl8 x : Nat) : Int).toNat 64)) = ((2 ^ bl8 x : Nat) : Int) := by
  have e : (2 : Int) ^ bl8 x = ((2 ^ bl8 x : Nat) : Int) := by simp
  rw [Int.toNat_natCast, Nat.min_eq_left (by omega), Int.one_mul, e]
  generalize 2 ^ bl8 x = m at *
  exact IntWalk.u64_in _ (by omega)
 refine Fn1 Try.func30 Try.ntmps30 rfl rfl ?_
 repeat' (first | refine h0j ?_ | refine h0d ?_ | refine h1y ?_ | (refine gR 0 (p_a (h:=h0b ?_))) | (refine gR 1 (q_m ?_) <;> (try refine q_e (by apply E_conv; exact rfl; (focus (apply r_conv Try.underlying3 Try.underlying51; first | (refine IntWalk.i64_in _ ?_; omega) | (refine IntWalk.u8_in _ ?_; omega) | (refine IntWalk.u16_in _ ?_; omega) | (refine IntWalk.u32_in _ ?_; omega) | (refine IntWalk.u64_in _ ?_; omega) | (refine IntWalk.i32_in _ ?_; omega) | exact rfl))) ?_) <;> (try refine h0i ?_; (refine h0v (F:=17) (by kernel_rfl) rfl rfl (bitLen_c _ x rfl hx) ?_; rintro _ _ ⟨rfl, rfl⟩)) <;> (try refine p_e (q_b (r:=by apply rb_shl; omega; (focus (simp only [IntKind.bits]; exact rfl)))) (h:=p_a (h:=h0b ?_)))))
 (refine h1b Try.results30 (.tmp rfl .nil) ?_)
 exact ⟨_, ⟨by rw [h3]; rfl, rfl⟩, by intro w H; refine H.sub ?_; (try simp only [zzC, zzN]); repeat (exact List.Sublist.refl _)⟩
theorem u64_rng (a : Int) : 0 ≤ IntKind.u64.wrap a ∧ IntKind.u64.wrap a < 18446744073709551616 := by
 rw [IntKind.wrap_u64]; omega
theorem xor_rng {a b : Int} (ha : 0 ≤ a ∧ a < 18446744073709551616) (hb : 0 ≤ b ∧ b < 18446744073709551616) : 0 ≤ ixor a b ∧ ixor a b < 18446744073709551616 := ixor_lt a b 64 ha hb
theorem shr_rng {a : Int} {k : Nat} (ha : 0 ≤ a ∧ a < 18446744073709551616) : 0 ≤ a.fdiv (2 ^ k) ∧ a.fdiv (2 ^ k) < 18446744073709551616 := by
 have h : (0 : Int) < 2 ^ k := Int.pow_pos (by omega)
 rw [Int.fdiv_eq_ediv_of_nonneg _ (by omega)]
 have h1 := Int.ediv_nonneg ha.1 (Int.le_of_lt h)
 have h2 := Int.ediv_le_self (2 ^ k) ha.1
 omega
abbrev xsB (b : Nat) (s : Int) : Blk := ⟨true, b, .cells #[.int .u64 s] 65 (0, 0)⟩
theorem xnext_c {S w0 L} (b : Nat) (s : Int) (hs : 0 ≤ s ∧ s < 18446744073709551616) : Fn Try.prog 31 #[.pointer (some ⟨b, 0, none⟩)] S w0 (xsB b s :: L) fun v L' => ∃ s', (0 ≤ s' ∧ s' < 18446744073709551616) ∧ v = .int .u64 s' ∧ xsB b s' :: L = L' := by
 refine Fn1 Try.func31 Try.ntmps31 rfl rfl ?_
 have w1 := u64_rng (s * 2 ^ min (Int.toNat 13) 64)
 have hs1 := xor_rng hs w1
 repeat' (first | (refine h1t (id:=2) ?_) | refine h0j ?_ | refine h0d ?_ | (refine gR 0 (p_a (h:=h0b ?_))) | ((apply h1a (i:=0) (id:=1) (m:=10); exact c_9; kernel_rfl; exact rfl) <;> (try refine q_t 0 (e:=c_7) (x:=by exact h0c rfl) (h:=q_t 1 (e:=c_7) (x:=by exact h1r rfl) (h:=q_t 3 (e:=c_7) (x:=by exact h0c rfl) (h:=q_t 4 (e:=c_7) (x:=by exact h1r rfl) (h:=?_))))) <;> (try refine h1s (i:=2) (j:=5) rfl rfl (by kernel_rfl) ?_ ?_ <;> (first | (refine TagA.mk ?_; (((refine q_k q_l ?_); refine h0s c_7 ?_) <;> (try refine q_r 5 ?_; (refine q_k q_l ?_); refine h0s c_7 ?_) <;> (try refine q_t 6 (e:=c_7) (x:=by exact q_b (r:=by apply rb_shl; omega; (focus (simp only [IntKind.bits]; exact rfl)))) (h:=?_)) <;> (try refine q_t 7 (e:=c_7) (x:=by exact q_b (r:=by refine rb_xor ?_ ?_; (focus (refine ⟨rfl, ⟨?_, ?_⟩⟩; omega; (focus (simp only [IntKind.bits]; omega)))); (focus (refine ⟨rfl, ⟨?_, ?_⟩⟩; omega; (focus (simp only [IntKind.bits]; omega)))))) (h:=?_)) <;> (try refine q_t 8 (e:=c_7) (x:=by exact h1r rfl) (h:=?_)) <;> (try refine q_r 9 ?_; (refine q_S ?_); refine h0s c_7 ?_) <;> (try refine h0q (by kernel_rfl) ?_))) | (refine TagB.mk ?_; (((refine q_k q_l ?_); refine h0s c_7 ?_) <;> (try refine q_t 6 (e:=c_7) (x:=by exact q_b (r:=by apply rb_shl; omega; (focus (simp only [IntKind.bits]; exact rfl)))) (h:=?_)) <;> (try refine q_r 2 ?_; (refine q_k q_l ?_); refine h0s c_7 ?_) <;> (try refine q_t 7 (e:=c_7) (x:=by exact q_b (r:=by refine rb_xor ?_ ?_; (focus (refine ⟨rfl, ⟨?_, ?_⟩⟩; omega; (focus (simp only [IntKind.bits]; omega)))); (focus (refine ⟨rfl, ⟨?_, ?_⟩⟩; omega; (focus (simp only [IntKind.bits]; omega)))))) (h:=?_)) <;> (try refine q_t 8 (e:=c_7) (x:=by exact h1r rfl) (h:=?_)) <;> (try refine q_r 9 ?_; (refine q_S ?_); refine h0s c_7 ?_) <;> (try refine h0q (by kernel_rfl) ?_)))))))
 all_goals
  refine ⟨?_⟩
  generalize ixor s (IntKind.u64.wrap (s * 2 ^ min (Int.toNat 13) 64)) = s1 at *
  clear w1
  have w2 := shr_rng (k:=min (Int.toNat 7) 64) hs1
  have hs2 := xor_rng hs1 w2
  repeat' (first | (refine h1t (id:=3) ?_) | refine h0j ?_ | refine h0d ?_ | ((apply h1a (i:=0) (id:=2) (m:=10); exact c_9; kernel_rfl; exact rfl) <;> (try refine q_t 0 (e:=c_7) (x:=by exact h0c rfl) (h:=q_t 1 (e:=c_7) (x:=by exact h1r rfl) (h:=q_t 3 (e:=c_7) (x:=by exact h0c rfl) (h:=q_t 4 (e:=c_7) (x:=by exact h1r rfl) (h:=?_))))) <;> (try refine h1s (i:=2) (j:=5) rfl rfl (by kernel_rfl) ?_ ?_ <;> (first | (refine TagA.mk ?_; (((refine q_k q_l ?_); refine h0s c_7 ?_) <;> (try refine q_r 5 ?_; (refine q_k q_l ?_); refine h0s c_7 ?_) <;> (try refine q_t 6 (e:=c_7) (x:=by exact q_b (r:=by apply rb_shr; omega; (focus (simp only [IntKind.bits]; exact rfl)))) (h:=?_)) <;> (try refine q_t 7 (e:=c_7) (x:=by exact q_b (r:=by refine rb_xor ?_ ?_; (focus (refine ⟨rfl, ⟨?_, ?_⟩⟩; omega; (focus (simp only [IntKind.bits]; omega)))); (focus (refine ⟨rfl, ⟨?_, ?_⟩⟩; omega; (focus (simp only [IntKind.bits]; omega)))))) (h:=?_)) <;> (try refine q_t 8 (e:=c_7) (x:=by exact h1r rfl) (h:=?_)) <;> (try refine q_r 9 ?_; (refine q_S ?_); refine h0s c_7 ?_) <;> (try refine h0q (by kernel_rfl) ?_))) | (refine TagB.mk ?_; (((refine q_k q_l ?_); refine h0s c_7 ?_) <;> (try refine q_t 6 (e:=c_7) (x:=by exact q_b (r:=by apply rb_shr; omega; (focus (simp only [IntKind.bits]; exact rfl)))) (h:=?_)) <;> (try refine q_r 2 ?_; (refine q_k q_l ?_); refine h0s c_7 ?_) <;> (try refine q_t 7 (e:=c_7) (x:=by exact q_b (r:=by refine rb_xor ?_ ?_; (focus (refine ⟨rfl, ⟨?_, ?_⟩⟩; omega; (focus (simp only [IntKind.bits]; omega)))); (focus (refine ⟨rfl, ⟨?_, ?_⟩⟩; omega; (focus (simp only [IntKind.bits]; omega)))))) (h:=?_)) <;> (try refine q_t 8 (e:=c_7) (x:=by exact h1r rfl) (h:=?_)) <;> (try refine q_r 9 ?_; (refine q_S ?_); refine h0s c_7 ?_) <;> (try refine h0q (by kernel_rfl) ?_)))))))
 all_goals
  refine ⟨?_⟩
  generalize ixor s1 (s1.fdiv (2 ^ min (Int.toNat 7) 64)) = s2 at *
  clear w2 hs1 hs
  have w3 := u64_rng (s2 * 2 ^ min (Int.toNat 17) 64)
  have hs3 := xor_rng hs2 w3
  repeat' (first | refine h0j ?_ | refine h0d ?_ | refine h1y ?_ | ((apply h1a (i:=0) (id:=3) (m:=10); exact c_9; kernel_rfl; exact rfl) <;> (try refine q_t 0 (e:=c_7) (x:=by exact h0c rfl) (h:=q_t 1 (e:=c_7) (x:=by exact h1r rfl) (h:=q_t 3 (e:=c_7) (x:=by exact h0c rfl) (h:=q_t 4 (e:=c_7) (x:=by exact h1r rfl) (h:=?_))))) <;> (try refine h1s (i:=2) (j:=5) rfl rfl (by kernel_rfl) ?_ ?_ <;> (first | (refine TagA.mk ?_; (((refine q_k q_l ?_); refine h0s c_7 ?_) <;> (try refine q_r 5 ?_; (refine q_k q_l ?_); refine h0s c_7 ?_) <;> (try refine q_t 6 (e:=c_7) (x:=by exact q_b (r:=by apply rb_shl; omega; (focus (simp only [IntKind.bits]; exact rfl)))) (h:=?_)) <;> (try refine q_t 7 (e:=c_7) (x:=by exact q_b (r:=by refine rb_xor ?_ ?_; (focus (refine ⟨rfl, ⟨?_, ?_⟩⟩; omega; (focus (simp only [IntKind.bits]; omega)))); (focus (refine ⟨rfl, ⟨?_, ?_⟩⟩; omega; (focus (simp only [IntKind.bits]; omega)))))) (h:=?_)) <;> (try refine q_t 8 (e:=c_7) (x:=by exact h1r rfl) (h:=?_)) <;> (try refine q_r 9 ?_; (refine q_S ?_); refine h0s c_7 ?_) <;> (try refine h0q (by kernel_rfl) ?_))) | (refine TagB.mk ?_; (((refine q_k q_l ?_); refine h0s c_7 ?_) <;> (try refine q_t 6 (e:=c_7) (x:=by exact q_b (r:=by apply rb_shl; omega; (focus (simp only [IntKind.bits]; exact rfl)))) (h:=?_)) <;> (try refine q_r 2 ?_; (refine q_k q_l ?_); refine h0s c_7 ?_) <;> (try refine q_t 7 (e:=c_7) (x:=by exact q_b (r:=by refine rb_xor ?_ ?_; (focus (refine ⟨rfl, ⟨?_, ?_⟩⟩; omega; (focus (simp only [IntKind.bits]; omega)))); (focus (refine ⟨rfl, ⟨?_, ?_⟩⟩; omega; (focus (simp only [IntKind.bits]; omega)))))) (h:=?_)) <;> (try refine q_t 8 (e:=c_7) (x:=by exact h1r rfl) (h:=?_)) <;> (try refine q_r 9 ?_; (refine q_S ?_); refine h0s c_7 ?_) <;> (try refine h0q (by kernel_rfl) ?_)))))) | (refine gR 4 (p_m (h:=p_n (h:=p_e q_l (h:=p_a (h:=h0b ?_)))))))
 all_goals
  (refine h1b Try.results31 (.tmp rfl .nil) ?_)
  exact ⟨_, ⟨_, hs3, rfl, rfl⟩, by intro w H; refine H.sub ?_; (try simp only [zzC, zzN]); repeat (exact List.Sublist.refl _)⟩
abbrev swBH (b : Nat) (s : Int) : Blk := ⟨true, b, .cells #[.int .i64 s] 3 (0, 0)⟩
theorem ordH_c {S w0 L} (b n cap sb : Nat) (r : List Value) (l : List Int) (s : Int) (x y : Int) (p q : Nat) (hp : x = (p : Nat)) (hq : y = (q : Nat)) (hl : l.length = n) (hn : n ≤ 255) (hpn : p < n) (hqn : q < n) (hs : 0 ≤ s ∧ s ≤ 100) :
  Fn Try.prog 35 #[.slice (some ⟨b, 0, none⟩) n cap, .int .i64 x, .int .i64 y, .pointer (some ⟨sb, 0, none⟩)] S w0 (swBH sb s :: h2y b l r :: L) fun v L' => ∃ s' p' q' : Nat, v = .tuple #[.int .i64 (p' : Nat), .int .i64 (q' : Nat)] ∧ (p' = p ∧ q' = q ∨ p' = q ∧ q' = p) ∧ (s ≤ s' ∧ s' ≤ s + 1) ∧ swBH sb s' :: h2y b l r :: L = L' := by
 subst hp hq
 obtain ⟨s, rfl⟩ : ∃ m : Nat, s = m := ⟨s.toNat, by omega⟩
 have g1 := h0y (l:=l) (r:=r) (k:=p) (by omega)
 have g2 := h0y (l:=l) (r:=r) (k:=q) (by omega)
 have g3 := h1v (l:=l) (r:=r)
 refine Fn4 Try.func35 Try.ntmps35 rfl rfl ?_
 repeat' (first | refine h0j ?_ | refine h0d ?_ | refine h2c ?_ | refine h0t ?_ | refine h1y ?_ | (refine gR 0 (p_a (h:=p_a (h:=h0b ?_)))) | ((refine h1h (id:=1) (m:=9) (by kernel_rfl) rfl (q_u 0 (x:=by exact h0c rfl) (h:=q_u 1 (x:=by exact h0c rfl) (h:=q_u 2 (x:=by apply h0a; exact rfl; exact rfl; (focus (apply h0n Try.underlying30 h0r; omega; omega; exact c_1))) (h:=q_u 3 (x:=by apply h0e (t:=22); exact rfl; exact h2j; kernel_rfl; kernel_rfl; (with_reducible assumption)) (h:=q_u 4 (x:=by exact h0c rfl) (h:=q_u 5 (x:=by exact h0c rfl) (h:=q_u 6 (x:=by apply h0a; exact rfl; exact rfl; (focus (apply h0n Try.underlying30 h0r; omega; omega; exact c_1))) (h:=q_u 7 (x:=by apply h0e (t:=22); exact rfl; exact h2j; kernel_rfl; kernel_rfl; (with_reducible assumption)) (h:=?_)))))))))) <;> (try refine q_r 8 ?_; (refine h0v (F:=24) (by kernel_rfl) rfl rfl (h3b _ _) ?_; rintro _ _ ⟨rfl, rfl⟩); refine h0s (fun _ H => H) ?_) <;> (try refine h0q (by kernel_rfl) ?_)) | (refine gR 2 (p_m (h:=p_n (h:=q_e q_l ?_))) <;> (try refine q_e (q_b (r:=by apply h0u; exact c_6; (focus (refine IntWalk.i64_in _ ?_; omega)))) ?_) <;> (try refine q_n ?_) <;> (try refine h0i ?_; (refine q_S ?_)) <;> (try refine h0b ?_)) | (refine gR 3 (p_m (h:=p_m (h:=p_a (h:=p_a (h:=h0b ?_)))))) | (refine gR 4 (p_m (h:=p_m (h:=p_a (h:=p_a (h:=h0b ?_)))))) | ((refine h2w rfl (fun hc => ?_) (fun hc => ?_)) <;> (try subst hc)))
 ·(refine h1b Try.results35 (.tmp rfl (.tmp rfl .nil)) ?_)
  exact ⟨_, ⟨s + 1, q, p, rfl, .inr ⟨rfl, rfl⟩, by omega, rfl⟩, by intro w H; refine H.sub ?_; (try simp only [zzC, zzN]); repeat (exact List.Sublist.refl _)⟩
 ·(refine h1b Try.results35 (.tmp rfl (.tmp rfl .nil)) ?_)
  exact ⟨_, ⟨s, p, q, rfl, .inl ⟨rfl, rfl⟩, by omega, rfl⟩, by intro w H; refine H.sub ?_; (try simp only [zzC, zzN]); repeat (exact List.Sublist.refl _)⟩
theorem medH_c {S w0 L} (b n cap sb : Nat) (r : List Value) (l : List Int) (s : Int) (x y z : Int) (p q u : Nat) (hp : x = (p : Nat)) (hq : y = (q : Nat)) (hu : z = (u : Nat)) (hl : l.length = n) (hn : n ≤ 255) (hpn : p < n) (hqn : q < n) (hun : u < n) (hs : 0 ≤ s ∧ s ≤ 50) :
  Fn Try.prog 33 #[.slice (some ⟨b, 0, none⟩) n cap, .int .i64 x, .int .i64 y, .int .i64 z, .pointer (some ⟨sb, 0, none⟩)] S w0 (swBH sb s :: h2y b l r :: L) fun v L' => ∃ s' p' : Nat, v = .int .i64 (p' : Nat) ∧ (p' = p ∨ p' = q ∨ p' = u) ∧ (s ≤ s' ∧ s' ≤ s + 3) ∧ swBH sb s' :: h2y b l r :: L = L' := by
 subst hp hq hu
 refine Fn5 Try.func33 Try.ntmps33 rfl rfl ?_
 repeat' (first | (refine h1t (id:=2) ?_) | refine h0j ?_ | refine h0d ?_ | (refine gR 0 (p_a (h:=h0b ?_))) | (refine gR 1 (p_m (h:=p_m (h:=p_m (h:=q_m ?_)))) <;> (try refine h0i ?_; (refine h0v (F:=35) (by kernel_rfl) rfl rfl (ordH_c b n cap sb r l _ _ _ p q rfl rfl hl hn hpn hqn (by omega)) ?_; rintro _ _ ⟨s1, p1, q1, rfl, h1, k1, rfl⟩)) <;> (try refine p_m (h:=p_x (h:=p_x (h:=p_a (h:=p_a (h:=h0b ?_))))))))
 refine ⟨?_⟩
 repeat' (first | (refine h1t (id:=3) ?_) | refine h0j ?_ | refine h0d ?_ | (refine gR 2 (p_m (h:=p_m (h:=p_m (h:=q_m ?_)))) <;> (try refine h0i ?_; (refine h0v (F:=35) (by kernel_rfl) rfl rfl (ordH_c b n cap sb r l _ _ _ q1 u rfl rfl hl hn (by omega) hun (by omega)) ?_; rintro _ _ ⟨s2, p2, q2, rfl, h2, k2, rfl⟩)) <;> (try refine p_m (h:=p_x (h:=p_x (h:=p_a (h:=p_a (h:=h0b ?_))))))))
 refine ⟨?_⟩
 repeat' (first | refine h0j ?_ | refine h0d ?_ | refine h1y ?_ | (refine gR 3 (p_m (h:=p_m (h:=p_m (h:=q_m ?_)))) <;> (try refine h0i ?_; (refine h0v (F:=35) (by kernel_rfl) rfl rfl (ordH_c b n cap sb r l _ _ _ p1 p2 rfl rfl hl hn (by omega) (by omega) (by omega)) ?_; rintro _ _ ⟨s3, p3, q3, rfl, h3, k3, rfl⟩)) <;> (try refine p_m (h:=p_x (h:=p_x (h:=p_a (h:=p_a (h:=h0b ?_))))))) | (refine gR 4 (p_m (h:=p_a (h:=h0b ?_)))))
 (refine h1b Try.results33 (.tmp rfl .nil) ?_)
 exact ⟨_, ⟨s3, q3, rfl, by omega, by omega, rfl⟩, by intro w H; refine H.sub ?_; (try simp only [zzC, zzN]); repeat (exact List.Sublist.refl _)⟩
theorem madH_c {S w0 L} (b n cap sb : Nat) (r : List Value) (l : List Int) (s : Int) (x : Int) (p : Nat) (hp : x = (p : Nat)) (hl : l.length = n) (hn : n ≤ 255) (hpn : 1 ≤ p ∧ p + 1 < n) (hs : 0 ≤ s ∧ s ≤ 50) :
  Fn Try.prog 32 #[.slice (some ⟨b, 0, none⟩) n cap, .int .i64 x, .pointer (some ⟨sb, 0, none⟩)] S w0 (swBH sb s :: h2y b l r :: L) fun v L' => ∃ s' p' : Nat, v = .int .i64 (p' : Nat) ∧ (p - 1 ≤ p' ∧ p' ≤ p + 1) ∧ (s ≤ s' ∧ s' ≤ s + 3) ∧ swBH sb s' :: h2y b l r :: L = L' := by
 subst hp
 refine Fn3 Try.func32 Try.ntmps32 rfl rfl ?_
 repeat' (first | refine h0j ?_ | refine h0d ?_ | refine h1y ?_ | (refine gR 0 (p_a (h:=h0b ?_))) | (refine gR 1 (p_m (h:=q_m ?_)) <;> (try refine q_e (q_b (r:=by apply h1c; exact c_6; (focus (refine IntWalk.i64_in _ ?_; omega)))) ?_) <;> (try refine p_m (h:=q_m ?_)) <;> (try refine q_e (q_b (r:=by apply h0u; exact c_6; (focus (refine IntWalk.i64_in _ ?_; omega)))) ?_) <;> (try refine q_m ?_) <;> (try refine h0i ?_; (refine h0v (F:=33) (by kernel_rfl) rfl rfl (medH_c b n cap sb r l _ _ _ _ (p - 1) p (p + 1) (by omega) rfl (by omega) hl hn (by omega) (by omega) (by omega) (by omega)) ?_; rintro _ _ ⟨s1, p1, rfl, h1, k1, rfl⟩)) <;> (try refine p_a (h:=h0b ?_))))
 (refine h1b Try.results32 (.tmp rfl .nil) ?_)
 exact ⟨_, ⟨s1, p1, rfl, by omega, by omega, rfl⟩, by intro w H; refine H.sub ?_; (try simp only [zzC, zzN]); repeat (exact List.Sublist.refl _)⟩
theorem pivH_c {S w0 L} (b n cap : Nat) (r : List Value) (l : List Int) (x y : Int) (a c : Nat) (hx : x = (a : Nat)) (hy : y = (c : Nat)) (hl : l.length = n) (hn : n ≤ 255) (hc : c ≤ n) (hac : a + 12 < c) :
  Fn Try.prog 21 #[.slice (some ⟨b, 0, none⟩) n cap, .int .i64 x, .int .i64 y] S w0 (h2y b l r :: L) fun v L' => ∃ p h : Nat, v = .tuple #[.int .i64 (p : Nat), .int .i64 (h : Nat)] ∧ (a ≤ p ∧ p < c) ∧ h ≤ 2 ∧ h2y b l r :: L = L' := by
 subst hx hy
 refine Fn3 Try.func21 Try.ntmps21 rfl rfl ?_
 repeat' (first | (refine G_markc (t:=34) ?_) | refine h0j ?_ | refine h0d ?_ | refine h0l rfl ?_ | (refine gR 0 (p_a (h:=p_a (h:=h0b ?_)))) | (refine gR 1 (p_m (h:=q_m ?_)) <;> (try refine q_e (q_b (r:=by apply h1c; exact c_6; (focus (refine IntWalk.i64_in _ ?_; omega)))) ?_) <;> (try refine p_a (h:=h0b ?_))) | (refine gR 2 ?_ <;> (try refine h0i ?_; (refine h1w (t:=3) rfl Try.zeroValue3 ?_; intro nb hnb; (try simp only [Value.cells]))) <;> (try refine h0b ?_)) | (refine gR 3 (p_m (h:=q_m ?_)) <;> (try refine q_e (q_b (r:=by apply rb_quo; omega; omega; exact c_6; (focus (refine IntWalk.i64_in _ ?_; omega)))) ?_) <;> (try refine q_e (q_b (r:=by apply rb_mul; exact c_6; (focus (refine IntWalk.i64_in _ ?_; omega)))) ?_) <;> (try refine q_e (q_b (r:=by apply h0u; exact c_6; (focus (refine IntWalk.i64_in _ ?_; omega)))) ?_) <;> (try refine p_a (h:=h0b ?_))) | (refine gR 4 (p_m (h:=q_m ?_)) <;> (try refine q_e (q_b (r:=by apply rb_quo; omega; omega; exact c_6; (focus (refine IntWalk.i64_in _ ?_; omega)))) ?_) <;> (try refine q_e (q_b (r:=by apply rb_mul; exact c_6; (focus (refine IntWalk.i64_in _ ?_; omega)))) ?_) <;> (try refine q_e (q_b (r:=by apply h0u; exact c_6; (focus (refine IntWalk.i64_in _ ?_; omega)))) ?_) <;> (try refine p_a (h:=h0b ?_))) | (refine gR 5 (p_m (h:=q_m ?_)) <;> (try refine q_e (q_b (r:=by apply rb_quo; omega; omega; exact c_6; (focus (refine IntWalk.i64_in _ ?_; omega)))) ?_) <;> (try refine q_e (q_b (r:=by apply rb_mul; exact c_6; (focus (refine IntWalk.i64_in _ ?_; omega)))) ?_) <;> (try refine q_e (q_b (r:=by apply h0u; exact c_6; (focus (refine IntWalk.i64_in _ ?_; omega)))) ?_) <;> (try refine p_a (h:=h0b ?_))) | (refine gR 6 (p_m (h:=p_e (q_b (r:=by exact h2t q_o)) (h:=h0b ?_)))) | (refine gR 7 (p_m (h:=p_e (q_b (r:=by exact rb_geq)) (h:=h0b ?_)))))
 refine ⟨?_⟩
 refine h2e (γ:=Nat × Nat × Nat × Nat) (fun g => (g.1 ≤ 9) ∧ (a ≤ g.2.1 ∧ g.2.1 < c) ∧ (a ≤ g.2.2.1 ∧ g.2.2.1 < c) ∧ (a ≤ g.2.2.2 ∧ g.2.2.2 < c)) (fun g => [(10, .int .i64 (g.2.1 : Nat)), (11, .int .i64 (g.2.2.1 : Nat)), (12, .int .i64 (g.2.2.2 : Nat))]) [(0, _), (9, _)]
  (fun g => swBH nb (g.1 : Nat) :: h2y b l r :: L) (.cons rfl (.cons rfl .nil)) ?_ ?_
 ·refine h2w rfl (fun hc => ?_) (fun hc => ?_)
  ·repeat' (first | (refine h1t (id:=9) ?_) | refine h0j ?_ | refine h0d ?_ | (refine gR 8 (p_m (h:=q_m ?_)) <;> (try refine h0i ?_; (refine h0v (F:=32) (by kernel_rfl) rfl rfl (madH_c b n cap nb r l _ _ (a + (c - a) / 4) (by omega) hl hn (by omega) (by omega)) ?_; rintro _ _ ⟨s1, p1, rfl, h1, k1, rfl⟩)) <;> (try refine p_a (h:=h0b ?_))))
   refine ⟨?_⟩
   repeat' (first | (refine h1t (id:=10) ?_) | refine h0d ?_ | (refine gR 9 (p_m (h:=q_m ?_)) <;> (try refine h0i ?_; (refine h0v (F:=32) (by kernel_rfl) rfl rfl (madH_c b n cap nb r l _ _ (a + (c - a) / 4 * 2) (by omega) hl hn (by omega) (by omega)) ?_; rintro _ _ ⟨s2, p2, rfl, h2, k2, rfl⟩)) <;> (try refine p_a (h:=h0b ?_))))
   refine ⟨?_⟩
   repeat' (first | refine h0m ?_ | (refine gR 10 (p_m (h:=q_m ?_)) <;> (try refine h0i ?_; (refine h0v (F:=32) (by kernel_rfl) rfl rfl (madH_c b n cap nb r l _ _ (a + (c - a) / 4 * 3) (by omega) hl hn (by omega) (by omega)) ?_; rintro _ _ ⟨s3, p3, rfl, h3, k3, rfl⟩)) <;> (try refine p_a (h:=h0b ?_))))
   refine h0p (s3, p1, p2, p3) ⟨by simp; omega, by simp; omega, by simp; omega, by simp; omega⟩ (by (focus (repeat (first | exact Sub.nil | refine Sub.cons rfl ?_)))) (fun _ H => H)
  ·repeat' (first | refine h0m ?_ | refine h0t ?_)
   refine h0p (0, a + (c - a) / 4, a + (c - a) / 4 * 2, a + (c - a) / 4 * 3) ⟨by simp, by simp; omega, by simp; omega, by simp; omega⟩ (by (focus (repeat (first | exact Sub.nil | refine Sub.cons rfl ?_ | (refine Sub.cons (congrArg some ?_) ?_; (focus go_num)))))) (fun _ H => H)
 rintro ⟨s0, i, j, k⟩ ⟨h0 : s0 ≤ 9, h1 : a ≤ i ∧ i < c, h2 : a ≤ j ∧ j < c, h3 : a ≤ k ∧ k < c⟩
 dsimp only [List.cons_append, List.nil_append]
 repeat' (first | refine h0j ?_ | refine h0d ?_ | refine h3c ?_ | refine h0k ?_ | refine h1y ?_ | (refine gR 11 (p_m (h:=p_m (h:=p_m (h:=q_m ?_)))) <;> (try refine h0i ?_; (refine h0v (F:=33) (by kernel_rfl) rfl rfl (medH_c b n cap nb r l _ _ _ _ i j k rfl rfl rfl hl hn (by omega) (by omega) (by omega) (by omega)) ?_; rintro _ _ ⟨s4, p4, rfl, h4, k4, rfl⟩)) <;> (try refine p_a (h:=h0b ?_))) | (refine gR 12 (p_e q_l (h:=h0b ?_))) | (refine gR 14 (p_e (q_b (r:=by exact rb_eql)) (h:=p_a (h:=h0b ?_)))) | (refine gR 15 (p_m (h:=p_a (h:=p_a (h:=h0b ?_))))) | (refine gR 16 (p_e (q_b (r:=by exact rb_eql)) (h:=p_a (h:=h0b ?_)))) | (refine gR 17 (p_m (h:=p_a (h:=p_a (h:=h0b ?_))))) | (refine gR 13 (p_m (h:=p_a (h:=p_a (h:=h0b ?_))))) | ((refine h2w rfl (fun hc => ?_) (fun hc => ?_)) <;> (try subst hc)))
 ·(refine h1b Try.results21 (.tmp rfl (.tmp rfl .nil)) ?_)
  exact ⟨_, ⟨p4, 1, rfl, by omega, by omega, rfl⟩, by intro w H; refine H.sub ?_; (try simp only [zzC, zzN]); repeat (first | exact List.Sublist.refl _ | refine List.Sublist.cons _ ?_)⟩
 ·(refine h1b Try.results21 (.tmp rfl (.tmp rfl .nil)) ?_)
  exact ⟨_, ⟨p4, 2, rfl, by omega, by omega, rfl⟩, by intro w H; refine H.sub ?_; (try simp only [zzC, zzN]); repeat (first | exact List.Sublist.refl _ | refine List.Sublist.cons _ ?_)⟩
 ·(refine h1b Try.results21 (.tmp rfl (.tmp rfl .nil)) ?_)
  exact ⟨_, ⟨p4, 0, rfl, by omega, by omega, rfl⟩, by intro w H; refine H.sub ?_; (try simp only [zzC, zzN]); repeat (first | exact List.Sublist.refl _ | refine List.Sublist.cons _ ?_)⟩
theorem revH_c {S w0 L} (b n cap : Nat) (r : List Value) (l : List Int) (x y : Int) (a c : Nat) (hx : x = (a : Nat)) (hy : y = (c : Nat)) (hl : l.length = n) (hn : n ≤ 255) (hcn : c ≤ n) (hac : a < c) :
  Fn Try.prog 22 #[.slice (some ⟨b, 0, none⟩) n cap, .int .i64 x, .int .i64 y] S w0 (h2y b l r :: L) fun v L' => v = .tuple #[] ∧ ∃ l', Sw a c l l' ∧ h2y b l' r :: L = L' := by
 subst hx hy
 refine Fn3 Try.func22 Try.ntmps22 rfl rfl ?_
 repeat' (first | refine h0j ?_ | refine h0d ?_ | refine h0k ?_ | (refine gR 0 (p_m (h:=p_a (h:=h0b ?_)))) | (refine gR 1 (q_m ?_) <;> (try refine q_e (q_b (r:=by apply h1c; exact c_6; (focus (refine IntWalk.i64_in _ ?_; omega)))) ?_) <;> (try refine p_a (h:=h0b ?_))))
 refine h1x (γ:=Nat × Nat × List Int) (fun g => a ≤ g.1 ∧ g.2.1 < c ∧ g.1 ≤ g.2.1 + 1 ∧ Sw a c l g.2.2) (fun g => g.2.1 + 1 - g.1) (fun g => [(6, .int .i64 (g.1 : Nat)), (7, .int .i64 (g.2.1 : Nat))]) [(0, _)]
  (fun g => h2y b g.2.2 r :: L) (a, c - 1, l) (.cons rfl .nil) ⟨by simp, by simp; omega, by simp; omega, .refl _ _ _⟩ (by (focus (repeat (first | exact Sub.nil | refine Sub.cons rfl ?_ | (refine Sub.cons (congrArg some ?_) ?_; (focus go_num)))))) (fun _ H => H) ?_
 rintro ⟨i, j, m⟩ ⟨h1 : a ≤ i, h2 : j < c, h3 : i ≤ j + 1, h4 : Sw a c l m⟩
 dsimp only [List.cons_append, List.nil_append]
 have hm := h4.len
 by_cases hlt : i < j
 ·have g1 := h0y (l:=m) (r:=r) (k:=i) (by omega)
  have g2 := h0y (l:=m) (r:=r) (k:=j) (by omega)
  have g3 := h1v (l:=m) (r:=r)
  repeat' (first | refine h0j ?_ | refine h0d ?_ | refine h0m ?_ | refine h0x ?_ | refine h0k ?_ | refine h0t ?_ | refine h0l rfl ?_ | (refine gR 2 (p_m (h:=p_m (h:=p_e (q_b (r:=by exact h2s q_o)) (h:=h0b ?_))))) | ((apply h1a (i:=0) (id:=3) (m:=16); exact c_9; kernel_rfl; exact rfl) <;> (try refine q_t 0 (e:=c_7) (x:=by exact h0c rfl) (h:=q_t 1 (e:=c_7) (x:=by exact h0c rfl) (h:=q_t 2 (e:=c_7) (x:=by exact h0c rfl) (h:=q_t 3 (e:=c_7) (x:=by exact h0c rfl) (h:=q_t 4 (e:=c_7) (x:=by exact h0c rfl) (h:=q_t 5 (e:=c_7) (x:=by exact h0c rfl) (h:=q_t 6 (e:=c_7) (x:=by apply h0a; exact rfl; exact rfl; (focus (apply h0n Try.underlying30 h0r; omega; omega; exact c_1))) (h:=q_t 8 (e:=c_7) (x:=by exact h0c rfl) (h:=q_t 9 (e:=c_7) (x:=by exact h0c rfl) (h:=q_t 10 (e:=c_7) (x:=by apply h0a; exact rfl; exact rfl; (focus (apply h0n Try.underlying30 h0r; omega; omega; exact c_1))) (h:=?_))))))))))) <;> (try refine h1s (i:=7) (j:=11) rfl rfl (by kernel_rfl) ?_ ?_ <;> (first | (refine TagA.mk ?_; (((refine q_k (by apply h0e (t:=22); exact rfl; exact fd0; kernel_rfl; kernel_rfl; (with_reducible assumption)) ?_); refine h0s c_7 ?_) <;> (try refine q_r 11 ?_; (refine q_k (by apply h0e (t:=22); exact rfl; exact fd0; kernel_rfl; kernel_rfl; (with_reducible assumption)) ?_); refine h0s c_7 ?_) <;> (try refine q_t 12 (e:=c_7) (x:=by apply h0a; exact rfl; exact rfl; (focus (apply h0n Try.underlying30 h0r; omega; omega; exact c_1))) (h:=?_)) <;> (try refine q_r 13 ?_; (apply h0f (t:=22); exact rfl; exact rfl; exact fd0; exact rfl; exact rfl; kernel_rfl; (focus (omega)); exact h2q; (try simp only [List.set_cons_succ]); (try simp only [List.set_cons_zero])); refine h0s c_7 ?_) <;> (try refine q_t 14 (e:=c_7) (x:=by apply h0a; exact rfl; exact rfl; (focus (apply h0n Try.underlying30 h0r; omega; omega; exact c_1))) (h:=?_)) <;> (try refine q_r 15 ?_; (apply h0f (t:=22); exact rfl; exact rfl; exact fd0; exact rfl; exact rfl; kernel_rfl; (focus (simp; omega)); exact h2q; (try simp only [List.set_cons_succ]); (try simp only [List.set_cons_zero])); refine h0s c_7 ?_) <;> (try refine h0q (by kernel_rfl) ?_))) | (refine TagB.mk ?_; (((refine q_k (by apply h0e (t:=22); exact rfl; exact fd0; kernel_rfl; kernel_rfl; (with_reducible assumption)) ?_); refine h0s c_7 ?_) <;> (try refine q_r 7 ?_; (refine q_k (by apply h0e (t:=22); exact rfl; exact fd0; kernel_rfl; kernel_rfl; (with_reducible assumption)) ?_); refine h0s c_7 ?_) <;> (try refine q_t 12 (e:=c_7) (x:=by apply h0a; exact rfl; exact rfl; (focus (apply h0n Try.underlying30 h0r; omega; omega; exact c_1))) (h:=?_)) <;> (try refine q_r 13 ?_; (apply h0f (t:=22); exact rfl; exact rfl; exact fd0; exact rfl; exact rfl; kernel_rfl; (focus (omega)); exact h2q; (try simp only [List.set_cons_succ]); (try simp only [List.set_cons_zero])); refine h0s c_7 ?_) <;> (try refine q_t 14 (e:=c_7) (x:=by apply h0a; exact rfl; exact rfl; (focus (apply h0n Try.underlying30 h0r; omega; omega; exact c_1))) (h:=?_)) <;> (try refine q_r 15 ?_; (apply h0f (t:=22); exact rfl; exact rfl; exact fd0; exact rfl; exact rfl; kernel_rfl; (focus (simp; omega)); exact h2q; (try simp only [List.set_cons_succ]); (try simp only [List.set_cons_zero])); refine h0s c_7 ?_) <;> (try refine h0q (by kernel_rfl) ?_)))))) | (refine gR 4 (q_m ?_) <;> (try refine q_e (q_b (r:=by apply h0u; exact c_6; (focus (refine IntWalk.i64_in _ ?_; omega)))) ?_) <;> (try refine p_a (h:=h0b ?_))) | (refine gR 5 (q_m ?_) <;> (try refine q_e (q_b (r:=by apply h1c; exact c_6; (focus (refine IntWalk.i64_in _ ?_; omega)))) ?_) <;> (try refine p_a (h:=h0b ?_))))
  all_goals (rw [h2f i j (by omega) (by omega) rfl rfl]; refine h0p (i + 1, j - 1, swp m i j) ⟨⟨by simp; omega, by simp; omega, by simp; omega, h4.trans (.swp (by omega) (by omega) (by omega))⟩, by simp; omega⟩ (by (focus (repeat (first | exact Sub.nil | refine Sub.cons rfl ?_ | (refine Sub.cons (congrArg some ?_) ?_; (focus go_num)))))) (fun _ H => H))
 ·repeat' (first | refine h0j ?_ | refine h0d ?_ | refine h1l ?_ | refine h0z ?_ | refine h1i ?_ | refine h1u ?_ | refine h0g rfl ?_ | (refine gR 2 (p_m (h:=p_m (h:=p_e (q_b (r:=by exact h2i q_o)) (h:=h0b ?_))))))
  (first | refine h1b Try.results22 .nil ?_ | refine h2u Try.results22 .nil ?_)
  exact ⟨_, ⟨rfl, m, h4, rfl⟩, fun _ H => H⟩
theorem brkH_c {S w0 L} (b n cap : Nat) (r : List Value) (l : List Int) (x y : Int) (a c : Nat) (hx : x = (a : Nat)) (hy : y = (c : Nat)) (hl : l.length = n) (hn : n ≤ 255) (hcn : c ≤ n) (hac : a + 12 < c) :
  Fn Try.prog 20 #[.slice (some ⟨b, 0, none⟩) n cap, .int .i64 x, .int .i64 y] S w0 (h2y b l r :: L) fun v L' => v = .tuple #[] ∧ ∃ l', Sw a c l l' ∧ h2y b l' r :: L = L' := by
 subst hx hy
 obtain ⟨hb1, hb2⟩ := bl8_le ⟨c - a, by omega⟩
 have hb3 := hb2 (by simp; omega)
 clear hb2
 dsimp only at hb1 hb3
 have hp := fun (L : List Blk) => pow2_c (S:=S) (w0:=w0) (L:=L) ((c : Int) - (a : Int)) (c - a) (by omega) (by omega)
 generalize 2 ^ bl8 (c - a) = md at *
 refine Fn3 Try.func20 Try.ntmps20 rfl rfl ?_
 repeat' (first | refine h0j ?_ | refine h0d ?_ | refine h0k ?_ | refine h0l rfl ?_ | (refine gR 0 (p_m (h:=q_m ?_)) <;> (try refine q_e (q_b (r:=by apply h1c; exact c_6; (focus (refine IntWalk.i64_in _ ?_; omega)))) ?_) <;> (try refine p_a (h:=h0b ?_))) | (refine gR 1 (p_m (h:=p_e (q_b (r:=by exact h2t q_o)) (h:=h0b ?_)))) | (refine gR 2 (q_m ?_) <;> (try refine q_e (by apply E_conv; exact rfl; (focus (apply r_conv Try.underlying3 Try.underlying65; first | (refine IntWalk.i64_in _ ?_; omega) | (refine IntWalk.u8_in _ ?_; omega) | (refine IntWalk.u16_in _ ?_; omega) | (refine IntWalk.u32_in _ ?_; omega) | (refine IntWalk.u64_in _ ?_; omega) | (refine IntWalk.i32_in _ ?_; omega) | exact rfl))) ?_) <;> (try refine h0i ?_; (refine h1w (t:=65) rfl Try.zeroValue65 ?_; intro nb hnb; (try simp only [Value.cells]))) <;> (try refine h0i ?_; (refine q_S ?_)) <;> (try refine h0b ?_)) | (refine gR 3 (q_m ?_) <;> (try refine h0i ?_; (refine h0v (F:=30) (by kernel_rfl) rfl rfl (hp _) ?_; rintro _ _ ⟨rfl, rfl⟩)) <;> (try refine p_a (h:=h0b ?_))) | (refine gR 4 (p_m (h:=q_m ?_)) <;> (try refine q_e (q_b (r:=by apply rb_quo; omega; omega; exact c_6; (focus (refine IntWalk.i64_in _ ?_; omega)))) ?_) <;> (try refine q_e (q_b (r:=by apply rb_mul; exact c_6; (focus (refine IntWalk.i64_in _ ?_; omega)))) ?_) <;> (try refine q_e (q_b (r:=by apply h0u; exact c_6; (focus (refine IntWalk.i64_in _ ?_; omega)))) ?_) <;> (try refine q_e (q_b (r:=by apply h1c; exact c_6; (focus (refine IntWalk.i64_in _ ?_; omega)))) ?_) <;> (try refine p_a (h:=h0b ?_))))
 refine h1x (γ:=Nat × Int × List Int) (fun g => (a + (c - a) / 4 * 2 - 1 ≤ g.1 ∧ g.1 ≤ a + (c - a) / 4 * 2 + 2) ∧ (0 ≤ g.2.1 ∧ g.2.1 < 18446744073709551616) ∧ Sw a c l g.2.2) (fun g => a + (c - a) / 4 * 2 + 2 - g.1) (fun g => [(9, .int .i64 (g.1 : Nat))]) [(0, _), (1, _), (6, _), (7, _), (8, _)]
  (fun g => xsB nb g.2.1 :: h2y b g.2.2 r :: L) (a + (c - a) / 4 * 2 - 1, ((c : Int) - (a : Int)), l) (.cons rfl (.cons rfl (.cons rfl (.cons rfl (.cons rfl .nil))))) ⟨by simp; omega, by simp; omega, .refl _ _ _⟩ (by (focus (repeat (first | exact Sub.nil | (refine Sub.cons (congrArg some ?_) ?_; (focus go_num)))))) c_18 ?_
 rintro ⟨i, s, m⟩ ⟨⟨h1 : a + (c - a) / 4 * 2 - 1 ≤ i, h2 : i ≤ a + (c - a) / 4 * 2 + 2⟩, hs : 0 ≤ s ∧ s < 18446744073709551616, h4 : Sw a c l m⟩
 dsimp only [List.cons_append, List.nil_append]
 have hm := h4.len
 by_cases hlt : i ≤ a + (c - a) / 4 * 2 + 1
 ·repeat' (first | (refine G_markc (t:=43) ?_) | refine h0j ?_ | refine h0d ?_ | refine h0k ?_ | refine h0t ?_ | refine h0l rfl ?_ | (refine gR 5 (p_m (h:=p_m (h:=q_m ?_))) <;> (try refine q_e (q_b (r:=by apply rb_quo; omega; omega; exact c_6; (focus (refine IntWalk.i64_in _ ?_; omega)))) ?_) <;> (try refine q_e (q_b (r:=by apply rb_mul; exact c_6; (focus (refine IntWalk.i64_in _ ?_; omega)))) ?_) <;> (try refine q_e (q_b (r:=by apply h0u; exact c_6; (focus (refine IntWalk.i64_in _ ?_; omega)))) ?_) <;> (try refine q_e (q_b (r:=by apply h0u; exact c_6; (focus (refine IntWalk.i64_in _ ?_; omega)))) ?_) <;> (try refine p_e (q_b (r:=by exact rb_leq_t q_o)) (h:=h0b ?_))) | (refine gR 7 ?_ <;> (try refine h0i ?_; (refine h0v (F:=31) (by kernel_rfl) rfl rfl (xnext_c nb s hs) ?_; rintro _ _ ⟨s', hs', rfl, rfl⟩; have hio := iand_le' s' ((md : Int) - 1) (by omega); have hi2 := iand_le s' ((md : Int) - 1) (by omega))) <;> (try refine q_m ?_) <;> (try refine q_e (q_b (r:=by apply h1c; exact c_6; (focus (refine IntWalk.u64_in _ ?_; omega)))) ?_) <;> (try refine q_e (q_b (r:=by refine rb_and ?_ ?_; (focus (refine ⟨rfl, ⟨?_, ?_⟩⟩; omega; (focus (simp only [IntKind.bits]; omega)))); (focus (refine ⟨rfl, ⟨?_, ?_⟩⟩; omega; (focus (simp only [IntKind.bits]; omega)))))) ?_) <;> (try refine q_e (by apply E_conv; exact rfl; (focus (apply r_conv Try.underlying51 Try.underlying3; first | (refine IntWalk.i64_in _ ?_; omega) | (refine IntWalk.u8_in _ ?_; omega) | (refine IntWalk.u16_in _ ?_; omega) | (refine IntWalk.u32_in _ ?_; omega) | (refine IntWalk.u64_in _ ?_; omega) | (refine IntWalk.i32_in _ ?_; omega) | exact rfl))) ?_) <;> (try refine p_a (h:=h0b ?_))) | (refine gR 8 (p_m (h:=p_m (h:=p_e (q_b (r:=by exact rb_geq)) (h:=h0b ?_))))))
  refine ⟨?_⟩
  obtain ⟨o, ho⟩ : ∃ o : Nat, iand s' ((md : Int) - 1) = (o : Nat) := ⟨(iand s' ((md : Int) - 1)).toNat, by omega⟩
  rw [ho] at hio hi2 ⊢
  have g1 := h0y (l:=m) (r:=r) (k:=i) (by omega)
  have g3 := h1v (l:=m) (r:=r)
  refine h2w rfl (fun hc => ?_) (fun hc => ?_)
  ·have g2 := h2l (l:=m) (r:=r) (i:=(a : Int) + ((o : Int) - ((c : Int) - (a : Int)))) (a + (o - (c - a))) (by omega) (by omega)
   repeat' (first | refine h0d ?_ | refine h0m ?_ | refine h0x ?_ | (refine gR 9 (p_m (h:=q_m ?_)) <;> (try refine q_e (q_b (r:=by apply h1c; exact c_6; (focus (refine IntWalk.i64_in _ ?_; omega)))) ?_) <;> (try refine p_a (h:=h0b ?_))) | ((apply h1a (i:=1) (id:=10) (m:=20); exact c_9; kernel_rfl; exact rfl) <;> (try refine q_t 0 (e:=c_7) (x:=by exact h0c rfl) (h:=q_t 1 (e:=c_7) (x:=by exact h0c rfl) (h:=q_t 2 (e:=c_7) (x:=by exact h0c rfl) (h:=q_t 3 (e:=c_7) (x:=by exact h0c rfl) (h:=q_t 4 (e:=c_7) (x:=by exact h0c rfl) (h:=?_)))))) <;> (try refine q_t 5 (e:=c_7) (x:=by exact q_b (r:=by apply h0u; exact c_6; (focus (refine IntWalk.i64_in _ ?_; omega)))) (h:=?_)) <;> (try refine q_t 6 (e:=c_7) (x:=by exact h0c rfl) (h:=q_t 7 (e:=c_7) (x:=by exact h0c rfl) (h:=q_t 8 (e:=c_7) (x:=by exact h0c rfl) (h:=?_)))) <;> (try refine q_t 9 (e:=c_7) (x:=by exact q_b (r:=by apply h0u; exact c_6; (focus (refine IntWalk.i64_in _ ?_; omega)))) (h:=?_)) <;> (try refine q_t 10 (e:=c_7) (x:=by apply h0a; exact rfl; exact rfl; (focus (apply h0n Try.underlying30 h0r; omega; omega; exact c_1))) (h:=q_t 12 (e:=c_7) (x:=by exact h0c rfl) (h:=q_t 13 (e:=c_7) (x:=by exact h0c rfl) (h:=q_t 14 (e:=c_7) (x:=by apply h0a; exact rfl; exact rfl; (focus (apply h0n Try.underlying30 h0r; omega; omega; exact c_1))) (h:=?_))))) <;> (try refine h1s (i:=11) (j:=15) rfl rfl (by kernel_rfl) ?_ ?_ <;> (first | (refine TagA.mk ?_; (((refine q_k (by apply h0e (t:=22); exact rfl; exact h2j; kernel_rfl; kernel_rfl; (with_reducible assumption)) ?_); refine h0s c_7 ?_) <;> (try refine q_r 15 ?_; (refine q_k (by apply h0e (t:=22); exact rfl; exact h2j; kernel_rfl; kernel_rfl; (with_reducible assumption)) ?_); refine h0s c_7 ?_) <;> (try refine q_t 16 (e:=c_7) (x:=by apply h0a; exact rfl; exact rfl; (focus (apply h0n Try.underlying30 h0r; omega; omega; exact c_1))) (h:=?_)) <;> (try refine q_r 17 ?_; (apply h0f (t:=22); exact rfl; exact rfl; exact h2j; exact rfl; exact rfl; kernel_rfl; (focus (omega)); exact h2q; (try simp only [List.set_cons_succ]); (try simp only [List.set_cons_zero])); refine h0s c_7 ?_) <;> (try refine q_t 18 (e:=c_7) (x:=by apply h0a; exact rfl; exact rfl; (focus (apply h0n Try.underlying30 h0r; omega; omega; exact c_1))) (h:=?_)) <;> (try refine q_r 19 ?_; (apply h0f (t:=22); exact rfl; exact rfl; exact h2j; exact rfl; exact rfl; kernel_rfl; (focus (simp; omega)); exact h2q; (try simp only [List.set_cons_succ]); (try simp only [List.set_cons_zero])); refine h0s c_7 ?_) <;> (try refine h0q (by kernel_rfl) ?_))) | (refine TagB.mk ?_; (((refine q_k (by apply h0e (t:=22); exact rfl; exact h2j; kernel_rfl; kernel_rfl; (with_reducible assumption)) ?_); refine h0s c_7 ?_) <;> (try refine q_r 11 ?_; (refine q_k (by apply h0e (t:=22); exact rfl; exact h2j; kernel_rfl; kernel_rfl; (with_reducible assumption)) ?_); refine h0s c_7 ?_) <;> (try refine q_t 16 (e:=c_7) (x:=by apply h0a; exact rfl; exact rfl; (focus (apply h0n Try.underlying30 h0r; omega; omega; exact c_1))) (h:=?_)) <;> (try refine q_r 17 ?_; (apply h0f (t:=22); exact rfl; exact rfl; exact h2j; exact rfl; exact rfl; kernel_rfl; (focus (omega)); exact h2q; (try simp only [List.set_cons_succ]); (try simp only [List.set_cons_zero])); refine h0s c_7 ?_) <;> (try refine q_t 18 (e:=c_7) (x:=by apply h0a; exact rfl; exact rfl; (focus (apply h0n Try.underlying30 h0r; omega; omega; exact c_1))) (h:=?_)) <;> (try refine q_r 19 ?_; (apply h0f (t:=22); exact rfl; exact rfl; exact h2j; exact rfl; exact rfl; kernel_rfl; (focus (simp; omega)); exact h2q; (try simp only [List.set_cons_succ]); (try simp only [List.set_cons_zero])); refine h0s c_7 ?_) <;> (try refine h0q (by kernel_rfl) ?_)))))) | (refine gR 6 (q_m ?_) <;> (try refine q_e (q_b (r:=by apply h0u; exact c_6; (focus (refine IntWalk.i64_in _ ?_; omega)))) ?_) <;> (try refine p_a (h:=h0b ?_))))
   all_goals (rw [h2f i (a + (o - (c - a))) (by omega) (by omega) rfl (by omega)]; refine h0p (i + 1, s', swp m i (a + (o - (c - a)))) ⟨⟨by simp; omega, hs', h4.trans (.swp (by omega) (by omega) (by omega))⟩, by simp; omega⟩ (by (focus (repeat (first | exact Sub.nil | refine Sub.cons rfl ?_)))) (fun _ H => H))
  ·have g2 := h2l (l:=m) (r:=r) (i:=(a : Int) + (o : Int)) (a + o) (by omega) (by omega)
   repeat' (first | refine h0d ?_ | refine h0m ?_ | refine h0x ?_ | refine h0t ?_ | ((apply h1a (i:=1) (id:=10) (m:=20); exact c_9; kernel_rfl; exact rfl) <;> (try refine q_t 0 (e:=c_7) (x:=by exact h0c rfl) (h:=q_t 1 (e:=c_7) (x:=by exact h0c rfl) (h:=q_t 2 (e:=c_7) (x:=by exact h0c rfl) (h:=q_t 3 (e:=c_7) (x:=by exact h0c rfl) (h:=q_t 4 (e:=c_7) (x:=by exact h0c rfl) (h:=?_)))))) <;> (try refine q_t 5 (e:=c_7) (x:=by exact q_b (r:=by apply h0u; exact c_6; (focus (refine IntWalk.i64_in _ ?_; omega)))) (h:=?_)) <;> (try refine q_t 6 (e:=c_7) (x:=by exact h0c rfl) (h:=q_t 7 (e:=c_7) (x:=by exact h0c rfl) (h:=q_t 8 (e:=c_7) (x:=by exact h0c rfl) (h:=?_)))) <;> (try refine q_t 9 (e:=c_7) (x:=by exact q_b (r:=by apply h0u; exact c_6; (focus (refine IntWalk.i64_in _ ?_; omega)))) (h:=?_)) <;> (try refine q_t 10 (e:=c_7) (x:=by apply h0a; exact rfl; exact rfl; (focus (apply h0n Try.underlying30 h0r; omega; omega; exact c_1))) (h:=q_t 12 (e:=c_7) (x:=by exact h0c rfl) (h:=q_t 13 (e:=c_7) (x:=by exact h0c rfl) (h:=q_t 14 (e:=c_7) (x:=by apply h0a; exact rfl; exact rfl; (focus (apply h0n Try.underlying30 h0r; omega; omega; exact c_1))) (h:=?_))))) <;> (try refine h1s (i:=11) (j:=15) rfl rfl (by kernel_rfl) ?_ ?_ <;> (first | (refine TagA.mk ?_; (((refine q_k (by apply h0e (t:=22); exact rfl; exact h2j; kernel_rfl; kernel_rfl; (with_reducible assumption)) ?_); refine h0s c_7 ?_) <;> (try refine q_r 15 ?_; (refine q_k (by apply h0e (t:=22); exact rfl; exact h2j; kernel_rfl; kernel_rfl; (with_reducible assumption)) ?_); refine h0s c_7 ?_) <;> (try refine q_t 16 (e:=c_7) (x:=by apply h0a; exact rfl; exact rfl; (focus (apply h0n Try.underlying30 h0r; omega; omega; exact c_1))) (h:=?_)) <;> (try refine q_r 17 ?_; (apply h0f (t:=22); exact rfl; exact rfl; exact h2j; exact rfl; exact rfl; kernel_rfl; (focus (omega)); exact h2q; (try simp only [List.set_cons_succ]); (try simp only [List.set_cons_zero])); refine h0s c_7 ?_) <;> (try refine q_t 18 (e:=c_7) (x:=by apply h0a; exact rfl; exact rfl; (focus (apply h0n Try.underlying30 h0r; omega; omega; exact c_1))) (h:=?_)) <;> (try refine q_r 19 ?_; (apply h0f (t:=22); exact rfl; exact rfl; exact h2j; exact rfl; exact rfl; kernel_rfl; (focus (simp; omega)); exact h2q; (try simp only [List.set_cons_succ]); (try simp only [List.set_cons_zero])); refine h0s c_7 ?_) <;> (try refine h0q (by kernel_rfl) ?_))) | (refine TagB.mk ?_; (((refine q_k (by apply h0e (t:=22); exact rfl; exact h2j; kernel_rfl; kernel_rfl; (with_reducible assumption)) ?_); refine h0s c_7 ?_) <;> (try refine q_r 11 ?_; (refine q_k (by apply h0e (t:=22); exact rfl; exact h2j; kernel_rfl; kernel_rfl; (with_reducible assumption)) ?_); refine h0s c_7 ?_) <;> (try refine q_t 16 (e:=c_7) (x:=by apply h0a; exact rfl; exact rfl; (focus (apply h0n Try.underlying30 h0r; omega; omega; exact c_1))) (h:=?_)) <;> (try refine q_r 17 ?_; (apply h0f (t:=22); exact rfl; exact rfl; exact h2j; exact rfl; exact rfl; kernel_rfl; (focus (omega)); exact h2q; (try simp only [List.set_cons_succ]); (try simp only [List.set_cons_zero])); refine h0s c_7 ?_) <;> (try refine q_t 18 (e:=c_7) (x:=by apply h0a; exact rfl; exact rfl; (focus (apply h0n Try.underlying30 h0r; omega; omega; exact c_1))) (h:=?_)) <;> (try refine q_r 19 ?_; (apply h0f (t:=22); exact rfl; exact rfl; exact h2j; exact rfl; exact rfl; kernel_rfl; (focus (simp; omega)); exact h2q; (try simp only [List.set_cons_succ]); (try simp only [List.set_cons_zero])); refine h0s c_7 ?_) <;> (try refine h0q (by kernel_rfl) ?_)))))) | (refine gR 6 (q_m ?_) <;> (try refine q_e (q_b (r:=by apply h0u; exact c_6; (focus (refine IntWalk.i64_in _ ?_; omega)))) ?_) <;> (try refine p_a (h:=h0b ?_))))
   all_goals (rw [h2f i (a + o) (by omega) (by omega) rfl (by omega)]; refine h0p (i + 1, s', swp m i (a + o)) ⟨⟨by simp; omega, hs', h4.trans (.swp (by omega) (by omega) (by omega))⟩, by simp; omega⟩ (by (focus (repeat (first | exact Sub.nil | refine Sub.cons rfl ?_)))) (fun _ H => H))
 ·repeat' (first | refine h0j ?_ | refine h0d ?_ | refine h1l ?_ | refine h0z ?_ | refine h1i ?_ | refine h1u ?_ | refine h0g rfl ?_ | (refine gR 5 (p_m (h:=p_m (h:=q_m ?_))) <;> (try refine q_e (q_b (r:=by apply rb_quo; omega; omega; exact c_6; (focus (refine IntWalk.i64_in _ ?_; omega)))) ?_) <;> (try refine q_e (q_b (r:=by apply rb_mul; exact c_6; (focus (refine IntWalk.i64_in _ ?_; omega)))) ?_) <;> (try refine q_e (q_b (r:=by apply h0u; exact c_6; (focus (refine IntWalk.i64_in _ ?_; omega)))) ?_) <;> (try refine q_e (q_b (r:=by apply h0u; exact c_6; (focus (refine IntWalk.i64_in _ ?_; omega)))) ?_) <;> (try refine p_e (q_b (r:=by exact rb_leq_f q_o)) (h:=h0b ?_))))
  (first | refine h1b Try.results20 .nil ?_ | refine h2u Try.results20 .nil ?_)
  exact ⟨_, ⟨rfl, m, h4, rfl⟩, by intro w H; refine Sel.out ?_ H; (try simp only [zzC, zzN]); repeat (first | exact Sel.refl _ | (apply Sel.cons; exact h2j; (try simp only [zzE, zzF])) | apply Sel.drop)⟩
theorem siftH_c {S w0 L} (b n cap : Nat) (r : List Value) (l : List Int) (x y z : Int) (lo hi f : Nat) (hx : x = (lo : Nat)) (hy : y = (hi : Nat)) (hz : z = (f : Nat)) (hl : l.length = n) (hn : n ≤ 255) (hf : f + hi ≤ n) (hlo : lo ≤ n) (hp : HeapX f lo hi lo l) :
  Fn Try.prog 29 #[.slice (some ⟨b, 0, none⟩) n cap, .int .i64 x, .int .i64 y, .int .i64 z] S w0 (h2y b l r :: L) fun v L' => v = .tuple #[] ∧ ∃ l', Sw f (f + hi) l l' ∧ Heap f lo hi l' ∧ h2y b l' r :: L = L' := by
 subst hx hy hz
 have hp' := Lib.hid hp
 clear hp
 refine Fn4 Try.func29 Try.ntmps29 rfl rfl ?_
 repeat' (first | refine h0j ?_ | refine h0d ?_ | refine h0k ?_ | (refine gR 0 (p_m (h:=p_a (h:=h0b ?_)))))
 refine h1x (γ:=Nat × List Int) (fun g => (lo ≤ g.1 ∧ (g.1 < hi ∨ g.1 = lo)) ∧ Sw f (f + hi) l g.2 ∧ HeapX f lo hi g.1 g.2) (fun g => hi - g.1) (fun g => [(8, .int .i64 (g.1 : Nat))]) [(0, _), (2, _), (3, _)]
  (fun g => h2y b g.2 r :: L) (lo, l) (.cons rfl (.cons rfl (.cons rfl .nil))) ⟨by simp, .refl _ _ _, hp'.out⟩ (by (focus (repeat (first | exact Sub.nil | refine Sub.cons rfl ?_)))) (fun _ H => H) ?_
 clear hp'
 rintro ⟨q, m⟩ ⟨⟨h1 : lo ≤ q, h2 : q < hi ∨ q = lo⟩, h3 : Sw f (f + hi) l m, h4 : HeapX f lo hi q m⟩
 dsimp only [List.cons_append, List.nil_append]
 have hm := h3.len
 have h4' := Lib.hid h4
 clear h4
 by_cases c1 : 2 * q + 1 < hi
 ·have g0 := h2l (l:=m) (r:=r) (i:=(f : Int) + (q : Int)) (f + q) (by omega) (by omega)
  have g1 := h2l (l:=m) (r:=r) (i:=(f : Int) + (2 * (q : Int) + 1)) (f + (2 * q + 1)) (by omega) (by omega)
  have g2 := h1v (l:=m) (r:=r)
  by_cases c2 : 2 * q + 2 < hi
  ·have g3 := h2l (l:=m) (r:=r) (i:=(f : Int) + (2 * (q : Int) + 1) + 1) (f + (2 * q + 2)) (by omega) (by omega)
   have g4 := h2l (l:=m) (r:=r) (i:=(f : Int) + (2 * (q : Int) + 1 + 1)) (f + (2 * q + 2)) (by omega) (by omega)
   repeat' (first | refine h0j ?_ | refine h0d ?_ | refine h0m ?_ | refine G_cut_r ?_ | refine h2c ?_ | refine h0x ?_ | refine h3c ?_ | refine h0k ?_ | refine h0t ?_ | refine h1y ?_ | refine h0g rfl ?_ | (refine gR 1 (q_m ?_) <;> (try refine q_e (q_b (r:=by apply rb_mul; exact c_6; (focus (refine IntWalk.i64_in _ ?_; omega)))) ?_) <;> (try refine q_e (q_b (r:=by apply h0u; exact c_6; (focus (refine IntWalk.i64_in _ ?_; omega)))) ?_) <;> (try refine p_a (h:=h0b ?_))) | (refine gR 2 (p_m (h:=p_m (h:=p_e (q_b (r:=by exact h2n q_o)) (h:=h0b ?_))))) | ((refine h1h (id:=3) (m:=20) (by kernel_rfl) rfl (q_u 0 (x:=by exact h0c rfl) (h:=?_))) <;> (try refine q_u 1 (x:=by exact q_b (r:=by apply h0u; exact c_6; (focus (refine IntWalk.i64_in _ ?_; omega)))) (h:=?_)) <;> (try refine q_u 2 (x:=by exact h0c rfl) (h:=q_u 3 (x:=by exact q_b (r:=by exact h2s q_o)) (h:=q_u 4 (x:=by exact h0c rfl) (h:=q_T 5 (e:=(fun _ H => H)) (x:=by exact h0c rfl) (h:=q_T 6 (e:=(fun _ H => H)) (x:=by exact h0c rfl) (h:=q_T 7 (e:=(fun _ H => H)) (x:=by exact h0c rfl) (h:=?_))))))) <;> (try refine q_T 8 (e:=(fun _ H => H)) (x:=by exact q_b (r:=by apply h0u; exact c_6; (focus (refine IntWalk.i64_in _ ?_; omega)))) (h:=?_)) <;> (try refine q_T 9 (e:=(fun _ H => H)) (x:=by apply h0a; exact rfl; exact rfl; (focus (apply h0n Try.underlying30 h0r; omega; omega; exact c_1))) (h:=q_T 10 (e:=(fun _ H => H)) (x:=by apply h0e (t:=22); exact rfl; exact fd0; kernel_rfl; kernel_rfl; (with_reducible assumption)) (h:=q_T 11 (e:=(fun _ H => H)) (x:=by exact h0c rfl) (h:=q_T 12 (e:=(fun _ H => H)) (x:=by exact h0c rfl) (h:=q_T 13 (e:=(fun _ H => H)) (x:=by exact h0c rfl) (h:=?_)))))) <;> (try refine q_T 14 (e:=(fun _ H => H)) (x:=by exact q_b (r:=by apply h0u; exact c_6; (focus (refine IntWalk.i64_in _ ?_; omega)))) (h:=?_)) <;> (try refine q_T 15 (e:=(fun _ H => H)) (x:=by exact q_b (r:=by apply h0u; exact c_6; (focus (refine IntWalk.i64_in _ ?_; omega)))) (h:=?_)) <;> (try refine q_T 16 (e:=(fun _ H => H)) (x:=by apply h0a; exact rfl; exact rfl; (focus (apply h0n Try.underlying30 h0r; omega; omega; exact c_1))) (h:=q_T 17 (e:=(fun _ H => H)) (x:=by apply h0e (t:=22); exact rfl; exact fd0; kernel_rfl; kernel_rfl; (with_reducible assumption)) (h:=?_))) <;> (try refine q_r 18 ?_; (refine h1j rfl rfl rfl ?_; (refine h0v (F:=24) (by kernel_rfl) rfl rfl (h3b _ _) ?_; rintro _ _ ⟨rfl, rfl⟩)); refine h0s (fun _ H => H) ?_) <;> (try refine q_u 19 (x:=by exact h2g rfl rfl) (h:=h0q (by kernel_rfl) ?_))) | (refine gR 4 (q_m ?_) <;> (try refine q_e (q_b (r:=by apply h0u; exact c_6; (focus (refine IntWalk.i64_in _ ?_; omega)))) ?_) <;> (try refine p_a (h:=h0b ?_))) | ((refine h1h (id:=5) (m:=14) (by kernel_rfl) rfl (q_u 0 (x:=by exact h0c rfl) (h:=q_u 1 (x:=by exact h0c rfl) (h:=q_u 2 (x:=by exact h0c rfl) (h:=?_))))) <;> (try refine q_u 3 (x:=by exact q_b (r:=by apply h0u; exact c_6; (focus (refine IntWalk.i64_in _ ?_; omega)))) (h:=?_)) <;> (try refine q_u 4 (x:=by apply h0a; exact rfl; exact rfl; (focus (apply h0n Try.underlying30 h0r; omega; omega; exact c_1))) (h:=q_u 5 (x:=by apply h0e (t:=22); exact rfl; exact fd0; kernel_rfl; kernel_rfl; (with_reducible assumption)) (h:=q_u 6 (x:=by exact h0c rfl) (h:=q_u 7 (x:=by exact h0c rfl) (h:=q_u 8 (x:=by exact h0c rfl) (h:=?_)))))) <;> (try refine q_u 9 (x:=by exact q_b (r:=by apply h0u; exact c_6; (focus (refine IntWalk.i64_in _ ?_; omega)))) (h:=?_)) <;> (try refine q_u 10 (x:=by apply h0a; exact rfl; exact rfl; (focus (apply h0n Try.underlying30 h0r; omega; omega; exact c_1))) (h:=q_u 11 (x:=by apply h0e (t:=22); exact rfl; exact fd0; kernel_rfl; kernel_rfl; (with_reducible assumption)) (h:=?_))) <;> (try refine q_r 12 ?_; (refine h0v (F:=24) (by kernel_rfl) rfl rfl (h3b _ _) ?_; rintro _ _ ⟨rfl, rfl⟩); refine h0s (fun _ H => H) ?_) <;> (try refine q_u 13 (x:=by apply E_un; exact rfl; exact ru_not_d) (h:=h0q (by kernel_rfl) ?_))) | ((apply h1a (i:=0) (id:=6) (m:=24); exact c_9; kernel_rfl; exact rfl) <;> (try refine q_t 0 (e:=c_7) (x:=by exact h0c rfl) (h:=q_t 1 (e:=c_7) (x:=by exact h0c rfl) (h:=q_t 2 (e:=c_7) (x:=by exact h0c rfl) (h:=?_)))) <;> (try refine q_t 3 (e:=c_7) (x:=by exact q_b (r:=by apply h0u; exact c_6; (focus (refine IntWalk.i64_in _ ?_; omega)))) (h:=?_)) <;> (try refine q_t 4 (e:=c_7) (x:=by exact h0c rfl) (h:=q_t 5 (e:=c_7) (x:=by exact h0c rfl) (h:=q_t 6 (e:=c_7) (x:=by exact h0c rfl) (h:=?_)))) <;> (try refine q_t 7 (e:=c_7) (x:=by exact q_b (r:=by apply h0u; exact c_6; (focus (refine IntWalk.i64_in _ ?_; omega)))) (h:=?_)) <;> (try refine q_t 8 (e:=c_7) (x:=by exact h0c rfl) (h:=q_t 9 (e:=c_7) (x:=by exact h0c rfl) (h:=q_t 10 (e:=c_7) (x:=by exact h0c rfl) (h:=?_)))) <;> (try refine q_t 11 (e:=c_7) (x:=by exact q_b (r:=by apply h0u; exact c_6; (focus (refine IntWalk.i64_in _ ?_; omega)))) (h:=?_)) <;> (try refine q_t 12 (e:=c_7) (x:=by apply h0a; exact rfl; exact rfl; (focus (apply h0n Try.underlying30 h0r; omega; omega; exact c_1))) (h:=q_t 14 (e:=c_7) (x:=by exact h0c rfl) (h:=q_t 15 (e:=c_7) (x:=by exact h0c rfl) (h:=q_t 16 (e:=c_7) (x:=by exact h0c rfl) (h:=?_))))) <;> (try refine q_t 17 (e:=c_7) (x:=by exact q_b (r:=by apply h0u; exact c_6; (focus (refine IntWalk.i64_in _ ?_; omega)))) (h:=?_)) <;> (try refine q_t 18 (e:=c_7) (x:=by apply h0a; exact rfl; exact rfl; (focus (apply h0n Try.underlying30 h0r; omega; omega; exact c_1))) (h:=?_)) <;> (try refine h1s (i:=13) (j:=19) rfl rfl (by kernel_rfl) ?_ ?_ <;> (first | (refine TagA.mk ?_; (((refine q_k (by apply h0e (t:=22); exact rfl; exact fd0; kernel_rfl; kernel_rfl; (with_reducible assumption)) ?_); refine h0s c_7 ?_) <;> (try refine q_r 19 ?_; (refine q_k (by apply h0e (t:=22); exact rfl; exact fd0; kernel_rfl; kernel_rfl; (with_reducible assumption)) ?_); refine h0s c_7 ?_) <;> (try refine q_t 20 (e:=c_7) (x:=by apply h0a; exact rfl; exact rfl; (focus (apply h0n Try.underlying30 h0r; omega; omega; exact c_1))) (h:=?_)) <;> (try refine q_r 21 ?_; (apply h0f (t:=22); exact rfl; exact rfl; exact fd0; exact rfl; exact rfl; kernel_rfl; (focus (omega)); exact h2q; (try simp only [List.set_cons_succ]); (try simp only [List.set_cons_zero])); refine h0s c_7 ?_) <;> (try refine q_t 22 (e:=c_7) (x:=by apply h0a; exact rfl; exact rfl; (focus (apply h0n Try.underlying30 h0r; omega; omega; exact c_1))) (h:=?_)) <;> (try refine q_r 23 ?_; (apply h0f (t:=22); exact rfl; exact rfl; exact fd0; exact rfl; exact rfl; kernel_rfl; (focus (simp; omega)); exact h2q; (try simp only [List.set_cons_succ]); (try simp only [List.set_cons_zero])); refine h0s c_7 ?_) <;> (try refine h0q (by kernel_rfl) ?_))) | (refine TagB.mk ?_; (((refine q_k (by apply h0e (t:=22); exact rfl; exact fd0; kernel_rfl; kernel_rfl; (with_reducible assumption)) ?_); refine h0s c_7 ?_) <;> (try refine q_r 13 ?_; (refine q_k (by apply h0e (t:=22); exact rfl; exact fd0; kernel_rfl; kernel_rfl; (with_reducible assumption)) ?_); refine h0s c_7 ?_) <;> (try refine q_t 20 (e:=c_7) (x:=by apply h0a; exact rfl; exact rfl; (focus (apply h0n Try.underlying30 h0r; omega; omega; exact c_1))) (h:=?_)) <;> (try refine q_r 21 ?_; (apply h0f (t:=22); exact rfl; exact rfl; exact fd0; exact rfl; exact rfl; kernel_rfl; (focus (omega)); exact h2q; (try simp only [List.set_cons_succ]); (try simp only [List.set_cons_zero])); refine h0s c_7 ?_) <;> (try refine q_t 22 (e:=c_7) (x:=by apply h0a; exact rfl; exact rfl; (focus (apply h0n Try.underlying30 h0r; omega; omega; exact c_1))) (h:=?_)) <;> (try refine q_r 23 ?_; (apply h0f (t:=22); exact rfl; exact rfl; exact fd0; exact rfl; exact rfl; kernel_rfl; (focus (simp; omega)); exact h2q; (try simp only [List.set_cons_succ]); (try simp only [List.set_cons_zero])); refine h0s c_7 ?_) <;> (try refine h0q (by kernel_rfl) ?_)))))) | (refine gR 7 (p_m (h:=p_a (h:=h0b ?_)))) | ((first | (refine G_cond_nd rfl (fun hc => ?_) (fun hc => ?_)) | (refine h2w rfl (fun hc => ?_) (fun hc => ?_))) <;> (try subst hc)))
   all_goals first
    | (rw [h2f (f + q) (f + (2 * q + 2)) (by omega) (by omega) (by omega) (by omega)]; refine h0p (2 * q + 2, swp m (f + q) (f + (2 * q + 2))) ⟨⟨⟨by simp; omega, by simp; omega⟩, h3.trans (.swp (by omega) (by omega) (by omega)), h4'.out.step (c:=2 * q + 2) h1 (.inr rfl) (by omega) (by omega) (by rintro d (rfl | rfl) hd <;> omega) (by omega)⟩, by simp; omega⟩ (by (focus (repeat (first | exact Sub.nil | refine Sub.cons rfl ?_)))) (fun _ H => H))
    | (rw [h2f (f + q) (f + (2 * q + 1)) (by omega) (by omega) (by omega) (by omega)]; refine h0p (2 * q + 1, swp m (f + q) (f + (2 * q + 1))) ⟨⟨⟨by simp; omega, by simp; omega⟩, h3.trans (.swp (by omega) (by omega) (by omega)), h4'.out.step (c:=2 * q + 1) h1 (.inl rfl) (by omega) (by omega) (by rintro d (rfl | rfl) hd <;> omega) (by omega)⟩, by simp; omega⟩ (by (focus (repeat (first | exact Sub.nil | refine Sub.cons rfl ?_)))) (fun _ H => H))
    | ((first | refine h1b Try.results29 .nil ?_ | refine h2u Try.results29 .nil ?_); exact ⟨_, ⟨rfl, m, h3, h4'.out.stop (by rintro d (rfl | rfl) hd <;> omega), rfl⟩, fun _ H => H⟩)
  ·repeat' (first | refine h0j ?_ | refine h0d ?_ | refine h0m ?_ | refine G_cut_r ?_ | refine h2c ?_ | refine h0x ?_ | refine h3c ?_ | refine h0k ?_ | refine h0t ?_ | refine h1y ?_ | refine h0g rfl ?_ | (refine gR 1 (q_m ?_) <;> (try refine q_e (q_b (r:=by apply rb_mul; exact c_6; (focus (refine IntWalk.i64_in _ ?_; omega)))) ?_) <;> (try refine q_e (q_b (r:=by apply h0u; exact c_6; (focus (refine IntWalk.i64_in _ ?_; omega)))) ?_) <;> (try refine p_a (h:=h0b ?_))) | (refine gR 2 (p_m (h:=p_m (h:=p_e (q_b (r:=by exact h2n q_o)) (h:=h0b ?_))))) | ((refine h1h (id:=3) (m:=20) (by kernel_rfl) rfl (q_u 0 (x:=by exact h0c rfl) (h:=?_))) <;> (try refine q_u 1 (x:=by exact q_b (r:=by apply h0u; exact c_6; (focus (refine IntWalk.i64_in _ ?_; omega)))) (h:=?_)) <;> (try refine q_u 2 (x:=by exact h0c rfl) (h:=q_u 3 (x:=by exact q_b (r:=by exact h2i q_o)) (h:=q_u 4 (x:=by exact h0c rfl) (h:=?_)))) <;> (try apply h0o (i:=5); exact rfl; kernel_rfl; kernel_rfl; kernel_rfl; exact rfl; (exact fun _ H => H); exact h2a rfl rfl rfl) <;> (try apply h0o (i:=6); exact rfl; kernel_rfl; kernel_rfl; kernel_rfl; exact rfl; (exact fun _ H => H); exact h2a rfl rfl rfl) <;> (try apply h0o (i:=7); exact rfl; kernel_rfl; kernel_rfl; kernel_rfl; exact rfl; (exact fun _ H => H); exact h2a rfl rfl rfl) <;> (try apply h0o (i:=8); exact rfl; kernel_rfl; kernel_rfl; kernel_rfl; exact rfl; (exact fun _ H => H); exact h2a rfl rfl rfl) <;> (try apply h0o (i:=9); exact rfl; kernel_rfl; kernel_rfl; kernel_rfl; exact rfl; (exact fun _ H => H); exact h2a rfl rfl rfl) <;> (try apply h0o (i:=10); exact rfl; kernel_rfl; kernel_rfl; kernel_rfl; exact rfl; (exact fun _ H => H); exact h2a rfl rfl rfl) <;> (try apply h0o (i:=11); exact rfl; kernel_rfl; kernel_rfl; kernel_rfl; exact rfl; (exact fun _ H => H); exact h2a rfl rfl rfl) <;> (try apply h0o (i:=12); exact rfl; kernel_rfl; kernel_rfl; kernel_rfl; exact rfl; (exact fun _ H => H); exact h2a rfl rfl rfl) <;> (try apply h0o (i:=13); exact rfl; kernel_rfl; kernel_rfl; kernel_rfl; exact rfl; (exact fun _ H => H); exact h2a rfl rfl rfl) <;> (try apply h0o (i:=14); exact rfl; kernel_rfl; kernel_rfl; kernel_rfl; exact rfl; (exact fun _ H => H); exact h2a rfl rfl rfl) <;> (try apply h0o (i:=15); exact rfl; kernel_rfl; kernel_rfl; kernel_rfl; exact rfl; (exact fun _ H => H); exact h2a rfl rfl rfl) <;> (try apply h0o (i:=16); exact rfl; kernel_rfl; kernel_rfl; kernel_rfl; exact rfl; (exact fun _ H => H); exact h2a rfl rfl rfl) <;> (try apply h0o (i:=17); exact rfl; kernel_rfl; kernel_rfl; kernel_rfl; exact rfl; (exact fun _ H => H); exact h2a rfl rfl rfl) <;> (try refine q_r 18 ?_; (refine h2m rfl rfl rfl rfl ?_); refine h0s (fun _ H => H) ?_) <;> (try refine q_u 19 (x:=by exact h2g rfl rfl) (h:=h0q (by kernel_rfl) ?_))) | ((refine h1h (id:=5) (m:=14) (by kernel_rfl) rfl (q_u 0 (x:=by exact h0c rfl) (h:=q_u 1 (x:=by exact h0c rfl) (h:=q_u 2 (x:=by exact h0c rfl) (h:=?_))))) <;> (try refine q_u 3 (x:=by exact q_b (r:=by apply h0u; exact c_6; (focus (refine IntWalk.i64_in _ ?_; omega)))) (h:=?_)) <;> (try refine q_u 4 (x:=by apply h0a; exact rfl; exact rfl; (focus (apply h0n Try.underlying30 h0r; omega; omega; exact c_1))) (h:=q_u 5 (x:=by apply h0e (t:=22); exact rfl; exact fd0; kernel_rfl; kernel_rfl; (with_reducible assumption)) (h:=q_u 6 (x:=by exact h0c rfl) (h:=q_u 7 (x:=by exact h0c rfl) (h:=q_u 8 (x:=by exact h0c rfl) (h:=?_)))))) <;> (try refine q_u 9 (x:=by exact q_b (r:=by apply h0u; exact c_6; (focus (refine IntWalk.i64_in _ ?_; omega)))) (h:=?_)) <;> (try refine q_u 10 (x:=by apply h0a; exact rfl; exact rfl; (focus (apply h0n Try.underlying30 h0r; omega; omega; exact c_1))) (h:=q_u 11 (x:=by apply h0e (t:=22); exact rfl; exact fd0; kernel_rfl; kernel_rfl; (with_reducible assumption)) (h:=?_))) <;> (try refine q_r 12 ?_; (refine h0v (F:=24) (by kernel_rfl) rfl rfl (h3b _ _) ?_; rintro _ _ ⟨rfl, rfl⟩); refine h0s (fun _ H => H) ?_) <;> (try refine q_u 13 (x:=by apply E_un; exact rfl; exact ru_not_d) (h:=h0q (by kernel_rfl) ?_))) | ((apply h1a (i:=0) (id:=6) (m:=24); exact c_9; kernel_rfl; exact rfl) <;> (try refine q_t 0 (e:=c_7) (x:=by exact h0c rfl) (h:=q_t 1 (e:=c_7) (x:=by exact h0c rfl) (h:=q_t 2 (e:=c_7) (x:=by exact h0c rfl) (h:=?_)))) <;> (try refine q_t 3 (e:=c_7) (x:=by exact q_b (r:=by apply h0u; exact c_6; (focus (refine IntWalk.i64_in _ ?_; omega)))) (h:=?_)) <;> (try refine q_t 4 (e:=c_7) (x:=by exact h0c rfl) (h:=q_t 5 (e:=c_7) (x:=by exact h0c rfl) (h:=q_t 6 (e:=c_7) (x:=by exact h0c rfl) (h:=?_)))) <;> (try refine q_t 7 (e:=c_7) (x:=by exact q_b (r:=by apply h0u; exact c_6; (focus (refine IntWalk.i64_in _ ?_; omega)))) (h:=?_)) <;> (try refine q_t 8 (e:=c_7) (x:=by exact h0c rfl) (h:=q_t 9 (e:=c_7) (x:=by exact h0c rfl) (h:=q_t 10 (e:=c_7) (x:=by exact h0c rfl) (h:=?_)))) <;> (try refine q_t 11 (e:=c_7) (x:=by exact q_b (r:=by apply h0u; exact c_6; (focus (refine IntWalk.i64_in _ ?_; omega)))) (h:=?_)) <;> (try refine q_t 12 (e:=c_7) (x:=by apply h0a; exact rfl; exact rfl; (focus (apply h0n Try.underlying30 h0r; omega; omega; exact c_1))) (h:=q_t 14 (e:=c_7) (x:=by exact h0c rfl) (h:=q_t 15 (e:=c_7) (x:=by exact h0c rfl) (h:=q_t 16 (e:=c_7) (x:=by exact h0c rfl) (h:=?_))))) <;> (try refine q_t 17 (e:=c_7) (x:=by exact q_b (r:=by apply h0u; exact c_6; (focus (refine IntWalk.i64_in _ ?_; omega)))) (h:=?_)) <;> (try refine q_t 18 (e:=c_7) (x:=by apply h0a; exact rfl; exact rfl; (focus (apply h0n Try.underlying30 h0r; omega; omega; exact c_1))) (h:=?_)) <;> (try refine h1s (i:=13) (j:=19) rfl rfl (by kernel_rfl) ?_ ?_ <;> (first | (refine TagA.mk ?_; (((refine q_k (by apply h0e (t:=22); exact rfl; exact fd0; kernel_rfl; kernel_rfl; (with_reducible assumption)) ?_); refine h0s c_7 ?_) <;> (try refine q_r 19 ?_; (refine q_k (by apply h0e (t:=22); exact rfl; exact fd0; kernel_rfl; kernel_rfl; (with_reducible assumption)) ?_); refine h0s c_7 ?_) <;> (try refine q_t 20 (e:=c_7) (x:=by apply h0a; exact rfl; exact rfl; (focus (apply h0n Try.underlying30 h0r; omega; omega; exact c_1))) (h:=?_)) <;> (try refine q_r 21 ?_; (apply h0f (t:=22); exact rfl; exact rfl; exact fd0; exact rfl; exact rfl; kernel_rfl; (focus (omega)); exact h2q; (try simp only [List.set_cons_succ]); (try simp only [List.set_cons_zero])); refine h0s c_7 ?_) <;> (try refine q_t 22 (e:=c_7) (x:=by apply h0a; exact rfl; exact rfl; (focus (apply h0n Try.underlying30 h0r; omega; omega; exact c_1))) (h:=?_)) <;> (try refine q_r 23 ?_; (apply h0f (t:=22); exact rfl; exact rfl; exact fd0; exact rfl; exact rfl; kernel_rfl; (focus (simp; omega)); exact h2q; (try simp only [List.set_cons_succ]); (try simp only [List.set_cons_zero])); refine h0s c_7 ?_) <;> (try refine h0q (by kernel_rfl) ?_))) | (refine TagB.mk ?_; (((refine q_k (by apply h0e (t:=22); exact rfl; exact fd0; kernel_rfl; kernel_rfl; (with_reducible assumption)) ?_); refine h0s c_7 ?_) <;> (try refine q_r 13 ?_; (refine q_k (by apply h0e (t:=22); exact rfl; exact fd0; kernel_rfl; kernel_rfl; (with_reducible assumption)) ?_); refine h0s c_7 ?_) <;> (try refine q_t 20 (e:=c_7) (x:=by apply h0a; exact rfl; exact rfl; (focus (apply h0n Try.underlying30 h0r; omega; omega; exact c_1))) (h:=?_)) <;> (try refine q_r 21 ?_; (apply h0f (t:=22); exact rfl; exact rfl; exact fd0; exact rfl; exact rfl; kernel_rfl; (focus (omega)); exact h2q; (try simp only [List.set_cons_succ]); (try simp only [List.set_cons_zero])); refine h0s c_7 ?_) <;> (try refine q_t 22 (e:=c_7) (x:=by apply h0a; exact rfl; exact rfl; (focus (apply h0n Try.underlying30 h0r; omega; omega; exact c_1))) (h:=?_)) <;> (try refine q_r 23 ?_; (apply h0f (t:=22); exact rfl; exact rfl; exact fd0; exact rfl; exact rfl; kernel_rfl; (focus (simp; omega)); exact h2q; (try simp only [List.set_cons_succ]); (try simp only [List.set_cons_zero])); refine h0s c_7 ?_) <;> (try refine h0q (by kernel_rfl) ?_)))))) | (refine gR 7 (p_m (h:=p_a (h:=h0b ?_)))) | ((refine G_cond_nd rfl (fun hc => ?_) (fun hc => ?_)) <;> (try subst hc)))
   all_goals first
    | (rw [h2f (f + q) (f + (2 * q + 1)) (by omega) (by omega) (by omega) (by omega)]; refine h0p (2 * q + 1, swp m (f + q) (f + (2 * q + 1))) ⟨⟨⟨by simp; omega, by simp; omega⟩, h3.trans (.swp (by omega) (by omega) (by omega)), h4'.out.step (c:=2 * q + 1) h1 (.inl rfl) (by omega) (by omega) (by rintro d (rfl | rfl) hd <;> omega) (by omega)⟩, by simp; omega⟩ (by (focus (repeat (first | exact Sub.nil | refine Sub.cons rfl ?_)))) (fun _ H => H))
    | ((first | refine h1b Try.results29 .nil ?_ | refine h2u Try.results29 .nil ?_); exact ⟨_, ⟨rfl, m, h3, h4'.out.stop (by rintro d (rfl | rfl) hd <;> omega), rfl⟩, fun _ H => H⟩)
 ·repeat' (first | refine h0j ?_ | refine h0d ?_ | refine h1l ?_ | refine h0z ?_ | refine h1i ?_ | refine G_blk_y rfl ?_ | refine h0k ?_ | refine h1u ?_ | refine h0l rfl ?_ | (refine gR 1 (q_m ?_) <;> (try refine q_e (q_b (r:=by apply rb_mul; exact c_6; (focus (refine IntWalk.i64_in _ ?_; omega)))) ?_) <;> (try refine q_e (q_b (r:=by apply h0u; exact c_6; (focus (refine IntWalk.i64_in _ ?_; omega)))) ?_) <;> (try refine p_a (h:=h0b ?_))) | (refine gR 2 (p_m (h:=p_m (h:=p_e (q_b (r:=by exact h2t q_o)) (h:=h0b ?_))))))
  all_goals ((first | refine h1b Try.results29 .nil ?_ | refine h2u Try.results29 .nil ?_); exact ⟨_, ⟨rfl, m, h3, h4'.out.stop (by rintro d (rfl | rfl) hd <;> omega), rfl⟩, fun _ H => H⟩)
theorem Heap.less {f lo k hi : Nat} {l : List Int} (h : Heap f lo hi l) (hk : lo ≤ k) : Heap f k hi l := fun p c h1 h2 h3 => h p c (by omega) h2 h3
theorem Pop.next {f hi i : Nat} {l m : List Int} (hi' : i ≤ hi) (h1 : Srt (f + i) (f + hi) l) (h2 : ∀ p q, p < i → i ≤ q → q < hi → gv l (f + p) ≤ gv l (f + q)) (hs : Sw f (f + i) l m) (hh : Heap f 0 i m) : Pop f hi i m :=
 ⟨hh, h1.same fun k k1 k2 => hs.out k (by omega), fun p q p1 p2 p3 => by
  rw [hs.out (f + q) (by omega)]
  exact hs.all (p:=fun x => x ≤ gv l (f + q)) (fun k k1 k2 => by have := h2 (k - f) q (by omega) p2 p3; rwa [show f + (k - f) = k by omega] at this) (f + p) (by omega) (by omega)⟩
theorem heapH_c {S w0 L} (b n cap : Nat) (r : List Value) (l : List Int) (x y : Int) (a c : Nat) (hx : x = (a : Nat)) (hy : y = (c : Nat)) (hl : l.length = n) (hn : n ≤ 255) (hcn : c ≤ n) (hac : a < c) :
  Fn Try.prog 19 #[.slice (some ⟨b, 0, none⟩) n cap, .int .i64 x, .int .i64 y] S w0 (h2y b l r :: L) fun v L' => v = .tuple #[] ∧ ∃ l', Sw a c l l' ∧ Srt a c l' ∧ h2y b l' r :: L = L' := by
 subst hx hy
 obtain ⟨hi, rfl⟩ : ∃ hi, c = a + hi := ⟨c - a, by omega⟩
 refine Fn3 Try.func19 Try.ntmps19 rfl rfl ?_
 repeat' (first | refine h0j ?_ | refine h0d ?_ | refine h0k ?_ | (refine gR 0 (p_m (h:=p_a (h:=h0b ?_)))) | (refine gR 1 (p_a (h:=h0b ?_))) | (refine gR 2 (p_m (h:=q_m ?_)) <;> (try refine q_e (q_b (r:=by apply h1c; exact c_6; (focus (refine IntWalk.i64_in _ ?_; omega)))) ?_) <;> (try refine p_a (h:=h0b ?_))) | (refine gR 3 (q_m ?_) <;> (try refine q_e (q_b (r:=by apply h1c; exact c_6; (focus (refine IntWalk.i64_in _ ?_; omega)))) ?_) <;> (try refine q_e (q_b (r:=by apply rb_quo; omega; omega; exact c_6; (focus (refine IntWalk.i64_in _ ?_; omega)))) ?_) <;> (try refine p_a (h:=h0b ?_))))
 refine h1x (γ:=Nat × List Int) (fun g => g.1 ≤ n ∧ Sw a (a + hi) l g.2 ∧ Heap a g.1 hi g.2) (fun g => g.1) (fun g => [(9, .int .i64 ((g.1 : Nat) - 1))]) [(0, _), (6, _), (7, _), (8, _)]
  (fun g => h2y b g.2 r :: L) ((hi - 1) / 2 + 1, l) (.cons rfl (.cons rfl (.cons rfl (.cons rfl .nil)))) ⟨by simp; omega, .refl _ _ _, fun k c h1 h2 h3 => by simp at h1; omega⟩ (by (focus (repeat (first | exact Sub.nil | (refine Sub.cons (congrArg some ?_) ?_; (focus go_num)))))) (fun _ H => H) ?_
 rintro ⟨i, m⟩ ⟨h1 : i ≤ n, h2 : Sw a (a + hi) l m, h3 : Heap a i hi m⟩
 dsimp only [List.cons_append, List.nil_append]
 have hm := h2.len
 have h3' := Lib.hid h3
 clear h3
 by_cases hlt : 1 ≤ i
 ·obtain ⟨i, rfl⟩ : ∃ j, i = j + 1 := ⟨i - 1, by omega⟩
  repeat' (first | refine h0j ?_ | refine h0d ?_ | refine h0m ?_ | refine h0x ?_ | refine h0k ?_ | refine h0t ?_ | refine h0l rfl ?_ | (refine gR 4 (p_m (h:=p_e (q_b (r:=by exact h2t q_o)) (h:=h0b ?_)))) | (refine gR 6 (p_m (h:=p_m (h:=p_m (h:=q_m ?_)))) <;> (try refine h0i ?_; (refine h0v (F:=29) (by kernel_rfl) rfl rfl (siftH_c b n cap r m _ _ _ i hi a (by omega) (by omega) rfl (by omega) hn (by omega) (by omega) h3'.out.x) ?_; rintro _ _ ⟨rfl, m', k1, k2, rfl⟩)) <;> (try refine h0b ?_)) | (refine gR 5 (q_m ?_) <;> (try refine q_e (q_b (r:=by apply h1c; exact c_6; (focus (refine IntWalk.i64_in _ ?_; omega)))) ?_) <;> (try refine p_a (h:=h0b ?_))))
  refine h0p (i, m') ⟨⟨by simp; omega, h2.trans k1, k2⟩, by simp⟩ (by (focus (repeat (first | exact Sub.nil | refine Sub.cons rfl ?_ | (refine Sub.cons (congrArg some ?_) ?_; (focus go_num)))))) (fun _ H => H)
 ·obtain rfl : i = 0 := by omega
  repeat' (first | refine h0j ?_ | refine h0d ?_ | refine h1l ?_ | refine h0z ?_ | refine h1i ?_ | refine h0k ?_ | refine h1u ?_ | refine h0g rfl ?_ | (refine gR 4 (p_m (h:=p_e (q_b (r:=by exact h2n q_o)) (h:=h0b ?_)))) | (refine gR 7 (q_m ?_) <;> (try refine q_e (q_b (r:=by apply h1c; exact c_6; (focus (refine IntWalk.i64_in _ ?_; omega)))) ?_) <;> (try refine p_a (h:=h0b ?_))))
  have h4 := Lib.hid (⟨h3'.out, .nil (by omega), fun p q p1 p2 p3 => by omega⟩ : Pop a hi hi m)
  clear h3'
  refine h1x (γ:=Nat × List Int) (fun g => g.1 ≤ hi ∧ Sw a (a + hi) l g.2 ∧ Pop a hi g.1 g.2) (fun g => g.1) (fun g => [(10, .int .i64 ((g.1 : Nat) - 1))]) [(0, _), (6, _), (7, _)]
   (fun g => h2y b g.2 r :: L) (hi, m) (.cons rfl (.cons rfl (.cons rfl .nil))) ⟨by simp, h2, h4.out⟩ (by (focus (repeat (first | exact Sub.nil | (refine Sub.cons (congrArg some ?_) ?_; (focus go_num)))))) (fun _ H => H) ?_
  clear h4 h2 hm m
  rintro ⟨i, m⟩ ⟨h1 : i ≤ hi, h2 : Sw a (a + hi) l m, h3 : Pop a hi i m⟩
  dsimp only [List.cons_append, List.nil_append]
  have hm := h2.len
  by_cases hlt : 1 ≤ i
  ·obtain ⟨i, rfl⟩ : ∃ j, i = j + 1 := ⟨i - 1, by omega⟩
   have h3' := Lib.hid (h3.swap (by omega) (by omega))
   clear h3
   have g1 := h0y (l:=m) (r:=r) (k:=a) (by omega)
   have g2 := h2l (l:=m) (r:=r) (i:=(a : Int) + (((i + 1 : Nat) : Int) - 1)) (a + i) (by omega) (by omega)
   have g3 := h1v (l:=m) (r:=r)
   repeat' (first | (refine h1t (id:=11) ?_) | refine h0j ?_ | refine h0d ?_ | refine h0k ?_ | refine h0t ?_ | refine h0l rfl ?_ | (refine gR 8 (p_m (h:=p_e (q_b (r:=by exact h2t q_o)) (h:=h0b ?_)))) | ((apply h1a (i:=0) (id:=10) (m:=20); exact c_9; kernel_rfl; exact rfl) <;> (try refine q_t 0 (e:=c_7) (x:=by exact h0c rfl) (h:=q_t 1 (e:=c_7) (x:=by exact h0c rfl) (h:=q_t 2 (e:=c_7) (x:=by exact h0c rfl) (h:=q_t 3 (e:=c_7) (x:=by exact h0c rfl) (h:=q_t 4 (e:=c_7) (x:=by exact h0c rfl) (h:=?_)))))) <;> (try refine q_t 5 (e:=c_7) (x:=by exact q_b (r:=by apply h0u; exact c_6; (focus (refine IntWalk.i64_in _ ?_; omega)))) (h:=?_)) <;> (try refine q_t 6 (e:=c_7) (x:=by exact h0c rfl) (h:=q_t 7 (e:=c_7) (x:=by exact h0c rfl) (h:=q_t 8 (e:=c_7) (x:=by exact h0c rfl) (h:=?_)))) <;> (try refine q_t 9 (e:=c_7) (x:=by exact q_b (r:=by apply h0u; exact c_6; (focus (refine IntWalk.i64_in _ ?_; omega)))) (h:=?_)) <;> (try refine q_t 10 (e:=c_7) (x:=by apply h0a; exact rfl; exact rfl; (focus (apply h0n Try.underlying30 h0r; omega; omega; exact c_1))) (h:=q_t 12 (e:=c_7) (x:=by exact h0c rfl) (h:=q_t 13 (e:=c_7) (x:=by exact h0c rfl) (h:=q_t 14 (e:=c_7) (x:=by apply h0a; exact rfl; exact rfl; (focus (apply h0n Try.underlying30 h0r; omega; omega; exact c_1))) (h:=?_))))) <;> (try refine h1s (i:=11) (j:=15) rfl rfl (by kernel_rfl) ?_ ?_ <;> (first | (refine TagA.mk ?_; (((refine q_k (by apply h0e (t:=22); exact rfl; exact fd0; kernel_rfl; kernel_rfl; (with_reducible assumption)) ?_); refine h0s c_7 ?_) <;> (try refine q_r 15 ?_; (refine q_k (by apply h0e (t:=22); exact rfl; exact fd0; kernel_rfl; kernel_rfl; (with_reducible assumption)) ?_); refine h0s c_7 ?_) <;> (try refine q_t 16 (e:=c_7) (x:=by apply h0a; exact rfl; exact rfl; (focus (apply h0n Try.underlying30 h0r; omega; omega; exact c_1))) (h:=?_)) <;> (try refine q_r 17 ?_; (apply h0f (t:=22); exact rfl; exact rfl; exact fd0; exact rfl; exact rfl; kernel_rfl; (focus (omega)); exact h2q; (try simp only [List.set_cons_succ]); (try simp only [List.set_cons_zero])); refine h0s c_7 ?_) <;> (try refine q_t 18 (e:=c_7) (x:=by apply h0a; exact rfl; exact rfl; (focus (apply h0n Try.underlying30 h0r; omega; omega; exact c_1))) (h:=?_)) <;> (try refine q_r 19 ?_; (apply h0f (t:=22); exact rfl; exact rfl; exact fd0; exact rfl; exact rfl; kernel_rfl; (focus (simp; omega)); exact h2q; (try simp only [List.set_cons_succ]); (try simp only [List.set_cons_zero])); refine h0s c_7 ?_) <;> (try refine h0q (by kernel_rfl) ?_))) | (refine TagB.mk ?_; (((refine q_k (by apply h0e (t:=22); exact rfl; exact fd0; kernel_rfl; kernel_rfl; (with_reducible assumption)) ?_); refine h0s c_7 ?_) <;> (try refine q_r 11 ?_; (refine q_k (by apply h0e (t:=22); exact rfl; exact fd0; kernel_rfl; kernel_rfl; (with_reducible assumption)) ?_); refine h0s c_7 ?_) <;> (try refine q_t 16 (e:=c_7) (x:=by apply h0a; exact rfl; exact rfl; (focus (apply h0n Try.underlying30 h0r; omega; omega; exact c_1))) (h:=?_)) <;> (try refine q_r 17 ?_; (apply h0f (t:=22); exact rfl; exact rfl; exact fd0; exact rfl; exact rfl; kernel_rfl; (focus (omega)); exact h2q; (try simp only [List.set_cons_succ]); (try simp only [List.set_cons_zero])); refine h0s c_7 ?_) <;> (try refine q_t 18 (e:=c_7) (x:=by apply h0a; exact rfl; exact rfl; (focus (apply h0n Try.underlying30 h0r; omega; omega; exact c_1))) (h:=?_)) <;> (try refine q_r 19 ?_; (apply h0f (t:=22); exact rfl; exact rfl; exact fd0; exact rfl; exact rfl; kernel_rfl; (focus (simp; omega)); exact h2q; (try simp only [List.set_cons_succ]); (try simp only [List.set_cons_zero])); refine h0s c_7 ?_) <;> (try refine h0q (by kernel_rfl) ?_)))))))
   all_goals
    refine ⟨?_⟩
    rw [h2f a (a + i) (by omega) (by omega) rfl (by omega)]
    repeat' (first | refine h0d ?_ | refine h0m ?_ | refine h0x ?_ | (refine gR 11 (p_m (h:=p_m (h:=p_m (h:=q_m ?_)))) <;> (try refine h0i ?_; (refine h0v (F:=29) (by kernel_rfl) rfl rfl (siftH_c b n cap r (swp m a (a + i)) _ _ _ 0 i a (by omega) (by omega) rfl (by rw [swp_len]; omega) hn (by omega) (by omega) h3'.out.1) ?_; rintro _ _ ⟨rfl, m', k1, k2, rfl⟩)) <;> (try refine h0b ?_)) | (refine gR 9 (q_m ?_) <;> (try refine q_e (q_b (r:=by apply h1c; exact c_6; (focus (refine IntWalk.i64_in _ ?_; omega)))) ?_) <;> (try refine p_a (h:=h0b ?_))))
    refine h0p (i, m') ⟨⟨by simp; omega, (h2.trans (.swp (by omega) (by omega) (by omega))).trans (k1.wide (by omega) (by omega)), Pop.next (by omega) h3'.out.2.1 h3'.out.2.2 k1 k2⟩, by simp⟩ (by (focus (repeat (first | exact Sub.nil | refine Sub.cons rfl ?_ | (refine Sub.cons (congrArg some ?_) ?_; (focus go_num)))))) (fun _ H => H)
  ·obtain rfl : i = 0 := by omega
   repeat' (first | refine h0j ?_ | refine h0d ?_ | refine h1l ?_ | refine h0z ?_ | refine h1i ?_ | refine h1u ?_ | refine h0g rfl ?_ | (refine gR 8 (p_m (h:=p_e (q_b (r:=by exact h2n q_o)) (h:=h0b ?_)))))
   (first | refine h1b Try.results19 .nil ?_ | refine h2u Try.results19 .nil ?_)
   exact ⟨_, ⟨rfl, m, h2, h3.srt, rfl⟩, fun _ H => H⟩
end Go.Proofs.Ytfhmalanbdjgfaa
