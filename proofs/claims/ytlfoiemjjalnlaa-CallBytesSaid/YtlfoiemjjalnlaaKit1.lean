/- Rules for walks whose memory is told by a list of known blocks ('HP'): loads, stores, new blocks. Conditions: none beyond each rule's own premises. -/
import Derived.WalkKit
namespace Go.Proofs.Ytlfoiemjjalnlaa
open Go Go.RowKit

/-- hides a fact from the walk -/
theorem hide {p : Prop} (h : p) : Hid p := h

/-- A block that is known: may it be written, its number, what it holds. -/
structure Blk where
  wr : Bool
  b : Nat
  o : Obj

/-- From w0 to w only the blocks S, and new ones, have turned; the blocks L hold what they say. -/
structure HP (S : List Nat) (w0 w : World) (L : List Blk) : Prop where
  os : w.os = w0.os
  tape : w.tape = w0.tape
  output : w.output = w0.output
  size : w0.heap.size ≤ w.heap.size
  keep : ∀ k, k < w0.heap.size → k ∉ S → w.heap[k]? = w0.heap[k]?
  get : ∀ p ∈ L, w.heap[p.b]? = some p.o
  own : ∀ p ∈ L, p.wr = true → p.b ∈ S ∨ w0.heap.size ≤ p.b
  sep : L.Pairwise fun p q => (p.wr = true ∨ q.wr = true) → p.b ≠ q.b

namespace HP
variable {S : List Nat} {w0 w : World} {L : List Blk}

theorem start (w : World) : HP [] w w [] :=
  ⟨rfl, rfl, rfl, Nat.le_refl _, fun _ _ _ => rfl, by simp, by simp, .nil⟩

theorem below (H : HP [] w0 w L) : Below w0.heap.size w0 w :=
  ⟨H.os, H.tape, H.output, H.size, fun k hk => H.keep k hk (by simp)⟩

theorem at_ (H : HP S w0 w L) (i : Nat) {p : Blk} (hi : L[i]? = some p) : w.heap[p.b]? = some p.o :=
  H.get p (List.mem_of_getElem? hi)

theorem lt (H : HP S w0 w L) (i : Nat) {p : Blk} (hi : L[i]? = some p) : p.b < w.heap.size := by
  have h := H.at_ i hi
  rcases Nat.lt_or_ge p.b w.heap.size with h' | h'
  · exact h'
  · simp [Array.getElem?_eq_none h'] at h

theorem ltm (H : HP S w0 w L) {p : Blk} (hi : p ∈ L) : p.b < w.heap.size := by
  obtain ⟨i, h⟩ := List.getElem?_of_mem hi
  exact H.lt i h

theorem sub {L' : List Blk} (H : HP S w0 w L) (h : L'.Sublist L) : HP S w0 w L' :=
  ⟨H.os, H.tape, H.output, H.size, H.keep, fun p hp => H.get p (h.subset hp), fun p hp => H.own p (h.subset hp), H.sep.sublist h⟩

theorem tail {x : Blk} (H : HP S w0 w (x :: L)) : HP S w0 w L := H.sub (List.sublist_cons_self _ _)

theorem dropTo {L' : List Blk} (H : HP S w0 w L) (n : Nat) (h : L.drop n = L') : HP S w0 w L' := h ▸ H.sub (List.drop_sublist n L)

theorem perm {L' : List Blk} (H : HP S w0 w L) (h : L.Perm L') : HP S w0 w L' :=
  ⟨H.os, H.tape, H.output, H.size, H.keep, fun p hp => H.get p (h.mem_iff.2 hp), fun p hp => H.own p (h.mem_iff.2 hp),
    (h.pairwise_iff (fun {_ _} f g => (f (g.symm)).symm)).1 H.sep⟩

/-- a draw turns no block -/
theorem drew (H : HP S w0 w L) : HP S w0 w.drew L := ⟨H.os, H.tape, H.output, H.size, H.keep, H.get, H.own, H.sep⟩

/-- a new block -/
theorem alloc (H : HP S w0 w L) (o : Obj) : HP S w0 (w.alloc o) (⟨true, w.heap.size, o⟩ :: L) := by
  refine ⟨H.os, H.tape, H.output, by simp; exact Nat.le_succ_of_le H.size, ?_, ?_, ?_, ?_⟩
  · intro k hk hS
    rw [heap_alloc_old (h := Nat.lt_of_lt_of_le hk H.size)]
    exact H.keep k hk hS
  · intro p hp
    rcases List.mem_cons.1 hp with rfl | hp
    · exact heap_alloc_new w o
    · rw [heap_alloc_old (h := H.ltm hp)]
      exact H.get p hp
  · intro p hp hw
    rcases List.mem_cons.1 hp with rfl | hp
    · exact .inr H.size
    · exact H.own p hp hw
  · refine List.Pairwise.cons (fun q hq _ => ?_) H.sep
    have := H.ltm hq
    simp only
    omega

/-- a block that may be written, as it is behind a write -/
theorem turn (H : HP S w0 w L) (i : Nat) {b : Nat} {o : Obj} (hi : L[i]? = some ⟨true, b, o⟩) (w' : World) (o' : Obj)
    (hos : w'.os = w.os) (htape : w'.tape = w.tape) (hout : w'.output = w.output) (hsz : w'.heap.size = w.heap.size)
    (hat : w'.heap[b]? = some o') (hold : ∀ k, k ≠ b → w'.heap[k]? = w.heap[k]?) : HP S w0 w' (L.set i ⟨true, b, o'⟩) := by
  have hlen : i < L.length := by
    rcases Nat.lt_or_ge i L.length with h' | h'
    · exact h'
    · simp [List.getElem?_eq_none h'] at hi
  have hmem : (⟨true, b, o⟩ : Blk) ∈ L := List.mem_of_getElem? hi
  have hne : ∀ j q, L[j]? = some q → j ≠ i → q.b ≠ b := by
    intro j q hj hji
    have hsep := List.pairwise_iff_getElem.1 H.sep
    have hjl : j < L.length := by
      rcases Nat.lt_or_ge j L.length with h' | h'
      · exact h'
      · simp [List.getElem?_eq_none h'] at hj
    have ei : L[i] = ⟨true, b, o⟩ := by simpa [List.getElem?_eq_getElem hlen] using hi
    have ej : L[j] = q := by simpa [List.getElem?_eq_getElem hjl] using hj
    rcases Nat.lt_or_gt_of_ne hji with h | h
    · have := hsep j i hjl hlen h
      rw [ei, ej] at this
      exact this (.inr rfl)
    · have := hsep i j hlen hjl h
      rw [ei, ej] at this
      exact fun e => this (.inl rfl) e.symm
  refine ⟨hos.trans H.os, htape.trans H.tape, hout.trans H.output, hsz ▸ H.size, ?_, ?_, ?_, ?_⟩
  · intro k hk hS
    rcases H.own _ hmem rfl with h | h
    · rw [hold k (fun e => hS (e ▸ h))]; exact H.keep k hk hS
    · rw [hold k (fun e => by simp only at h; omega)]; exact H.keep k hk hS
  · intro p hp
    obtain ⟨j, hj⟩ := List.getElem?_of_mem hp
    by_cases hji : j = i
    · subst hji
      rw [List.getElem?_set_self hlen] at hj
      obtain rfl := Option.some.inj hj
      exact hat
    · rw [List.getElem?_set_ne (fun e => hji e.symm)] at hj
      rw [hold p.b (hne j p hj hji)]
      exact H.at_ j hj
  · intro p hp hw
    obtain ⟨j, hj⟩ := List.getElem?_of_mem hp
    by_cases hji : j = i
    · subst hji
      rw [List.getElem?_set_self hlen] at hj
      obtain rfl := Option.some.inj hj
      exact H.own ⟨true, b, o⟩ hmem rfl
    · rw [List.getElem?_set_ne (fun e => hji e.symm)] at hj
      exact H.own _ (List.mem_of_getElem? hj) hw
  · have hmap : (L.set i ⟨true, b, o'⟩).map (fun p => (p.wr, p.b)) = L.map (fun p => (p.wr, p.b)) := by
      rw [List.map_set]
      apply List.ext_getElem?
      intro j
      by_cases hji : j = i
      · subst hji
        rw [List.getElem?_set_self (by simpa using hlen), List.getElem?_map, hi]
        rfl
      · rw [List.getElem?_set_ne (fun e => hji e.symm)]
    have h1 := H.sep
    have key : ∀ l : List Blk, l.Pairwise (fun p q => (p.wr = true ∨ q.wr = true) → p.b ≠ q.b) ↔ (l.map (fun p => (p.wr, p.b))).Pairwise (fun p q => (p.1 = true ∨ q.1 = true) → p.2 ≠ q.2) := by
      intro l; rw [List.pairwise_map]
    rw [key] at h1 ⊢
    rw [hmap]; exact h1

end HP

/-! ### rules of operations -/
section rules
variable {P : Program} {o : Oper} {a : Act} {w w0 : World} {K : Act → World → Prop} {Q : Exit → Act → World → Prop} {S : List Nat} {L : List Blk}

/-- is a type's value one of several cells? -/
def aggB (P : Program) (t : TypeId) : Bool := match P.underlying t with | some (.struct _) | some (.array _ _) => true | _ => false

theorem run_isAgg_of {t : TypeId} {x : Bool} (hu : (P.underlying t).isSome = true) (h : aggB P t = x) (w : World) : (isAgg t).run P w = .ok x w := by
  cases hq : P.underlying t with
  | none => simp [hq] at hu
  | some d =>
    unfold isAgg
    rw [Sem.run_bind, run_underlying hq w]
    subst h
    unfold aggB
    rw [hq]
    cases d <;> simp

theorem run_sizeOf_of {t : TypeId} {n : Nat} (h : (P.info? t).map (·.size) = some n) (w : World) : (sizeOf t).run P w = .ok n w := by
  cases hq : P.info? t with
  | none => simp [hq] at h
  | some i => simp [sizeOf, typeInfo, hq] at h ⊢; exact h

theorem wp_alloc_agg (e : TypeId) (cs : Array Value) (ho : o.op = .alloc e) (hz : ∀ w, (zeroValue e).run P w = .ok (.agg cs) w) (H : HP S w0 w L)
    (h : ∀ nb w', w0.heap.size ≤ nb → HP S w0 w' (⟨true, nb, .cells cs e (0, 0)⟩ :: L) → K (a.put o.dst (.pointer (some ⟨nb, 0, none⟩))) w') : o.wp P a w K Q := by
  unfold Oper.wp execOp
  simp only [ho, Instr.alloc, Sem.run_bind, hz, Result.andThen_ok, newVar, newRow, Value.cells, run_newObj, Sem.run_pure]
  exact h _ _ H.size (H.alloc _)

theorem wp_alloc_one (e : TypeId) (v : Value) (ho : o.op = .alloc e) (hz : ∀ w, (zeroValue e).run P w = .ok v w) (hv : v.cells = #[v]) (H : HP S w0 w L)
    (h : ∀ nb w', w0.heap.size ≤ nb → HP S w0 w' (⟨true, nb, .cells #[v] e (0, 0)⟩ :: L) → K (a.put o.dst (.pointer (some ⟨nb, 0, none⟩))) w') : o.wp P a w K Q := by
  unfold Oper.wp execOp
  simp only [ho, Instr.alloc, Sem.run_bind, hz, Result.andThen_ok, newVar, newRow, hv, run_newObj, Sem.run_pure]
  exact h _ _ H.size (H.alloc _)

theorem wp_box_agg (e : TypeId) (x : Operand) (cs : Array Value) (ho : o.op = .box e x) (hx : a.eval x = .agg cs) (H : HP S w0 w L)
    (h : ∀ nb w', w0.heap.size ≤ nb → HP S w0 w' (⟨true, nb, .cells cs e (0, 0)⟩ :: L) → K (a.put o.dst (.pointer (some ⟨nb, 0, none⟩))) w') : o.wp P a w K Q := by
  unfold Oper.wp execOp
  simp only [ho, hx, Instr.box, Sem.run_bind, Result.andThen_ok, newVar, newRow, Value.cells, run_newObj, Sem.run_pure]
  exact h _ _ H.size (H.alloc _)

theorem wp_box_one (e : TypeId) (x : Operand) (v : Value) (ho : o.op = .box e x) (hx : a.eval x = v) (hv : v.cells = #[v]) (H : HP S w0 w L)
    (h : ∀ nb w', w0.heap.size ≤ nb → HP S w0 w' (⟨true, nb, .cells #[v] e (0, 0)⟩ :: L) → K (a.put o.dst (.pointer (some ⟨nb, 0, none⟩))) w') : o.wp P a w K Q := by
  unfold Oper.wp execOp
  simp only [ho, hx, Instr.box, Sem.run_bind, Result.andThen_ok, newVar, newRow, hv, run_newObj, Sem.run_pure]
  exact h _ _ H.size (H.alloc _)

theorem cell_at (H : HP S w0 w L) (i : Nat) {q : Bool} {b off : Nat} {cs : Array Value} {t : TypeId} {fr : Nat × Nat} (hi : L[i]? = some ⟨q, b, .cells cs t fr⟩) :
    w.cell? ⟨b, off, none⟩ = cs[off]? := cell_of_row w b off cs t fr (H.at_ i hi)

/-- one cell is loaded -/
theorem wp_load_one (H : HP S w0 w L) (i : Nat) {ty : TypeId} {x : Operand} {q : Bool} {b off : Nat} {cs : Array Value} {t : TypeId} {fr : Nat × Nat} {v : Value} (ho : o.op = .load ty x)
    (hx : a.eval x = .pointer (some ⟨b, off, none⟩)) (hi : L[i]? = some ⟨q, b, .cells cs t fr⟩) (hv : cs[off]? = some v)
    (hu : (P.underlying ty).isSome = true) (hd : aggB P ty = false) (h : K (a.put o.dst v) w) : o.wp P a w K Q := by
  unfold Oper.wp execOp
  have hc : w.cell? ⟨b, off, none⟩ = some v := (cell_at H i hi).trans hv
  simp only [ho, hx, Instr.loadAt, Instr.sureAddr, loadVar, Sem.run_bind, Sem.run_pure, Result.andThen_ok, run_isAgg_of hu hd, Bool.false_eq_true, if_false, run_load, hc]
  exact h

/-- several cells are loaded -/
theorem wp_load_agg (H : HP S w0 w L) (i : Nat) {ty : TypeId} {x : Operand} {q : Bool} {b off n : Nat} {cs : Array Value} {t : TypeId} {fr : Nat × Nat} (vs : Array Value) (ho : o.op = .load ty x)
    (hx : a.eval x = .pointer (some ⟨b, off, none⟩)) (hi : L[i]? = some ⟨q, b, .cells cs t fr⟩) (hn : (P.info? ty).map (·.size) = some n) (hle : off + n ≤ cs.size) (hvs : cs.extract off (off + n) = vs)
    (hu : (P.underlying ty).isSome = true) (hd : aggB P ty = true) (h : K (a.put o.dst (.agg vs)) w) : o.wp P a w K Q := by
  unfold Oper.wp execOp
  have hl : (loadCells ⟨b, off, none⟩ vs.toList.length).run P w = .ok vs.toList.toArray w :=
    run_loadCells_list (P := P) w ⟨b, off, none⟩ vs.toList (fun j v hv => by
      have hadd : (⟨b, off, none⟩ : Addr).add j = ⟨b, off + j, none⟩ := by unfold Addr.add; split <;> simp_all
      rw [hadd, cell_at H i hi]
      subst hvs
      simp only [Array.getElem?_toList, Array.getElem?_extract] at hv
      split at hv
      · exact hv
      · simp at hv)
  have hlen : vs.toList.length = n := by subst hvs; simp; omega
  rw [hlen] at hl
  simp only [ho, hx, Instr.loadAt, Instr.sureAddr, loadVar, Sem.run_bind, Sem.run_pure, Result.andThen_ok, run_isAgg_of hu hd, if_true, run_sizeOf_of hn, hl, Array.toArray_toList]
  exact h

/-- a whole block is loaded -/
theorem wp_load_all (H : HP S w0 w L) (i : Nat) {ty : TypeId} {x : Operand} {q : Bool} {b : Nat} {cs : Array Value} {t : TypeId} {fr : Nat × Nat} (ho : o.op = .load ty x)
    (hx : a.eval x = .pointer (some ⟨b, 0, none⟩)) (hi : L[i]? = some ⟨q, b, .cells cs t fr⟩) {n : Nat} (hs : cs.size = n) (hn : (P.info? ty).map (·.size) = some n)
    (hu : (P.underlying ty).isSome = true) (hd : aggB P ty = true) (h : K (a.put o.dst (.agg cs)) w) : o.wp P a w K Q :=
  wp_load_agg H i cs ho hx hi hn (by omega) (by rw [← hs]; simp) hu hd h

theorem frozen_at (H : HP S w0 w L) (i : Nat) {b off : Nat} {cs : Array Value} {t : TypeId} (hi : L[i]? = some ⟨true, b, .cells cs t (0, 0)⟩) :
    w.frozen? ⟨b, off, none⟩ = false := frozen_of_row w b off cs t (H.at_ i hi)

/-- several cells are stored -/
theorem run_storeCells_hp {i b off : Nat} {t : TypeId} : ∀ (vs : List Value) (j : Nat) (cs : Array Value) (w : World) (L : List Blk), HP S w0 w L → L[i]? = some ⟨true, b, .cells cs t (0, 0)⟩ → (∀ v ∈ vs, v.oneCell' = true) → off + j + vs.length ≤ cs.size →
    ∃ w' cs', (storeCells ⟨b, off, none⟩ vs j).run P w = .ok () w' ∧ HP S w0 w' (L.set i ⟨true, b, .cells cs' t (0, 0)⟩) ∧ cs'.toList = cs.toList.take (off + j) ++ vs ++ cs.toList.drop (off + j + vs.length)
  | [], j, cs, w, L, H, hi, _, _ => by
    refine ⟨w, cs, rfl, ?_, by simp⟩
    have : L.set i ⟨true, b, .cells cs t (0, 0)⟩ = L := by
      apply List.ext_getElem?
      intro k
      by_cases hk : k = i
      · subst hk
        have hlen : k < L.length := by
          rcases Nat.lt_or_ge k L.length with h' | h'
          · exact h'
          · simp [List.getElem?_eq_none h'] at hi
        rw [List.getElem?_set_self hlen, hi]
      · rw [List.getElem?_set_ne (fun e => hk e.symm)]
    rw [this]; exact H
  | v :: vs, j, cs, w, L, H, hi, hone, hle => by
    have hlen : i < L.length := by
      rcases Nat.lt_or_ge i L.length with h' | h'
      · exact h'
      · simp [List.getElem?_eq_none h'] at hi
    have hadd : (⟨b, off, none⟩ : Addr).add j = ⟨b, off + j, none⟩ := by unfold Addr.add; split <;> simp_all
    have hoff : off + j < cs.size := by simp at hle; omega
    have hc : w.cell? ⟨b, off + j, none⟩ = some cs[off + j] := by rw [cell_at H i hi]; simp [hoff]
    have hst : (store ((⟨b, off, none⟩ : Addr).add j) v).run P w = .ok () (w.setCell ⟨b, off + j, none⟩ v) := by
      rw [hadd, run_store P w _ v _ (hone v (by simp)), hc]
      simp [frozen_at H i hi]
    have H1 := H.turn i hi (w.setCell ⟨b, off + j, none⟩ v) (.cells (cs.setIfInBounds (off + j) v) t (0, 0)) rfl rfl rfl (by simp)
      (by rw [heap_setCell_same w b (off + j) cs t v (H.at_ i hi)]) (fun k hk => heap_setCell_other w _ k v hk)
    obtain ⟨w', cs', hr, H', hcs⟩ := run_storeCells_hp (off := off) (t := t) vs (j + 1) (cs.setIfInBounds (off + j) v) _ _ H1 (by rw [List.getElem?_set_self hlen]) (fun x hx => hone x (by simp [hx])) (by simp at hle ⊢; omega)
    refine ⟨w', cs', ?_, by simpa using H', ?_⟩
    · simp only [storeCells, Sem.run_bind, hst, Result.andThen_ok, hr]
    · rw [hcs]
      simp only [Array.toList_setIfInBounds, List.length_cons]
      have h1 : (cs.toList.set (off + j) v).take (off + (j + 1)) = cs.toList.take (off + j) ++ [v] := by
        rw [← Nat.add_assoc, List.take_add_one, List.getElem?_set_self (by simpa using hoff), List.take_set_of_le (by omega)]
        simp
      have h2 : (cs.toList.set (off + j) v).drop (off + (j + 1) + vs.length) = cs.toList.drop (off + j + (vs.length + 1)) := by
        rw [List.drop_set_of_lt (by omega)]
        congr 1; omega
      rw [h1, h2]; simp

theorem wp_store (H : HP S w0 w L) (i : Nat) {ty : TypeId} {x y : Operand} {b off n : Nat} {cs : Array Value} {t : TypeId} (v : Value) (cs' : Array Value) (ho : o.op = .store ty x y)
    (hx : a.eval x = .pointer (some ⟨b, off, none⟩)) (hy : a.eval y = v) (hi : L[i]? = some ⟨true, b, .cells cs t (0, 0)⟩) (hn : (P.info? ty).map (·.size) = some n) (hvn : v.cells.size = n)
    (hone : v.cells.toList.all (·.oneCell') = true) (hle : off + n ≤ cs.size) (hcs : cs.toList.take off ++ v.cells.toList ++ cs.toList.drop (off + n) = cs'.toList)
    (h : ∀ w', HP S w0 w' (L.set i ⟨true, b, .cells cs' t (0, 0)⟩) → K (a.put o.dst undef) w') : o.wp P a w K Q := by
  obtain ⟨w', cs2, hr, H', hcs2⟩ := run_storeCells_hp (P := P) (i := i) (off := off) v.cells.toList 0 cs w L H hi (List.all_eq_true.1 hone) (by simp; omega)
  have e : cs2 = cs' := by
    apply Array.ext'
    rw [hcs2, ← hcs]; simp [hvn]
  subst e
  unfold Oper.wp execOp
  simp only [ho, hx, hy, Instr.storeAt, Instr.sureAddr, storeVar, Sem.run_bind, Sem.run_pure, Result.andThen_ok, run_sizeOf_of hn, hvn, ne_eq, not_true, if_false, hr]
  exact h _ H'

/-- one cell is stored -/
theorem wp_store_one (H : HP S w0 w L) (i : Nat) {ty : TypeId} {x y : Operand} {b off : Nat} {cs : Array Value} {t : TypeId} {v : Value} (ho : o.op = .store ty x y)
    (hx : a.eval x = .pointer (some ⟨b, off, none⟩)) (hy : a.eval y = v) (hv : v.cells = #[v]) (hv1 : v.oneCell' = true) (hi : L[i]? = some ⟨true, b, .cells cs t (0, 0)⟩) (hn : (P.info? ty).map (·.size) = some 1)
    (hle : off < cs.size)
    (h : ∀ w', HP S w0 w' (L.set i ⟨true, b, .cells (cs.setIfInBounds off v) t (0, 0)⟩) → K (a.put o.dst undef) w') : o.wp P a w K Q := by
  refine wp_store H i v (cs.setIfInBounds off v) ho hx hy hi hn (by simp [hv]) (by simp [hv, hv1]) hle ?_ h
  rw [hv, Array.toList_setIfInBounds, List.set_eq_take_append_cons_drop, if_pos (by simpa using hle)]
  simp

/-! ### the same, as the first of a list of operations without a guard -/
variable {ops : Array Oper} {rest : List Oper}

theorem hp_alloc_agg (e : TypeId) (cs : Array Value) (H : HP S w0 w L) (hg : Region.wanted o (yielded ops a.tmps) = true) (ho : o.op = .alloc e) (hz : ∀ w, (zeroValue e).run P w = .ok (.agg cs) w)
    (h : ∀ nb w', w0.heap.size ≤ nb → HP S w0 w' (⟨true, nb, .cells cs e (0, 0)⟩ :: L) → wpList P ops Q rest (a.put o.dst (.pointer (some ⟨nb, 0, none⟩))) w') : wpList P ops Q (o :: rest) a w :=
  BigFrame.wpList_want hg fun _ hK => wp_alloc_agg e cs ho hz H fun nb w' hnb H => hK _ _ (h nb w' hnb H)

theorem hp_alloc_one (e : TypeId) (v : Value) (H : HP S w0 w L) (hg : Region.wanted o (yielded ops a.tmps) = true) (ho : o.op = .alloc e) (hz : ∀ w, (zeroValue e).run P w = .ok v w) (hv : v.cells = #[v])
    (h : ∀ nb w', w0.heap.size ≤ nb → HP S w0 w' (⟨true, nb, .cells #[v] e (0, 0)⟩ :: L) → wpList P ops Q rest (a.put o.dst (.pointer (some ⟨nb, 0, none⟩))) w') : wpList P ops Q (o :: rest) a w :=
  BigFrame.wpList_want hg fun _ hK => wp_alloc_one e v ho hz hv H fun nb w' hnb H => hK _ _ (h nb w' hnb H)

theorem hp_box_agg (H : HP S w0 w L) {e : TypeId} {x : Operand} {cs : Array Value} (hg : Region.wanted o (yielded ops a.tmps) = true) (ho : o.op = .box e x) (hx : a.eval x = .agg cs)
    (h : ∀ nb w', w0.heap.size ≤ nb → HP S w0 w' (⟨true, nb, .cells cs e (0, 0)⟩ :: L) → wpList P ops Q rest (a.put o.dst (.pointer (some ⟨nb, 0, none⟩))) w') : wpList P ops Q (o :: rest) a w :=
  BigFrame.wpList_want hg fun _ hK => wp_box_agg e x cs ho hx H fun nb w' hnb H => hK _ _ (h nb w' hnb H)

theorem hp_box_one (H : HP S w0 w L) {e : TypeId} {x : Operand} {v : Value} (hg : Region.wanted o (yielded ops a.tmps) = true) (ho : o.op = .box e x) (hx : a.eval x = v) (hv : v.cells = #[v])
    (h : ∀ nb w', w0.heap.size ≤ nb → HP S w0 w' (⟨true, nb, .cells #[v] e (0, 0)⟩ :: L) → wpList P ops Q rest (a.put o.dst (.pointer (some ⟨nb, 0, none⟩))) w') : wpList P ops Q (o :: rest) a w :=
  BigFrame.wpList_want hg fun _ hK => wp_box_one e x v ho hx hv H fun nb w' hnb H => hK _ _ (h nb w' hnb H)

theorem hp_load_one (H : HP S w0 w L) (i : Nat) {ty : TypeId} {x : Operand} {q : Bool} {b off : Nat} {cs : Array Value} {t : TypeId} {fr : Nat × Nat} {v : Value} (hg : Region.wanted o (yielded ops a.tmps) = true) (ho : o.op = .load ty x)
    (hx : a.eval x = .pointer (some ⟨b, off, none⟩)) (hi : L[i]? = some ⟨q, b, .cells cs t fr⟩) (hu : (P.underlying ty).isSome = true) (hd : aggB P ty = false) (hv : cs[off]? = some v)
    (h : wpList P ops Q rest (a.put o.dst v) w) : wpList P ops Q (o :: rest) a w :=
  BigFrame.wpList_want hg fun _ hK => wp_load_one H i ho hx hi hv hu hd (hK _ _ h)

theorem hp_load_agg (H : HP S w0 w L) (i : Nat) {ty : TypeId} {x : Operand} {q : Bool} {b off n : Nat} {cs : Array Value} {t : TypeId} {fr : Nat × Nat} (vs : Array Value) (hg : Region.wanted o (yielded ops a.tmps) = true) (ho : o.op = .load ty x)
    (hx : a.eval x = .pointer (some ⟨b, off, none⟩)) (hi : L[i]? = some ⟨q, b, .cells cs t fr⟩) (hu : (P.underlying ty).isSome = true) (hd : aggB P ty = true) (hn : (P.info? ty).map (·.size) = some n)
    (hle : off + n ≤ cs.size) (hvs : cs.extract off (off + n) = vs) (h : wpList P ops Q rest (a.put o.dst (.agg vs)) w) : wpList P ops Q (o :: rest) a w :=
  BigFrame.wpList_want hg fun _ hK => wp_load_agg H i vs ho hx hi hn hle hvs hu hd (hK _ _ h)

theorem hp_load_all (H : HP S w0 w L) (i : Nat) {ty : TypeId} {x : Operand} {q : Bool} {b : Nat} {cs : Array Value} {t : TypeId} {fr : Nat × Nat} (hg : Region.wanted o (yielded ops a.tmps) = true) (ho : o.op = .load ty x)
    (hx : a.eval x = .pointer (some ⟨b, 0, none⟩)) (hi : L[i]? = some ⟨q, b, .cells cs t fr⟩) (hu : (P.underlying ty).isSome = true) (hd : aggB P ty = true) {n : Nat} (hs : cs.size = n) (hn : (P.info? ty).map (·.size) = some n)
    (h : wpList P ops Q rest (a.put o.dst (.agg cs)) w) : wpList P ops Q (o :: rest) a w :=
  BigFrame.wpList_want hg fun _ hK => wp_load_all H i ho hx hi hs hn hu hd (hK _ _ h)

theorem hp_store_one (H : HP S w0 w L) (i : Nat) {ty : TypeId} {x y : Operand} {b off : Nat} {cs : Array Value} {t : TypeId} {v : Value} (hg : Region.wanted o (yielded ops a.tmps) = true) (ho : o.op = .store ty x y)
    (hx : a.eval x = .pointer (some ⟨b, off, none⟩)) (hy : a.eval y = v) (hv : v.cells = #[v]) (hv1 : v.oneCell' = true) (hi : L[i]? = some ⟨true, b, .cells cs t (0, 0)⟩) (hn : (P.info? ty).map (·.size) = some 1)
    (hle : off < cs.size)
    (h : ∀ w', HP S w0 w' (L.set i ⟨true, b, .cells (cs.setIfInBounds off v) t (0, 0)⟩) → wpList P ops Q rest (a.put o.dst undef) w') : wpList P ops Q (o :: rest) a w :=
  BigFrame.wpList_want hg fun _ hK => wp_store_one H i ho hx hy hv hv1 hi hn hle fun w' H => hK _ _ (h w' H)

theorem hp_store (H : HP S w0 w L) (i : Nat) {ty : TypeId} {x y : Operand} {b off n : Nat} {cs : Array Value} {t : TypeId} {v : Value} (cs' : Array Value) (hg : Region.wanted o (yielded ops a.tmps) = true) (ho : o.op = .store ty x y)
    (hx : a.eval x = .pointer (some ⟨b, off, none⟩)) (hy : a.eval y = v) (hi : L[i]? = some ⟨true, b, .cells cs t (0, 0)⟩) (hn : (P.info? ty).map (·.size) = some n) (hvn : v.cells.size = n)
    (hone : v.cells.toList.all (·.oneCell') = true) (hle : off + n ≤ cs.size) (hcs : cs.toList.take off ++ v.cells.toList ++ cs.toList.drop (off + n) = cs'.toList)
    (h : ∀ w', HP S w0 w' (L.set i ⟨true, b, .cells cs' t (0, 0)⟩) → wpList P ops Q rest (a.put o.dst undef) w') : wpList P ops Q (o :: rest) a w :=
  BigFrame.wpList_want hg fun _ hK => wp_store H i v cs' ho hx hy hi hn hvn hone hle hcs fun w' H => hK _ _ (h w' H)

/-- a whole block is stored -/
theorem hp_store_all (H : HP S w0 w L) (i : Nat) {ty : TypeId} {x y : Operand} {b : Nat} {cs cs' : Array Value} {t : TypeId} (hg : Region.wanted o (yielded ops a.tmps) = true) (ho : o.op = .store ty x y)
    (hx : a.eval x = .pointer (some ⟨b, 0, none⟩)) (hy : a.eval y = .agg cs') (hi : L[i]? = some ⟨true, b, .cells cs t (0, 0)⟩) {n : Nat} (hn : (P.info? ty).map (·.size) = some n) (hs : cs.size = n) (hs' : cs'.size = n)
    (hone : cs'.toList.all (·.oneCell') = true)
    (h : ∀ w', HP S w0 w' (L.set i ⟨true, b, .cells cs' t (0, 0)⟩) → wpList P ops Q rest (a.put o.dst undef) w') : wpList P ops Q (o :: rest) a w :=
  hp_store H i cs' hg ho hx hy hi hn hs' hone (by omega) (by simp [Value.cells]; omega) h

/-! ### where a rule of memory does not fit, the walk is to stop -/
def Stop (p : Prop) : Prop := p
theorem stop_load {ty : TypeId} {x : Operand} (_hg : Region.wanted o (yielded ops a.tmps) = true) (_ho : o.op = .load ty x) (h : Stop (wpList P ops Q (o :: rest) a w)) : wpList P ops Q (o :: rest) a w := h
theorem stop_store {ty : TypeId} {x y : Operand} (_hg : Region.wanted o (yielded ops a.tmps) = true) (_ho : o.op = .store ty x y) (h : Stop (wpList P ops Q (o :: rest) a w)) : wpList P ops Q (o :: rest) a w := h
theorem stop_alloc {ty : TypeId} (_hg : Region.wanted o (yielded ops a.tmps) = true) (_ho : o.op = .alloc ty) (h : Stop (wpList P ops Q (o :: rest) a w)) : wpList P ops Q (o :: rest) a w := h
theorem stop_box {ty : TypeId} {x : Operand} (_hg : Region.wanted o (yielded ops a.tmps) = true) (_ho : o.op = .box ty x) (h : Stop (wpList P ops Q (o :: rest) a w)) : wpList P ops Q (o :: rest) a w := h

end rules
end Go.Proofs.Ytlfoiemjjalnlaa
