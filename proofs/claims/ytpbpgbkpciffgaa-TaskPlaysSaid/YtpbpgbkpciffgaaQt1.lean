/- Part 1 of what the last text of this claim leans on: rules of walks, contracts, plain facts. Conditions: those of each statement. -/
import Derived.WalkKit
import Derived.Deep.QuietTactic
import Derived.OrdersHeld
import Derived.Lib.Hide
import Derived.Laws.Strings
import Derived.Test.YtpbpgbkpciffgaaRows
import Derived.MapKept
import Derived.Maps.RangeRun
import Derived.Laws.LoneSync
import Derived.Laws.BytesArg
import Derived.ProofKit
import Derived.OpenShut
import Derived.ShutString
import Derived.ChangeOld
set_option maxRecDepth 100000
namespace Go.Proofs.Ytpbpgbkpciffgaa
open Go Go.RowKit
theorem zzE {α : Type} {a : α} {xs : List α} {i : Nat} : (a :: xs).eraseIdx (i + 1) = a :: xs.eraseIdx i := rfl
theorem zzF {α : Type} {a : α} {xs : List α} : (a :: xs).eraseIdx 0 = xs := rfl
theorem zzC {α : Type} {a : α} {xs bs : List α} : (a :: xs) ++ bs = a :: (xs ++ bs) := rfl
theorem zzN {α : Type} {xs : List α} : ([] : List α) ++ xs = xs := rfl
structure Blk where
 wr : Bool
 b : Nat
 o : Obj
structure HP (S : List Nat) (w0 w : World) (L : List Blk) : Prop where
 os : w.os = w0.os
 tape : w.tape = w0.tape
 output : w.output = w0.output
 size : w0.heap.size ≤ w.heap.size
 keep : ∀ k, k < w0.heap.size → k ∉ S → w.heap[k]? = w0.heap[k]?
 get : ∀ p ∈ L, w.heap[p.b]? = some p.o
 own : ∀ p ∈ L, p.wr = true → p.b ∈ S ∨ w0.heap.size ≤ p.b
 sep : L.Pairwise fun p q => (p.wr = true ∨ q.wr = true) → p.b ≠ q.b
namespace HP
variable {S : List Nat} {w0 w : World} {L : List Blk}
theorem start (w : World) : HP [] w w [] :=
 ⟨rfl, rfl, rfl, Nat.le_refl _, fun _ _ _ => rfl, by simp, by simp, .nil⟩
theorem below (H : HP [] w0 w L) : Below w0.heap.size w0 w :=
 ⟨H.os, H.tape, H.output, H.size, fun k hk => H.keep k hk (by simp)⟩
theorem at_ (H : HP S w0 w L) (i : Nat) {p : Blk} (hi : L[i]? = some p) : w.heap[p.b]? = some p.o :=
 H.get p (List.mem_of_getElem? hi)
theorem lt (H : HP S w0 w L) (i : Nat) {p : Blk} (hi : L[i]? = some p) : p.b < w.heap.size := by
 have h := H.at_ i hi
 rcases Nat.lt_or_ge p.b w.heap.size with h' | h'
 ·exact h'
 ·simp [Array.getElem?_eq_none h'] at h
theorem ltm (H : HP S w0 w L) {p : Blk} (hi : p ∈ L) : p.b < w.heap.size := by
 obtain ⟨i, h⟩ := List.getElem?_of_mem hi
 exact H.lt i h
theorem sub {L' : List Blk} (H : HP S w0 w L) (h : L'.Sublist L) : HP S w0 w L' :=
 ⟨H.os, H.tape, H.output, H.size, H.keep, fun p hp => H.get p (h.subset hp), fun p hp => H.own p (h.subset hp), H.sep.sublist h⟩
theorem tail {x : Blk} (H : HP S w0 w (x :: L)) : HP S w0 w L := H.sub (List.sublist_cons_self _ _)
theorem perm {L' : List Blk} (H : HP S w0 w L) (h : L.Perm L') : HP S w0 w L' :=
 ⟨H.os, H.tape, H.output, H.size, H.keep, fun p hp => H.get p (h.mem_iff.2 hp), fun p hp => H.own p (h.mem_iff.2 hp),
  (h.pairwise_iff (fun {_ _} f g => (f (g.symm)).symm)).1 H.sep⟩
theorem drew (H : HP S w0 w L) : HP S w0 w.drew L := ⟨H.os, H.tape, H.output, H.size, H.keep, H.get, H.own, H.sep⟩
theorem alloc (H : HP S w0 w L) (o : Obj) : HP S w0 (w.alloc o) (⟨true, w.heap.size, o⟩ :: L) := by
 refine ⟨H.os, H.tape, H.output, by simp; exact Nat.le_succ_of_le H.size, ?_, ?_, ?_, ?_⟩
 ·intro k hk hS
  rw [heap_alloc_old (h:=Nat.lt_of_lt_of_le hk H.size)]
  exact H.keep k hk hS
 ·intro p hp
  rcases List.mem_cons.1 hp with rfl | hp
  ·exact heap_alloc_new w o
  ·rw [heap_alloc_old (h:=H.ltm hp)]
   exact H.get p hp
 ·intro p hp hw
  rcases List.mem_cons.1 hp with rfl | hp
  ·exact .inr H.size
  ·exact H.own p hp hw
 ·refine List.Pairwise.cons (fun q hq _ => ?_) H.sep
  have := H.ltm hq
  simp only
  omega
theorem turn (H : HP S w0 w L) (i : Nat) {b : Nat} {o : Obj} (hi : L[i]? = some ⟨true, b, o⟩) (w' : World) (o' : Obj)
  (hos : w'.os = w.os) (htape : w'.tape = w.tape) (hout : w'.output = w.output) (hsz : w'.heap.size = w.heap.size)
  (hat : w'.heap[b]? = some o') (hold : ∀ k, k ≠ b → w'.heap[k]? = w.heap[k]?) : HP S w0 w' (L.set i ⟨true, b, o'⟩) := by
 have hlen : i < L.length := by
  rcases Nat.lt_or_ge i L.length with h' | h'
  ·exact h'
  ·simp [List.getElem?_eq_none h'] at hi
 have hmem : (⟨true, b, o⟩ : Blk) ∈ L := List.mem_of_getElem? hi
 have hne : ∀ j q, L[j]? = some q → j ≠ i → q.b ≠ b := by
  intro j q hj hji
  have hsep := List.pairwise_iff_getElem.1 H.sep
  have hjl : j < L.length := by
   rcases Nat.lt_or_ge j L.length with h' | h'
   ·exact h'
   ·simp [List.getElem?_eq_none h'] at hj
  have ei : L[i] = ⟨true, b, o⟩ := by simpa [List.getElem?_eq_getElem hlen] using hi
  have ej : L[j] = q := by simpa [List.getElem?_eq_getElem hjl] using hj
  rcases Nat.lt_or_gt_of_ne hji with h | h
  ·have := hsep j i hjl hlen h
   rw [ei, ej] at this
   exact this (.inr rfl)
  ·have := hsep i j hlen hjl h
   rw [ei, ej] at this
   exact fun e => this (.inl rfl) e.symm
 refine ⟨hos.trans H.os, htape.trans H.tape, hout.trans H.output, hsz ▸ H.size, ?_, ?_, ?_, ?_⟩
 ·intro k hk hS
  rcases H.own _ hmem rfl with h | h
  ·rw [hold k (fun e => hS (e ▸ h))]; exact H.keep k hk hS
  ·rw [hold k (fun e => by simp only at h; omega)]; exact H.keep k hk hS
 ·intro p hp
  obtain ⟨j, hj⟩ := List.getElem?_of_mem hp
  by_cases hji : j = i
  ·subst hji
   rw [List.getElem?_set_self hlen] at hj
   obtain rfl := Option.some.inj hj
   exact hat
  ·rw [List.getElem?_set_ne (fun e => hji e.symm)] at hj
   rw [hold p.b (hne j p hj hji)]
   exact H.at_ j hj
 ·intro p hp hw
  obtain ⟨j, hj⟩ := List.getElem?_of_mem hp
  by_cases hji : j = i
  ·subst hji
   rw [List.getElem?_set_self hlen] at hj
   obtain rfl := Option.some.inj hj
   exact H.own ⟨true, b, o⟩ hmem rfl
  ·rw [List.getElem?_set_ne (fun e => hji e.symm)] at hj
   exact H.own _ (List.mem_of_getElem? hj) hw
 ·have hmap : (L.set i ⟨true, b, o'⟩).map (fun p => (p.wr, p.b)) = L.map (fun p => (p.wr, p.b)) := by
   rw [List.map_set]
   apply List.ext_getElem?
   intro j
   by_cases hji : j = i
   ·subst hji
    rw [List.getElem?_set_self (by simpa using hlen), List.getElem?_map, hi]
    rfl
   ·rw [List.getElem?_set_ne (fun e => hji e.symm)]
  have h1 := H.sep
  have key : ∀ l : List Blk, l.Pairwise (fun p q => (p.wr = true ∨ q.wr = true) → p.b ≠ q.b) ↔ (l.map (fun p => (p.wr, p.b))).Pairwise (fun p q => (p.1 = true ∨ q.1 = true) → p.2 ≠ q.2) := by
   intro l; rw [List.pairwise_map]
  rw [key] at h1 ⊢
  rw [hmap]; exact h1
end HP
section rules
variable {P : Program} {o : Oper} {a : Act} {w w0 : World} {K : Act → World → Prop} {Q : Exit → Act → World → Prop} {S : List Nat} {L : List Blk}
def aggB (P : Program) (t : TypeId) : Bool := match P.underlying t with | some (.struct _) | some (.array _ _) => true | _ => false
theorem h5p {t : TypeId} {x : Bool} (hu : (P.underlying t).isSome = true) (h : aggB P t = x) (w : World) : (isAgg t).run P w = .ok x w := by
 cases hq : P.underlying t with
 | none => simp [hq] at hu
 | some d =>
  unfold isAgg
  rw [Sem.run_bind, run_underlying hq w]
  subst h
  unfold aggB
  rw [hq]
  cases d <;> simp
theorem run_sizeOf_of {t : TypeId} {n : Nat} (h : (P.info? t).map (·.size) = some n) (w : World) : (sizeOf t).run P w = .ok n w := by
 cases hq : P.info? t with
 | none => simp [hq] at h
 | some i => simp [sizeOf, typeInfo, hq] at h ⊢; exact h
theorem cell_at (H : HP S w0 w L) (i : Nat) {q : Bool} {b off : Nat} {cs : Array Value} {t : TypeId} {fr : Nat × Nat} (hi : L[i]? = some ⟨q, b, .cells cs t fr⟩) :
  w.cell? ⟨b, off, none⟩ = cs[off]? := cell_of_row w b off cs t fr (H.at_ i hi)
theorem frozen_at (H : HP S w0 w L) (i : Nat) {b off : Nat} {cs : Array Value} {t : TypeId} (hi : L[i]? = some ⟨true, b, .cells cs t (0, 0)⟩) :
  w.frozen? ⟨b, off, none⟩ = false := frozen_of_row w b off cs t (H.at_ i hi)
theorem run_storeCells_hp {i b off : Nat} {t : TypeId} : ∀ (vs : List Value) (j : Nat) (cs : Array Value) (w : World) (L : List Blk), HP S w0 w L → L[i]? = some ⟨true, b, .cells cs t (0, 0)⟩ → (∀ v ∈ vs, v.oneCell' = true) → off + j + vs.length ≤ cs.size →
  ∃ w' cs', (storeCells ⟨b, off, none⟩ vs j).run P w = .ok () w' ∧ HP S w0 w' (L.set i ⟨true, b, .cells cs' t (0, 0)⟩) ∧ cs'.toList = cs.toList.take (off + j) ++ vs ++ cs.toList.drop (off + j + vs.length)
 | [], j, cs, w, L, H, hi, _, _ => by
  refine ⟨w, cs, rfl, ?_, by simp⟩
  have : L.set i ⟨true, b, .cells cs t (0, 0)⟩ = L := by
   apply List.ext_getElem?
   intro k
   by_cases hk : k = i
   ·subst hk
    have hlen : k < L.length := by
     rcases Nat.lt_or_ge k L.length with h' | h'
     ·exact h'
     ·simp [List.getElem?_eq_none h'] at hi
    rw [List.getElem?_set_self hlen, hi]
   ·rw [List.getElem?_set_ne (fun e => hk e.symm)]
  rw [this]; exact H
 | v :: vs, j, cs, w, L, H, hi, hone, hle => by
  have hlen : i < L.length := by
   rcases Nat.lt_or_ge i L.length with h' | h'
   ·exact h'
   ·simp [List.getElem?_eq_none h'] at hi
  have hadd : (⟨b, off, none⟩ : Addr).add j = ⟨b, off + j, none⟩ := by unfold Addr.add; split <;> simp_all
  have hoff : off + j < cs.size := by simp at hle; omega
  have hc : w.cell? ⟨b, off + j, none⟩ = some cs[off + j] := by rw [cell_at H i hi]; simp [hoff]
  have hst : (store ((⟨b, off, none⟩ : Addr).add j) v).run P w = .ok () (w.setCell ⟨b, off + j, none⟩ v) := by
   rw [hadd, run_store P w _ v _ (hone v (by simp)), hc]
   simp [frozen_at H i hi]
  have H1 := H.turn i hi (w.setCell ⟨b, off + j, none⟩ v) (.cells (cs.setIfInBounds (off + j) v) t (0, 0)) rfl rfl rfl (by simp)
   (by rw [heap_setCell_same w b (off + j) cs t v (H.at_ i hi)]) (fun k hk => heap_setCell_other w _ k v hk)
  obtain ⟨w', cs', hr, H', hcs⟩ := run_storeCells_hp (off:=off) (t:=t) vs (j + 1) (cs.setIfInBounds (off + j) v) _ _ H1 (by rw [List.getElem?_set_self hlen]) (fun x hx => hone x (by simp [hx])) (by simp at hle ⊢; omega)
  refine ⟨w', cs', ?_, by simpa using H', ?_⟩
  ·simp only [storeCells, Sem.run_bind, hst, Result.andThen_ok, hr]
  ·rw [hcs]
   simp only [Array.toList_setIfInBounds, List.length_cons]
   have h1 : (cs.toList.set (off + j) v).take (off + (j + 1)) = cs.toList.take (off + j) ++ [v] := by
    rw [← Nat.add_assoc, List.take_add_one, List.getElem?_set_self (by simpa using hoff), List.take_set_of_le (by omega)]
    simp
   have h2 : (cs.toList.set (off + j) v).drop (off + (j + 1) + vs.length) = cs.toList.drop (off + j + (vs.length + 1)) := by
    rw [List.drop_set_of_lt (by omega)]
    congr 1; omega
   rw [h1, h2]; simp
theorem wp_store (H : HP S w0 w L) (i : Nat) {ty : TypeId} {x y : Operand} {b off n : Nat} {cs : Array Value} {t : TypeId} (v : Value) (cs' : Array Value) (ho : o.op = .store ty x y)
  (hx : a.eval x = .pointer (some ⟨b, off, none⟩)) (hy : a.eval y = v) (hi : L[i]? = some ⟨true, b, .cells cs t (0, 0)⟩) (hn : (P.info? ty).map (·.size) = some n) (hvn : v.cells.size = n)
  (hone : v.cells.toList.all (·.oneCell') = true) (hle : off + n ≤ cs.size) (hcs : cs.toList.take off ++ v.cells.toList ++ cs.toList.drop (off + n) = cs'.toList)
  (h : ∀ w', HP S w0 w' (L.set i ⟨true, b, .cells cs' t (0, 0)⟩) → K (a.put o.dst undef) w') : o.wp P a w K Q := by
 obtain ⟨w', cs2, hr, H', hcs2⟩ := run_storeCells_hp (P:=P) (i:=i) (off:=off) v.cells.toList 0 cs w L H hi (List.all_eq_true.1 hone) (by simp; omega)
 have e : cs2 = cs' := by
  apply Array.ext'
  rw [hcs2, ← hcs]; simp [hvn]
 subst e
 unfold Oper.wp execOp
 simp only [ho, hx, hy, Instr.storeAt, Instr.sureAddr, storeVar, Sem.run_bind, Sem.run_pure, Result.andThen_ok, run_sizeOf_of hn, hvn, ne_eq, not_true, if_false, hr]
 exact h _ H'
theorem wp_store_one (H : HP S w0 w L) (i : Nat) {ty : TypeId} {x y : Operand} {b off : Nat} {cs : Array Value} {t : TypeId} {v : Value} (ho : o.op = .store ty x y)
  (hx : a.eval x = .pointer (some ⟨b, off, none⟩)) (hy : a.eval y = v) (hv : v.cells = #[v]) (hv1 : v.oneCell' = true) (hi : L[i]? = some ⟨true, b, .cells cs t (0, 0)⟩) (hn : (P.info? ty).map (·.size) = some 1)
  (hle : off < cs.size)
  (h : ∀ w', HP S w0 w' (L.set i ⟨true, b, .cells (cs.setIfInBounds off v) t (0, 0)⟩) → K (a.put o.dst undef) w') : o.wp P a w K Q := by
 refine wp_store H i v (cs.setIfInBounds off v) ho hx hy hi hn (by simp [hv]) (by simp [hv, hv1]) hle ?_ h
 rw [hv, Array.toList_setIfInBounds, List.set_eq_take_append_cons_drop, if_pos (by simpa using hle)]
 simp
variable {ops : Array Oper} {rest : List Oper}
end rules
section
variable {P : Program} {S : List Nat} {w0 w : World} {L : List Blk} {o : Oper} {a : Act} {ops : Array Oper} {rest : List Oper} {Q' : Act → Prop}
theorem run_load_one (H : HP S w0 w L) (i : Nat) {ty : TypeId} {x : Operand} {q : Bool} {b off : Nat} {cs : Array Value} {t : TypeId} {fr : Nat × Nat} {v : Value} (ho : o.op = .load ty x)
  (hx : a.eval x = .pointer (some ⟨b, off, none⟩)) (hi : L[i]? = some ⟨q, b, .cells cs t fr⟩) (hu : (P.underlying ty).isSome = true) (hd : aggB P ty = false) (hv : cs[off]? = some v) :
  (execOp a.eval o).run P w = .ok (.value v) w := by
 unfold execOp
 have hc : w.cell? ⟨b, off, none⟩ = some v := (cell_at H i hi).trans hv
 simp only [ho, hx, Instr.loadAt, Instr.sureAddr, loadVar, Sem.run_bind, Sem.run_pure, Result.andThen_ok, h5p hu hd, Bool.false_eq_true, if_false, run_load, hc]
theorem run_load_agg (H : HP S w0 w L) (i : Nat) {ty : TypeId} {x : Operand} {q : Bool} {b off n : Nat} {cs : Array Value} {t : TypeId} {fr : Nat × Nat} {vs : Array Value} (ho : o.op = .load ty x)
  (hx : a.eval x = .pointer (some ⟨b, off, none⟩)) (hi : L[i]? = some ⟨q, b, .cells cs t fr⟩) (hn : (P.info? ty).map (·.size) = some n) (hle : off + n ≤ cs.size) (hvs : cs.extract off (off + n) = vs)
  (hu : (P.underlying ty).isSome = true) (hd : aggB P ty = true) : (execOp a.eval o).run P w = .ok (.value (.agg vs)) w := by
 have hl : (loadCells ⟨b, off, none⟩ vs.toList.length).run P w = .ok vs.toList.toArray w :=
  run_loadCells_list (P:=P) w ⟨b, off, none⟩ vs.toList (fun j v hv => by
   have hadd : (⟨b, off, none⟩ : Addr).add j = ⟨b, off + j, none⟩ := by unfold Addr.add; split <;> simp_all
   rw [hadd, cell_at H i hi]
   subst hvs
   simp only [Array.getElem?_toList, Array.getElem?_extract] at hv
   split at hv
   ·exact hv
   ·simp at hv)
 have hlen : vs.toList.length = n := by subst hvs; simp; omega
 rw [hlen] at hl
 unfold execOp
 simp only [ho, hx, Instr.loadAt, Instr.sureAddr, loadVar, Sem.run_bind, Sem.run_pure, Result.andThen_ok, h5p hu hd, if_true, run_sizeOf_of hn, hl, Array.toArray_toList]
end
def lk : List (Nat × Value) → Nat → Option Value
 | [], _ => none
 | (k, v) :: l, i => bif Nat.beq i k then some v else lk l i
def ev (l : List (Nat × Value)) : Operand → Option Value
 | .tmp t => lk l t
 | .const v => some v
 | .global g => some (.pointer (some ⟨g, 0, none⟩))
 | .func f => some (.func (.func f) #[] #[])
structure Fr (n : Nat) (l : List (Nat × Value)) (a : Act) : Prop where
 size : a.tmps.size = n
 defers : a.defers = []
 slot : ∀ i v, lk l i = some v → a.tmps[i]? = some v
structure G (n : Nat) (l : List (Nat × Value)) (S : List Nat) (w0 : World) (L : List Blk) (K : Act → World → Prop) : Prop where
 out : ∀ a w, Fr n l a → HP S w0 w L → K a w
def pushD (d : Option Tmp) (v : Value) (l : List (Nat × Value)) : List (Nat × Value) :=
 match d with | some d => (d, v) :: l | none => l
def okD (n : Nat) : Option Tmp → Bool
 | some d => Nat.blt d n
 | none => true
theorem Fr.eval {n : Nat} {l : List (Nat × Value)} {a : Act} (h : Fr n l a) {x : Operand} {v : Value} (hx : ev l x = some v) : a.eval x = v := by
 cases x with
 | tmp t =>
  have := h.slot t v hx
  simp [Act.eval, Array.getD_eq_getD_getElem?, this]
 | const c => simpa [Act.eval, ev] using hx
 | global g => simpa [Act.eval, ev] using hx
 | func f => simpa [Act.eval, ev] using hx
theorem Fr.put {n : Nat} {l : List (Nat × Value)} {a : Act} (h : Fr n l a) (d : Option Tmp) (v : Value) (hd : okD n d = true) : Fr n (pushD d v l) (a.put d v) := by
 cases d with
 | none => exact h
 | some d =>
  have hd' : d < n := by simpa [okD, Nat.blt_eq] using hd
  refine ⟨by simp [Act.put, h.size], by simp [Act.put, h.defers], fun i v' hv => ?_⟩
  simp only [pushD, lk] at hv
  cases hb : Nat.beq i d with
  | true =>
   have := Nat.eq_of_beq_eq_true hb
   subst this
   simp only [hb, cond_true, Option.some.injEq] at hv
   subst hv
   simp [Act.put, h.size, hd']
  | false =>
   simp only [hb, cond_false] at hv
   have hne : d ≠ i := by rintro rfl; simp at hb
   simp only [Act.put]
   rw [Array.getElem?_setIfInBounds_ne hne]
   exact h.slot i v' hv
def Sub (l : List (Nat × Value)) : List (Nat × Value) → Prop
 | [] => True
 | (k, v) :: l' => lk l k = some v ∧ Sub l l'
theorem Sub.nil {l : List (Nat × Value)} : Sub l [] := trivial
theorem Sub.cons {l l' : List (Nat × Value)} {k : Nat} {v : Value} (h : lk l k = some v) (h' : Sub l l') : Sub l ((k, v) :: l') := ⟨h, h'⟩
theorem Sub.lk {l : List (Nat × Value)} : ∀ {l' : List (Nat × Value)}, Sub l l' → ∀ i v, lk l' i = some v → Ytpbpgbkpciffgaa.lk l i = some v
 | [], _, i, v, h => by simp [Ytpbpgbkpciffgaa.lk] at h
 | (k, u) :: l', ⟨h1, h2⟩, i, v, h => by
  simp only [Ytpbpgbkpciffgaa.lk] at h
  cases hb : Nat.beq i k with
  | true =>
   rw [hb, cond_true, Option.some.injEq] at h
   rw [Nat.eq_of_beq_eq_true hb, h1, h]
  | false =>
   rw [hb, cond_false] at h
   exact Sub.lk h2 i v h
theorem Fr.sub {n : Nat} {l l' : List (Nat × Value)} {a : Act} (h : Fr n l a) (hs : Sub l l') : Fr n l' a :=
 ⟨h.size, h.defers, fun i v hv => h.slot i v (hs.lk i v hv)⟩
inductive Kont where
 | seq (y : Code) (k : Kont)
 | blk (id : Nat) (k : Kont)
 | fin (fn : Func) (R : Ending → World → Prop)
 | cut (K : Act → World → Prop) (k : Kont)
def Kont.den (P : Program) : Kont → Exit → Act → World → Prop
 | .seq y k => Exit.then (Code.wp P y (k.den P)) (k.den P)
 | .blk id k => Exit.inBlock id (k.den P)
 | .fin fn R => bodyPost P fn R
 | .cut K k => Exit.then K (k.den P)
structure KC (P : Program) (c : Code) (k : Kont) (a : Act) (w : World) : Prop where
 out : c.wp P (k.den P) a w
structure KO (P : Program) (ops : Array Oper) (k : Kont) (rest : List Oper) (a : Act) (w : World) : Prop where
 out : wpList P ops (k.den P) rest a w
structure KX (P : Program) (k : Kont) (e : Exit) (a : Act) (w : World) : Prop where
 out : k.den P e a w
section
variable {P : Program} {n : Nat} {l : List (Nat × Value)} {S : List Nat} {w0 : World} {L : List Blk} {K : Act → World → Prop} {k : Kont}
theorem G.imp {K' : Act → World → Prop} (h : G n l S w0 L K') (hk : ∀ a w, K' a w → K a w) : G n l S w0 L K := .mk fun a w hf H => hk a w (h.out a w hf H)
theorem h3e {L' : List Blk} (hs : ∀ w, HP S w0 w L → HP S w0 w L') (h : G n l S w0 L' K) : G n l S w0 L K := .mk fun a w hf H => h.out a w hf (hs w H)
theorem G_fact {p : Prop} (hp : ∀ w, HP S w0 w L → p) (h : p → G n l S w0 L K) : G n l S w0 L K := .mk fun a w hf H => (h (hp w H)).out a w hf H
theorem h0u {x y : Code} (h : G n l S w0 L (KC P x (.seq y k))) : G n l S w0 L (KC P (.seq x y) k) := .mk fun a w hf H => ⟨wp_seq (h.out a w hf H).out⟩
theorem h0p {id : Nat} {c : Code} (h : G n l S w0 L (KC P c (.blk id k))) : G n l S w0 L (KC P (.block id c) k) := .mk fun a w hf H => ⟨wp_block (h.out a w hf H).out⟩
theorem h1c (h : G n l S w0 L (KX P k .normal)) : G n l S w0 L (KC P .skip k) := .mk fun a w hf H => ⟨wp_skip (h.out a w hf H).out⟩
theorem h2a {id : Nat} (h : G n l S w0 L (KX P k (.exit id))) : G n l S w0 L (KC P (.exit id) k) := .mk fun a w hf H => ⟨wp_exit (h.out a w hf H).out⟩
theorem h2w (h : G n l S w0 L (KX P k .ret)) : G n l S w0 L (KC P .ret k) := .mk fun a w hf H => ⟨wp_ret (h.out a w hf H).out⟩
theorem G_region {id : Nat} {ops : List Oper} (h : G n l S w0 L (KO P ops.toArray k ops)) : G n l S w0 L (KC P (.region id ops.toArray false) k) := .mk fun a w hf H => ⟨wp_region_lit (h.out a w hf H).out⟩
theorem gR (i : Nat) {ops : List Oper} (h : G n l S w0 L (KO P ops.toArray k ops)) : G n l S w0 L (KC P (.region i ops.toArray false) k) := G_region h
theorem h0c {ops : Array Oper} (h : G n l S w0 L (KX P k .normal)) : G n l S w0 L (KO P ops k []) := .mk fun a w hf H => ⟨(h.out a w hf H).out⟩
theorem h0g {y : Code} (h : G n l S w0 L (KC P y k)) : G n l S w0 L (KX P (.seq y k) .normal) := .mk fun a w hf H => ⟨(h.out a w hf H).out⟩
theorem h0v {y : Code} {id : Nat} (h : G n l S w0 L (KX P k (.exit id))) : G n l S w0 L (KX P (.seq y k) (.exit id)) := .mk fun a w hf H => ⟨(h.out a w hf H).out⟩
theorem h1v {y : Code} (h : G n l S w0 L (KX P k .ret)) : G n l S w0 L (KX P (.seq y k) .ret) := .mk fun a w hf H => ⟨(h.out a w hf H).out⟩
theorem h0q (h : G n l S w0 L K) : G n l S w0 L (KX P (.cut K k) .normal) := .mk fun a w hf H => ⟨h.out a w hf H⟩
theorem h1n {id : Nat} (h : G n l S w0 L (KX P k (.exit id))) : G n l S w0 L (KX P (.cut K k) (.exit id)) := .mk fun a w hf H => ⟨(h.out a w hf H).out⟩
theorem h2p (h : G n l S w0 L (KX P k .ret)) : G n l S w0 L (KX P (.cut K k) .ret) := .mk fun a w hf H => ⟨(h.out a w hf H).out⟩
theorem h0y {id : Nat} (h : G n l S w0 L (KX P k .normal)) : G n l S w0 L (KX P (.blk id k) .normal) := .mk fun a w hf H => ⟨(h.out a w hf H).out⟩
theorem h2j {id : Nat} (h : G n l S w0 L (KX P k .ret)) : G n l S w0 L (KX P (.blk id k) .ret) := .mk fun a w hf H => ⟨(h.out a w hf H).out⟩
theorem h1m {id : Nat} (h : G n l S w0 L (KX P k .normal)) : G n l S w0 L (KX P (.blk id k) (.exit id)) := by
 refine .mk fun a w hf H => ⟨?_⟩
 simp only [Kont.den, Exit.inBlock, if_true]; exact (h.out a w hf H).out
theorem h2s {id id' : Nat} (hne : Nat.beq id' id = false) (h : G n l S w0 L (KX P k (.exit id'))) : G n l S w0 L (KX P (.blk id k) (.exit id')) := by
 refine .mk fun a w hf H => ⟨?_⟩
 have : id' ≠ id := by rintro rfl; simp at hne
 simp only [Kont.den, Exit.inBlock, if_neg this]; exact (h.out a w hf H).out
theorem h0s {c : Operand} {x y : Code} (hc : ev l c = some (.bool true)) (h : G n l S w0 L (KC P x k)) : G n l S w0 L (KC P (.cond c x y) k) := .mk
 fun a w hf H => ⟨wp_cond_true (hf.eval hc) (h.out a w hf H).out⟩
theorem h0n {c : Operand} {x y : Code} (hc : ev l c = some (.bool false)) (h : G n l S w0 L (KC P y k)) : G n l S w0 L (KC P (.cond c x y) k) := .mk
 fun a w hf H => ⟨wp_cond_false (hf.eval hc) (h.out a w hf H).out⟩
theorem Fr.again {a : Act} {t : Tmp} {v : Value} (hf : Fr n l a) (hv : lk l t = some v) : Fr n ((t, v) :: l) a :=
 ⟨hf.size, hf.defers, fun i u hi => by
  simp only [lk] at hi
  cases hb : Nat.beq i t with
  | true => rw [hb, cond_true, Option.some.injEq] at hi; rw [Nat.eq_of_beq_eq_true hb, ← hi]; exact hf.slot _ _ hv
  | false => rw [hb, cond_false] at hi; exact hf.slot i u hi⟩
theorem h3i {t : Tmp} {x y : Code} {b : Bool} (hc : lk l t = some (.bool b)) (ht : b = true → G n ((t, .bool true) :: l) S w0 L (KC P x k)) (hF : b = false → G n ((t, .bool false) :: l) S w0 L (KC P y k)) :
  G n l S w0 L (KC P (.cond (.tmp t) x y) k) := .mk fun a w hf H => by
 cases b with
 | true => exact ⟨wp_cond_true (hf.eval (x:=.tmp t) hc) ((ht rfl).out a w (hf.again hc) H).out⟩
 | false => exact ⟨wp_cond_false (hf.eval (x:=.tmp t) hc) ((hF rfl).out a w (hf.again hc) H).out⟩
theorem h1x {t : Tmp} {x y : Code} {p : Prop} {i : Decidable p} (hc : lk l t = some (.bool (decide p))) (ht : p → G n ((t, .bool true) :: l) S w0 L (KC P x k)) (hF : ¬ p → G n ((t, .bool false) :: l) S w0 L (KC P y k)) :
  G n l S w0 L (KC P (.cond (.tmp t) x y) k) :=
 h3i hc (fun h => ht (of_decide_eq_true h)) (fun h => hF (of_decide_eq_false h))
theorem h1r {t : Tmp} {x y : Code} {p : Prop} {i : Decidable (¬ p)} (hc : lk l t = some (.bool (@decide (¬ p) i))) (ht : ¬ p → G n ((t, .bool true) :: l) S w0 L (KC P x k)) (hF : p → G n ((t, .bool false) :: l) S w0 L (KC P y k)) :
  G n l S w0 L (KC P (.cond (.tmp t) x y) k) :=
 h3i hc (fun h => ht (of_decide_eq_true h)) (fun h => hF (Classical.not_not.1 (of_decide_eq_false h)))
structure At {γ : Type} (n : Nat) (S : List Nat) (w0 : World) (R : γ → Prop) (l' : γ → List (Nat × Value)) (L' : γ → List Blk) (a : Act) (w : World) : Prop where
 out : ∃ g, R g ∧ Fr n (l' g) a ∧ HP S w0 w (L' g)
theorem G_meetat {γ : Type} {c y : Code} (R : γ → Prop) (l' : γ → List (Nat × Value)) (L' : γ → List Blk)
  (h1 : G n l S w0 L (KC P c (.cut (At n S w0 R l' L') k))) (h2 : ∀ g, R g → G n (l' g) S w0 (L' g) (KC P y k)) :
  G n l S w0 L (KC P c (.seq y k)) := .mk fun a w hf H =>
 ⟨wp_mono (h1.out a w hf H).out fun e a w h => by
  cases e <;> first | exact (let ⟨g, hR, hf, H⟩ := h.out; ((h2 g hR).out a w hf H).out) | exact h⟩
theorem h1p {γ : Type} {R : γ → Prop} {l' : γ → List (Nat × Value)} {L' : γ → List Blk} (g : γ) (hR : R g) (hs : Sub l (l' g)) (hL : ∀ w, HP S w0 w L → HP S w0 w (L' g)) :
  G n l S w0 L (At n S w0 R l' L') := .mk fun _ w hf H => ⟨g, hR, hf.sub hs, hL w H⟩
theorem G_loop {γ : Type} {c : Code} (R : γ → Prop) (μ : γ → Nat) (l' : γ → List (Nat × Value)) (L' : γ → List Blk) (g0 : γ) (hR : R g0) (hs : Sub l (l' g0)) (hL : ∀ w, HP S w0 w L → HP S w0 w (L' g0))
  (round : ∀ g, R g → G n (l' g) S w0 (L' g) (KC P c (.cut (At n S w0 (fun g' => R g' ∧ μ g' < μ g) l' L') k))) :
  G n l S w0 L (KC P (.loop c) k) := by
 refine .mk fun a w hf H => ⟨?_⟩
 intro b k' cs
 have key : ∀ m g a w, μ g = m → R g → Fr n (l' g) a → HP S w0 w (L' g) →
   ∃ e a' w', k.den P e a' w' ∧ Arrives P (lone (b.at a (.code c :: .inLoop c :: k')) cs w) b k' cs e a' w' := by
  intro m
  induction m using Nat.strongRecOn with
  | _ m ih =>
   intro g a w hm hR hf H
   obtain ⟨e, a₁, w₁, hq, harr⟩ := ((round g hR).out a w hf H).out b (.inLoop c :: k') cs
   cases e with
   | normal =>
    obtain ⟨g', ⟨hR', hlt⟩, hf', H'⟩ := hq.out
    obtain ⟨e₂, a₂, w₂, hq₂, harr₂⟩ := ih (μ g') (hm ▸ hlt) g' a₁ w₁ rfl hR' hf' H'
    exact ⟨e₂, a₂, w₂, hq₂, .of_steps (Steps.trans harr (.one step_inLoop)) harr₂⟩
   | exit id => exact ⟨_, a₁, w₁, hq, .pass (x:=.inLoop c) rfl (fun _ _ => .inl (by simp)) harr⟩
   | goto l => exact ⟨_, a₁, w₁, hq, .pass (x:=.inLoop c) rfl (fun _ _ => .inl (by simp)) harr⟩
   | ret => exact ⟨_, a₁, w₁, hq, .pass (x:=.inLoop c) rfl (fun _ _ => .inl (by simp)) harr⟩
   | panic ch => exact ⟨_, a₁, w₁, hq, .pass (x:=.inLoop c) rfl (fun _ _ => .inl (by simp)) harr⟩
   | outgrown => exact ⟨_, a₁, w₁, hq, .pass (x:=.inLoop c) rfl (fun _ _ => .inl (by simp)) harr⟩
 obtain ⟨e, a', w', hq, harr⟩ := key _ g0 a w rfl hR (hf.sub hs) (hL w H)
 exact ⟨e, a', w', hq, .of_steps (.one step_loop) harr⟩
variable {ops : Array Oper} {rest : List Oper} {d : Tmp} {ty : TypeId} {pos : String} {af : Array Edge}
theorem Fr.not_wanted {a : Act} {o : Oper} {j : Nat} {want b : Bool} {dj : Tmp} (hf : Fr n l a) (hg : o.guard = some (j, want)) (hj : (ops[j]?).bind (·.dst) = some dj) (hv : lk l dj = some (.bool b)) (hne : (b == want) = false) :
  Region.wanted o (yielded ops a.tmps) = false := by
 simp only [Region.wanted, hg, yielded, hj, Option.bind_some, hf.slot dj _ hv]
 cases b <;> cases want <;> simp_all
theorem Fr.not_wanted_u {a : Act} {o : Oper} {j : Nat} {want : Bool} {dj : Tmp} (hf : Fr n l a) (hg : o.guard = some (j, want)) (hj : (ops[j]?).bind (·.dst) = some dj) (hv : lk l dj = some undef) :
  Region.wanted o (yielded ops a.tmps) = false := by
 simp only [Region.wanted, hg, yielded, hj, Option.bind_some, hf.slot dj _ hv]
 rfl
theorem h3f {b : Bool} {dj : Tmp} {K : Act → World → Prop} (hv : lk l dj = some (.bool b)) (ht : b = true → G n ((dj, .bool true) :: l) S w0 L K) (hF : b = false → G n ((dj, .bool false) :: l) S w0 L K) : G n l S w0 L K := .mk fun a w hf H => by
 cases b with
 | true => exact (ht rfl).out a w (hf.again hv) H
 | false => exact (hF rfl).out a w (hf.again hv) H
structure Runs (P : Program) (s : Sem Value) (v : Value) : Prop where
 out : ∀ w, s.run P w = .ok v w
structure RBin (P : Program) (op : BinOp) (t : TypeId) (x y v : Value) : Prop where
 out : ∀ w, (binOp op t x y).run P w = .ok v w
structure RUn (P : Program) (op : UnOp) (x v : Value) : Prop where
 out : ∀ w, (Op.unary op x).run P w = .ok v w
structure RConv (P : Program) (s t : TypeId) (x v : Value) : Prop where
 out : ∀ w, (convert s t x).run P w = .ok v w
structure RIdx (P : Program) (t : TypeId) (x i v : Value) : Prop where
 out : ∀ w, (Instr.index t x i).run P w = .ok v w
structure RIdxA (P : Program) (t : TypeId) (x i v : Value) : Prop where
 out : ∀ w, (Instr.indexAt t x i).run P w = .ok v w
structure RFldA (P : Program) (t : TypeId) (x : Value) (f : Nat) (v : Value) : Prop where
 out : ∀ w, (Instr.fieldAt t x f).run P w = .ok v w
structure RSlc (P : Program) (t : TypeId) (x : Value) (lo hi mx : Option Value) (v : Value) : Prop where
 out : ∀ w, (Instr.sliceAt t x lo hi mx).run P w = .ok v w
def plainEq (vx : Value) : Bool := match vx with | .nilIface | .agg _ => false | _ => true
def evO (l : List (Nat × Value)) : Option Operand → Option (Option Value)
 | none => some none
 | some x => (ev l x).map some
theorem Fr.evalO {a : Act} (h : Fr n l a) {x : Option Operand} {v : Option Value} (hx : evO l x = some v) : x.map a.eval = v := by
 cases x with
 | none => simpa [evO] using hx
 | some x =>
  cases hq : ev l x with
  | none => simp [evO, hq] at hx
  | some u => simp only [evO, hq, Option.map_some, Option.some.injEq] at hx; simp [h.eval hq, hx]
def evs (l : List (Nat × Value)) : List Operand → Option (List Value)
 | [] => some []
 | x :: xs => match ev l x with | some v => (match evs l xs with | some vs => some (v :: vs) | none => none) | none => none
theorem Fr.evals {a : Act} (h : Fr n l a) : ∀ {xs : List Operand} {vs : List Value}, evs l xs = some vs → xs.map a.eval = vs
 | [], vs, hx => by simp [evs] at hx; simp [hx]
 | x :: xs, vs, hx => by
  unfold evs at hx
  cases hq : ev l x with
  | none => simp [hq] at hx
  | some v =>
   cases hr : evs l xs with
   | none => simp [hq, hr] at hx
   | some us =>
    simp only [hq, hr, Option.some.injEq] at hx
    simp [h.eval hq, h.evals hr, hx]
def evp (l : List (Nat × Value)) : List (Nat × Operand) → Option (List (Nat × Value))
 | [] => some []
 | p :: xs => match ev l p.2 with | some v => (match evp l xs with | some vs => some ((p.1, v) :: vs) | none => none) | none => none
theorem Fr.evalp {a : Act} (h : Fr n l a) : ∀ {xs : List (Nat × Operand)} {vs : List (Nat × Value)}, evp l xs = some vs → xs.map (fun (i, x) => (i, a.eval x)) = vs
 | [], vs, hx => by simp [evp] at hx; simp [hx]
 | p :: xs, vs, hx => by
  unfold evp at hx
  cases hq : ev l p.2 with
  | none => simp [hq] at hx
  | some v =>
   cases hr : evp l xs with
   | none => simp [hq, hr] at hx
   | some us =>
    simp only [hq, hr, Option.some.injEq] at hx
    simp only [List.map_cons, h.evalp hr]
    rw [← hx, h.eval hq]
theorem fd0 {x : Blk} {L : List Blk} : (x :: L)[0]? = some x := rfl
theorem fdS {y x : Blk} {L : List Blk} {i : Nat} (h : L[i]? = some x) : (y :: L)[i + 1]? = some x := h
theorem h2q {p : Prop} {i : Decidable p} {dj : Tmp} {K : Act → World → Prop} (hv : lk l dj = some (.bool (decide p))) (ht : p → G n ((dj, .bool true) :: l) S w0 L K) (hF : ¬ p → G n ((dj, .bool false) :: l) S w0 L K) : G n l S w0 L K :=
 h3f hv (fun h => ht (of_decide_eq_true h)) (fun h => hF (of_decide_eq_false h))
theorem h2i {p : Prop} {i : Decidable (¬ p)} {dj : Tmp} {K : Act → World → Prop} (hv : lk l dj = some (.bool (@decide (¬ p) i))) (ht : ¬ p → G n ((dj, .bool true) :: l) S w0 L K) (hF : p → G n ((dj, .bool false) :: l) S w0 L K) : G n l S w0 L K :=
 h3f hv (fun h => ht (of_decide_eq_true h)) (fun h => hF (Classical.not_not.1 (of_decide_eq_false h)))
structure ValOf (P : Program) (n : Nat) (l : List (Nat × Value)) (S : List Nat) (w0 : World) (L : List Blk) (o : Oper) (v : Value) : Prop where
 out : ∀ a w, Fr n l a → HP S w0 w L → (execOp a.eval o).run P w = .ok (.value v) w
structure K1 (P : Program) (ops : Array Oper) (k : Kont) (o : Oper) (K : Act → World → Prop) (a : Act) (w : World) : Prop where
 out : if Region.wanted o (yielded ops a.tmps) then o.wp P a w K (k.den P) else K (a.put o.dst undef) w
theorem h0a {o : Oper} (h : G n l S w0 L (K1 P ops k o (KO P ops k rest))) : G n l S w0 L (KO P ops k (o :: rest)) := .mk fun a w hf H => by
 have hh := (h.out a w hf H).out
 refine ⟨?_⟩
 unfold wpList
 split
 ·rename_i hw; rw [if_pos hw] at hh; exact .inl (Oper.wp_mono (fun _ _ h => h.out) hh)
 ·rename_i hw; rw [if_neg hw] at hh; exact hh.out
theorem h5s {o : Oper} {a : Act} {w : World} (hw : Region.wanted o (yielded ops a.tmps) = true) (h : o.wp P a w K (k.den P)) : K1 P ops k o K a w := ⟨by rw [if_pos hw]; exact h⟩
theorem K1_of_wp {o : Oper} {L' : List Blk} {l' : List (Nat × Value)} (hg : o.guard = none) (hw : ∀ a w (K : Act → World → Prop), Fr n l a → HP S w0 w L → (∀ a w, Fr n l' a → HP S w0 w L' → K a w) → o.wp P a w K (k.den P))
  (h : G n l' S w0 L' K) : G n l S w0 L (K1 P ops k o K) := .mk fun a w hf H => by
 refine ⟨?_⟩
 rw [if_pos (by simp [Region.wanted, hg])]
 exact hw a w K hf H fun a w hf H => h.out a w hf H
theorem K1_ev {op : Op} {v : Value} (hd : Nat.blt d n = true) (hv : ValOf P n l S w0 L ⟨some d, op, ty, pos, af, none⟩ v) (h : G n ((d, v) :: l) S w0 L K) : G n l S w0 L (K1 P ops k ⟨some d, op, ty, pos, af, none⟩ K) :=
 K1_of_wp rfl (fun a w K hf H hK => by
  unfold Oper.wp
  rw [hv.out a w hf H]
  exact hK _ _ (hf.put (some d) v hd) H) h
theorem K1_not {o : Oper} (hw : ∀ a, Fr n l a → Region.wanted o (yielded ops a.tmps) = false) (hd : okD n o.dst = true) (h : G n (pushD o.dst undef l) S w0 L K) : G n l S w0 L (K1 P ops k o K) := .mk fun a w hf H => by
 refine ⟨?_⟩
 rw [if_neg (by simp [hw a hf])]
 exact h.out _ _ (hf.put _ _ hd) H
theorem h2x {op : Op} {j : Nat} {want b : Bool} {dj : Tmp} (hj : (ops[j]?).bind (·.dst) = some dj) (hv : lk l dj = some (.bool b)) (hne : (b == want) = false)
  (hd : Nat.blt d n = true) (h : G n ((d, undef) :: l) S w0 L K) : G n l S w0 L (K1 P ops k ⟨some d, op, ty, pos, af, some (j, want)⟩ K) :=
 K1_not (fun _ hf => hf.not_wanted rfl hj hv hne) hd h
theorem h3w {op : Op} {j : Nat} {want : Bool} {dj : Tmp} (hj : (ops[j]?).bind (·.dst) = some dj) (hv : lk l dj = some undef)
  (hd : Nat.blt d n = true) (h : G n ((d, undef) :: l) S w0 L K) : G n l S w0 L (K1 P ops k ⟨some d, op, ty, pos, af, some (j, want)⟩ K) :=
 K1_not (fun _ hf => hf.not_wanted_u rfl hj hv) hd h
theorem Fr.is_wanted {a : Act} {d : Option Tmp} {op : Op} {j : Nat} {want b : Bool} {dj : Tmp} (hf : Fr n l a) (hj : (ops[j]?).bind (·.dst) = some dj) (hv : lk l dj = some (.bool b)) (he : (b == want) = true) :
  Region.wanted (⟨d, op, ty, pos, af, some (j, want)⟩ : Oper) (yielded ops a.tmps) = true := by
 simp only [Region.wanted, yielded, hj, Option.bind_some, hf.slot dj _ hv]
 cases b <;> cases want <;> simp_all
theorem h1y {d : Option Tmp} {op : Op} {j : Nat} {want b : Bool} {dj : Tmp} (hj : (ops[j]?).bind (·.dst) = some dj) (hv : lk l dj = some (.bool b)) (he : (b == want) = true)
  (h : G n l S w0 L (K1 P ops k ⟨d, op, ty, pos, af, none⟩ K)) : G n l S w0 L (K1 P ops k ⟨d, op, ty, pos, af, some (j, want)⟩ K) := .mk fun a w hf H => by
 have hh := (h.out a w hf H).out
 rw [if_pos (by rfl)] at hh
 refine ⟨?_⟩
 rw [if_pos (hf.is_wanted hj hv he)]
 exact hh
theorem h2t {d : Option Tmp} {op : Op} {j : Nat} {want b : Bool} {dj : Tmp} (hj : (ops[j]?).bind (·.dst) = some dj) (hv : lk l dj = some (.bool b))
  (ht : b = true → G n ((dj, .bool true) :: l) S w0 L (K1 P ops k ⟨d, op, ty, pos, af, some (j, want)⟩ K)) (hF : b = false → G n ((dj, .bool false) :: l) S w0 L (K1 P ops k ⟨d, op, ty, pos, af, some (j, want)⟩ K)) :
  G n l S w0 L (K1 P ops k ⟨d, op, ty, pos, af, some (j, want)⟩ K) := have _ := hj; h3f hv ht hF
theorem h2c {d : Option Tmp} {op : Op} {j : Nat} {want : Bool} {p : Prop} {i : Decidable p} {dj : Tmp} (hj : (ops[j]?).bind (·.dst) = some dj) (hv : lk l dj = some (.bool (decide p)))
  (ht : p → G n ((dj, .bool true) :: l) S w0 L (K1 P ops k ⟨d, op, ty, pos, af, some (j, want)⟩ K)) (hF : ¬ p → G n ((dj, .bool false) :: l) S w0 L (K1 P ops k ⟨d, op, ty, pos, af, some (j, want)⟩ K)) :
  G n l S w0 L (K1 P ops k ⟨d, op, ty, pos, af, some (j, want)⟩ K) :=
 h2t hj hv (fun h => ht (of_decide_eq_true h)) (fun h => hF (of_decide_eq_false h))
theorem h1w {d : Option Tmp} {op : Op} {j : Nat} {want : Bool} {p : Prop} {i : Decidable (¬ p)} {dj : Tmp} (hj : (ops[j]?).bind (·.dst) = some dj) (hv : lk l dj = some (.bool (@decide (¬ p) i)))
  (ht : ¬ p → G n ((dj, .bool true) :: l) S w0 L (K1 P ops k ⟨d, op, ty, pos, af, some (j, want)⟩ K)) (hF : p → G n ((dj, .bool false) :: l) S w0 L (K1 P ops k ⟨d, op, ty, pos, af, some (j, want)⟩ K)) :
  G n l S w0 L (K1 P ops k ⟨d, op, ty, pos, af, some (j, want)⟩ K) :=
 h2t hj hv (fun h => ht (of_decide_eq_true h)) (fun h => hF (Classical.not_not.1 (of_decide_eq_false h)))
structure KH (P : Program) (S : List Nat) (w0 : World) (Lb : List Blk) (ops : Array Oper) (k : Kont) (fuel : Nat) (listed : Array Bool) (a : Act) (w : World) : Prop where
 out : wpAnyH P .any ops (k.den P) (fun w' => HP S w0 w' Lb) fuel listed a w
structure KHS (P : Program) (S : List Nat) (w0 : World) (Lb : List Blk) (ops : Array Oper) (k : Kont) (fuel : Nat) (listed : Array Bool) (a : Act) (w : World) : Prop where
 out : HP S w0 w Lb ∧ KH P S w0 Lb ops k fuel listed a w
theorem h1u {id m : Nat} {ops : List Oper} (hm : P.follows .mixedOrders = true) (hl : ops.length = m) (h : G n l S w0 L (KH P S w0 L ops.toArray k m (Array.replicate m false))) : G n l S w0 L (KC P (.region id ops.toArray true) k) := .mk fun a w hf H => by
 subst hl
 exact ⟨wp_region_held hm (by simpa using (h.out a _ hf H.drew).out)⟩
structure YOf (P : Program) (n : Nat) (l : List (Nat × Value)) (S : List Nat) (w0 : World) (L : List Blk) (ops : Array Oper) (o : Oper) (v : Value) : Prop where
 out : ∀ a, Fr n l a → YieldsIf P ops (fun w => HP S w0 w L) o v a
theorem Y_ev {op : Op} {v : Value} (hv : ValOf P n l S w0 L ⟨some d, op, ty, pos, af, none⟩ v) : YOf P n l S w0 L ops ⟨some d, op, ty, pos, af, none⟩ v := ⟨fun a hf => .inl ⟨rfl, fun w H => hv.out a w hf H⟩⟩
theorem Y_yes {op : Op} {v : Value} {j : Nat} {want b : Bool} {dj : Tmp} (hj : (ops[j]?).bind (·.dst) = some dj) (hb : lk l dj = some (.bool b)) (he : (b == want) = true) (hv : ValOf P n l S w0 L ⟨some d, op, ty, pos, af, none⟩ v) :
  YOf P n l S w0 L ops ⟨some d, op, ty, pos, af, some (j, want)⟩ v := ⟨fun a hf => .inl ⟨hf.is_wanted hj hb he, fun w H => hv.out a w hf H⟩⟩
theorem h3d {op : Op} {j : Nat} {want b : Bool} {dj : Tmp} (hj : (ops[j]?).bind (·.dst) = some dj) (hb : lk l dj = some (.bool b)) (he : (b == want) = false) :
  YOf P n l S w0 L ops ⟨some d, op, ty, pos, af, some (j, want)⟩ undef := ⟨fun a hf => .inr ⟨hf.not_wanted rfl hj hb he, rfl⟩⟩
theorem h3m {op : Op} {j : Nat} {want : Bool} {dj : Tmp} (hj : (ops[j]?).bind (·.dst) = some dj) (hb : lk l dj = some undef) :
  YOf P n l S w0 L ops ⟨some d, op, ty, pos, af, some (j, want)⟩ undef := ⟨fun a hf => .inr ⟨hf.not_wanted_u rfl hj hb, rfl⟩⟩
theorem Kont.panics (k : Kont) (c : List PanicEntry) (a : Act) (d : Option Tmp) (v : Value) (w : World) (h : k.den P (.panic c) (a.put d v) w) : k.den P (.panic c) a w := by
 induction k with
 | seq y k ih => exact ih h
 | blk id k ih => exact ih h
 | cut K k ih => exact ih h
 | fin fn R =>
  cases d with
  | none => exact h
  | some d => exact h
theorem h0o {i fuel : Nat} {listed : Array Bool} {Lb : List Blk} {op : Op} {g : Option (Nat × Bool)} {v : Value} (hi : ops[i]? = some ⟨some d, op, ty, pos, af, g⟩) (hs : Region.noSelect ops = true) (hf : Region.free .any ops listed i = true) (hr : (Region.ready .any ops listed).contains i = true)
  (hd : Nat.blt d n = true) (hL : ∀ w, HP S w0 w L → HP S w0 w Lb) (hv : YOf P n l S w0 Lb ops ⟨some d, op, ty, pos, af, g⟩ v) (h : G n ((d, v) :: l) S w0 L (KH P S w0 Lb ops k fuel (listed.setIfInBounds i true))) :
  G n l S w0 L (KH P S w0 Lb ops k (fuel + 1) listed) := .mk fun a w hF H =>
 ⟨wpAnyH_take hi hs hf hr (fun c a w h => Kont.panics k c a _ v w h) (hv.out a hF) (hL w H) (h.out _ w (hF.put (some d) v hd) H).out⟩
theorem H_run {i fuel : Nat} {listed : Array Bool} {Lb : List Blk} {o : Oper} (hi : ops[i]? = some o) (hr : Region.ready .any ops listed = [i]) (h : G n l S w0 L (K1 P ops k o (KHS P S w0 Lb ops k fuel (listed.setIfInBounds i true)))) :
  G n l S w0 L (KH P S w0 Lb ops k (fuel + 1) listed) := .mk fun a w hF H => by
 refine ⟨wpAnyH_all hr (by simp) fun j hj => ?_⟩
 obtain rfl : j = i := by simpa using hj
 have hh := (h.out a w hF H).out
 unfold wpOp
 simp only [hi]
 split
 ·rename_i hw; rw [if_pos hw] at hh; exact .inl (Oper.wp_mono (fun _ _ h => ⟨h.out.1, h.out.2.out⟩) hh)
 ·rename_i hw; rw [if_neg hw] at hh; exact ⟨hh.out.1, hh.out.2.out⟩
theorem h2e {fuel : Nat} {listed : Array Bool} {Lb : List Blk} (hL : ∀ w, HP S w0 w L → HP S w0 w Lb) (h : G n l S w0 L (KH P S w0 Lb ops k fuel listed)) : G n l S w0 L (KHS P S w0 Lb ops k fuel listed) := .mk fun a w hF H => ⟨hL w H, h.out a w hF H⟩
theorem h1o {fuel : Nat} {listed : Array Bool} {Lb : List Blk} (hr : Region.ready .any ops listed = []) (h : G n l S w0 L (KX P k .normal)) : G n l S w0 L (KH P S w0 Lb ops k fuel listed) := .mk fun a w hF H => ⟨wpAnyH_done hr (h.out a w hF H).out fuel⟩
theorem h0b {x : Operand} {v : Value} (hx : ev l x = some v) :
  ValOf P n l S w0 L ⟨some d, .move x, ty, pos, af, none⟩ (v) :=
 ⟨fun a w hf H => by simp only [execOp, hf.eval hx, Sem.run_pure]⟩
theorem h0e {x : Operand} {v : Value} (hx : ev l x = some v) :
  ValOf P n l S w0 L ⟨some d, .assign x, ty, pos, af, none⟩ (v) :=
 ⟨fun a w hf H => by simp only [execOp, hf.eval hx, Sem.run_pure]⟩
theorem h3p {c x y : Operand} {b : Bool} {v : Value} (hc : ev l c = some (.bool b)) (hxy : (if b then ev l x else ev l y) = some v) :
  ValOf P n l S w0 L ⟨some d, .pick c x y, ty, pos, af, none⟩ (v) :=
 ⟨fun a w hf H => by
  simp only [execOp, hf.eval hc, asBool, Sem.run_bind, Sem.run_pure, Result.andThen_ok]
  cases b with
  | true => simp only [if_true] at hxy; simp [hf.eval hxy]
  | false => simp only [Bool.false_eq_true, if_false] at hxy; simp [hf.eval hxy]⟩
theorem E_un {op : UnOp} {x : Operand} {vx v : Value} {t : TypeId} (hx : ev l x = some vx) (hr : RUn P op vx v) :
  ValOf P n l S w0 L ⟨some d, .unOp op t x, ty, pos, af, none⟩ (v) :=
 ⟨fun a w hf H => by simp only [execOp, hf.eval hx, Sem.run_bind, hr.out w, Result.andThen_ok, Sem.run_pure]⟩
theorem h3h {x : Operand} {vx v : Value} {s t : TypeId} (hx : ev l x = some vx) (hr : RConv P s t vx v) :
  ValOf P n l S w0 L ⟨some d, .convert s t x, ty, pos, af, none⟩ (v) :=
 ⟨fun a w hf H => by simp only [execOp, hf.eval hx, Sem.run_bind, hr.out w, Result.andThen_ok, Sem.run_pure]⟩
theorem E_bin {op : BinOp} {x y : Operand} {vx vy v : Value} {t yt : TypeId} (hx : ev l x = some vx) (hy : ev l y = some vy) (hp : plainEq vx = true) (hr : RBin P op t vx vy v) : ValOf P n l S w0 L ⟨some d, .binOp op t x y yt, ty, pos, af, none⟩ (v) :=
 ⟨fun a w hf H => by
  have hg : (eqGuard op t x y vx vy).run P w = .ok () w := by
   cases op <;> first | rfl | (cases vx <;> first | (simp [plainEq] at hp; done) | rfl | (cases vy <;> rfl))
  simp only [execOp, hf.eval hx, hf.eval hy, Sem.run_bind, hg, hr.out w, Result.andThen_ok, Sem.run_pure]⟩
theorem E_bin_agg {op : BinOp} {x y : Operand} {xs ys : Array Value} {v : Value} {t yt : TypeId} (hx : ev l x = some (.agg xs)) (hy : ev l y = some (.agg ys)) (hp : P.eqGuardType P.depth t = false)
  (hr : RBin P op t (.agg xs) (.agg ys) v) : ValOf P n l S w0 L ⟨some d, .binOp op t x y yt, ty, pos, af, none⟩ (v) :=
 ⟨fun a w hf H => by
  have hg : (eqGuard op t x y (.agg xs) (.agg ys)).run P w = .ok () w := by
   cases op <;> first | rfl | simp [eqGuard, hp, Sem.run_bind, run_program]
  simp only [execOp, hf.eval hx, hf.eval hy, Sem.run_bind, hg, hr.out w, Result.andThen_ok, Sem.run_pure]⟩
theorem E_instr {op : Op} {s : Sem Value} {v : Value} (he : ∀ a, Fr n l a → execOp a.eval ⟨some d, op, ty, pos, af, none⟩ = (do pure (.value (← s)))) (hr : Runs P s v) : ValOf P n l S w0 L ⟨some d, op, ty, pos, af, none⟩ (v) :=
 ⟨fun a w hf H => by rw [he a hf, Sem.run_bind, hr.out w]; rfl⟩
theorem E_index {x i : Operand} {vx vi v : Value} {t : TypeId} (hx : ev l x = some vx) (hi : ev l i = some vi) (hr : RIdx P t vx vi v) :
  ValOf P n l S w0 L ⟨some d, .index t x i, ty, pos, af, none⟩ (v) :=
 E_instr (fun a hf => by simp only [execOp, hf.eval hx, hf.eval hi]) ⟨hr.out⟩
theorem h0d {x i : Operand} {vx vi v : Value} {t : TypeId} (hx : ev l x = some vx) (hi : ev l i = some vi) (hr : RIdxA P t vx vi v) :
  ValOf P n l S w0 L ⟨some d, .indexAddr t x i, ty, pos, af, none⟩ (v) :=
 E_instr (fun a hf => by simp only [execOp, hf.eval hx, hf.eval hi]) ⟨hr.out⟩
theorem E_fieldAddr {x : Operand} {vx v : Value} {t : TypeId} {f : Nat} (hx : ev l x = some vx) (hr : RFldA P t vx f v) :
  ValOf P n l S w0 L ⟨some d, .fieldAddr t x f, ty, pos, af, none⟩ (v) :=
 E_instr (fun a hf => by simp only [execOp, hf.eval hx]) ⟨hr.out⟩
theorem E_extract {x : Operand} {vs : Array Value} {v : Value} {i : Nat} (hx : ev l x = some (.tuple vs)) (hr : vs[i]? = some v) :
  ValOf P n l S w0 L ⟨some d, .extract x i, ty, pos, af, none⟩ (v) :=
 E_instr (s:=Instr.extract (.tuple vs) i) (fun a hf => by simp only [execOp, hf.eval hx]) ⟨fun w => by simp [Instr.extract, hr]⟩
theorem h5k {x : Operand} {vs : List Value} {v : Value} {i : Nat} (hx : ev l x = some (.tuple vs.toArray)) (hr : vs[i]? = some v) :
  ValOf P n l S w0 L ⟨some d, .extract x i, ty, pos, af, none⟩ (v) := E_extract hx (by simpa using hr)
theorem h0i {x : Operand} {p : Addr} (hx : ev l x = some (.pointer (some p))) :
  ValOf P n l S w0 L ⟨some d, .nilCheck x, ty, pos, af, none⟩ (.pointer (some p)) :=
 ⟨fun a w hf H => by simp only [execOp, hf.eval hx, Sem.run_pure]⟩
theorem h4q {x : Operand} {lo hi mx : Option Operand} {vx v : Value} {vlo vhi vmx : Option Value} {t : TypeId} (hx : ev l x = some vx) (h1 : evO l lo = some vlo) (h2 : evO l hi = some vhi) (h3 : evO l mx = some vmx)
  (hr : RSlc P t vx vlo vhi vmx v) : ValOf P n l S w0 L ⟨some d, .slice t x lo hi mx, ty, pos, af, none⟩ (v) :=
 E_instr (fun a hf => by simp only [execOp, hf.eval hx, hf.evalO h1, hf.evalO h2, hf.evalO h3]) ⟨hr.out⟩
theorem h0r {b : Builtin} {xs : List Operand} {vs : List Value} {ats : Array TypeId} {s : Sem Value} {v : Value} (hx : evs l xs = some vs) (hs : ∀ cs, builtin b ats ty cs vs.toArray = (do pure (.value (← s)))) (hr : Runs P s v) : ValOf P n l S w0 L ⟨some d, .call { callee := .builtin b, args := xs.toArray, argTypes := ats }, ty, pos, af, none⟩ (v) :=
 E_instr (s:=s) (fun a hf => by rw [BigFrame.execOp_builtin]; simp only [List.map_toArray]; rw [hf.evals hx, hs]) hr
theorem h2o {xs : List (Nat × Operand)} {vs : List (Nat × Value)} (mk : List (Nat × Value) → List Value) {t : TypeId} (hx : evp l xs = some vs) (hr : ∀ w, (Instr.build t vs.toArray).run P w = .ok (.agg (mk vs).toArray) w) :
  ValOf P n l S w0 L ⟨some d, .build t xs.toArray, ty, pos, af, none⟩ (.agg (mk vs).toArray) :=
 E_instr (s:=Instr.build t vs.toArray) (fun a hf => by
  have e := hf.evalp hx
  simp only [execOp, List.map_toArray]
  rw [e]) ⟨hr⟩
theorem h0f {i : Nat} {t : TypeId} {x : Operand} {q : Bool} {b off : Nat} {cs : Array Value} {T : TypeId} {fr : Nat × Nat} {v : Value} (hx : ev l x = some (.pointer (some ⟨b, off, none⟩)))
  (hi : L[i]? = some ⟨q, b, .cells cs T fr⟩) (hag : aggB P t = false) (hu : (P.underlying t).isSome = true) (hv : cs.toList[off]? = some v) : ValOf P n l S w0 L ⟨some d, .load t x, ty, pos, af, none⟩ (v) :=
 ⟨fun _ _ hf H => run_load_one H i rfl (hf.eval hx) hi hu hag (by simpa using hv)⟩
theorem h1s {i : Nat} {t : TypeId} {x : Operand} {q : Bool} {b off m : Nat} {cs : Array Value} {vs : List Value} {T : TypeId} {fr : Nat × Nat} (hx : ev l x = some (.pointer (some ⟨b, off, none⟩)))
  (hi : L[i]? = some ⟨q, b, .cells cs T fr⟩) (hag : aggB P t = true) (hu : (P.underlying t).isSome = true) (hm : (P.info? t).map (·.size) = some m) (hle : off + m ≤ cs.size) (hv : (cs.toList.drop off).take m = vs) : ValOf P n l S w0 L ⟨some d, .load t x, ty, pos, af, none⟩ (.agg vs.toArray) :=
 ⟨fun _ _ hf H => run_load_agg H i rfl (hf.eval hx) hi hm hle (by subst hv; apply Array.ext'; simp) hu hag⟩
theorem h0l {i : Nat} {t : TypeId} {x y : Operand} {b off : Nat} {cs : List Value} {cs' : List Value} {T : TypeId} {v : Value} (hx : ev l x = some (.pointer (some ⟨b, off, none⟩))) (hy : ev l y = some v)
  (hi : L[i]? = some ⟨true, b, .cells cs.toArray T (0, 0)⟩) (hvn : v.cells = #[v]) (hone : v.oneCell' = true) (hm : (P.info? t).map (·.size) = some 1) (hle : off < cs.length) (hcs : cs.set off v = cs')
  (h : G n l S w0 (L.set i ⟨true, b, .cells cs'.toArray T (0, 0)⟩) K) : G n l S w0 L (K1 P ops k ⟨none, .store t x y, ty, pos, af, none⟩ K) :=
 K1_of_wp rfl (fun _ _ _ hf H hK => wp_store_one H i rfl (hf.eval hx) (hf.eval hy) hvn hone hi hm (by simpa using hle) (fun w' H' => hK _ w' hf (by subst hcs; simpa using H'))) h
theorem h1e {i : Nat} {t : TypeId} {x y : Operand} {b : Nat} {cs cs' : Array Value} {T : TypeId} (hx : ev l x = some (.pointer (some ⟨b, 0, none⟩))) (hy : ev l y = some (.agg cs'))
  (hi : L[i]? = some ⟨true, b, .cells cs T (0, 0)⟩) (hm : (P.info? t).map (·.size) = some cs'.size) (hs : cs.size = cs'.size) (hone : cs'.toList.all (·.oneCell') = true)
  (h : G n l S w0 (L.set i ⟨true, b, .cells cs' T (0, 0)⟩) K) : G n l S w0 L (K1 P ops k ⟨none, .store t x y, ty, pos, af, none⟩ K) :=
 K1_of_wp rfl (fun _ _ _ hf H hK => wp_store H i _ cs' rfl (hf.eval hx) (hf.eval hy) hi hm rfl hone (by omega) (by simp [Value.cells]; omega) (fun w' H' => hK _ w' hf H')) h
theorem h2b {t : TypeId} {d : Tmp} {v : Value} (hd : Nat.blt d n = true) (hz : ∀ w, (zeroValue t).run P w = .ok v w)
  (h : ∀ nb, w0.heap.size ≤ nb → G n ((d, .pointer (some ⟨nb, 0, none⟩)) :: l) S w0 (⟨true, nb, .cells v.cells t (0, 0)⟩ :: L) K) : G n l S w0 L (K1 P ops k ⟨some d, .alloc t, ty, pos, af, none⟩ K) := .mk fun a w hf H => h5s rfl <| by
  unfold Oper.wp execOp
  simp only [Instr.alloc, Sem.run_bind, hz, Result.andThen_ok, newVar, newRow, run_newObj, Sem.run_pure]
  exact ((h _ H.size).out _ _ (hf.put (some d) _ hd) (H.alloc _))
theorem h4e {t : TypeId} {d : Tmp} {x : Operand} {v : Value} (hd : Nat.blt d n = true) (hx : ev l x = some v)
  (h : ∀ nb, w0.heap.size ≤ nb → G n ((d, .pointer (some ⟨nb, 0, none⟩)) :: l) S w0 (⟨true, nb, .cells v.cells t (0, 0)⟩ :: L) K) : G n l S w0 L (K1 P ops k ⟨some d, .box t x, ty, pos, af, none⟩ K) := .mk fun a w hf H => h5s rfl <| by
  unfold Oper.wp execOp
  simp only [hf.eval hx, Instr.box, Sem.run_bind, Result.andThen_ok, newVar, newRow, run_newObj, Sem.run_pure]
  exact ((h _ H.size).out _ _ (hf.put (some d) _ hd) (H.alloc _))
structure Fn (P : Program) (F : FuncId) (args : Array Value) (S : List Nat) (w0 : World) (L : List Blk) (R : Value → List Blk → Prop) : Prop where
 out : ∀ w, HP S w0 w L → Calls P F args w fun e w' => ∃ v L', e = .returned v ∧ R v L' ∧ HP S w0 w' L'
theorem Fn.mono {F : FuncId} {args : Array Value} {R R' : Value → List Blk → Prop} (h : Fn P F args S w0 L R) (hr : ∀ v L', R v L' → ∃ L'', R' v L'' ∧ ∀ w, HP S w0 w L' → HP S w0 w L'') : Fn P F args S w0 L R' :=
 .mk fun w H => (h.out w H).mono fun _ _ ⟨v, L', e, r, H'⟩ => let ⟨L'', r', hs⟩ := hr v L' r; ⟨v, L'', e, r', hs _ H'⟩
theorem Fn_of {F : FuncId} {args : List Value} {R : Value → List Blk → Prop} {fn : Func} {c : Code} (hf : P.funcs[F]? = some fn) (hb : fn.body = some c) (hle : Nat.ble args.length fn.ntmps = true) {l0 : List (Nat × Value)} (hl : args.zipIdx.map (fun p => (p.2, p.1)) = l0)
  (h : G fn.ntmps l0 S w0 L (KC P c (.fin fn fun e w' => ∃ v L', e = .returned v ∧ R v L' ∧ HP S w0 w' L'))) : Fn P F args.toArray S w0 L R := .mk fun w H => by
 refine calls_of_wp hf hb (h.out _ w ⟨?_, rfl, ?_⟩ H).out
 ·have := Nat.le_of_ble_eq_true hle
  simp; omega
 ·subst hl
  have key : ∀ (xs : List Value) (k i : Nat) (v : Value), lk ((xs.zipIdx k).map (fun p => (p.2, p.1))) i = some v → k ≤ i ∧ xs[i - k]? = some v := by
   intro xs
   induction xs with
   | nil => intro k i v h; simp [lk] at h
   | cons x xs ih =>
    intro k i v h
    simp only [List.zipIdx_cons, List.map_cons, lk] at h
    cases hb : Nat.beq i k with
    | true =>
     rw [hb, cond_true, Option.some.injEq] at h
     have := Nat.eq_of_beq_eq_true hb
     subst this; subst h
     simp
    | false =>
     rw [hb, cond_false] at h
     obtain ⟨h1, h2⟩ := ih (k + 1) i v h
     refine ⟨by omega, ?_⟩
     have : i - k = (i - (k + 1)) + 1 := by omega
     rw [this, List.getElem?_cons_succ]; exact h2
  intro i v hv
  obtain ⟨_, h2⟩ := key args 0 i v hv
  simp only [Nat.sub_zero] at h2
  have hi : i < args.length := by
   rcases Nat.lt_or_ge i args.length with h' | h'
   ·exact h'
   ·simp [List.getElem?_eq_none h'] at h2
  rw [Array.getElem?_append_left (by simpa using hi)]
  simpa using h2
theorem Fn0 {F : FuncId} {R : Value → List Blk → Prop} {fn : Func} {c : Code} (hf : P.funcs[F]? = some fn) (hn : fn.ntmps = n) (hb : fn.body = some c) (h : G n [] S w0 L (KC P c (.fin fn fun e w' => ∃ v L', e = .returned v ∧ R v L' ∧ HP S w0 w' L'))) : Fn P F #[] S w0 L R := by
 subst hn; exact Fn_of (args:=[]) hf hb (Nat.ble_eq_true_of_le (Nat.zero_le _)) rfl h
theorem Fn1 {F : FuncId} {R : Value → List Blk → Prop} {fn : Func} {c : Code} {v0 : Value} (hf : P.funcs[F]? = some fn) (hn : fn.ntmps = n) (hb : fn.body = some c) (hl : Nat.ble 1 n = true) (h : G n [(0, v0)] S w0 L (KC P c (.fin fn fun e w' => ∃ v L', e = .returned v ∧ R v L' ∧ HP S w0 w' L'))) : Fn P F #[v0] S w0 L R := by
 subst hn; exact Fn_of (args:=[v0]) hf hb hl rfl h
theorem Fn2 {F : FuncId} {R : Value → List Blk → Prop} {fn : Func} {c : Code} {v0 v1 : Value} (hf : P.funcs[F]? = some fn) (hn : fn.ntmps = n) (hb : fn.body = some c) (hl : Nat.ble 2 n = true) (h : G n [(0, v0), (1, v1)] S w0 L (KC P c (.fin fn fun e w' => ∃ v L', e = .returned v ∧ R v L' ∧ HP S w0 w' L'))) : Fn P F #[v0, v1] S w0 L R := by
 subst hn; exact Fn_of (args:=[v0, v1]) hf hb hl rfl h
theorem Fn3 {F : FuncId} {R : Value → List Blk → Prop} {fn : Func} {c : Code} {v0 v1 v2 : Value} (hf : P.funcs[F]? = some fn) (hn : fn.ntmps = n) (hb : fn.body = some c) (hl : Nat.ble 3 n = true) (h : G n [(0, v0), (1, v1), (2, v2)] S w0 L (KC P c (.fin fn fun e w' => ∃ v L', e = .returned v ∧ R v L' ∧ HP S w0 w' L'))) : Fn P F #[v0, v1, v2] S w0 L R := by
 subst hn; exact Fn_of (args:=[v0, v1, v2]) hf hb hl rfl h
theorem Fn4 {F : FuncId} {R : Value → List Blk → Prop} {fn : Func} {c : Code} {v0 v1 v2 v3 : Value} (hf : P.funcs[F]? = some fn) (hn : fn.ntmps = n) (hb : fn.body = some c) (hl : Nat.ble 4 n = true) (h : G n [(0, v0), (1, v1), (2, v2), (3, v3)] S w0 L (KC P c (.fin fn fun e w' => ∃ v L', e = .returned v ∧ R v L' ∧ HP S w0 w' L'))) : Fn P F #[v0, v1, v2, v3] S w0 L R := by
 subst hn; exact Fn_of (args:=[v0, v1, v2, v3]) hf hb hl rfl h
theorem Fn5 {F : FuncId} {R : Value → List Blk → Prop} {fn : Func} {c : Code} {v0 v1 v2 v3 v4 : Value} (hf : P.funcs[F]? = some fn) (hn : fn.ntmps = n) (hb : fn.body = some c) (hl : Nat.ble 5 n = true) (h : G n [(0, v0), (1, v1), (2, v2), (3, v3), (4, v4)] S w0 L (KC P c (.fin fn fun e w' => ∃ v L', e = .returned v ∧ R v L' ∧ HP S w0 w' L'))) : Fn P F #[v0, v1, v2, v3, v4] S w0 L R := by
 subst hn; exact Fn_of (args:=[v0, v1, v2, v3, v4]) hf hb hl rfl h
theorem run_callFunc {F : FuncId} (hfn : (P.funcs[F]?).map (fun fn => (fn.name == "runtime.NumGoroutine", fn.body.isNone)) = some (false, false)) (args : Array Value) (w : World) :
  (callFunc F args).run P w = .ok (.enter F args) w := by
 unfold callFunc
 cases hq : P.funcs[F]? with
 | none => simp [hq] at hfn
 | some fn =>
  simp only [hq, Option.map_some, Option.some.injEq, Prod.mk.injEq] at hfn
  simp only [Sem.run_bind, run_program, Result.andThen_ok, hq, hfn.1, hfn.2, Bool.false_eq_true, if_false, Sem.run_pure]
theorem h0w {F : FuncId} {xs : List Operand} {vs : List Value} {ats : Array TypeId} {R : Value → List Blk → Prop} (hfn : (P.funcs[F]?).map (fun fn => (fn.name == "runtime.NumGoroutine", fn.body.isNone)) = some (false, false)) (hd : Nat.blt d n = true)
  (hx : evs l xs = some vs) (hc : Fn P F vs.toArray S w0 L R) (h : ∀ v L', R v L' → G n ((d, v) :: l) S w0 L' K) :
  G n l S w0 L (K1 P ops k ⟨some d, .call { callee := .value (.func F), args := xs.toArray, argTypes := ats }, ty, pos, af, none⟩ K) := .mk fun a w hf H => h5s rfl <| by
  unfold Oper.wp
  rw [execOp_call_go, List.map_toArray, hf.evals hx]
  have : (#[] ++ vs.toArray ++ #[] : Array Value) = vs.toArray := by simp
  rw [this, run_callFunc hfn]
  refine (hc.out w H).mono fun e w' ⟨v, L', he, hR, H'⟩ => ?_
  subst he
  exact ((h v L' hR).out _ _ (hf.put (some d) v hd) H')
inductive Res (P : Program) (l : List (Nat × Value)) (L : List Blk) : List ResultVar → List Value → Prop
 | nil : Res P l L [] []
 | tmp {t : Tmp} {v : Value} {rs vs} : lk l t = some v → Res P l L rs vs → Res P l L (.tmp t :: rs) (v :: vs)
 | agg {t : Tmp} {T : TypeId} {i b k : Nat} {q : Bool} {cs : Array Value} {u : TypeId} {fr : Nat × Nat} {rs vs} : lk l t = some (.pointer (some ⟨b, 0, none⟩)) → L[i]? = some ⟨q, b, .cells cs u fr⟩ → aggB P T = true → (P.underlying T).isSome = true →
   cs.size = k → (P.info? T).map (·.size) = some k → Res P l L rs vs → Res P l L (.cell t T :: rs) (.agg cs :: vs)
 | one {t : Tmp} {T : TypeId} {i b : Nat} {q : Bool} {v : Value} {cs : Array Value} {u : TypeId} {fr : Nat × Nat} {rs vs} : lk l t = some (.pointer (some ⟨b, 0, none⟩)) → L[i]? = some ⟨q, b, .cells cs u fr⟩ → aggB P T = false → (P.underlying T).isSome = true →
   cs.toList[0]? = some v → Res P l L rs vs → Res P l L (.cell t T :: rs) (v :: vs)
def resSem (tmps : Array Value) : ResultVar → Sem Value
 | .tmp t => pure (tmps.getD t undef)
 | .cell p t => do loadVar t (← asAddr (tmps.getD p undef))
theorem Res.run {rs : List ResultVar} {vs : List Value} (h : Res P l L rs vs) {a : Act} {w : World} (hf : Fr n l a) (H : HP S w0 w L) :
  (rs.mapM (resSem a.tmps)).run P w = .ok vs w := by
 induction h with
 | nil => rfl
 | @tmp t v rs vs hl _ ih =>
  have e : a.tmps.getD t undef = v := hf.eval (x:=.tmp t) hl
  simp only [List.mapM_cons, resSem, Sem.run_bind, Sem.run_pure, Result.andThen_ok, ih, e]
 | @agg t T i b k q cs u fr rs vs hl hi ha hu hs hm _ ih =>
  have e : a.tmps.getD t undef = .pointer (some ⟨b, 0, none⟩) := hf.eval (x:=.tmp t) hl
  obtain ⟨dd, hd'⟩ := Option.isSome_iff_exists.1 hu
  have hdd : (match dd with | .struct _ | .array _ _ => true | _ => false) = true := by
   unfold aggB at ha; rw [hd'] at ha; cases dd <;> simp_all
  simp only [List.mapM_cons, resSem, Sem.run_bind, Sem.run_pure, Result.andThen_ok, ih, e, asAddr, run_loadVar_row w b u T cs fr dd (H.at_ i hi) hd' hdd (hs ▸ hm)]
 | @one t T i b q v cs u fr rs vs hl hi ha hu hv _ ih =>
  have e : a.tmps.getD t undef = .pointer (some ⟨b, 0, none⟩) := hf.eval (x:=.tmp t) hl
  have hc : w.cell? ⟨b, 0, none⟩ = some v := (cell_at H i hi).trans (by simpa using hv)
  simp only [List.mapM_cons, resSem, Sem.run_bind, Sem.run_pure, Result.andThen_ok, ih, e, asAddr, loadVar, h5p hu ha, Bool.false_eq_true, if_false, run_load, hc]
def h5f : List Value → Value
 | [v] => v
 | vs => .tuple vs.toArray
theorem results_of {fn : Func} {rs : List ResultVar} {vs : List Value} (hr : fn.results = rs.toArray) (h : Res P l L rs vs) {a : Act} {w : World} (hf : Fr n l a) (H : HP S w0 w L) :
  (results fn a.tmps).run P w = .ok (h5f vs) w := by
 have := h.run hf H
 have e : results fn a.tmps = (do let vs ← fn.results.mapM (resSem a.tmps); pure (if h : vs.size = 1 then vs[0] else .tuple vs)) := by
  unfold results
  congr 1
 rw [e, hr, Sem.run_bind, List.mapM_toArray, Sem.run_map]
 simp only [this, Result.andThen_ok, Sem.run_pure]
 congr 1
 match vs with
 | [] => rfl
 | [v] => rfl
 | _ :: _ :: _ => rfl
theorem h2h {fn : Func} {rs : List ResultVar} {vs : List Value} {R : Value → List Blk → Prop} (hr : fn.results = rs.toArray) (h : Res P l L rs vs) (hR : ∃ L', R (h5f vs) L' ∧ ∀ w, HP S w0 w L → HP S w0 w L') :
  G n l S w0 L (KX P (.fin fn fun e w' => ∃ v L', e = .returned v ∧ R v L' ∧ HP S w0 w' L') .ret) := .mk fun _ w hf H =>
 let ⟨L', hR, hs⟩ := hR; ⟨⟨hf.defers, _, results_of hr h hf H, _, L', rfl, hR, hs w H⟩⟩
theorem G_doneA {fn : Func} {t : Tmp} {T : TypeId} {i b kk : Nat} {q : Bool} {cs : Array Value} {u : TypeId} {fr : Nat × Nat} {R : Value → List Blk → Prop} (hr : fn.results = #[.cell t T]) (hv : lk l t = some (.pointer (some ⟨b, 0, none⟩))) (hi : L[i]? = some ⟨q, b, .cells cs u fr⟩)
  (hag : aggB P T = true) (hu : (P.underlying T).isSome = true) (hm : (P.info? T).map (·.size) = some kk) (hs : cs.size = kk) (hR : ∃ L', R (.agg cs) L' ∧ ∀ w, HP S w0 w L → HP S w0 w L') :
  G n l S w0 L (KX P (.fin fn fun e w' => ∃ v L', e = .returned v ∧ R v L' ∧ HP S w0 w' L') .ret) :=
 h2h (rs:=[.cell t T]) hr (.agg hv hi hag hu hs hm .nil) hR
theorem h4j {fn : Func} {rs : List ResultVar} {vs : List Value} {R : Value → List Blk → Prop} (hr : fn.results = rs.toArray) (h : Res P l L rs vs) (hR : ∃ L', R (h5f vs) L' ∧ ∀ w, HP S w0 w L → HP S w0 w L') :
  G n l S w0 L (KX P (.fin fn fun e w' => ∃ v L', e = .returned v ∧ R v L' ∧ HP S w0 w' L') .normal) := .mk fun _ w hf H =>
 let ⟨L', hR, hs⟩ := hR; ⟨⟨hf.defers, _, results_of hr h hf H, _, L', rfl, hR, hs w H⟩⟩
end
section
variable {P : Program} {t s : TypeId} {k : IntKind} {a b c e : Int}
theorem beq_d (a b : Int) : (a == b) = decide (a = b) := by by_cases h : a = b <;> simp [h]
theorem h1a : RBin P .eql t (.int k a) (.int k b) (.bool (decide (a = b))) := .mk fun w => by simp [binOp, Op.intCmp, beq_d]
theorem h0j (h : a = b) : RBin P .eql t (.int k a) (.int k b) (.bool true) := .mk fun w => by simp [binOp, Op.intCmp, h]
theorem h0m (h : a ≠ b) : RBin P .eql t (.int k a) (.int k b) (.bool false) := .mk fun w => by simp [binOp, Op.intCmp, h]
theorem rb_neq : RBin P .neq t (.int k a) (.int k b) (.bool (decide (a ≠ b))) := .mk fun w => by simp [binOp, Op.intCmp, bne, beq_d]
theorem h5a (h : a ≠ b) : RBin P .neq t (.int k a) (.int k b) (.bool true) := .mk fun w => by simp [binOp, Op.intCmp, h]
theorem h2v (h : a = b) : RBin P .neq t (.int k a) (.int k b) (.bool false) := .mk fun w => by simp [binOp, Op.intCmp, h]
theorem h3l : RBin P .lss t (.int k a) (.int k b) (.bool (decide (a < b))) := .mk fun w => by simp [binOp, Op.intCmp]
theorem h1l (h : a < b) : RBin P .lss t (.int k a) (.int k b) (.bool true) := .mk fun w => by simp [binOp, Op.intCmp, h]
theorem h1k (h : ¬ a < b) : RBin P .lss t (.int k a) (.int k b) (.bool false) := .mk fun w => by simp [binOp, Op.intCmp]; omega
theorem rb_leq_t (h : a ≤ b) : RBin P .leq t (.int k a) (.int k b) (.bool true) := .mk fun w => by simp [binOp, Op.intCmp, h]
theorem rb_leq_f (h : ¬ a ≤ b) : RBin P .leq t (.int k a) (.int k b) (.bool false) := .mk fun w => by simp [binOp, Op.intCmp]; omega
theorem rb_gtr : RBin P .gtr t (.int k a) (.int k b) (.bool (decide (b < a))) := .mk fun w => by simp [binOp, Op.intCmp]
theorem h4m (h : b < a) : RBin P .gtr t (.int k a) (.int k b) (.bool true) := .mk fun w => by simp [binOp, Op.intCmp, h]
theorem h4n (h : ¬ b < a) : RBin P .gtr t (.int k a) (.int k b) (.bool false) := .mk fun w => by simp [binOp, Op.intCmp]; omega
theorem rb_geq : RBin P .geq t (.int k a) (.int k b) (.bool (decide (b ≤ a))) := .mk fun w => by simp [binOp, Op.intCmp]
theorem h3q (h : b ≤ a) : RBin P .geq t (.int k a) (.int k b) (.bool true) := .mk fun w => by simp [binOp, Op.intCmp, h]
theorem h3c (h : ¬ b ≤ a) : RBin P .geq t (.int k a) (.int k b) (.bool false) := .mk fun w => by simp [binOp, Op.intCmp]; omega
theorem h0z (h : a + b = c) (hw : k.wrap c = e) : RBin P .add t (.int k a) (.int k b) (.int k e) := .mk fun w => by subst h hw; simp [binOp, Op.intArith]
theorem h2z (h : a - b = c) (hw : k.wrap c = e) : RBin P .sub t (.int k a) (.int k b) (.int k e) := .mk fun w => by subst h hw; simp [binOp, Op.intArith]
theorem h5q (h : a * b = c) (hw : k.wrap c = e) : RBin P .mul t (.int k a) (.int k b) (.int k e) := .mk fun w => by subst h hw; simp [binOp, Op.intArith]
theorem rb_rem (ha : 0 ≤ a) (hb : 0 < b) (h : a % b = c) : RBin P .rem t (.int k a) (.int k b) (.int k c) := .mk fun w => by
 subst h; have : b ≠ 0 := by omega
 simp [binOp, Op.intDiv, this, Int.tmod_eq_emod_of_nonneg ha]
theorem rb_quo (ha : 0 ≤ a) (hb : 0 < b) (h : a / b = c) (hw : k.wrap c = e) : RBin P .quo t (.int k a) (.int k b) (.int k e) := .mk fun w => by
 subst h hw; have : b ≠ 0 := by omega
 simp [binOp, Op.intDiv, this, Int.tdiv_eq_ediv_of_nonneg ha]
theorem rb_shr {k' : IntKind} (hb : 0 ≤ b) (h : a.fdiv (2 ^ (min b.toNat k.bits)) = c) : RBin P .shr t (.int k a) (.int k' b) (.int k c) := .mk fun w => by
 subst h; have : ¬ b < 0 := by omega
 simp [binOp, Op.shift, this]
theorem rb_shl {k' : IntKind} (hb : 0 ≤ b) (h : k.wrap (a * 2 ^ (min b.toNat k.bits)) = c) : RBin P .shl t (.int k a) (.int k' b) (.int k c) := .mk fun w => by
 subst h; have : ¬ b < 0 := by omega
 simp [binOp, Op.shift, this]
theorem run_eq_bool {x y : Bool} (hu : P.underlying t = some .bool) (w : World) : (Op.equal t (.bool x) (.bool y)).run P w = .ok (x == y) w := by
 show (Op.equalIn (9999 + 1) t (.bool x) (.bool y)).run P w = _
 unfold Op.equalIn
 rw [Sem.run_bind, run_underlying hu]; rfl
theorem rb_bne {x y : Bool} (hu : P.underlying t = some .bool) : RBin P .neq t (.bool x) (.bool y) (.bool (!(x == y))) := .mk fun w => by
 show ((do pure (.bool (!(← Op.equal t (.bool x) (.bool y))))) : Sem Value).run P w = _
 rw [Sem.run_bind, run_eq_bool hu]; rfl
theorem h3v {p : Prop} [i : Decidable p] : RUn P .not (.bool (decide p)) (.bool (decide (¬ p))) := .mk fun w => by simp [Op.unary]
theorem h4l : RUn P .not (.bool true) (.bool false) := .mk fun _ => rfl
theorem h4s : RUn P .not (.bool false) (.bool true) := .mk fun _ => rfl
theorem ru_not {x : Bool} : RUn P .not (.bool x) (.bool (!x)) := .mk fun _ => rfl
def iand (a b : Int) : Int := ((a.toNat &&& b.toNat : Nat) : Int)
def ior (a b : Int) : Int := ((a.toNat ||| b.toNat : Nat) : Int)
def ixor (a b : Int) : Int := ((a.toNat ^^^ b.toNat : Nat) : Int)
def iandn (a b : Int) : Int := ((a.toNat ^^^ (a.toNat &&& b.toNat) : Nat) : Int)
theorem iand_le (a b : Int) (h : 0 ≤ a) : 0 ≤ iand a b ∧ iand a b ≤ a := by
 have := Nat.and_le_left (n:=a.toNat) (m:=b.toNat); unfold iand; omega
theorem iand_le' (a b : Int) (h : 0 ≤ b) : iand a b ≤ b := by
 have := Nat.and_le_right (n:=a.toNat) (m:=b.toNat); unfold iand; omega
theorem nat_andn_le (x y : Nat) : x ^^^ (x &&& y) ≤ x := by
 have : x ^^^ (x &&& y) = x &&& (x ^^^ (x &&& y)) := by
  apply Nat.eq_of_testBit_eq; intro i
  simp only [Nat.testBit_and, Nat.testBit_xor]
  cases x.testBit i <;> cases y.testBit i <;> rfl
 rw [this]; exact Nat.and_le_left
theorem iandn_le (a b : Int) (h : 0 ≤ a) : 0 ≤ iandn a b ∧ iandn a b ≤ a := by have := nat_andn_le a.toNat b.toNat; unfold iandn; omega
theorem ior_lt (a b : Int) (n : Nat) (ha : 0 ≤ a ∧ a < 2 ^ n) (hb : 0 ≤ b ∧ b < 2 ^ n) : 0 ≤ ior a b ∧ ior a b < 2 ^ n := by
  have h1 : a.toNat < 2 ^ n := by have : ((2 ^ n : Nat) : Int) = 2 ^ n := by simp
                                  omega
  have h2 : b.toNat < 2 ^ n := by have : ((2 ^ n : Nat) : Int) = 2 ^ n := by simp
                                  omega
  have := Nat.or_lt_two_pow h1 h2
  have e : ((2 ^ n : Nat) : Int) = 2 ^ n := by simp
  unfold ior; omega
theorem ixor_lt (a b : Int) (n : Nat) (ha : 0 ≤ a ∧ a < 2 ^ n) (hb : 0 ≤ b ∧ b < 2 ^ n) : 0 ≤ ixor a b ∧ ixor a b < 2 ^ n := by
  have h1 : a.toNat < 2 ^ n := by have : ((2 ^ n : Nat) : Int) = 2 ^ n := by simp
                                  omega
  have h2 : b.toNat < 2 ^ n := by have : ((2 ^ n : Nat) : Int) = 2 ^ n := by simp
                                  omega
  have := Nat.xor_lt_two_pow h1 h2
  have e : ((2 ^ n : Nat) : Int) = 2 ^ n := by simp
  unfold ixor; omega
theorem iand_mask (a : Int) (n : Nat) (ha : 0 ≤ a) : iand a (2 ^ n - 1) = a % 2 ^ n := by
 have e : ((2 : Int) ^ n - 1).toNat = 2 ^ n - 1 := by
  have : ((2 ^ n : Nat) : Int) = 2 ^ n := by simp
  have : 0 < 2 ^ n := Nat.two_pow_pos n
  omega
 unfold iand
 rw [e, Nat.and_two_pow_sub_one_eq_mod]
 obtain ⟨m, rfl⟩ := Int.eq_ofNat_of_zero_le ha
 simp
structure inU (k : IntKind) (a : Int) : Prop where
 s : k.signed = false
 b : 0 ≤ a ∧ a < 2 ^ k.bits
theorem bv_toNat {k : IntKind} {a : Int} (h : inU k a) : (BitVec.ofInt k.bits a).toNat = a.toNat := by
 obtain ⟨_, h1, h2⟩ := h
 obtain ⟨m, rfl⟩ := Int.eq_ofNat_of_zero_le h1
 have : m < 2 ^ k.bits := by exact_mod_cast h2
 simp [Nat.mod_eq_of_lt this]
theorem wrap_inU {k : IntKind} {a : Int} (h : inU k a) : k.wrap a = a := by
 obtain ⟨h0, h1, h2⟩ := h
 unfold IntKind.wrap
 simp only [h0, Bool.false_and, Bool.false_eq_true, if_false]
 exact Int.emod_eq_of_lt h1 h2
theorem h4y (ha : inU k a) (hb : inU k b) : RBin P .and t (.int k a) (.int k b) (.int k (iand a b)) := .mk fun w => by
 have h := iand_le a b ha.b.1
 have e : k.wrap (iand a b) = iand a b := wrap_inU ⟨ha.1, ⟨h.1, by have := ha.b.2; omega⟩⟩
 have e2 : ((BitVec.ofInt k.bits a &&& BitVec.ofInt k.bits b).toNat : Int) = iand a b := by
  rw [BitVec.toNat_and, bv_toNat ha, bv_toNat hb]; rfl
 simp only [binOp, Op.intBits, ne_eq, not_true, if_false, e2, e, Sem.run_pure]
theorem rb_or (ha : inU k a) (hb : inU k b) : RBin P .or t (.int k a) (.int k b) (.int k (ior a b)) := .mk fun w => by
 have h := ior_lt a b k.bits ha.b hb.b
 have e : k.wrap (ior a b) = ior a b := wrap_inU ⟨ha.1, h⟩
 have e2 : ((BitVec.ofInt k.bits a ||| BitVec.ofInt k.bits b).toNat : Int) = ior a b := by
  rw [BitVec.toNat_or, bv_toNat ha, bv_toNat hb]; rfl
 simp only [binOp, Op.intBits, ne_eq, not_true, if_false, e2, e, Sem.run_pure]
theorem rb_xor (ha : inU k a) (hb : inU k b) : RBin P .xor t (.int k a) (.int k b) (.int k (ixor a b)) := .mk fun w => by
 have h := ixor_lt a b k.bits ha.b hb.b
 have e : k.wrap (ixor a b) = ixor a b := wrap_inU ⟨ha.1, h⟩
 have e2 : ((BitVec.ofInt k.bits a ^^^ BitVec.ofInt k.bits b).toNat : Int) = ixor a b := by
  rw [BitVec.toNat_xor, bv_toNat ha, bv_toNat hb]; rfl
 simp only [binOp, Op.intBits, ne_eq, not_true, if_false, e2, e, Sem.run_pure]
theorem nat_andNot (n x y : Nat) (hx : x < 2 ^ n) : (BitVec.ofNat n x &&& ~~~ BitVec.ofNat n y).toNat = x ^^^ (x &&& y) := by
 apply Nat.eq_of_testBit_eq; intro i
 rw [BitVec.testBit_toNat, BitVec.getLsbD_and, BitVec.getLsbD_not, BitVec.getLsbD_ofNat, BitVec.getLsbD_ofNat, Nat.testBit_xor, Nat.testBit_and]
 by_cases hi : i < n
 ·cases h : x.testBit i <;> cases h' : y.testBit i <;> simp [hi]
 ·have : x.testBit i = false := Nat.testBit_lt_two_pow (Nat.lt_of_lt_of_le hx (Nat.pow_le_pow_right (by omega) (by omega)))
  simp [this]
theorem rb_andn (ha : inU k a) (hb : inU k b) : RBin P .andNot t (.int k a) (.int k b) (.int k (iandn a b)) := .mk fun w => by
 have h := iandn_le a b ha.b.1
 have e : k.wrap (iandn a b) = iandn a b := wrap_inU ⟨ha.1, ⟨h.1, by have := ha.b.2; omega⟩⟩
 have e2 : ((BitVec.ofInt k.bits a &&& ~~~ BitVec.ofInt k.bits b).toNat : Int) = iandn a b := by
  obtain ⟨_, h1, h2⟩ := ha
  obtain ⟨_, h3, h4⟩ := hb
  obtain ⟨x, rfl⟩ := Int.eq_ofNat_of_zero_le h1
  obtain ⟨y, rfl⟩ := Int.eq_ofNat_of_zero_le h3
  have hx : x < 2 ^ k.bits := by exact_mod_cast h2
  have := nat_andNot k.bits x y hx
  simp only [BitVec.ofInt_natCast, iandn, Int.toNat_natCast] at this ⊢
  rw [this]
 simp only [binOp, Op.intBits, ne_eq, not_true, if_false, e2, e, Sem.run_pure]
theorem h3g {x : TypeDesc} {ks : IntKind} (hs : P.underlying s = some x) (ht : P.underlying t = some (.int k)) (hw : k.wrap a = e) : RConv P s t (.int ks a) (.int k e) := .mk fun w => by
 subst hw
 unfold convert
 rw [Sem.run_bind, run_underlying hs, Result.andThen_ok, Sem.run_bind, run_underlying ht, Result.andThen_ok]
 rfl
end
section
variable {P : Program} {t s : TypeId} {k : IntKind} {a b c e : Int}
theorem h3u {z : Value} {m by_ : Nat} (h : (P.info? t).map (fun i => (i.zero, i.size, i.bytes)) = some (some z, m, by_)) :
  P.info? t = some ((P.info? t).getD default) ∧ ((P.info? t).getD default).zero = some z ∧ ((P.info? t).getD default).size = m ∧ ((P.info? t).getD default).bytes = by_ := by
 obtain ⟨i, hi, h1, h2, h3⟩ := info_parts h
 rw [hi]; exact ⟨rfl, h1, h2, h3⟩
structure FldOff (P : Program) (s : TypeId) (f o : Nat) : Prop where
 out : ∃ fs fld, P.underlying s = some (.struct fs) ∧ fs[f]? = some fld ∧ ((P.info? fld.type).map fun i => i.size != 0) = some true ∧ fld.offset = o
theorem FldOff.of {s : TypeId} {fs : Array Field} {fld : Field} {f o : Nat} (hs : P.underlying s = some (.struct fs)) (hf : fs[f]? = some fld) (hz : ((P.info? fld.type).map fun i => i.size != 0) = some true) (ho : fld.offset = o) : FldOff P s f o :=
 ⟨fs, fld, hs, hf, hz, ho⟩
theorem r_fieldAt {f o bb off off' : Nat} (h : FldOff P s f o) (ho : off + o = off') :
  RFldA P s (.pointer (some ⟨bb, off, none⟩)) f (.pointer (some ⟨bb, off', none⟩)) := .mk fun w => by
 obtain ⟨fs, fld, hs, hf, hz, he⟩ := h.out
 subst ho he
 unfold Instr.fieldAt
 cases hi : P.info? fld.type with
 | none => simp [hi] at hz
 | some i =>
  have h0 : i.size ≠ 0 := by simpa [hi] using hz
  have hadd : (⟨bb, off, none⟩ : Addr).add fld.offset = ⟨bb, off + fld.offset, none⟩ := by unfold Addr.add; split <;> simp_all
  simp [Sem.run_bind, run_underlying hs, hf, Instr.sureAddr, fieldPlace, sizeOf, typeInfo, hi, h0, hadd]
theorem r_fieldAt0 {f o bb : Nat} (h : FldOff P s f o) : RFldA P s (.pointer (some ⟨bb, 0, none⟩)) f (.pointer (some ⟨bb, o, none⟩)) := r_fieldAt h (Nat.zero_add o)
theorem h0x {elem m bb off off' len cap : Nat} (ht : P.underlying t = some (.slice elem)) (hm : (P.info? elem).map (·.size) = some m) (h0 : 0 ≤ a) (h1 : a < len) (ho : off + a.toNat * m = off') :
  RIdxA P t (.slice (some ⟨bb, off, none⟩) len cap) (.int k a) (.pointer (some ⟨bb, off', none⟩)) := .mk fun w => by
 subst ho
 cases hi : P.info? elem with
 | none => simp [hi] at hm
 | some i =>
  have h2 : i.size = m := by simpa [hi] using hm
  have hadd : ∀ q, (⟨bb, off, none⟩ : Addr).add q = ⟨bb, off + q, none⟩ := by intro q; unfold Addr.add; split <;> simp_all
  simp [Instr.indexAt, asIntOf, Sem.run_bind, run_underlying ht, h0, h1, sizeOf, typeInfo, hi, h2, hadd]
theorem r_ixa {elem m bb off off' len : Nat} (ht : P.underlying t = some (.array len elem)) (hm : (P.info? elem).map (·.size) = some m) (h0 : 0 ≤ a) (h1 : a < len) (ho : off + a.toNat * m = off') :
  RIdxA P t (.pointer (some ⟨bb, off, none⟩)) (.int k a) (.pointer (some ⟨bb, off', none⟩)) := .mk fun w => by
 subst ho
 cases hi : P.info? elem with
 | none => simp [hi] at hm
 | some i =>
  have h2 : i.size = m := by simpa [hi] using hm
  have hadd : ∀ q, (⟨bb, off, none⟩ : Addr).add q = ⟨bb, off + q, none⟩ := by intro q; unfold Addr.add; split <;> simp_all
  simp [Instr.indexAt, asIntOf, Sem.run_bind, run_underlying ht, h0, h1, Instr.sureAddr, sizeOf, typeInfo, hi, h2, hadd]
theorem r_ixv {elem len : Nat} {cs : Array Value} {v : Value} (ht : P.underlying t = some (.array len elem)) (hu : (P.underlying elem).isSome = true) (hg : aggB P elem = false) (hm : (P.info? elem).map (·.size) = some 1) (h0 : 0 ≤ a) (h1 : a < len) (hv : cs.toList[a.toNat]? = some v) :
  RIdx P t (.agg cs) (.int k a) v := .mk fun w => by
 cases hi : P.info? elem with
 | none => simp [hi] at hm
 | some i =>
  have h2 : i.size = 1 := by simpa [hi] using hm
  simp [Instr.index, asIntOf, Sem.run_bind, run_underlying ht, h0, h1, sizeOf, typeInfo, hi, h2, part, h5p hu hg, show cs[a.toNat]? = some v by simpa using hv]
theorem r_ixstr {bs : ByteArray} {x : UInt8} (ht : P.underlying t = some .string) (h0 : 0 ≤ a) (hv : bs[a.toNat]? = some x) :
  RIdx P t (.string bs) (.int k a) (.int .u8 x.toNat) := .mk fun w => by
 simp [Instr.index, asIntOf, Sem.run_bind, run_underlying ht, h0, hv]
theorem r_len_slice {elem len cap : Nat} {x : Option Addr} (ht : P.underlying t = some (.slice elem)) {ty : TypeId} : Runs P (Builtin.len_ #[t] ty #[.slice x len cap]) (.int .i64 len) := .mk fun w => by
 simp [Builtin.len_, Sem.run_bind, run_underlying ht, goInt]
theorem h0k {elem len cap : Nat} {e : Int} {x : Option Addr} (ht : P.underlying t = some (.slice elem)) {ty : TypeId} (he : (len : Int) = e) : Runs P (Builtin.len_ #[t] ty #[.slice x len cap]) (.int .i64 e) := he ▸ r_len_slice ht
theorem r_max {x : Array TypeId} {ty : TypeId} : Runs P (Builtin.max_ x ty #[.int k a, .int k b]) (.int k (max a b)) := .mk fun w => by
 have e : (if b > a then b else a) = max a b := by split <;> omega
 simp [Builtin.max_, Builtin.max2, e]
theorem r_min {x : Array TypeId} {ty : TypeId} : Runs P (Builtin.min_ x ty #[.int k a, .int k b]) (.int k (min a b)) := .mk fun w => by
 have e : (if b < a then b else a) = min a b := by split <;> omega
 simp [Builtin.min_, Builtin.min2, e]
end
inductive EqF (P : Program) : Nat → Array Value → Array Value → List Field → Bool → Prop
 | nil {d xs ys} : EqF P d xs ys [] true
 | int {d xs ys f fs k k1 k2 a b r} : f.name ≠ "_" → P.underlying f.type = some (.int k) → xs.toList[f.offset]? = some (.int k1 a) → ys.toList[f.offset]? = some (.int k2 b) → k1 = k2 → EqF P (d + 1) xs ys fs r → EqF P (d + 1) xs ys (f :: fs) (decide (a = b) && r)
 | int1 {d xs ys f k k1 k2 a b} : f.name ≠ "_" → P.underlying f.type = some (.int k) → xs.toList[f.offset]? = some (.int k1 a) → ys.toList[f.offset]? = some (.int k2 b) → k1 = k2 → EqF P (d + 1) xs ys [f] (decide (a = b))
 | bool {d xs ys f fs a b r} : f.name ≠ "_" → P.underlying f.type = some .bool → xs.toList[f.offset]? = some (.bool a) → ys.toList[f.offset]? = some (.bool b) → EqF P (d + 1) xs ys fs r → EqF P (d + 1) xs ys (f :: fs) ((a == b) && r)
 | str {d xs ys f fs a b r} : f.name ≠ "_" → P.underlying f.type = some .string → xs.toList[f.offset]? = some (.string a) → ys.toList[f.offset]? = some (.string b) → EqF P (d + 1) xs ys fs r → EqF P (d + 1) xs ys (f :: fs) ((a.toList == b.toList) && r)
 | sub {d xs ys f fs fs' m xs' ys' r' r} : f.name ≠ "_" → P.underlying f.type = some (.struct fs') → P.stoodInHeld f.type = false → (P.info? f.type).map (·.size) = some m → (xs.toList.drop f.offset).take m = xs' → (ys.toList.drop f.offset).take m = ys' →
   EqF P d xs'.toArray ys'.toArray fs'.toList r' → EqF P (d + 1) xs ys fs r → EqF P (d + 1) xs ys (f :: fs) (r' && r)
section
variable {P : Program}
theorem part_one {t : TypeId} {d : TypeDesc} {xs : Array Value} {off : Nat} {v : Value} (hu : P.underlying t = some d) (hd : (match some d with | some (.struct _) | some (.array _ _) => true | _ => false) = false) (hv : xs.toList[off]? = some v) (w : World) : (part t xs off).run P w = .ok v w := by
 have hg : aggB P t = false := by unfold aggB; rw [hu]; exact hd
 have hv' : xs[off]? = some v := by simpa using hv
 simp [part, Sem.run_bind, h5p (by rw [hu]; rfl) hg, hv']
theorem EqF.run {d : Nat} {xs ys : Array Value} {fs : List Field} {r : Bool} (h : EqF P d xs ys fs r) : ∀ w, (Op.eqFields d xs ys fs).run P w = .ok r w := by
 induction h with
 | nil => intro w; rfl
 | int hn hu hx hy hk _ ih =>
  intro w
  subst hk
  unfold Op.eqFields
  rw [if_pos hn, Sem.run_bind, part_one hu rfl hx, Result.andThen_ok, Sem.run_bind, part_one hu rfl hy, Result.andThen_ok, Sem.run_bind, run_equalIn_int w _ _ _ _ _ _ hu, Result.andThen_ok, beq_d]
  rename_i a b r _
  by_cases hab : a = b
  ·simp [hab, ih w]
  ·simp [hab]
 | int1 hn hu hx hy hk =>
  intro w
  subst hk
  unfold Op.eqFields
  rw [if_pos hn, Sem.run_bind, part_one hu rfl hx, Result.andThen_ok, Sem.run_bind, part_one hu rfl hy, Result.andThen_ok, Sem.run_bind, run_equalIn_int w _ _ _ _ _ _ hu, Result.andThen_ok, beq_d]
  rename_i a b
  by_cases hab : a = b
  ·simp [hab, Op.eqFields]
  ·simp [hab]
 | bool hn hu hx hy _ ih =>
  intro w
  unfold Op.eqFields
  rw [if_pos hn, Sem.run_bind, part_one hu rfl hx, Result.andThen_ok, Sem.run_bind, part_one hu rfl hy, Result.andThen_ok, Sem.run_bind, run_equalIn_bool' w _ _ _ _ hu, Result.andThen_ok]
  rename_i a b r _
  cases hab : (a == b)
  ·simp
  ·simp [ih w]
 | str hn hu hx hy _ ih =>
  intro w
  unfold Op.eqFields
  rw [if_pos hn, Sem.run_bind, part_one hu rfl hx, Result.andThen_ok, Sem.run_bind, part_one hu rfl hy, Result.andThen_ok, Sem.run_bind, run_equalIn_string w _ _ _ _ hu, Result.andThen_ok]
  rename_i a b r _
  cases hab : (a.toList == b.toList)
  ·simp
  ·simp [ih w]
 | @sub d xs ys f fs fs' m xs' ys' r' r hn hu hp hm hx hy _ _ ih1 ih2 =>
  intro w
  have hg : aggB P f.type = true := by unfold aggB; rw [hu]
  have hpart : ∀ (zs : Array Value) (zs' : List Value), (zs.toList.drop f.offset).take m = zs' → ∀ w, (part f.type zs f.offset).run P w = .ok (.agg zs'.toArray) w := by
   intro zs zs' hz w
   have : zs.extract f.offset (f.offset + m) = zs'.toArray := by subst hz; apply Array.ext'; simp
   simp [part, Sem.run_bind, h5p (by rw [hu]; rfl) hg, run_sizeOf_of hm, this]
  unfold Op.eqFields
  rw [if_pos hn, Sem.run_bind, hpart _ _ hx, Result.andThen_ok, Sem.run_bind, hpart _ _ hy, Result.andThen_ok, Sem.run_bind]
  have hfo : P.fieldsOf f.type = fs' := by unfold Program.fieldsOf; rw [hu]
  rw [run_equalIn_agg w _ _ _ _ (by rw [hfo]; exact hu) hp, hfo, ih1, Result.andThen_ok]
  cases r'
  ·simp
  ·simp [ih2 w]
theorem rb_neq_agg {t : TypeId} {fs : Array Field} {xs ys : Array Value} {r : Bool} (ht : P.underlying t = some (.struct fs)) (hp : P.stoodInHeld t = false) (h : EqF P 9999 xs ys fs.toList r) : RBin P .neq t (.agg xs) (.agg ys) (.bool (!r)) := .mk fun w => by
 have hfo : P.fieldsOf t = fs := by unfold Program.fieldsOf; rw [ht]
 rw [run_neq_struct, run_equalIn_agg w 9999 t xs ys (by rw [hfo]; exact ht) hp, hfo, h.run]; rfl
end
section
variable {P : Program} {n : Nat} {l : List (Nat × Value)} {S : List Nat} {w0 : World} {L : List Blk} {K : Act → World → Prop} {k : Kont} {ops : Array Oper} {d : Tmp} {ty : TypeId} {pos : String} {af : Array Edge}
theorem h1z {xs : List (Nat × Operand)} {vs : List (Nat × Value)} (mk : List (Nat × Value) → List Value) {t e m : Nat} (hd : Nat.blt d n = true) (hx : evp l xs = some vs)
  (hr : ∀ w, (Instr.buildSlice t m vs.toArray).run P w = .ok (.slice (some ⟨w.heap.size, 0, none⟩) m m) (w.alloc (.cells (mk vs).toArray e)))
  (h : ∀ nb, w0.heap.size ≤ nb → G n ((d, .slice (some ⟨nb, 0, none⟩) m m) :: l) S w0 (⟨true, nb, .cells (mk vs).toArray e (0, 0)⟩ :: L) K) :
  G n l S w0 L (K1 P ops k ⟨some d, .buildSlice t m xs.toArray, ty, pos, af, none⟩ K) := .mk fun a w hf H => h5s rfl <| by
  unfold Oper.wp execOp
  have e1 := hf.evalp hx
  simp only [List.map_toArray]
  rw [e1]
  simp only [Sem.run_bind, hr, Result.andThen_ok, Sem.run_pure]
  exact ((h _ H.size).out _ _ (hf.put (some d) _ hd) (H.alloc _))
theorem made_one (z : Value) (k : Nat) : madeCells #[z] k = (List.replicate k z).toArray := by
 unfold madeCells
 apply Array.ext'
 apply List.ext_getElem?
 intro i
 by_cases h : i < k
 ·simp [h, Nat.mod_one]
 ·simp [h]
theorem run_makeSlice_one {t e bytes m : Nat} {i : TypeInfo} {z : Value} (ht : P.underlying t = some (.slice e)) (hi : P.info? e = some i) (hz : i.zero = some z) (hs : i.size = 1) (hb : i.bytes = bytes) (hzc : z.cells = #[z]) (hm : bytes * m ≤ 281474976710656)
    (h63 : m ≤ 9223372036854775807) (w : World) :
    (Instr.makeSlice t (.int .i64 m) (.int .i64 m)).run P w = .ok (.slice (some ⟨w.heap.size, 0, none⟩) m m) (w.alloc (.cells (List.replicate m z).toArray e)) := by
  have h := run_make (P := P) w t e i z ht hi hz .i64 .i64 m m (by omega) (by omega) (by rw [hb]; have : ((bytes * m : Nat) : Int) ≤ 281474976710656 := by omega
                                                                                         simpa using this) (by omega)
  rw [h, hs, hzc, Nat.mul_one, made_one]; simp
theorem h4u {x y : Operand} {t e bytes m : Nat} {i : TypeInfo} {z : Value} (hd : Nat.blt d n = true) (hx : ev l x = some (.int .i64 m)) (hy : ev l y = some (.int .i64 m)) (ht : P.underlying t = some (.slice e)) (hi : P.info? e = some i) (hz : i.zero = some z) (hs : i.size = 1) (hb : i.bytes = bytes)
  (hzc : z.cells = #[z]) (hm : bytes * m ≤ 281474976710656) (h63 : m ≤ 9223372036854775807)
  (h : ∀ nb, w0.heap.size ≤ nb → G n ((d, .slice (some ⟨nb, 0, none⟩) m m) :: l) S w0 (⟨true, nb, .cells (List.replicate m z).toArray e (0, 0)⟩ :: L) K) :
  G n l S w0 L (K1 P ops k ⟨some d, .makeSlice t x y, ty, pos, af, none⟩ K) := .mk fun a w hf H => h5s rfl <| by
  unfold Oper.wp execOp
  simp only [hf.eval hx, hf.eval hy, Sem.run_bind, run_makeSlice_one ht hi hz hs hb hzc hm h63, Result.andThen_ok, Sem.run_pure]
  exact ((h _ H.size).out _ _ (hf.put (some d) _ hd) (H.alloc _))
end
def Own (E : TypeId) (size : Nat) (v : Value) (n : Nat) (xs : List Value) (e : List Blk) : Prop :=
  xs.length = n * size ∧
  ((v = .slice none 0 0 ∧ n = 0 ∧ e = []) ∨
   ∃ g cap cur, v = .slice (some ⟨g, 0, none⟩) n cap ∧ e = [⟨true, g, .cells cur E (0, 0)⟩] ∧ n ≤ cap ∧ cap ≤ maxLen ∧ cur.size = cap * size ∧ cur.toList.take (n * size) = xs)
theorem Own.nil (E size : Nat) : Own E size (.slice none 0 0) 0 [] [] := ⟨by simp, .inl ⟨rfl, rfl, rfl⟩⟩
theorem Own.of_block {E size g n cap : Nat} {cur : Array Value} (h1 : n ≤ cap) (h2 : cap ≤ maxLen) (h3 : cur.size = cap * size) :
  Own E size (.slice (some ⟨g, 0, none⟩) n cap) n (cur.toList.take (n * size)) [⟨true, g, .cells cur E (0, 0)⟩] :=
 ⟨by rw [List.length_take, Nat.min_eq_left]; simp [h3]; exact Nat.mul_le_mul_right _ h1, .inr ⟨g, cap, cur, rfl, rfl, h1, h2, h3, rfl⟩⟩
section
variable {P : Program} {S : List Nat} {w0 w : World} {L : List Blk}
theorem run_append_hp {E size : Nat} {e : List Blk} (bytes : Nat) {t ty : TypeId} {i : TypeInfo} {z : Value} (ht : P.underlying t = some (.slice E)) (hi : P.info? E = some i) (hz : i.zero = some z)
  (hsize : i.size = size) (hby : i.bytes = bytes) (hzs : z.cells.size = size)
  {v : Value} {n : Nat} {xs : List Value} (H : HP S w0 w (e ++ L)) (hown : Own E size v n xs e)
  (a : Addr) (m c : Nat) (news : List Value) (hl : news.length = m * size) (hnews : ∀ j u, news[j]? = some u → w.cell? (a.add j) = some u) (h1 : ∀ u ∈ news, u.oneCell' = true)
  (h63 : n + m ≤ maxLen) (hbytes : (n + m) * bytes ≤ 140737488355328) :
  ∃ v' w' e', (Builtin.append_ #[t, t] ty #[v, .slice (some a) m c]).run P w = .ok v' w' ∧ Own E size v' (n + m) (xs ++ news) e' ∧ HP S w0 w' (e' ++ L) := by
 subst hsize
 subst hby
 have hsmall : n + m ≤ 9223372036854775807 := by simp only [maxLen] at h63; omega
 have hlen : (xs ++ news).length = (n + m) * i.size := by rw [List.length_append, hown.1, hl, Nat.add_mul]
 have HL : HP S w0 w L := H.sub (List.sublist_append_right _ _)
 have grown : ∀ (old : Nat), old < n + m →
   Own E i.size (.slice (some ⟨w.heap.size, 0, none⟩) (n + m) (grownCap w (n + m) old E)) (n + m) (xs ++ news)
    [⟨true, w.heap.size, .cells (xs.toArray ++ news.toArray ++ Builtin.zeroCells z.cells (grownCap w (n + m) old E - (n + m))) E (0, 0)⟩] ∧
   HP S w0 (w.drew.alloc (.cells (xs.toArray ++ news.toArray ++ Builtin.zeroCells z.cells (grownCap w (n + m) old E - (n + m))) E))
    (⟨true, w.heap.size, .cells (xs.toArray ++ news.toArray ++ Builtin.zeroCells z.cells (grownCap w (n + m) old E - (n + m))) E (0, 0)⟩ :: L) := by
  intro old ho
  have hge := grownCap_ge w (n + m) old E
  have hcm : grownCap w (n + m) old E ≤ maxLen := grownCap_le_maxLen w (n + m) old E h63
  refine ⟨⟨hlen, .inr ⟨w.heap.size, _, _, rfl, rfl, hge, hcm, ?_, ?_⟩⟩, HL.drew.alloc _⟩
  ·simp only [Array.size_append, List.size_toArray, size_zeroCells, hzs, hown.1, hl, ← Nat.add_mul]
   congr 1
   omega
  ·simp only [Array.toList_append, List.append_assoc]
   rw [← List.append_assoc, ← hlen]
   exact List.take_left
 rcases hown.2 with ⟨rfl, rfl, rfl⟩ | ⟨g, cap, cur, rfl, rfl, hnc, hcm, hcs, htake⟩
 ·have hx : xs = [] := List.eq_nil_of_length_eq_zero (by simpa using hown.1)
  subst hx
  by_cases hm : m = 0
  ·subst hm
   have hn : news = [] := List.eq_nil_of_length_eq_zero (by simpa using hl)
   subst hn
   refine ⟨.slice none 0 0, w, [], ?_, Own.nil E i.size, H⟩
   simp [Builtin.append_, run_underlying ht, sizeOf, typeInfo, hi, Builtin.lenOf, Builtin.firstCells, loadCells, loadCellsFrom]
  ·have hr := run_append_nil (P:=P) w t ty E i z ht hi hz a m c news hl hnews (by omega) (by omega) (by have hb := hbytes; simp only [Nat.zero_add] at hb; omega)
   have hgr := grown 0 (by omega)
   simp only [Nat.zero_add, List.nil_append, Array.empty_append] at hgr ⊢
   exact ⟨_, _, _, hr, hgr.1, hgr.2⟩
 ·have hg : w.heap[g]? = some (.cells cur E (0, 0)) := H.at_ 0 (p:=⟨true, g, .cells cur E (0, 0)⟩) rfl
  by_cases hroom : n + m ≤ cap
  ·have hfit : n * i.size + news.length ≤ cur.size := by rw [hl, hcs, ← Nat.add_mul]; exact Nat.mul_le_mul_right _ hroom
   have hr := run_append_room (P:=P) w t ty E i ht hi g n cap cur hg a m c news hl hnews h1 hroom hfit
   have HT := H.turn 0 (o:=.cells cur E (0, 0)) rfl (w.setRow g (cur.toList.take (n * i.size) ++ news ++ cur.toList.drop (n * i.size + news.length)).toArray) _ rfl rfl rfl (size_setRow w g _)
    (setRow_heap w g cur _ E _ hg) (fun k hk => setRow_other w g k _ hk)
   refine ⟨_, _, _, hr, ⟨hlen, .inr ⟨g, cap, _, rfl, rfl, hroom, hcm, ?_, ?_⟩⟩, HT⟩
   ·simp only [List.size_toArray, List.length_append, List.length_take, List.length_drop, Array.length_toList]
    omega
   ·rw [htake, ← hlen]
    exact List.take_left
  ·have holds : ∀ j u, xs[j]? = some u → w.cell? ((⟨g, 0, none⟩ : Addr).add j) = some u := by
    intro j u hj
    have hadd : (⟨g, 0, none⟩ : Addr).add j = ⟨g, j, none⟩ := by unfold Addr.add; split <;> simp_all
    rw [hadd, cell_of_row w g j cur E (0, 0) hg]
    rw [← htake, List.getElem?_take] at hj
    split at hj
    ·simpa using hj
    ·simp at hj
   have hr := run_append_grow (P:=P) w t ty E i z ht hi hz ⟨g, 0, none⟩ n cap xs hown.1 holds a m c news hl hnews (by omega) (by omega) (growslice_fits (by omega) hbytes)
   have hgr := grown cap (by omega)
   exact ⟨_, _, _, hr, hgr.1, hgr.2⟩
end
theorem HP.drop1 {S : List Nat} {w0 w : World} {L : List Blk} {x y : Blk} (H : HP S w0 w (x :: y :: L)) : HP S w0 w (x :: L) := H.sub (((List.Sublist.refl L).cons y).cons_cons x)
theorem HP.dropA {S : List Nat} {w0 w : World} {L : List Blk} {e : List Blk} (H : HP S w0 w (e ++ L)) : HP S w0 w L := H.sub (List.sublist_append_right _ _)
def Sli (L : List Blk) (a : Option Addr) (len size : Nat) (cells : List Value) : Prop :=
 cells.length = len * size ∧ (len = 0 ∨
  ∃ (i : Nat) (q : Bool) (b off : Nat) (cs : Array Value) (T : TypeId) (fr : Nat × Nat), a = some ⟨b, off, none⟩ ∧ L[i]? = some ⟨q, b, .cells cs T fr⟩ ∧ off + len * size ≤ cs.size ∧ (cs.toList.drop off).take (len * size) = cells)
theorem Sli.nil (L : List Blk) (size : Nat) : Sli L none 0 size [] := ⟨by simp, .inl rfl⟩
theorem Sli.up {L : List Blk} {a : Option Addr} {len size : Nat} {cells : List Value} (h : Sli L a len size cells) (x : Blk) : Sli (x :: L) a len size cells := by
 refine ⟨h.1, h.2.imp id ?_⟩
 rintro ⟨i, q, b, off, cs, T, fr, h1, h2, h3, h4⟩
 exact ⟨i + 1, q, b, off, cs, T, fr, h1, h2, h3, h4⟩
theorem Sli.upA {L : List Blk} {a : Option Addr} {len size : Nat} {cells : List Value} (h : Sli L a len size cells) (e : List Blk) : Sli (e ++ L) a len size cells := by
 induction e with
 | nil => exact h
 | cons x e ih => exact ih.up x
theorem Sli.of {L : List Blk} {i : Nat} {q : Bool} {b off len size : Nat} {cs : Array Value} {T : TypeId} {fr : Nat × Nat} {cells : List Value} (hi : L[i]? = some ⟨q, b, .cells cs T fr⟩) (h1 : off + len * size ≤ cs.size) (h2 : (cs.toList.drop off).take (len * size) = cells) :
  Sli L (some ⟨b, off, none⟩) len size cells :=
 ⟨by rw [← h2]; simp; omega, .inr ⟨i, q, b, off, cs, T, fr, rfl, hi, h1, h2⟩⟩
theorem mul_block {k n size : Nat} (h : k < n) : k * size + size ≤ n * size := by
 have : (k + 1) * size ≤ n * size := Nat.mul_le_mul_right _ h
 rwa [Nat.add_mul, Nat.one_mul] at this
theorem Sli.elem {L : List Blk} {a : Option Addr} {len size : Nat} {cells : List Value} (h : Sli L a len size cells) {k : Nat} (hk : k < len) :
  ∃ (i : Nat) (q : Bool) (b off : Nat) (cs : Array Value) (T : TypeId) (fr : Nat × Nat), a = some ⟨b, off, none⟩ ∧ L[i]? = some ⟨q, b, .cells cs T fr⟩ ∧ off + k * size + size ≤ cs.size ∧ (cs.toList.drop (off + k * size)).take size = (cells.drop (k * size)).take size := by
 rcases h.2 with h0 | ⟨i, q, b, off, cs, T, fr, h1, h2, h3, h4⟩
 ·omega
 ·have hb := mul_block (size:=size) hk
  refine ⟨i, q, b, off, cs, T, fr, h1, h2, by omega, ?_⟩
  rw [← h4, List.drop_take, List.drop_drop, List.take_take, Nat.min_eq_left (by omega)]
theorem Sli.elem1 {L : List Blk} {a : Option Addr} {len : Nat} {cells : List Value} (h : Sli L a len 1 cells) {k : Nat} (hk : k < len) :
  ∃ (i : Nat) (q : Bool) (b off : Nat) (cs : Array Value) (T : TypeId) (fr : Nat × Nat), a = some ⟨b, off, none⟩ ∧ L[i]? = some ⟨q, b, .cells cs T fr⟩ ∧ off + k < cs.size ∧ cs.toList[off + k]? = cells[k]? := by
 obtain ⟨i, q, b, off, cs, T, fr, h1, h2, h3, h4⟩ := h.elem hk
 refine ⟨i, q, b, off, cs, T, fr, h1, h2, by omega, ?_⟩
 have := congrArg (fun l => l[0]?) h4
 simpa using this
theorem Sli.left {L : List Blk} {e : List Blk} {a : Option Addr} {len size : Nat} {cells : List Value} (h : Sli e a len size cells) : Sli (e ++ L) a len size cells := by
 refine ⟨h.1, h.2.imp id ?_⟩
 rintro ⟨i, q, b, off, cs, T, fr, h1, h2, h3, h4⟩
 refine ⟨i, q, b, off, cs, T, fr, h1, ?_, h3, h4⟩
 rw [List.getElem?_append_left]
 ·exact h2
 ·rcases Nat.lt_or_ge i e.length with h' | h'
  ·exact h'
  ·simp [List.getElem?_eq_none h'] at h2
theorem HP.swapA {S : List Nat} {w0 w : World} {L : List Blk} {e : List Blk} (M : List Blk) (H : HP S w0 w (e ++ (M ++ L))) : HP S w0 w (M ++ (e ++ L)) := by
 refine H.perm ?_
 rw [← List.append_assoc, ← List.append_assoc]
 exact List.Perm.append_right L List.perm_append_comm
theorem Own.sli {E size : Nat} {v : Value} {n : Nat} {xs : List Value} {e : List Blk} (h : Own E size v n xs e) (L : List Blk) : ∃ a cap, v = .slice a n cap ∧ Sli (e ++ L) a n size xs := by
 obtain ⟨h0, h⟩ := h
 rcases h with ⟨rfl, rfl, rfl⟩ | ⟨g, cap, cur, rfl, rfl, h1, h2, h3, h4⟩
 ·refine ⟨_, _, rfl, h0, .inl rfl⟩
 ·refine ⟨_, _, rfl, h0, .inr ⟨0, _, g, 0, cur, E, _, rfl, rfl, ?_, by simpa using h4⟩⟩
  rw [h3, Nat.zero_add]; exact Nat.mul_le_mul_right _ h1
theorem Own.some {E size : Nat} {v : Value} {n : Nat} {xs : List Value} {e : List Blk} (h : Own E size v n xs e) (hn : 0 < n) :
  ∃ g cap cur, v = .slice (Option.some ⟨g, 0, none⟩) n cap ∧ e = [⟨true, g, .cells cur E (0, 0)⟩] ∧ n ≤ cap ∧ cap ≤ maxLen ∧ cur.size = cap * size ∧ cur.toList.take (n * size) = xs := by
 rcases h.2 with ⟨_, h0, _⟩ | ⟨g, cap, cur, h1, h2, h3, h4, h5, h6⟩
 ·omega
 ·exact ⟨g, cap, cur, h1, h2, h3, h4, h5, h6⟩
theorem fdA {x : Blk} {e L : List Blk} {i : Nat} (h : L[i]? = some x) : (e ++ L)[e.length + i]? = some x := by
 rw [List.getElem?_append_right (by omega)]; simpa using h
section
variable {P : Program} {n : Nat} {l : List (Nat × Value)} {S : List Nat} {w0 : World} {L : List Blk} {K : Act → World → Prop} {k : Kont} {ops : Array Oper} {d : Tmp} {ty : TypeId} {pos : String} {af : Array Edge}
theorem h4k {E size bytes : Nat} {t tt : TypeId} {inf : TypeInfo} {z : Value} {s y : Operand} {v : Value} {m : Nat} {xs : List Value} {e L0 : List Blk} {i : Nat} {q : Bool} {b off cnt cap : Nat} {cs : Array Value} {T : TypeId} {fr : Nat × Nat} {news : List Value}
  (hd : Nat.blt d n = true) (ht : P.underlying t = some (.slice E)) (hi : P.info? E = some inf) (hz : inf.zero = some z) (hsize : inf.size = size) (hby : inf.bytes = bytes) (hzs : z.cells.size = size)
  (hs : ev l s = some v) (hy : ev l y = some (.slice (some ⟨b, off, none⟩) cnt cap)) (hown : Own E size v m xs e) (hb : L[i]? = some ⟨q, b, .cells cs T fr⟩) (hle : off + cnt * size ≤ cs.size) (hnews : (cs.toList.drop off).take (cnt * size) = news)
  (hone : news.all (·.oneCell') = true) (h63 : m + cnt ≤ maxLen) (hbytes : (m + cnt) * bytes ≤ 140737488355328) (hL : ∀ w, HP S w0 w L → HP S w0 w (e ++ L0)) (htt : tt = t) {mm : Nat} {xn : List Value} (hmm : m + cnt = mm) (hxn : xs ++ news = xn)
  (h : ∀ v' e', Own E size v' mm xn e' → G n ((d, v') :: l) S w0 (e' ++ L0) K) :
  G n l S w0 L (K1 P ops k ⟨some d, .call { callee := .builtin .append, args := #[s, y], argTypes := #[t, tt] }, ty, pos, af, none⟩ K) := .mk fun a w hf H => h5s rfl <| by
  subst htt hmm hxn
  have hc : ∀ j u, news[j]? = some u → w.cell? ((⟨b, off, none⟩ : Addr).add j) = some u := by
   intro j u hj
   have hadd : (⟨b, off, none⟩ : Addr).add j = ⟨b, off + j, none⟩ := by unfold Addr.add; split <;> simp_all
   rw [hadd, cell_at H i hb]
   subst hnews
   rw [List.getElem?_take] at hj
   split at hj
   ·simpa using hj
   ·simp at hj
  obtain ⟨v', w', e', hr, hown', H'⟩ := run_append_hp (P:=P) (ty:=ty) bytes ht hi hz hsize hby hzs (hL w H) hown ⟨b, off, none⟩ cnt cap news (by subst hnews; simp; omega) hc (List.all_eq_true.1 hone) h63 hbytes
  unfold Oper.wp execOp
  simp only [resolve, invoke, builtin, Sem.run_bind, Sem.run_pure, Result.andThen_ok, List.map_toArray, List.map_cons, List.map_nil, hf.eval hs, hf.eval hy, hr]
  exact ((h v' e' hown').out _ _ (hf.put (some d) v' hd) H')
theorem erase_perm : ∀ {L : List Blk} {i : Nat} {x : Blk}, L[i]? = some x → L.Perm (x :: L.eraseIdx i)
 | [], i, x, h => by simp at h
 | y :: L, 0, x, h => by
  simp only [List.getElem?_cons_zero, Option.some.injEq] at h
  subst h; simp
 | y :: L, i + 1, x, h => by
  have := erase_perm (L:=L) (i:=i) (x:=x) (by simpa using h)
  simp only [List.eraseIdx_cons_succ]
  exact (this.cons y).trans (List.Perm.swap x y _)
theorem HP.pick {S : List Nat} {w0 w : World} {L : List Blk} {i : Nat} {x : Blk} (H : HP S w0 w L) (h : L[i]? = some x) : HP S w0 w (x :: L.eraseIdx i) := H.perm (erase_perm h)
theorem K1_appendB {E size bytes : Nat} {t tt : TypeId} {inf : TypeInfo} {z : Value} {s y : Operand} {g m cp j : Nat} {cur : Array Value} {i : Nat} {q : Bool} {b off cnt cap : Nat} {cs : Array Value} {T : TypeId} {fr : Nat × Nat} {news : List Value}
  (hd : Nat.blt d n = true) (ht : P.underlying t = some (.slice E)) (hi : P.info? E = some inf) (hz : inf.zero = some z) (hsize : inf.size = size) (hby : inf.bytes = bytes) (hzs : z.cells.size = size)
  (hs : ev l s = some (.slice (some ⟨g, 0, none⟩) m cp)) (hy : ev l y = some (.slice (some ⟨b, off, none⟩) cnt cap)) (hown : L[j]? = some ⟨true, g, .cells cur E (0, 0)⟩) (hmc : m ≤ cp) (hcp : cp ≤ maxLen) (hcs : cur.size = cp * size)
  (hb : L[i]? = some ⟨q, b, .cells cs T fr⟩) (hle : off + cnt * size ≤ cs.size) (hnews : (cs.toList.drop off).take (cnt * size) = news)
  (hone : news.all (·.oneCell') = true) (h63 : m + cnt ≤ maxLen) (hbytes : (m + cnt) * bytes ≤ 140737488355328) (htt : tt = t) {mm : Nat} {xn : List Value} (hmm : m + cnt = mm) (hxn : cur.toList.take (m * size) ++ news = xn)
  (h : ∀ v' e', Own E size v' mm xn e' → G n ((d, v') :: l) S w0 (e' ++ L.eraseIdx j) K) :
  G n l S w0 L (K1 P ops k ⟨some d, .call { callee := .builtin .append, args := #[s, y], argTypes := #[t, tt] }, ty, pos, af, none⟩ K) :=
 h4k hd ht hi hz hsize hby hzs hs hy (Own.of_block hmc hcp hcs) hb hle hnews hone h63 hbytes (fun _ H => H.pick hown) htt hmm hxn h
theorem Fn.at1 {F : FuncId} {args : Array Value} {R : Value → List Blk → Prop} {i : Nat} {x : Blk} (h : L[i]? = some x) (hc : Fn P F args S w0 (x :: L.eraseIdx i) R) : Fn P F args S w0 L R := .mk fun w H => hc.out w (H.pick h)
theorem h3b {γ : Type} {c : Code} (R : γ → Prop) (μ : γ → Nat) (ch : γ → List (Nat × Value)) (kp : List (Nat × Value)) (L' : γ → List Blk) (g0 : γ) (hk : Sub l kp) (hR : R g0) (hs : Sub l (ch g0)) (hL : ∀ w, HP S w0 w L → HP S w0 w (L' g0))
  (round : ∀ g, R g → G n (ch g ++ kp) S w0 (L' g) (KC P c (.cut (At n S w0 (fun g' => R g' ∧ μ g' < μ g) (fun g => ch g ++ kp) L') k))) :
  G n l S w0 L (KC P (.loop c) k) := by
 refine G_loop R μ (fun g => ch g ++ kp) L' g0 hR ?_ hL round
 have key : ∀ l1 : List (Nat × Value), Sub l l1 → Sub l (l1 ++ kp) := by
  intro l1
  induction l1 with
  | nil => intro _; exact hk
  | cons p l1 ih => intro h; exact ⟨h.1, ih h.2⟩
 exact key _ hs
theorem h3x {γ : Type} {c y : Code} (R : γ → Prop) (ch : γ → List (Nat × Value)) (kp : List (Nat × Value)) (L' : γ → List Blk) (_hk : Sub l kp)
  (h1 : G n l S w0 L (KC P c (.cut (At n S w0 R (fun g => ch g ++ kp) L') k))) (h2 : ∀ g, R g → G n (ch g ++ kp) S w0 (L' g) (KC P y k)) :
  G n l S w0 L (KC P c (.seq y k)) := G_meetat R (fun g => ch g ++ kp) L' h1 h2
structure Mark (p : Prop) : Prop where
 out : p
theorem h0h (h : Mark (G n l S w0 L K)) : G n l S w0 L K := h.out
theorem h4g {id : Nat} {c : Code} (h : Mark (G n l S w0 L (KC P (.block id c) k))) : G n l S w0 L (KC P (.block id c) k) := h.out
theorem h3s {id : Nat} {o : Array Oper} {q : Bool} (h : Mark (G n l S w0 L (KC P (.region id o q) k))) : G n l S w0 L (KC P (.region id o q) k) := h.out
theorem G_markc {t : Tmp} {c1 c2 : Code} (h : Mark (G n l S w0 L (KC P (.cond (.tmp t) c1 c2) k))) : G n l S w0 L (KC P (.cond (.tmp t) c1 c2) k) := h.out
end
theorem h1d {k : IntKind} {a : Int} : (Value.int k a).oneCell' = true := rfl
theorem h0t {a : Bool} : (Value.bool a).oneCell' = true := rfl
theorem h1h {a : ByteArray} : (Value.string a).oneCell' = true := rfl
theorem h1i {a : Option Addr} : (Value.pointer a).oneCell' = true := rfl
theorem h2d {a : Option Addr} {n m : Nat} : (Value.slice a n m).oneCell' = true := rfl
theorem h1j {a : Option Nat} : (Value.map a).oneCell' = true := rfl
def splice (cs : List Value) (off : Nat) (vs : List Value) : List Value := cs.take off ++ vs ++ cs.drop (off + vs.length)
section
variable {P : Program} {n : Nat} {l : List (Nat × Value)} {S : List Nat} {w0 : World} {L : List Blk} {K : Act → World → Prop} {k : Kont} {ops : Array Oper} {d : Tmp} {ty : TypeId} {pos : String} {af : Array Edge}
theorem h1f {i : Nat} {t : TypeId} {x y : Operand} {b off m : Nat} {cs vs : List Value} {T : TypeId} (hx : ev l x = some (.pointer (some ⟨b, off, none⟩))) (hy : ev l y = some (.agg vs.toArray))
  (hi : L[i]? = some ⟨true, b, .cells cs.toArray T (0, 0)⟩) (hm : (P.info? t).map (·.size) = some m) (hvn : vs.length = m) (hone : vs.all (·.oneCell') = true) (hle : off + m ≤ cs.length)
  (h : G n l S w0 (L.set i ⟨true, b, .cells (splice cs off vs).toArray T (0, 0)⟩) K) : G n l S w0 L (K1 P ops k ⟨none, .store t x y, ty, pos, af, none⟩ K) :=
 K1_of_wp rfl (fun _ _ _ hf H hK => wp_store H i (.agg vs.toArray) (splice cs off vs).toArray rfl (hf.eval hx) (hf.eval hy) hi hm (by simpa [Value.cells] using hvn) hone (by simpa using hle) (by subst hvn; simp [Value.cells, splice]) (fun w' H' => hK _ w' hf H')) h
end
theorem Fn.swp {P : Program} {F : FuncId} {args : Array Value} {S : List Nat} {w0 : World} {X B B' : Blk} {L : List Blk} {Q : Value → Prop} (h : Fn P F args S w0 (B :: X :: L) fun v L' => Q v ∧ B' :: X :: L = L') : Fn P F args S w0 (X :: B :: L) fun v L' => Q v ∧ X :: B' :: L = L' :=
 .mk fun w H => (h.out w (HP.swapA (e:=[X]) [B] H)).mono fun _ _ ⟨v, _, e, ⟨q, r⟩, H'⟩ => ⟨v, _, e, ⟨q, rfl⟩, HP.swapA (e:=[B']) [X] (by subst r; exact H')⟩
section
variable {P : Program} {n : Nat} {l : List (Nat × Value)} {S : List Nat} {w0 : World} {L : List Blk} {k : Kont}
theorem h2m {i id m : Nat} {ops : List Oper} {Lb : List Blk} (hb : L.eraseIdx i = Lb) (hm : P.follows .mixedOrders = true) (hl : ops.length = m) (h : G n l S w0 L (KH P S w0 Lb ops.toArray k m (Array.replicate m false))) : G n l S w0 L (KC P (.region id ops.toArray true) k) := .mk fun a w hf H => by
 subst hl
 have _ := hb
 exact ⟨wp_region_held hm (by simpa using (h.out a _ hf H.drew).out)⟩
end
theorem ru_neg {P : Program} {k : IntKind} {a : Int} : RUn P .neg (.int k a) (.int k (k.wrap (-a))) := .mk fun w => by
 have e : 0 - a = -a := by omega
 simp [Op.unary, Op.intArith, e]
theorem wrap_u32 (a : Int) : IntKind.u32.wrap a = a % 4294967296 := rfl
theorem wrap_u64 (a : Int) : IntKind.u64.wrap a = a % 18446744073709551616 := rfl
theorem addr_add (bb off q : Nat) : (⟨bb, off, none⟩ : Addr).add q = ⟨bb, off + q, none⟩ := by unfold Addr.add; split <;> simp_all
section
variable {P : Program} {t : TypeId} {k : IntKind}
theorem r_sl_s01 {elem m bb off len cap h' : Nat} {hi : Int} (ht : P.underlying t = some (.slice elem)) (hm : (P.info? elem).map (·.size) = some m) (h0 : 0 ≤ hi) (h1 : hi ≤ cap) (hh : hi.toNat = h') :
  RSlc P t (.slice (some ⟨bb, off, none⟩) len cap) none (some (.int k hi)) none (.slice (some ⟨bb, off, none⟩) h' cap) := .mk fun w => by
 subst hh
 cases hi' : P.info? elem with
 | none => simp [hi'] at hm
 | some i =>
  simp [Instr.sliceAt, Instr.slice, Instr.sliceBounds, Instr.sliceBound, asIntOf, Sem.run_bind, run_underlying ht, h0, h1, sizeOf, typeInfo, hi', addr_add]
theorem h4t {elem n m bb off off' n' : Nat} {lo : Int} (ht : P.underlying t = some (.array n elem)) (hm : (P.info? elem).map (·.size) = some m) (h0 : 0 ≤ lo) (h1 : lo < n) (ho : off + lo.toNat * m = off') (hn : n - lo.toNat = n') :
  RSlc P t (.pointer (some ⟨bb, off, none⟩)) (some (.int k lo)) none none (.slice (some ⟨bb, off', none⟩) n' n') := .mk fun w => by
 subst ho hn
 have hle : lo ≤ n := by omega
 have hne : n ≠ lo.toNat := by omega
 cases hi' : P.info? elem with
 | none => simp [hi'] at hm
 | some i =>
  have h2 : i.size = m := by simpa [hi'] using hm
  simp [Instr.sliceAt, Instr.sliceBounds, Instr.sliceBound, asIntOf, Sem.run_bind, run_underlying ht, h0, hle, hne, sizeOf, typeInfo, hi', h2, addr_add, Instr.sureAddr, asAddr]
end
def Sel (L L' : List Blk) : Prop := ∃ M, L.Perm M ∧ L'.Sublist M
theorem Sel.refl (L : List Blk) : Sel L L := ⟨L, .refl _, .refl _⟩
theorem Sel.nil (L : List Blk) : Sel L [] := ⟨L, .refl _, List.nil_sublist _⟩
theorem Sel.cons {L L' : List Blk} {i : Nat} {x : Blk} (h : L[i]? = some x) (h2 : Sel (L.eraseIdx i) L') : Sel L (x :: L') :=
 let ⟨M, h3, h4⟩ := h2; ⟨x :: M, (erase_perm h).trans (h3.cons x), h4.cons_cons x⟩
theorem Sel.drop {L L' : List Blk} {x : Blk} (h : Sel L L') : Sel (x :: L) L' := let ⟨M, h3, h4⟩ := h; ⟨x :: M, h3.cons x, h4.cons x⟩
theorem Sel.dropA {L L' e : List Blk} (h : Sel L L') : Sel (e ++ L) L' := let ⟨M, h3, h4⟩ := h; ⟨e ++ M, h3.append_left e, h4.trans (List.sublist_append_right _ _)⟩
theorem Sel.out {S : List Nat} {w0 w : World} {L L' : List Blk} (h : Sel L L') (H : HP S w0 w L) : HP S w0 w L' := let ⟨_, h3, h4⟩ := h; (H.perm h3).sub h4
section
variable {P : Program} {n : Nat} {l : List (Nat × Value)} {S : List Nat} {w0 : World} {L : List Blk} {k : Kont} {ops : Array Oper}
theorem H_run2 {i j fuel : Nat} {listed : Array Bool} {Lb : List Blk} {o o' : Oper} (hi : ops[i]? = some o) (hj : ops[j]? = some o') (hr : Region.ready .any ops listed = [i, j]) (h : G n l S w0 L (K1 P ops k o (KHS P S w0 Lb ops k fuel (listed.setIfInBounds i true))))
  (h' : G n l S w0 L (K1 P ops k o' (KHS P S w0 Lb ops k fuel (listed.setIfInBounds j true)))) : G n l S w0 L (KH P S w0 Lb ops k (fuel + 1) listed) := .mk fun a w hF H => by
 refine ⟨wpAnyH_all hr (by simp) fun q hq => ?_⟩
 rcases (show q = i ∨ q = j by simpa using hq) with rfl | rfl
 ·have hh := (h.out a w hF H).out
  unfold wpOp
  simp only [hi]
  split
  ·rename_i hw; rw [if_pos hw] at hh; exact .inl (Oper.wp_mono (fun _ _ h => ⟨h.out.1, h.out.2.out⟩) hh)
  ·rename_i hw; rw [if_neg hw] at hh; exact ⟨hh.out.1, hh.out.2.out⟩
 ·have hh := (h'.out a w hF H).out
  unfold wpOp
  simp only [hj]
  split
  ·rename_i hw; rw [if_pos hw] at hh; exact .inl (Oper.wp_mono (fun _ _ h => ⟨h.out.1, h.out.2.out⟩) hh)
  ·rename_i hw; rw [if_neg hw] at hh; exact ⟨hh.out.1, hh.out.2.out⟩
structure TagA (p : Prop) : Prop where
 out : p
structure TagB (p : Prop) : Prop where
 out : p
theorem h4c {i j fuel : Nat} {listed : Array Bool} {Lb : List Blk} {o o' : Oper} (hi : ops[i]? = some o) (hj : ops[j]? = some o') (hr : Region.ready .any ops listed = [i, j]) (h : TagA (G n l S w0 L (K1 P ops k o (KHS P S w0 Lb ops k fuel (listed.setIfInBounds i true)))))
  (h' : TagB (G n l S w0 L (K1 P ops k o' (KHS P S w0 Lb ops k fuel (listed.setIfInBounds j true))))) : G n l S w0 L (KH P S w0 Lb ops k (fuel + 1) listed) := H_run2 hi hj hr h.out h'.out
end
section
variable {P : Program} {t s : TypeId} {k : IntKind} {a b c e : Int}
theorem rb_eq_of {op : BinOp} {x y : Value} {r : Bool} (h1 : ∀ w, (Op.equal t x y).run P w = .ok r w) (hb : ∀ w, (binOp .eql t x y).run P w = ((do pure (.bool (← Op.equal t x y))) : Sem Value).run P w) (ho : op = .eql) : RBin P op t x y (.bool r) := .mk fun w => by
 subst ho; rw [hb, Sem.run_bind, h1]; rfl
theorem rb_ne_of {op : BinOp} {x y : Value} {r : Bool} (h1 : ∀ w, (Op.equal t x y).run P w = .ok r w) (hb : ∀ w, (binOp .neq t x y).run P w = ((do pure (.bool (!(← Op.equal t x y)))) : Sem Value).run P w) (ho : op = .neq) : RBin P op t x y (.bool !r) := .mk fun w => by
 subst ho; rw [hb, Sem.run_bind, h1]; rfl
theorem run_peq_nil {el : TypeId} {y : Option Addr} (ht : P.underlying t = some (.pointer el)) (w : World) : (Op.equal t (.pointer none) (.pointer y)).run P w = .ok y.isNone w := by
 show (Op.equalIn (9999 + 1) t _ _).run P w = _
 unfold Op.equalIn
 rw [Sem.run_bind, run_underlying ht]; rfl
theorem run_peq_some {el : TypeId} {x : Addr} (ht : P.underlying t = some (.pointer el)) (w : World) : (Op.equal t (.pointer (some x)) (.pointer none)).run P w = .ok false w := by
 show (Op.equalIn (9999 + 1) t _ _).run P w = _
 unfold Op.equalIn
 rw [Sem.run_bind, run_underlying ht]; rfl
theorem rb_peq_nil {el : TypeId} {y : Option Addr} (ht : P.underlying t = some (.pointer el)) : RBin P .eql t (.pointer none) (.pointer y) (.bool y.isNone) := rb_eq_of (run_peq_nil ht) (fun _ => rfl) rfl
theorem h4w {el : TypeId} (ht : P.underlying t = some (.pointer el)) : RBin P .eql t (.pointer none) (.pointer none) (.bool true) := rb_peq_nil ht
theorem rb_peq_ns {el : TypeId} {x : Addr} (ht : P.underlying t = some (.pointer el)) : RBin P .eql t (.pointer none) (.pointer (some x)) (.bool false) := rb_peq_nil ht
theorem h2r {el : TypeId} {x : Addr} (ht : P.underlying t = some (.pointer el)) : RBin P .eql t (.pointer (some x)) (.pointer none) (.bool false) := rb_eq_of (run_peq_some ht) (fun _ => rfl) rfl
theorem rb_pne_nn {el : TypeId} (ht : P.underlying t = some (.pointer el)) : RBin P .neq t (.pointer none) (.pointer none) (.bool false) := rb_ne_of (r:=true) (run_peq_nil ht) (fun _ => rfl) rfl
theorem h5n {el : TypeId} {x : Addr} (ht : P.underlying t = some (.pointer el)) : RBin P .neq t (.pointer (some x)) (.pointer none) (.bool true) := rb_ne_of (r:=false) (run_peq_some ht) (fun _ => rfl) rfl
theorem run_seq_sn {el : TypeId} {x : Addr} {n m c' : Nat} {c : Nat} (ht : P.underlying t = some (.slice el)) (w : World) : (Op.equal t (.slice (some x) n c) (.slice none m c')).run P w = .ok false w := by
 show (Op.equalIn (9999 + 1) t _ _).run P w = _
 unfold Op.equalIn
 rw [Sem.run_bind, run_underlying ht]; rfl
theorem run_seq_nn {el : TypeId} {n m c' : Nat} {c : Nat} (ht : P.underlying t = some (.slice el)) (w : World) : (Op.equal t (.slice none n c) (.slice none m c')).run P w = .ok true w := by
 show (Op.equalIn (9999 + 1) t _ _).run P w = _
 unfold Op.equalIn
 rw [Sem.run_bind, run_underlying ht]; rfl
theorem rb_sleq_sn {el : TypeId} {x : Addr} {n m c c' : Nat} (ht : P.underlying t = some (.slice el)) : RBin P .eql t (.slice (some x) n c) (.slice none m c') (.bool false) := rb_eq_of (run_seq_sn ht) (fun _ => rfl) rfl
theorem rb_sleq_nn {el : TypeId} {n m c c' : Nat} (ht : P.underlying t = some (.slice el)) : RBin P .eql t (.slice none n c) (.slice none m c') (.bool true) := rb_eq_of (run_seq_nn ht) (fun _ => rfl) rfl
theorem rb_bne_s {x : Bool} (hu : P.underlying t = some .bool) : RBin P .neq t (.bool x) (.bool x) (.bool false) := by
 have := rb_bne (x:=x) (y:=x) hu
 simpa using this
theorem bd_10 {n m : Nat} {q : Bool} {lo : Int} {l' : Nat} (h0 : 0 ≤ lo) (h1 : lo ≤ n) (hl : lo.toNat = l') (w : World) : (Instr.sliceBounds q n m (some (.int k lo)) none none).run P w = .ok (l', n, m) w := by
 subst hl; simp [Instr.sliceBounds, Instr.sliceBound, asIntOf, Sem.run_bind, h0, h1]
theorem bd_01 {n m : Nat} {q : Bool} {hi : Int} {h' : Nat} (h0 : 0 ≤ hi) (h1 : hi ≤ m) (hl : hi.toNat = h') (w : World) : (Instr.sliceBounds q n m none (some (.int k hi)) none).run P w = .ok (0, h', m) w := by
 subst hl; simp [Instr.sliceBounds, Instr.sliceBound, asIntOf, Sem.run_bind, h0, h1]
end
section
variable {P : Program} {n : Nat} {l : List (Nat × Value)} {S : List Nat} {w0 : World} {L : List Blk} {K : Act → World → Prop} {k : Kont}
variable {ops : Array Oper} {rest : List Oper} {d : Tmp} {ty : TypeId} {pos : String} {af : Array Edge}
theorem q_e {op : Op} {v : Value} (hv : ValOf P n l S w0 L ⟨some d, op, ty, pos, af, none⟩ v) (h : G n ((d, v) :: l) S w0 L (KO P ops k rest)) (hd : Nat.blt d n = true := by exact rfl) : G n l S w0 L (KO P ops k (⟨some d, op, ty, pos, af, none⟩ :: rest)) := h0a (K1_ev hd hv h)
theorem q_k {op : Op} {v : Value} (hv : ValOf P n l S w0 L ⟨some d, op, ty, pos, af, none⟩ v) (h : G n ((d, v) :: l) S w0 L K) (hd : Nat.blt d n = true := by exact rfl) : G n l S w0 L (K1 P ops k ⟨some d, op, ty, pos, af, none⟩ K) := K1_ev hd hv h
theorem q_m {x : Operand} {v : Value} (h : G n ((d, v) :: l) S w0 L (KO P ops k rest)) (hd : Nat.blt d n = true := by exact rfl) (hx : ev l x = some v := by exact rfl) : G n l S w0 L (KO P ops k (⟨some d, .move x, ty, pos, af, none⟩ :: rest)) := q_e (h0b hx) h hd
theorem q_a {x : Operand} {v : Value} (h : G n ((d, v) :: l) S w0 L (KO P ops k rest)) (hd : Nat.blt d n = true := by exact rfl) (hx : ev l x = some v := by exact rfl) : G n l S w0 L (KO P ops k (⟨some d, .assign x, ty, pos, af, none⟩ :: rest)) := q_e (h0e hx) h hd
theorem q_n {x : Operand} {p : Addr} (h : G n ((d, .pointer (some p)) :: l) S w0 L (KO P ops k rest)) (hd : Nat.blt d n = true := by exact rfl) (hx : ev l x = some (.pointer (some p)) := by exact rfl) : G n l S w0 L (KO P ops k (⟨some d, .nilCheck x, ty, pos, af, none⟩ :: rest)) := q_e (h0i hx) h hd
theorem q_p {c x y : Operand} {b : Bool} {v : Value} (h : G n ((d, v) :: l) S w0 L (KO P ops k rest)) (hd : Nat.blt d n = true := by exact rfl) (hc : ev l c = some (.bool b) := by exact rfl) (hx : (if b then ev l x else ev l y) = some v := by exact rfl) : G n l S w0 L (KO P ops k (⟨some d, .pick c x y, ty, pos, af, none⟩ :: rest)) := q_e (h3p hc hx) h hd
theorem q_x {x : Operand} {vs : List Value} {v : Value} {i : Nat} (h : G n ((d, v) :: l) S w0 L (KO P ops k rest)) (hd : Nat.blt d n = true := by exact rfl) (hx : ev l x = some (.tuple vs.toArray) := by exact rfl) (hr : vs[i]? = some v := by exact rfl) : G n l S w0 L (KO P ops k (⟨some d, .extract x i, ty, pos, af, none⟩ :: rest)) := q_e (h5k hx hr) h hd
theorem q_y {op : Op} {j : Nat} {want b : Bool} {dj : Tmp} {v : Value} (hv : ValOf P n l S w0 L ⟨some d, op, ty, pos, af, none⟩ v) (h : G n ((d, v) :: l) S w0 L (KO P ops k rest)) (hj : (ops[j]?).bind (·.dst) = some dj := by exact rfl) (hb : lk l dj = some (.bool b) := by exact rfl) (he : (b == want) = true := by exact rfl) (hd : Nat.blt d n = true := by exact rfl) :
  G n l S w0 L (KO P ops k (⟨some d, op, ty, pos, af, some (j, want)⟩ :: rest)) := h0a (h1y hj hb he (K1_ev hd hv h))
theorem q_z {op : Op} {j : Nat} {want b : Bool} {dj : Tmp} (h : G n ((d, undef) :: l) S w0 L (KO P ops k rest)) (hj : (ops[j]?).bind (·.dst) = some dj := by exact rfl) (hb : lk l dj = some (.bool b) := by exact rfl) (he : (b == want) = false := by exact rfl) (hd : Nat.blt d n = true := by exact rfl) :
  G n l S w0 L (KO P ops k (⟨some d, op, ty, pos, af, some (j, want)⟩ :: rest)) := h0a (h2x hj hb he hd h)
theorem q_t (i : Nat) {fuel : Nat} {listed : Array Bool} {Lb : List Blk} {op : Op} {v : Value} (hi : ops[i]? = some ⟨some d, op, ty, pos, af, none⟩ := by exact rfl) (hs : Region.noSelect ops = true := by kernel_rfl) (hf : Region.free .any ops listed i = true := by kernel_rfl) (hr : (Region.ready .any ops listed).contains i = true := by kernel_rfl)
  (hd : Nat.blt d n = true := by exact rfl) (e : ∀ w, HP S w0 w L → HP S w0 w Lb) (x : ValOf P n l S w0 Lb ⟨some d, op, ty, pos, af, none⟩ v) (h : G n ((d, v) :: l) S w0 L (KH P S w0 Lb ops k fuel (listed.setIfInBounds i true))) :
  G n l S w0 L (KH P S w0 Lb ops k (fuel + 1) listed) := h0o hi hs hf hr hd e (Y_ev x) h
theorem q_u (i : Nat) {fuel : Nat} {listed : Array Bool} {op : Op} {v : Value} (hi : ops[i]? = some ⟨some d, op, ty, pos, af, none⟩ := by exact rfl) (hs : Region.noSelect ops = true := by kernel_rfl) (hf : Region.free .any ops listed i = true := by kernel_rfl) (hr : (Region.ready .any ops listed).contains i = true := by kernel_rfl)
    (hd : Nat.blt d n = true := by exact rfl) (x : ValOf P n l S w0 L ⟨some d, op, ty, pos, af, none⟩ v) (h : G n ((d, v) :: l) S w0 L (KH P S w0 L ops k fuel (listed.setIfInBounds i true))) :
    G n l S w0 L (KH P S w0 L ops k (fuel + 1) listed) := q_t i hi hs hf hr hd (fun _ H => H) x h
theorem q_T (i : Nat) {fuel j : Nat} {want b : Bool} {dj : Tmp} {listed : Array Bool} {Lb : List Blk} {op : Op} {v : Value} (hi : ops[i]? = some ⟨some d, op, ty, pos, af, some (j, want)⟩ := by exact rfl) (hs : Region.noSelect ops = true := by kernel_rfl) (hf : Region.free .any ops listed i = true := by kernel_rfl) (hr : (Region.ready .any ops listed).contains i = true := by kernel_rfl)
  (hd : Nat.blt d n = true := by exact rfl) (hj : (ops[j]?).bind (·.dst) = some dj := by exact rfl) (hb : lk l dj = some (.bool b) := by exact rfl) (he : (b == want) = true := by exact rfl) (e : ∀ w, HP S w0 w L → HP S w0 w Lb) (x : ValOf P n l S w0 Lb ⟨some d, op, ty, pos, af, none⟩ v)
  (h : G n ((d, v) :: l) S w0 L (KH P S w0 Lb ops k fuel (listed.setIfInBounds i true))) :
  G n l S w0 L (KH P S w0 Lb ops k (fuel + 1) listed) := h0o hi hs hf hr hd e (Y_yes hj hb he x) h
theorem q_r (i : Nat) {fuel : Nat} {listed : Array Bool} {Lb : List Blk} {o : Oper} (h : G n l S w0 L (K1 P ops k o (KHS P S w0 Lb ops k fuel (listed.setIfInBounds i true)))) (hi : ops[i]? = some o := by exact rfl) (hr : Region.ready .any ops listed = [i] := by kernel_rfl) :
  G n l S w0 L (KH P S w0 Lb ops k (fuel + 1) listed) := H_run hi hr h
theorem q_c (F : FuncId) {xs : List Operand} {vs : List Value} {ats : Array TypeId} {R : Value → List Blk → Prop} (hfn : (P.funcs[F]?).map (fun fn => (fn.name == "runtime.NumGoroutine", fn.body.isNone)) = some (false, false) := by kernel_rfl) (hd : Nat.blt d n = true := by exact rfl)
  (hx : evs l xs = some vs := by exact rfl) (c : Fn P F vs.toArray S w0 L R) (h : ∀ v L', R v L' → G n ((d, v) :: l) S w0 L' K) : G n l S w0 L (K1 P ops k ⟨some d, .call { callee := .value (.func F), args := xs.toArray, argTypes := ats }, ty, pos, af, none⟩ K) := h0w hfn hd hx c h
theorem q_f {x : Operand} {t : TypeId} {f o bb : Nat} (hf : FldOff P t f o) (hx : ev l x = some (.pointer (some ⟨bb, 0, none⟩)) := by exact rfl) : ValOf P n l S w0 L ⟨some d, .fieldAddr t x f, ty, pos, af, none⟩ (.pointer (some ⟨bb, o, none⟩)) := E_fieldAddr hx (r_fieldAt0 hf)
theorem q_g {x : Operand} {t : TypeId} {f o bb off off' : Nat} (hf : FldOff P t f o) (hx : ev l x = some (.pointer (some ⟨bb, off, none⟩)) := by exact rfl) (ho : off + o = off' := by (try simp only [Int.toNat_natCast]); (try simp only [Int.reduceToNat]); (try simp only [Nat.mul_one]); (try simp only [Nat.zero_mul]); (try simp only [Nat.reduceMul]); (try simp only [Nat.zero_add]); (try simp only [Nat.add_zero]); (try simp only [Nat.reduceAdd]); exact rfl) :
  ValOf P n l S w0 L ⟨some d, .fieldAddr t x f, ty, pos, af, none⟩ (.pointer (some ⟨bb, off', none⟩)) := E_fieldAddr hx (r_fieldAt hf ho)
theorem q_l {i : Nat} {t : TypeId} {x : Operand} {q : Bool} {b off : Nat} {cs : Array Value} {T : TypeId} {fr : Nat × Nat} {v : Value} (hx : ev l x = some (.pointer (some ⟨b, off, none⟩)) := by exact rfl) (hi : L[i]? = some ⟨q, b, .cells cs T fr⟩ := by repeat (first | exact fd0 | apply fdS)) (hag : aggB P t = false := by kernel_rfl)
  (hu : (P.underlying t).isSome = true := by kernel_rfl) (hv : cs.toList[off]? = some v := by exact rfl) : ValOf P n l S w0 L ⟨some d, .load t x, ty, pos, af, none⟩ v := h0f hx hi hag hu hv
theorem q_L {i : Nat} {t : TypeId} {x : Operand} {q : Bool} {b off m : Nat} {cs : Array Value} {vs : List Value} {T : TypeId} {fr : Nat × Nat} (hm : (P.info? t).map (·.size) = some m) (hx : ev l x = some (.pointer (some ⟨b, off, none⟩)) := by exact rfl) (hi : L[i]? = some ⟨q, b, .cells cs T fr⟩ := by repeat (first | exact fd0 | apply fdS)) (hag : aggB P t = true := by kernel_rfl)
  (hu : (P.underlying t).isSome = true := by kernel_rfl) (hle : off + m ≤ cs.size := by exact Nat.le_of_ble_eq_true rfl) (hv : (cs.toList.drop off).take m = vs := by (try simp only [List.drop_succ_cons]); (try simp only [List.drop_zero]); (try simp only [List.take_succ_cons]); (try simp only [List.take_zero]); (try simp only [List.take_nil]); exact rfl) :
  ValOf P n l S w0 L ⟨some d, .load t x, ty, pos, af, none⟩ (.agg vs.toArray) := h1s hx hi hag hu hm hle hv
theorem q_b {op : BinOp} {x y : Operand} {vx vy v : Value} {t yt : TypeId} (hx : ev l x = some vx := by exact rfl) (hy : ev l y = some vy := by exact rfl) (hp : plainEq vx = true := by exact rfl) (r : RBin P op t vx vy v) : ValOf P n l S w0 L ⟨some d, .binOp op t x y yt, ty, pos, af, none⟩ v := E_bin hx hy hp r
theorem q_S {i : Nat} {t : TypeId} {x y : Operand} {b off : Nat} {cs : List Value} {cs' : List Value} {T : TypeId} {v : Value} {L' : List Blk} (h : G n l S w0 L' K) (hx : ev l x = some (.pointer (some ⟨b, off, none⟩)) := by exact rfl) (hy : ev l y = some v := by exact rfl)
  (hi : L[i]? = some ⟨true, b, .cells cs.toArray T (0, 0)⟩ := by repeat (first | exact fd0 | apply fdS)) (hvn : v.cells = #[v] := by exact rfl) (hone : v.oneCell' = true := by exact rfl) (hm : (P.info? t).map (·.size) = some 1 := by kernel_rfl) (hle : off < cs.length := by exact Nat.le_of_ble_eq_true rfl) (hcs : cs.set off v = cs' := by (try simp only [List.set_cons_succ]); (try simp only [List.set_cons_zero]); exact rfl)
  (hL : L.set i ⟨true, b, .cells cs'.toArray T (0, 0)⟩ = L' := by (try simp only [List.set_cons_succ]); (try simp only [List.set_cons_zero]); exact rfl) : G n l S w0 L (K1 P ops k ⟨none, .store t x y, ty, pos, af, none⟩ K) := h0l hx hy hi hvn hone hm hle hcs (hL ▸ h)
theorem q_W {i : Nat} {t : TypeId} {x y : Operand} {b : Nat} {cs cs' : Array Value} {T : TypeId} {L' : List Blk} (h : G n l S w0 L' K) (hx : ev l x = some (.pointer (some ⟨b, 0, none⟩)) := by exact rfl) (hy : ev l y = some (.agg cs') := by exact rfl)
  (hi : L[i]? = some ⟨true, b, .cells cs T (0, 0)⟩ := by repeat (first | exact fd0 | apply fdS)) (hm : (P.info? t).map (·.size) = some cs'.size := by kernel_rfl) (hs : cs.size = cs'.size := by exact rfl) (hone : cs'.toList.all (·.oneCell') = true := by exact rfl)
  (hL : L.set i ⟨true, b, .cells cs' T (0, 0)⟩ = L' := by (try simp only [List.set_cons_succ]); (try simp only [List.set_cons_zero]); exact rfl) : G n l S w0 L (K1 P ops k ⟨none, .store t x y, ty, pos, af, none⟩ K) := h1e hx hy hi hm hs hone (hL ▸ h)
theorem p_e {op : Op} {v : Value} (hv : ValOf P n l S w0 L ⟨some d, op, ty, pos, af, none⟩ v) (hd : Nat.blt d n = true := by exact rfl) (h : G n ((d, v) :: l) S w0 L (KO P ops k rest)) : G n l S w0 L (KO P ops k (⟨some d, op, ty, pos, af, none⟩ :: rest)) := q_e (hv := hv) (h := h) (hd := hd)
theorem p_k {op : Op} {v : Value} (hv : ValOf P n l S w0 L ⟨some d, op, ty, pos, af, none⟩ v) (hd : Nat.blt d n = true := by exact rfl) (h : G n ((d, v) :: l) S w0 L K) : G n l S w0 L (K1 P ops k ⟨some d, op, ty, pos, af, none⟩ K) := q_k (hv := hv) (h := h) (hd := hd)
theorem p_m {x : Operand} {v : Value} (hd : Nat.blt d n = true := by exact rfl) (hx : ev l x = some v := by exact rfl) (h : G n ((d, v) :: l) S w0 L (KO P ops k rest)) : G n l S w0 L (KO P ops k (⟨some d, .move x, ty, pos, af, none⟩ :: rest)) := q_m (h := h) (hd := hd) (hx := hx)
theorem p_a {x : Operand} {v : Value} (hd : Nat.blt d n = true := by exact rfl) (hx : ev l x = some v := by exact rfl) (h : G n ((d, v) :: l) S w0 L (KO P ops k rest)) : G n l S w0 L (KO P ops k (⟨some d, .assign x, ty, pos, af, none⟩ :: rest)) := q_a (h := h) (hd := hd) (hx := hx)
theorem p_n {x : Operand} {p : Addr} (hd : Nat.blt d n = true := by exact rfl) (hx : ev l x = some (.pointer (some p)) := by exact rfl) (h : G n ((d, .pointer (some p)) :: l) S w0 L (KO P ops k rest)) : G n l S w0 L (KO P ops k (⟨some d, .nilCheck x, ty, pos, af, none⟩ :: rest)) := q_n (h := h) (hd := hd) (hx := hx)
theorem p_p {c x y : Operand} {b : Bool} {v : Value} (hd : Nat.blt d n = true := by exact rfl) (hc : ev l c = some (.bool b) := by exact rfl) (hx : (if b then ev l x else ev l y) = some v := by exact rfl) (h : G n ((d, v) :: l) S w0 L (KO P ops k rest)) : G n l S w0 L (KO P ops k (⟨some d, .pick c x y, ty, pos, af, none⟩ :: rest)) := q_p (h := h) (hd := hd) (hc := hc) (hx := hx)
theorem p_x {x : Operand} {vs : List Value} {v : Value} {i : Nat} (hd : Nat.blt d n = true := by exact rfl) (hx : ev l x = some (.tuple vs.toArray) := by exact rfl) (hr : vs[i]? = some v := by exact rfl) (h : G n ((d, v) :: l) S w0 L (KO P ops k rest)) : G n l S w0 L (KO P ops k (⟨some d, .extract x i, ty, pos, af, none⟩ :: rest)) := q_x (h := h) (hd := hd) (hx := hx) (hr := hr)
theorem p_y {op : Op} {j : Nat} {want b : Bool} {dj : Tmp} {v : Value} (hv : ValOf P n l S w0 L ⟨some d, op, ty, pos, af, none⟩ v) (hj : (ops[j]?).bind (·.dst) = some dj := by exact rfl) (hb : lk l dj = some (.bool b) := by exact rfl) (he : (b == want) = true := by exact rfl) (hd : Nat.blt d n = true := by exact rfl) (h : G n ((d, v) :: l) S w0 L (KO P ops k rest)) :
  G n l S w0 L (KO P ops k (⟨some d, op, ty, pos, af, some (j, want)⟩ :: rest)) := q_y (hv := hv) (h := h) (hj := hj) (hb := hb) (he := he) (hd := hd)
theorem p_z {op : Op} {j : Nat} {want b : Bool} {dj : Tmp} (hj : (ops[j]?).bind (·.dst) = some dj := by exact rfl) (hb : lk l dj = some (.bool b) := by exact rfl) (he : (b == want) = false := by exact rfl) (hd : Nat.blt d n = true := by exact rfl) (h : G n ((d, undef) :: l) S w0 L (KO P ops k rest)) :
  G n l S w0 L (KO P ops k (⟨some d, op, ty, pos, af, some (j, want)⟩ :: rest)) := q_z (h := h) (hj := hj) (hb := hb) (he := he) (hd := hd)
theorem p_r (i : Nat) {fuel : Nat} {listed : Array Bool} {Lb : List Blk} {o : Oper} (hi : ops[i]? = some o := by exact rfl) (hr : Region.ready .any ops listed = [i] := by kernel_rfl) (h : G n l S w0 L (K1 P ops k o (KHS P S w0 Lb ops k fuel (listed.setIfInBounds i true)))) :
  G n l S w0 L (KH P S w0 Lb ops k (fuel + 1) listed) := q_r (i := i) (h := h) (hi := hi) (hr := hr)
theorem p_S {i : Nat} {t : TypeId} {x y : Operand} {b off : Nat} {cs : List Value} {cs' : List Value} {T : TypeId} {v : Value} {L' : List Blk} (hx : ev l x = some (.pointer (some ⟨b, off, none⟩)) := by exact rfl) (hy : ev l y = some v := by exact rfl) (hi : L[i]? = some ⟨true, b, .cells cs.toArray T (0, 0)⟩ := by repeat (first | exact fd0 | apply fdS)) (hvn : v.cells = #[v] := by exact rfl) (hone : v.oneCell' = true := by exact rfl) (hm : (P.info? t).map (·.size) = some 1 := by kernel_rfl) (hle : off < cs.length := by exact Nat.le_of_ble_eq_true rfl) (hcs : cs.set off v = cs' := by (try simp only [List.set_cons_succ]); (try simp only [List.set_cons_zero]); exact rfl) (hL : L.set i ⟨true, b, .cells cs'.toArray T (0, 0)⟩ = L' := by (try simp only [List.set_cons_succ]); (try simp only [List.set_cons_zero]); exact rfl) (h : G n l S w0 L' K) : G n l S w0 L (K1 P ops k ⟨none, .store t x y, ty, pos, af, none⟩ K) := q_S (h := h) (hx := hx) (hy := hy) (hi := hi) (hvn := hvn) (hone := hone) (hm := hm) (hle := hle) (hcs := hcs) (hL := hL)
theorem p_W {i : Nat} {t : TypeId} {x y : Operand} {b : Nat} {cs cs' : Array Value} {T : TypeId} {L' : List Blk} (hx : ev l x = some (.pointer (some ⟨b, 0, none⟩)) := by exact rfl) (hy : ev l y = some (.agg cs') := by exact rfl) (hi : L[i]? = some ⟨true, b, .cells cs T (0, 0)⟩ := by repeat (first | exact fd0 | apply fdS)) (hm : (P.info? t).map (·.size) = some cs'.size := by kernel_rfl) (hs : cs.size = cs'.size := by exact rfl) (hone : cs'.toList.all (·.oneCell') = true := by exact rfl) (hL : L.set i ⟨true, b, .cells cs' T (0, 0)⟩ = L' := by (try simp only [List.set_cons_succ]); (try simp only [List.set_cons_zero]); exact rfl) (h : G n l S w0 L' K) : G n l S w0 L (K1 P ops k ⟨none, .store t x y, ty, pos, af, none⟩ K) := q_W (h := h) (hx := hx) (hy := hy) (hi := hi) (hm := hm) (hs := hs) (hone := hone) (hL := hL)
end
theorem q_o {p : Prop} (h : p := by first | (with_reducible assumption) | (decide; done) | omega) : p := h
theorem c_0 {p : Prop} (h : p := by intro w H; first | exact H | exact H.drop1 | exact H.tail | exact H.tail.drop1 | exact H.tail.tail.drop1 | (refine H.sub ?_; (repeat (first | exact List.Sublist.refl _ | refine List.Sublist.cons_cons _ ?_ | refine List.Sublist.cons _ ?_)); done) | (repeat (first | exact H | replace H := H.tail | replace H := H.dropA))) : p := h
theorem c_1 {p : Prop} (h : p := by (try simp only [Int.toNat_natCast]); (try simp only [Int.reduceToNat]); (try simp only [Nat.mul_one]); (try simp only [Nat.zero_mul]); (try simp only [Nat.reduceMul]); (try simp only [Nat.zero_add]); (try simp only [Nat.add_zero]); (try simp only [Nat.reduceAdd]); (try simp only [Nat.reduceSub]); exact rfl) : p := h
theorem c_2 {p : Prop} (h : p := by (try simp only [Int.toNat_natCast]); (try simp only [Int.reduceToNat]); (try simp only [Nat.mul_one]); (try simp only [Nat.zero_mul]); (try simp only [Nat.reduceMul]); (try simp only [Nat.zero_add]); (try simp only [Nat.add_zero]); (try simp only [Nat.reduceAdd]); exact rfl) : p := h
theorem c_3 {p : Prop} (h : p := by intro w H; first | exact H | exact H.drop1 | exact H.tail | exact H.tail.drop1 | exact H.tail.tail.drop1 | (refine H.sub ?_; (repeat (first | exact List.Sublist.refl _ | refine List.Sublist.cons_cons _ ?_ | refine List.Sublist.cons _ ?_)); done) | (repeat fail)) : p := h
theorem c_4 {p : Prop} (h : p := by first | (with_reducible assumption) | ((try simp only [List.drop_succ_cons]); (try simp only [List.drop_zero]); (try simp only [List.take_succ_cons]); (try simp only [List.take_zero]); (try simp only [List.take_nil]); exact rfl)) : p := h
theorem c_5 {p : Prop} (h : p := by intro w H; first | exact H | exact H.drop1 | exact H.tail | exact H.tail.drop1 | exact H.tail.tail.drop1 | (refine H.sub ?_; (repeat (first | exact List.Sublist.refl _ | refine List.Sublist.cons _ ?_)); done) | (repeat fail)) : p := h
theorem c_6 {p : Prop} (h : p := by intro w H; refine H.sub ?_; (repeat (first | exact List.nil_sublist _ | refine List.Sublist.cons_cons _ ?_ | refine List.Sublist.cons _ ?_ | (refine List.Sublist.trans ?_ (List.sublist_append_right _ _)))); done) : p := h
theorem c_7 {p : Prop} (h : p := by (try simp only [Nat.zero_mul]); (try simp only [List.take_zero]); (try simp only [List.nil_append]); (try simp only [zzC, zzN]); exact rfl) : p := h
theorem c_8 {p : Prop} (h : p := by intro w H; refine H.sub ?_; (repeat (first | exact List.nil_sublist _ | refine List.Sublist.cons_cons _ ?_ | (refine List.Sublist.trans ?_ (List.sublist_append_right _ _)))); done) : p := h
theorem c_9 {p : Prop} (h : p := by (try simp only [Int.reduceAdd]); (try simp only [Int.reduceSub]); (try simp only [Int.reduceMul]); (try simp only [Int.reduceMod]); (try simp only [Int.reduceDiv]); exact rfl) : p := h
theorem h1b {p : Prop} (h : p := by intro w H; first | exact H | exact H.drop1 | exact H.tail | exact H.tail.drop1 | exact H.tail.tail.drop1 | (refine H.sub ?_; (repeat fail); done) | (repeat fail)) : p := h
theorem c_11 {p : Prop} (h : p := by intro w H; refine H.sub ?_; (repeat (first | exact List.nil_sublist _ | refine List.Sublist.cons_cons _ ?_ | refine List.Sublist.cons _ ?_)); done) : p := h
theorem c_12 {p : Prop} (h : p := by (try simp only [zzE, zzF]); (focus (repeat (first | exact fd0 | apply fdS)))) : p := h
theorem h5h {p : Prop} (h : p := by intro w H; refine H.sub ?_; (repeat (first | exact List.nil_sublist _ | refine List.Sublist.cons_cons _ ?_)); done) : p := h
theorem h2u {p : Prop} (h : p := by first | (with_reducible assumption) | exact Nat.le_of_ble_eq_true rfl | (simp; done) | (simp; omega) | omega) : p := h
theorem c_15 {p : Prop} (h : p := by (try simp only [zzE, zzF]); exact rfl) : p := h
theorem c_16 {p : Prop} (h : p := by first | (with_reducible assumption) | exact Nat.le_of_ble_eq_true rfl | (unfold maxLen; omega)) : p := h
theorem c_17 {p : Prop} (h : p := by intro w H; repeat (first | exact H | (replace H := H.tail) | (replace H := H.dropA))) : p := h
theorem c_18 {p : Prop} (h : p := by intro w H; exact H.dropA.tail.sub (List.Sublist.cons_cons _ (List.nil_sublist _))) : p := h
theorem h1g {p : Prop} (h : p := by intro w H; repeat (first | exact H | replace H := H.tail | replace H := H.dropA)) : p := h
theorem h5e {p : Prop} (h : p := by first | (with_reducible assumption) | exact rfl | (simp; done) | (simp; omega)) : p := h
theorem c_21 {p : Prop} (h : p := by (try simp only [Nat.zero_add]); (try simp only [Nat.reduceAdd]); exact rfl) : p := h
theorem c_22 {p : Prop} (h : p := by first | (with_reducible assumption) | exact rfl | (simp; done)) : p := h
theorem c_23 {p : Prop} (h : p := by intro w H; repeat (first | exact H | (replace H := H.tail))) : p := h
theorem c_24 {p : Prop} (h : p := by repeat (first | (with_reducible assumption) | apply fdS)) : p := h
theorem h2g {p : Prop} (h : p := by first | (with_reducible assumption) | exact rfl) : p := h
theorem h4h {p : Prop} (h : p := by (try simp only [Int.cast_ofNat_Int]); exact rfl) : p := h
theorem h4d {p : Prop} (h : p := by repeat (first | exact fd0 | apply fdS)) : p := h
theorem c_28 {p : Prop} (h : p := by repeat (with_reducible assumption)) : p := h
theorem c_30 {p : Prop} (h : p := by unfold maxLen; omega) : p := h
theorem c_31 {p : Prop} (h : p := by (try simp only [List.drop_succ_cons]); (try simp only [List.drop_zero]); (try simp only [List.take_succ_cons]); (try simp only [List.take_zero]); (try simp only [List.take_nil]); exact rfl) : p := h
theorem c_32 {p : Prop} (h : p := by intro w H; refine Sel.out ?_ H; (try simp only [zzC, zzN]); repeat (exact Sel.refl _)) : p := h
theorem h3o {p : Prop} (h : p := by (try simp only [List.set_cons_succ]); (try simp only [List.set_cons_zero]); exact rfl) : p := h
end Go.Proofs.Ytpbpgbkpciffgaa
