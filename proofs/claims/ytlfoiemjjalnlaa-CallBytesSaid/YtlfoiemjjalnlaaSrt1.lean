/- A sort's worlds among the known blocks: what the row holds, what else is as it was. -/
import Derived.Test.YtlfoiemjjalnlaaNam5
import Derived.Shelf.GgSortFunc.RowK
namespace Go.Proofs.Ytlfoiemjjalnlaa
open Go Go.RowKit Go.Sort
theorem HP.aheadN {S : List Nat} {w0 w : World} {L : List Blk} (H : HP S w0 w L) (n : Nat) : HP S w0 (Sort.ahead w n) L := ⟨H.os, H.tape, H.output, H.size, H.keep, H.get, H.own, H.sep⟩
theorem HP.growL {S : List Nat} {w0 : World} {L : List Blk} : ∀ (l : List Obj) {w : World}, HP S w0 w L → HP S w0 (grow w l.toArray) L
  | [], w, H => by
    have : grow w #[] = w := by simp [grow]
    rw [this]; exact H
  | o :: l, w, H => by
    have : grow w (o :: l).toArray = grow (w.alloc o) l.toArray := by
      show ({ w with heap := w.heap ++ (o :: l).toArray } : World) = { w.alloc o with heap := (w.heap.push o) ++ l.toArray }
      congr 1
      apply Array.ext'
      simp
    rw [this]
    exact HP.growL l (H.alloc o).tail
theorem HP.growA {S : List Nat} {w0 w : World} {L : List Blk} (H : HP S w0 w L) (os : Array Obj) : HP S w0 (grow w os) L := HP.growL os.toList H
theorem putCells_take (F cur : Array Value) (h : F.size ≤ cur.size) : (putCells id 0 F cur).toList.take F.size = F.toList := by
  apply List.ext_getElem?
  intro i
  rw [List.getElem?_take]
  by_cases hi : i < F.size
  · rw [if_pos hi]
    have h2 : i < cur.size := by omega
    simp [putCells, h2, hi]
  · rw [if_neg hi]
    simp [hi]
theorem putCells_size (F cur : Array Value) : (putCells id 0 F cur).size = cur.size := by simp [putCells]
theorem HP.putRow {S : List Nat} {w0 w : World} {L : List Blk} {g : Nat} {cur : Array Value} {T : TypeId} {fr : Nat × Nat} (H : HP S w0 w (⟨true, g, .cells cur T fr⟩ :: L)) (F : Array Value) :
    HP S w0 (Sort.putRow id w g 0 F) (⟨true, g, .cells (putCells id 0 F cur) T fr⟩ :: L) := by
  have hg : w.heap[g]? = some (.cells cur T fr) := H.at_ 0 (p := ⟨true, g, .cells cur T fr⟩) rfl
  have hlt : g < w.heap.size := (Array.getElem?_eq_some_iff.1 hg).1
  refine H.turn 0 (o := .cells cur T fr) rfl _ (.cells (putCells id 0 F cur) T fr) rfl rfl rfl (by simp) ?_ ?_
  · simp only [Sort.putRow, mapBlock, Array.getElem?_modify, if_true, hg]
    rfl
  · intro k hk
    simp only [Sort.putRow, mapBlock, Array.getElem?_modify]
    rw [if_neg (fun e => hk e.symm)]
theorem HP.holds {S : List Nat} {w0 w : World} {L : List Blk} {g : Nat} {cur : Array Value} {T : TypeId} (H : HP S w0 w (⟨true, g, .cells cur T (0, 0)⟩ :: L)) (F : Array Value) (h1 : F.size ≤ cur.size) (h2 : cur.toList.take F.size = F.toList) : Holds id w g 0 F := by
  have hg : w.heap[g]? = some (.cells cur T (0, 0)) := H.at_ 0 (p := ⟨true, g, .cells cur T (0, 0)⟩) rfl
  intro j hj
  refine ⟨?_, ?_⟩
  · rw [Nat.zero_add, cell_of_row w g j cur T (0, 0) hg]
    have h3 := congrArg (fun l => l[j]?) h2
    simp only [List.getElem?_take, hj, if_true] at h3
    rw [Array.getElem?_toList, Array.getElem?_toList] at h3
    rw [h3, Array.getElem?_eq_getElem hj]
    simp [getElem!_pos F j hj]
  · simp [World.frozen?, hg]
section
variable {α : Type} [Inhabited α]
theorem flatMap_get (enc : α → List Value) (k : Nat) (hk : ∀ x, (enc x).length = k) (l : List α) (t : Nat) : (l.flatMap enc)[t]! = if t < l.length * k then (enc (l.toArray[t / k]!))[t % k]! else default := by
  induction l generalizing t with
  | nil => simp
  | cons a l ih =>
    rw [List.flatMap_cons]
    by_cases h0 : t < k
    · have hd : t / k = 0 := Nat.div_eq_of_lt h0
      have hm : t % k = t := Nat.mod_eq_of_lt h0
      have h1 : t < (a :: l).length * k := by rw [List.length_cons, Nat.add_mul, Nat.one_mul]; omega
      rw [if_pos h1, hd, hm]
      have h2 : t < (enc a).length := by rw [hk]; exact h0
      simp only [List.getElem!_eq_getElem?_getD, List.getElem?_append_left h2]
      simp
    · have hkp : 0 < k ∨ k = 0 := by omega
      rcases hkp with hkp | rfl
      · have h2 : (enc a).length ≤ t := by rw [hk]; omega
        have e1 : (enc a ++ l.flatMap enc)[t]! = (l.flatMap enc)[t - k]! := by
          simp only [List.getElem!_eq_getElem?_getD, List.getElem?_append_right h2, hk]
        rw [e1, ih (t - k)]
        have hd : t / k = (t - k) / k + 1 := by
          rw [Nat.div_eq_sub_div hkp (by omega)]
        have hm : t % k = (t - k) % k := by rw [Nat.mod_eq_sub_mod (by omega)]
        by_cases h3 : t - k < l.length * k
        · rw [if_pos h3, if_pos (by rw [List.length_cons, Nat.add_mul, Nat.one_mul]; omega), hd, hm]
          simp
        · rw [if_neg h3, if_neg (by rw [List.length_cons, Nat.add_mul, Nat.one_mul]; omega)]
      · have : ∀ x, enc x = [] := fun x => List.eq_nil_of_length_eq_zero (hk x)
        have h4 : l.flatMap enc = [] := by
          clear ih
          induction l with
          | nil => rfl
          | cons b l ih => rw [List.flatMap_cons, this b, ih]; rfl
        rw [this a, h4]
        simp
theorem flatK_list (enc : α → List Value) (k : Nat) (hk : ∀ x, (enc x).length = k) (l : List α) : flatK enc k l.toArray = (l.flatMap enc).toArray := by
  have hl : (l.flatMap enc).length = l.length * k := by
    induction l with
    | nil => simp
    | cons a l ih => rw [List.flatMap_cons, List.length_append, ih, hk, List.length_cons, Nat.add_mul, Nat.one_mul, Nat.add_comm]
  refine ext_get! (by simp only [size_flatK, List.size_toArray, hl]) fun t ht => ?_
  have ht' : t < l.length * k := by simpa using ht
  rw [get_flatK _ _ _ _ (by simpa using ht')]
  have := flatMap_get enc k hk l t
  rw [if_pos ht'] at this
  rw [← this]
  simp
end
end Go.Proofs.Ytlfoiemjjalnlaa
