/- Appending to a slice that the call itself made, over known blocks. Conditions: the sum of lengths stays below the model's bound. -/
import Derived.Test.YtlfoiemjjalnlaaKit1
namespace Go.Proofs.Ytlfoiemjjalnlaa
open Go Go.RowKit

/-- a slice value that is nil or owns its block: n elements of size cells each, the cells xs -/
def Own (E : TypeId) (size : Nat) (v : Value) (n : Nat) (xs : List Value) (e : List Blk) : Prop :=
  xs.length = n * size ∧
  ((v = .slice none 0 0 ∧ n = 0 ∧ e = []) ∨
   ∃ g cap cur, v = .slice (some ⟨g, 0, none⟩) n cap ∧ e = [⟨true, g, .cells cur E (0, 0)⟩] ∧ n ≤ cap ∧ cap ≤ maxLen ∧ cur.size = cap * size ∧ cur.toList.take (n * size) = xs)

theorem Own.nil (E size : Nat) : Own E size (.slice none 0 0) 0 [] [] := ⟨by simp, .inl ⟨rfl, rfl, rfl⟩⟩

theorem Own.of_block {E size g n cap : Nat} {cur : Array Value} (h1 : n ≤ cap) (h2 : cap ≤ maxLen) (h3 : cur.size = cap * size) :
    Own E size (.slice (some ⟨g, 0, none⟩) n cap) n (cur.toList.take (n * size)) [⟨true, g, .cells cur E (0, 0)⟩] :=
  ⟨by rw [List.length_take, Nat.min_eq_left]; simp [h3]; exact Nat.mul_le_mul_right _ h1, .inr ⟨g, cap, cur, rfl, rfl, h1, h2, h3, rfl⟩⟩

section
variable {P : Program} {S : List Nat} {w0 w : World} {L : List Blk}

theorem run_append_hp {E size : Nat} {e : List Blk} (bytes : Nat) {t ty : TypeId} {i : TypeInfo} {z : Value} (ht : P.underlying t = some (.slice E)) (hi : P.info? E = some i) (hz : i.zero = some z)
    (hsize : i.size = size) (hby : i.bytes = bytes) (hzs : z.cells.size = size)
    {v : Value} {n : Nat} {xs : List Value} (H : HP S w0 w (e ++ L)) (hown : Own E size v n xs e)
    (a : Addr) (m c : Nat) (news : List Value) (hl : news.length = m * size) (hnews : ∀ j u, news[j]? = some u → w.cell? (a.add j) = some u) (h1 : ∀ u ∈ news, u.oneCell' = true)
    (h63 : n + m ≤ maxLen) (hbytes : (n + m) * bytes ≤ 140737488355328) :
    ∃ v' w' e', (Builtin.append_ #[t, t] ty #[v, .slice (some a) m c]).run P w = .ok v' w' ∧ Own E size v' (n + m) (xs ++ news) e' ∧ HP S w0 w' (e' ++ L) := by
  subst hsize
  subst hby
  have hsmall : n + m ≤ 9223372036854775807 := by simp only [maxLen] at h63; omega
  have hlen : (xs ++ news).length = (n + m) * i.size := by rw [List.length_append, hown.1, hl, Nat.add_mul]
  have HL : HP S w0 w L := H.sub (List.sublist_append_right _ _)
  have grown : ∀ (old : Nat), old < n + m →
      Own E i.size (.slice (some ⟨w.heap.size, 0, none⟩) (n + m) (grownCap w (n + m) old E)) (n + m) (xs ++ news)
        [⟨true, w.heap.size, .cells (xs.toArray ++ news.toArray ++ Builtin.zeroCells z.cells (grownCap w (n + m) old E - (n + m))) E (0, 0)⟩] ∧
      HP S w0 (w.drew.alloc (.cells (xs.toArray ++ news.toArray ++ Builtin.zeroCells z.cells (grownCap w (n + m) old E - (n + m))) E))
        (⟨true, w.heap.size, .cells (xs.toArray ++ news.toArray ++ Builtin.zeroCells z.cells (grownCap w (n + m) old E - (n + m))) E (0, 0)⟩ :: L) := by
    intro old ho
    have hge := grownCap_ge w (n + m) old E
    have hcm : grownCap w (n + m) old E ≤ maxLen := grownCap_le_maxLen w (n + m) old E h63
    refine ⟨⟨hlen, .inr ⟨w.heap.size, _, _, rfl, rfl, hge, hcm, ?_, ?_⟩⟩, HL.drew.alloc _⟩
    · simp only [Array.size_append, List.size_toArray, size_zeroCells, hzs, hown.1, hl, ← Nat.add_mul]
      congr 1
      omega
    · simp only [Array.toList_append, List.append_assoc]
      rw [← List.append_assoc, ← hlen]
      exact List.take_left
  rcases hown.2 with ⟨rfl, rfl, rfl⟩ | ⟨g, cap, cur, rfl, rfl, hnc, hcm, hcs, htake⟩
  · have hx : xs = [] := List.eq_nil_of_length_eq_zero (by simpa using hown.1)
    subst hx
    by_cases hm : m = 0
    · subst hm
      have hn : news = [] := List.eq_nil_of_length_eq_zero (by simpa using hl)
      subst hn
      refine ⟨.slice none 0 0, w, [], ?_, Own.nil E i.size, H⟩
      simp [Builtin.append_, run_underlying ht, sizeOf, typeInfo, hi, Builtin.lenOf, Builtin.firstCells, loadCells, loadCellsFrom]
    · have hr := run_append_nil (P := P) w t ty E i z ht hi hz a m c news hl hnews (by omega) (by omega) (by have hb := hbytes; simp only [Nat.zero_add] at hb; omega)
      have hgr := grown 0 (by omega)
      simp only [Nat.zero_add, List.nil_append, Array.empty_append] at hgr ⊢
      exact ⟨_, _, _, hr, hgr.1, hgr.2⟩
  · have hg : w.heap[g]? = some (.cells cur E (0, 0)) := H.at_ 0 (p := ⟨true, g, .cells cur E (0, 0)⟩) rfl
    by_cases hroom : n + m ≤ cap
    · have hfit : n * i.size + news.length ≤ cur.size := by rw [hl, hcs, ← Nat.add_mul]; exact Nat.mul_le_mul_right _ hroom
      have hr := run_append_room (P := P) w t ty E i ht hi g n cap cur hg a m c news hl hnews h1 hroom hfit
      have HT := H.turn 0 (o := .cells cur E (0, 0)) rfl (w.setRow g (cur.toList.take (n * i.size) ++ news ++ cur.toList.drop (n * i.size + news.length)).toArray) _ rfl rfl rfl (size_setRow w g _)
        (setRow_heap w g cur _ E _ hg) (fun k hk => setRow_other w g k _ hk)
      refine ⟨_, _, _, hr, ⟨hlen, .inr ⟨g, cap, _, rfl, rfl, hroom, hcm, ?_, ?_⟩⟩, HT⟩
      · simp only [List.size_toArray, List.length_append, List.length_take, List.length_drop, Array.length_toList]
        omega
      · rw [htake, ← hlen]
        exact List.take_left
    · have holds : ∀ j u, xs[j]? = some u → w.cell? ((⟨g, 0, none⟩ : Addr).add j) = some u := by
        intro j u hj
        have hadd : (⟨g, 0, none⟩ : Addr).add j = ⟨g, j, none⟩ := by unfold Addr.add; split <;> simp_all
        rw [hadd, cell_of_row w g j cur E (0, 0) hg]
        rw [← htake, List.getElem?_take] at hj
        split at hj
        · simpa using hj
        · simp at hj
      have hr := run_append_grow (P := P) w t ty E i z ht hi hz ⟨g, 0, none⟩ n cap xs hown.1 holds a m c news hl hnews (by omega) (by omega) (growslice_fits (by omega) hbytes)
      have hgr := grown cap (by omega)
      exact ⟨_, _, _, hr, hgr.1, hgr.2⟩

theorem fold_set (cs : List Value) : ∀ (pre : List Value) (acc : List Value), acc.length = pre.length + cs.length →
    (cs.zipIdx pre.length).foldl (fun (x : Array Value) (p : Value × Nat) => x.setIfInBounds p.2 p.1) (pre ++ acc.drop pre.length).toArray = (pre ++ cs).toArray := by
  induction cs with
  | nil => intro pre acc h; simp at h ⊢; omega
  | cons c cs ih =>
    intro pre acc h
    obtain ⟨y, ys, hd, hys⟩ : ∃ y ys, acc.drop pre.length = y :: ys ∧ acc.drop (pre.length + 1) = ys :=
      ⟨_, _, List.drop_eq_getElem_cons (by simp at h; omega), rfl⟩
    simp only [List.zipIdx_cons, List.foldl_cons]
    have : (pre ++ acc.drop pre.length).toArray.setIfInBounds pre.length c = ((pre ++ [c]) ++ acc.drop (pre ++ [c]).length).toArray := by
      rw [hd]; simp [List.set_append, hys]
    rw [this]
    have := ih (pre ++ [c]) acc (by simp at h ⊢; omega)
    simpa using this

/-- one element put into a new block -/
theorem run_buildSlice_one {E size : Nat} {t : TypeId} {i : TypeInfo} {z : Value} (ht : P.underlying t = some (.slice E)) (hi : P.info? E = some i) (hz : i.zero = some z)
    (hsize : i.size = size) (hzs : z.cells.size = size) (h0 : 0 < size) (hlt : size ≤ 16777216) {v : Value} (hv : v.cells.size = size) (w : World) :
    (Instr.buildSlice t 1 #[(0, v)]).run P w = .ok (.slice (some ⟨w.heap.size, 0, none⟩) 1 1) (w.alloc (.cells v.cells E)) := by
  have hfold := fold_set v.cells.toList [] ((Array.range size).map (z.cells[· % z.cells.size]!)).toList (by simp [hv])
  simp only [List.length_nil, List.drop_zero, List.nil_append, Array.toArray_toList] at hfold
  have hle : ¬ size > 2 ^ 24 := by omega
  have hne : size ≠ 0 := by omega
  have hf : Instr.fill (fun i => some (i * size, size)) ((Array.range size).map (z.cells[· % z.cells.size]!)) [(0, v)] = some v.cells := by
    simp only [Instr.fill, Nat.zero_mul, Nat.zero_add]
    rw [if_neg (by simp [hv])]
    congr 1
    rw [← Array.foldl_toList]
    simpa using hfold
  simp only [Instr.buildSlice, Sem.run_bind, run_underlying ht, Result.andThen_ok, sizeOf, typeInfo, zeroValue, run_program, hi, hz, hsize, Sem.run_pure, Nat.one_mul, if_neg hle, if_neg hne, hf, newRow, run_newObj]
  rfl

/-- 's = append(s, x)': a block of one element, and the append -/
theorem hp_append1 {E : Nat} (size : Nat) {e : List Blk} (bytes : Nat) {t : TypeId} {i : TypeInfo} {z : Value} {o1 o2 : Oper} {x1 x2 : Operand} {s : Operand} {d1 : Tmp} {ops : Array Oper} {rest : List Oper} {a : Act} {Q : Exit → Act → World → Prop}
    {v : Value} {n : Nat} {xs : List Value} {u : Value} (H : HP S w0 w (e ++ L)) (hown : Own E size v n xs e)
    (hg1 : Region.wanted o1 (yielded ops a.tmps) = true) (hg2 : ∀ y, Region.wanted o2 (yielded ops (a.put (some d1) y).tmps) = true) (ho1 : o1.op = .buildSlice t 1 #[(0, x1)]) (hd1 : o1.dst = some d1)
    (ho2 : o2.op = .call { callee := .builtin .append, args := #[s, x2], argTypes := #[t, t] })
    (ht : P.underlying t = some (.slice E)) (hi : P.info? E = some i) (hz : i.zero = some z)
    (hsize : i.size = size) (hby : i.bytes = bytes) (hzs : z.cells.size = size) (h0 : 0 < size) (hlt : size ≤ 16777216)
    (hx1 : a.eval x1 = u) (hu : u.cells.size = size) (hu1 : u.cells.toList.all (·.oneCell') = true)
    (hs : ∀ y, (a.put (some d1) y).eval s = v) (hx2 : ∀ y, (a.put (some d1) y).eval x2 = y) (h63 : n + 1 ≤ maxLen) (hbytes : (n + 1) * bytes ≤ 140737488355328)
    (h : ∀ v' e' y w', Own E size v' (n + 1) (xs ++ u.cells.toList) e' → HP S w0 w' (e' ++ L) → wpList P ops Q rest ((a.put (some d1) y).put o2.dst v') w') : wpList P ops Q (o1 :: o2 :: rest) a w := by
  refine BigFrame.wpList_want hg1 fun _ hK => ?_
  unfold Oper.wp execOp
  simp only [ho1, List.map_toArray, List.map_cons, List.map_nil, hx1, Sem.run_bind, run_buildSlice_one ht hi hz hsize hzs h0 hlt hu, Result.andThen_ok, Sem.run_pure]
  refine hK _ _ (BigFrame.wpList_want (by rw [hd1]; exact hg2 _) fun _ hK2 => ?_)
  have H1 := H.alloc (.cells u.cells E)
  have HL : HP S w0 (w.alloc (.cells u.cells E)) (e ++ L) := H1.tail
  obtain ⟨v', w', e', hr, hown', H'⟩ := run_append_hp (P := P) (ty := o2.type) bytes ht hi hz hsize hby hzs HL hown ⟨w.heap.size, 0, none⟩ 1 1 u.cells.toList (by simp [hu])
    (fun j q hj => by
      have hadd : (⟨w.heap.size, 0, none⟩ : Addr).add j = ⟨w.heap.size, j, none⟩ := by unfold Addr.add; split <;> simp_all
      rw [hadd, cell_at H1 0 (q := true) (b := w.heap.size) (t := E) (fr := (0, 0)) rfl]
      simpa using hj) (List.all_eq_true.1 hu1) h63 hbytes
  unfold Oper.wp execOp
  simp only [ho2, hd1, resolve, invoke, builtin, Sem.run_bind, Sem.run_pure, Result.andThen_ok, List.map_toArray, List.map_cons, List.map_nil, hs, hx2, hr]
  exact hK2 _ _ (h _ _ _ _ hown' H')

end
end Go.Proofs.Ytlfoiemjjalnlaa
