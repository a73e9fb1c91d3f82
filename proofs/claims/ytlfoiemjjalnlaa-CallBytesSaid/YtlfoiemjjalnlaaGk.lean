/- Append that keeps what stood there; append of nothing; texts that differ. Conditions: each rule's own premises. -/
import Derived.Test.YtlfoiemjjalnlaaGl8
namespace Go.Proofs.Ytlfoiemjjalnlaa
open Go Go.RowKit
theorem rb_streq_n {P : Program} {t : TypeId} {x y : ByteArray} (h : decide (x = y) = false) : RBin P .eql t (.string x) (.string y) (.bool false) := by
  have := rb_streq (P := P) (t := t) (x := x) (y := y)
  rwa [h] at this
theorem rb_strne_h {P : Program} {t : TypeId} {x y : ByteArray} (h : ¬ x = y) : RBin P .neq t (.string x) (.string y) (.bool true) := by
  have := rb_strne (P := P) (t := t) (x := x) (y := y)
  rwa [decide_eq_true h] at this
section
variable {P : Program} {n : Nat} {l : List (Nat × Value)} {S : List Nat} {w0 : World} {L : List Blk} {K : Act → World → Prop} {k : Kont} {ops : Array Oper} {d : Tmp} {ty : TypeId} {pos : String} {af : Array Edge}
theorem run_append_keep {w : World} {E size : Nat} (bytes : Nat) {t ty : TypeId} {i : TypeInfo} {z : Value} (ht : P.underlying t = some (.slice E)) (hi : P.info? E = some i) (hz : i.zero = some z)
    (hsize : i.size = size) (hby : i.bytes = bytes) (hzs : z.cells.size = size) (H : HP S w0 w L) {j g n cap : Nat} {cur : Array Value} (hj : L[j]? = some ⟨true, g, .cells cur E (0, 0)⟩) (hnc : n ≤ cap) (hcm : cap ≤ maxLen) (hcs : cur.size = cap * size)
    (a : Addr) (m c : Nat) (news : List Value) (hl : news.length = m * size) (hnews : ∀ j u, news[j]? = some u → w.cell? (a.add j) = some u) (h1 : ∀ u ∈ news, u.oneCell' = true)
    (h63 : n + m ≤ maxLen) (hbytes : (n + m) * bytes ≤ 140737488355328) :
    ∃ v' w', (Builtin.append_ #[t, t] ty #[.slice (some ⟨g, 0, none⟩) n cap, .slice (some a) m c]).run P w = .ok v' w' ∧
      ((∃ cur2 : Array Value, n + m ≤ cap ∧ cur2.size = cap * size ∧ cur2.toList.take ((n + m) * size) = cur.toList.take (n * size) ++ news ∧ cur2.toList.take (n * size) = cur.toList.take (n * size) ∧ v' = .slice (some ⟨g, 0, none⟩) (n + m) cap ∧ HP S w0 w' (L.set j ⟨true, g, .cells cur2 E (0, 0)⟩)) ∨
       (∃ (g' cap' : Nat) (cur' : Array Value), n + m ≤ cap' ∧ cap' ≤ maxLen ∧ cur'.size = cap' * size ∧ cur'.toList.take ((n + m) * size) = cur.toList.take (n * size) ++ news ∧ v' = .slice (some ⟨g', 0, none⟩) (n + m) cap' ∧ HP S w0 w' (⟨true, g', .cells cur' E (0, 0)⟩ :: L))) := by
  subst hsize
  subst hby
  have hsmall : n + m ≤ 9223372036854775807 := by simp only [maxLen] at h63; omega
  have hnle : n * i.size ≤ cur.size := by rw [hcs]; exact Nat.mul_le_mul_right _ hnc
  have htl : (cur.toList.take (n * i.size)).length = n * i.size := by simp; omega
  have hlen : (cur.toList.take (n * i.size) ++ news).length = (n + m) * i.size := by rw [List.length_append, htl, hl, Nat.add_mul]
  have hg : w.heap[g]? = some (.cells cur E (0, 0)) := H.at_ j hj
  by_cases hroom : n + m ≤ cap
  · have hfit : n * i.size + news.length ≤ cur.size := by rw [hl, hcs, ← Nat.add_mul]; exact Nat.mul_le_mul_right _ hroom
    have hr := run_append_room (P := P) w t ty E i ht hi g n cap cur hg a m c news hl hnews h1 hroom hfit
    have HT := H.turn j (o := .cells cur E (0, 0)) hj (w.setRow g (cur.toList.take (n * i.size) ++ news ++ cur.toList.drop (n * i.size + news.length)).toArray) _ rfl rfl rfl (size_setRow w g _)
      (setRow_heap w g cur _ E _ hg) (fun k hk => setRow_other w g k _ hk)
    refine ⟨_, _, hr, .inl ⟨_, hroom, ?_, ?_, ?_, rfl, HT⟩⟩
    · simp only [List.size_toArray, List.length_append, List.length_take, List.length_drop, Array.length_toList]
      omega
    · rw [← hlen]
      exact List.take_left
    · show List.take (n * i.size) (cur.toList.take (n * i.size) ++ news ++ cur.toList.drop (n * i.size + news.length)) = _
      rw [List.append_assoc]
      exact List.take_left' htl
  · have holds : ∀ q u, (cur.toList.take (n * i.size))[q]? = some u → w.cell? ((⟨g, 0, none⟩ : Addr).add q) = some u := by
      intro q u hq
      have hadd : (⟨g, 0, none⟩ : Addr).add q = ⟨g, q, none⟩ := by unfold Addr.add; split <;> simp_all
      rw [hadd, cell_of_row w g q cur E (0, 0) hg]
      rw [List.getElem?_take] at hq
      split at hq
      · simpa using hq
      · simp at hq
    have hr := run_append_grow (P := P) w t ty E i z ht hi hz ⟨g, 0, none⟩ n cap _ htl holds a m c news hl hnews (by omega) (by omega) (growslice_fits (by omega) hbytes)
    have hge := grownCap_ge w (n + m) cap E
    have hcm2 : grownCap w (n + m) cap E ≤ maxLen := grownCap_le_maxLen w (n + m) cap E h63
    refine ⟨_, _, hr, .inr ⟨w.heap.size, _, _, hge, hcm2, ?_, ?_, rfl, H.drew.alloc _⟩⟩
    · simp only [Array.size_append, List.size_toArray, size_zeroCells, hzs, htl, hl, ← Nat.add_mul]
      congr 1
      omega
    · simp only [Array.toList_append, List.append_assoc]
      rw [← List.append_assoc, ← hlen]
      exact List.take_left
/-- append to a slice whose own block is known: in place, or into a new block; what stood there stands there still -/
theorem K1_appendK {E size bytes : Nat} {t tt : TypeId} {inf : TypeInfo} {z : Value} {s y : Operand} {g m cp j : Nat} {cur : Array Value} {i : Nat} {q : Bool} {b off cnt cap : Nat} {cs : Array Value} {T : TypeId} {fr : Nat × Nat} {news : List Value}
    (hd : Nat.blt d n = true) (ht : P.underlying t = some (.slice E)) (hi : P.info? E = some inf) (hz : inf.zero = some z) (hsize : inf.size = size) (hby : inf.bytes = bytes) (hzs : z.cells.size = size)
    (hs : ev l s = some (.slice (some ⟨g, 0, none⟩) m cp)) (hy : ev l y = some (.slice (some ⟨b, off, none⟩) cnt cap)) (hown : L[j]? = some ⟨true, g, .cells cur E (0, 0)⟩) (hmc : m ≤ cp) (hcp : cp ≤ maxLen) (hcs : cur.size = cp * size)
    (hb : L[i]? = some ⟨q, b, .cells cs T fr⟩) (hle : off + cnt * size ≤ cs.size) (hnews : (cs.toList.drop off).take (cnt * size) = news)
    (hone : news.all (·.oneCell') = true) (h63 : m + cnt ≤ maxLen) (hbytes : (m + cnt) * bytes ≤ 140737488355328) (htt : tt = t) {mm : Nat} {xn : List Value} (hmm : m + cnt = mm) (hxn : cur.toList.take (m * size) ++ news = xn)
    (hA : ∀ cur2 : Array Value, mm ≤ cp → cur2.size = cp * size → cur2.toList.take (mm * size) = xn → cur2.toList.take (m * size) = cur.toList.take (m * size) → G n ((d, .slice (some ⟨g, 0, none⟩) mm cp) :: l) S w0 (L.set j ⟨true, g, .cells cur2 E (0, 0)⟩) K)
    (hB : ∀ (g' cap' : Nat) (cur' : Array Value), mm ≤ cap' → cap' ≤ maxLen → cur'.size = cap' * size → cur'.toList.take (mm * size) = xn → G n ((d, .slice (some ⟨g', 0, none⟩) mm cap') :: l) S w0 (⟨true, g', .cells cur' E (0, 0)⟩ :: L) K) :
    G n l S w0 L (K1 P ops k ⟨some d, .call { callee := .builtin .append, args := #[s, y], argTypes := #[t, tt] }, ty, pos, af, none⟩ K) := .mk fun a w hf H => k1_want rfl <| by
    subst htt hmm hxn
    have hc : ∀ j u, news[j]? = some u → w.cell? ((⟨b, off, none⟩ : Addr).add j) = some u := by
      intro j u hj
      have hadd : (⟨b, off, none⟩ : Addr).add j = ⟨b, off + j, none⟩ := by unfold Addr.add; split <;> simp_all
      rw [hadd, cell_at H i hb]
      subst hnews
      rw [List.getElem?_take] at hj
      split at hj
      · simpa using hj
      · simp at hj
    obtain ⟨v', w', hr, hcase⟩ := run_append_keep (P := P) (ty := ty) bytes ht hi hz hsize hby hzs H hown hmc hcp hcs ⟨b, off, none⟩ cnt cap news (by subst hnews; simp; omega) hc (List.all_eq_true.1 hone) h63 hbytes
    unfold Oper.wp execOp
    simp only [resolve, invoke, builtin, Sem.run_bind, Sem.run_pure, Result.andThen_ok, List.map_toArray, List.map_cons, List.map_nil, hf.eval hs, hf.eval hy, hr]
    rcases hcase with ⟨cur2, h1, h2, h3, h4, rfl, H'⟩ | ⟨g', cap', cur', h1, h2, h3, h4, rfl, H'⟩
    · exact ((hA cur2 h1 h2 h3 h4).out _ _ (hf.put (some d) _ hd) H')
    · exact ((hB g' cap' cur' h1 h2 h3 h4).out _ _ (hf.put (some d) _ hd) H')
/-- append of nothing -/
theorem K1_append0 {E : Nat} {t tt : TypeId} {inf : TypeInfo} {s y : Operand} {sa ya : Option Addr} {m cp cy : Nat}
    (hd : Nat.blt d n = true) (ht : P.underlying t = some (.slice E)) (hi : P.info? E = some inf) (hs : ev l s = some (.slice sa m cp)) (hy : ev l y = some (.slice ya 0 cy)) (hle : m ≤ cp) (htt : tt = t)
    (h : G n ((d, .slice sa m cp) :: l) S w0 L K) :
    G n l S w0 L (K1 P ops k ⟨some d, .call { callee := .builtin .append, args := #[s, y], argTypes := #[t, tt] }, ty, pos, af, none⟩ K) := .mk fun a w hf H => k1_want rfl <| by
    subst htt
    have hr : (Builtin.append_ #[tt, tt] ty #[.slice sa m cp, .slice ya 0 cy]).run P w = .ok (.slice sa m cp) w := by
      cases sa <;> cases ya <;> simp [Builtin.append_, run_underlying ht, sizeOf, typeInfo, hi, Builtin.lenOf, Builtin.firstCells, loadCells, loadCellsFrom, storeCells, hle]
    unfold Oper.wp execOp
    simp only [resolve, invoke, builtin, Sem.run_bind, Sem.run_pure, Result.andThen_ok, List.map_toArray, List.map_cons, List.map_nil, hf.eval hs, hf.eval hy, hr]
    exact (h.out _ _ (hf.put (some d) _ hd) H)
end
end Go.Proofs.Ytlfoiemjjalnlaa
