/- Append of a text to bytes of the call's own. Conditions: each rule's own premises. -/
import Derived.Test.YtlfoiemjjalnlaaGl8
import Derived.Test.YtlfoiemjjalnlaaGb
namespace Go.Proofs.Ytlfoiemjjalnlaa
open Go Go.RowKit
/-- a text's bytes, as cells -/
def sBytes (s : ByteArray) : List Value := s.data.toList.map fun b => .int .u8 (b.toNat : Int)
theorem sBytes_len (s : ByteArray) : (sBytes s).length = s.size := by unfold sBytes; rw [List.length_map]; cases s; rfl
section
variable {P : Program} {n : Nat} {l : List (Nat × Value)} {S : List Nat} {w0 : World} {L : List Blk} {K : Act → World → Prop} {k : Kont} {ops : Array Oper} {d : Tmp} {ty : TypeId} {pos : String} {af : Array Edge}
theorem firstCells_str (s : ByteArray) (w : World) : (Builtin.firstCells 1 s.size (.string s)).run P w = .ok (sBytes s).toArray w := by
  simp only [Builtin.firstCells, Sem.run_pure]
  congr 1
  have hx : s.extract 0 s.size = s := by simp
  rw [hx]
  apply Array.ext'
  simp [sBytes]
theorem run_appS_room (w : World) (t u ty e : TypeId) (i : TypeInfo) (ht : P.underlying t = some (.slice e)) (hu : P.underlying u = some .string) (hi : P.info? e = some i) (h1 : i.size = 1)
    (g sLen sCap : Nat) (cur : Array Value) (hg : w.heap[g]? = some (.cells cur e (0, 0))) (s : ByteArray) (hroom : sLen + s.size ≤ sCap) (hfit : sLen + s.size ≤ cur.size) :
    (Builtin.append_ #[t, u] ty #[.slice (some ⟨g, 0, none⟩) sLen sCap, .string s]).run P w =
      .ok (.slice (some ⟨g, 0, none⟩) (sLen + s.size) sCap) (w.setRow g (cur.toList.take sLen ++ sBytes s ++ cur.toList.drop (sLen + s.size)).toArray) := by
  have hone : ∀ u ∈ sBytes s, u.oneCell' = true := by
    intro u hu
    unfold sBytes at hu
    obtain ⟨b, _, rfl⟩ := List.mem_map.1 hu
    exact oc_int
  have hf := firstCells_str (P := P) s w
  have hst := run_storeCells_at P g sLen e (sBytes s) 0 cur w hg (by simpa [sBytes_len] using hfit) hone
  simp only [Nat.add_zero, sBytes_len] at hst
  simp [Builtin.append_, run_underlying ht, run_underlying hu, sizeOf, typeInfo, hi, h1, Builtin.lenOf, hroom, hf, Addr.add_lit, hst]
theorem run_appS_grow (w : World) (t u ty e : TypeId) (i : TypeInfo) (z : Value) (ht : P.underlying t = some (.slice e)) (hu : P.underlying u = some .string) (hi : P.info? e = some i) (hz : i.zero = some z) (h1 : i.size = 1) (hb1 : i.bytes = 1)
    (b : Addr) (sLen sCap : Nat) (olds : List Value) (hlo : olds.length = sLen) (holds : ∀ j v, olds[j]? = some v → w.cell? (b.add j) = some v) (s : ByteArray)
    (hg : sCap < sLen + s.size) (h47 : sLen + s.size ≤ 140737488355328) :
    (Builtin.append_ #[t, u] ty #[.slice (some b) sLen sCap, .string s]).run P w =
      .ok (.slice (some ⟨w.heap.size, 0, none⟩) (sLen + s.size) (grownCap w (sLen + s.size) sCap e))
        (w.drew.alloc (.cells (olds.toArray ++ (sBytes s).toArray ++ Builtin.zeroCells z.cells (grownCap w (sLen + s.size) sCap e - (sLen + s.size))) e)) := by
  have hn : ¬ (sLen + s.size ≤ sCap) := by omega
  have h63' : ¬ (9223372036854775807 < ((sLen : Int) + (s.size : Int))) := by omega
  have hfit : Builtin.nextslicecap (sLen + s.size) sCap * 1 ≤ 281474976710656 := growslice_fits hg (by omega)
  have h48' : ¬ (281474976710656 < Builtin.nextslicecap (sLen + s.size) sCap) := by omega
  have hf := firstCells_str (P := P) s w.drew
  have hfo := run_firstCells_some (P := P) w.drew 1 sLen b sLen sCap olds (by omega) (by simpa using holds)
  simp [Builtin.append_, run_underlying ht, run_underlying hu, sizeOf, typeInfo, zeroValue, hi, hz, h1, hb1, Builtin.lenOf, hn, h63', h48', Question.forced, hf, hfo, newRow, grownCap]
  congr 2
  apply Array.ext'
  simp [List.append_assoc]
theorem K1_appendStr {E : Nat} {t tt : TypeId} {inf : TypeInfo} {z : Value} {s y : Operand} {v : Value} {m : Nat} {xs : List Value} {e L0 : List Blk} {str : ByteArray}
    (hd : Nat.blt d n = true) (ht : P.underlying t = some (.slice E)) (hu : P.underlying tt = some .string) (hi : P.info? E = some inf) (hz : inf.zero = some z) (hsize : inf.size = 1) (hby : inf.bytes = 1) (hzs : z.cells.size = 1)
    (hs : ev l s = some v) (hy : ev l y = some (.string str)) (hown : Own E 1 v m xs e) (hm : 0 < m) (h47 : m + str.size ≤ 140737488355328) (hL : ∀ w, HP S w0 w L → HP S w0 w (e ++ L0)) {mm : Nat} {xn : List Value} (hmm : m + str.size = mm) (hxn : xs ++ sBytes str = xn)
    (h : ∀ v' e', Own E 1 v' mm xn e' → G n ((d, v') :: l) S w0 (e' ++ L0) K) :
    G n l S w0 L (K1 P ops k ⟨some d, .call { callee := .builtin .append, args := #[s, y], argTypes := #[t, tt] }, ty, pos, af, none⟩ K) := .mk fun a w hf H => k1_want rfl <| by
  subst hmm hxn
  have H' := hL w H
  obtain ⟨g, cap, cur, rfl, rfl, hnc, hcm, hcs, htake⟩ := hown.some hm
  rw [Nat.mul_one] at hcs htake
  have hlen : (xs ++ sBytes str).length = (m + str.size) * 1 := by rw [List.length_append, hown.1, sBytes_len, Nat.mul_one, Nat.mul_one]
  have hgw : w.heap[g]? = some (.cells cur E (0, 0)) := H'.at_ 0 (p := ⟨true, g, .cells cur E (0, 0)⟩) rfl
  have HL : HP S w0 w L0 := H'.sub (List.sublist_append_right _ _)
  unfold Oper.wp execOp
  simp only [resolve, invoke, builtin, Sem.run_bind, Sem.run_pure, Result.andThen_ok, List.map_toArray, List.map_cons, List.map_nil, hf.eval hs, hf.eval hy]
  by_cases hroom : m + str.size ≤ cap
  · have hr := run_appS_room (P := P) w t tt ty E inf ht hu hi hsize g m cap cur hgw str hroom (by omega)
    rw [hr]
    have HT := H'.turn 0 (o := .cells cur E (0, 0)) rfl (w.setRow g (cur.toList.take m ++ sBytes str ++ cur.toList.drop (m + str.size)).toArray) _ rfl rfl rfl (size_setRow w g _)
      (setRow_heap w g cur _ E _ hgw) (fun k hk => setRow_other w g k _ hk)
    refine (h _ [⟨true, g, .cells (cur.toList.take m ++ sBytes str ++ cur.toList.drop (m + str.size)).toArray E (0, 0)⟩] ⟨hlen, .inr ⟨g, cap, _, rfl, rfl, hroom, hcm, ?_, ?_⟩⟩).out _ _ (hf.put (some d) _ hd) HT
    · simp only [List.size_toArray, List.length_append, List.length_take, List.length_drop, Array.length_toList, sBytes_len]
      omega
    · rw [htake, ← hlen]
      exact List.take_left
  · have holds : ∀ j u, xs[j]? = some u → w.cell? ((⟨g, 0, none⟩ : Addr).add j) = some u := by
      intro j u hj
      have hadd : (⟨g, 0, none⟩ : Addr).add j = ⟨g, j, none⟩ := by unfold Addr.add; split <;> simp_all
      rw [hadd, cell_of_row w g j cur E (0, 0) hgw]
      rw [← htake, List.getElem?_take] at hj
      split at hj
      · simpa using hj
      · simp at hj
    have hr := run_appS_grow (P := P) w t tt ty E inf z ht hu hi hz hsize hby ⟨g, 0, none⟩ m cap xs (by have := hown.1; omega) holds str (by omega) h47
    rw [hr]
    have hge := grownCap_ge w (m + str.size) cap E
    have hcm2 : grownCap w (m + str.size) cap E ≤ maxLen := grownCap_le_maxLen w (m + str.size) cap E (by unfold maxLen; omega)
    refine (h _ [⟨true, w.heap.size, .cells (xs.toArray ++ (sBytes str).toArray ++ Builtin.zeroCells z.cells (grownCap w (m + str.size) cap E - (m + str.size))) E (0, 0)⟩] ⟨hlen, .inr ⟨w.heap.size, _, _, rfl, rfl, hge, hcm2, ?_, ?_⟩⟩).out _ _ (hf.put (some d) _ hd) (HL.drew.alloc _)
    · have h9 := hown.1
      simp only [Array.size_append, List.size_toArray, size_zeroCells, hzs, h9, sBytes_len, Nat.mul_one]
      omega
    · simp only [Array.toList_append, List.append_assoc]
      rw [← List.append_assoc, ← hlen]
      exact List.take_left
theorem K1_appendStrB {E : Nat} {t tt : TypeId} {inf : TypeInfo} {z : Value} {s y : Operand} {g m cp j : Nat} {cur : Array Value} {str : ByteArray}
    (hd : Nat.blt d n = true) (ht : P.underlying t = some (.slice E)) (hu : P.underlying tt = some .string) (hi : P.info? E = some inf) (hz : inf.zero = some z) (hsize : inf.size = 1) (hby : inf.bytes = 1) (hzs : z.cells.size = 1)
    (hs : ev l s = some (.slice (some ⟨g, 0, none⟩) m cp)) (hy : ev l y = some (.string str)) (hown : L[j]? = some ⟨true, g, .cells cur E (0, 0)⟩) (hmc : m ≤ cp) (hcp : cp ≤ maxLen) (hcs : cur.size = cp * 1) (hm : 0 < m) (h47 : m + str.size ≤ 140737488355328)
    {mm : Nat} {xn : List Value} (hmm : m + str.size = mm) (hxn : cur.toList.take (m * 1) ++ sBytes str = xn)
    (h : ∀ v' e', Own E 1 v' mm xn e' → G n ((d, v') :: l) S w0 (e' ++ L.eraseIdx j) K) :
    G n l S w0 L (K1 P ops k ⟨some d, .call { callee := .builtin .append, args := #[s, y], argTypes := #[t, tt] }, ty, pos, af, none⟩ K) :=
  K1_appendStr hd ht hu hi hz hsize hby hzs hs hy (Own.of_block hmc hcp hcs) hm h47 (fun _ H => H.pick hown) hmm hxn h
end
end Go.Proofs.Ytlfoiemjjalnlaa
