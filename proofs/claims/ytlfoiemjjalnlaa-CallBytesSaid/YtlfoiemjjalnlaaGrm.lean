/- Ranges over maps, for the logic of walks: any order. Conditions: each rule's own premises. -/
import Derived.Test.YtlfoiemjjalnlaaGm
import Derived.Maps.RangeRun
namespace Go.Proofs.Ytlfoiemjjalnlaa
open Go Go.RowKit Go.ChangeMaps
/-- an iterator over a map from which nothing is taken and into which nothing is laid meanwhile: who has come -/
abbrev mitB (r b n : Nat) (seen : List Nat) : Blk := ⟨true, r, .mapIter (some b) n seen.toArray n⟩
theorem mkE_mem {kvs : List (Value × Value)} {e : MapEntry} {i : Nat} (h : e ∈ mkE kvs i) : ∃ q p, kvs[q]? = some p ∧ e = { key := p.1, val := p.2, born := i + q } := by
  induction kvs generalizing i with
  | nil => simp [mkE] at h
  | cons p r ih =>
    simp only [mkE, List.mem_cons] at h
    rcases h with rfl | h
    · exact ⟨0, p, rfl, rfl⟩
    · obtain ⟨q, p', h1, h2⟩ := ih h
      exact ⟨q + 1, p', h1, by rw [h2]; congr 1; omega⟩
theorem mkE_of {kvs : List (Value × Value)} {q : Nat} {p : Value × Value} (h : kvs[q]? = some p) (i : Nat) : ({ key := p.1, val := p.2, born := i + q } : MapEntry) ∈ mkE kvs i := List.mem_of_getElem? (mkE_get kvs i q p h)
theorem mkE_born (kvs : List (Value × Value)) (i : Nat) : (mkE kvs i).map (·.born) = List.range' i kvs.length := by
  induction kvs generalizing i with
  | nil => rfl
  | cons p r ih => simp only [mkE, List.map_cons, List.length_cons, List.range'_succ, ih]
theorem mkE_nodup (kvs : List (Value × Value)) (i : Nat) : ((mkE kvs i).map (·.born)).Nodup := by rw [mkE_born]; exact List.nodup_range'
theorem set_app {α : Type} (e L : List α) (k : Nat) (x : α) : (e ++ L).set (e.length + k) x = e ++ L.set k x := by
  rw [List.set_append_right _ _ (by omega), Nat.add_sub_cancel_left]
section
variable {P : Program} {n : Nat} {l : List (Nat × Value)} {S : List Nat} {w0 : World} {L : List Blk} {K : Act → World → Prop} {kt : Kont} {ops : Array Oper} {d : Tmp} {ty : TypeId} {pos : String} {af : Array Edge}
theorem K1_rangeMap {t k e : TypeId} {x : Operand} {i b : Nat} {kvs : List (Value × Value)} (hd : Nat.blt d n = true) (hx : ev l x = some (.map (some b))) (hi : L[i]? = some (mapB b kvs)) (ht : P.underlying t = some (.map k e))
    (h : ∀ nb, w0.heap.size ≤ nb → G n ((d, .pointer (some ⟨nb, 0, none⟩)) :: l) S w0 (mitB nb b kvs.length [] :: L) K) : G n l S w0 L (K1 P ops kt ⟨some d, .range t x, ty, pos, af, none⟩ K) := .mk fun a w hf H => k1_want rfl <| by
  have hat := H.at_ i hi
  unfold Oper.wp execOp
  simp only [hf.eval hx, Sem.run_bind, run_range_map w t k e b _ _ ht hat, Result.andThen_ok, Sem.run_pure]
  exact (h _ H.size).out _ _ (hf.put (some d) _ hd) (H.alloc _)
theorem K1_nextMap {x : Operand} {i j r b : Nat} {kvs : List (Value × Value)} {seen : List Nat} (hd : Nat.blt d n = true) (hx : ev l x = some (.pointer (some ⟨r, 0, none⟩))) (hi : L[i]? = some (mitB r b kvs.length seen)) (hj : L[j]? = some (mapB b kvs))
    (hDone : (∀ q, q < kvs.length → q ∈ seen) → G n ((d, .tuple #[.bool false]) :: l) S w0 L K)
    (hMore : ∀ q p, kvs[q]? = some p → q ∉ seen → G n ((d, .tuple #[.bool true, p.1, p.2]) :: l) S w0 (L.set i (mitB r b kvs.length (seen ++ [q]))) K) :
    G n l S w0 L (K1 P ops kt ⟨some d, .next x false, ty, pos, af, none⟩ K) := .mk fun a w hf H => k1_want rfl <| by
  have hr := H.at_ i hi
  have hb := H.at_ j hj
  have hlt : r < w.heap.size := H.lt i hi
  have hold : ∀ x ∈ (mkE kvs 0).toArray.toList, x.born < kvs.length := by
    intro x hx
    obtain ⟨q, p, h1, rfl⟩ := mkE_mem hx
    have := (List.getElem?_eq_some_iff.1 h1).1
    dsimp only; omega
  rcases run_next_at (P := P) w ty r b kvs.length kvs.length seen.toArray (mkE kvs 0).toArray kvs.length hr hb hold (Nat.le_refl _) with ⟨h0, hrun⟩ | ⟨e, he, w1, hal, hrun⟩
  · unfold Oper.wp execOp
    simp only [hf.eval hx, Sem.run_bind, hrun, Result.andThen_ok, Sem.run_pure]
    refine (hDone ?_).out _ _ (hf.put (some d) _ hd) H
    intro q hq
    by_cases hs : q ∈ seen
    · exact hs
    · exfalso
      have hp : kvs[q]? = some kvs[q] := List.getElem?_eq_getElem hq
      have hm := mkE_of hp 0
      rw [Nat.zero_add] at hm
      have : ({ key := kvs[q].1, val := kvs[q].2, born := q } : MapEntry) ∈ (leftOf (mkE kvs 0).toArray seen.toArray).toList := by
        unfold leftOf
        simp [hm, hs]
      have h1 := List.length_pos_of_mem this
      rw [Array.length_toList] at h1
      omega
  · have he2 : e ∈ mkE kvs 0 ∧ e.born ∉ seen := by
      unfold leftOf at he
      simp at he
      exact he
    obtain ⟨q, p, h1, rfl⟩ := mkE_mem he2.1
    rw [Nat.zero_add] at hrun he2
    have H1 : HP S w0 w1 L := by rcases hal with rfl | rfl; exact H; exact H.drew
    have hlt1 : r < w1.heap.size := H1.lt i hi
    have H2 := H1.turn i hi (setBlock w1 r (.mapIter (some b) kvs.length ((seen.toArray).push q) kvs.length)) (.mapIter (some b) kvs.length (seen ++ [q]).toArray kvs.length) rfl rfl rfl (by simp [setBlock]) (by simp [setBlock, hlt1])
      (fun k hk => by simp only [setBlock]; rw [Array.getElem?_setIfInBounds, if_neg (fun e => hk e.symm)])
    unfold Oper.wp execOp
    simp only [hf.eval hx, Sem.run_bind, hrun, Result.andThen_ok, Sem.run_pure]
    exact (hMore q p h1 he2.2).out _ _ (hf.put (some d) _ hd) H2
theorem E_entryMap {x : Operand} {i j r b q : Nat} {kvs : List (Value × Value)} {seen : List Nat} {p : Value × Value} (hx : ev l x = some (.pointer (some ⟨r, 0, none⟩))) (hi : L[i]? = some (mitB r b kvs.length (seen ++ [q]))) (hj : L[j]? = some (mapB b kvs)) (hq : kvs[q]? = some p) :
    ValOf P n l S w0 L ⟨some d, .entry x, ty, pos, af, none⟩ (.tuple #[p.1, p.2]) :=
  ⟨fun a w hF H => by
    have hr := H.at_ i hi
    have hb := H.at_ j hj
    have hm := mkE_of hq 0
    have hn : ((mkE kvs 0).toArray.toList.map (·.born)).Nodup := mkE_nodup kvs 0
    have hr' : w.heap[r]? = some (.mapIter (some b) kvs.length (seen.toArray.push ({ key := p.1, val := p.2, born := 0 + q } : MapEntry).born) kvs.length) := by rw [hr]; simp
    have := run_entry_at (P := P) w r b kvs.length seen.toArray (mkE kvs 0).toArray kvs.length _ hr' hb hm hn
    unfold execOp
    simp only [hF.eval hx, Sem.run_bind, this, Result.andThen_ok, Sem.run_pure]⟩
end
end Go.Proofs.Ytlfoiemjjalnlaa
