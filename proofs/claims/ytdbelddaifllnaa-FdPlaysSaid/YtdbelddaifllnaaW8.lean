import Derived.Test.YtdbelddaifllnaaW6
import Derived.Test.YtdbelddaifllnaaKit4
namespace Go.Proofs.Ytdbelddaifllnaa
open Go Go.RowKit

theorem full_is {S : List Nat} {w0 w : World} {L : List Blk} (H : HP S w0 w L) {i0 b T : Nat} {q : Bool} {fr : Nat × Nat} {ps : List (Option Nat)} (hps : ps.length = 16)
    (ht : L[i0]? = some ⟨q, b, .cells (ptrs ps) T fr⟩) {x : Bool} (hx : (((lst ps 16).length : Int) == 16) = x) : Calls Try.prog 11 #[.pointer (some ⟨b, 0, none⟩)] w fun e w' => e = .returned (.bool x) ∧ HP S w0 w' L := by
  refine (full_some H hps ht).mono ?_
  rintro e w ⟨blk, rfl, H⟩
  rw [hx]
  exact ⟨rfl, H.sub (List.sublist_append_right _ _)⟩

set_option maxRecDepth 100000 in
theorem run_neq_open {cs : Array Value} (h : IsOpen cs.toList) {o : Oper} {a : Act} {x y : Operand} {t : TypeId} (ho : o.op = .binOp .neq 35 x y t) (hx : a.eval x = .agg cs) (hy : a.eval y = .agg cs) (w : World) :
    (execOp a.eval o).run Try.prog w = .ok (.value (.bool false)) w := by
  obtain ⟨k, m, i, tt, r, p, l, e, _⟩ := h
  have hc : cs = #[.int .u8 k, .int .i64 m, .int .u16 i, .int .i64 tt, .int .u16 r, .int .i64 p, .bool l] := Array.ext' e
  subst hc
  unfold execOp
  rw [ho]
  simp only [hx, hy]
  go_simp

theorem run_neq_zero {o : Oper} {a : Act} {x y : Operand} {t : TypeId} (ho : o.op = .binOp .neq 35 x y t) (hx : a.eval x = .agg zeroOpen) (hy : a.eval y = .agg zeroOpen) (w : World) :
    (execOp a.eval o).run Try.prog w = .ok (.value (.bool false)) w :=
  run_neq_open (cs := zeroOpen) ⟨0, 0, 0, 0, 0, 0, false, rfl, rfl, rfl, rfl, rfl, rfl, rfl⟩ ho hx hy w
theorem run_build_zero {o : Oper} {a : Act} (ho : o.op = .build 35 #[]) (w : World) :
    (execOp a.eval o).run Try.prog w = .ok (.value (.agg zeroOpen)) w := by
  unfold execOp
  rw [ho]
  go_simp
  rfl

/-! ### where things lie -/
theorem at_skip {α : Type} (A B : List α) (k : Nat) : (A ++ B)[A.length + k]? = B[k]? := by
  rw [List.getElem?_append_right (by omega)]; congr 1; omega
theorem at_ent {T : Tbl} {j x : Nat} {cs : Array Value} (h : T[j]? = some (some (x, cs))) (R : List Blk) : (T.ents ++ R)[entIdx T j]? = some (entOf x cs) := by
  have := ents_get h
  rw [List.getElem?_append_left (List.getElem?_eq_some_iff.1 this).1, this]
theorem ent_lt {T : Tbl} {j x : Nat} {cs : Array Value} (h : T[j]? = some (some (x, cs))) : entIdx T j < T.ents.length :=
  (List.getElem?_eq_some_iff.1 (ents_get h)).1
/-- behind a head A: the first table's entries -/
theorem at_T {T : Tbl} {j x : Nat} {cs : Array Value} (h : T[j]? = some (some (x, cs))) (A R : List Blk) (k : Nat) (hk : k = A.length + entIdx T j) : (A ++ (T.ents ++ R))[k]? = some (entOf x cs) := by
  subst hk; rw [at_skip, at_ent h]
/-- behind a head A: the second table's entries -/
theorem at_M {M : Tbl} {j x : Nat} {cs : Array Value} (h : M[j]? = some (some (x, cs))) (A E R : List Blk) (k : Nat) (hk : k = A.length + (E.length + entIdx M j)) : (A ++ (E ++ (M.ents ++ R)))[k]? = some (entOf x cs) := by
  subst hk; rw [at_skip, at_skip, at_ent h]
/-- behind a head A and two lists -/
theorem at_N {M : Tbl} {j x : Nat} {cs : Array Value} (h : M[j]? = some (some (x, cs))) (A C E R : List Blk) (k : Nat) (hk : k = A.length + (C.length + (E.length + entIdx M j))) : (A ++ (C ++ (E ++ (M.ents ++ R))))[k]? = some (entOf x cs) := by
  subst hk; rw [at_skip, at_skip, at_skip, at_ent h]

theorem set_skip {α : Type} (A B : List α) (k : Nat) (y : α) : (A ++ B).set (A.length + k) y = A ++ B.set k y := by
  rw [List.set_append, if_neg (by omega)]; congr 2; omega
theorem set_ent {T : Tbl} {j x : Nat} {cs : Array Value} (cs' : Array Value) (h : T[j]? = some (some (x, cs))) (R : List Blk) : (T.ents ++ R).set (entIdx T j) (entOf x cs') = Tbl.ents (T.set j (some (x, cs'))) ++ R := by
  rw [List.set_append, if_pos (ent_lt h), ents_set h]
theorem set_M {M : Tbl} {j x : Nat} {cs : Array Value} (cs' : Array Value) (h : M[j]? = some (some (x, cs))) (A E R : List Blk) (k : Nat) (hk : k = A.length + (E.length + entIdx M j)) :
    (A ++ (E ++ (M.ents ++ R))).set k (entOf x cs') = A ++ (E ++ (Tbl.ents (M.set j (some (x, cs'))) ++ R)) := by
  subst hk; rw [set_skip, set_skip, set_ent _ h]
theorem set_N {M : Tbl} {j x : Nat} {cs : Array Value} (cs' : Array Value) (h : M[j]? = some (some (x, cs))) (A C E R : List Blk) (k : Nat) (hk : k = A.length + (C.length + (E.length + entIdx M j))) :
    (A ++ (C ++ (E ++ (M.ents ++ R)))).set k (entOf x cs') = A ++ (C ++ (E ++ (Tbl.ents (M.set j (some (x, cs'))) ++ R))) := by
  subst hk; rw [set_skip, set_skip, set_skip, set_ent _ h]
theorem ps_same {T : Tbl} {j x : Nat} {cs : Array Value} (cs' : Array Value) (h : T[j]? = some (some (x, cs))) : Tbl.ps (T.set j (some (x, cs'))) = T.ps := by
  rw [ps_set]
  apply List.ext_getElem?
  intro i
  by_cases e : i = j
  · subst e
    have hl := (List.getElem?_eq_some_iff.1 h).1
    rw [List.getElem?_set_self (by simp [Tbl.ps]; exact hl)]
    simp [Tbl.ps, h]
  · rw [List.getElem?_set_ne (fun q => e q.symm)]

/-- the memory behind something that isn't open any more -/
theorem mem_drop {S : List Nat} {w0 w : World} {bm bt j : Nat} {M T : Tbl} {ro : List Blk} {s s' : Option (Nat × Array Value)} (hT : T[j]? = some s) (hM : M[j]? = some s')
    (H : HP S w0 w (⟨true, bm, .cells (ptrs (M.ps.set j none)) 25 (0, 0)⟩ :: ⟨true, bt, .cells (ptrs (T.ps.set j none)) 27 (0, 0)⟩ :: (T.ents ++ (M.ents ++ ro)))) :
    HP S w0 w (Mem bm bt (M.set j none) (T.set j none) ro) := by
  unfold Mem MB TB
  rw [ps_set, ps_set]
  exact H.sub (.cons_cons _ (.cons_cons _ ((ents_drop hT).append ((ents_drop hM).append (List.Sublist.refl _)))))

/-- nothing is open there -/
theorem get_none {S : List Nat} {w0 w : World} {L : List Blk} (H : HP S w0 w L) {i0 b T : Nat} {q : Bool} {fr : Nat × Nat} {ps : List (Option Nat)}
    (ht : L[i0]? = some ⟨q, b, .cells (ptrs ps) T fr⟩) (n : Int) (h : 16 ≤ n ∨ (0 ≤ n ∧ ps[n.toNat]? = some none)) : Calls Try.prog 13 #[.pointer (some ⟨b, 0, none⟩), .int .u64 n] w fun e w' => e = .returned (.pointer none) ∧ w = w' := by
  by_cases hn : 16 ≤ n
  · exact get_out b n w hn
  · rcases h with h | ⟨h0, h⟩
    · exact absurd h hn
    · obtain ⟨m, rfl⟩ := Int.eq_ofNat_of_zero_le h0
      exact get_in H ht m (by omega) h

/-- At is one more -/
def bump (cs : Array Value) (t : Int) : Array Value := cs.setIfInBounds 3 (.int .i64 (wrap64 (t + 1)))
theorem open_at {cs : Array Value} (h : IsOpen cs.toList) : ∃ t, cs[3]? = some (.int .i64 t) ∧ IsOpen (bump cs t).toList ∧ (bump cs t)[3]? = some (.int .i64 (wrap64 (t + 1))) := by
  obtain ⟨k, m, i, t, r, p, l, e, h1, h2, h3, h4, h5, h6⟩ := h
  have hc : cs = #[.int .u8 k, .int .i64 m, .int .u16 i, .int .i64 t, .int .u16 r, .int .i64 p, .bool l] := Array.ext' e
  subst hc
  refine ⟨t, rfl, ⟨k, m, i, wrap64 (t + 1), r, p, l, rfl, h1, h2, h3, ?_, h5, h6⟩, rfl⟩
  exact wrap64_wf _
end Go.Proofs.Ytdbelddaifllnaa
