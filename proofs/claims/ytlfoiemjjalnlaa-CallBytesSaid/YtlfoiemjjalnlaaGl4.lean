/- Slices among the known blocks: read, grown; loops that keep what they do not turn. Conditions: each rule's own premises. -/
import Derived.Test.YtlfoiemjjalnlaaGl3
import Derived.Test.YtlfoiemjjalnlaaKit2
namespace Go.Proofs.Ytlfoiemjjalnlaa
open Go Go.RowKit

theorem HP.drop1 {S : List Nat} {w0 w : World} {L : List Blk} {x y : Blk} (H : HP S w0 w (x :: y :: L)) : HP S w0 w (x :: L) := H.sub (((List.Sublist.refl L).cons y).cons_cons x)
theorem HP.dropA {S : List Nat} {w0 w : World} {L : List Blk} {e : List Blk} (H : HP S w0 w (e ++ L)) : HP S w0 w L := H.sub (List.sublist_append_right _ _)

/-- a slice's place: its cells stand in a known block (or it is nil and has none) -/
def Sli (L : List Blk) (a : Option Addr) (len size : Nat) (cells : List Value) : Prop :=
  cells.length = len * size ∧ (len = 0 ∨
    ∃ (i : Nat) (q : Bool) (b off : Nat) (cs : Array Value) (T : TypeId) (fr : Nat × Nat), a = some ⟨b, off, none⟩ ∧ L[i]? = some ⟨q, b, .cells cs T fr⟩ ∧ off + len * size ≤ cs.size ∧ (cs.toList.drop off).take (len * size) = cells)

theorem Sli.nil (L : List Blk) (size : Nat) : Sli L none 0 size [] := ⟨by simp, .inl rfl⟩
theorem Sli.up {L : List Blk} {a : Option Addr} {len size : Nat} {cells : List Value} (h : Sli L a len size cells) (x : Blk) : Sli (x :: L) a len size cells := by
  refine ⟨h.1, h.2.imp id ?_⟩
  rintro ⟨i, q, b, off, cs, T, fr, h1, h2, h3, h4⟩
  exact ⟨i + 1, q, b, off, cs, T, fr, h1, h2, h3, h4⟩
theorem Sli.upA {L : List Blk} {a : Option Addr} {len size : Nat} {cells : List Value} (h : Sli L a len size cells) (e : List Blk) : Sli (e ++ L) a len size cells := by
  induction e with
  | nil => exact h
  | cons x e ih => exact ih.up x
theorem Sli.of {L : List Blk} {i : Nat} {q : Bool} {b off len size : Nat} {cs : Array Value} {T : TypeId} {fr : Nat × Nat} {cells : List Value} (hi : L[i]? = some ⟨q, b, .cells cs T fr⟩) (h1 : off + len * size ≤ cs.size) (h2 : (cs.toList.drop off).take (len * size) = cells) :
    Sli L (some ⟨b, off, none⟩) len size cells :=
  ⟨by rw [← h2]; simp; omega, .inr ⟨i, q, b, off, cs, T, fr, rfl, hi, h1, h2⟩⟩

theorem mul_block {k n size : Nat} (h : k < n) : k * size + size ≤ n * size := by
  have : (k + 1) * size ≤ n * size := Nat.mul_le_mul_right _ h
  rwa [Nat.add_mul, Nat.one_mul] at this

/-- an element of it -/
theorem Sli.elem {L : List Blk} {a : Option Addr} {len size : Nat} {cells : List Value} (h : Sli L a len size cells) {k : Nat} (hk : k < len) :
    ∃ (i : Nat) (q : Bool) (b off : Nat) (cs : Array Value) (T : TypeId) (fr : Nat × Nat), a = some ⟨b, off, none⟩ ∧ L[i]? = some ⟨q, b, .cells cs T fr⟩ ∧ off + k * size + size ≤ cs.size ∧ (cs.toList.drop (off + k * size)).take size = (cells.drop (k * size)).take size := by
  rcases h.2 with h0 | ⟨i, q, b, off, cs, T, fr, h1, h2, h3, h4⟩
  · omega
  · have hb := mul_block (size := size) hk
    refine ⟨i, q, b, off, cs, T, fr, h1, h2, by omega, ?_⟩
    rw [← h4, List.drop_take, List.drop_drop, List.take_take, Nat.min_eq_left (by omega)]

/-- an element of it, where each is one cell -/
theorem Sli.elem1 {L : List Blk} {a : Option Addr} {len : Nat} {cells : List Value} (h : Sli L a len 1 cells) {k : Nat} (hk : k < len) :
    ∃ (i : Nat) (q : Bool) (b off : Nat) (cs : Array Value) (T : TypeId) (fr : Nat × Nat), a = some ⟨b, off, none⟩ ∧ L[i]? = some ⟨q, b, .cells cs T fr⟩ ∧ off + k < cs.size ∧ cs.toList[off + k]? = cells[k]? := by
  obtain ⟨i, q, b, off, cs, T, fr, h1, h2, h3, h4⟩ := h.elem hk
  refine ⟨i, q, b, off, cs, T, fr, h1, h2, by omega, ?_⟩
  have := congrArg (fun l => l[0]?) h4
  simpa using this
theorem Sli.left {L : List Blk} {e : List Blk} {a : Option Addr} {len size : Nat} {cells : List Value} (h : Sli e a len size cells) : Sli (e ++ L) a len size cells := by
  refine ⟨h.1, h.2.imp id ?_⟩
  rintro ⟨i, q, b, off, cs, T, fr, h1, h2, h3, h4⟩
  refine ⟨i, q, b, off, cs, T, fr, h1, ?_, h3, h4⟩
  rw [List.getElem?_append_left]
  · exact h2
  · rcases Nat.lt_or_ge i e.length with h' | h'
    · exact h'
    · simp [List.getElem?_eq_none h'] at h2
theorem HP.swapA {S : List Nat} {w0 w : World} {L : List Blk} {e : List Blk} (M : List Blk) (H : HP S w0 w (e ++ (M ++ L))) : HP S w0 w (M ++ (e ++ L)) := by
  refine H.perm ?_
  rw [← List.append_assoc, ← List.append_assoc]
  exact List.Perm.append_right L List.perm_append_comm

theorem HP.swap1 {S : List Nat} {w0 w : World} {L : List Blk} {e : List Blk} {x : Blk} (H : HP S w0 w (e ++ x :: L)) : HP S w0 w (x :: (e ++ L)) := HP.swapA [x] H
theorem HP.swap2 {S : List Nat} {w0 w : World} {L : List Blk} {e : List Blk} {x y : Blk} (H : HP S w0 w (e ++ x :: y :: L)) : HP S w0 w (x :: y :: (e ++ L)) := HP.swapA [x, y] H
theorem HP.swap3 {S : List Nat} {w0 w : World} {L : List Blk} {e : List Blk} {x y z : Blk} (H : HP S w0 w (e ++ x :: y :: z :: L)) : HP S w0 w (x :: y :: z :: (e ++ L)) := HP.swapA [x, y, z] H

theorem Own.sli {E size : Nat} {v : Value} {n : Nat} {xs : List Value} {e : List Blk} (h : Own E size v n xs e) (L : List Blk) : ∃ a cap, v = .slice a n cap ∧ Sli (e ++ L) a n size xs := by
  obtain ⟨h0, h⟩ := h
  rcases h with ⟨rfl, rfl, rfl⟩ | ⟨g, cap, cur, rfl, rfl, h1, h2, h3, h4⟩
  · refine ⟨_, _, rfl, h0, .inl rfl⟩
  · refine ⟨_, _, rfl, h0, .inr ⟨0, _, g, 0, cur, E, _, rfl, rfl, ?_, by simpa using h4⟩⟩
    rw [h3, Nat.zero_add]; exact Nat.mul_le_mul_right _ h1

theorem Own.some {E size : Nat} {v : Value} {n : Nat} {xs : List Value} {e : List Blk} (h : Own E size v n xs e) (hn : 0 < n) :
    ∃ g cap cur, v = .slice (Option.some ⟨g, 0, none⟩) n cap ∧ e = [⟨true, g, .cells cur E (0, 0)⟩] ∧ n ≤ cap ∧ cap ≤ maxLen ∧ cur.size = cap * size ∧ cur.toList.take (n * size) = xs := by
  rcases h.2 with ⟨_, h0, _⟩ | ⟨g, cap, cur, h1, h2, h3, h4, h5, h6⟩
  · omega
  · exact ⟨g, cap, cur, h1, h2, h3, h4, h5, h6⟩
theorem fdA {x : Blk} {e L : List Blk} {i : Nat} (h : L[i]? = some x) : (e ++ L)[e.length + i]? = some x := by
  rw [List.getElem?_append_right (by omega)]; simpa using h

section
variable {P : Program} {n : Nat} {l : List (Nat × Value)} {S : List Nat} {w0 : World} {L : List Blk} {K : Act → World → Prop} {k : Kont} {ops : Array Oper} {d : Tmp} {ty : TypeId} {pos : String} {af : Array Edge}

/-- append to a slice of the call's own: elements out of a known block -/
theorem K1_append {E size bytes : Nat} {t tt : TypeId} {inf : TypeInfo} {z : Value} {s y : Operand} {v : Value} {m : Nat} {xs : List Value} {e L0 : List Blk} {i : Nat} {q : Bool} {b off cnt cap : Nat} {cs : Array Value} {T : TypeId} {fr : Nat × Nat} {news : List Value}
    (hd : Nat.blt d n = true) (ht : P.underlying t = some (.slice E)) (hi : P.info? E = some inf) (hz : inf.zero = some z) (hsize : inf.size = size) (hby : inf.bytes = bytes) (hzs : z.cells.size = size)
    (hs : ev l s = some v) (hy : ev l y = some (.slice (some ⟨b, off, none⟩) cnt cap)) (hown : Own E size v m xs e) (hb : L[i]? = some ⟨q, b, .cells cs T fr⟩) (hle : off + cnt * size ≤ cs.size) (hnews : (cs.toList.drop off).take (cnt * size) = news)
    (hone : news.all (·.oneCell') = true) (h63 : m + cnt ≤ maxLen) (hbytes : (m + cnt) * bytes ≤ 140737488355328) (hL : ∀ w, HP S w0 w L → HP S w0 w (e ++ L0)) (htt : tt = t) {mm : Nat} {xn : List Value} (hmm : m + cnt = mm) (hxn : xs ++ news = xn)
    (h : ∀ v' e', Own E size v' mm xn e' → G n ((d, v') :: l) S w0 (e' ++ L0) K) :
    G n l S w0 L (K1 P ops k ⟨some d, .call { callee := .builtin .append, args := #[s, y], argTypes := #[t, tt] }, ty, pos, af, none⟩ K) := .mk fun a w hf H => k1_want rfl <| by
    subst htt hmm hxn
    have hc : ∀ j u, news[j]? = some u → w.cell? ((⟨b, off, none⟩ : Addr).add j) = some u := by
      intro j u hj
      have hadd : (⟨b, off, none⟩ : Addr).add j = ⟨b, off + j, none⟩ := by unfold Addr.add; split <;> simp_all
      rw [hadd, cell_at H i hb]
      subst hnews
      rw [List.getElem?_take] at hj
      split at hj
      · simpa using hj
      · simp at hj
    obtain ⟨v', w', e', hr, hown', H'⟩ := run_append_hp (P := P) (ty := ty) bytes ht hi hz hsize hby hzs (hL w H) hown ⟨b, off, none⟩ cnt cap news (by subst hnews; simp; omega) hc (List.all_eq_true.1 hone) h63 hbytes
    unfold Oper.wp execOp
    simp only [resolve, invoke, builtin, Sem.run_bind, Sem.run_pure, Result.andThen_ok, List.map_toArray, List.map_cons, List.map_nil, hf.eval hs, hf.eval hy, hr]
    exact ((h v' e' hown').out _ _ (hf.put (some d) v' hd) H')

theorem erase_perm : ∀ {L : List Blk} {i : Nat} {x : Blk}, L[i]? = some x → L.Perm (x :: L.eraseIdx i)
  | [], i, x, h => by simp at h
  | y :: L, 0, x, h => by
    simp only [List.getElem?_cons_zero, Option.some.injEq] at h
    subst h; simp
  | y :: L, i + 1, x, h => by
    have := erase_perm (L := L) (i := i) (x := x) (by simpa using h)
    simp only [List.eraseIdx_cons_succ]
    exact (this.cons y).trans (List.Perm.swap x y _)
theorem HP.pick {S : List Nat} {w0 w : World} {L : List Blk} {i : Nat} {x : Blk} (H : HP S w0 w L) (h : L[i]? = some x) : HP S w0 w (x :: L.eraseIdx i) := H.perm (erase_perm h)
theorem HP.unpick {S : List Nat} {w0 w : World} {L : List Blk} {i : Nat} {x : Blk} (h : L[i]? = some x) (H : HP S w0 w (x :: L.eraseIdx i)) : HP S w0 w L := H.perm (erase_perm h).symm
/-- append to a slice whose own block is among the known ones -/
theorem K1_appendB {E size bytes : Nat} {t tt : TypeId} {inf : TypeInfo} {z : Value} {s y : Operand} {g m cp j : Nat} {cur : Array Value} {i : Nat} {q : Bool} {b off cnt cap : Nat} {cs : Array Value} {T : TypeId} {fr : Nat × Nat} {news : List Value}
    (hd : Nat.blt d n = true) (ht : P.underlying t = some (.slice E)) (hi : P.info? E = some inf) (hz : inf.zero = some z) (hsize : inf.size = size) (hby : inf.bytes = bytes) (hzs : z.cells.size = size)
    (hs : ev l s = some (.slice (some ⟨g, 0, none⟩) m cp)) (hy : ev l y = some (.slice (some ⟨b, off, none⟩) cnt cap)) (hown : L[j]? = some ⟨true, g, .cells cur E (0, 0)⟩) (hmc : m ≤ cp) (hcp : cp ≤ maxLen) (hcs : cur.size = cp * size)
    (hb : L[i]? = some ⟨q, b, .cells cs T fr⟩) (hle : off + cnt * size ≤ cs.size) (hnews : (cs.toList.drop off).take (cnt * size) = news)
    (hone : news.all (·.oneCell') = true) (h63 : m + cnt ≤ maxLen) (hbytes : (m + cnt) * bytes ≤ 140737488355328) (htt : tt = t) {mm : Nat} {xn : List Value} (hmm : m + cnt = mm) (hxn : cur.toList.take (m * size) ++ news = xn)
    (h : ∀ v' e', Own E size v' mm xn e' → G n ((d, v') :: l) S w0 (e' ++ L.eraseIdx j) K) :
    G n l S w0 L (K1 P ops k ⟨some d, .call { callee := .builtin .append, args := #[s, y], argTypes := #[t, tt] }, ty, pos, af, none⟩ K) :=
  K1_append hd ht hi hz hsize hby hzs hs hy (Own.of_block hmc hcp hcs) hb hle hnews hone h63 hbytes (fun _ H => H.pick hown) htt hmm hxn h

theorem Fn.at1 {F : FuncId} {args : Array Value} {R : Value → List Blk → Prop} {i : Nat} {x : Blk} (h : L[i]? = some x) (hc : Fn P F args S w0 (x :: L.eraseIdx i) R) : Fn P F args S w0 L R := .mk fun w H => hc.out w (H.pick h)
theorem Fn.at2 {F : FuncId} {args : Array Value} {R : Value → List Blk → Prop} {i j : Nat} {x y : Blk} (h : L[i]? = some x) (h2 : (L.eraseIdx i)[j]? = some y) (hc : Fn P F args S w0 (x :: y :: (L.eraseIdx i).eraseIdx j) R) : Fn P F args S w0 L R :=
  .mk fun w H => hc.out w ((H.pick h).perm ((erase_perm h2).cons x))
theorem Fn.at3 {F : FuncId} {args : Array Value} {R : Value → List Blk → Prop} {i j m : Nat} {x y z : Blk} (h : L[i]? = some x) (h2 : (L.eraseIdx i)[j]? = some y) (h3 : ((L.eraseIdx i).eraseIdx j)[m]? = some z) (hc : Fn P F args S w0 (x :: y :: z :: ((L.eraseIdx i).eraseIdx j).eraseIdx m) R) : Fn P F args S w0 L R :=
  Fn.at2 h h2 (.mk fun w H => hc.out w (H.perm (((erase_perm h3).cons y).cons x)))
/-- a loop: the slots ch turn, the slots kp stay -/
theorem G_loopk {γ : Type} {c : Code} (R : γ → Prop) (μ : γ → Nat) (ch : γ → List (Nat × Value)) (kp : List (Nat × Value)) (L' : γ → List Blk) (g0 : γ) (hk : Sub l kp) (hR : R g0) (hs : Sub l (ch g0)) (hL : ∀ w, HP S w0 w L → HP S w0 w (L' g0))
    (round : ∀ g, R g → G n (ch g ++ kp) S w0 (L' g) (KC P c (.cut (At n S w0 (fun g' => R g' ∧ μ g' < μ g) (fun g => ch g ++ kp) L') k))) :
    G n l S w0 L (KC P (.loop c) k) := by
  refine G_loop R μ (fun g => ch g ++ kp) L' g0 hR ?_ hL round
  have key : ∀ l1 : List (Nat × Value), Sub l l1 → Sub l (l1 ++ kp) := by
    intro l1
    induction l1 with
    | nil => intro _; exact hk
    | cons p l1 ih => intro h; exact ⟨h.1, ih h.2⟩
  exact key _ hs

/-- ways that meet again: the slots ch are told anew, the slots kp stay -/
theorem G_meetk {γ : Type} {c y : Code} (R : γ → Prop) (ch : γ → List (Nat × Value)) (kp : List (Nat × Value)) (L' : γ → List Blk) (_hk : Sub l kp)
    (h1 : G n l S w0 L (KC P c (.cut (At n S w0 R (fun g => ch g ++ kp) L') k))) (h2 : ∀ g, R g → G n (ch g ++ kp) S w0 (L' g) (KC P y k)) :
    G n l S w0 L (KC P c (.seq y k)) := G_meetat R (fun g => ch g ++ kp) L' h1 h2

/-- the walk is to stop here -/
structure Mark (p : Prop) : Prop where
  out : p
theorem G_stuck (h : Mark (G n l S w0 L K)) : G n l S w0 L K := h.out
theorem G_markb {id : Nat} {c : Code} (h : Mark (G n l S w0 L (KC P (.block id c) k))) : G n l S w0 L (KC P (.block id c) k) := h.out
theorem G_markr {id : Nat} {o : Array Oper} {q : Bool} (h : Mark (G n l S w0 L (KC P (.region id o q) k))) : G n l S w0 L (KC P (.region id o q) k) := h.out
theorem G_markc {t : Tmp} {c1 c2 : Code} (h : Mark (G n l S w0 L (KC P (.cond (.tmp t) c1 c2) k))) : G n l S w0 L (KC P (.cond (.tmp t) c1 c2) k) := h.out
end
end Go.Proofs.Ytlfoiemjjalnlaa
