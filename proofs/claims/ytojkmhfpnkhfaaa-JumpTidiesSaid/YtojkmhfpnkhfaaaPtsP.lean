/- The parts that the laws of chapter 13 are about, as a function; they are right. -/
import Derived.Test.YtojkmhfpnkhfaaaJnmP
namespace Go.Proofs.Ytojkmhfpnkhfaaa
open Go Go.RowKit
/-- a part in small numbers -/
structure SPt where
  kind : Int
  to : Int
  els : Int
  how : Int
  k : Int
  pad : Int
def SPt.cells (p : SPt) : List Value := [.int .u8 p.kind, .int .u8 p.to, .int .u8 p.els, .int .u8 p.how, .int .u8 p.k, .int .u16 p.pad]
structure SPt.ok (p : SPt) : Prop where
  kind : 0 ≤ p.kind ∧ p.kind < 256
  to : 0 ≤ p.to ∧ p.to < 256
  els : 0 ≤ p.els ∧ p.els < 256
  how : 0 ≤ p.how ∧ p.how < 256
  k : 0 ≤ p.k ∧ p.k < 256
  pad : 0 ≤ p.pad ∧ p.pad < 65536
def zI : Ins := ⟨0, 0, 0, 0⟩
def ifTo (p : SPt) (i : Nat) : Int := if p.kind % 2 ≠ 0 ∧ p.kind % 3 = 0 then 100 + i else 1 + p.to % 6
def ifOt (p : SPt) (i : Nat) : Int := if p.kind % 2 = 0 then 100 + i else 1 + p.els % 6
def ifCode (h : Int) : Int := if h % 4 = 0 then 21 else if h % 4 = 1 then 37 else if h % 4 = 2 then 53 else 69
def hd1 (p : SPt) (i : Nat) : List Prt :=
  if p.kind % 5 = 0 then [⟨2, 0, 0, ⟨32, 0, 0, p.k % 16 * 4⟩⟩]
  else if p.kind % 5 = 1 then [⟨4, 1 + p.to % 6, 0, zI⟩]
  else [⟨3, ifTo p i, ifOt p i, ⟨ifCode p.how, 0, 0, p.k % 4⟩⟩, ⟨1, 100 + i, 0, zI⟩]
def heads : List SPt → Nat → List Prt
  | [], _ => []
  | p :: r, i => hd1 p i ++ heads r (i + 1)
def mask : Prt := ⟨2, 0, 0, ⟨84, 0, 0, 255⟩⟩
def tl1 (pad n : Nat) : List Prt := List.replicate pad mask ++ ⟨1, (n : Int), 0, zI⟩ :: (if n % 2 = 0 then [⟨2, 0, 0, ⟨6, 0, 0, (n : Int)⟩⟩] else [])
/-- the places from one on to the one ahead of n -/
def tails (pad : Nat) : Nat → List Prt
  | 0 => []
  | n + 1 => tails pad n ++ tl1 pad (n + 1)
def ret9 : Prt := ⟨2, 0, 0, ⟨6, 0, 0, 9⟩⟩
def partsF (l : List SPt) (pad : Nat) : List Prt := heads (l.take 20) 0 ++ (tails pad 6 ++ [ret9])
theorem names_app (a b : List Prt) : names (a ++ b) = names a ++ names b := by
  induction a with
  | nil => rfl
  | cons p a ih =>
    rw [List.cons_append, names, names, ih]
    split <;> rfl
theorem names_mask (n : Nat) : names (List.replicate n mask) = [] := by
  induction n with
  | zero => rfl
  | succ n ih => rw [List.replicate_succ, names, if_neg (by decide), ih]
theorem names_tl1 (pad n : Nat) : names (tl1 pad n) = [(n : Int)] := by
  unfold tl1
  rw [names_app, names_mask, List.nil_append, names, if_pos rfl]
  split
  · rw [names, if_neg (by simp)]; rfl
  · rfl
theorem names_tails (pad : Nat) : names (tails pad 6 ++ [ret9]) = [1, 2, 3, 4, 5, 6] := by
  simp only [tails, names_app, names_tl1]
  rfl
theorem okP_mask {n : Nat} {r : List Prt} (h : okP r) : okP (List.replicate n mask ++ r) := by
  induction n with
  | zero => exact h
  | succ n ih => exact ⟨ih, .inr (.inl ⟨rfl, by decide⟩)⟩
theorem okP_tl1 {pad n : Nat} {r : List Prt} (h : okP r) (hn : (n : Int) ∉ names r) : okP (tl1 pad n ++ r) := by
  unfold tl1
  rw [List.append_assoc, List.cons_append]
  refine okP_mask ⟨?_, ?_⟩
  · split
    · exact ⟨h, .inr (.inl ⟨rfl, by simp⟩)⟩
    · exact h
  · refine .inl ⟨rfl, ?_⟩
    rw [names_app]
    split
    · rw [names, if_neg (by simp)]
      simpa [names] using hn
    · simpa [names] using hn
theorem okP_tails {pad : Nat} : okP (tails pad 6 ++ [ret9]) := by
  simp only [tails, List.append_assoc, List.nil_append]
  have h0 : okP [ret9] := ⟨trivial, .inr (.inl ⟨rfl, by decide⟩)⟩
  have n0 : names [ret9] = [] := rfl
  have s6 := okP_tl1 (pad := pad) (n := 5 + 1) h0 (by simp [n0])
  have n6 : names (tl1 pad (5 + 1) ++ [ret9]) = [6] := by rw [names_app, names_tl1, n0]; rfl
  have s5 := okP_tl1 (pad := pad) (n := 4 + 1) s6 (by rw [n6]; simp)
  have n5 : names (tl1 pad (4 + 1) ++ (tl1 pad (5 + 1) ++ [ret9])) = [5, 6] := by rw [names_app, names_tl1, n6]; rfl
  have s4 := okP_tl1 (pad := pad) (n := 3 + 1) s5 (by rw [n5]; simp)
  have n4 : names (tl1 pad (3 + 1) ++ (tl1 pad (4 + 1) ++ (tl1 pad (5 + 1) ++ [ret9]))) = [4, 5, 6] := by rw [names_app, names_tl1, n5]; rfl
  have s3 := okP_tl1 (pad := pad) (n := 2 + 1) s4 (by rw [n4]; simp)
  have n3 : names (tl1 pad (2 + 1) ++ (tl1 pad (3 + 1) ++ (tl1 pad (4 + 1) ++ (tl1 pad (5 + 1) ++ [ret9])))) = [3, 4, 5, 6] := by rw [names_app, names_tl1, n4]; rfl
  have s2 := okP_tl1 (pad := pad) (n := 1 + 1) s3 (by rw [n3]; simp)
  have n2 : names (tl1 pad (1 + 1) ++ (tl1 pad (2 + 1) ++ (tl1 pad (3 + 1) ++ (tl1 pad (4 + 1) ++ (tl1 pad (5 + 1) ++ [ret9]))))) = [2, 3, 4, 5, 6] := by rw [names_app, names_tl1, n3]; rfl
  exact okP_tl1 (pad := pad) (n := 0 + 1) s2 (by rw [n2]; simp)
theorem heads_ok {T : List Prt} (hT : okP T) (nT : names T = [1, 2, 3, 4, 5, 6]) (l : List SPt) (i : Nat) :
    okP (heads l i ++ T) ∧ (∀ x : Int, (1 ≤ x ∧ x ≤ 6) → x ∈ names (heads l i ++ T)) ∧ ∀ x ∈ names (heads l i ++ T), x ≤ 6 ∨ (100 + i : Int) ≤ x := by
  induction l generalizing i with
  | nil =>
    refine ⟨hT, ?_, ?_⟩
    · intro x hx
      show x ∈ names T
      rw [nT]
      simp only [List.mem_cons, List.not_mem_nil, or_false]
      omega
    · intro x hx
      have hx : x ∈ names T := hx
      rw [nT] at hx
      simp only [List.mem_cons, List.not_mem_nil, or_false] at hx
      omega
  | cons p r ih =>
    obtain ⟨h1, h2, h3⟩ := ih (i + 1)
    rw [heads, List.append_assoc]
    generalize heads r (i + 1) ++ T = R at *
    have hlow : ∀ x ∈ names R, x ≤ 6 ∨ (100 + i : Int) ≤ x := fun x hx => by have := h3 x hx; omega
    unfold hd1
    split
    · exact ⟨⟨h1, .inr (.inl ⟨rfl, by simp⟩)⟩, h2, hlow⟩
    split
    · exact ⟨⟨h1, .inr (.inr (.inl ⟨rfl, h2 (1 + p.to % 6) (by omega)⟩))⟩, h2, hlow⟩
    · have hon : (100 + i : Int) ∉ names R := fun hx => by have := h3 _ hx; omega
      have hN : names (⟨1, 100 + (i : Int), 0, zI⟩ :: R) = (100 + (i : Int)) :: names R := by rw [names, if_pos rfl]
      have hcode : ifCode p.how % 8 = 5 ∧ ifCode p.how ≠ 5 := by unfold ifCode; (repeat' split) <;> omega
      refine ⟨⟨⟨h1, .inl ⟨rfl, hon⟩⟩, .inr (.inr (.inr ⟨rfl, hcode.1, hcode.2, ?_, ?_⟩))⟩, ?_, ?_⟩
      · show ifTo p i ∈ names (⟨1, 100 + (i : Int), 0, zI⟩ :: R)
        rw [hN]
        unfold ifTo
        split
        · exact List.mem_cons_self ..
        · exact List.mem_cons_of_mem _ (h2 (1 + p.to % 6) (by omega))
      · show ifOt p i ∈ names (⟨1, 100 + (i : Int), 0, zI⟩ :: R)
        rw [hN]
        unfold ifOt
        split
        · exact List.mem_cons_self ..
        · exact List.mem_cons_of_mem _ (h2 (1 + p.els % 6) (by omega))
      · intro x hx
        show x ∈ names (⟨1, 100 + (i : Int), 0, zI⟩ :: R)
        rw [hN]
        exact List.mem_cons_of_mem _ (h2 x hx)
      · intro x hx
        have hx : x ∈ names (⟨1, 100 + (i : Int), 0, zI⟩ :: R) := hx
        rw [hN] at hx
        rcases List.mem_cons.1 hx with rfl | h
        · omega
        · exact hlow x h
theorem partsF_ok (l : List SPt) (pad : Nat) : okP (partsF l pad) := (heads_ok okP_tails (names_tails pad) _ 0).1
theorem hd1_len (p : SPt) (i : Nat) : (hd1 p i).length ≤ 2 := by unfold hd1; (repeat' split) <;> simp
theorem heads_len (l : List SPt) (i : Nat) : (heads l i).length ≤ 2 * l.length := by
  induction l generalizing i with
  | nil => simp [heads]
  | cons p r ih =>
    have := ih (i + 1)
    have := hd1_len p i
    rw [heads, List.length_append, List.length_cons]
    omega
theorem tl1_len (pad n : Nat) : (tl1 pad n).length ≤ pad + 2 := by unfold tl1; rw [List.length_append, List.length_replicate, List.length_cons]; split <;> simp
theorem partsF_len (l : List SPt) (pad : Nat) : (partsF l pad).length ≤ 53 + 6 * pad := by
  have h1 := heads_len (l.take 20) 0
  have h2 : (l.take 20).length ≤ 20 := by rw [List.length_take]; omega
  unfold partsF
  have t := fun n => tl1_len pad n
  have := t 1; have := t 2; have := t 3; have := t 4; have := t 5; have := t 6
  simp only [tails, List.length_append, List.length_nil, List.length_singleton, Nat.zero_add, Nat.reduceAdd]
  omega
end Go.Proofs.Ytojkmhfpnkhfaaa
