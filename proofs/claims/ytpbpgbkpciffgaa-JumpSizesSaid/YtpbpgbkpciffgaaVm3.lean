/- vm: the machine stays right; the run of a filter as a function. -/
import Derived.Test.YtpbpgbkpciffgaaVm2
namespace Go.Proofs.Ytpbpgbkpciffgaa
open Go Go.RowKit
theorem word_rng (r : Rec) (k : Int) : 0 ≤ word r k ∧ word r k < 4294967296 := by
  unfold word; split <;> omega
theorem ld_rng {m : Mch} {i : Ins} (hm : m.ok) (hi : i.ok) : 0 ≤ ld m i ∧ ld m i < 4294967296 := by
  unfold ld
  split
  · exact word_rng _ _
  · split
    · rw [List.getD_eq_getElem?_getD]
      cases h : m.sc[(i.k % 16).toNat]? with
      | none => simp
      | some x => exact hm.scr x (List.mem_of_getElem? h)
    · split
      · omega
      · exact hi.k
theorem red_ok {m : Mch} {i : Ins} (hm : m.ok) (hi : i.ok) : (red m i).ok := by
  have hb := other_rng hm hi
  have ha := hm.a
  have key : ∀ v : Int, (0 ≤ v ∧ v < 4294967296) → Mch.ok { m with a := v } := fun v h => ⟨h, hm.x, hm.sc, hm.scr, hm.rc, hm.pos, hm.act⟩
  have hor := ior_lt m.a (other m i) 32 ha hb
  have hxor := ixor_lt m.a (other m i) 32 ha hb
  have hand := iand_le m.a (other m i) ha.1
  have hdiv : 0 ≤ m.a / other m i ∧ m.a / other m i < 4294967296 := ⟨Int.ediv_nonneg ha.1 hb.1, by have := Int.ediv_le_self (other m i) ha.1; omega⟩
  have hsh : ∀ q : Nat, 0 ≤ m.a / 2 ^ q ∧ m.a / 2 ^ q < 4294967296 := fun q => ⟨Int.ediv_nonneg ha.1 (Int.le_of_lt (Int.pow_pos (by omega))), by have := Int.ediv_le_self (2 ^ q) ha.1; omega⟩
  unfold red
  dsimp only
  split; · exact key _ (by omega)
  split; · exact key _ (by omega)
  split; · exact key _ (by omega)
  split
  · split
    · exact ⟨hm.a, hm.x, hm.sc, hm.scr, hm.rc, hm.pos, hm.act⟩
    · exact key _ hdiv
  split; · exact key _ hor
  split; · exact key _ (by omega)
  split; · exact key _ hxor
  split; · exact key _ (by omega)
  split; · exact key _ (hsh _)
  split; · exact key _ (by omega)
  exact hm
theorem red_pos (m : Mch) (i : Ins) : (red m i).pos = m.pos := by
  unfold red
  dsimp only
  repeat' split
  all_goals rfl
theorem jmp_ok {m : Mch} {i : Ins} (hm : m.ok) (hi : i.ok) (hp : m.pos + 5000000000 < 9000000000000000000) : (jmp m i).ok := by
  have h1 := hm.pos
  have h2 := hi.k
  have h3 := hi.t
  have h4 := hi.f
  refine ⟨hm.a, hm.x, hm.sc, hm.scr, hm.rc, ?_, hm.act⟩
  unfold jmp
  dsimp only
  split
  · omega
  · split <;> omega
theorem stp_ok {m : Mch} {i : Ins} (hm : m.ok) (hi : i.ok) (hp : m.pos + 5000000000 < 9000000000000000000) : (stp m i).ok := by
  have hl := ld_rng hm hi
  have hset : ∀ v : Int, (0 ≤ v ∧ v < 4294967296) → ∀ k, Mch.ok { m with sc := m.sc.set k v } := fun v h k =>
    ⟨hm.a, hm.x, by show (m.sc.set k v).length = 16; rw [List.length_set, hm.sc], fun s hs => by
      rcases List.mem_or_eq_of_mem_set hs with h2 | rfl
      · exact hm.scr s h2
      · exact h, hm.rc, hm.pos, hm.act⟩
  unfold stp
  split; · exact ⟨hl, hm.x, hm.sc, hm.scr, hm.rc, hm.pos, hm.act⟩
  split; · exact ⟨hm.a, hl, hm.sc, hm.scr, hm.rc, hm.pos, hm.act⟩
  split; · exact hset _ hm.a _
  split; · exact hset _ hm.x _
  split; · exact red_ok hm hi
  split; · exact jmp_ok hm hi hp
  split
  · refine ⟨hm.a, hm.x, hm.sc, hm.scr, hm.rc, hm.pos, ?_⟩
    dsimp only
    split
    · exact hm.a
    · exact hi.k
  split
  · exact ⟨hm.a, hm.a, hm.sc, hm.scr, hm.rc, hm.pos, hm.act⟩
  · exact ⟨hm.x, hm.x, hm.sc, hm.scr, hm.rc, hm.pos, hm.act⟩
/-- the run from a state: fuel is the number of instructions -/
def runGo (l : List Ins) : Nat → Mch → Nat → Mch × Nat
  | 0, m, n => (m, n)
  | f + 1, m, n => if m.en = true ∨ (l.length : Int) ≤ m.pos then (m, n) else runGo l f (stp { m with pos := m.pos + 1 } (l.getD m.pos.toNat ⟨0, 0, 0, 0⟩)) (n + 1)
end Go.Proofs.Ytpbpgbkpciffgaa
