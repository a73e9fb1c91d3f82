/- Three operations of a drawn region may come up: each way. Conditions: each rule's own premises. -/
import Derived.Test.YtpdnigifoaoflaaDoorGl8
namespace Go.Proofs.YtpdnigifoaoflaaDoor
open Go Go.RowKit
section
variable {P : Program} {n : Nat} {l : List (Nat × Value)} {S : List Nat} {w0 : World} {L : List Blk} {k : Kont} {ops : Array Oper}
structure TagC (p : Prop) : Prop where
  out : p
theorem H_run3t {i j m fuel : Nat} {listed : Array Bool} {Lb : List Blk} {o o' o'' : Oper} (hi : ops[i]? = some o) (hj : ops[j]? = some o') (hm : ops[m]? = some o'') (hr : Region.ready .any ops listed = [i, j, m]) (h : TagA (G n l S w0 L (K1 P ops k o (KHS P S w0 Lb ops k fuel (listed.setIfInBounds i true)))))
    (h' : TagB (G n l S w0 L (K1 P ops k o' (KHS P S w0 Lb ops k fuel (listed.setIfInBounds j true))))) (h'' : TagC (G n l S w0 L (K1 P ops k o'' (KHS P S w0 Lb ops k fuel (listed.setIfInBounds m true))))) : G n l S w0 L (KH P S w0 Lb ops k (fuel + 1) listed) := .mk fun a w hF H => by
  refine ⟨wpAnyH_all hr (by simp) fun q hq => ?_⟩
  rcases (show q = i ∨ q = j ∨ q = m by simpa using hq) with rfl | rfl | rfl
  · have hh := (h.out.out a w hF H).out
    unfold wpOp
    simp only [hi]
    split
    · rename_i hw; rw [if_pos hw] at hh; exact .inl (Oper.wp_mono (fun _ _ h => ⟨h.out.1, h.out.2.out⟩) hh)
    · rename_i hw; rw [if_neg hw] at hh; exact ⟨hh.out.1, hh.out.2.out⟩
  · have hh := (h'.out.out a w hF H).out
    unfold wpOp
    simp only [hj]
    split
    · rename_i hw; rw [if_pos hw] at hh; exact .inl (Oper.wp_mono (fun _ _ h => ⟨h.out.1, h.out.2.out⟩) hh)
    · rename_i hw; rw [if_neg hw] at hh; exact ⟨hh.out.1, hh.out.2.out⟩
  · have hh := (h''.out.out a w hF H).out
    unfold wpOp
    simp only [hm]
    split
    · rename_i hw; rw [if_pos hw] at hh; exact .inl (Oper.wp_mono (fun _ _ h => ⟨h.out.1, h.out.2.out⟩) hh)
    · rename_i hw; rw [if_neg hw] at hh; exact ⟨hh.out.1, hh.out.2.out⟩
end
end Go.Proofs.YtpdnigifoaoflaaDoor
