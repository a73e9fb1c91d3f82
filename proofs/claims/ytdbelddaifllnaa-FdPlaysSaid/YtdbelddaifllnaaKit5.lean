/- Loops and cuts whose relations speak of the few slots that matter ('a.tmps.getD i undef'), whatever the frame's size. Conditions: each rule's own premises. -/
import Derived.Test.YtdbelddaifllnaaKit1
import Derived.Deep.LoopGhost
namespace Go.Proofs.Ytdbelddaifllnaa
open Go Go.RowKit

/-- a frame of n slots, nothing deferred -/
def Fr (n : Nat) (a : Act) : Prop := a.tmps.size = n ∧ a.defers = []
/-- slot i -/
def at' (a : Act) (i : Nat) : Value := a.tmps.getD i undef

theorem frame_out {n : Nat} {a : Act} (h : Fr n a) : ∃ t : Nat → Value, (∀ i, at' a i = t i) ∧ a = ⟨((List.range n).map t).toArray, []⟩ := by
  obtain ⟨tm, df⟩ := a
  obtain ⟨hs, hd⟩ := h
  simp only at hs hd
  subst hd
  refine ⟨fun i => tm.getD i undef, fun _ => rfl, ?_⟩
  congr 1
  apply Array.ext'
  apply List.ext_getElem?
  intro i
  by_cases hi : i < n
  · simp [hi, hs, Array.getD_eq_getD_getElem?, Array.getElem?_eq_getElem (show i < tm.size by omega)]
  · rw [List.getElem?_eq_none (by simp; omega), List.getElem?_eq_none (by simp; omega)]

/-- these slots hold these values -/
def Slots : List (Nat × Value) → Act → Prop
  | [], _ => True
  | p :: l, a => at' a p.1 = p.2 ∧ Slots l a

def look (l : List (Nat × Value)) (t : Nat → Value) (i : Nat) : Value :=
  match l with
  | [] => t i
  | p :: l => bif Nat.beq i p.1 then p.2 else look l t i

theorem look_slots {a : Act} : ∀ {l : List (Nat × Value)}, Slots l a → ∀ i, look l (at' a) i = at' a i
  | [], _, _ => rfl
  | p :: l, h, i => by
    unfold look
    cases hb : Nat.beq i p.1 with
    | true => rw [Nat.eq_of_beq_eq_true hb]; exact h.1.symm
    | false => exact look_slots h.2 i

/-- a state: a frame of n slots, some of them known, and known blocks -/
def St (n : Nat) (l : List (Nat × Value)) (S : List Nat) (w0 : World) (L : List Blk) (a : Act) (w : World) : Prop :=
  Fr n a ∧ Slots l a ∧ HP S w0 w L

theorem St.out {n : Nat} {l : List (Nat × Value)} {S : List Nat} {w0 : World} {L : List Blk} {a : Act} {w : World} (h : St n l S w0 L a w) :
    ∃ t : Nat → Value, a = ⟨((List.range n).map (look l t)).toArray, []⟩ ∧ HP S w0 w L := by
  obtain ⟨hf, hs, H⟩ := h
  obtain ⟨t, ht, ha⟩ := frame_out hf
  refine ⟨t, ?_, H⟩
  rw [ha]
  congr 2
  apply List.map_congr_left
  intro i _
  have e : at' a = t := funext ht
  rw [← e, look_slots hs i]

/-- ways that meet again -/
theorem wp_then_cut {P : Program} {c : Code} {K : Act → World → Prop} {Q : Exit → Act → World → Prop} {a : Act} {w : World} (R : Act → World → Prop)
    (h1 : c.wp P (Exit.then R Q) a w) (h2 : ∀ a w, R a w → K a w) : c.wp P (Exit.then K Q) a w :=
  wp_mono h1 fun e a w h => by cases e <;> first | exact h2 a w h | exact h

/-- a block whose ways out meet again -/
theorem wp_block_cut {P : Program} {c : Code} {id : Nat} {Q : Exit → Act → World → Prop} {a : Act} {w : World} (R : Act → World → Prop)
    (h1 : c.wp P (Exit.inBlock id (Exit.then R Q)) a w) (h2 : ∀ a w, R a w → Q .normal a w) : (Code.block id c).wp P Q a w :=
  wp_mono (wp_block h1) fun e a w h => by cases e <;> first | exact h2 a w h | exact h
end Go.Proofs.Ytdbelddaifllnaa
