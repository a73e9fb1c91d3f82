/- More rules: slicing, minus, drawn regions that change a block, contracts of a block that is not the first. -/
import Derived.Test.YtlfoiemjjalnlaaGl5
import Derived.Lib.Hide
namespace Go.Proofs.Ytlfoiemjjalnlaa
open Go Go.RowKit
/-- a contract of the first block is one of the second, the third -/
theorem Fn.swp {P : Program} {F : FuncId} {args : Array Value} {S : List Nat} {w0 : World} {X B B' : Blk} {L : List Blk} {Q : Value → Prop} (h : Fn P F args S w0 (B :: X :: L) fun v L' => Q v ∧ B' :: X :: L = L') : Fn P F args S w0 (X :: B :: L) fun v L' => Q v ∧ X :: B' :: L = L' :=
  .mk fun w H => (h.out w (HP.swapA (e := [X]) [B] H)).mono fun _ _ ⟨v, _, e, ⟨q, r⟩, H'⟩ => ⟨v, _, e, ⟨q, rfl⟩, HP.swapA (e := [B']) [X] (by subst r; exact H')⟩
theorem Fn.swp2 {P : Program} {F : FuncId} {args : Array Value} {S : List Nat} {w0 : World} {X Y B B' : Blk} {L : List Blk} {Q : Value → Prop} (h : Fn P F args S w0 (B :: X :: Y :: L) fun v L' => Q v ∧ B' :: X :: Y :: L = L') : Fn P F args S w0 (X :: Y :: B :: L) fun v L' => Q v ∧ X :: Y :: B' :: L = L' :=
  .mk fun w H => (h.out w (HP.swapA (e := [X, Y]) [B] H)).mono fun _ _ ⟨v, _, e, ⟨q, r⟩, H'⟩ => ⟨v, _, e, ⟨q, rfl⟩, HP.swapA (e := [B']) [X, Y] (by subst r; exact H')⟩
section
variable {P : Program} {n : Nat} {l : List (Nat × Value)} {S : List Nat} {w0 : World} {L : List Blk} {k : Kont}
/-- a drawn region that changes a block: the facts that hold throughout are of the others -/
theorem G_regionHb {i id m : Nat} {ops : List Oper} {Lb : List Blk} (hb : L.eraseIdx i = Lb) (hm : P.follows .mixedOrders = true) (hl : ops.length = m) (h : G n l S w0 L (KH P S w0 Lb ops.toArray k m (Array.replicate m false))) : G n l S w0 L (KC P (.region id ops.toArray true) k) := .mk fun a w hf H => by
  subst hl
  have _ := hb
  exact ⟨wp_region_held hm (by simpa using (h.out a _ hf H.drew).out)⟩
end
theorem ru_neg {P : Program} {k : IntKind} {a : Int} : RUn P .neg (.int k a) (.int k (k.wrap (-a))) := .mk fun w => by
  have e : 0 - a = -a := by omega
  simp [Op.unary, Op.intArith, e]
theorem wrap_u32 (a : Int) : IntKind.u32.wrap a = a % 4294967296 := rfl
theorem wrap_u64 (a : Int) : IntKind.u64.wrap a = a % 18446744073709551616 := rfl
theorem addr_add (bb off q : Nat) : (⟨bb, off, none⟩ : Addr).add q = ⟨bb, off + q, none⟩ := by unfold Addr.add; split <;> simp_all
section
variable {P : Program} {t : TypeId} {k : IntKind}
theorem r_sl_s01 {elem m bb off len cap h' : Nat} {hi : Int} (ht : P.underlying t = some (.slice elem)) (hm : (P.info? elem).map (·.size) = some m) (h0 : 0 ≤ hi) (h1 : hi ≤ cap) (hh : hi.toNat = h') :
    RSlc P t (.slice (some ⟨bb, off, none⟩) len cap) none (some (.int k hi)) none (.slice (some ⟨bb, off, none⟩) h' cap) := .mk fun w => by
  subst hh
  cases hi' : P.info? elem with
  | none => simp [hi'] at hm
  | some i =>
    simp [Instr.sliceAt, Instr.slice, Instr.sliceBounds, Instr.sliceBound, asIntOf, Sem.run_bind, run_underlying ht, h0, h1, sizeOf, typeInfo, hi', addr_add]
theorem r_sl_a10 {elem n m bb off off' n' : Nat} {lo : Int} (ht : P.underlying t = some (.array n elem)) (hm : (P.info? elem).map (·.size) = some m) (h0 : 0 ≤ lo) (h1 : lo < n) (ho : off + lo.toNat * m = off') (hn : n - lo.toNat = n') :
    RSlc P t (.pointer (some ⟨bb, off, none⟩)) (some (.int k lo)) none none (.slice (some ⟨bb, off', none⟩) n' n') := .mk fun w => by
  subst ho hn
  have hle : lo ≤ n := by omega
  have hne : n ≠ lo.toNat := by omega
  cases hi' : P.info? elem with
  | none => simp [hi'] at hm
  | some i =>
    have h2 : i.size = m := by simpa [hi'] using hm
    simp [Instr.sliceAt, Instr.sliceBounds, Instr.sliceBound, asIntOf, Sem.run_bind, run_underlying ht, h0, hle, hne, sizeOf, typeInfo, hi', h2, addr_add, Instr.sureAddr, asAddr]
end
end Go.Proofs.Ytlfoiemjjalnlaa
