/- Part 3 of what the last text of this claim leans on: rules of walks, contracts, plain facts. Conditions: those of each statement. -/
import Derived.WalkKit
import Derived.Deep.QuietTactic
import Derived.OrdersHeld
import Derived.Lib.Hide
import Derived.Laws.Strings
import Derived.Laws.BytesArg
import Derived.Test.YtecbgehooembmaaGreatDoorRows
import Derived.Shelf.Strings.OnBuilder
import Derived.Shelf.Small.Strs
import Derived.Shelf.Strings.Search1
import Derived.Shelf.Strings.Search2
import Derived.Shelf.Strings.Search3
import Derived.Shelf.Strings.Count
import Derived.Test.YtecbgehooembmaaGreatDoorProg
import Derived.MapKept
import Derived.Tactics
import Derived.Tactics2
import Derived.Defers
import Derived.Laws.Pointers
import Derived.Laws.LoneSync
import Derived.Laws.NewBlocks
import Derived.RegionTactic
import Derived.RegionCalls
import Derived.ChangeAlike
import Derived.Laws.RangeString
import Derived.Laws.RangeAny
import Derived.Lib.Builder
import Derived.Lib.UnsafeStr
import Derived.Laws.Externs
import Derived.ProofKit
import Derived.OpenShut
import Derived.ShutString
import Derived.ChangeOld
import Derived.Test.YtecbgehooembmaaGreatDoorCards
import Derived.Test.YtecbgehooembmaaGreatDoorTie
import Derived.SevenTiedAt
import Derived.Lay
import Derived.LaidOnce
import Derived.Test.YtecbgehooembmaaGreatDoorQa2
namespace Go.Proofs.YtecbgehooembmaaGreatDoor
open Go Go.RowKit
structure Cll where
  num : Int
  name : ByteArray
  args : Int
def Cll.cells (c : Cll) : List Value := [.int .u32 c.num, .string c.name, .int .i64 c.args]
def Cll.v (c : Cll) : Value := .agg #[.int .u32 c.num, .string c.name, .int .i64 c.args]
def clls : List Cll := [
  ⟨0, ⟨#[114, 101, 97, 100]⟩, 2⟩,
  ⟨1, ⟨#[119, 114, 105, 116, 101]⟩, 2⟩,
  ⟨2, ⟨#[111, 112, 101, 110]⟩, 2⟩,
  ⟨3, ⟨#[99, 108, 111, 115, 101]⟩, 1⟩,
  ⟨4, ⟨#[115, 116, 97, 116]⟩, 1⟩,
  ⟨8, ⟨#[115, 101, 101, 107]⟩, 2⟩,
  ⟨32, ⟨#[100, 117, 112]⟩, 1⟩,
  ⟨39, ⟨#[112, 105, 100]⟩, 0⟩,
  ⟨41, ⟨#[115, 111, 99, 107, 101, 116]⟩, 0⟩,
  ⟨42, ⟨#[99, 111, 110, 110, 101, 99, 116]⟩, 2⟩,
  ⟨49, ⟨#[98, 105, 110, 100]⟩, 2⟩,
  ⟨50, ⟨#[108, 105, 115, 116, 101, 110]⟩, 1⟩,
  ⟨57, ⟨#[102, 111, 114, 107]⟩, 0⟩,
  ⟨60, ⟨#[101, 120, 105, 116]⟩, 1⟩,
  ⟨77, ⟨#[116, 114, 117, 110, 99, 97, 116, 101]⟩, 2⟩,
  ⟨78, ⟨#[114, 101, 97, 100, 100, 105, 114]⟩, 1⟩,
  ⟨79, ⟨#[99, 119, 100]⟩, 0⟩,
  ⟨80, ⟨#[99, 104, 100, 105, 114]⟩, 1⟩,
  ⟨82, ⟨#[114, 101, 110, 97, 109, 101]⟩, 2⟩,
  ⟨83, ⟨#[109, 107, 100, 105, 114]⟩, 1⟩,
  ⟨84, ⟨#[114, 109, 100, 105, 114]⟩, 1⟩,
  ⟨86, ⟨#[108, 105, 110, 107]⟩, 2⟩,
  ⟨87, ⟨#[117, 110, 108, 105, 110, 107]⟩, 1⟩,
  ⟨88, ⟨#[115, 121, 109, 108, 105, 110, 107]⟩, 2⟩,
  ⟨89, ⟨#[114, 101, 97, 100, 108, 105, 110, 107]⟩, 1⟩,
  ⟨157, ⟨#[112, 114, 99, 116, 108]⟩, 1⟩,
  ⟨165, ⟨#[109, 111, 117, 110, 116]⟩, 2⟩,
  ⟨166, ⟨#[117, 109, 111, 117, 110, 116]⟩, 1⟩,
  ⟨317, ⟨#[115, 101, 99, 99, 111, 109, 112]⟩, 1⟩,
  ⟨446, ⟨#[114, 101, 115, 116, 114, 105, 99, 116]⟩, 1⟩]
theorem clls_len : clls.length = 30 := rfl
def flatN (l : List Cll) : List Value := l.flatMap Cll.cells
theorem flatN_len (l : List Cll) : (flatN l).length = l.length * 3 := by
  induction l with
  | nil => rfl
  | cons i l ih => simp only [flatN, List.flatMap_cons, List.length_append, List.length_cons] at ih ⊢; rw [ih]; simp only [Cll.cells, List.length_cons, List.length_nil]; omega
theorem flatN_at (l : List Cll) (k : Nat) (h : k < l.length) : ((flatN l).drop (k * 3)).take 3 = (l[k]).cells := by
  induction l generalizing k with
  | nil => simp at h
  | cons i l ih =>
    cases k with
    | zero => simp [flatN, Cll.cells]
    | succ k =>
      have := ih k (by simpa using h)
      rw [show (k + 1) * 3 = k * 3 + 3 by omega]
      simpa [flatN, Cll.cells] using this
def byName (l : List Cll) : List (Value × Value) := l.map fun c => (.string c.name, c.v)
def byNum (l : List Cll) : List (Value × Value) := l.map fun c => (.int .u32 c.num, c.v)
abbrev tbl0 (b : Nat) (a m : Int) : Blk := ⟨true, b, .cells [.int .u32 0, .int .i32 0, .int .u32 0, .map none, .map none, .int .i64 a, .int .i64 m].toArray 155 (0, 0)⟩
abbrev tbl1 (b m1 m2 : Nat) (a m : Int) : Blk := ⟨true, b, .cells [.int .u32 1, .int .i32 0, .int .u32 0, .map (some m1), .map (some m2), .int .i64 a, .int .i64 m].toArray 155 (0, 0)⟩
set_option maxRecDepth 100000 in
theorem new_c {S w0 L} : Fn Tryz.prog 20 #[] S w0 L fun v L' => ∃ b, v = .pointer (some ⟨b, 0, none⟩) ∧ tbl0 b 0 0 :: L = L' := by
  refine Fn0 Tryz.func20 Tryz.ntmps20 rfl ?_
  repeat' (first | refine G_seq ?_ | refine G_then_n ?_ | refine G_ret ?_ | (refine G_region (id := 0) ?_ <;> (try refine q_a ?_) <;> (try refine G_nil ?_)) | (refine G_region (id := 1) ?_ <;> (try refine q_e (by exact E_build (t := 155) (fun vs => (match vs with | [] => [Value.int .u32 0, Value.int .i32 0, Value.int .u32 0, Value.map none, Value.map none, Value.int .i64 0, Value.int .i64 0] | _ => [])) rfl (fun w => by kernel_rfl)) ?_; (try simp only [Value.cells]); (try simp only [List.cons_append]); (try simp only [List.nil_append])) <;> (try refine G_op1 ?_; (refine K1_box (t := 155) rfl rfl ?_; intro nb hnb; (try simp only [Value.cells]))) <;> (try refine q_a ?_) <;> (try refine G_nil ?_)))
  (refine G_done Tryz.results20 (.tmp rfl .nil) ?_)
  exact ⟨_, ⟨_, rfl, rfl⟩, fun _ H => H⟩
set_option maxRecDepth 100000 in
set_option maxHeartbeats 2000000 in
theorem all_c {S w0 L} : Fn Tryz.prog 103 #[] S w0 L fun v L' => ∃ b, v = .slice (some ⟨b, 0, none⟩) 30 30 ∧ ⟨true, b, .cells (flatN clls).toArray 116 (0, 0)⟩ :: L = L' := by
  refine Fn0 Tryz.func103 Tryz.ntmps103 rfl ?_
  repeat' (first | refine G_seq ?_ | refine G_then_n ?_ | refine G_ret ?_ | (refine G_region (id := 0) ?_ <;> (try refine q_a ?_) <;> (try refine G_nil ?_)) | (refine G_region (id := 1) ?_ <;> (try refine q_e (by exact E_build (t := 116) (fun vs => (match vs with | [(_, x0), (_, x1), (_, x2)] => [x0, x1, x2] | _ => [])) rfl (fun w => by kernel_rfl)) ?_; (try simp only [Value.cells]); (try simp only [List.cons_append]); (try simp only [List.nil_append])) <;> (try refine q_e (by exact E_build (t := 116) (fun vs => (match vs with | [(_, x0), (_, x1), (_, x2)] => [x0, x1, x2] | _ => [])) rfl (fun w => by kernel_rfl)) ?_; (try simp only [Value.cells]); (try simp only [List.cons_append]); (try simp only [List.nil_append])) <;> (try refine q_e (by exact E_build (t := 116) (fun vs => (match vs with | [(_, x0), (_, x1), (_, x2)] => [x0, x1, x2] | _ => [])) rfl (fun w => by kernel_rfl)) ?_; (try simp only [Value.cells]); (try simp only [List.cons_append]); (try simp only [List.nil_append])) <;> (try refine q_e (by exact E_build (t := 116) (fun vs => (match vs with | [(_, x0), (_, x1), (_, x2)] => [x0, x1, x2] | _ => [])) rfl (fun w => by kernel_rfl)) ?_; (try simp only [Value.cells]); (try simp only [List.cons_append]); (try simp only [List.nil_append])) <;> (try refine q_e (by exact E_build (t := 116) (fun vs => (match vs with | [(_, x0), (_, x1), (_, x2)] => [x0, x1, x2] | _ => [])) rfl (fun w => by kernel_rfl)) ?_; (try simp only [Value.cells]); (try simp only [List.cons_append]); (try simp only [List.nil_append])) <;> (try refine q_e (by exact E_build (t := 116) (fun vs => (match vs with | [(_, x0), (_, x1), (_, x2)] => [x0, x1, x2] | _ => [])) rfl (fun w => by kernel_rfl)) ?_; (try simp only [Value.cells]); (try simp only [List.cons_append]); (try simp only [List.nil_append])) <;> (try refine q_e (by exact E_build (t := 116) (fun vs => (match vs with | [(_, x0), (_, x1), (_, x2)] => [x0, x1, x2] | _ => [])) rfl (fun w => by kernel_rfl)) ?_; (try simp only [Value.cells]); (try simp only [List.cons_append]); (try simp only [List.nil_append])) <;> (try refine q_e (by exact E_build (t := 116) (fun vs => (match vs with | [(_, x0), (_, x1), (_, x2)] => [x0, x1, x2] | _ => [])) rfl (fun w => by kernel_rfl)) ?_; (try simp only [Value.cells]); (try simp only [List.cons_append]); (try simp only [List.nil_append])) <;> (try refine q_e (by exact E_build (t := 116) (fun vs => (match vs with | [(_, x0), (_, x1), (_, x2)] => [x0, x1, x2] | _ => [])) rfl (fun w => by kernel_rfl)) ?_; (try simp only [Value.cells]); (try simp only [List.cons_append]); (try simp only [List.nil_append])) <;> (try refine q_e (by exact E_build (t := 116) (fun vs => (match vs with | [(_, x0), (_, x1), (_, x2)] => [x0, x1, x2] | _ => [])) rfl (fun w => by kernel_rfl)) ?_; (try simp only [Value.cells]); (try simp only [List.cons_append]); (try simp only [List.nil_append])) <;> (try refine q_e (by exact E_build (t := 116) (fun vs => (match vs with | [(_, x0), (_, x1), (_, x2)] => [x0, x1, x2] | _ => [])) rfl (fun w => by kernel_rfl)) ?_; (try simp only [Value.cells]); (try simp only [List.cons_append]); (try simp only [List.nil_append])) <;> (try refine q_e (by exact E_build (t := 116) (fun vs => (match vs with | [(_, x0), (_, x1), (_, x2)] => [x0, x1, x2] | _ => [])) rfl (fun w => by kernel_rfl)) ?_; (try simp only [Value.cells]); (try simp only [List.cons_append]); (try simp only [List.nil_append])) <;> (try refine q_e (by exact E_build (t := 116) (fun vs => (match vs with | [(_, x0), (_, x1), (_, x2)] => [x0, x1, x2] | _ => [])) rfl (fun w => by kernel_rfl)) ?_; (try simp only [Value.cells]); (try simp only [List.cons_append]); (try simp only [List.nil_append])) <;> (try refine q_e (by exact E_build (t := 116) (fun vs => (match vs with | [(_, x0), (_, x1), (_, x2)] => [x0, x1, x2] | _ => [])) rfl (fun w => by kernel_rfl)) ?_; (try simp only [Value.cells]); (try simp only [List.cons_append]); (try simp only [List.nil_append])) <;> (try refine q_e (by exact E_build (t := 116) (fun vs => (match vs with | [(_, x0), (_, x1), (_, x2)] => [x0, x1, x2] | _ => [])) rfl (fun w => by kernel_rfl)) ?_; (try simp only [Value.cells]); (try simp only [List.cons_append]); (try simp only [List.nil_append])) <;> (try refine q_e (by exact E_build (t := 116) (fun vs => (match vs with | [(_, x0), (_, x1), (_, x2)] => [x0, x1, x2] | _ => [])) rfl (fun w => by kernel_rfl)) ?_; (try simp only [Value.cells]); (try simp only [List.cons_append]); (try simp only [List.nil_append])) <;> (try refine q_e (by exact E_build (t := 116) (fun vs => (match vs with | [(_, x0), (_, x1), (_, x2)] => [x0, x1, x2] | _ => [])) rfl (fun w => by kernel_rfl)) ?_; (try simp only [Value.cells]); (try simp only [List.cons_append]); (try simp only [List.nil_append])) <;> (try refine q_e (by exact E_build (t := 116) (fun vs => (match vs with | [(_, x0), (_, x1), (_, x2)] => [x0, x1, x2] | _ => [])) rfl (fun w => by kernel_rfl)) ?_; (try simp only [Value.cells]); (try simp only [List.cons_append]); (try simp only [List.nil_append])) <;> (try refine q_e (by exact E_build (t := 116) (fun vs => (match vs with | [(_, x0), (_, x1), (_, x2)] => [x0, x1, x2] | _ => [])) rfl (fun w => by kernel_rfl)) ?_; (try simp only [Value.cells]); (try simp only [List.cons_append]); (try simp only [List.nil_append])) <;> (try refine q_e (by exact E_build (t := 116) (fun vs => (match vs with | [(_, x0), (_, x1), (_, x2)] => [x0, x1, x2] | _ => [])) rfl (fun w => by kernel_rfl)) ?_; (try simp only [Value.cells]); (try simp only [List.cons_append]); (try simp only [List.nil_append])) <;> (try refine q_e (by exact E_build (t := 116) (fun vs => (match vs with | [(_, x0), (_, x1), (_, x2)] => [x0, x1, x2] | _ => [])) rfl (fun w => by kernel_rfl)) ?_; (try simp only [Value.cells]); (try simp only [List.cons_append]); (try simp only [List.nil_append])) <;> (try refine q_e (by exact E_build (t := 116) (fun vs => (match vs with | [(_, x0), (_, x1), (_, x2)] => [x0, x1, x2] | _ => [])) rfl (fun w => by kernel_rfl)) ?_; (try simp only [Value.cells]); (try simp only [List.cons_append]); (try simp only [List.nil_append])) <;> (try refine q_e (by exact E_build (t := 116) (fun vs => (match vs with | [(_, x0), (_, x1), (_, x2)] => [x0, x1, x2] | _ => [])) rfl (fun w => by kernel_rfl)) ?_; (try simp only [Value.cells]); (try simp only [List.cons_append]); (try simp only [List.nil_append])) <;> (try refine q_e (by exact E_build (t := 116) (fun vs => (match vs with | [(_, x0), (_, x1), (_, x2)] => [x0, x1, x2] | _ => [])) rfl (fun w => by kernel_rfl)) ?_; (try simp only [Value.cells]); (try simp only [List.cons_append]); (try simp only [List.nil_append])) <;> (try refine q_e (by exact E_build (t := 116) (fun vs => (match vs with | [(_, x0), (_, x1), (_, x2)] => [x0, x1, x2] | _ => [])) rfl (fun w => by kernel_rfl)) ?_; (try simp only [Value.cells]); (try simp only [List.cons_append]); (try simp only [List.nil_append])) <;> (try refine q_e (by exact E_build (t := 116) (fun vs => (match vs with | [(_, x0), (_, x1), (_, x2)] => [x0, x1, x2] | _ => [])) rfl (fun w => by kernel_rfl)) ?_; (try simp only [Value.cells]); (try simp only [List.cons_append]); (try simp only [List.nil_append])) <;> (try refine q_e (by exact E_build (t := 116) (fun vs => (match vs with | [(_, x0), (_, x1), (_, x2)] => [x0, x1, x2] | _ => [])) rfl (fun w => by kernel_rfl)) ?_; (try simp only [Value.cells]); (try simp only [List.cons_append]); (try simp only [List.nil_append])) <;> (try refine q_e (by exact E_build (t := 116) (fun vs => (match vs with | [(_, x0), (_, x1), (_, x2)] => [x0, x1, x2] | _ => [])) rfl (fun w => by kernel_rfl)) ?_; (try simp only [Value.cells]); (try simp only [List.cons_append]); (try simp only [List.nil_append])) <;> (try refine q_e (by exact E_build (t := 116) (fun vs => (match vs with | [(_, x0), (_, x1), (_, x2)] => [x0, x1, x2] | _ => [])) rfl (fun w => by kernel_rfl)) ?_; (try simp only [Value.cells]); (try simp only [List.cons_append]); (try simp only [List.nil_append])) <;> (try refine q_e (by exact E_build (t := 116) (fun vs => (match vs with | [(_, x0), (_, x1), (_, x2)] => [x0, x1, x2] | _ => [])) rfl (fun w => by kernel_rfl)) ?_; (try simp only [Value.cells]); (try simp only [List.cons_append]); (try simp only [List.nil_append])) <;> (try refine G_op1 ?_; (refine K1_buildSlice (t := 204) (m := 30) (e := 116) (fun vs => (match vs with | [(_, x0), (_, x1), (_, x2), (_, x3), (_, x4), (_, x5), (_, x6), (_, x7), (_, x8), (_, x9), (_, x10), (_, x11), (_, x12), (_, x13), (_, x14), (_, x15), (_, x16), (_, x17), (_, x18), (_, x19), (_, x20), (_, x21), (_, x22), (_, x23), (_, x24), (_, x25), (_, x26), (_, x27), (_, x28), (_, x29)] => x0.cells.toList ++ (x1.cells.toList ++ (x2.cells.toList ++ (x3.cells.toList ++ (x4.cells.toList ++ (x5.cells.toList ++ (x6.cells.toList ++ (x7.cells.toList ++ (x8.cells.toList ++ (x9.cells.toList ++ (x10.cells.toList ++ (x11.cells.toList ++ (x12.cells.toList ++ (x13.cells.toList ++ (x14.cells.toList ++ (x15.cells.toList ++ (x16.cells.toList ++ (x17.cells.toList ++ (x18.cells.toList ++ (x19.cells.toList ++ (x20.cells.toList ++ (x21.cells.toList ++ (x22.cells.toList ++ (x23.cells.toList ++ (x24.cells.toList ++ (x25.cells.toList ++ (x26.cells.toList ++ (x27.cells.toList ++ (x28.cells.toList ++ x29.cells.toList)))))))))))))))))))))))))))) | _ => [])) rfl rfl (fun w => by kernel_rfl) ?_; intro nb hnb; (try simp only [Value.cells]); (try simp only [List.cons_append]); (try simp only [List.nil_append]))) <;> (try refine q_a ?_) <;> (try refine G_nil ?_)))
  (refine G_done Tryz.results103 (.tmp rfl .nil) ?_)
  exact ⟨_, ⟨_, rfl, rfl⟩, fun _ H => H⟩
theorem fd_app_none {d : TypeDesc} {k : Value} {a : List (Value × Value)} {i : Nat} (h : ∀ p ∈ a, Instr.sameNow d k p.1 = some false) : fd d k a i = some none := by
  induction a generalizing i with
  | nil => rfl
  | cons p r ih =>
    simp only [fd, h p (by simp)]
    exact ih (fun q hq => h q (by simp [hq]))
theorem names_new : ∀ k : Fin 30, ∀ c ∈ clls.take k.val, (clls[k.val]'(by have := k.isLt; rw [clls_len]; exact this)).name ≠ c.name ∧ (clls[k.val]'(by have := k.isLt; rw [clls_len]; exact this)).num ≠ c.num := by decide +kernel
theorem fd_name {l : List Cll} {s : ByteArray} (h : ∀ c ∈ l, s ≠ c.name) : fd .string (.string s) (byName l) 0 = some none := by
  apply fd_app_none
  intro p hp
  obtain ⟨c, hc, rfl⟩ := List.mem_map.1 hp
  simp [Instr.sameNow, ba_beq, h c hc]
theorem fd_num {l : List Cll} {s : Int} (h : ∀ c ∈ l, s ≠ c.num) : fd (.int .u32) (.int .u32 s) (byNum l) 0 = some none := by
  apply fd_app_none
  intro p hp
  obtain ⟨c, hc, rfl⟩ := List.mem_map.1 hp
  simp [Instr.sameNow, h c hc]
set_option maxRecDepth 100000 in
set_option maxHeartbeats 1000000 in
theorem fill_c {S w0 L} (b : Nat) (sm a m : Int) (hm : 0 ≤ m ∧ m < 4000000000000000000) : Fn Tryz.prog 87 #[.pointer (some ⟨b, 0, none⟩)] S w0 (⟨true, b, .cells [.int .u32 0, .int .i32 1, .int .u32 sm, .map none, .map none, .int .i64 a, .int .i64 m].toArray 155 (0, 0)⟩ :: L)
    (OnceR 155 b 0 fun cs L2 => ∃ m1 m2, cs = [.int .u32 0, .int .i32 1, .int .u32 sm, .map (some m1), .map (some m2), .int .i64 a, .int .i64 (m + 1)] ∧ L2 = mapB m1 (byName clls) :: mapB m2 (byNum clls) :: L) := by
  have e1 : IntKind.i64.wrap (m + 1) = m + 1 := IntWalk.i64_in _ (by omega)
  refine Fn1 Tryz.func87 Tryz.ntmps87 rfl rfl ?_
  repeat' (first | (refine G_markb (id := 0) ?_) | refine G_seq ?_ | refine G_then_n ?_ | (refine G_region (id := 0) ?_ <;> (try refine q_m ?_) <;> (try refine q_m ?_) <;> (try refine G_op1 ?_; (refine K1_makeMap rfl ?_; intro nb hnb)) <;> (try refine G_op1 ?_; (refine K1_makeMap rfl ?_; intro nb hnb)) <;> (try refine q_n ?_) <;> (try refine q_e (q_f fo_155_1) ?_) <;> (try refine G_op1 ?_; (refine q_S ?_)) <;> (try refine q_n ?_) <;> (try refine q_e (q_f fo_155_2) ?_) <;> (try refine G_op1 ?_; (refine q_S ?_)) <;> (try refine G_nil ?_)) | (refine G_region (id := 1) ?_ <;> (try refine G_op1 ?_; (refine q_c 103 (c := by apply all_c) (h := ?_); rintro _ _ ⟨bs, rfl, rfl⟩; (try simp only [List.eraseIdx_cons_succ]); (try simp only [List.eraseIdx_cons_zero]))) <;> (try refine q_e (by apply E_builtin; exact rfl; exact (fun _ => BigFrame.builtin_len ..); apply r_len_slice_e Tryz.underlying204; exact c_19) ?_) <;> (try refine q_m ?_) <;> (try refine G_nil ?_)))
  refine ⟨?_⟩
  obtain ⟨m2, rfl⟩ : ∃ x, x = nb := ⟨_, rfl⟩
  obtain ⟨m1, rfl⟩ : ∃ x, x = nb := ⟨_, rfl⟩
  refine G_block ?_
  refine G_loopk (γ := Nat) (fun k => k ≤ 30) (fun k => 30 - k) (fun k => [(14, .int .i64 (k : Nat))]) [(0, _), (12, _), (13, _)]
    (fun k => ⟨true, b, .cells [.int .u32 0, .int .i32 1, .int .u32 sm, .map (some m1), .map (some m2), .int .i64 a, .int .i64 m].toArray 155 (0, 0)⟩ :: mapB m1 (byName (clls.take k)) :: mapB m2 (byNum (clls.take k)) :: ⟨true, bs, .cells (flatN clls).toArray 116 (0, 0)⟩ :: L)
    0 (.cons rfl (.cons rfl (.cons rfl .nil))) (Nat.zero_le _) (by (focus (repeat (first | exact Sub.nil | refine Sub.cons rfl ?_)))) ?_ ?_
  · intro w H
    exact (((H.pick (i := 3) rfl).perm (.cons _ (.cons _ (.swap _ _ _)))).perm (.cons _ (.swap _ _ _))).perm (.cons _ (.cons _ (.swap _ _ _)))
  intro k (hk : k ≤ 30)
  simp only [List.cons_append, List.nil_append]
  by_cases hlt : k < 30
  · have hx := flatN_at clls k hlt
    have hsz : k * 3 + 3 ≤ (flatN clls).toArray.size := by rw [List.size_toArray, flatN_len, clls_len]; omega
    have hnn := names_new ⟨k, hlt⟩
    have hs1 : clls.take (k + 1) = clls.take k ++ [clls[k]'(by rw [clls_len]; exact hlt)] := by rw [List.take_add_one, List.getElem?_eq_getElem]; rfl
    dsimp only at hnn
    generalize hc : clls[k]'(by rw [clls_len]; exact hlt) = c at *
    have hf1 := fd_name (l := clls.take k) (s := c.name) (fun q hq => (hnn q hq).1)
    have hf2 := fd_num (l := clls.take k) (s := c.num) (fun q hq => (hnn q hq).2)
    obtain ⟨num, name, args⟩ := c
    simp only [Cll.cells] at hx hf1 hf2
    have hs1' := Lib.hid hs1
    clear hs1 hnn hc
    repeat' (first | refine G_seq ?_ | refine G_then_n ?_ | refine G_cut_n ?_ | refine G_blk_n ?_ | refine G_block ?_ | refine G_skip ?_ | refine G_cond_t rfl ?_ | (refine G_region (id := 2) ?_ <;> (try refine q_e (q_b (r := by exact rb_lss_t q_o)) ?_) <;> (try refine G_nil ?_)) | (refine G_region (id := 3) ?_ <;> (try refine q_e (by apply E_indexAddr; exact rfl; exact rfl; (focus (apply r_ixs Tryz.underlying204 sz_116; omega; omega; exact c_1))) ?_) <;> (try refine q_e (by apply E_loadA (t := 116); exact rfl; exact c_29; kernel_rfl; kernel_rfl; exact sz_116; (with_reducible assumption); (with_reducible assumption)) ?_) <;> (try refine G_op1 ?_; (refine K1_alloc (t := 116) rfl Tryz.zeroValue116 ?_; intro nb hnb; (try simp only [Value.cells]))) <;> (try refine G_op1 ?_; (refine q_W ?_)) <;> (try refine G_nil ?_)) | ((apply G_regionHc (i := 2) (j := 2) (id := 4) (m := 20); exact c_11; kernel_rfl; exact rfl) <;> (try refine q_t 0 (e := c_3) (x := by exact E_move rfl) (h := ?_)) <;> (try refine q_t 1 (e := c_3) (x := by exact E_nilCheck rfl) (h := ?_)) <;> (try refine q_t 2 (e := c_3) (x := by exact q_f fo_155_1) (h := ?_)) <;> (try refine q_t 3 (e := c_3) (x := by exact q_l) (h := ?_)) <;> (try refine q_t 4 (e := c_3) (x := by exact q_f fo_116_1) (h := ?_)) <;> (try refine q_t 5 (e := c_3) (x := by exact q_l) (h := ?_)) <;> (try refine q_t 6 (e := c_3) (x := by exact E_move rfl) (h := ?_)) <;> (try refine q_t 7 (e := c_3) (x := by exact E_nilCheck rfl) (h := ?_)) <;> (try refine q_t 8 (e := c_3) (x := by exact q_f fo_155_2) (h := ?_)) <;> (try refine q_t 9 (e := c_3) (x := by exact q_l) (h := ?_)) <;> (try refine q_t 10 (e := c_3) (x := by exact q_f fo_116_0) (h := ?_)) <;> (try refine q_t 11 (e := c_3) (x := by exact q_l) (h := ?_)) <;> (try refine q_t 12 (e := c_3) (x := by exact q_L sz_116) (h := ?_)) <;> (try refine q_t 13 (e := c_3) (x := by exact q_L sz_116) (h := ?_)) <;> (try refine q_r 14 ?_; (apply K1_mapEntry; exact rfl; exact rfl; exact rfl; exact c_29; exact Tryz.underlying149; exact Tryz.underlying9; exact trivial; exact Tryz.zeroValue116; (with_reducible assumption); (try simp only [List.set_cons_succ]); (try simp only [List.set_cons_zero])); refine H_go c_3 ?_) <;> (try refine q_t 15 (e := c_3) (x := by exact E_extractL rfl rfl) (h := ?_)) <;> (try refine q_r 16 ?_; (apply K1_entryStoreL; exact rfl; exact rfl; exact rfl; exact c_29; (try simp only [List.set_cons_succ]); (try simp only [List.set_cons_zero])); refine H_go c_3 ?_) <;> (try refine q_r 17 ?_; (apply K1_mapEntry; exact rfl; exact rfl; exact rfl; exact c_29; exact Tryz.underlying150; exact Tryz.underlying28; exact rfl; exact Tryz.zeroValue116; (with_reducible assumption); (try simp only [List.set_cons_succ]); (try simp only [List.set_cons_zero])); refine H_go c_3 ?_) <;> (try refine q_t 18 (e := c_3) (x := by exact E_extractL rfl rfl) (h := ?_)) <;> (try refine q_r 19 ?_; (apply K1_entryStoreL; exact rfl; exact rfl; exact rfl; exact c_29; (try simp only [List.set_cons_succ]); (try simp only [List.set_cons_zero])); refine H_go c_3 ?_) <;> (try refine H_done (by kernel_rfl) ?_)) | (refine G_region (id := 5) ?_ <;> (try refine q_e (q_b (r := by apply rb_add; exact c_5; (focus (refine IntWalk.i64_in _ ?_; omega)))) ?_) <;> (try refine q_m ?_) <;> (try refine G_nil ?_)))
    refine G_meet (k + 1) ⟨by omega, by omega⟩ (by (focus (repeat (first | exact Sub.nil | refine Sub.cons rfl ?_)))) ?_
    have eb : byName (clls.take (k + 1)) = byName (clls.take k) ++ [(Value.string name, Value.agg #[.int .u32 num, .string name, .int .i64 args])] := by rw [hs1'.out, byName, List.map_append]; rfl
    have en : byNum (clls.take (k + 1)) = byNum (clls.take k) ++ [(Value.int .u32 num, Value.agg #[.int .u32 num, .string name, .int .i64 args])] := by rw [hs1'.out, byNum, List.map_append]; rfl
    rw [eb, en]
    exact fun _ H => H.tail
  · obtain rfl : k = 30 := by omega
    have ha1 := fun (L : List Blk) => aadd_c (S := S) (w0 := w0) (L := L) b 6 155 [.int .u32 0, .int .i32 1, .int .u32 sm, .map (some m1), .map (some m2), .int .i64 a, .int .i64 m] m 1 rfl
    simp only [e1, List.set_cons_succ, List.set_cons_zero] at ha1
    rw [show clls.take 30 = clls from List.take_of_length_le (Nat.le_refl _)]
    repeat' (first | refine G_seq ?_ | refine G_then_n ?_ | refine G_cut_x ?_ | refine G_then_x ?_ | refine G_blk_x ?_ | refine G_exit ?_ | refine G_cond_f rfl ?_ | (refine G_region (id := 2) ?_ <;> (try refine q_e (q_b (r := by exact rb_lss_f q_o)) ?_) <;> (try refine G_nil ?_)) | (refine G_region (id := 6) ?_ <;> (try refine q_m ?_) <;> (try refine q_n ?_) <;> (try refine q_e (q_f fo_155_4) ?_) <;> (try refine G_op1 ?_; (refine K1_call (F := 88) (by kernel_rfl) rfl rfl (ha1 _) ?_; rintro _ _ ⟨rfl, rfl⟩)) <;> (try refine G_nil ?_)))
    (first | refine G_done Tryz.results87 .nil ?_ | refine G_done_n Tryz.results87 .nil ?_)
    refine ⟨_, ⟨rfl, _, mapB m1 (byName clls) :: mapB m2 (byNum clls) :: L, ⟨m1, m2, rfl, rfl⟩, rfl, rfl, rfl⟩, by intro w H; refine H.sub ?_; (try simp only [List.cons_append, List.nil_append]); repeat (first | exact List.Sublist.refl _ | refine List.Sublist.cons_cons _ ?_ | refine List.Sublist.cons _ ?_)⟩
set_option maxRecDepth 100000 in
theorem ask0_c {S w0 L} (b : Nat) (a m : Int) (ha : 0 ≤ a ∧ a < 4000000000000000000) (hm : 0 ≤ m ∧ m < 4000000000000000000) : Fn Tryz.prog 60 #[.pointer (some ⟨b, 0, none⟩)] S w0 (tbl0 b a m :: L) fun v L' => ∃ m1 m2, v = .bool true ∧ tbl1 b m1 m2 (a + 1) (m + 1) :: mapB m1 (byName clls) :: mapB m2 (byNum clls) :: L = L' := by
  have e1 : IntKind.i64.wrap (a + 1) = a + 1 := IntWalk.i64_in _ (by omega)
  have hdo := do_first (S := S) (w0 := w0) (L := L) (T := 155) (b := b) (off := 0) (cs := [.int .u32 0, .int .i32 0, .int .u32 0, .map none, .map none, .int .i64 a, .int .i64 m]) rfl rfl (fill_c (L := L) b 0 a m hm)
  have ha1 := fun (L : List Blk) (m1 m2 : Nat) => aadd_c (S := S) (w0 := w0) (L := L) b 5 155 [.int .u32 1, .int .i32 0, .int .u32 0, .map (some m1), .map (some m2), .int .i64 a, .int .i64 (m + 1)] a 1 rfl
  simp only [e1, List.set_cons_succ, List.set_cons_zero] at ha1
  refine Fn1 Tryz.func60 Tryz.ntmps60 rfl rfl ?_
  repeat' (first | refine G_seq ?_ | refine G_then_n ?_ | refine G_skip ?_ | refine G_ret ?_ | refine G_cond_f rfl ?_ | (refine G_region (id := 0) ?_ <;> (try refine q_a ?_) <;> (try refine G_nil ?_)) | (refine G_region (id := 1) ?_ <;> (try refine q_m ?_) <;> (try refine q_e (q_b (r := by exact rb_peq_sn Tryz.underlying41)) ?_) <;> (try refine G_nil ?_)) | (refine G_region (id := 3) ?_ <;> (try refine q_m ?_) <;> (try refine q_n ?_) <;> (try refine q_e (q_f fo_155_0) ?_) <;> (try refine q_m ?_) <;> (try refine q_e (by apply E_makeFunc; exact rfl; exact rfl) ?_) <;> (try refine G_op1 ?_; (refine K1_call (F := 86) (by kernel_rfl) rfl rfl hdo ?_; rintro _ _ ⟨rfl, cs', L2, ⟨m1, m2, rfl, rfl⟩, rfl⟩; simp only [List.set_cons_zero, List.set_cons_succ, Nat.zero_add])) <;> (try refine G_nil ?_)) | (refine G_region (id := 4) ?_ <;> (try refine q_m ?_) <;> (try refine q_n ?_) <;> (try refine q_e (q_f fo_155_3) ?_) <;> (try refine G_op1 ?_; (refine K1_call (F := 88) (by kernel_rfl) rfl rfl (ha1 _ _ _) ?_; rintro _ _ ⟨rfl, rfl⟩)) <;> (try refine G_nil ?_)) | (refine G_region (id := 5) ?_ <;> (try refine q_a ?_) <;> (try refine G_nil ?_)))
  (refine G_done Tryz.results60 (.tmp rfl .nil) ?_)
  exact ⟨_, ⟨m1, m2, rfl, rfl⟩, fun _ H => H⟩
set_option maxRecDepth 100000 in
theorem ask1_c {S w0 L} (b m1 m2 : Nat) (a m : Int) (ha : 0 ≤ a ∧ a < 4000000000000000000) : Fn Tryz.prog 60 #[.pointer (some ⟨b, 0, none⟩)] S w0 (tbl1 b m1 m2 a m :: L) fun v L' => v = .bool true ∧ tbl1 b m1 m2 (a + 1) m :: L = L' := by
  have e1 : IntKind.i64.wrap (a + 1) = a + 1 := IntWalk.i64_in _ (by omega)
  have hdo := fun fv => do_done (S := S) (w0 := w0) (L := L) (T := 155) (b := b) (off := 0) (cs := [.int .u32 1, .int .i32 0, .int .u32 0, .map (some m1), .map (some m2), .int .i64 a, .int .i64 m]) (fv := fv) rfl
  have ha1 := fun (L : List Blk) => aadd_c (S := S) (w0 := w0) (L := L) b 5 155 [.int .u32 1, .int .i32 0, .int .u32 0, .map (some m1), .map (some m2), .int .i64 a, .int .i64 m] a 1 rfl
  simp only [e1, List.set_cons_succ, List.set_cons_zero] at ha1
  refine Fn1 Tryz.func60 Tryz.ntmps60 rfl rfl ?_
  repeat' (first | refine G_seq ?_ | refine G_then_n ?_ | refine G_skip ?_ | refine G_ret ?_ | refine G_cond_f rfl ?_ | (refine G_region (id := 0) ?_ <;> (try refine q_a ?_) <;> (try refine G_nil ?_)) | (refine G_region (id := 1) ?_ <;> (try refine q_m ?_) <;> (try refine q_e (q_b (r := by exact rb_peq_sn Tryz.underlying41)) ?_) <;> (try refine G_nil ?_)) | (refine G_region (id := 3) ?_ <;> (try refine q_m ?_) <;> (try refine q_n ?_) <;> (try refine q_e (q_f fo_155_0) ?_) <;> (try refine q_m ?_) <;> (try refine q_e (by apply E_makeFunc; exact rfl; exact rfl) ?_) <;> (try refine G_op1 ?_; (refine K1_call (F := 86) (by kernel_rfl) rfl rfl (hdo _) ?_; rintro _ _ ⟨rfl, rfl⟩)) <;> (try refine G_nil ?_)) | (refine G_region (id := 4) ?_ <;> (try refine q_m ?_) <;> (try refine q_n ?_) <;> (try refine q_e (q_f fo_155_3) ?_) <;> (try refine G_op1 ?_; (refine K1_call (F := 88) (by kernel_rfl) rfl rfl (ha1 _) ?_; rintro _ _ ⟨rfl, rfl⟩)) <;> (try refine G_nil ?_)) | (refine G_region (id := 5) ?_ <;> (try refine q_a ?_) <;> (try refine G_nil ?_)))
  (refine G_done Tryz.results60 (.tmp rfl .nil) ?_)
  exact ⟨_, ⟨rfl, rfl⟩, fun _ H => H⟩
def cllV : Option Cll → Value
  | some c => .agg #[.int .u32 c.num, .string c.name, .int .i64 c.args]
  | none => .agg #[.int .u32 0, .string ⟨#[]⟩, .int .i64 0]
def nameF (s : ByteArray) : List Cll → Option Cll
  | [] => none
  | c :: r => if s = c.name then some c else nameF s r
def cnumF (n : Int) : List Cll → Option Cll
  | [] => none
  | c :: r => if n = c.num then some c else cnumF n r
def zC : Value := .agg #[.int .u32 0, .string ⟨#[]⟩, .int .i64 0]
theorem fd_byName (s : ByteArray) (l : List Cll) (i : Nat) : ∃ r, fd .string (.string s) (byName l) i = some r ∧ found r zC = cllV (nameF s l) ∧ r.isSome = (nameF s l).isSome := by
  induction l generalizing i with
  | nil => exact ⟨none, rfl, rfl, rfl⟩
  | cons c r ih =>
    by_cases h : s = c.name
    · exact ⟨some (i, c.v), by simp [byName, fd, Instr.sameNow, ba_beq, h], by simp [nameF, h, found, cllV, Cll.v], by simp [nameF, h]⟩
    · obtain ⟨q, h1, h2, h3⟩ := ih (i + 1)
      exact ⟨q, by simpa [byName, fd, Instr.sameNow, ba_beq, h] using h1, by simpa [nameF, h] using h2, by simpa [nameF, h] using h3⟩
theorem fd_byNum (s : Int) (l : List Cll) (i : Nat) : ∃ r, fd (.int .u32) (.int .u32 s) (byNum l) i = some r ∧ found r zC = cllV (cnumF s l) ∧ r.isSome = (cnumF s l).isSome := by
  induction l generalizing i with
  | nil => exact ⟨none, rfl, rfl, rfl⟩
  | cons c r ih =>
    by_cases h : s = c.num
    · exact ⟨some (i, c.v), by simp [byNum, fd, Instr.sameNow, h], by simp [cnumF, h, found, cllV, Cll.v], by simp [cnumF, h]⟩
    · obtain ⟨q, h1, h2, h3⟩ := ih (i + 1)
      exact ⟨q, by
        have e : (s == c.num) = false := by simpa using h
        simpa [byNum, fd, Instr.sameNow, e] using h1, by simpa [cnumF, h] using h2, by simpa [cnumF, h] using h3⟩
theorem cllV_agg (o : Option Cll) : ∃ n s a, cllV o = .agg #[.int .u32 n, .string s, .int .i64 a] := by
  cases o with
  | none => exact ⟨_, _, _, rfl⟩
  | some c => exact ⟨_, _, _, rfl⟩
def gotV (o : Option Cll) : Value := tupleOf [cllV o, .bool o.isSome]
set_option maxRecDepth 100000 in
theorem named1_c {S w0 L} (b m1 m2 : Nat) (a m : Int) (ha : 0 ≤ a ∧ a < 4000000000000000000) (s : ByteArray) : Fn Tryz.prog 98 #[.pointer (some ⟨b, 0, none⟩), .string s] S w0 (tbl1 b m1 m2 a m :: mapB m1 (byName clls) :: mapB m2 (byNum clls) :: L) fun v L' => v = gotV (nameF s clls) ∧ tbl1 b m1 m2 (a + 1) m :: mapB m1 (byName clls) :: mapB m2 (byNum clls) :: L = L' := by
  have hk := fun (L : List Blk) => ask1_c (S := S) (w0 := w0) (L := L) b m1 m2 a m ha
  obtain ⟨r, hr, hv, hb⟩ := fd_byName s clls 0
  have hg : gotV (nameF s clls) = tupleOf [cllV (nameF s clls), .bool (nameF s clls).isSome] := rfl
  obtain ⟨cn, cs, ca, hc⟩ := cllV_agg (nameF s clls)
  rw [hg, hc]
  rw [hc] at hv
  generalize clls = cl at *
  generalize (nameF s cl).isSome = fb at *
  clear hg hc
  unfold zC at hv
  refine Fn2 Tryz.func98 Tryz.ntmps98 rfl rfl ?_
  repeat' (first | refine G_seq ?_ | refine G_then_n ?_ | refine G_skip ?_ | refine G_ret ?_ | refine G_cond_f rfl ?_ | (refine G_region (id := 0) ?_ <;> (try refine G_op1 ?_; (refine K1_alloc (t := 116) rfl Tryz.zeroValue116 ?_; intro nb hnb; (try simp only [Value.cells]))) <;> (try refine q_a ?_) <;> (try refine G_nil ?_)) | (refine G_region (id := 1) ?_ <;> (try refine q_m ?_) <;> (try refine G_op1 ?_; (refine K1_call (F := 60) (by kernel_rfl) rfl rfl ((hk _).swp) ?_; rintro _ _ ⟨rfl, rfl⟩)) <;> (try refine q_e (by apply E_un; exact rfl; exact ru_not_t) ?_) <;> (try refine G_nil ?_)) | (refine G_region (id := 3) ?_ <;> (try refine q_m ?_) <;> (try refine q_n ?_) <;> (try refine q_e (q_f fo_155_1) ?_) <;> (try refine q_e q_l ?_) <;> (try refine q_m ?_) <;> (try refine q_e (by apply E_lookup; exact rfl; exact rfl; exact c_29; exact Tryz.underlying149; exact Tryz.underlying9; exact trivial; exact Tryz.zeroValue116; (with_reducible assumption); (with_reducible assumption); (with_reducible assumption)) ?_) <;> (try refine q_m ?_) <;> (try refine q_x ?_) <;> (try refine q_x ?_) <;> (try refine G_op1 ?_; (refine K1_alloc (t := 116) rfl Tryz.zeroValue116 ?_; intro nb hnb; (try simp only [Value.cells]))) <;> (try refine G_op1 ?_; (refine q_W ?_)) <;> (try refine q_a ?_) <;> (try refine G_nil ?_)) | (refine G_region (id := 4) ?_ <;> (try refine q_e (q_L sz_116) ?_) <;> (try refine q_m ?_) <;> (try refine G_op1 ?_; (refine q_W ?_)) <;> (try refine q_a ?_) <;> (try refine G_nil ?_)))
  (apply G_done Tryz.results98; (focus (apply Res.agg; exact rfl; (focus (repeat (first | exact fd0 | (with_reducible assumption) | apply fdA | apply fdS))); kernel_rfl; kernel_rfl; exact c_16; exact sz_116; apply Res.tmp; exact rfl; exact Res.nil)))
  exact ⟨_, ⟨rfl, rfl⟩, by intro w H; refine H.sub ?_; (try simp only [List.cons_append, List.nil_append]); repeat (first | exact List.Sublist.refl _ | refine List.Sublist.cons _ ?_)⟩
set_option maxRecDepth 100000 in
theorem numbered1_c {S w0 L} (b m1 m2 : Nat) (a m : Int) (ha : 0 ≤ a ∧ a < 4000000000000000000) (s : Int) : Fn Tryz.prog 31 #[.pointer (some ⟨b, 0, none⟩), .int .u32 s] S w0 (tbl1 b m1 m2 a m :: mapB m1 (byName clls) :: mapB m2 (byNum clls) :: L) fun v L' => v = gotV (cnumF s clls) ∧ tbl1 b m1 m2 (a + 1) m :: mapB m1 (byName clls) :: mapB m2 (byNum clls) :: L = L' := by
  have hk := fun (L : List Blk) => ask1_c (S := S) (w0 := w0) (L := L) b m1 m2 a m ha
  obtain ⟨r, hr, hv, hb⟩ := fd_byNum s clls 0
  have hg : gotV (cnumF s clls) = tupleOf [cllV (cnumF s clls), .bool (cnumF s clls).isSome] := rfl
  obtain ⟨cn, cs, ca, hc⟩ := cllV_agg (cnumF s clls)
  rw [hg, hc]
  rw [hc] at hv
  generalize clls = cl at *
  generalize (cnumF s cl).isSome = fb at *
  clear hg hc
  unfold zC at hv
  refine Fn2 Tryz.func31 Tryz.ntmps31 rfl rfl ?_
  repeat' (first | refine G_seq ?_ | refine G_then_n ?_ | refine G_skip ?_ | refine G_ret ?_ | refine G_cond_f rfl ?_ | (refine G_region (id := 0) ?_ <;> (try refine G_op1 ?_; (refine K1_alloc (t := 116) rfl Tryz.zeroValue116 ?_; intro nb hnb; (try simp only [Value.cells]))) <;> (try refine q_a ?_) <;> (try refine G_nil ?_)) | (refine G_region (id := 1) ?_ <;> (try refine q_m ?_) <;> (try refine G_op1 ?_; (refine K1_call (F := 60) (by kernel_rfl) rfl rfl ((hk _).swp) ?_; rintro _ _ ⟨rfl, rfl⟩)) <;> (try refine q_e (by apply E_un; exact rfl; exact ru_not_t) ?_) <;> (try refine G_nil ?_)) | (refine G_region (id := 3) ?_ <;> (try refine q_m ?_) <;> (try refine q_n ?_) <;> (try refine q_e (q_f fo_155_2) ?_) <;> (try refine q_e q_l ?_) <;> (try refine q_m ?_) <;> (try refine q_e (by apply E_lookup; exact rfl; exact rfl; exact c_29; exact Tryz.underlying150; exact Tryz.underlying28; exact rfl; exact Tryz.zeroValue116; (with_reducible assumption); (with_reducible assumption); (with_reducible assumption)) ?_) <;> (try refine q_m ?_) <;> (try refine q_x ?_) <;> (try refine q_x ?_) <;> (try refine G_op1 ?_; (refine K1_alloc (t := 116) rfl Tryz.zeroValue116 ?_; intro nb hnb; (try simp only [Value.cells]))) <;> (try refine G_op1 ?_; (refine q_W ?_)) <;> (try refine q_a ?_) <;> (try refine G_nil ?_)) | (refine G_region (id := 4) ?_ <;> (try refine q_e (q_L sz_116) ?_) <;> (try refine q_m ?_) <;> (try refine G_op1 ?_; (refine q_W ?_)) <;> (try refine q_a ?_) <;> (try refine G_nil ?_)))
  (apply G_done Tryz.results31; (focus (apply Res.agg; exact rfl; (focus (repeat (first | exact fd0 | (with_reducible assumption) | apply fdA | apply fdS))); kernel_rfl; kernel_rfl; exact c_16; exact sz_116; apply Res.tmp; exact rfl; exact Res.nil)))
  exact ⟨_, ⟨rfl, rfl⟩, by intro w H; refine H.sub ?_; (try simp only [List.cons_append, List.nil_append]); repeat (first | exact List.Sublist.refl _ | refine List.Sublist.cons _ ?_)⟩
set_option maxRecDepth 100000 in
theorem named0_c {S w0 L} (b : Nat) (a m : Int) (ha : 0 ≤ a ∧ a < 4000000000000000000) (hm : 0 ≤ m ∧ m < 4000000000000000000) (s : ByteArray) : Fn Tryz.prog 98 #[.pointer (some ⟨b, 0, none⟩), .string s] S w0 (tbl0 b a m :: L) fun v L' => ∃ m1 m2, v = gotV (nameF s clls) ∧ tbl1 b m1 m2 (a + 1) (m + 1) :: mapB m1 (byName clls) :: mapB m2 (byNum clls) :: L = L' := by
  have hk := fun (L : List Blk) (i : Nat) (h1 : L[i]? = some (tbl0 b a m)) => Fn.at1 h1 (ask0_c (S := S) (w0 := w0) (L := L.eraseIdx i) b a m ha hm)
  obtain ⟨r, hr, hv, hb⟩ := fd_byName s clls 0
  have hg : gotV (nameF s clls) = tupleOf [cllV (nameF s clls), .bool (nameF s clls).isSome] := rfl
  obtain ⟨cn, cs, ca, hc⟩ := cllV_agg (nameF s clls)
  rw [hg, hc]
  rw [hc] at hv
  generalize clls = cl at *
  generalize (nameF s cl).isSome = fb at *
  clear hg hc
  unfold zC at hv
  refine Fn2 Tryz.func98 Tryz.ntmps98 rfl rfl ?_
  repeat' (first | refine G_seq ?_ | refine G_then_n ?_ | refine G_skip ?_ | refine G_ret ?_ | refine G_cond_f rfl ?_ | (refine G_region (id := 0) ?_ <;> (try refine G_op1 ?_; (refine K1_alloc (t := 116) rfl Tryz.zeroValue116 ?_; intro nb hnb; (try simp only [Value.cells]))) <;> (try refine q_a ?_) <;> (try refine G_nil ?_)) | (refine G_region (id := 1) ?_ <;> (try refine q_m ?_) <;> (try refine G_op1 ?_; (refine q_c 60 (c := by apply hk; exact c_9) (h := ?_); rintro _ _ ⟨m1, m2, rfl, rfl⟩; (try simp only [List.eraseIdx_cons_succ]); (try simp only [List.eraseIdx_cons_zero]))) <;> (try refine q_e (by apply E_un; exact rfl; exact ru_not_t) ?_) <;> (try refine G_nil ?_)) | (refine G_region (id := 3) ?_ <;> (try refine q_m ?_) <;> (try refine q_n ?_) <;> (try refine q_e (q_f fo_155_1) ?_) <;> (try refine q_e q_l ?_) <;> (try refine q_m ?_) <;> (try refine q_e (by apply E_lookup; exact rfl; exact rfl; exact c_29; exact Tryz.underlying149; exact Tryz.underlying9; exact trivial; exact Tryz.zeroValue116; (with_reducible assumption); (with_reducible assumption); (with_reducible assumption)) ?_) <;> (try refine q_m ?_) <;> (try refine q_x ?_) <;> (try refine q_x ?_) <;> (try refine G_op1 ?_; (refine K1_alloc (t := 116) rfl Tryz.zeroValue116 ?_; intro nb hnb; (try simp only [Value.cells]))) <;> (try refine G_op1 ?_; (refine q_W ?_)) <;> (try refine q_a ?_) <;> (try refine G_nil ?_)) | (refine G_region (id := 4) ?_ <;> (try refine q_e (q_L sz_116) ?_) <;> (try refine q_m ?_) <;> (try refine G_op1 ?_; (refine q_W ?_)) <;> (try refine q_a ?_) <;> (try refine G_nil ?_)))
  (apply G_done Tryz.results98; (focus (apply Res.agg; exact rfl; (focus (repeat (first | exact fd0 | (with_reducible assumption) | apply fdA | apply fdS))); kernel_rfl; kernel_rfl; exact c_16; exact sz_116; apply Res.tmp; exact rfl; exact Res.nil)))
  exact ⟨_, ⟨m1, m2, rfl, rfl⟩, by intro w H; refine H.sub ?_; (try simp only [List.cons_append, List.nil_append]); repeat (first | exact List.Sublist.refl _ | refine List.Sublist.cons_cons _ ?_ | refine List.Sublist.cons _ ?_)⟩
set_option maxRecDepth 100000 in
theorem numbered0_c {S w0 L} (b : Nat) (a m : Int) (ha : 0 ≤ a ∧ a < 4000000000000000000) (hm : 0 ≤ m ∧ m < 4000000000000000000) (s : Int) : Fn Tryz.prog 31 #[.pointer (some ⟨b, 0, none⟩), .int .u32 s] S w0 (tbl0 b a m :: L) fun v L' => ∃ m1 m2, v = gotV (cnumF s clls) ∧ tbl1 b m1 m2 (a + 1) (m + 1) :: mapB m1 (byName clls) :: mapB m2 (byNum clls) :: L = L' := by
  have hk := fun (L : List Blk) (i : Nat) (h1 : L[i]? = some (tbl0 b a m)) => Fn.at1 h1 (ask0_c (S := S) (w0 := w0) (L := L.eraseIdx i) b a m ha hm)
  obtain ⟨r, hr, hv, hb⟩ := fd_byNum s clls 0
  have hg : gotV (cnumF s clls) = tupleOf [cllV (cnumF s clls), .bool (cnumF s clls).isSome] := rfl
  obtain ⟨cn, cs, ca, hc⟩ := cllV_agg (cnumF s clls)
  rw [hg, hc]
  rw [hc] at hv
  generalize clls = cl at *
  generalize (cnumF s cl).isSome = fb at *
  clear hg hc
  unfold zC at hv
  refine Fn2 Tryz.func31 Tryz.ntmps31 rfl rfl ?_
  repeat' (first | refine G_seq ?_ | refine G_then_n ?_ | refine G_skip ?_ | refine G_ret ?_ | refine G_cond_f rfl ?_ | (refine G_region (id := 0) ?_ <;> (try refine G_op1 ?_; (refine K1_alloc (t := 116) rfl Tryz.zeroValue116 ?_; intro nb hnb; (try simp only [Value.cells]))) <;> (try refine q_a ?_) <;> (try refine G_nil ?_)) | (refine G_region (id := 1) ?_ <;> (try refine q_m ?_) <;> (try refine G_op1 ?_; (refine q_c 60 (c := by apply hk; exact c_9) (h := ?_); rintro _ _ ⟨m1, m2, rfl, rfl⟩; (try simp only [List.eraseIdx_cons_succ]); (try simp only [List.eraseIdx_cons_zero]))) <;> (try refine q_e (by apply E_un; exact rfl; exact ru_not_t) ?_) <;> (try refine G_nil ?_)) | (refine G_region (id := 3) ?_ <;> (try refine q_m ?_) <;> (try refine q_n ?_) <;> (try refine q_e (q_f fo_155_2) ?_) <;> (try refine q_e q_l ?_) <;> (try refine q_m ?_) <;> (try refine q_e (by apply E_lookup; exact rfl; exact rfl; exact c_29; exact Tryz.underlying150; exact Tryz.underlying28; exact rfl; exact Tryz.zeroValue116; (with_reducible assumption); (with_reducible assumption); (with_reducible assumption)) ?_) <;> (try refine q_m ?_) <;> (try refine q_x ?_) <;> (try refine q_x ?_) <;> (try refine G_op1 ?_; (refine K1_alloc (t := 116) rfl Tryz.zeroValue116 ?_; intro nb hnb; (try simp only [Value.cells]))) <;> (try refine G_op1 ?_; (refine q_W ?_)) <;> (try refine q_a ?_) <;> (try refine G_nil ?_)) | (refine G_region (id := 4) ?_ <;> (try refine q_e (q_L sz_116) ?_) <;> (try refine q_m ?_) <;> (try refine G_op1 ?_; (refine q_W ?_)) <;> (try refine q_a ?_) <;> (try refine G_nil ?_)))
  (apply G_done Tryz.results31; (focus (apply Res.agg; exact rfl; (focus (repeat (first | exact fd0 | (with_reducible assumption) | apply fdA | apply fdS))); kernel_rfl; kernel_rfl; exact c_16; exact sz_116; apply Res.tmp; exact rfl; exact Res.nil)))
  exact ⟨_, ⟨m1, m2, rfl, rfl⟩, by intro w H; refine H.sub ?_; (try simp only [List.cons_append, List.nil_append]); repeat (first | exact List.Sublist.refl _ | refine List.Sublist.cons_cons _ ?_ | refine List.Sublist.cons _ ?_)⟩
theorem nameF_mem {s : ByteArray} {l : List Cll} {c : Cll} (h : nameF s l = some c) : c ∈ l ∧ c.name = s := by
  induction l with
  | nil => simp [nameF] at h
  | cons d r ih =>
    unfold nameF at h
    split at h
    · rename_i e; obtain rfl := Option.some.inj h; exact ⟨by simp, e.symm⟩
    · have := ih h; exact ⟨by simp [this.1], this.2⟩
theorem cnumF_mem {n : Int} {l : List Cll} {c : Cll} (h : cnumF n l = some c) : c ∈ l ∧ c.num = n := by
  induction l with
  | nil => simp [cnumF] at h
  | cons d r ih =>
    unfold cnumF at h
    split at h
    · rename_i e; obtain rfl := Option.some.inj h; exact ⟨by simp, e.symm⟩
    · have := ih h; exact ⟨by simp [this.1], this.2⟩
end Go.Proofs.YtecbgehooembmaaGreatDoor
namespace Go.Proofs.YtecbgehooembmaaGreatDoor
open Go Go.RowKit
abbrev Wr := Nat × Nat × Nat
def failW (w : Wr) (t : Tk) (e : Nat) : Wr := if w = (0, 0, 0) then (t.line, t.col, e) else w
def zTk : Tk := ⟨0, [], 0, 0, 0⟩
abbrev PS := List Tk × Wr
def takeF (k : Nat) (s : PS) : Tk × PS := (s.1.headD zTk, s.1.tail, if (s.1.headD zTk).kind = k then s.2 else failW s.2 (s.1.headD zTk) 203)
def wordT (s : PS) : Tk × PS := ((takeF 1 s).1, (takeF 1 s).2.1, if (takeF 1 s).2.2 = (0, 0, 0) ∧ 1 < (splitC 44 (takeF 1 s).1.text).length then failW (takeF 1 s).2.2 (takeF 1 s).1 203 else (takeF 1 s).2.2)
def keyF (k : List UInt8) (s : PS) : PS := ((takeF 1 s).2.1, if (takeF 1 s).2.2 = (0, 0, 0) ∧ (takeF 1 s).1.text ≠ k then failW (takeF 1 s).2.2 (takeF 1 s).1 203 else (takeF 1 s).2.2)
def tKill : List UInt8 := [107, 105, 108, 108]
def tLog : List UInt8 := [108, 111, 103]
def tAllow : List UInt8 := [97, 108, 108, 111, 119]
def tErrno : List UInt8 := [101, 114, 114, 110, 111]
def toI (n : Nat) : Int := IntKind.i64.wrap (n : Int)
def failA (n : Nat) : Int := 327680 + min (max (toI n) 0) 4095
def actF (s : PS) : Int × PS :=
  if (wordT s).1.text = tKill then (2147483648, (wordT s).2)
  else if (wordT s).1.text = tLog then (2147221504, (wordT s).2)
  else if (wordT s).1.text = tAllow then (2147418112, (wordT s).2)
  else if (wordT s).1.text = tErrno then
    (if (takeF 2 (wordT s).2).2.2 = (0, 0, 0) ∧ ((takeF 2 (wordT s).2).1.num < 1 ∨ 4095 < (takeF 2 (wordT s).2).1.num) then (0, ((takeF 2 (wordT s).2).2.1, failW (takeF 2 (wordT s).2).2.2 (takeF 2 (wordT s).2).1 204))
     else (failA (takeF 2 (wordT s).2).1.num, (takeF 2 (wordT s).2).2))
  else (0, ((wordT s).2.1, failW (wordT s).2.2 (wordT s).1 202))
structure Cnd where
  arg : Nat
  op : Nat
  mask : Nat
  val : Nat
abbrev Cnd.cells (c : Cnd) : List Value := [.int .i64 (c.arg : Nat), .int .u8 (c.op : Nat), .int .u64 (c.mask : Nat), .int .u64 (c.val : Nat)]
def argOf (t : List UInt8) : Option Nat := if t.length = 4 ∧ t.take 3 = [97, 114, 103] ∧ 48 ≤ (t.getD 3 0).toNat ∧ (t.getD 3 0).toNat ≤ 53 then some ((t.getD 3 0).toNat - 48) else none
def opU (t : List UInt8) : Nat → Nat
  | 0 => 0
  | n + 1 => if sgns.getD n [] = t then n + 1 else opU t n
def opOf (t : List UInt8) : Nat := opU t 7
def mskF (op : Nat) (s : PS) : Nat × PS := if op = 7 then ((takeF 2 s).1.num, ((takeF 4 (takeF 2 s).2).2.1, if (takeF 4 (takeF 2 s).2).1.text ≠ [61, 61] then failW (takeF 4 (takeF 2 s).2).2.2 (takeF 4 (takeF 2 s).2).1 203 else (takeF 4 (takeF 2 s).2).2.2)) else (0, s)
def valF (arg op mask : Nat) (s : PS) : Cnd × PS := (⟨arg, op, mask, (takeF 2 s).1.num⟩, (takeF 2 s).2.1, if op = 7 ∧ (mask = 0 ∨ iandn ((takeF 2 s).1.num : Int) (mask : Int) ≠ 0) then failW (takeF 2 s).2.2 (takeF 2 s).1 204 else (takeF 2 s).2.2)
def sgnS (arg : Nat) (s : PS) : Cnd × PS := valF arg (opOf (takeF 4 s).1.text) (mskF (opOf (takeF 4 s).1.text) (takeF 4 s).2).1 (mskF (opOf (takeF 4 s).1.text) (takeF 4 s).2).2
def argW (s : PS) : Wr := if (argOf (wordT s).1.text).isSome then (wordT s).2.2 else failW (wordT s).2.2 (wordT s).1 202
def cndF (s : PS) : Cnd × PS := sgnS ((argOf (wordT s).1.text).getD 0) ((wordT s).2.1, argW s)
def tAnd : List UInt8 := [97, 110, 100]
def tIf : List UInt8 := [105, 102]
def cndsGo : Nat → List UInt8 → PS → List Cnd → List Cnd × PS
  | 0, _, s, out => (out, s)
  | f + 1, key, s, out => if s.1 = [] ∨ (s.1.headD zTk).kind = 0 ∨ s.2 ≠ (0, 0, 0) then (out, s) else
    cndsGo f tAnd ((cndF (keyF key s)).2.1, if 6 < (out ++ [(cndF (keyF key s)).1]).length then failW (cndF (keyF key s)).2.2 (s.1.headD zTk) 205 else (cndF (keyF key s)).2.2) (out ++ [(cndF (keyF key s)).1])
structure RulP where
  num : Int
  act : Int
  conds : List Cnd
structure Pol where
  nm : List UInt8
  df : Int
  rules : List RulP
  hd : Nat
  paths : List (List UInt8 × Nat)
  ports : List (Nat × Nat)
def zPol : Pol := ⟨[], 0, [], 0, [], []⟩
def setF (kind : Nat) (s : PS) : Nat × PS := ((Rg.parseF 0 (splitC 44 (takeF 1 s).1.text)).1, (takeF 1 s).2.1,
  if (Rg.parseF 0 (splitC 44 (takeF 1 s).1.text)).2 ≠ 0 then failW (takeF 1 s).2.2 (takeF 1 s).1 (Rg.parseF 0 (splitC 44 (takeF 1 s).1.text)).2
  else if Rg.hasF kind (Rg.parseF 0 (splitC 44 (takeF 1 s).1.text)).1 = false then failW (takeF 1 s).2.2 (takeF 1 s).1 204 else (takeF 1 s).2.2)
end Go.Proofs.YtecbgehooembmaaGreatDoor
namespace Go.Proofs.YtecbgehooembmaaGreatDoor
open Go Go.RowKit
structure O8 where
  nm : Value
  df : Value
  vr : Value
  hd : Value
  vp : Value
  vq : Value
  mh : Value
  mp : Value
abbrev rdB (b : Nat) (p : Value) (a : Option Addr) (n c : Nat) (w : Wr) (o : O8) : Blk := ⟨true, b, .cells #[p, .slice a n c, .int .i64 (w.1 : Nat), .int .i64 (w.2.1 : Nat), .int .i64 (w.2.2 : Nat), o.nm, o.df, o.vr, o.hd, o.vp, o.vq, o.mh, o.mp] 85 (0, 0)⟩
structure TkOk (t : Tk) : Prop where
  kind : t.kind ≤ 4
  text : t.text.length ≤ 65536
  num : t.num < 18446744073709551616
  line : t.line ≤ 100000
  col : t.col ≤ 100000
theorem zTk_ok : TkOk zTk := ⟨by decide, by decide, by decide, by decide, by decide⟩
structure TkS (x : Blk) (a : Option Addr) (c : Nat) (l : List Tk) : Prop where
  sl : Sli [x] a l.length 5 (flatTk l)
  le : l.length ≤ c
  cm : c ≤ maxLen
  ok : ∀ t ∈ l, TkOk t
theorem wr_eq (a b c : Nat) : RBin Tryz.prog .eql 25 (.agg #[.int .i64 (a : Nat), .int .i64 (b : Nat), .int .i64 (c : Nat)]) (.agg #[.int .i64 0, .int .i64 0, .int .i64 0]) (.bool (decide ((a, b, c) = ((0, 0, 0) : Wr)))) := by
  have key : ∀ r : Bool, (r = (decide ((a : Int) = 0) && (decide ((b : Int) = 0) && decide ((c : Int) = 0)))) → decide ((a, b, c) = ((0, 0, 0) : Wr)) = r := by
    rintro r rfl
    by_cases ha : a = 0
    · by_cases hb : b = 0
      · by_cases hc : c = 0
        · simp [ha, hb, hc]
        · simp [ha, hb, hc]
      · simp [ha, hb]
    · simp [ha]
  apply RBin.mk
  intro w
  rw [key _ rfl]
  go_simp
  by_cases ha : a = 0 <;> by_cases hb : b = 0 <;> by_cases hc : c = 0 <;> simp [ha, hb, hc]
set_option maxRecDepth 100000 in
theorem fail_c {S w0 L} (b : Nat) (p : Value) (a : Option Addr) (n c : Nat) (w : Wr) (o : O8) (t : Tk) (e : Nat) :
    Fn Tryz.prog 52 #[.pointer (some ⟨b, 0, none⟩), .agg t.cells.toArray, .int .i64 (e : Nat)] S w0 (rdB b p a n c w o :: L) fun v L' => v = .tuple #[] ∧ rdB b p a n c (failW w t e) o :: L = L' := by
  obtain ⟨w1, w2, w3⟩ := w
  obtain ⟨o1, o2, o3, o4, o5, o6, o7, o8⟩ := o
  obtain ⟨k, tx, nu, li, co⟩ := t
  have hq := wr_eq w1 w2 w3
  unfold failW
  by_cases hz : (w1, w2, w3) = ((0, 0, 0) : Wr)
  · rw [decide_eq_true hz] at hq
    rw [if_pos hz]
    dsimp only [Tk.cells]
    clear hz
    refine Fn3 Tryz.func52 Tryz.ntmps52 rfl rfl ?_
    repeat' (first | refine G_seq ?_ | refine G_then_n ?_ | refine G_cond_t rfl ?_ | (refine G_region (id := 0) ?_ <;> (try refine G_op1 ?_; (refine K1_box (t := 166) rfl rfl ?_; intro nb hnb; (try simp only [Value.cells]))) <;> (try refine G_nil ?_)) | (refine G_region (id := 1) ?_ <;> (try refine q_m ?_) <;> (try refine q_n ?_) <;> (try refine q_e (q_f fo_85_2) ?_) <;> (try refine q_e (q_L sz_25) ?_) <;> (try refine q_e (by exact E_build (t := 25) (fun vs => (match vs with | [] => [Value.int .i64 0, Value.int .i64 0, Value.int .i64 0] | _ => [])) rfl (fun w => by kernel_rfl)) ?_; (try simp only [Value.cells]); (try simp only [List.cons_append]); (try simp only [List.nil_append])) <;> (try refine q_e (by apply E_bin_agg (op := .eql) (t := 25); exact rfl; exact rfl; kernel_rfl; (with_reducible assumption)) ?_) <;> (try refine G_nil ?_)) | (refine G_region (id := 2) ?_ <;> (try refine q_m ?_) <;> (try refine q_e (q_f fo_166_3) ?_) <;> (try refine q_e q_l ?_) <;> (try refine q_e (q_f fo_166_4) ?_) <;> (try refine q_e q_l ?_) <;> (try refine q_m ?_) <;> (try refine q_e (by exact E_build (t := 25) (fun vs => (match vs with | [(_, x0), (_, x1), (_, x2)] => [x0, x1, x2] | _ => [])) rfl (fun w => by kernel_rfl)) ?_; (try simp only [Value.cells]); (try simp only [List.cons_append]); (try simp only [List.nil_append])) <;> (try refine q_n ?_) <;> (try refine q_e (q_f fo_85_2) ?_) <;> (try refine G_op1 ?_; (apply K1_storeN (t := 25); exact rfl; exact rfl; exact c_29; exact sz_25; exact rfl; exact rfl; exact Nat.le_of_ble_eq_true rfl; (try simp only [List.set_cons_succ]); (try simp only [List.set_cons_zero]))) <;> (try refine G_nil ?_)))
    (first | refine G_done Tryz.results52 .nil ?_ | refine G_done_n Tryz.results52 .nil ?_)
    exact ⟨_, ⟨rfl, rfl⟩, fun _ H => H.tail⟩
  · rw [decide_eq_false hz] at hq
    rw [if_neg hz]
    dsimp only [Tk.cells]
    clear hz
    refine Fn3 Tryz.func52 Tryz.ntmps52 rfl rfl ?_
    repeat' (first | refine G_seq ?_ | refine G_then_n ?_ | refine G_skip ?_ | refine G_cond_f rfl ?_ | (refine G_region (id := 0) ?_ <;> (try refine G_op1 ?_; (refine K1_box (t := 166) rfl rfl ?_; intro nb hnb; (try simp only [Value.cells]))) <;> (try refine G_nil ?_)) | (refine G_region (id := 1) ?_ <;> (try refine q_m ?_) <;> (try refine q_n ?_) <;> (try refine q_e (q_f fo_85_2) ?_) <;> (try refine q_e (q_L sz_25) ?_) <;> (try refine q_e (by exact E_build (t := 25) (fun vs => (match vs with | [] => [Value.int .i64 0, Value.int .i64 0, Value.int .i64 0] | _ => [])) rfl (fun w => by kernel_rfl)) ?_; (try simp only [Value.cells]); (try simp only [List.cons_append]); (try simp only [List.nil_append])) <;> (try refine q_e (by apply E_bin_agg (op := .eql) (t := 25); exact rfl; exact rfl; kernel_rfl; (with_reducible assumption)) ?_) <;> (try refine G_nil ?_)))
    (first | refine G_done Tryz.results52 .nil ?_ | refine G_done_n Tryz.results52 .nil ?_)
    exact ⟨_, ⟨rfl, rfl⟩, fun _ H => H.tail⟩
theorem flatTk_at (l : List Tk) (t : Tk) (r : List Tk) (h : l = t :: r) : (flatTk l).take 5 = t.cells ∧ (flatTk l).drop 5 = flatTk r := by
  subst h
  unfold flatTk
  rw [List.flatMap_cons]
  exact ⟨List.take_left (l₁ := t.cells), List.drop_left (l₁ := t.cells)⟩
theorem TkS.tail {x : Blk} {a : Option Addr} {c : Nat} {t : Tk} {r : List Tk} (h : TkS x a c (t :: r)) : TkS x (slO a 1 c 5) (c - 1) r := by
  have hle := h.le
  rw [List.length_cons] at hle
  have h2 := h.sl.cut (lo := 1) (hi := (t :: r).length) (by rw [List.length_cons]; omega) (Nat.le_refl _) h.le
  rw [List.length_cons, Nat.add_sub_cancel, (flatTk_at _ t r rfl).2, List.take_of_length_le (by rw [flatTk_len]; exact Nat.le_refl _)] at h2
  exact ⟨h2, by omega, by have := h.cm; omega, fun t ht => h.ok t (List.mem_cons_of_mem _ ht)⟩
set_option maxRecDepth 100000 in
theorem rnext_c {S w0 L} (b : Nat) (p : Value) (a : Option Addr) (c : Nat) (l : List Tk) (w : Wr) (o : O8) (x : Blk) (h : TkS x a c l) :
    Fn Tryz.prog 80 #[.pointer (some ⟨b, 0, none⟩)] S w0 (rdB b p a l.length c w o :: x :: L) fun v L' => ∃ a' c', v = .agg (l.headD zTk).cells.toArray ∧ TkS x a' c' l.tail ∧ rdB b p a' l.tail.length c' w o :: x :: L = L' := by
  obtain ⟨w1, w2, w3⟩ := w
  obtain ⟨o1, o2, o3, o4, o5, o6, o7, o8⟩ := o
  cases l with
  | nil =>
    rw [List.length_nil, List.headD_nil, List.tail_nil]
    dsimp only [Tk.cells, zTk]
    refine Fn1 Tryz.func80 Tryz.ntmps80 rfl rfl ?_
    repeat' (first | refine G_seq ?_ | refine G_then_n ?_ | refine G_then_r ?_ | refine G_ret ?_ | refine G_cond_t rfl ?_ | (refine G_region (id := 0) ?_ <;> (try refine G_op1 ?_; (refine K1_alloc (t := 166) rfl Tryz.zeroValue166 ?_; intro nb hnb; (try simp only [Value.cells]))) <;> (try refine G_nil ?_)) | (refine G_region (id := 1) ?_ <;> (try refine q_m ?_) <;> (try refine q_n ?_) <;> (try refine q_e (q_f fo_85_1) ?_) <;> (try refine q_e q_l ?_) <;> (try refine q_e (by apply E_builtin; exact rfl; exact (fun _ => BigFrame.builtin_len ..); apply r_len_slice_e Tryz.underlying78; exact c_19) ?_) <;> (try refine q_e (by exact q_b (r := by refine rb_eql_t' ?_; first | rfl | (with_reducible assumption) | (decide; done) | omega)) ?_) <;> (try refine G_nil ?_)) | (refine G_region (id := 2) ?_ <;> (try refine q_e (by exact E_build (t := 166) (fun vs => (match vs with | [] => [Value.int .u8 0, Value.string ⟨#[]⟩, Value.int .u64 0, Value.int .i64 0, Value.int .i64 0] | _ => [])) rfl (fun w => by kernel_rfl)) ?_; (try simp only [Value.cells]); (try simp only [List.cons_append]); (try simp only [List.nil_append])) <;> (try refine G_op1 ?_; (refine q_W ?_)) <;> (try refine G_nil ?_)))
    (apply G_doneA Tryz.results80; exact rfl; (focus (repeat (first | exact fd0 | (with_reducible assumption) | apply fdA | apply fdS))); kernel_rfl; kernel_rfl; exact sz_166; exact c_16)
    exact ⟨_, ⟨a, c, rfl, h, rfl⟩, fun _ H => H.tail⟩
  | cons t r =>
    have hle := h.le
    have hcm := h.cm
    have ht := h.tail
    rcases h.sl.2 with h0 | ⟨i0, q, bb, off, cs, T, fr, rfl, hi0, hsz, hcs⟩
    · rw [List.length_cons] at h0; omega
    have hx5 : (cs.toList.drop off).take 5 = t.cells := by
      have h2 := (flatTk_at _ t r rfl).1
      rw [← hcs, List.take_take, Nat.min_eq_left (by rw [List.length_cons]; omega)] at h2
      exact h2
    obtain rfl : x = ⟨q, bb, .cells cs T fr⟩ := by
      cases i0 with
      | zero => exact Option.some.inj hi0
      | succ i => simp at hi0
    rw [List.length_cons] at *
    rw [List.headD_cons, List.tail_cons]
    obtain ⟨k, tx, nu, li, co⟩ := t
    dsimp only [Tk.cells] at hx5 ⊢
    have ht' := Lib.hid ht
    have hz5 : off + 5 ≤ cs.size := by omega
    unfold maxLen at hcm
    clear ht hcs hi0 h
    refine Fn1 Tryz.func80 Tryz.ntmps80 rfl rfl ?_
    repeat' (first | refine G_seq ?_ | refine G_then_n ?_ | refine G_skip ?_ | refine G_ret ?_ | refine G_cond_f rfl ?_ | (refine G_region (id := 0) ?_ <;> (try refine G_op1 ?_; (refine K1_alloc (t := 166) rfl Tryz.zeroValue166 ?_; intro nb hnb; (try simp only [Value.cells]))) <;> (try refine G_nil ?_)) | (refine G_region (id := 1) ?_ <;> (try refine q_m ?_) <;> (try refine q_n ?_) <;> (try refine q_e (q_f fo_85_1) ?_) <;> (try refine q_e q_l ?_) <;> (try refine q_e (by apply E_builtin; exact rfl; exact (fun _ => BigFrame.builtin_len ..); apply r_len_slice_e Tryz.underlying78; exact c_19) ?_) <;> (try refine q_e (q_b (r := by exact rb_eql_f q_o)) ?_) <;> (try refine G_nil ?_)) | (refine G_region (id := 3) ?_ <;> (try refine q_m ?_) <;> (try refine q_n ?_) <;> (try refine q_e (q_f fo_85_1) ?_) <;> (try refine q_e q_l ?_) <;> (try refine q_e (by apply E_indexAddr; exact rfl; exact rfl; (focus (apply r_ixs Tryz.underlying78 sz_166; omega; omega; exact c_1))) ?_) <;> (try refine q_e (by apply E_loadA (t := 166); exact rfl; exact c_29; kernel_rfl; kernel_rfl; exact sz_166; (with_reducible assumption); (with_reducible assumption)) ?_) <;> (try refine G_op1 ?_; (refine K1_alloc (t := 166) rfl Tryz.zeroValue166 ?_; intro nb hnb; (try simp only [Value.cells]))) <;> (try refine G_op1 ?_; (refine q_W ?_)) <;> (try refine G_nil ?_)) | (refine G_region (id := 4) ?_ <;> (try refine q_m ?_) <;> (try refine q_m ?_) <;> (try refine q_n ?_) <;> (try refine q_e (q_f fo_85_1) ?_) <;> (try refine q_e q_l ?_) <;> (try refine q_e (by apply E_slice; exact rfl; exact rfl; exact rfl; exact rfl; (focus (apply r_slg Tryz.underlying78 sz_166; (focus (apply bd_10; omega; omega; exact c_0))))) ?_) <;> (try refine q_n ?_) <;> (try refine q_e (q_f fo_85_1) ?_) <;> (try refine G_op1 ?_; (refine q_S ?_)) <;> (try refine G_nil ?_)) | (refine G_region (id := 5) ?_ <;> (try refine q_e (q_L sz_166) ?_) <;> (try refine G_op1 ?_; (refine q_W ?_)) <;> (try refine G_nil ?_)))
    (apply G_doneA Tryz.results80; exact rfl; (focus (repeat (first | exact fd0 | (with_reducible assumption) | apply fdA | apply fdS))); kernel_rfl; kernel_rfl; exact sz_166; exact c_16)
    exact ⟨_, ⟨_, _, rfl, ht'.out, rfl⟩, fun _ H => H.tail.tail⟩
end Go.Proofs.YtecbgehooembmaaGreatDoor
namespace Go.Proofs.YtecbgehooembmaaGreatDoor
open Go Go.RowKit
theorem fail_d {S w0 L} {i : Nat} {b n c : Nat} {p : Value} {a : Option Addr} {w : Wr} {o : O8} (h1 : L[i]? = some (rdB b p a n c w o)) (t : Tk) (e : Nat) :
    Fn Tryz.prog 52 #[.pointer (some ⟨b, 0, none⟩), .agg t.cells.toArray, .int .i64 (e : Nat)] S w0 L fun v L' => v = .tuple #[] ∧ rdB b p a n c (failW w t e) o :: L.eraseIdx i = L' := Fn.at1 h1 (fail_c b p a n c w o t e)
theorem next_d {S w0 L} {i j : Nat} {b c : Nat} {p : Value} {a : Option Addr} {l : List Tk} {w : Wr} {o : O8} {x : Blk} (h1 : L[i]? = some (rdB b p a l.length c w o)) (h2 : (L.eraseIdx i)[j]? = some x) (h : TkS x a c l) :
    Fn Tryz.prog 80 #[.pointer (some ⟨b, 0, none⟩)] S w0 L fun v L' => ∃ a' c', v = .agg (l.headD zTk).cells.toArray ∧ TkS x a' c' l.tail ∧ rdB b p a' l.tail.length c' w o :: x :: (L.eraseIdx i).eraseIdx j = L' := Fn.at2 h1 h2 (rnext_c b p a c l w o x h)
theorem headD_ok {l : List Tk} (h : ∀ t ∈ l, TkOk t) : TkOk (l.headD zTk) := by
  cases l with
  | nil => exact zTk_ok
  | cons t r => exact h t (List.mem_cons_self ..)
set_option maxRecDepth 100000 in
theorem take_c {S w0 L} (k : Nat) (hk : k ≤ 4) (b : Nat) (p : Value) (a : Option Addr) (c : Nat) (l : List Tk) (w : Wr) (o : O8) (x : Blk) (h : TkS x a c l) :
    Fn Tryz.prog 53 #[.pointer (some ⟨b, 0, none⟩), .int .u8 (k : Nat)] S w0 (rdB b p a l.length c w o :: x :: L) fun v L' => ∃ a' c', v = .agg (takeF k (l, w)).1.cells.toArray ∧ TkS x a' c' (takeF k (l, w)).2.1 ∧ rdB b p a' (takeF k (l, w)).2.1.length c' (takeF k (l, w)).2.2 o :: x :: L = L' := by
  have hnx := fun (L : List Blk) (i j : Nat) h1 h2 => next_d (S := S) (w0 := w0) (L := L) (i := i) (j := j) (b := b) (c := c) (p := p) (a := a) (l := l) (w := w) (o := o) (x := x) h1 h2 h
  have hok := headD_ok h.ok
  unfold takeF
  dsimp only
  have hfl := fun (L : List Blk) (i : Nat) (a' : Option Addr) (c' : Nat) h1 => fail_d (S := S) (w0 := w0) (L := L) (i := i) (b := b) (n := l.tail.length) (c := c') (p := p) (a := a') (w := w) (o := o) h1 (l.headD zTk) 203
  generalize l.headD zTk = t at *
  generalize l.tail = r at *
  have hkd := hok.kind
  clear hok h
  obtain ⟨w1, w2, w3⟩ := w
  obtain ⟨o1, o2, o3, o4, o5, o6, o7, o8⟩ := o
  obtain ⟨tk, tx, nu, li, co⟩ := t
  dsimp only [Tk.cells] at *
  generalize failW (w1, w2, w3) _ 203 = fw at *
  by_cases hkk : tk = k
  · rw [if_pos hkk]
    subst hkk
    refine Fn2 Tryz.func53 Tryz.ntmps53 rfl rfl ?_
    repeat' (first | refine G_seq ?_ | refine G_then_n ?_ | refine G_skip ?_ | refine G_ret ?_ | refine G_cond_f rfl ?_ | (refine G_region (id := 0) ?_ <;> (try refine G_op1 ?_; (refine K1_alloc (t := 166) rfl Tryz.zeroValue166 ?_; intro nb hnb; (try simp only [Value.cells]))) <;> (try refine G_nil ?_)) | (refine G_region (id := 1) ?_ <;> (try refine q_m ?_) <;> (try refine G_op1 ?_; (refine q_c 80 (c := by apply hnx; exact c_9; exact c_9) (h := ?_); rintro _ _ ⟨a', c', rfl, htk, rfl⟩; (try simp only [List.eraseIdx_cons_succ]); (try simp only [List.eraseIdx_cons_zero]))) <;> (try refine G_op1 ?_; (refine K1_alloc (t := 166) rfl Tryz.zeroValue166 ?_; intro nb hnb; (try simp only [Value.cells]))) <;> (try refine G_op1 ?_; (refine q_W ?_)) <;> (try refine G_nil ?_)) | (refine G_region (id := 2) ?_ <;> (try refine q_e (q_f fo_166_0) ?_) <;> (try refine q_e q_l ?_) <;> (try refine q_m ?_) <;> (try refine q_e (by exact q_b (r := by refine rb_neq_f ?_; first | rfl | (with_reducible assumption) | (decide; done) | omega)) ?_) <;> (try refine G_nil ?_)) | (refine G_region (id := 4) ?_ <;> (try refine q_e (q_L sz_166) ?_) <;> (try refine G_op1 ?_; (refine q_W ?_)) <;> (try refine G_nil ?_)))
    (apply G_doneA Tryz.results53; exact rfl; (focus (repeat (first | exact fd0 | (with_reducible assumption) | apply fdA | apply fdS))); kernel_rfl; kernel_rfl; exact sz_166; exact c_16)
    exact ⟨_, ⟨a', c', rfl, htk, rfl⟩, by intro w H; refine Sel.out ?_ H; (try simp only [List.cons_append, List.nil_append]); repeat (first | exact Sel.refl _ | (apply Sel.cons; exact c_29; (try simp only [List.eraseIdx_cons_succ]); (try simp only [List.eraseIdx_cons_zero])) | apply Sel.drop)⟩
  · rw [if_neg hkk]
    obtain ⟨f1, f2, f3⟩ := fw
    refine Fn2 Tryz.func53 Tryz.ntmps53 rfl rfl ?_
    repeat' (first | refine G_seq ?_ | refine G_then_n ?_ | refine G_ret ?_ | refine G_cond_t rfl ?_ | (refine G_region (id := 0) ?_ <;> (try refine G_op1 ?_; (refine K1_alloc (t := 166) rfl Tryz.zeroValue166 ?_; intro nb hnb; (try simp only [Value.cells]))) <;> (try refine G_nil ?_)) | (refine G_region (id := 1) ?_ <;> (try refine q_m ?_) <;> (try refine G_op1 ?_; (refine q_c 80 (c := by apply hnx; exact c_9; exact c_9) (h := ?_); rintro _ _ ⟨a', c', rfl, htk, rfl⟩; (try simp only [List.eraseIdx_cons_succ]); (try simp only [List.eraseIdx_cons_zero]))) <;> (try refine G_op1 ?_; (refine K1_alloc (t := 166) rfl Tryz.zeroValue166 ?_; intro nb hnb; (try simp only [Value.cells]))) <;> (try refine G_op1 ?_; (refine q_W ?_)) <;> (try refine G_nil ?_)) | (refine G_region (id := 2) ?_ <;> (try refine q_e (q_f fo_166_0) ?_) <;> (try refine q_e q_l ?_) <;> (try refine q_m ?_) <;> (try refine q_e (q_b (r := by exact rb_neq_t q_o)) ?_) <;> (try refine G_nil ?_)) | (refine G_region (id := 3) ?_ <;> (try refine q_m ?_) <;> (try refine q_e (q_L sz_166) ?_) <;> (try refine G_op1 ?_; (refine q_c 52 (c := by apply hfl; exact c_9) (h := ?_); rintro _ _ ⟨rfl, rfl⟩; (try simp only [List.eraseIdx_cons_succ]); (try simp only [List.eraseIdx_cons_zero]))) <;> (try refine G_nil ?_)) | (refine G_region (id := 4) ?_ <;> (try refine q_e (q_L sz_166) ?_) <;> (try refine G_op1 ?_; (refine q_W ?_)) <;> (try refine G_nil ?_)))
    (apply G_doneA Tryz.results53; exact rfl; (focus (repeat (first | exact fd0 | (with_reducible assumption) | apply fdA | apply fdS))); kernel_rfl; kernel_rfl; exact sz_166; exact c_16)
    exact ⟨_, ⟨a', c', rfl, htk, rfl⟩, by intro w H; refine Sel.out ?_ H; (try simp only [List.cons_append, List.nil_append]); repeat (first | exact Sel.refl _ | (apply Sel.cons; exact c_29; (try simp only [List.eraseIdx_cons_succ]); (try simp only [List.eraseIdx_cons_zero])) | apply Sel.drop)⟩
end Go.Proofs.YtecbgehooembmaaGreatDoor
namespace Go.Proofs.YtecbgehooembmaaGreatDoor
open Go Go.RowKit
theorem take_d {S w0 L} (k : Nat) (hk : k ≤ 4) {i j : Nat} {b c : Nat} {p : Value} {a : Option Addr} {l : List Tk} {w : Wr} {o : O8} {x : Blk} (h1 : L[i]? = some (rdB b p a l.length c w o)) (h2 : (L.eraseIdx i)[j]? = some x) (h : TkS x a c l) :
    Fn Tryz.prog 53 #[.pointer (some ⟨b, 0, none⟩), .int .u8 (k : Nat)] S w0 L fun v L' => ∃ a' c', v = .agg (takeF k (l, w)).1.cells.toArray ∧ TkS x a' c' (takeF k (l, w)).2.1 ∧ rdB b p a' (takeF k (l, w)).2.1.length c' (takeF k (l, w)).2.2 o :: x :: (L.eraseIdx i).eraseIdx j = L' := Fn.at2 h1 h2 (take_c k hk b p a c l w o x h)
theorem takeF_ok {k : Nat} {s : PS} (h : ∀ t ∈ s.1, TkOk t) : TkOk (takeF k s).1 ∧ ∀ t ∈ (takeF k s).2.1, TkOk t := ⟨headD_ok h, fun t ht => h t (List.mem_of_mem_tail ht)⟩
set_option maxRecDepth 100000 in
theorem tsplit_c {S w0 L} (t : Tk) (ht : t.text.length ≤ 65536) : Fn Tryz.prog 79 #[.agg t.cells.toArray] S w0 L fun v L' => ∃ nb, v = .slice (some ⟨nb, 0, none⟩) (splitC 44 t.text).length (splitC 44 t.text).length ∧ L = L' := by
  have hsp := fun (L : List Blk) => split1_c (S := S) (w0 := w0) (L := L) (mB8 t.text) (by rw [mB8_size]; omega) 44
  rw [lB_mB8] at hsp
  obtain ⟨k, tx, nu, li, co⟩ := t
  dsimp only [Tk.cells] at *
  refine Fn1 Tryz.func79 Tryz.ntmps79 rfl rfl ?_
  repeat' (first | refine G_seq ?_ | refine G_then_n ?_ | refine G_ret ?_ | (refine G_region (id := 0) ?_ <;> (try refine G_op1 ?_; (refine K1_box (t := 166) rfl rfl ?_; intro nb hnb; (try simp only [Value.cells]))) <;> (try refine q_a ?_) <;> (try refine G_nil ?_)) | (refine G_region (id := 1) ?_ <;> (try refine q_e (q_f fo_166_1) ?_) <;> (try refine q_e q_l ?_) <;> (try refine G_op1 ?_; (refine q_c 47 (c := by apply hsp) (h := ?_); rintro _ _ ⟨nbP, rfl, rfl⟩; (try simp only [List.eraseIdx_cons_succ]); (try simp only [List.eraseIdx_cons_zero]))) <;> (try refine q_a ?_) <;> (try refine G_nil ?_)))
  (refine G_done Tryz.results79 (.tmp rfl .nil) ?_)
  exact ⟨_, ⟨nbP, rfl, rfl⟩, fun _ H => H.tail.tail⟩
theorem splitC_cnt (c : UInt8) (l : List UInt8) : (splitC c l).length ≤ l.length + 1 := by
  rw [splitC_len]
  have := List.count_le_length (a := c) (l := l)
  omega
set_option maxRecDepth 100000 in
set_option maxHeartbeats 1000000 in
theorem word_c {S w0 L} (b : Nat) (p : Value) (a : Option Addr) (c : Nat) (l : List Tk) (w : Wr) (o : O8) (x : Blk) (h : TkS x a c l) :
    Fn Tryz.prog 51 #[.pointer (some ⟨b, 0, none⟩)] S w0 (rdB b p a l.length c w o :: x :: L) fun v L' => ∃ a' c', v = .agg (wordT (l, w)).1.cells.toArray ∧ TkS x a' c' (wordT (l, w)).2.1 ∧ rdB b p a' (wordT (l, w)).2.1.length c' (wordT (l, w)).2.2 o :: x :: L = L' := by
  have htk := fun (L : List Blk) (i j : Nat) h1 h2 => take_d (S := S) (w0 := w0) (L := L) 1 (by decide) (i := i) (j := j) (b := b) (c := c) (p := p) (a := a) (l := l) (w := w) (o := o) (x := x) h1 h2 h
  have hok := (takeF_ok (k := 1) (s := (l, w)) h.ok).1
  unfold wordT
  generalize takeF 1 (l, w) = T at *
  obtain ⟨t, r, f1, f2, f3⟩ := T
  dsimp only at *
  have hsp := fun (L : List Blk) => tsplit_c (S := S) (w0 := w0) (L := L) t hok.text
  have hsn := splitC_cnt 44 t.text
  have htx := hok.text
  have hfl := fun (L : List Blk) (i : Nat) (a' : Option Addr) (c' : Nat) h1 => fail_d (S := S) (w0 := w0) (L := L) (i := i) (b := b) (n := r.length) (c := c') (p := p) (a := a') (w := (f1, f2, f3)) (o := o) h1 t 203
  have hq := wr_eq f1 f2 f3
  clear h hok
  obtain ⟨o1, o2, o3, o4, o5, o6, o7, o8⟩ := o
  obtain ⟨tk, tx, nu, li, co⟩ := t
  dsimp only [Tk.cells] at *
  generalize (splitC 44 tx).length = sn at *
  generalize failW (f1, f2, f3) _ 203 = fw at *
  by_cases hz : (f1, f2, f3) = ((0, 0, 0) : Wr)
  · rw [decide_eq_true hz] at hq
    by_cases h1 : 1 < sn
    · rw [if_pos ⟨hz, h1⟩]
      obtain ⟨g1, g2, g3⟩ := fw
      clear hz
      refine Fn1 Tryz.func51 Tryz.ntmps51 rfl rfl ?_
      repeat' (first | refine G_seq ?_ | refine G_then_n ?_ | refine G_ret ?_ | refine G_cond_t rfl ?_ | (refine G_region (id := 0) ?_ <;> (try refine G_op1 ?_; (refine K1_alloc (t := 166) rfl Tryz.zeroValue166 ?_; intro nb hnb; (try simp only [Value.cells]))) <;> (try refine G_nil ?_)) | (refine G_region (id := 1) ?_ <;> (try refine q_m ?_) <;> (try refine G_op1 ?_; (refine q_c 53 (c := by apply htk; exact c_9; exact c_9) (h := ?_); rintro _ _ ⟨a', c', rfl, hts, rfl⟩; (try simp only [List.eraseIdx_cons_succ]); (try simp only [List.eraseIdx_cons_zero]))) <;> (try refine G_op1 ?_; (refine K1_alloc (t := 166) rfl Tryz.zeroValue166 ?_; intro nb hnb; (try simp only [Value.cells]))) <;> (try refine G_op1 ?_; (refine q_W ?_)) <;> (try refine G_nil ?_)) | (refine G_region (id := 2) ?_ <;> (try refine q_m ?_) <;> (try refine q_n ?_) <;> (try refine q_e (q_f fo_85_2) ?_) <;> (try refine q_e (q_L sz_25) ?_) <;> (try refine q_e (by exact E_build (t := 25) (fun vs => (match vs with | [] => [Value.int .i64 0, Value.int .i64 0, Value.int .i64 0] | _ => [])) rfl (fun w => by kernel_rfl)) ?_; (try simp only [Value.cells]); (try simp only [List.cons_append]); (try simp only [List.nil_append])) <;> (try refine q_e (by apply E_bin_agg (op := .eql) (t := 25); exact rfl; exact rfl; kernel_rfl; (with_reducible assumption)) ?_) <;> (try refine q_m ?_) <;> (try refine q_y (q_L sz_166) ?_) <;> (try refine G_op1 ?_; (refine K1_yes rfl rfl rfl ?_; (refine q_c 79 (c := by apply hsp) (h := ?_); rintro _ _ ⟨nbP, rfl, rfl⟩; (try simp only [List.eraseIdx_cons_succ]); (try simp only [List.eraseIdx_cons_zero])))) <;> (try refine q_y (by apply E_builtin; exact rfl; exact (fun _ => BigFrame.builtin_len ..); apply r_len_slice_e Tryz.underlying56; exact c_19) ?_) <;> (try refine q_y (q_b (r := by exact rb_gtr_t q_o)) ?_) <;> (try refine q_p ?_) <;> (try refine G_nil ?_)) | (refine G_region (id := 3) ?_ <;> (try refine q_m ?_) <;> (try refine q_e (q_L sz_166) ?_) <;> (try refine G_op1 ?_; (refine q_c 52 (c := by apply hfl; exact c_9) (h := ?_); rintro _ _ ⟨rfl, rfl⟩; (try simp only [List.eraseIdx_cons_succ]); (try simp only [List.eraseIdx_cons_zero]))) <;> (try refine G_nil ?_)) | (refine G_region (id := 4) ?_ <;> (try refine q_e (q_L sz_166) ?_) <;> (try refine G_op1 ?_; (refine q_W ?_)) <;> (try refine G_nil ?_)))
      (apply G_doneA Tryz.results51; exact rfl; (focus (repeat (first | exact fd0 | (with_reducible assumption) | apply fdA | apply fdS))); kernel_rfl; kernel_rfl; exact sz_166; exact c_16)
      exact ⟨_, ⟨a', c', rfl, hts, rfl⟩, by intro w H; refine Sel.out ?_ H; (try simp only [List.cons_append, List.nil_append]); repeat (first | exact Sel.refl _ | (apply Sel.cons; exact c_29; (try simp only [List.eraseIdx_cons_succ]); (try simp only [List.eraseIdx_cons_zero])) | apply Sel.drop)⟩
    · rw [if_neg (fun h => h1 h.2)]
      clear hz
      refine Fn1 Tryz.func51 Tryz.ntmps51 rfl rfl ?_
      repeat' (first | refine G_seq ?_ | refine G_then_n ?_ | refine G_skip ?_ | refine G_ret ?_ | refine G_cond_f rfl ?_ | (refine G_region (id := 0) ?_ <;> (try refine G_op1 ?_; (refine K1_alloc (t := 166) rfl Tryz.zeroValue166 ?_; intro nb hnb; (try simp only [Value.cells]))) <;> (try refine G_nil ?_)) | (refine G_region (id := 1) ?_ <;> (try refine q_m ?_) <;> (try refine G_op1 ?_; (refine q_c 53 (c := by apply htk; exact c_9; exact c_9) (h := ?_); rintro _ _ ⟨a', c', rfl, hts, rfl⟩; (try simp only [List.eraseIdx_cons_succ]); (try simp only [List.eraseIdx_cons_zero]))) <;> (try refine G_op1 ?_; (refine K1_alloc (t := 166) rfl Tryz.zeroValue166 ?_; intro nb hnb; (try simp only [Value.cells]))) <;> (try refine G_op1 ?_; (refine q_W ?_)) <;> (try refine G_nil ?_)) | (refine G_region (id := 2) ?_ <;> (try refine q_m ?_) <;> (try refine q_n ?_) <;> (try refine q_e (q_f fo_85_2) ?_) <;> (try refine q_e (q_L sz_25) ?_) <;> (try refine q_e (by exact E_build (t := 25) (fun vs => (match vs with | [] => [Value.int .i64 0, Value.int .i64 0, Value.int .i64 0] | _ => [])) rfl (fun w => by kernel_rfl)) ?_; (try simp only [Value.cells]); (try simp only [List.cons_append]); (try simp only [List.nil_append])) <;> (try refine q_e (by apply E_bin_agg (op := .eql) (t := 25); exact rfl; exact rfl; kernel_rfl; (with_reducible assumption)) ?_) <;> (try refine q_m ?_) <;> (try refine q_y (q_L sz_166) ?_) <;> (try refine G_op1 ?_; (refine K1_yes rfl rfl rfl ?_; (refine q_c 79 (c := by apply hsp) (h := ?_); rintro _ _ ⟨nbP, rfl, rfl⟩; (try simp only [List.eraseIdx_cons_succ]); (try simp only [List.eraseIdx_cons_zero])))) <;> (try refine q_y (by apply E_builtin; exact rfl; exact (fun _ => BigFrame.builtin_len ..); apply r_len_slice_e Tryz.underlying56; exact c_19) ?_) <;> (try refine q_y (q_b (r := by exact rb_gtr_f q_o)) ?_) <;> (try refine q_p ?_) <;> (try refine G_nil ?_)) | (refine G_region (id := 4) ?_ <;> (try refine q_e (q_L sz_166) ?_) <;> (try refine G_op1 ?_; (refine q_W ?_)) <;> (try refine G_nil ?_)))
      (apply G_doneA Tryz.results51; exact rfl; (focus (repeat (first | exact fd0 | (with_reducible assumption) | apply fdA | apply fdS))); kernel_rfl; kernel_rfl; exact sz_166; exact c_16)
      exact ⟨_, ⟨a', c', rfl, hts, rfl⟩, by intro w H; refine Sel.out ?_ H; (try simp only [List.cons_append, List.nil_append]); repeat (first | exact Sel.refl _ | (apply Sel.cons; exact c_29; (try simp only [List.eraseIdx_cons_succ]); (try simp only [List.eraseIdx_cons_zero])) | apply Sel.drop)⟩
  · rw [decide_eq_false hz] at hq
    rw [if_neg (fun h => hz h.1)]
    clear hz
    refine Fn1 Tryz.func51 Tryz.ntmps51 rfl rfl ?_
    repeat' (first | refine G_seq ?_ | refine G_then_n ?_ | refine G_skip ?_ | refine G_ret ?_ | refine G_cond_f rfl ?_ | (refine G_region (id := 0) ?_ <;> (try refine G_op1 ?_; (refine K1_alloc (t := 166) rfl Tryz.zeroValue166 ?_; intro nb hnb; (try simp only [Value.cells]))) <;> (try refine G_nil ?_)) | (refine G_region (id := 1) ?_ <;> (try refine q_m ?_) <;> (try refine G_op1 ?_; (refine q_c 53 (c := by apply htk; exact c_9; exact c_9) (h := ?_); rintro _ _ ⟨a', c', rfl, hts, rfl⟩; (try simp only [List.eraseIdx_cons_succ]); (try simp only [List.eraseIdx_cons_zero]))) <;> (try refine G_op1 ?_; (refine K1_alloc (t := 166) rfl Tryz.zeroValue166 ?_; intro nb hnb; (try simp only [Value.cells]))) <;> (try refine G_op1 ?_; (refine q_W ?_)) <;> (try refine G_nil ?_)) | (refine G_region (id := 2) ?_ <;> (try refine q_m ?_) <;> (try refine q_n ?_) <;> (try refine q_e (q_f fo_85_2) ?_) <;> (try refine q_e (q_L sz_25) ?_) <;> (try refine q_e (by exact E_build (t := 25) (fun vs => (match vs with | [] => [Value.int .i64 0, Value.int .i64 0, Value.int .i64 0] | _ => [])) rfl (fun w => by kernel_rfl)) ?_; (try simp only [Value.cells]); (try simp only [List.cons_append]); (try simp only [List.nil_append])) <;> (try refine q_e (by apply E_bin_agg (op := .eql) (t := 25); exact rfl; exact rfl; kernel_rfl; (with_reducible assumption)) ?_) <;> (try refine q_m ?_) <;> (try refine q_z ?_) <;> (try refine q_z ?_) <;> (try refine q_z ?_) <;> (try refine q_z ?_) <;> (try refine q_p ?_) <;> (try refine G_nil ?_)) | (refine G_region (id := 4) ?_ <;> (try refine q_e (q_L sz_166) ?_) <;> (try refine G_op1 ?_; (refine q_W ?_)) <;> (try refine G_nil ?_)))
    (apply G_doneA Tryz.results51; exact rfl; (focus (repeat (first | exact fd0 | (with_reducible assumption) | apply fdA | apply fdS))); kernel_rfl; kernel_rfl; exact sz_166; exact c_16)
    exact ⟨_, ⟨a', c', rfl, hts, rfl⟩, by intro w H; refine Sel.out ?_ H; (try simp only [List.cons_append, List.nil_append]); repeat (first | exact Sel.refl _ | (apply Sel.cons; exact c_29; (try simp only [List.eraseIdx_cons_succ]); (try simp only [List.eraseIdx_cons_zero])) | apply Sel.drop)⟩
set_option maxRecDepth 100000 in
set_option maxHeartbeats 1000000 in
theorem key_c {S w0 L} (k : List UInt8) (b : Nat) (p : Value) (a : Option Addr) (c : Nat) (l : List Tk) (w : Wr) (o : O8) (x : Blk) (h : TkS x a c l) :
    Fn Tryz.prog 50 #[.pointer (some ⟨b, 0, none⟩), .string (mB8 k)] S w0 (rdB b p a l.length c w o :: x :: L) fun v L' => ∃ a' c', v = .tuple #[] ∧ TkS x a' c' (keyF k (l, w)).1 ∧ rdB b p a' (keyF k (l, w)).1.length c' (keyF k (l, w)).2 o :: x :: L = L' := by
  have htk := fun (L : List Blk) (i j : Nat) h1 h2 => take_d (S := S) (w0 := w0) (L := L) 1 (by decide) (i := i) (j := j) (b := b) (c := c) (p := p) (a := a) (l := l) (w := w) (o := o) (x := x) h1 h2 h
  unfold keyF
  generalize takeF 1 (l, w) = T at *
  obtain ⟨t, r, f1, f2, f3⟩ := T
  dsimp only at *
  have hfl := fun (L : List Blk) (i : Nat) (a' : Option Addr) (c' : Nat) h1 => fail_d (S := S) (w0 := w0) (L := L) (i := i) (b := b) (n := r.length) (c := c') (p := p) (a := a') (w := (f1, f2, f3)) (o := o) h1 t 203
  have hq := wr_eq f1 f2 f3
  clear h
  obtain ⟨o1, o2, o3, o4, o5, o6, o7, o8⟩ := o
  obtain ⟨tk, tx, nu, li, co⟩ := t
  dsimp only [Tk.cells] at *
  generalize failW (f1, f2, f3) _ 203 = fw at *
  have hne : tx ≠ k → ¬ mB8 tx = mB8 k := fun h1 h2 => h1 (by rw [← lB_mB8 tx, h2, lB_mB8])
  by_cases hz : (f1, f2, f3) = ((0, 0, 0) : Wr)
  · rw [decide_eq_true hz] at hq
    by_cases h1 : tx = k
    · rw [if_neg (fun h => h.2 h1)]
      subst h1
      clear hz
      refine Fn2 Tryz.func50 Tryz.ntmps50 rfl rfl ?_
      repeat' (first | refine G_seq ?_ | refine G_then_n ?_ | refine G_skip ?_ | refine G_cond_f rfl ?_ | (refine G_region (id := 0) ?_ <;> (try refine q_m ?_) <;> (try refine G_op1 ?_; (refine q_c 53 (c := by apply htk; exact c_12; exact c_12) (h := ?_); rintro _ _ ⟨a', c', rfl, hts, rfl⟩; (try simp only [List.eraseIdx_cons_succ]); (try simp only [List.eraseIdx_cons_zero]))) <;> (try refine G_op1 ?_; (refine K1_alloc (t := 166) rfl Tryz.zeroValue166 ?_; intro nb hnb; (try simp only [Value.cells]))) <;> (try refine G_op1 ?_; (refine q_W ?_)) <;> (try refine G_nil ?_)) | (refine G_region (id := 1) ?_ <;> (try refine q_m ?_) <;> (try refine q_n ?_) <;> (try refine q_e (q_f fo_85_2) ?_) <;> (try refine q_e (q_L sz_25) ?_) <;> (try refine q_e (by exact E_build (t := 25) (fun vs => (match vs with | [] => [Value.int .i64 0, Value.int .i64 0, Value.int .i64 0] | _ => [])) rfl (fun w => by kernel_rfl)) ?_; (try simp only [Value.cells]); (try simp only [List.cons_append]); (try simp only [List.nil_append])) <;> (try refine q_e (by apply E_bin_agg (op := .eql) (t := 25); exact rfl; exact rfl; kernel_rfl; (with_reducible assumption)) ?_) <;> (try refine q_m ?_) <;> (try refine q_y (q_f fo_166_1) ?_) <;> (try refine q_y q_l ?_) <;> (try refine q_y (E_move rfl) ?_) <;> (try refine q_y (q_b (r := by exact rb_strne_s)) ?_) <;> (try refine q_p ?_) <;> (try refine G_nil ?_)))
      (first | refine G_done Tryz.results50 .nil ?_ | refine G_done_n Tryz.results50 .nil ?_)
      exact ⟨_, ⟨a', c', rfl, hts, rfl⟩, by intro w H; refine Sel.out ?_ H; (try simp only [List.cons_append, List.nil_append]); repeat (first | exact Sel.refl _ | (apply Sel.cons; exact c_29; (try simp only [List.eraseIdx_cons_succ]); (try simp only [List.eraseIdx_cons_zero])) | apply Sel.drop)⟩
    · rw [if_pos ⟨hz, h1⟩]
      obtain ⟨g1, g2, g3⟩ := fw
      have hnn := hne h1
      clear hz
      refine Fn2 Tryz.func50 Tryz.ntmps50 rfl rfl ?_
      repeat' (first | refine G_seq ?_ | refine G_then_n ?_ | refine G_cond_t rfl ?_ | (refine G_region (id := 0) ?_ <;> (try refine q_m ?_) <;> (try refine G_op1 ?_; (refine q_c 53 (c := by apply htk; exact c_12; exact c_12) (h := ?_); rintro _ _ ⟨a', c', rfl, hts, rfl⟩; (try simp only [List.eraseIdx_cons_succ]); (try simp only [List.eraseIdx_cons_zero]))) <;> (try refine G_op1 ?_; (refine K1_alloc (t := 166) rfl Tryz.zeroValue166 ?_; intro nb hnb; (try simp only [Value.cells]))) <;> (try refine G_op1 ?_; (refine q_W ?_)) <;> (try refine G_nil ?_)) | (refine G_region (id := 1) ?_ <;> (try refine q_m ?_) <;> (try refine q_n ?_) <;> (try refine q_e (q_f fo_85_2) ?_) <;> (try refine q_e (q_L sz_25) ?_) <;> (try refine q_e (by exact E_build (t := 25) (fun vs => (match vs with | [] => [Value.int .i64 0, Value.int .i64 0, Value.int .i64 0] | _ => [])) rfl (fun w => by kernel_rfl)) ?_; (try simp only [Value.cells]); (try simp only [List.cons_append]); (try simp only [List.nil_append])) <;> (try refine q_e (by apply E_bin_agg (op := .eql) (t := 25); exact rfl; exact rfl; kernel_rfl; (with_reducible assumption)) ?_) <;> (try refine q_m ?_) <;> (try refine q_y (q_f fo_166_1) ?_) <;> (try refine q_y q_l ?_) <;> (try refine q_y (E_move rfl) ?_) <;> (try refine q_y (q_b (r := by apply rb_strne_h; (with_reducible assumption))) ?_) <;> (try refine q_p ?_) <;> (try refine G_nil ?_)) | (refine G_region (id := 2) ?_ <;> (try refine q_m ?_) <;> (try refine q_e (q_L sz_166) ?_) <;> (try refine G_op1 ?_; (refine q_c 52 (c := by apply hfl; exact c_9) (h := ?_); rintro _ _ ⟨rfl, rfl⟩; (try simp only [List.eraseIdx_cons_succ]); (try simp only [List.eraseIdx_cons_zero]))) <;> (try refine G_nil ?_)))
      (first | refine G_done Tryz.results50 .nil ?_ | refine G_done_n Tryz.results50 .nil ?_)
      exact ⟨_, ⟨a', c', rfl, hts, rfl⟩, by intro w H; refine Sel.out ?_ H; (try simp only [List.cons_append, List.nil_append]); repeat (first | exact Sel.refl _ | (apply Sel.cons; exact c_29; (try simp only [List.eraseIdx_cons_succ]); (try simp only [List.eraseIdx_cons_zero])) | apply Sel.drop)⟩
  · rw [decide_eq_false hz] at hq
    rw [if_neg (fun h => hz h.1)]
    clear hz
    refine Fn2 Tryz.func50 Tryz.ntmps50 rfl rfl ?_
    repeat' (first | refine G_seq ?_ | refine G_then_n ?_ | refine G_skip ?_ | refine G_cond_f rfl ?_ | (refine G_region (id := 0) ?_ <;> (try refine q_m ?_) <;> (try refine G_op1 ?_; (refine q_c 53 (c := by apply htk; exact c_12; exact c_12) (h := ?_); rintro _ _ ⟨a', c', rfl, hts, rfl⟩; (try simp only [List.eraseIdx_cons_succ]); (try simp only [List.eraseIdx_cons_zero]))) <;> (try refine G_op1 ?_; (refine K1_alloc (t := 166) rfl Tryz.zeroValue166 ?_; intro nb hnb; (try simp only [Value.cells]))) <;> (try refine G_op1 ?_; (refine q_W ?_)) <;> (try refine G_nil ?_)) | (refine G_region (id := 1) ?_ <;> (try refine q_m ?_) <;> (try refine q_n ?_) <;> (try refine q_e (q_f fo_85_2) ?_) <;> (try refine q_e (q_L sz_25) ?_) <;> (try refine q_e (by exact E_build (t := 25) (fun vs => (match vs with | [] => [Value.int .i64 0, Value.int .i64 0, Value.int .i64 0] | _ => [])) rfl (fun w => by kernel_rfl)) ?_; (try simp only [Value.cells]); (try simp only [List.cons_append]); (try simp only [List.nil_append])) <;> (try refine q_e (by apply E_bin_agg (op := .eql) (t := 25); exact rfl; exact rfl; kernel_rfl; (with_reducible assumption)) ?_) <;> (try refine q_m ?_) <;> (try refine q_z ?_) <;> (try refine q_z ?_) <;> (try refine q_z ?_) <;> (try refine q_z ?_) <;> (try refine q_p ?_) <;> (try refine G_nil ?_)))
    (first | refine G_done Tryz.results50 .nil ?_ | refine G_done_n Tryz.results50 .nil ?_)
    exact ⟨_, ⟨a', c', rfl, hts, rfl⟩, by intro w H; refine Sel.out ?_ H; (try simp only [List.cons_append, List.nil_append]); repeat (first | exact Sel.refl _ | (apply Sel.cons; exact c_29; (try simp only [List.eraseIdx_cons_succ]); (try simp only [List.eraseIdx_cons_zero])) | apply Sel.drop)⟩
end Go.Proofs.YtecbgehooembmaaGreatDoor
namespace Go.Proofs.YtecbgehooembmaaGreatDoor
open Go Go.RowKit
theorem word_d {S w0 L} {i j : Nat} {b c : Nat} {p : Value} {a : Option Addr} {l : List Tk} {w : Wr} {o : O8} {x : Blk} (h1 : L[i]? = some (rdB b p a l.length c w o)) (h2 : (L.eraseIdx i)[j]? = some x) (h : TkS x a c l) :
    Fn Tryz.prog 51 #[.pointer (some ⟨b, 0, none⟩)] S w0 L fun v L' => ∃ a' c', v = .agg (wordT (l, w)).1.cells.toArray ∧ TkS x a' c' (wordT (l, w)).2.1 ∧ rdB b p a' (wordT (l, w)).2.1.length c' (wordT (l, w)).2.2 o :: x :: (L.eraseIdx i).eraseIdx j = L' := Fn.at2 h1 h2 (word_c b p a c l w o x h)
theorem key_d {S w0 L} (k : List UInt8) {i j : Nat} {b c : Nat} {p : Value} {a : Option Addr} {l : List Tk} {w : Wr} {o : O8} {x : Blk} (h1 : L[i]? = some (rdB b p a l.length c w o)) (h2 : (L.eraseIdx i)[j]? = some x) (h : TkS x a c l) :
    Fn Tryz.prog 50 #[.pointer (some ⟨b, 0, none⟩), .string (mB8 k)] S w0 L fun v L' => ∃ a' c', v = .tuple #[] ∧ TkS x a' c' (keyF k (l, w)).1 ∧ rdB b p a' (keyF k (l, w)).1.length c' (keyF k (l, w)).2 o :: x :: (L.eraseIdx i).eraseIdx j = L' := Fn.at2 h1 h2 (key_c k b p a c l w o x h)
theorem wordT_ok {s : PS} (h : ∀ t ∈ s.1, TkOk t) : TkOk (wordT s).1 ∧ ∀ t ∈ (wordT s).2.1, TkOk t := takeF_ok (k := 1) h
theorem ior_fail (x : Int) (h0 : 0 ≤ x) (h1 : x ≤ 4095) : ior 327680 x = 327680 + x := by
  unfold ior
  have h := Nat.shiftLeft_add_eq_or_of_lt (b := x.toNat) (i := 16) (by omega) 5
  have e : (327680 : Int).toNat = 5 <<< 16 := rfl
  rw [e, ← h]
  omega
set_option maxRecDepth 100000 in
theorem rfail_c {S w0 L} (e : Int) (h1 : -9223372036854775808 ≤ e) (h2 : e < 9223372036854775808) : Fn Tryz.prog 56 #[.int .i64 e] S w0 L fun v L' => v = .int .u32 (327680 + min (max e 0) 4095) ∧ L = L' := by
  rw [← ior_fail _ (by omega) (by omega)]
  refine Fn1 Tryz.func56 Tryz.ntmps56 rfl rfl ?_
  repeat' (first | refine G_seq ?_ | refine G_then_n ?_ | refine G_ret ?_ | (refine G_region (id := 0) ?_ <;> (try refine q_a ?_) <;> (try refine G_nil ?_)) | (refine G_region (id := 1) ?_ <;> (try refine q_m ?_) <;> (try refine q_e (E_builtin rfl (fun _ => BigFrame.builtin_max ..) r_max) ?_) <;> (try refine q_e (E_builtin rfl (fun _ => BigFrame.builtin_min ..) r_min) ?_) <;> (try refine q_e (by apply E_conv; exact rfl; (focus (apply r_conv Tryz.underlying23 Tryz.underlying29; first | (refine IntWalk.i64_in _ ?_; omega) | (refine IntWalk.u8_in _ ?_; omega) | (refine IntWalk.u16_in _ ?_; omega) | (refine IntWalk.u32_in _ ?_; omega) | (refine IntWalk.u64_in _ ?_; omega) | (refine IntWalk.i32_in _ ?_; omega) | exact rfl))) ?_) <;> (try refine q_e (q_b (r := by refine rb_or ?_ ?_; (focus (refine ⟨rfl, ⟨?_, ?_⟩⟩; omega; (focus (simp only [IntKind.bits]; omega)))); (focus (refine ⟨rfl, ⟨?_, ?_⟩⟩; omega; (focus (simp only [IntKind.bits]; omega)))))) ?_) <;> (try refine q_a ?_) <;> (try refine G_nil ?_)))
  (refine G_done Tryz.results56 (.tmp rfl .nil) ?_)
  exact ⟨_, ⟨rfl, rfl⟩, by intro w H; refine H.sub ?_; (try simp only [List.cons_append, List.nil_append]); repeat (exact List.Sublist.refl _)⟩
theorem toI_in (n : Nat) : -9223372036854775808 ≤ toI n ∧ toI n < 9223372036854775808 := by
  unfold toI
  rw [IntKind.wrap_i64]
  omega
theorem text_ne {a b : List UInt8} (h : a ≠ b) : ¬ mB8 a = mB8 b := fun h2 => h (by rw [← lB_mB8 a, h2, lB_mB8])
set_option maxRecDepth 100000 in
set_option maxHeartbeats 1000000 in
theorem action_c {S w0 L} (b : Nat) (p : Value) (a : Option Addr) (c : Nat) (l : List Tk) (w : Wr) (o : O8) (x : Blk) (h : TkS x a c l) :
    Fn Tryz.prog 54 #[.pointer (some ⟨b, 0, none⟩)] S w0 (rdB b p a l.length c w o :: x :: L) fun v L' => ∃ a' c', v = .int .u32 (actF (l, w)).1 ∧ TkS x a' c' (actF (l, w)).2.1 ∧ rdB b p a' (actF (l, w)).2.1.length c' (actF (l, w)).2.2 o :: x :: L = L' := by
  have hwd := fun (L : List Blk) (i j : Nat) h1 h2 => word_d (S := S) (w0 := w0) (L := L) (i := i) (j := j) (b := b) (c := c) (p := p) (a := a) (l := l) (w := w) (o := o) (x := x) h1 h2 h
  have hok := (wordT_ok (s := (l, w)) h.ok).2
  unfold actF
  generalize wordT (l, w) = T at *
  obtain ⟨t, r, f1, f2, f3⟩ := T
  dsimp only at *
  clear h
  have hfl := fun (L : List Blk) (i : Nat) (a' : Option Addr) (c' : Nat) h1 => fail_d (S := S) (w0 := w0) (L := L) (i := i) (b := b) (n := r.length) (c := c') (p := p) (a := a') (w := (f1, f2, f3)) (o := o) h1 t 202
  have htk := fun (L : List Blk) (i j : Nat) (a : Option Addr) (c : Nat) h1 h2 h => take_d (S := S) (w0 := w0) (L := L) 2 (by decide) (i := i) (j := j) (b := b) (c := c) (p := p) (a := a) (l := r) (w := (f1, f2, f3)) (o := o) (x := x) h1 h2 h
  by_cases k1 : t.text = tKill
  · rw [if_pos k1]
    obtain ⟨o1, o2, o3, o4, o5, o6, o7, o8⟩ := o
    obtain ⟨tk, tx, nu, li, co⟩ := t
    dsimp only [Tk.cells] at *
    subst k1
    refine Fn1 Tryz.func54 Tryz.ntmps54 rfl rfl ?_
    repeat' (first | refine G_seq ?_ | refine G_then_n ?_ | refine G_then_r ?_ | refine G_blk_r ?_ | refine G_block ?_ | refine G_ret ?_ | refine G_cond_t rfl ?_ | (refine G_region (id := 0) ?_ <;> (try refine q_a ?_) <;> (try refine G_nil ?_)) | (refine G_region (id := 1) ?_ <;> (try refine q_m ?_) <;> (try refine G_op1 ?_; (refine q_c 51 (c := by apply hwd; exact c_12; exact c_12) (h := ?_); rintro _ _ ⟨a', c', rfl, hts, rfl⟩; (try simp only [List.eraseIdx_cons_succ]); (try simp only [List.eraseIdx_cons_zero]))) <;> (try refine G_op1 ?_; (refine K1_alloc (t := 166) rfl Tryz.zeroValue166 ?_; intro nb hnb; (try simp only [Value.cells]))) <;> (try refine G_op1 ?_; (refine q_W ?_)) <;> (try refine G_nil ?_)) | (refine G_region (id := 2) ?_ <;> (try refine q_e (q_f fo_166_1) ?_) <;> (try refine q_e q_l ?_) <;> (try refine G_nil ?_)) | (refine G_region (id := 3) ?_ <;> (try refine q_e (q_b (r := by exact rb_streq_s)) ?_) <;> (try refine q_a ?_) <;> (try refine G_nil ?_)) | (refine G_region (id := 4) ?_ <;> (try refine q_a ?_) <;> (try refine G_nil ?_)))
    (refine G_done Tryz.results54 (.tmp rfl .nil) ?_)
    exact ⟨_, ⟨a', c', rfl, hts, rfl⟩, by intro w H; refine Sel.out ?_ H; (try simp only [List.cons_append, List.nil_append]); repeat (first | exact Sel.refl _ | (apply Sel.cons; exact c_29; (try simp only [List.eraseIdx_cons_succ]); (try simp only [List.eraseIdx_cons_zero])) | apply Sel.drop)⟩
  rw [if_neg k1]
  by_cases k2 : t.text = tLog
  · rw [if_pos k2]
    obtain ⟨o1, o2, o3, o4, o5, o6, o7, o8⟩ := o
    obtain ⟨tk, tx, nu, li, co⟩ := t
    dsimp only [Tk.cells] at *
    subst k2
    refine Fn1 Tryz.func54 Tryz.ntmps54 rfl rfl ?_
    repeat' (first | refine G_seq ?_ | refine G_then_n ?_ | refine G_then_r ?_ | refine G_blk_r ?_ | refine G_block ?_ | refine G_ret ?_ | refine G_cond_t rfl ?_ | refine G_cond_f rfl ?_ | (refine G_region (id := 0) ?_ <;> (try refine q_a ?_) <;> (try refine G_nil ?_)) | (refine G_region (id := 1) ?_ <;> (try refine q_m ?_) <;> (try refine G_op1 ?_; (refine q_c 51 (c := by apply hwd; exact c_12; exact c_12) (h := ?_); rintro _ _ ⟨a', c', rfl, hts, rfl⟩; (try simp only [List.eraseIdx_cons_succ]); (try simp only [List.eraseIdx_cons_zero]))) <;> (try refine G_op1 ?_; (refine K1_alloc (t := 166) rfl Tryz.zeroValue166 ?_; intro nb hnb; (try simp only [Value.cells]))) <;> (try refine G_op1 ?_; (refine q_W ?_)) <;> (try refine G_nil ?_)) | (refine G_region (id := 2) ?_ <;> (try refine q_e (q_f fo_166_1) ?_) <;> (try refine q_e q_l ?_) <;> (try refine G_nil ?_)) | (refine G_region (id := 3) ?_ <;> (try refine q_e (q_b (r := by apply rb_streq_n; (focus (decide)))) ?_) <;> (try refine q_a ?_) <;> (try refine G_nil ?_)) | (refine G_region (id := 5) ?_ <;> (try refine q_e (q_b (r := by exact rb_streq_s)) ?_) <;> (try refine q_a ?_) <;> (try refine G_nil ?_)) | (refine G_region (id := 6) ?_ <;> (try refine q_a ?_) <;> (try refine G_nil ?_)))
    (refine G_done Tryz.results54 (.tmp rfl .nil) ?_)
    exact ⟨_, ⟨a', c', rfl, hts, rfl⟩, by intro w H; refine Sel.out ?_ H; (try simp only [List.cons_append, List.nil_append]); repeat (first | exact Sel.refl _ | (apply Sel.cons; exact c_29; (try simp only [List.eraseIdx_cons_succ]); (try simp only [List.eraseIdx_cons_zero])) | apply Sel.drop)⟩
  rw [if_neg k2]
  by_cases k3 : t.text = tAllow
  · rw [if_pos k3]
    obtain ⟨o1, o2, o3, o4, o5, o6, o7, o8⟩ := o
    obtain ⟨tk, tx, nu, li, co⟩ := t
    dsimp only [Tk.cells] at *
    subst k3
    refine Fn1 Tryz.func54 Tryz.ntmps54 rfl rfl ?_
    repeat' (first | refine G_seq ?_ | refine G_then_n ?_ | refine G_then_r ?_ | refine G_blk_r ?_ | refine G_block ?_ | refine G_ret ?_ | refine G_cond_t rfl ?_ | refine G_cond_f rfl ?_ | (refine G_region (id := 0) ?_ <;> (try refine q_a ?_) <;> (try refine G_nil ?_)) | (refine G_region (id := 1) ?_ <;> (try refine q_m ?_) <;> (try refine G_op1 ?_; (refine q_c 51 (c := by apply hwd; exact c_12; exact c_12) (h := ?_); rintro _ _ ⟨a', c', rfl, hts, rfl⟩; (try simp only [List.eraseIdx_cons_succ]); (try simp only [List.eraseIdx_cons_zero]))) <;> (try refine G_op1 ?_; (refine K1_alloc (t := 166) rfl Tryz.zeroValue166 ?_; intro nb hnb; (try simp only [Value.cells]))) <;> (try refine G_op1 ?_; (refine q_W ?_)) <;> (try refine G_nil ?_)) | (refine G_region (id := 2) ?_ <;> (try refine q_e (q_f fo_166_1) ?_) <;> (try refine q_e q_l ?_) <;> (try refine G_nil ?_)) | (refine G_region (id := 3) ?_ <;> (try refine q_e (q_b (r := by apply rb_streq_n; (focus (decide)))) ?_) <;> (try refine q_a ?_) <;> (try refine G_nil ?_)) | (refine G_region (id := 5) ?_ <;> (try refine q_e (q_b (r := by apply rb_streq_n; (focus (decide)))) ?_) <;> (try refine q_a ?_) <;> (try refine G_nil ?_)) | (refine G_region (id := 7) ?_ <;> (try refine q_e (q_b (r := by exact rb_streq_s)) ?_) <;> (try refine q_a ?_) <;> (try refine G_nil ?_)) | (refine G_region (id := 8) ?_ <;> (try refine q_a ?_) <;> (try refine G_nil ?_)))
    (refine G_done Tryz.results54 (.tmp rfl .nil) ?_)
    exact ⟨_, ⟨a', c', rfl, hts, rfl⟩, by intro w H; refine Sel.out ?_ H; (try simp only [List.cons_append, List.nil_append]); repeat (first | exact Sel.refl _ | (apply Sel.cons; exact c_29; (try simp only [List.eraseIdx_cons_succ]); (try simp only [List.eraseIdx_cons_zero])) | apply Sel.drop)⟩
  rw [if_neg k3]
  by_cases k4 : t.text = tErrno
  · rw [if_pos k4]
    clear hfl
    have hn := (takeF_ok (k := 2) (s := (r, f1, f2, f3)) hok).1.num
    generalize takeF 2 (r, f1, f2, f3) = T at *
    obtain ⟨n, r2, g1, g2, g3⟩ := T
    dsimp only at *
    have hq := wr_eq g1 g2 g3
    have hfl := fun (L : List Blk) (i : Nat) (a' : Option Addr) (c' : Nat) h1 => fail_d (S := S) (w0 := w0) (L := L) (i := i) (b := b) (n := r2.length) (c := c') (p := p) (a := a') (w := (g1, g2, g3)) (o := o) h1 n 204
    have hrf := fun (L : List Blk) => rfail_c (S := S) (w0 := w0) (L := L) (toI n.num) (toI_in n.num).1 (toI_in n.num).2
    obtain ⟨o1, o2, o3, o4, o5, o6, o7, o8⟩ := o
    obtain ⟨tk, tx, nu, li, co⟩ := t
    obtain ⟨nk, ntx, nnu, nli, nco⟩ := n
    dsimp only [Tk.cells] at *
    subst k4
    generalize failW (g1, g2, g3) _ 204 = fw at *
    unfold failA
    unfold toI at *
    clear hok
    by_cases hz : (g1, g2, g3) = ((0, 0, 0) : Wr)
    · rw [decide_eq_true hz] at hq
      by_cases hr : nnu < 1
      · rw [if_pos ⟨hz, Or.inl hr⟩]
        obtain ⟨e1, e2, e3⟩ := fw
        clear hz
        refine Fn1 Tryz.func54 Tryz.ntmps54 rfl rfl ?_
        repeat' (first | refine G_seq ?_ | refine G_then_n ?_ | refine G_then_r ?_ | refine G_blk_r ?_ | refine G_block ?_ | refine G_ret ?_ | refine G_cond_t rfl ?_ | refine G_cond_f rfl ?_ | (refine G_region (id := 0) ?_ <;> (try refine q_a ?_) <;> (try refine G_nil ?_)) | (refine G_region (id := 1) ?_ <;> (try refine q_m ?_) <;> (try refine G_op1 ?_; (refine q_c 51 (c := by apply hwd; exact c_12; exact c_12) (h := ?_); rintro _ _ ⟨a', c', rfl, hts, rfl⟩; (try simp only [List.eraseIdx_cons_succ]); (try simp only [List.eraseIdx_cons_zero]))) <;> (try refine G_op1 ?_; (refine K1_alloc (t := 166) rfl Tryz.zeroValue166 ?_; intro nb hnb; (try simp only [Value.cells]))) <;> (try refine G_op1 ?_; (refine q_W ?_)) <;> (try refine G_nil ?_)) | (refine G_region (id := 2) ?_ <;> (try refine q_e (q_f fo_166_1) ?_) <;> (try refine q_e q_l ?_) <;> (try refine G_nil ?_)) | (refine G_region (id := 3) ?_ <;> (try refine q_e (q_b (r := by apply rb_streq_n; (focus (decide)))) ?_) <;> (try refine q_a ?_) <;> (try refine G_nil ?_)) | (refine G_region (id := 5) ?_ <;> (try refine q_e (q_b (r := by apply rb_streq_n; (focus (decide)))) ?_) <;> (try refine q_a ?_) <;> (try refine G_nil ?_)) | (refine G_region (id := 7) ?_ <;> (try refine q_e (q_b (r := by apply rb_streq_n; (focus (decide)))) ?_) <;> (try refine q_a ?_) <;> (try refine G_nil ?_)) | (refine G_region (id := 9) ?_ <;> (try refine q_e (q_b (r := by exact rb_streq_s)) ?_) <;> (try refine q_a ?_) <;> (try refine G_nil ?_)) | (refine G_region (id := 10) ?_ <;> (try refine q_m ?_) <;> (try refine G_op1 ?_; (refine q_c 53 (c := by apply htk; exact c_9; exact c_9; (with_reducible assumption)) (h := ?_); rintro _ _ ⟨a', c', rfl, hts, rfl⟩; (try simp only [List.eraseIdx_cons_succ]); (try simp only [List.eraseIdx_cons_zero]))) <;> (try refine G_op1 ?_; (refine K1_alloc (t := 166) rfl Tryz.zeroValue166 ?_; intro nb hnb; (try simp only [Value.cells]))) <;> (try refine G_op1 ?_; (refine q_W ?_)) <;> (try refine G_nil ?_)) | (refine G_region (id := 11) ?_ <;> (try refine q_m ?_) <;> (try refine q_n ?_) <;> (try refine q_e (q_f fo_85_2) ?_) <;> (try refine q_e (q_L sz_25) ?_) <;> (try refine q_e (by exact E_build (t := 25) (fun vs => (match vs with | [] => [Value.int .i64 0, Value.int .i64 0, Value.int .i64 0] | _ => [])) rfl (fun w => by kernel_rfl)) ?_; (try simp only [Value.cells]); (try simp only [List.cons_append]); (try simp only [List.nil_append])) <;> (try refine q_e (by apply E_bin_agg (op := .eql) (t := 25); exact rfl; exact rfl; kernel_rfl; (with_reducible assumption)) ?_) <;> (try refine q_m ?_) <;> (try refine q_y (q_f fo_166_2) ?_) <;> (try refine q_y q_l ?_) <;> (try refine q_y (q_b (r := by exact rb_lss_t q_o)) ?_) <;> (try refine q_y (E_move rfl) ?_) <;> (try refine q_z ?_) <;> (try refine q_z ?_) <;> (try refine q_z ?_) <;> (try refine q_y (E_pick rfl rfl) ?_) <;> (try refine q_p ?_) <;> (try refine G_nil ?_)) | (refine G_region (id := 12) ?_ <;> (try refine q_m ?_) <;> (try refine q_e (q_L sz_166) ?_) <;> (try refine G_op1 ?_; (refine q_c 52 (c := by apply hfl; exact c_9) (h := ?_); rintro _ _ ⟨rfl, rfl⟩; (try simp only [List.eraseIdx_cons_succ]); (try simp only [List.eraseIdx_cons_zero]))) <;> (try refine G_nil ?_)) | (refine G_region (id := 13) ?_ <;> (try refine q_a ?_) <;> (try refine G_nil ?_)))
        (refine G_done Tryz.results54 (.tmp rfl .nil) ?_)
        exact ⟨_, ⟨a', c', rfl, hts, rfl⟩, by intro w H; refine Sel.out ?_ H; (try simp only [List.cons_append, List.nil_append]); repeat (first | exact Sel.refl _ | (apply Sel.cons; exact c_29; (try simp only [List.eraseIdx_cons_succ]); (try simp only [List.eraseIdx_cons_zero])) | apply Sel.drop)⟩
      · by_cases hr2 : 4095 < nnu
        · rw [if_pos ⟨hz, Or.inr hr2⟩]
          obtain ⟨e1, e2, e3⟩ := fw
          clear hz
          refine Fn1 Tryz.func54 Tryz.ntmps54 rfl rfl ?_
          repeat' (first | refine G_seq ?_ | refine G_then_n ?_ | refine G_then_r ?_ | refine G_blk_r ?_ | refine G_block ?_ | refine G_ret ?_ | refine G_cond_t rfl ?_ | refine G_cond_f rfl ?_ | (refine G_region (id := 0) ?_ <;> (try refine q_a ?_) <;> (try refine G_nil ?_)) | (refine G_region (id := 1) ?_ <;> (try refine q_m ?_) <;> (try refine G_op1 ?_; (refine q_c 51 (c := by apply hwd; exact c_12; exact c_12) (h := ?_); rintro _ _ ⟨a', c', rfl, hts, rfl⟩; (try simp only [List.eraseIdx_cons_succ]); (try simp only [List.eraseIdx_cons_zero]))) <;> (try refine G_op1 ?_; (refine K1_alloc (t := 166) rfl Tryz.zeroValue166 ?_; intro nb hnb; (try simp only [Value.cells]))) <;> (try refine G_op1 ?_; (refine q_W ?_)) <;> (try refine G_nil ?_)) | (refine G_region (id := 2) ?_ <;> (try refine q_e (q_f fo_166_1) ?_) <;> (try refine q_e q_l ?_) <;> (try refine G_nil ?_)) | (refine G_region (id := 3) ?_ <;> (try refine q_e (q_b (r := by apply rb_streq_n; (focus (decide)))) ?_) <;> (try refine q_a ?_) <;> (try refine G_nil ?_)) | (refine G_region (id := 5) ?_ <;> (try refine q_e (q_b (r := by apply rb_streq_n; (focus (decide)))) ?_) <;> (try refine q_a ?_) <;> (try refine G_nil ?_)) | (refine G_region (id := 7) ?_ <;> (try refine q_e (q_b (r := by apply rb_streq_n; (focus (decide)))) ?_) <;> (try refine q_a ?_) <;> (try refine G_nil ?_)) | (refine G_region (id := 9) ?_ <;> (try refine q_e (q_b (r := by exact rb_streq_s)) ?_) <;> (try refine q_a ?_) <;> (try refine G_nil ?_)) | (refine G_region (id := 10) ?_ <;> (try refine q_m ?_) <;> (try refine G_op1 ?_; (refine q_c 53 (c := by apply htk; exact c_9; exact c_9; (with_reducible assumption)) (h := ?_); rintro _ _ ⟨a', c', rfl, hts, rfl⟩; (try simp only [List.eraseIdx_cons_succ]); (try simp only [List.eraseIdx_cons_zero]))) <;> (try refine G_op1 ?_; (refine K1_alloc (t := 166) rfl Tryz.zeroValue166 ?_; intro nb hnb; (try simp only [Value.cells]))) <;> (try refine G_op1 ?_; (refine q_W ?_)) <;> (try refine G_nil ?_)) | (refine G_region (id := 11) ?_ <;> (try refine q_m ?_) <;> (try refine q_n ?_) <;> (try refine q_e (q_f fo_85_2) ?_) <;> (try refine q_e (q_L sz_25) ?_) <;> (try refine q_e (by exact E_build (t := 25) (fun vs => (match vs with | [] => [Value.int .i64 0, Value.int .i64 0, Value.int .i64 0] | _ => [])) rfl (fun w => by kernel_rfl)) ?_; (try simp only [Value.cells]); (try simp only [List.cons_append]); (try simp only [List.nil_append])) <;> (try refine q_e (by apply E_bin_agg (op := .eql) (t := 25); exact rfl; exact rfl; kernel_rfl; (with_reducible assumption)) ?_) <;> (try refine q_m ?_) <;> (try refine q_y (q_f fo_166_2) ?_) <;> (try refine q_y q_l ?_) <;> (try refine q_y (q_b (r := by exact rb_lss_f q_o)) ?_) <;> (try refine q_y (E_move rfl) ?_) <;> (try refine q_y (q_f fo_166_2) ?_) <;> (try refine q_y q_l ?_) <;> (try refine q_y (q_b (r := by exact rb_gtr_t q_o)) ?_) <;> (try refine q_y (E_pick rfl rfl) ?_) <;> (try refine q_p ?_) <;> (try refine G_nil ?_)) | (refine G_region (id := 12) ?_ <;> (try refine q_m ?_) <;> (try refine q_e (q_L sz_166) ?_) <;> (try refine G_op1 ?_; (refine q_c 52 (c := by apply hfl; exact c_9) (h := ?_); rintro _ _ ⟨rfl, rfl⟩; (try simp only [List.eraseIdx_cons_succ]); (try simp only [List.eraseIdx_cons_zero]))) <;> (try refine G_nil ?_)) | (refine G_region (id := 13) ?_ <;> (try refine q_a ?_) <;> (try refine G_nil ?_)))
          (refine G_done Tryz.results54 (.tmp rfl .nil) ?_)
          exact ⟨_, ⟨a', c', rfl, hts, rfl⟩, by intro w H; refine Sel.out ?_ H; (try simp only [List.cons_append, List.nil_append]); repeat (first | exact Sel.refl _ | (apply Sel.cons; exact c_29; (try simp only [List.eraseIdx_cons_succ]); (try simp only [List.eraseIdx_cons_zero])) | apply Sel.drop)⟩
        · rw [if_neg (fun h => h.2.elim hr hr2)]
          rw [IntWalk.i64_in (nnu : Int) (by omega)] at hrf ⊢
          clear hz
          refine Fn1 Tryz.func54 Tryz.ntmps54 rfl rfl ?_
          repeat' (first | refine G_seq ?_ | refine G_then_n ?_ | refine G_then_r ?_ | refine G_blk_r ?_ | refine G_block ?_ | refine G_skip ?_ | refine G_ret ?_ | refine G_cond_t rfl ?_ | refine G_cond_f rfl ?_ | (refine G_region (id := 0) ?_ <;> (try refine q_a ?_) <;> (try refine G_nil ?_)) | (refine G_region (id := 1) ?_ <;> (try refine q_m ?_) <;> (try refine G_op1 ?_; (refine q_c 51 (c := by apply hwd; exact c_12; exact c_12) (h := ?_); rintro _ _ ⟨a', c', rfl, hts, rfl⟩; (try simp only [List.eraseIdx_cons_succ]); (try simp only [List.eraseIdx_cons_zero]))) <;> (try refine G_op1 ?_; (refine K1_alloc (t := 166) rfl Tryz.zeroValue166 ?_; intro nb hnb; (try simp only [Value.cells]))) <;> (try refine G_op1 ?_; (refine q_W ?_)) <;> (try refine G_nil ?_)) | (refine G_region (id := 2) ?_ <;> (try refine q_e (q_f fo_166_1) ?_) <;> (try refine q_e q_l ?_) <;> (try refine G_nil ?_)) | (refine G_region (id := 3) ?_ <;> (try refine q_e (q_b (r := by apply rb_streq_n; (focus (decide)))) ?_) <;> (try refine q_a ?_) <;> (try refine G_nil ?_)) | (refine G_region (id := 5) ?_ <;> (try refine q_e (q_b (r := by apply rb_streq_n; (focus (decide)))) ?_) <;> (try refine q_a ?_) <;> (try refine G_nil ?_)) | (refine G_region (id := 7) ?_ <;> (try refine q_e (q_b (r := by apply rb_streq_n; (focus (decide)))) ?_) <;> (try refine q_a ?_) <;> (try refine G_nil ?_)) | (refine G_region (id := 9) ?_ <;> (try refine q_e (q_b (r := by exact rb_streq_s)) ?_) <;> (try refine q_a ?_) <;> (try refine G_nil ?_)) | (refine G_region (id := 10) ?_ <;> (try refine q_m ?_) <;> (try refine G_op1 ?_; (refine q_c 53 (c := by apply htk; exact c_9; exact c_9; (with_reducible assumption)) (h := ?_); rintro _ _ ⟨a', c', rfl, hts, rfl⟩; (try simp only [List.eraseIdx_cons_succ]); (try simp only [List.eraseIdx_cons_zero]))) <;> (try refine G_op1 ?_; (refine K1_alloc (t := 166) rfl Tryz.zeroValue166 ?_; intro nb hnb; (try simp only [Value.cells]))) <;> (try refine G_op1 ?_; (refine q_W ?_)) <;> (try refine G_nil ?_)) | (refine G_region (id := 11) ?_ <;> (try refine q_m ?_) <;> (try refine q_n ?_) <;> (try refine q_e (q_f fo_85_2) ?_) <;> (try refine q_e (q_L sz_25) ?_) <;> (try refine q_e (by exact E_build (t := 25) (fun vs => (match vs with | [] => [Value.int .i64 0, Value.int .i64 0, Value.int .i64 0] | _ => [])) rfl (fun w => by kernel_rfl)) ?_; (try simp only [Value.cells]); (try simp only [List.cons_append]); (try simp only [List.nil_append])) <;> (try refine q_e (by apply E_bin_agg (op := .eql) (t := 25); exact rfl; exact rfl; kernel_rfl; (with_reducible assumption)) ?_) <;> (try refine q_m ?_) <;> (try refine q_y (q_f fo_166_2) ?_) <;> (try refine q_y q_l ?_) <;> (try refine q_y (q_b (r := by exact rb_lss_f q_o)) ?_) <;> (try refine q_y (E_move rfl) ?_) <;> (try refine q_y (q_f fo_166_2) ?_) <;> (try refine q_y q_l ?_) <;> (try refine q_y (q_b (r := by exact rb_gtr_f q_o)) ?_) <;> (try refine q_y (E_pick rfl rfl) ?_) <;> (try refine q_p ?_) <;> (try refine G_nil ?_)) | (refine G_region (id := 14) ?_ <;> (try refine q_e (q_f fo_166_2) ?_) <;> (try refine q_e q_l ?_) <;> (try refine q_e (by apply E_conv; exact rfl; (focus (apply r_conv Tryz.underlying97 Tryz.underlying23; first | (refine IntWalk.i64_in _ ?_; omega) | (refine IntWalk.u8_in _ ?_; omega) | (refine IntWalk.u16_in _ ?_; omega) | (refine IntWalk.u32_in _ ?_; omega) | (refine IntWalk.u64_in _ ?_; omega) | (refine IntWalk.i32_in _ ?_; omega) | exact rfl))) ?_) <;> (try refine G_op1 ?_; (refine q_c 56 (c := by apply hrf) (h := ?_); rintro _ _ ⟨rfl, rfl⟩; (try simp only [List.eraseIdx_cons_succ]); (try simp only [List.eraseIdx_cons_zero]))) <;> (try refine q_a ?_) <;> (try refine G_nil ?_)))
          (refine G_done Tryz.results54 (.tmp rfl .nil) ?_)
          exact ⟨_, ⟨a', c', rfl, hts, rfl⟩, by intro w H; refine Sel.out ?_ H; (try simp only [List.cons_append, List.nil_append]); repeat (first | exact Sel.refl _ | (apply Sel.cons; exact c_29; (try simp only [List.eraseIdx_cons_succ]); (try simp only [List.eraseIdx_cons_zero])) | apply Sel.drop)⟩
    · rw [decide_eq_false hz] at hq
      rw [if_neg (fun h => hz h.1)]
      clear hz
      refine Fn1 Tryz.func54 Tryz.ntmps54 rfl rfl ?_
      repeat' (first | refine G_seq ?_ | refine G_then_n ?_ | refine G_then_r ?_ | refine G_blk_r ?_ | refine G_block ?_ | refine G_skip ?_ | refine G_ret ?_ | refine G_cond_t rfl ?_ | refine G_cond_f rfl ?_ | (refine G_region (id := 0) ?_ <;> (try refine q_a ?_) <;> (try refine G_nil ?_)) | (refine G_region (id := 1) ?_ <;> (try refine q_m ?_) <;> (try refine G_op1 ?_; (refine q_c 51 (c := by apply hwd; exact c_12; exact c_12) (h := ?_); rintro _ _ ⟨a', c', rfl, hts, rfl⟩; (try simp only [List.eraseIdx_cons_succ]); (try simp only [List.eraseIdx_cons_zero]))) <;> (try refine G_op1 ?_; (refine K1_alloc (t := 166) rfl Tryz.zeroValue166 ?_; intro nb hnb; (try simp only [Value.cells]))) <;> (try refine G_op1 ?_; (refine q_W ?_)) <;> (try refine G_nil ?_)) | (refine G_region (id := 2) ?_ <;> (try refine q_e (q_f fo_166_1) ?_) <;> (try refine q_e q_l ?_) <;> (try refine G_nil ?_)) | (refine G_region (id := 3) ?_ <;> (try refine q_e (q_b (r := by apply rb_streq_n; (focus (decide)))) ?_) <;> (try refine q_a ?_) <;> (try refine G_nil ?_)) | (refine G_region (id := 5) ?_ <;> (try refine q_e (q_b (r := by apply rb_streq_n; (focus (decide)))) ?_) <;> (try refine q_a ?_) <;> (try refine G_nil ?_)) | (refine G_region (id := 7) ?_ <;> (try refine q_e (q_b (r := by apply rb_streq_n; (focus (decide)))) ?_) <;> (try refine q_a ?_) <;> (try refine G_nil ?_)) | (refine G_region (id := 9) ?_ <;> (try refine q_e (q_b (r := by exact rb_streq_s)) ?_) <;> (try refine q_a ?_) <;> (try refine G_nil ?_)) | (refine G_region (id := 10) ?_ <;> (try refine q_m ?_) <;> (try refine G_op1 ?_; (refine q_c 53 (c := by apply htk; exact c_9; exact c_9; (with_reducible assumption)) (h := ?_); rintro _ _ ⟨a', c', rfl, hts, rfl⟩; (try simp only [List.eraseIdx_cons_succ]); (try simp only [List.eraseIdx_cons_zero]))) <;> (try refine G_op1 ?_; (refine K1_alloc (t := 166) rfl Tryz.zeroValue166 ?_; intro nb hnb; (try simp only [Value.cells]))) <;> (try refine G_op1 ?_; (refine q_W ?_)) <;> (try refine G_nil ?_)) | (refine G_region (id := 11) ?_ <;> (try refine q_m ?_) <;> (try refine q_n ?_) <;> (try refine q_e (q_f fo_85_2) ?_) <;> (try refine q_e (q_L sz_25) ?_) <;> (try refine q_e (by exact E_build (t := 25) (fun vs => (match vs with | [] => [Value.int .i64 0, Value.int .i64 0, Value.int .i64 0] | _ => [])) rfl (fun w => by kernel_rfl)) ?_; (try simp only [Value.cells]); (try simp only [List.cons_append]); (try simp only [List.nil_append])) <;> (try refine q_e (by apply E_bin_agg (op := .eql) (t := 25); exact rfl; exact rfl; kernel_rfl; (with_reducible assumption)) ?_) <;> (try refine q_m ?_) <;> (try refine q_z ?_) <;> (try refine q_z ?_) <;> (try refine q_z ?_) <;> (try refine q_z ?_) <;> (try refine G_op1 ?_; (refine K1_nou rfl rfl rfl ?_)) <;> (try refine G_op1 ?_; (refine K1_nou rfl rfl rfl ?_)) <;> (try refine G_op1 ?_; (refine K1_nou rfl rfl rfl ?_)) <;> (try refine q_z ?_) <;> (try refine q_p ?_) <;> (try refine G_nil ?_)) | (refine G_region (id := 14) ?_ <;> (try refine q_e (q_f fo_166_2) ?_) <;> (try refine q_e q_l ?_) <;> (try refine q_e (by apply E_conv; exact rfl; (focus (apply r_conv Tryz.underlying97 Tryz.underlying23; first | (refine IntWalk.i64_in _ ?_; omega) | (refine IntWalk.u8_in _ ?_; omega) | (refine IntWalk.u16_in _ ?_; omega) | (refine IntWalk.u32_in _ ?_; omega) | (refine IntWalk.u64_in _ ?_; omega) | (refine IntWalk.i32_in _ ?_; omega) | exact rfl))) ?_) <;> (try refine G_op1 ?_; (refine q_c 56 (c := by apply hrf) (h := ?_); rintro _ _ ⟨rfl, rfl⟩; (try simp only [List.eraseIdx_cons_succ]); (try simp only [List.eraseIdx_cons_zero]))) <;> (try refine q_a ?_) <;> (try refine G_nil ?_)))
      (refine G_done Tryz.results54 (.tmp rfl .nil) ?_)
      exact ⟨_, ⟨a', c', rfl, hts, rfl⟩, by intro w H; refine Sel.out ?_ H; (try simp only [List.cons_append, List.nil_append]); repeat (first | exact Sel.refl _ | (apply Sel.cons; exact c_29; (try simp only [List.eraseIdx_cons_succ]); (try simp only [List.eraseIdx_cons_zero])) | apply Sel.drop)⟩
  · rw [if_neg k4]
    obtain ⟨o1, o2, o3, o4, o5, o6, o7, o8⟩ := o
    obtain ⟨tk, tx, nu, li, co⟩ := t
    dsimp only [Tk.cells] at *
    have n1 := text_ne k1
    have n2 := text_ne k2
    have n3 := text_ne k3
    have n4 := text_ne k4
    clear k1 k2 k3 k4
    generalize failW (f1, f2, f3) _ 202 = fw at *
    obtain ⟨g1, g2, g3⟩ := fw
    refine Fn1 Tryz.func54 Tryz.ntmps54 rfl rfl ?_
    repeat' (first | refine G_seq ?_ | refine G_then_n ?_ | refine G_blk_n ?_ | refine G_block ?_ | refine G_skip ?_ | refine G_ret ?_ | refine G_cond_f rfl ?_ | (refine G_region (id := 0) ?_ <;> (try refine q_a ?_) <;> (try refine G_nil ?_)) | (refine G_region (id := 1) ?_ <;> (try refine q_m ?_) <;> (try refine G_op1 ?_; (refine q_c 51 (c := by apply hwd; exact c_12; exact c_12) (h := ?_); rintro _ _ ⟨a', c', rfl, hts, rfl⟩; (try simp only [List.eraseIdx_cons_succ]); (try simp only [List.eraseIdx_cons_zero]))) <;> (try refine G_op1 ?_; (refine K1_alloc (t := 166) rfl Tryz.zeroValue166 ?_; intro nb hnb; (try simp only [Value.cells]))) <;> (try refine G_op1 ?_; (refine q_W ?_)) <;> (try refine G_nil ?_)) | (refine G_region (id := 2) ?_ <;> (try refine q_e (q_f fo_166_1) ?_) <;> (try refine q_e q_l ?_) <;> (try refine G_nil ?_)) | (refine G_region (id := 3) ?_ <;> (try refine q_e (q_b (r := by apply rb_streq_n; exact decide_eq_false (by assumption))) ?_) <;> (try refine q_a ?_) <;> (try refine G_nil ?_)) | (refine G_region (id := 5) ?_ <;> (try refine q_e (q_b (r := by apply rb_streq_n; exact decide_eq_false (by assumption))) ?_) <;> (try refine q_a ?_) <;> (try refine G_nil ?_)) | (refine G_region (id := 7) ?_ <;> (try refine q_e (q_b (r := by apply rb_streq_n; exact decide_eq_false (by assumption))) ?_) <;> (try refine q_a ?_) <;> (try refine G_nil ?_)) | (refine G_region (id := 9) ?_ <;> (try refine q_e (q_b (r := by apply rb_streq_n; exact decide_eq_false (by assumption))) ?_) <;> (try refine q_a ?_) <;> (try refine G_nil ?_)) | (refine G_region (id := 15) ?_ <;> (try refine q_m ?_) <;> (try refine q_e (q_L sz_166) ?_) <;> (try refine G_op1 ?_; (refine q_c 52 (c := by apply hfl; exact c_9) (h := ?_); rintro _ _ ⟨rfl, rfl⟩; (try simp only [List.eraseIdx_cons_succ]); (try simp only [List.eraseIdx_cons_zero]))) <;> (try refine G_nil ?_)) | (refine G_region (id := 16) ?_ <;> (try refine q_a ?_) <;> (try refine G_nil ?_)))
    (refine G_done Tryz.results54 (.tmp rfl .nil) ?_)
    exact ⟨_, ⟨a', c', rfl, hts, rfl⟩, by intro w H; refine Sel.out ?_ H; (try simp only [List.cons_append, List.nil_append]); repeat (first | exact Sel.refl _ | (apply Sel.cons; exact c_29; (try simp only [List.eraseIdx_cons_succ]); (try simp only [List.eraseIdx_cons_zero])) | apply Sel.drop)⟩
end Go.Proofs.YtecbgehooembmaaGreatDoor
namespace Go.Proofs.YtecbgehooembmaaGreatDoor
open Go Go.RowKit
theorem rb_streq_q {P : Program} {t : TypeId} {x y : ByteArray} (h : x = y) : RBin P .eql t (.string x) (.string y) (.bool true) := by
  subst h; exact rb_streq_s
abbrev sgV : List Value := [.string ⟨#[]⟩, .string ⟨#[61, 61]⟩, .string ⟨#[33, 61]⟩, .string ⟨#[60]⟩, .string ⟨#[60, 61]⟩, .string ⟨#[62]⟩, .string ⟨#[62, 61]⟩]
set_option maxRecDepth 100000 in
theorem signs_c {S w0 L} : Fn Tryz.prog 89 #[] S w0 L fun v L' => v = .agg sgV.toArray ∧ L = L' := by
  refine Fn0 Tryz.func89 Tryz.ntmps89 rfl ?_
  repeat' (first | refine G_seq ?_ | refine G_then_n ?_ | refine G_ret ?_ | (refine G_region (id := 0) ?_ <;> (try refine G_op1 ?_; (refine K1_alloc (t := 193) rfl Tryz.zeroValue193 ?_; intro nb hnb; (try simp only [Value.cells]))) <;> (try refine G_nil ?_)) | (refine G_region (id := 1) ?_ <;> (try refine q_e (by exact E_build (t := 193) (fun vs => (match vs with | [(_, x0), (_, x1), (_, x2), (_, x3), (_, x4), (_, x5), (_, x6)] => [x0, x1, x2, x3, x4, x5, x6] | _ => [])) rfl (fun w => by kernel_rfl)) ?_; (try simp only [Value.cells]); (try simp only [List.cons_append]); (try simp only [List.nil_append])) <;> (try refine G_op1 ?_; (refine q_W ?_)) <;> (try refine G_nil ?_)))
  (apply G_doneA Tryz.results89; exact rfl; (focus (repeat (first | exact fd0 | (with_reducible assumption) | apply fdA | apply fdS))); kernel_rfl; kernel_rfl; exact sz_193; exact c_16)
  exact ⟨_, ⟨rfl, rfl⟩, by intro w H; refine H.sub ?_; (try simp only [List.cons_append, List.nil_append]); repeat (first | exact List.Sublist.refl _ | refine List.Sublist.cons _ ?_)⟩
set_option maxRecDepth 100000 in
theorem psign_c {S w0 L} (o : Nat) (h1 : 1 ≤ o) (h2 : o ≤ 7) : Fn Tryz.prog 61 #[.int .u8 (o : Nat)] S w0 L fun v L' => v = .string (mB8 (sgns.getD (o - 1) [])) ∧ L = L' := by
  by_cases h7 : o = 7
  · subst h7
    refine Fn1 Tryz.func61 Tryz.ntmps61 rfl rfl ?_
    repeat' (first | refine G_seq ?_ | refine G_then_n ?_ | refine G_then_r ?_ | refine G_ret ?_ | refine G_cond_t rfl ?_ | (refine G_region (id := 0) ?_ <;> (try refine q_a ?_) <;> (try refine G_nil ?_)) | (refine G_region (id := 1) ?_ <;> (try refine q_m ?_) <;> (try refine q_e (by exact q_b (r := by refine rb_eql_t' ?_; first | rfl | (with_reducible assumption) | (decide; done) | omega)) ?_) <;> (try refine G_nil ?_)) | (refine G_region (id := 2) ?_ <;> (try refine q_a ?_) <;> (try refine G_nil ?_)))
    (refine G_done Tryz.results61 (.tmp rfl .nil) ?_)
    exact ⟨_, ⟨rfl, rfl⟩, by intro w H; refine H.sub ?_; (try simp only [List.cons_append, List.nil_append]); repeat (exact List.Sublist.refl _)⟩
  · have hv : sgV.toArray.toList[((o : Nat) : Int).toNat]? = some (.string (mB8 (sgns.getD (o - 1) []))) := by
      rw [Int.toNat_natCast]
      obtain rfl | rfl | rfl | rfl | rfl | rfl : o = 1 ∨ o = 2 ∨ o = 3 ∨ o = 4 ∨ o = 5 ∨ o = 6 := by omega
      all_goals rfl
    generalize mB8 (sgns.getD (o - 1) []) = z at *
    refine Fn1 Tryz.func61 Tryz.ntmps61 rfl rfl ?_
    repeat' (first | refine G_seq ?_ | refine G_then_n ?_ | refine G_skip ?_ | refine G_ret ?_ | refine G_cond_f rfl ?_ | (refine G_region (id := 0) ?_ <;> (try refine q_a ?_) <;> (try refine G_nil ?_)) | (refine G_region (id := 1) ?_ <;> (try refine q_m ?_) <;> (try refine q_e (q_b (r := by exact rb_eql_f q_o)) ?_) <;> (try refine G_nil ?_)) | (refine G_region (id := 3) ?_ <;> (try refine q_m ?_) <;> (try refine q_e (q_b (r := by exact rb_lss_f q_o)) ?_) <;> (try refine q_m ?_) <;> (try refine q_y (E_move rfl) ?_) <;> (try refine q_y (q_b (r := by exact rb_gtr_f q_o)) ?_) <;> (try refine q_p ?_) <;> (try refine G_nil ?_)) | (refine G_region (id := 5) ?_ <;> (try refine G_op1 ?_; (refine q_c 89 (c := by apply signs_c) (h := ?_); rintro _ _ ⟨rfl, rfl⟩; (try simp only [List.eraseIdx_cons_succ]); (try simp only [List.eraseIdx_cons_zero]))) <;> (try refine q_m ?_) <;> (try refine q_e (by apply E_index; exact rfl; exact rfl; (focus (apply r_ixv Tryz.underlying193; kernel_rfl; kernel_rfl; exact sz_9; omega; omega; (with_reducible assumption)))) ?_) <;> (try refine q_a ?_) <;> (try refine G_nil ?_)))
    (refine G_done Tryz.results61 (.tmp rfl .nil) ?_)
    exact ⟨_, ⟨rfl, rfl⟩, by intro w H; refine H.sub ?_; (try simp only [List.cons_append, List.nil_append]); repeat (exact List.Sublist.refl _)⟩
end Go.Proofs.YtecbgehooembmaaGreatDoor
namespace Go.Proofs.YtecbgehooembmaaGreatDoor
open Go Go.RowKit
abbrev cdB (n : Nat) (c : Cnd) : Blk := ⟨true, n, .cells c.cells.toArray 99 (0, 0)⟩
abbrev tkBl (n : Nat) (t : Tk) : Blk := ⟨true, n, .cells t.cells.toArray 166 (0, 0)⟩
theorem argOf_some {t : List UInt8} {k : Nat} (h : argOf t = some k) : (mB8 t).size = 4 ∧ (mB8 t).extract 0 3 = ⟨#[97, 114, 103]⟩ ∧ ∃ d : UInt8, (mB8 t)[(3 : Int).toNat]? = some d ∧ 48 ≤ d.toNat ∧ d.toNat ≤ 53 ∧ k = d.toNat - 48 := by
  unfold argOf at h
  split at h
  · rename_i hc
    obtain ⟨h1, h2, h3, h4⟩ := hc
    obtain rfl := Option.some.inj h
    refine ⟨by rw [mB8_size]; exact h1, ?_, t.getD 3 0, ?_, h3, h4, rfl⟩
    · have := ext_mid (mB8 t) 0 3
      rw [lB_mB8, List.drop_zero, h2] at this
      exact this
    · have e : t = [t.getD 0 0, t.getD 1 0, t.getD 2 0, t.getD 3 0] := by
        match t, h1 with
        | [a, b, c, d], _ => rfl
      rw [e]; rfl
  · cases h
theorem argOf_none {t : List UInt8} (h : argOf t = none) : ¬ (mB8 t).size = 4 ∨ (mB8 t).size = 4 ∧ (¬ (mB8 t).extract 0 3 = ⟨#[97, 114, 103]⟩ ∨ (mB8 t).extract 0 3 = ⟨#[97, 114, 103]⟩ ∧ ∃ d : UInt8, (mB8 t)[(3 : Int).toNat]? = some d ∧ (d.toNat < 48 ∨ 53 < d.toNat)) := by
  unfold argOf at h
  split at h
  · cases h
  · rename_i hc
    by_cases h1 : t.length = 4
    · refine Or.inr ⟨by rw [mB8_size]; exact h1, ?_⟩
      have hx : (mB8 t).extract 0 3 = mB8 (t.take 3) := by
        have := ext_mid (mB8 t) 0 3
        rw [lB_mB8, List.drop_zero] at this
        exact this
      by_cases h2 : t.take 3 = [97, 114, 103]
      · refine Or.inr ⟨by rw [hx, h2]; rfl, t.getD 3 0, ?_, ?_⟩
        · have e : t = [t.getD 0 0, t.getD 1 0, t.getD 2 0, t.getD 3 0] := by
            match t, h1 with
            | [a, b, c, d], _ => rfl
          rw [e]; rfl
        · by_cases h3 : 48 ≤ (t.getD 3 0).toNat
          · by_cases h4 : (t.getD 3 0).toNat ≤ 53
            · exact absurd ⟨h1, h2, h3, h4⟩ hc
            · exact Or.inr (by omega)
          · exact Or.inl (by omega)
      · exact Or.inl (fun h3 => h2 (by rw [hx] at h3; rw [← lB_mB8 (t.take 3), h3]; rfl))
    · exact Or.inl (by rw [mB8_size]; exact h1)
theorem opU_le (t : List UInt8) (n : Nat) : opU t n ≤ n := by
  induction n with
  | zero => exact Nat.le_refl _
  | succ n ih =>
    unfold opU
    split
    · exact Nat.le_refl _
    · omega
theorem opU_sc (t : List UInt8) (n : Nat) : opU t (n + 1) = if sgns.getD n [] = t then n + 1 else opU t n := rfl
theorem mskF_ok {op : Nat} {s : PS} (h : ∀ t ∈ s.1, TkOk t) : (mskF op s).1 < 18446744073709551616 ∧ ∀ t ∈ (mskF op s).2.1, TkOk t := by
  unfold mskF
  split
  · have h1 := takeF_ok (k := 2) h
    have h2 := takeF_ok (k := 4) h1.2
    exact ⟨h1.1.num, h2.2⟩
  · exact ⟨Nat.zero_lt_succ _, h⟩
set_option maxRecDepth 100000 in
set_option maxHeartbeats 2000000 in
theorem cond_c {S w0 L} (b : Nat) (p : Value) (a : Option Addr) (c : Nat) (l : List Tk) (w : Wr) (o : O8) (x : Blk) (h : TkS x a c l) :
    Fn Tryz.prog 99 #[.pointer (some ⟨b, 0, none⟩)] S w0 (rdB b p a l.length c w o :: x :: L) fun v L' => ∃ a' c', v = .agg (cndF (l, w)).1.cells.toArray ∧ TkS x a' c' (cndF (l, w)).2.1 ∧ rdB b p a' (cndF (l, w)).2.1.length c' (cndF (l, w)).2.2 o :: x :: L = L' := by
  have hwd := fun (L : List Blk) (i j : Nat) h1 h2 => word_d (S := S) (w0 := w0) (L := L) (i := i) (j := j) (b := b) (c := c) (p := p) (a := a) (l := l) (w := w) (o := o) (x := x) h1 h2 h
  have hok0 := wordT_ok (s := (l, w)) h.ok
  unfold cndF argW
  generalize wordT (l, w) = T at *
  obtain ⟨t, r, f1, f2, f3⟩ := T
  dsimp only at *
  clear h
  have hfl := fun (L : List Blk) (i : Nat) (a' : Option Addr) (c' : Nat) h1 => fail_d (S := S) (w0 := w0) (L := L) (i := i) (b := b) (n := r.length) (c := c') (p := p) (a := a') (w := (f1, f2, f3)) (o := o) h1 t 202
  obtain ⟨o1, o2, o3, o4, o5, o6, o7, o8⟩ := o
  obtain ⟨tk, tx, nu, li, co⟩ := t
  dsimp only [Tk.cells] at *
  have hok1 := hok0.2
  clear hok0
  generalize failW (f1, f2, f3) _ 202 = fw at *
  obtain ⟨e1, e2, e3⟩ := fw
  refine Fn1 Tryz.func99 Tryz.ntmps99 rfl rfl ?_
  repeat' (first | (refine G_markr (id := 1) ?_) | refine G_seq ?_ | refine G_then_n ?_ | (refine G_region (id := 0) ?_ <;> (try refine G_op1 ?_; (refine K1_alloc (t := 99) rfl Tryz.zeroValue99 ?_; intro nb hnb; (try simp only [Value.cells]))) <;> (try refine G_nil ?_)))
  refine ⟨?_⟩
  obtain ⟨nbR, rfl⟩ : ∃ x, x = nb := ⟨_, rfl⟩
  repeat' (first | (refine G_markr (id := 2) ?_) | refine G_seq ?_ | refine G_then_n ?_ | (refine G_region (id := 1) ?_ <;> (try refine q_m ?_) <;> (try refine G_op1 ?_; (refine q_c 51 (c := by apply hwd; exact c_9; exact c_9) (h := ?_); rintro _ _ ⟨a1, c1, rfl, hts, rfl⟩; (try simp only [List.eraseIdx_cons_succ]); (try simp only [List.eraseIdx_cons_zero]))) <;> (try refine G_op1 ?_; (refine K1_alloc (t := 166) rfl Tryz.zeroValue166 ?_; intro nb hnb; (try simp only [Value.cells]))) <;> (try refine G_op1 ?_; (refine q_W ?_)) <;> (try refine G_nil ?_)))
  refine ⟨?_⟩
  obtain ⟨nbT, rfl⟩ : ∃ x, x = nb := ⟨_, rfl⟩
  repeat' (first | (refine G_markr (id := 3) ?_) | refine G_seq ?_ | refine G_then_n ?_ | (refine G_region (id := 2) ?_ <;> (try refine G_op1 ?_; (refine K1_alloc (t := 99) rfl Tryz.zeroValue99 ?_; intro nb hnb; (try simp only [Value.cells]))) <;> (try refine G_nil ?_)))
  refine ⟨?_⟩
  obtain ⟨nbC, rfl⟩ : ∃ x, x = nb := ⟨_, rfl⟩
  refine G_meetk (γ := Bool) (fun q => q = (argOf tx).isSome) (fun q => [(33, .bool q)]) [(0, _), (2, _), (3, _), (4, _)]
    (fun _ => cdB nbC ⟨0, 0, 0, 0⟩ :: tkBl nbT ⟨tk, tx, nu, li, co⟩ :: rdB b p a1 r.length c1 (f1, f2, f3) ⟨o1, o2, o3, o4, o5, o6, o7, o8⟩ :: x :: cdB nbR ⟨0, 0, 0, 0⟩ :: L) (.cons rfl (.cons rfl (.cons rfl (.cons rfl .nil)))) ?_ ?_
  · cases ha : argOf tx with
    | some k =>
      obtain ⟨h1, h2, d, h3, h4, h5, -⟩ := argOf_some ha
      clear ha
      repeat' (first | refine G_cut_n ?_ | (refine G_region (id := 3) ?_ <;> (try refine q_e (q_f fo_166_1) ?_) <;> (try refine q_e q_l ?_) <;> (try refine q_e (E_builtin rfl (fun _ => BigFrame.builtin_len ..) (r_len_string Tryz.underlying9)) ?_) <;> (try refine q_e (by exact q_b (r := by refine rb_eql_t' ?_; first | rfl | (with_reducible assumption) | (decide; done) | omega)) ?_) <;> (try refine q_m ?_) <;> (try refine q_y (q_f fo_166_1) ?_) <;> (try refine q_y q_l ?_) <;> (try refine q_y (by apply E_slice; exact rfl; exact rfl; exact rfl; exact rfl; (focus (apply r_sl_str Tryz.underlying9; (focus (apply bd_01; omega; omega; exact c_0)); exact rfl))) ?_) <;> (try refine q_y (q_b (r := by apply rb_streq_q; (with_reducible assumption))) ?_) <;> (try refine q_p ?_) <;> (try refine q_m ?_) <;> (try refine q_y (q_f fo_166_1) ?_) <;> (try refine q_y q_l ?_) <;> (try refine q_y (by apply E_index; exact rfl; exact rfl; (focus (apply r_ixstr Tryz.underlying9; omega; (with_reducible assumption)))) ?_) <;> (try refine q_y (q_b (r := by exact rb_geq_t q_o)) ?_) <;> (try refine q_p ?_) <;> (try refine q_m ?_) <;> (try refine q_y (q_f fo_166_1) ?_) <;> (try refine q_y q_l ?_) <;> (try refine q_y (by apply E_index; exact rfl; exact rfl; (focus (apply r_ixstr Tryz.underlying9; omega; (with_reducible assumption)))) ?_) <;> (try refine q_y (q_b (r := by exact rb_leq_t q_o)) ?_) <;> (try refine q_p ?_) <;> (try refine G_nil ?_)))
      exact G_meet true rfl (by (focus (repeat (first | exact Sub.nil | refine Sub.cons rfl ?_)))) c_27
    | none =>
      rcases argOf_none ha with h1 | ⟨h1, h2 | ⟨h2, d, h3, h4 | h4⟩⟩
      all_goals clear ha
      · repeat' (first | refine G_cut_n ?_ | (refine G_region (id := 3) ?_ <;> (try refine q_e (q_f fo_166_1) ?_) <;> (try refine q_e q_l ?_) <;> (try refine q_e (E_builtin rfl (fun _ => BigFrame.builtin_len ..) (r_len_string Tryz.underlying9)) ?_) <;> (try refine q_e (q_b (r := by exact rb_eql_f q_o)) ?_) <;> (try refine q_m ?_) <;> (try refine q_z ?_) <;> (try refine q_z ?_) <;> (try refine q_z ?_) <;> (try refine q_z ?_) <;> (try refine q_p ?_) <;> (try refine q_m ?_) <;> (try refine q_z ?_) <;> (try refine q_z ?_) <;> (try refine q_z ?_) <;> (try refine q_z ?_) <;> (try refine q_p ?_) <;> (try refine q_m ?_) <;> (try refine q_z ?_) <;> (try refine q_z ?_) <;> (try refine q_z ?_) <;> (try refine q_z ?_) <;> (try refine q_p ?_) <;> (try refine G_nil ?_)))
        exact G_meet false rfl (by (focus (repeat (first | exact Sub.nil | refine Sub.cons rfl ?_)))) c_27
      · repeat' (first | refine G_cut_n ?_ | (refine G_region (id := 3) ?_ <;> (try refine q_e (q_f fo_166_1) ?_) <;> (try refine q_e q_l ?_) <;> (try refine q_e (E_builtin rfl (fun _ => BigFrame.builtin_len ..) (r_len_string Tryz.underlying9)) ?_) <;> (try refine q_e (by exact q_b (r := by refine rb_eql_t' ?_; first | rfl | (with_reducible assumption) | (decide; done) | omega)) ?_) <;> (try refine q_m ?_) <;> (try refine q_y (q_f fo_166_1) ?_) <;> (try refine q_y q_l ?_) <;> (try refine q_y (by apply E_slice; exact rfl; exact rfl; exact rfl; exact rfl; (focus (apply r_sl_str Tryz.underlying9; (focus (apply bd_01; omega; omega; exact c_0)); exact rfl))) ?_) <;> (try refine q_y (q_b (r := by apply rb_streq_n; exact decide_eq_false (by assumption))) ?_) <;> (try refine q_p ?_) <;> (try refine q_m ?_) <;> (try refine q_z ?_) <;> (try refine q_z ?_) <;> (try refine q_z ?_) <;> (try refine q_z ?_) <;> (try refine q_p ?_) <;> (try refine q_m ?_) <;> (try refine q_z ?_) <;> (try refine q_z ?_) <;> (try refine q_z ?_) <;> (try refine q_z ?_) <;> (try refine q_p ?_) <;> (try refine G_nil ?_)))
        exact G_meet false rfl (by (focus (repeat (first | exact Sub.nil | refine Sub.cons rfl ?_)))) c_27
      · repeat' (first | refine G_cut_n ?_ | (refine G_region (id := 3) ?_ <;> (try refine q_e (q_f fo_166_1) ?_) <;> (try refine q_e q_l ?_) <;> (try refine q_e (E_builtin rfl (fun _ => BigFrame.builtin_len ..) (r_len_string Tryz.underlying9)) ?_) <;> (try refine q_e (by exact q_b (r := by refine rb_eql_t' ?_; first | rfl | (with_reducible assumption) | (decide; done) | omega)) ?_) <;> (try refine q_m ?_) <;> (try refine q_y (q_f fo_166_1) ?_) <;> (try refine q_y q_l ?_) <;> (try refine q_y (by apply E_slice; exact rfl; exact rfl; exact rfl; exact rfl; (focus (apply r_sl_str Tryz.underlying9; (focus (apply bd_01; omega; omega; exact c_0)); exact rfl))) ?_) <;> (try refine q_y (q_b (r := by apply rb_streq_q; (with_reducible assumption))) ?_) <;> (try refine q_p ?_) <;> (try refine q_m ?_) <;> (try refine q_y (q_f fo_166_1) ?_) <;> (try refine q_y q_l ?_) <;> (try refine q_y (by apply E_index; exact rfl; exact rfl; (focus (apply r_ixstr Tryz.underlying9; omega; (with_reducible assumption)))) ?_) <;> (try refine q_y (q_b (r := by exact rb_geq_f q_o)) ?_) <;> (try refine q_p ?_) <;> (try refine q_m ?_) <;> (try refine q_z ?_) <;> (try refine q_z ?_) <;> (try refine q_z ?_) <;> (try refine q_z ?_) <;> (try refine q_p ?_) <;> (try refine G_nil ?_)))
        exact G_meet false rfl (by (focus (repeat (first | exact Sub.nil | refine Sub.cons rfl ?_)))) c_27
      · repeat' (first | refine G_cut_n ?_ | (refine G_region (id := 3) ?_ <;> (try refine q_e (q_f fo_166_1) ?_) <;> (try refine q_e q_l ?_) <;> (try refine q_e (E_builtin rfl (fun _ => BigFrame.builtin_len ..) (r_len_string Tryz.underlying9)) ?_) <;> (try refine q_e (by exact q_b (r := by refine rb_eql_t' ?_; first | rfl | (with_reducible assumption) | (decide; done) | omega)) ?_) <;> (try refine q_m ?_) <;> (try refine q_y (q_f fo_166_1) ?_) <;> (try refine q_y q_l ?_) <;> (try refine q_y (by apply E_slice; exact rfl; exact rfl; exact rfl; exact rfl; (focus (apply r_sl_str Tryz.underlying9; (focus (apply bd_01; omega; omega; exact c_0)); exact rfl))) ?_) <;> (try refine q_y (q_b (r := by apply rb_streq_q; (with_reducible assumption))) ?_) <;> (try refine q_p ?_) <;> (try refine q_m ?_) <;> (try refine q_y (q_f fo_166_1) ?_) <;> (try refine q_y q_l ?_) <;> (try refine q_y (by apply E_index; exact rfl; exact rfl; (focus (apply r_ixstr Tryz.underlying9; omega; (with_reducible assumption)))) ?_) <;> (try refine q_y (q_b (r := by exact rb_geq_t q_o)) ?_) <;> (try refine q_p ?_) <;> (try refine q_m ?_) <;> (try refine q_y (q_f fo_166_1) ?_) <;> (try refine q_y q_l ?_) <;> (try refine q_y (by apply E_index; exact rfl; exact rfl; (focus (apply r_ixstr Tryz.underlying9; omega; (with_reducible assumption)))) ?_) <;> (try refine q_y (q_b (r := by exact rb_leq_f q_o)) ?_) <;> (try refine q_p ?_) <;> (try refine G_nil ?_)))
        exact G_meet false rfl (by (focus (repeat (first | exact Sub.nil | refine Sub.cons rfl ?_)))) c_27
  rintro q hB
  simp only [List.cons_append, List.nil_append]
  refine G_meetk (γ := Unit) (fun _ => True) (fun _ => []) [(0, _), (2, _), (4, _)]
    (fun _ => cdB nbC ⟨(argOf tx).getD 0, 0, 0, 0⟩ :: rdB b p a1 r.length c1 (if (argOf tx).isSome then (f1, f2, f3) else (e1, e2, e3)) ⟨o1, o2, o3, o4, o5, o6, o7, o8⟩ :: x :: cdB nbR ⟨0, 0, 0, 0⟩ :: L) (.cons rfl (.cons rfl (.cons rfl .nil))) ?_ ?_
  · cases ha : argOf tx with
    | some k =>
      obtain ⟨-, -, d, h3, h4, h5, rfl⟩ := argOf_some ha
      have hd : cdB nbC ⟨d.toNat - 48, 0, 0, 0⟩ = ⟨true, nbC, .cells #[.int .i64 ((d.toNat : Int) - 48), .int .u8 0, .int .u64 0, .int .u64 0] 99 (0, 0)⟩ := by
        have e : ((d.toNat - 48 : Nat) : Int) = (d.toNat : Int) - 48 := by omega
        show (⟨true, nbC, .cells #[.int .i64 ((d.toNat - 48 : Nat) : Int), .int .u8 0, .int .u64 0, .int .u64 0] 99 (0, 0)⟩ : Blk) = _
        rw [e]
      rw [ha] at hB
      obtain rfl : q = true := hB
      clear ha
      rw [Option.getD_some, Option.isSome_some, if_pos rfl, hd]
      clear hd
      repeat' (first | refine G_cut_n ?_ | refine G_cond_t rfl ?_ | (refine G_region (id := 4) ?_ <;> (try refine q_e (q_f fo_166_1) ?_) <;> (try refine q_e q_l ?_) <;> (try refine q_e (by apply E_index; exact rfl; exact rfl; (focus (apply r_ixstr Tryz.underlying9; omega; (with_reducible assumption)))) ?_) <;> (try refine q_e (q_b (r := by apply rb_sub; exact c_5; (focus (refine IntWalk.u8_in _ ?_; omega)))) ?_) <;> (try refine q_e (by apply E_conv; exact rfl; (focus (apply r_conv Tryz.underlying5 Tryz.underlying3; first | (refine IntWalk.i64_in _ ?_; omega) | (refine IntWalk.u8_in _ ?_; omega) | (refine IntWalk.u16_in _ ?_; omega) | (refine IntWalk.u32_in _ ?_; omega) | (refine IntWalk.u64_in _ ?_; omega) | (refine IntWalk.i32_in _ ?_; omega) | exact rfl))) ?_) <;> (try refine q_e (q_f fo_99_0) ?_) <;> (try refine G_op1 ?_; (refine q_S ?_)) <;> (try refine G_nil ?_)))
      exact G_meet () trivial (by (focus (repeat (first | exact Sub.nil | refine Sub.cons rfl ?_)))) c_23
    | none =>
      rw [ha] at hB
      obtain rfl : q = false := hB
      clear ha
      rw [Option.getD_none, Option.isSome_none, if_neg Bool.false_ne_true]
      repeat' (first | refine G_cut_n ?_ | refine G_cond_f rfl ?_ | (refine G_region (id := 5) ?_ <;> (try refine q_m ?_) <;> (try refine q_e (q_L sz_166) ?_) <;> (try refine G_op1 ?_; (refine q_c 52 (c := by apply hfl; exact c_9) (h := ?_); rintro _ _ ⟨rfl, rfl⟩; (try simp only [List.eraseIdx_cons_succ]); (try simp only [List.eraseIdx_cons_zero]))) <;> (try refine G_nil ?_)))
      exact G_meet () trivial (by (focus (repeat (first | exact Sub.nil | refine Sub.cons rfl ?_)))) c_23
  clear hfl hB q hwd
  rintro - -
  simp only [List.cons_append, List.nil_append]
  generalize (argOf tx).getD 0 = ag at *
  generalize (if (argOf tx).isSome then (f1, f2, f3) else (e1, e2, e3)) = fz at *
  clear f1 f2 f3 e1 e2 e3 tk tx nu li co
  unfold sgnS opOf
  have htk4 := fun (L : List Blk) (i j : Nat) (a : Option Addr) (c : Nat) h1 h2 h => take_d (S := S) (w0 := w0) (L := L) 4 (by decide) (i := i) (j := j) (b := b) (c := c) (p := p) (a := a) (l := r) (w := fz) (o := ⟨o1, o2, o3, o4, o5, o6, o7, o8⟩) (x := x) h1 h2 h
  have hok2 := (takeF_ok (k := 4) (s := (r, fz)) hok1).2
  clear hok1
  generalize takeF 4 (r, fz) = T at *
  obtain ⟨f1, f2, f3⟩ := fz
  obtain ⟨⟨sk, sx, sn, sl, sc⟩, r2, g1, g2, g3⟩ := T
  dsimp only [Tk.cells] at *
  repeat' (first | (refine G_markr (id := 7) ?_) | refine G_seq ?_ | refine G_then_n ?_ | (refine G_region (id := 6) ?_ <;> (try refine q_m ?_) <;> (try refine G_op1 ?_; (refine q_c 53 (c := by apply htk4; exact c_9; exact c_9; (with_reducible assumption)) (h := ?_); rintro _ _ ⟨a2, c2, rfl, hts2, rfl⟩; (try simp only [List.eraseIdx_cons_succ]); (try simp only [List.eraseIdx_cons_zero]))) <;> (try refine G_op1 ?_; (refine K1_alloc (t := 166) rfl Tryz.zeroValue166 ?_; intro nb hnb; (try simp only [Value.cells]))) <;> (try refine G_op1 ?_; (refine q_W ?_)) <;> (try refine G_nil ?_)))
  refine ⟨?_⟩
  obtain ⟨nbS, rfl⟩ : ∃ x, x = nb := ⟨_, rfl⟩
  clear htk4 hts
  repeat' (first | (refine G_markb (id := 0) ?_) | refine G_then_n ?_ | (refine G_region (id := 7) ?_ <;> (try refine q_a ?_) <;> (try refine G_nil ?_)))
  refine ⟨?_⟩
  refine G_block ?_
  refine G_loopk (γ := Nat) (fun k => k ≤ 7) (fun k => 7 - k) (fun k => [(6, .int .u8 ((k + 1 : Nat) : Int))]) [(0, _), (2, _), (4, _), (5, _)]
    (fun k => tkBl nbS ⟨sk, sx, sn, sl, sc⟩ :: cdB nbC ⟨ag, opU sx k, 0, 0⟩ :: rdB b p a2 r2.length c2 (g1, g2, g3) ⟨o1, o2, o3, o4, o5, o6, o7, o8⟩ :: x :: cdB nbR ⟨0, 0, 0, 0⟩ :: L)
    0 (.cons rfl (.cons rfl (.cons rfl (.cons rfl .nil)))) (Nat.zero_le _) (by (focus (repeat (first | exact Sub.nil | refine Sub.cons rfl ?_)))) c_24 ?_
  rintro k (hk : k ≤ 7)
  simp only [List.cons_append, List.nil_append]
  by_cases hlt : k < 7
  · have hsg := fun (L : List Blk) => psign_c (S := S) (w0 := w0) (L := L) (k + 1) (by omega) (by omega)
    rw [Nat.add_sub_cancel] at hsg
    have hu := opU_sc sx k
    have hop := opU_le sx k
    by_cases hs : sgns.getD k [] = sx
    · rw [if_pos hs] at hu
      have he : mB8 (sgns.getD k []) = mB8 sx := by rw [hs]
      clear hs
      generalize sgns.getD k [] = z at *
      repeat' (first | refine G_seq ?_ | refine G_then_n ?_ | refine G_cut_n ?_ | refine G_blk_n ?_ | refine G_block ?_ | refine G_skip ?_ | refine G_cond_t rfl ?_ | (refine G_region (id := 8) ?_ <;> (try refine q_m ?_) <;> (try refine q_e (q_b (r := by exact rb_leq_t q_o)) ?_) <;> (try refine G_nil ?_)) | ((refine G_regionH (id := 10) (m := 5) (by kernel_rfl) rfl ?_) <;> (try refine q_t 0 (e := (fun _ H => H)) (x := by exact E_move rfl) (h := ?_)) <;> (try refine q_t 2 (e := (fun _ H => H)) (x := by exact q_f fo_166_1) (h := ?_)) <;> (try refine q_t 3 (e := (fun _ H => H)) (x := by exact q_l) (h := ?_)) <;> (try refine q_r 1 ?_; (refine q_c 61 (c := by apply hsg) (h := ?_); rintro _ _ ⟨rfl, rfl⟩; (try simp only [List.eraseIdx_cons_succ]); (try simp only [List.eraseIdx_cons_zero])); refine H_go (fun _ H => H) ?_) <;> (try refine q_t 4 (e := (fun _ H => H)) (x := by exact q_b (r := by apply rb_streq_q; (with_reducible assumption))) (h := ?_)) <;> (try refine H_done (by kernel_rfl) ?_)) | (refine G_region (id := 11) ?_ <;> (try refine q_m ?_) <;> (try refine q_e (q_f fo_99_1) ?_) <;> (try refine G_op1 ?_; (refine q_S ?_)) <;> (try refine G_nil ?_)) | (refine G_region (id := 9) ?_ <;> (try refine q_m ?_) <;> (try refine q_e (q_b (r := by apply rb_add; exact c_5; (focus (refine IntWalk.u8_in _ ?_; omega)))) ?_) <;> (try refine q_a ?_) <;> (try refine G_nil ?_)))
      refine G_meet (k + 1) ⟨by show k + 1 ≤ 7; omega, by show 7 - (k + 1) < 7 - k; omega⟩ (by (focus (repeat (first | exact Sub.nil | refine Sub.cons rfl ?_)))) ?_
      rw [hu]
      intro w H; refine Sel.out ?_ H; (try simp only [List.cons_append, List.nil_append]); repeat (exact Sel.refl _)
    · rw [if_neg hs] at hu
      have he := text_ne hs
      clear hs
      generalize sgns.getD k [] = z at *
      repeat' (first | refine G_seq ?_ | refine G_then_n ?_ | refine G_cut_n ?_ | refine G_blk_n ?_ | refine G_block ?_ | refine G_skip ?_ | refine G_cond_t rfl ?_ | refine G_cond_f rfl ?_ | (refine G_region (id := 8) ?_ <;> (try refine q_m ?_) <;> (try refine q_e (q_b (r := by exact rb_leq_t q_o)) ?_) <;> (try refine G_nil ?_)) | ((refine G_regionH (id := 10) (m := 5) (by kernel_rfl) rfl ?_) <;> (try refine q_t 0 (e := (fun _ H => H)) (x := by exact E_move rfl) (h := ?_)) <;> (try refine q_t 2 (e := (fun _ H => H)) (x := by exact q_f fo_166_1) (h := ?_)) <;> (try refine q_t 3 (e := (fun _ H => H)) (x := by exact q_l) (h := ?_)) <;> (try refine q_r 1 ?_; (refine q_c 61 (c := by apply hsg) (h := ?_); rintro _ _ ⟨rfl, rfl⟩; (try simp only [List.eraseIdx_cons_succ]); (try simp only [List.eraseIdx_cons_zero])); refine H_go (fun _ H => H) ?_) <;> (try refine q_t 4 (e := (fun _ H => H)) (x := by exact q_b (r := by apply rb_streq_n; exact decide_eq_false (by assumption))) (h := ?_)) <;> (try refine H_done (by kernel_rfl) ?_)) | (refine G_region (id := 9) ?_ <;> (try refine q_m ?_) <;> (try refine q_e (q_b (r := by apply rb_add; exact c_5; (focus (refine IntWalk.u8_in _ ?_; omega)))) ?_) <;> (try refine q_a ?_) <;> (try refine G_nil ?_)))
      refine G_meet (k + 1) ⟨by show k + 1 ≤ 7; omega, by show 7 - (k + 1) < 7 - k; omega⟩ (by (focus (repeat (first | exact Sub.nil | refine Sub.cons rfl ?_)))) ?_
      rw [hu]
      intro w H; refine Sel.out ?_ H; (try simp only [List.cons_append, List.nil_append]); repeat (exact Sel.refl _)
  obtain rfl : k = 7 := by omega
  clear hlt hk
  have hop := opU_le sx 7
  generalize opU sx 7 = op at *
  repeat' (first | (refine G_markc (t := 58) ?_) | refine G_seq ?_ | refine G_then_n ?_ | refine G_cut_x ?_ | refine G_then_x ?_ | refine G_blk_x ?_ | refine G_exit ?_ | refine G_cond_f rfl ?_ | (refine G_region (id := 8) ?_ <;> (try refine q_m ?_) <;> (try refine q_e (q_b (r := by exact rb_leq_f q_o)) ?_) <;> (try refine G_nil ?_)) | (refine G_region (id := 12) ?_ <;> (try refine q_e (q_f fo_99_1) ?_) <;> (try refine q_e q_l ?_) <;> (try refine q_e (q_b (r := by exact rb_eql)) ?_) <;> (try refine G_nil ?_)))
  refine ⟨?_⟩
  dsimp only
  have hok5 := mskF_ok (op := op) (s := (r2, g1, g2, g3)) hok2
  refine G_meetk (γ := Option Addr × Nat) (fun q => TkS x q.1 q.2 (mskF op (r2, g1, g2, g3)).2.1) (fun _ => []) [(0, _), (2, _), (4, _)]
    (fun q => cdB nbC ⟨ag, op, (mskF op (r2, g1, g2, g3)).1, 0⟩ :: rdB b p q.1 (mskF op (r2, g1, g2, g3)).2.1.length q.2 (mskF op (r2, g1, g2, g3)).2.2 ⟨o1, o2, o3, o4, o5, o6, o7, o8⟩ :: x :: cdB nbR ⟨0, 0, 0, 0⟩ :: L) (.cons rfl (.cons rfl (.cons rfl .nil))) ?_ ?_
  · by_cases h7 : op = 7
    · rw [decide_eq_true (show (op : Int) = 7 by omega)]
      have em : mskF op (r2, g1, g2, g3) = ((takeF 2 (r2, g1, g2, g3)).1.num, ((takeF 4 (takeF 2 (r2, g1, g2, g3)).2).2.1, if (takeF 4 (takeF 2 (r2, g1, g2, g3)).2).1.text ≠ [61, 61] then failW (takeF 4 (takeF 2 (r2, g1, g2, g3)).2).2.2 (takeF 4 (takeF 2 (r2, g1, g2, g3)).2).1 203 else (takeF 4 (takeF 2 (r2, g1, g2, g3)).2).2.2)) := by
        unfold mskF; rw [if_pos h7]
      rw [em]
      clear em hok5
      have htk2 := fun (L : List Blk) (i j : Nat) (a : Option Addr) (c : Nat) h1 h2 h => take_d (S := S) (w0 := w0) (L := L) 2 (by decide) (i := i) (j := j) (b := b) (c := c) (p := p) (a := a) (l := r2) (w := (g1, g2, g3)) (o := ⟨o1, o2, o3, o4, o5, o6, o7, o8⟩) (x := x) h1 h2 h
      have hok3 := (takeF_ok (k := 2) (s := (r2, g1, g2, g3)) hok2).2
      generalize takeF 2 (r2, g1, g2, g3) = T at *
      obtain ⟨⟨mk, mx, mn, ml, mc⟩, r3, i1, i2, i3⟩ := T
      dsimp only [Tk.cells] at *
      have htk4 := fun (L : List Blk) (i j : Nat) (a : Option Addr) (c : Nat) h1 h2 h => take_d (S := S) (w0 := w0) (L := L) 4 (by decide) (i := i) (j := j) (b := b) (c := c) (p := p) (a := a) (l := r3) (w := (i1, i2, i3)) (o := ⟨o1, o2, o3, o4, o5, o6, o7, o8⟩) (x := x) h1 h2 h
      generalize takeF 4 (r3, i1, i2, i3) = T at *
      obtain ⟨⟨nk, nx, nn, nl, nc⟩, r4, j1, j2, j3⟩ := T
      dsimp only [Tk.cells] at *
      have hfl := fun (L : List Blk) (i : Nat) (a' : Option Addr) (c' : Nat) h1 => fail_d (S := S) (w0 := w0) (L := L) (i := i) (b := b) (n := r4.length) (c := c') (p := p) (a := a') (w := (j1, j2, j3)) (o := ⟨o1, o2, o3, o4, o5, o6, o7, o8⟩) h1 ⟨nk, nx, nn, nl, nc⟩ 203
      dsimp only [Tk.cells] at hfl
      clear hok2 hok3
      by_cases hx : nx = [61, 61]
      · rw [if_neg (fun h => h hx)]
        subst hx
        clear hfl
        repeat' (first | refine G_seq ?_ | refine G_then_n ?_ | refine G_cut_n ?_ | refine G_skip ?_ | refine G_cond_t rfl ?_ | refine G_cond_f rfl ?_ | (refine G_region (id := 13) ?_ <;> (try refine q_m ?_) <;> (try refine G_op1 ?_; (refine q_c 53 (c := by apply htk2; exact c_9; exact c_9; (with_reducible assumption)) (h := ?_); rintro _ _ ⟨a3, c3, rfl, hts3, rfl⟩; (try simp only [List.eraseIdx_cons_succ]); (try simp only [List.eraseIdx_cons_zero]))) <;> (try refine G_op1 ?_; (refine K1_alloc (t := 166) rfl Tryz.zeroValue166 ?_; intro nb hnb; (try simp only [Value.cells]))) <;> (try refine G_op1 ?_; (refine q_W ?_)) <;> (try refine G_nil ?_)) | (refine G_region (id := 14) ?_ <;> (try refine q_e (q_f fo_166_2) ?_) <;> (try refine q_e q_l ?_) <;> (try refine q_e (q_f fo_99_2) ?_) <;> (try refine G_op1 ?_; (refine q_S ?_)) <;> (try refine G_nil ?_)) | (refine G_region (id := 15) ?_ <;> (try refine q_m ?_) <;> (try refine G_op1 ?_; (refine q_c 53 (c := by apply htk4; exact c_9; exact c_9; (with_reducible assumption)) (h := ?_); rintro _ _ ⟨a4, c4, rfl, hts4, rfl⟩; (try simp only [List.eraseIdx_cons_succ]); (try simp only [List.eraseIdx_cons_zero]))) <;> (try refine G_op1 ?_; (refine K1_alloc (t := 166) rfl Tryz.zeroValue166 ?_; intro nb hnb; (try simp only [Value.cells]))) <;> (try refine G_op1 ?_; (refine q_W ?_)) <;> (try refine G_nil ?_)) | (refine G_region (id := 16) ?_ <;> (try refine q_e (q_f fo_166_1) ?_) <;> (try refine q_e q_l ?_) <;> (try refine q_e (q_b (r := by exact rb_strne_s)) ?_) <;> (try refine G_nil ?_)))
        exact G_meet (a4, c4) hts4 (by (focus (repeat (first | exact Sub.nil | refine Sub.cons rfl ?_)))) c_23
      · rw [if_pos hx]
        have hn : ¬ mB8 nx = ⟨#[61, 61]⟩ := text_ne hx
        generalize failW (j1, j2, j3) _ 203 = fw at *
        obtain ⟨e1, e2, e3⟩ := fw
        clear hx
        repeat' (first | refine G_seq ?_ | refine G_then_n ?_ | refine G_cut_n ?_ | refine G_cond_t rfl ?_ | (refine G_region (id := 13) ?_ <;> (try refine q_m ?_) <;> (try refine G_op1 ?_; (refine q_c 53 (c := by apply htk2; exact c_9; exact c_9; (with_reducible assumption)) (h := ?_); rintro _ _ ⟨a3, c3, rfl, hts3, rfl⟩; (try simp only [List.eraseIdx_cons_succ]); (try simp only [List.eraseIdx_cons_zero]))) <;> (try refine G_op1 ?_; (refine K1_alloc (t := 166) rfl Tryz.zeroValue166 ?_; intro nb hnb; (try simp only [Value.cells]))) <;> (try refine G_op1 ?_; (refine q_W ?_)) <;> (try refine G_nil ?_)) | (refine G_region (id := 14) ?_ <;> (try refine q_e (q_f fo_166_2) ?_) <;> (try refine q_e q_l ?_) <;> (try refine q_e (q_f fo_99_2) ?_) <;> (try refine G_op1 ?_; (refine q_S ?_)) <;> (try refine G_nil ?_)) | (refine G_region (id := 15) ?_ <;> (try refine q_m ?_) <;> (try refine G_op1 ?_; (refine q_c 53 (c := by apply htk4; exact c_9; exact c_9; (with_reducible assumption)) (h := ?_); rintro _ _ ⟨a4, c4, rfl, hts4, rfl⟩; (try simp only [List.eraseIdx_cons_succ]); (try simp only [List.eraseIdx_cons_zero]))) <;> (try refine G_op1 ?_; (refine K1_alloc (t := 166) rfl Tryz.zeroValue166 ?_; intro nb hnb; (try simp only [Value.cells]))) <;> (try refine G_op1 ?_; (refine q_W ?_)) <;> (try refine G_nil ?_)) | (refine G_region (id := 16) ?_ <;> (try refine q_e (q_f fo_166_1) ?_) <;> (try refine q_e q_l ?_) <;> (try refine q_e (q_b (r := by apply rb_strne_h; (with_reducible assumption))) ?_) <;> (try refine G_nil ?_)) | (refine G_region (id := 17) ?_ <;> (try refine q_m ?_) <;> (try refine q_e (q_L sz_166) ?_) <;> (try refine G_op1 ?_; (refine q_c 52 (c := by apply hfl; exact c_9) (h := ?_); rintro _ _ ⟨rfl, rfl⟩; (try simp only [List.eraseIdx_cons_succ]); (try simp only [List.eraseIdx_cons_zero]))) <;> (try refine G_nil ?_)))
        exact G_meet (a4, c4) hts4 (by (focus (repeat (first | exact Sub.nil | refine Sub.cons rfl ?_)))) c_23
    · rw [decide_eq_false (show ¬ (op : Int) = 7 by omega)]
      have em : mskF op (r2, g1, g2, g3) = (0, (r2, g1, g2, g3)) := by unfold mskF; rw [if_neg h7]
      rw [em]
      clear em hok5
      repeat' (first | refine G_cut_n ?_ | refine G_skip ?_ | refine G_cond_f rfl ?_)
      exact G_meet (a2, c2) hts2 (by (focus (repeat (first | exact Sub.nil | refine Sub.cons rfl ?_)))) c_23
  clear hts2
  generalize mskF op (r2, g1, g2, g3) = M at *
  obtain ⟨mask, r5, m1, m2, m3⟩ := M
  rintro ⟨a5, c5⟩ ht5
  dsimp only at *
  simp only [List.cons_append, List.nil_append]
  obtain ⟨hmk, hok6⟩ := hok5
  unfold valF
  have htk2 := fun (L : List Blk) (i j : Nat) (a : Option Addr) (c : Nat) h1 h2 h => take_d (S := S) (w0 := w0) (L := L) 2 (by decide) (i := i) (j := j) (b := b) (c := c) (p := p) (a := a) (l := r5) (w := (m1, m2, m3)) (o := ⟨o1, o2, o3, o4, o5, o6, o7, o8⟩) (x := x) h1 h2 h
  have hvn := (takeF_ok (k := 2) (s := (r5, m1, m2, m3)) hok6).1.num
  clear hok2 hok6
  generalize takeF 2 (r5, m1, m2, m3) = T at *
  obtain ⟨⟨vk, vx, vn, vl, vc⟩, r6, v1, v2, v3⟩ := T
  dsimp only [Tk.cells] at *
  have hfl := fun (L : List Blk) (i : Nat) (a' : Option Addr) (c' : Nat) h1 => fail_d (S := S) (w0 := w0) (L := L) (i := i) (b := b) (n := r6.length) (c := c') (p := p) (a := a') (w := (v1, v2, v3)) (o := ⟨o1, o2, o3, o4, o5, o6, o7, o8⟩) h1 ⟨vk, vx, vn, vl, vc⟩ 204
  dsimp only [Tk.cells] at hfl
  generalize failW (v1, v2, v3) _ 204 = fw at *
  obtain ⟨e1, e2, e3⟩ := fw
  by_cases h7 : op = 7
  · by_cases hm : mask = 0
    · rw [if_pos ⟨h7, Or.inl hm⟩]
      repeat' (first | refine G_seq ?_ | refine G_then_n ?_ | refine G_ret ?_ | refine G_cond_t rfl ?_ | (refine G_region (id := 18) ?_ <;> (try refine q_m ?_) <;> (try refine G_op1 ?_; (refine q_c 53 (c := by apply htk2; exact c_9; exact c_9; (with_reducible assumption)) (h := ?_); rintro _ _ ⟨a6, c6, rfl, ht6, rfl⟩; (try simp only [List.eraseIdx_cons_succ]); (try simp only [List.eraseIdx_cons_zero]))) <;> (try refine G_op1 ?_; (refine K1_alloc (t := 166) rfl Tryz.zeroValue166 ?_; intro nb hnb; (try simp only [Value.cells]))) <;> (try refine G_op1 ?_; (refine q_W ?_)) <;> (try refine G_nil ?_)) | (refine G_region (id := 19) ?_ <;> (try refine q_e (q_f fo_166_2) ?_) <;> (try refine q_e q_l ?_) <;> (try refine q_e (q_f fo_99_3) ?_) <;> (try refine G_op1 ?_; (refine q_S ?_)) <;> (try refine G_nil ?_)) | (refine G_region (id := 20) ?_ <;> (try refine q_e (q_f fo_99_1) ?_) <;> (try refine q_e q_l ?_) <;> (try refine q_e (by exact q_b (r := by refine rb_eql_t' ?_; first | rfl | (with_reducible assumption) | (decide; done) | omega)) ?_) <;> (try refine q_m ?_) <;> (try refine q_y (q_f fo_99_2) ?_) <;> (try refine q_y q_l ?_) <;> (try refine q_y (by exact q_b (r := by refine rb_eql_t' ?_; first | rfl | (with_reducible assumption) | (decide; done) | omega)) ?_) <;> (try refine q_y (E_move rfl) ?_) <;> (try refine q_z ?_) <;> (try refine q_z ?_) <;> (try refine q_z ?_) <;> (try refine q_z ?_) <;> (try refine q_z ?_) <;> (try refine q_z ?_) <;> (try refine q_y (E_pick rfl rfl) ?_) <;> (try refine q_p ?_) <;> (try refine G_nil ?_)) | (refine G_region (id := 21) ?_ <;> (try refine q_m ?_) <;> (try refine q_e (q_L sz_166) ?_) <;> (try refine G_op1 ?_; (refine q_c 52 (c := by apply hfl; exact c_9) (h := ?_); rintro _ _ ⟨rfl, rfl⟩; (try simp only [List.eraseIdx_cons_succ]); (try simp only [List.eraseIdx_cons_zero]))) <;> (try refine G_nil ?_)) | (refine G_region (id := 22) ?_ <;> (try refine q_e (q_L sz_99) ?_) <;> (try refine G_op1 ?_; (refine q_W ?_)) <;> (try refine G_nil ?_)))
      (apply G_doneA Tryz.results99; exact rfl; (focus (repeat (first | exact fd0 | (with_reducible assumption) | apply fdA | apply fdS))); kernel_rfl; kernel_rfl; exact sz_99; exact c_16)
      exact ⟨_, ⟨a6, c6, rfl, ht6, rfl⟩, by intro w H; refine Sel.out ?_ H; (try simp only [List.cons_append, List.nil_append]); repeat (first | exact Sel.refl _ | (apply Sel.cons; exact c_29; (try simp only [List.eraseIdx_cons_succ]); (try simp only [List.eraseIdx_cons_zero])) | apply Sel.drop)⟩
    · by_cases hv : iandn (vn : Int) (mask : Int) = 0
      · rw [if_neg (fun h => h.2.elim hm (fun h2 => h2 hv))]
        repeat' (first | refine G_seq ?_ | refine G_then_n ?_ | refine G_skip ?_ | refine G_ret ?_ | refine G_cond_f rfl ?_ | (refine G_region (id := 18) ?_ <;> (try refine q_m ?_) <;> (try refine G_op1 ?_; (refine q_c 53 (c := by apply htk2; exact c_9; exact c_9; (with_reducible assumption)) (h := ?_); rintro _ _ ⟨a6, c6, rfl, ht6, rfl⟩; (try simp only [List.eraseIdx_cons_succ]); (try simp only [List.eraseIdx_cons_zero]))) <;> (try refine G_op1 ?_; (refine K1_alloc (t := 166) rfl Tryz.zeroValue166 ?_; intro nb hnb; (try simp only [Value.cells]))) <;> (try refine G_op1 ?_; (refine q_W ?_)) <;> (try refine G_nil ?_)) | (refine G_region (id := 19) ?_ <;> (try refine q_e (q_f fo_166_2) ?_) <;> (try refine q_e q_l ?_) <;> (try refine q_e (q_f fo_99_3) ?_) <;> (try refine G_op1 ?_; (refine q_S ?_)) <;> (try refine G_nil ?_)) | (refine G_region (id := 20) ?_ <;> (try refine q_e (q_f fo_99_1) ?_) <;> (try refine q_e q_l ?_) <;> (try refine q_e (by exact q_b (r := by refine rb_eql_t' ?_; first | rfl | (with_reducible assumption) | (decide; done) | omega)) ?_) <;> (try refine q_m ?_) <;> (try refine q_y (q_f fo_99_2) ?_) <;> (try refine q_y q_l ?_) <;> (try refine q_y (q_b (r := by exact rb_eql_f q_o)) ?_) <;> (try refine q_y (E_move rfl) ?_) <;> (try refine q_y (q_f fo_99_3) ?_) <;> (try refine q_y q_l ?_) <;> (try refine q_y (q_f fo_99_2) ?_) <;> (try refine q_y q_l ?_) <;> (try refine q_y (q_b (r := by refine rb_andn ?_ ?_; (focus (refine ⟨rfl, ⟨?_, ?_⟩⟩; omega; (focus (simp only [IntKind.bits]; omega)))); (focus (refine ⟨rfl, ⟨?_, ?_⟩⟩; omega; (focus (simp only [IntKind.bits]; omega)))))) ?_) <;> (try refine q_y (by exact q_b (r := by refine rb_neq_f ?_; first | rfl | (with_reducible assumption) | (decide; done) | omega)) ?_) <;> (try refine q_y (E_pick rfl rfl) ?_) <;> (try refine q_p ?_) <;> (try refine G_nil ?_)) | (refine G_region (id := 22) ?_ <;> (try refine q_e (q_L sz_99) ?_) <;> (try refine G_op1 ?_; (refine q_W ?_)) <;> (try refine G_nil ?_)))
        (apply G_doneA Tryz.results99; exact rfl; (focus (repeat (first | exact fd0 | (with_reducible assumption) | apply fdA | apply fdS))); kernel_rfl; kernel_rfl; exact sz_99; exact c_16)
        exact ⟨_, ⟨a6, c6, rfl, ht6, rfl⟩, by intro w H; refine Sel.out ?_ H; (try simp only [List.cons_append, List.nil_append]); repeat (first | exact Sel.refl _ | (apply Sel.cons; exact c_29; (try simp only [List.eraseIdx_cons_succ]); (try simp only [List.eraseIdx_cons_zero])) | apply Sel.drop)⟩
      · rw [if_pos ⟨h7, Or.inr hv⟩]
        repeat' (first | refine G_seq ?_ | refine G_then_n ?_ | refine G_ret ?_ | refine G_cond_t rfl ?_ | (refine G_region (id := 18) ?_ <;> (try refine q_m ?_) <;> (try refine G_op1 ?_; (refine q_c 53 (c := by apply htk2; exact c_9; exact c_9; (with_reducible assumption)) (h := ?_); rintro _ _ ⟨a6, c6, rfl, ht6, rfl⟩; (try simp only [List.eraseIdx_cons_succ]); (try simp only [List.eraseIdx_cons_zero]))) <;> (try refine G_op1 ?_; (refine K1_alloc (t := 166) rfl Tryz.zeroValue166 ?_; intro nb hnb; (try simp only [Value.cells]))) <;> (try refine G_op1 ?_; (refine q_W ?_)) <;> (try refine G_nil ?_)) | (refine G_region (id := 19) ?_ <;> (try refine q_e (q_f fo_166_2) ?_) <;> (try refine q_e q_l ?_) <;> (try refine q_e (q_f fo_99_3) ?_) <;> (try refine G_op1 ?_; (refine q_S ?_)) <;> (try refine G_nil ?_)) | (refine G_region (id := 20) ?_ <;> (try refine q_e (q_f fo_99_1) ?_) <;> (try refine q_e q_l ?_) <;> (try refine q_e (by exact q_b (r := by refine rb_eql_t' ?_; first | rfl | (with_reducible assumption) | (decide; done) | omega)) ?_) <;> (try refine q_m ?_) <;> (try refine q_y (q_f fo_99_2) ?_) <;> (try refine q_y q_l ?_) <;> (try refine q_y (q_b (r := by exact rb_eql_f q_o)) ?_) <;> (try refine q_y (E_move rfl) ?_) <;> (try refine q_y (q_f fo_99_3) ?_) <;> (try refine q_y q_l ?_) <;> (try refine q_y (q_f fo_99_2) ?_) <;> (try refine q_y q_l ?_) <;> (try refine q_y (q_b (r := by refine rb_andn ?_ ?_; (focus (refine ⟨rfl, ⟨?_, ?_⟩⟩; omega; (focus (simp only [IntKind.bits]; omega)))); (focus (refine ⟨rfl, ⟨?_, ?_⟩⟩; omega; (focus (simp only [IntKind.bits]; omega)))))) ?_) <;> (try refine q_y (q_b (r := by exact rb_neq_t q_o)) ?_) <;> (try refine q_y (E_pick rfl rfl) ?_) <;> (try refine q_p ?_) <;> (try refine G_nil ?_)) | (refine G_region (id := 21) ?_ <;> (try refine q_m ?_) <;> (try refine q_e (q_L sz_166) ?_) <;> (try refine G_op1 ?_; (refine q_c 52 (c := by apply hfl; exact c_9) (h := ?_); rintro _ _ ⟨rfl, rfl⟩; (try simp only [List.eraseIdx_cons_succ]); (try simp only [List.eraseIdx_cons_zero]))) <;> (try refine G_nil ?_)) | (refine G_region (id := 22) ?_ <;> (try refine q_e (q_L sz_99) ?_) <;> (try refine G_op1 ?_; (refine q_W ?_)) <;> (try refine G_nil ?_)))
        (apply G_doneA Tryz.results99; exact rfl; (focus (repeat (first | exact fd0 | (with_reducible assumption) | apply fdA | apply fdS))); kernel_rfl; kernel_rfl; exact sz_99; exact c_16)
        exact ⟨_, ⟨a6, c6, rfl, ht6, rfl⟩, by intro w H; refine Sel.out ?_ H; (try simp only [List.cons_append, List.nil_append]); repeat (first | exact Sel.refl _ | (apply Sel.cons; exact c_29; (try simp only [List.eraseIdx_cons_succ]); (try simp only [List.eraseIdx_cons_zero])) | apply Sel.drop)⟩
  · rw [if_neg (fun h => h7 h.1)]
    repeat' (first | refine G_seq ?_ | refine G_then_n ?_ | refine G_skip ?_ | refine G_ret ?_ | refine G_cond_f rfl ?_ | (refine G_region (id := 18) ?_ <;> (try refine q_m ?_) <;> (try refine G_op1 ?_; (refine q_c 53 (c := by apply htk2; exact c_9; exact c_9; (with_reducible assumption)) (h := ?_); rintro _ _ ⟨a6, c6, rfl, ht6, rfl⟩; (try simp only [List.eraseIdx_cons_succ]); (try simp only [List.eraseIdx_cons_zero]))) <;> (try refine G_op1 ?_; (refine K1_alloc (t := 166) rfl Tryz.zeroValue166 ?_; intro nb hnb; (try simp only [Value.cells]))) <;> (try refine G_op1 ?_; (refine q_W ?_)) <;> (try refine G_nil ?_)) | (refine G_region (id := 19) ?_ <;> (try refine q_e (q_f fo_166_2) ?_) <;> (try refine q_e q_l ?_) <;> (try refine q_e (q_f fo_99_3) ?_) <;> (try refine G_op1 ?_; (refine q_S ?_)) <;> (try refine G_nil ?_)) | (refine G_region (id := 20) ?_ <;> (try refine q_e (q_f fo_99_1) ?_) <;> (try refine q_e q_l ?_) <;> (try refine q_e (q_b (r := by exact rb_eql_f q_o)) ?_) <;> (try refine q_m ?_) <;> (try refine q_z ?_) <;> (try refine q_z ?_) <;> (try refine q_z ?_) <;> (try refine q_z ?_) <;> (try refine G_op1 ?_; (refine K1_nou rfl rfl rfl ?_)) <;> (try refine G_op1 ?_; (refine K1_nou rfl rfl rfl ?_)) <;> (try refine G_op1 ?_; (refine K1_nou rfl rfl rfl ?_)) <;> (try refine G_op1 ?_; (refine K1_nou rfl rfl rfl ?_)) <;> (try refine G_op1 ?_; (refine K1_nou rfl rfl rfl ?_)) <;> (try refine G_op1 ?_; (refine K1_nou rfl rfl rfl ?_)) <;> (try refine q_z ?_) <;> (try refine q_p ?_) <;> (try refine G_nil ?_)) | (refine G_region (id := 22) ?_ <;> (try refine q_e (q_L sz_99) ?_) <;> (try refine G_op1 ?_; (refine q_W ?_)) <;> (try refine G_nil ?_)))
    (apply G_doneA Tryz.results99; exact rfl; (focus (repeat (first | exact fd0 | (with_reducible assumption) | apply fdA | apply fdS))); kernel_rfl; kernel_rfl; exact sz_99; exact c_16)
    exact ⟨_, ⟨a6, c6, rfl, ht6, rfl⟩, by intro w H; refine Sel.out ?_ H; (try simp only [List.cons_append, List.nil_append]); repeat (first | exact Sel.refl _ | (apply Sel.cons; exact c_29; (try simp only [List.eraseIdx_cons_succ]); (try simp only [List.eraseIdx_cons_zero])) | apply Sel.drop)⟩
end Go.Proofs.YtecbgehooembmaaGreatDoor
namespace Go.Proofs.YtecbgehooembmaaGreatDoor
open Go Go.RowKit
def tbS (b m1 m2 n : Nat) : List Blk := if n = 0 then [tbl0 b 0 0] else [tbl1 b m1 m2 n 1, mapB m1 (byName clls), mapB m2 (byNum clls)]
theorem tbS_succ (b m1 m2 n : Nat) : tbS b m1 m2 (n + 1) = [tbl1 b m1 m2 ((n : Int) + 1) 1, mapB m1 (byName clls), mapB m2 (byNum clls)] := by
  unfold tbS
  rw [if_neg (by omega), Int.natCast_add, Int.natCast_one]
theorem namS_c {S w0 L} (b m1 m2 n : Nat) (hn : n ≤ 100000) (s : ByteArray) : Fn Tryz.prog 98 #[.pointer (some ⟨b, 0, none⟩), .string s] S w0 (tbS b m1 m2 n ++ L) fun v L' => ∃ m1' m2', v = gotV (nameF s clls) ∧ tbS b m1' m2' (n + 1) ++ L = L' := by
  cases n with
  | zero =>
    refine (named0_c (S := S) (w0 := w0) (L := L) b 0 0 (by omega) (by omega) s).mono ?_
    rintro v L' ⟨x, y, rfl, rfl⟩
    exact ⟨_, ⟨x, y, rfl, rfl⟩, fun _ H => H⟩
  | succ n =>
    rw [tbS_succ]
    refine (named1_c (S := S) (w0 := w0) (L := L) b m1 m2 _ 1 (by omega) s).mono ?_
    rintro v L' ⟨rfl, rfl⟩
    exact ⟨_, ⟨m1, m2, rfl, by rw [tbS_succ, Int.natCast_add, Int.natCast_one]; rfl⟩, fun _ H => H⟩
theorem Fn.weak {P : Program} {F : FuncId} {args : Array Value} {S : List Nat} {w0 : World} {L1 L2 : List Blk} {R : Value → List Blk → Prop} (hL : ∀ w, HP S w0 w L1 → HP S w0 w L2) (hc : Fn P F args S w0 L2 R) : Fn P F args S w0 L1 R := .mk fun w H => hc.out w (hL w H)
section
variable {P : Program} {n : Nat} {l : List (Nat × Value)} {S : List Nat} {w0 : World} {L : List Blk} {kt : Kont}
theorem G_regionHp {id m : Nat} {os : List Oper} {pre T : List Blk} (hb : pre ++ T = L) (hm : P.follows .mixedOrders = true) (hl : os.length = m) (h : G n l S w0 L (KH P S w0 pre os.toArray kt m (Array.replicate m false))) : G n l S w0 L (KC P (.region id os.toArray true) kt) := .mk fun a w hf H => by
  subst hl
  have _ := hb
  exact ⟨wp_region_held hm (by simpa using (h.out a _ hf H.drew).out)⟩
end
def EnS (ct rb n : Nat) (L0 T : List Blk) : Prop := ∃ m1 m2 o, T = tbS ct m1 m2 n ++ (Rg.wst rb o ++ L0)
theorem named_t {S w0} {ct rb n : Nat} {L0 T : List Blk} (pre : List Blk) (hT : EnS ct rb n L0 T) (hn : n ≤ 100000) (s : ByteArray) : Fn Tryz.prog 98 #[.pointer (some ⟨ct, 0, none⟩), .string s] S w0 (pre ++ T) fun v L' => ∃ T', v = gotV (nameF s clls) ∧ EnS ct rb (n + 1) L0 T' ∧ pre ++ T' = L' := by
  obtain ⟨m1, m2, o, rfl⟩ := hT
  refine Fn.weak (L2 := tbS ct m1 m2 n ++ (pre ++ (Rg.wst rb o ++ L0))) (fun w H => HP.swapA _ H) ((namS_c ct m1 m2 n hn s).mono ?_)
  rintro v L' ⟨x, y, rfl, rfl⟩
  exact ⟨_, ⟨_, rfl, ⟨x, y, o, rfl⟩, rfl⟩, fun w H => HP.swapA pre H⟩
theorem wparse_t {S w0} {ct rb n : Nat} {L0 T : List Blk} (pre : List Blk) (hT : EnS ct rb n L0 T) (s : ByteArray) (hs : s.size ≤ 1000000) : Fn Tryz.prog 114 #[.pointer (some ⟨rb, 0, none⟩), .string s] S w0 (pre ++ T) fun v L' => ∃ T', v = tupleOf [.int .u16 ((Rg.parseF 0 (splitC 44 (lB s))).1 : Nat), .int .i64 ((Rg.parseF 0 (splitC 44 (lB s))).2 : Nat)] ∧ EnS ct rb n L0 T' ∧ pre ++ T' = L' := by
  obtain ⟨m1, m2, o, rfl⟩ := hT
  refine Fn.weak (L2 := Rg.wst rb o ++ ((pre ++ tbS ct m1 m2 n) ++ L0)) (fun w H => HP.swapA (e := pre ++ tbS ct m1 m2 n) _ (by rw [List.append_assoc]; exact H)) ((Rg.parse_c rb o s hs).mono ?_)
  rintro v L' ⟨m, rfl, rfl⟩
  exact ⟨_, ⟨_, rfl, ⟨m1, m2, some m, rfl⟩, rfl⟩, fun w H => by have H2 := HP.swapA (pre ++ tbS ct m1 m2 n) H; rw [List.append_assoc] at H2; exact H2⟩
theorem parseF_lt (l : List (List UInt8)) : ∀ acc : Nat, acc < 65536 → (Rg.parseF acc l).1 < 65536 := by
  induction l with
  | nil => intro acc h; exact h
  | cons x r ih =>
    intro acc h
    unfold Rg.parseF
    split
    · exact Nat.zero_lt_succ _
    · rename_i i hi
      have hlt := Rg.ixs_lt i (Rg.bitF_mem hi).1
      split
      · exact Nat.zero_lt_succ _
      · rename_i hb
        have h2 := (Rg.parse_step acc i h hlt).2
        rw [Rg.or_pow _ _ (by simpa using hb)] at h2
        exact ih _ (by omega)
abbrev prB (pb ct rb : Nat) : Blk := ⟨true, pb, .cells #[.pointer (some ⟨ct, 0, none⟩), .pointer (some ⟨rb, 0, none⟩)] 77 (0, 0)⟩
end Go.Proofs.YtecbgehooembmaaGreatDoor
namespace Go.Proofs.YtecbgehooembmaaGreatDoor
open Go Go.RowKit
set_option maxRecDepth 100000 in
set_option maxHeartbeats 1000000 in
theorem set_c {S w0} (kd : Nat) (hkd : kd < 65536) (b pb ct rb m : Nat) (L0 T : List Blk) (hT : EnS ct rb m L0 T) (a : Option Addr) (c : Nat) (l : List Tk) (w : Wr) (o : O8) (x : Blk) (h : TkS x a c l) :
    Fn Tryz.prog 100 #[.pointer (some ⟨b, 0, none⟩), .int .u16 (kd : Nat)] S w0 (rdB b (.pointer (some ⟨pb, 0, none⟩)) a l.length c w o :: x :: prB pb ct rb :: T) fun v L' => ∃ a' c' T', v = .int .u16 ((setF kd (l, w)).1 : Nat) ∧ TkS x a' c' (setF kd (l, w)).2.1 ∧ EnS ct rb m L0 T' ∧ rdB b (.pointer (some ⟨pb, 0, none⟩)) a' (setF kd (l, w)).2.1.length c' (setF kd (l, w)).2.2 o :: x :: prB pb ct rb :: T' = L' := by
  have htk := fun (L : List Blk) (i j : Nat) h1 h2 => take_d (S := S) (w0 := w0) (L := L) 1 (by decide) (i := i) (j := j) (b := b) (c := c) (p := .pointer (some ⟨pb, 0, none⟩)) (a := a) (l := l) (w := w) (o := o) (x := x) h1 h2 h
  have hok := (takeF_ok (k := 1) (s := (l, w)) h.ok).1
  unfold setF
  generalize takeF 1 (l, w) = Q at *
  obtain ⟨t, r, f1, f2, f3⟩ := Q
  dsimp only at *
  clear h
  have hps := fun (x1 x2 x3 x4 : Blk) => wparse_t (S := S) (w0 := w0) [x1, x2, x3, x4] hT (mB8 t.text) (by rw [mB8_size]; have := hok.text; omega)
  rw [lB_mB8] at hps
  have hlt := parseF_lt (splitC 44 t.text) 0 (Nat.zero_lt_succ _)
  generalize Rg.parseF 0 (splitC 44 t.text) = Q at *
  obtain ⟨st, er⟩ := Q
  dsimp only at *
  have hhs := fun (L : List Blk) => Rg.has_c (S := S) (w0 := w0) (L := L) kd st hkd hlt
  have hfe := fun (L : List Blk) (i : Nat) (a' : Option Addr) (c' : Nat) h1 => fail_d (S := S) (w0 := w0) (L := L) (i := i) (b := b) (n := r.length) (c := c') (p := .pointer (some ⟨pb, 0, none⟩)) (a := a') (w := (f1, f2, f3)) (o := o) h1 t er
  have hfr := fun (L : List Blk) (i : Nat) (a' : Option Addr) (c' : Nat) h1 => fail_d (S := S) (w0 := w0) (L := L) (i := i) (b := b) (n := r.length) (c := c') (p := .pointer (some ⟨pb, 0, none⟩)) (a := a') (w := (f1, f2, f3)) (o := o) h1 t 204
  obtain ⟨o1, o2, o3, o4, o5, o6, o7, o8⟩ := o
  obtain ⟨tk, tx, nu, li, co⟩ := t
  dsimp only [Tk.cells, List.cons_append, List.nil_append] at *
  by_cases he : er = 0
  · rw [if_neg (fun h => h he)]
    subst he
    clear hfe
    by_cases hh : Rg.hasF kd st = false
    · rw [if_pos hh]
      rw [hh] at hhs
      generalize failW (f1, f2, f3) _ 204 = fw at *
      obtain ⟨e1, e2, e3⟩ := fw
      refine Fn2 Tryz.func100 Tryz.ntmps100 rfl rfl ?_
      repeat' (first | refine G_seq ?_ | refine G_then_n ?_ | refine G_blk_n ?_ | refine G_block ?_ | refine G_ret ?_ | refine G_cond_t rfl ?_ | refine G_cond_f rfl ?_ | (refine G_region (id := 0) ?_ <;> (try refine q_a ?_) <;> (try refine G_nil ?_)) | (refine G_region (id := 1) ?_ <;> (try refine q_m ?_) <;> (try refine G_op1 ?_; (refine q_c 53 (c := by apply htk; exact c_12; exact c_12) (h := ?_); rintro _ _ ⟨a', c', rfl, hts, rfl⟩; (try simp only [List.eraseIdx_cons_succ]); (try simp only [List.eraseIdx_cons_zero]))) <;> (try refine G_op1 ?_; (refine K1_alloc (t := 166) rfl Tryz.zeroValue166 ?_; intro nb hnb; (try simp only [Value.cells]))) <;> (try refine G_op1 ?_; (refine q_W ?_)) <;> (try refine G_nil ?_)) | ((refine G_regionHp (pre := [_, _, _, _]) (id := 2) (m := 15) rfl (by kernel_rfl) rfl ?_) <;> (try refine q_t 0 (e := c_10) (x := by exact E_move rfl) (h := ?_)) <;> (try refine q_t 1 (e := c_10) (x := by exact E_nilCheck rfl) (h := ?_)) <;> (try refine q_t 2 (e := c_10) (x := by exact q_f fo_85_0) (h := ?_)) <;> (try refine q_t 3 (e := c_10) (x := by exact q_l) (h := ?_)) <;> (try refine q_t 4 (e := c_10) (x := by exact E_nilCheck rfl) (h := ?_)) <;> (try refine q_t 5 (e := c_10) (x := by exact q_f fo_77_1) (h := ?_)) <;> (try refine q_t 6 (e := c_10) (x := by exact q_l) (h := ?_)) <;> (try refine q_t 7 (e := c_10) (x := by exact q_f fo_166_1) (h := ?_)) <;> (try refine q_t 8 (e := c_10) (x := by exact q_l) (h := ?_)) <;> (try refine q_r 9 ?_; (refine q_c 114 (c := by apply hps) (h := ?_); rintro _ _ ⟨T', rfl, hT', rfl⟩; (try simp only [List.eraseIdx_cons_succ]); (try simp only [List.eraseIdx_cons_zero])); refine H_go c_10 ?_) <;> (try refine q_t 10 (e := c_10) (x := by exact E_move rfl) (h := ?_)) <;> (try refine q_t 11 (e := c_10) (x := by exact E_extractL rfl rfl) (h := ?_)) <;> (try refine q_t 12 (e := c_10) (x := by exact E_extractL rfl rfl) (h := ?_)) <;> (try refine q_t 13 (e := c_10) (x := by exact E_assign rfl) (h := ?_)) <;> (try refine q_t 14 (e := c_10) (x := by exact E_assign rfl) (h := ?_)) <;> (try refine H_done (by kernel_rfl) ?_)) | (refine G_region (id := 3) ?_ <;> (try refine q_m ?_) <;> (try refine q_e (by exact q_b (r := by refine rb_neq_f ?_; first | rfl | (with_reducible assumption) | (decide; done) | omega)) ?_) <;> (try refine q_a ?_) <;> (try refine G_nil ?_)) | (refine G_region (id := 5) ?_ <;> (try refine q_m ?_) <;> (try refine q_m ?_) <;> (try refine G_op1 ?_; (refine q_c 91 (c := by apply hhs) (h := ?_); rintro _ _ ⟨rfl, rfl⟩; (try simp only [List.eraseIdx_cons_succ]); (try simp only [List.eraseIdx_cons_zero]))) <;> (try refine q_e (by apply E_un; exact rfl; exact ru_not_f) ?_) <;> (try refine q_a ?_) <;> (try refine G_nil ?_)) | (refine G_region (id := 6) ?_ <;> (try refine q_m ?_) <;> (try refine q_e (q_L sz_166) ?_) <;> (try refine G_op1 ?_; (refine q_c 52 (c := by apply hfr; exact c_9) (h := ?_); rintro _ _ ⟨rfl, rfl⟩; (try simp only [List.eraseIdx_cons_succ]); (try simp only [List.eraseIdx_cons_zero]))) <;> (try refine G_nil ?_)) | (refine G_region (id := 7) ?_ <;> (try refine q_m ?_) <;> (try refine q_a ?_) <;> (try refine G_nil ?_)))
      (refine G_done Tryz.results100 (.tmp rfl .nil) ?_)
      exact ⟨_, ⟨a', c', T', rfl, hts, hT', rfl⟩, by intro w H; refine Sel.out ?_ H; (try simp only [List.cons_append, List.nil_append]); repeat (first | exact Sel.refl _ | (apply Sel.cons; exact c_29; (try simp only [List.eraseIdx_cons_succ]); (try simp only [List.eraseIdx_cons_zero])) | apply Sel.drop)⟩
    · rw [if_neg hh]
      rw [Bool.not_eq_false] at hh
      rw [hh] at hhs
      refine Fn2 Tryz.func100 Tryz.ntmps100 rfl rfl ?_
      repeat' (first | refine G_seq ?_ | refine G_then_n ?_ | refine G_blk_n ?_ | refine G_block ?_ | refine G_skip ?_ | refine G_ret ?_ | refine G_cond_f rfl ?_ | (refine G_region (id := 0) ?_ <;> (try refine q_a ?_) <;> (try refine G_nil ?_)) | (refine G_region (id := 1) ?_ <;> (try refine q_m ?_) <;> (try refine G_op1 ?_; (refine q_c 53 (c := by apply htk; exact c_12; exact c_12) (h := ?_); rintro _ _ ⟨a', c', rfl, hts, rfl⟩; (try simp only [List.eraseIdx_cons_succ]); (try simp only [List.eraseIdx_cons_zero]))) <;> (try refine G_op1 ?_; (refine K1_alloc (t := 166) rfl Tryz.zeroValue166 ?_; intro nb hnb; (try simp only [Value.cells]))) <;> (try refine G_op1 ?_; (refine q_W ?_)) <;> (try refine G_nil ?_)) | ((refine G_regionHp (pre := [_, _, _, _]) (id := 2) (m := 15) rfl (by kernel_rfl) rfl ?_) <;> (try refine q_t 0 (e := c_10) (x := by exact E_move rfl) (h := ?_)) <;> (try refine q_t 1 (e := c_10) (x := by exact E_nilCheck rfl) (h := ?_)) <;> (try refine q_t 2 (e := c_10) (x := by exact q_f fo_85_0) (h := ?_)) <;> (try refine q_t 3 (e := c_10) (x := by exact q_l) (h := ?_)) <;> (try refine q_t 4 (e := c_10) (x := by exact E_nilCheck rfl) (h := ?_)) <;> (try refine q_t 5 (e := c_10) (x := by exact q_f fo_77_1) (h := ?_)) <;> (try refine q_t 6 (e := c_10) (x := by exact q_l) (h := ?_)) <;> (try refine q_t 7 (e := c_10) (x := by exact q_f fo_166_1) (h := ?_)) <;> (try refine q_t 8 (e := c_10) (x := by exact q_l) (h := ?_)) <;> (try refine q_r 9 ?_; (refine q_c 114 (c := by apply hps) (h := ?_); rintro _ _ ⟨T', rfl, hT', rfl⟩; (try simp only [List.eraseIdx_cons_succ]); (try simp only [List.eraseIdx_cons_zero])); refine H_go c_10 ?_) <;> (try refine q_t 10 (e := c_10) (x := by exact E_move rfl) (h := ?_)) <;> (try refine q_t 11 (e := c_10) (x := by exact E_extractL rfl rfl) (h := ?_)) <;> (try refine q_t 12 (e := c_10) (x := by exact E_extractL rfl rfl) (h := ?_)) <;> (try refine q_t 13 (e := c_10) (x := by exact E_assign rfl) (h := ?_)) <;> (try refine q_t 14 (e := c_10) (x := by exact E_assign rfl) (h := ?_)) <;> (try refine H_done (by kernel_rfl) ?_)) | (refine G_region (id := 3) ?_ <;> (try refine q_m ?_) <;> (try refine q_e (by exact q_b (r := by refine rb_neq_f ?_; first | rfl | (with_reducible assumption) | (decide; done) | omega)) ?_) <;> (try refine q_a ?_) <;> (try refine G_nil ?_)) | (refine G_region (id := 5) ?_ <;> (try refine q_m ?_) <;> (try refine q_m ?_) <;> (try refine G_op1 ?_; (refine q_c 91 (c := by apply hhs) (h := ?_); rintro _ _ ⟨rfl, rfl⟩; (try simp only [List.eraseIdx_cons_succ]); (try simp only [List.eraseIdx_cons_zero]))) <;> (try refine q_e (by apply E_un; exact rfl; exact ru_not_t) ?_) <;> (try refine q_a ?_) <;> (try refine G_nil ?_)) | (refine G_region (id := 7) ?_ <;> (try refine q_m ?_) <;> (try refine q_a ?_) <;> (try refine G_nil ?_)))
      (refine G_done Tryz.results100 (.tmp rfl .nil) ?_)
      exact ⟨_, ⟨a', c', T', rfl, hts, hT', rfl⟩, by intro w H; refine Sel.out ?_ H; (try simp only [List.cons_append, List.nil_append]); repeat (first | exact Sel.refl _ | (apply Sel.cons; exact c_29; (try simp only [List.eraseIdx_cons_succ]); (try simp only [List.eraseIdx_cons_zero])) | apply Sel.drop)⟩
  · rw [if_pos he]
    have he' : ¬ (er : Int) = 0 := by omega
    generalize failW (f1, f2, f3) _ er = fw at *
    obtain ⟨e1, e2, e3⟩ := fw
    clear hfr
    refine Fn2 Tryz.func100 Tryz.ntmps100 rfl rfl ?_
    repeat' (first | refine G_seq ?_ | refine G_then_n ?_ | refine G_blk_n ?_ | refine G_block ?_ | refine G_ret ?_ | refine G_cond_t rfl ?_ | (refine G_region (id := 0) ?_ <;> (try refine q_a ?_) <;> (try refine G_nil ?_)) | (refine G_region (id := 1) ?_ <;> (try refine q_m ?_) <;> (try refine G_op1 ?_; (refine q_c 53 (c := by apply htk; exact c_12; exact c_12) (h := ?_); rintro _ _ ⟨a', c', rfl, hts, rfl⟩; (try simp only [List.eraseIdx_cons_succ]); (try simp only [List.eraseIdx_cons_zero]))) <;> (try refine G_op1 ?_; (refine K1_alloc (t := 166) rfl Tryz.zeroValue166 ?_; intro nb hnb; (try simp only [Value.cells]))) <;> (try refine G_op1 ?_; (refine q_W ?_)) <;> (try refine G_nil ?_)) | ((refine G_regionHp (pre := [_, _, _, _]) (id := 2) (m := 15) rfl (by kernel_rfl) rfl ?_) <;> (try refine q_t 0 (e := c_10) (x := by exact E_move rfl) (h := ?_)) <;> (try refine q_t 1 (e := c_10) (x := by exact E_nilCheck rfl) (h := ?_)) <;> (try refine q_t 2 (e := c_10) (x := by exact q_f fo_85_0) (h := ?_)) <;> (try refine q_t 3 (e := c_10) (x := by exact q_l) (h := ?_)) <;> (try refine q_t 4 (e := c_10) (x := by exact E_nilCheck rfl) (h := ?_)) <;> (try refine q_t 5 (e := c_10) (x := by exact q_f fo_77_1) (h := ?_)) <;> (try refine q_t 6 (e := c_10) (x := by exact q_l) (h := ?_)) <;> (try refine q_t 7 (e := c_10) (x := by exact q_f fo_166_1) (h := ?_)) <;> (try refine q_t 8 (e := c_10) (x := by exact q_l) (h := ?_)) <;> (try refine q_r 9 ?_; (refine q_c 114 (c := by apply hps) (h := ?_); rintro _ _ ⟨T', rfl, hT', rfl⟩; (try simp only [List.eraseIdx_cons_succ]); (try simp only [List.eraseIdx_cons_zero])); refine H_go c_10 ?_) <;> (try refine q_t 10 (e := c_10) (x := by exact E_move rfl) (h := ?_)) <;> (try refine q_t 11 (e := c_10) (x := by exact E_extractL rfl rfl) (h := ?_)) <;> (try refine q_t 12 (e := c_10) (x := by exact E_extractL rfl rfl) (h := ?_)) <;> (try refine q_t 13 (e := c_10) (x := by exact E_assign rfl) (h := ?_)) <;> (try refine q_t 14 (e := c_10) (x := by exact E_assign rfl) (h := ?_)) <;> (try refine H_done (by kernel_rfl) ?_)) | (refine G_region (id := 3) ?_ <;> (try refine q_m ?_) <;> (try refine q_e (q_b (r := by exact rb_neq_t q_o)) ?_) <;> (try refine q_a ?_) <;> (try refine G_nil ?_)) | (refine G_region (id := 4) ?_ <;> (try refine q_m ?_) <;> (try refine q_e (q_L sz_166) ?_) <;> (try refine q_m ?_) <;> (try refine G_op1 ?_; (refine q_c 52 (c := by apply hfe; exact c_9) (h := ?_); rintro _ _ ⟨rfl, rfl⟩; (try simp only [List.eraseIdx_cons_succ]); (try simp only [List.eraseIdx_cons_zero]))) <;> (try refine G_nil ?_)) | (refine G_region (id := 7) ?_ <;> (try refine q_m ?_) <;> (try refine q_a ?_) <;> (try refine G_nil ?_)))
    (refine G_done Tryz.results100 (.tmp rfl .nil) ?_)
    exact ⟨_, ⟨a', c', T', rfl, hts, hT', rfl⟩, by intro w H; refine Sel.out ?_ H; (try simp only [List.cons_append, List.nil_append]); repeat (first | exact Sel.refl _ | (apply Sel.cons; exact c_29; (try simp only [List.eraseIdx_cons_succ]); (try simp only [List.eraseIdx_cons_zero])) | apply Sel.drop)⟩
end Go.Proofs.YtecbgehooembmaaGreatDoor
namespace Go.Proofs.YtecbgehooembmaaGreatDoor
open Go Go.RowKit
theorem EnS.frame {P : Program} {F : FuncId} {args : Array Value} {S : List Nat} {w0 : World} {ct rb n : Nat} {L0 T : List Blk} {R : Value → List Blk → Nat → Prop} (A e : List Blk) (hT : EnS ct rb n L0 T)
    (hc : ∀ T2, EnS ct rb n (e ++ L0) T2 → Fn P F args S w0 (A ++ T2) fun v L' => ∃ A' T' n', R v A' n' ∧ EnS ct rb n' (e ++ L0) T' ∧ A' ++ T' = L') :
    Fn P F args S w0 (e ++ (A ++ T)) fun v L' => ∃ A' T' n', R v A' n' ∧ EnS ct rb n' L0 T' ∧ e ++ (A' ++ T') = L' := by
  obtain ⟨m1, m2, o, rfl⟩ := hT
  refine Fn.weak (L2 := A ++ (tbS ct m1 m2 n ++ (Rg.wst rb o ++ (e ++ L0)))) (fun w H => ?_) ((hc _ ⟨m1, m2, o, rfl⟩).mono ?_)
  · refine H.perm ?_
    refine (List.perm_append_comm_assoc ..).trans (List.Perm.append_left _ ?_)
    refine (List.perm_append_comm_assoc ..).trans (List.Perm.append_left _ ?_)
    exact List.perm_append_comm_assoc ..
  · rintro v L' ⟨A', T', n', hR, ⟨y1, y2, o', rfl⟩, rfl⟩
    refine ⟨_, ⟨A', _, n', hR, ⟨y1, y2, o', rfl⟩, rfl⟩, fun w H => H.perm ?_⟩
    refine List.Perm.trans (List.Perm.append_left _ ?_) (List.perm_append_comm_assoc ..)
    refine List.Perm.trans (List.Perm.append_left _ ?_) (List.perm_append_comm_assoc ..)
    exact List.perm_append_comm_assoc ..
theorem set_e {S w0} (e : List Blk) (kd : Nat) (hkd : kd < 65536) (b pb ct rb m : Nat) (L0 T : List Blk) (hT : EnS ct rb m L0 T) (a : Option Addr) (c : Nat) (l : List Tk) (w : Wr) (o : O8) (x : Blk) (h : TkS x a c l) :
    Fn Tryz.prog 100 #[.pointer (some ⟨b, 0, none⟩), .int .u16 (kd : Nat)] S w0 (e ++ (rdB b (.pointer (some ⟨pb, 0, none⟩)) a l.length c w o :: x :: prB pb ct rb :: T)) fun v L' => ∃ a' c' T', v = .int .u16 ((setF kd (l, w)).1 : Nat) ∧ TkS x a' c' (setF kd (l, w)).2.1 ∧ EnS ct rb m L0 T' ∧ e ++ (rdB b (.pointer (some ⟨pb, 0, none⟩)) a' (setF kd (l, w)).2.1.length c' (setF kd (l, w)).2.2 o :: x :: prB pb ct rb :: T') = L' := by
  refine (EnS.frame (R := fun v A' n' => ∃ a' c', v = .int .u16 ((setF kd (l, w)).1 : Nat) ∧ TkS x a' c' (setF kd (l, w)).2.1 ∧ n' = m ∧ A' = [rdB b (.pointer (some ⟨pb, 0, none⟩)) a' (setF kd (l, w)).2.1.length c' (setF kd (l, w)).2.2 o, x, prB pb ct rb]) [rdB b (.pointer (some ⟨pb, 0, none⟩)) a l.length c w o, x, prB pb ct rb] e hT (fun T2 h2 => (set_c (S := S) (w0 := w0) kd hkd b pb ct rb m (e ++ L0) T2 h2 a c l w o x h).mono ?_)).mono ?_
  · rintro v L' ⟨a', c', T', h1, h3, h4, rfl⟩
    exact ⟨_, ⟨_, T', m, ⟨a', c', h1, h3, rfl, rfl⟩, h4, rfl⟩, fun _ H => H⟩
  · rintro v L' ⟨A', T', n', ⟨a', c', h1, h3, rfl, rfl⟩, h4, rfl⟩
    exact ⟨_, ⟨a', c', T', h1, h3, h4, rfl⟩, fun _ H => H⟩
def hanF (hd : Nat) (at_ : Tk) (s : PS) : Nat × PS := setF 51199 (s.1, if hd ≠ 0 then failW s.2 at_ 206 else s.2)
set_option maxRecDepth 100000 in
set_option maxHeartbeats 1000000 in
theorem handle_c {S w0} (hd : Nat) (o1 o2 o3 o5 o6 o7 o8 : Value) (t : Tk) (b pb ct rb m : Nat) (L0 T : List Blk) (hT : EnS ct rb m L0 T) (a : Option Addr) (c : Nat) (l : List Tk) (w : Wr) (x : Blk) (h : TkS x a c l) :
    Fn Tryz.prog 82 #[.pointer (some ⟨b, 0, none⟩), .agg t.cells.toArray] S w0 (rdB b (.pointer (some ⟨pb, 0, none⟩)) a l.length c w ⟨o1, o2, o3, .int .u16 (hd : Nat), o5, o6, o7, o8⟩ :: x :: prB pb ct rb :: T) fun v L' => ∃ a' c' T', v = .tuple #[] ∧ TkS x a' c' (hanF hd t (l, w)).2.1 ∧ EnS ct rb m L0 T' ∧ rdB b (.pointer (some ⟨pb, 0, none⟩)) a' (hanF hd t (l, w)).2.1.length c' (hanF hd t (l, w)).2.2 ⟨o1, o2, o3, .int .u16 ((hanF hd t (l, w)).1 : Nat), o5, o6, o7, o8⟩ :: x :: prB pb ct rb :: T' = L' := by
  have hfl := fun (L : List Blk) (i : Nat) (a' : Option Addr) (c' : Nat) h1 => fail_d (S := S) (w0 := w0) (L := L) (i := i) (b := b) (n := l.length) (c := c') (p := .pointer (some ⟨pb, 0, none⟩)) (a := a') (w := w) (o := ⟨o1, o2, o3, .int .u16 (hd : Nat), o5, o6, o7, o8⟩) h1 t 206
  unfold hanF
  dsimp only
  have hst := fun (x1 : Blk) => set_e (S := S) (w0 := w0) [x1] 51199 (by omega) b pb ct rb m L0 T hT a c l (if hd ≠ 0 then failW w t 206 else w) ⟨o1, o2, o3, .int .u16 (hd : Nat), o5, o6, o7, o8⟩ x h
  by_cases hz : hd ≠ 0
  · rw [if_pos hz] at hst ⊢
    generalize setF 51199 (l, failW w t 206) = Q at *
    obtain ⟨st, r, f1, f2, f3⟩ := Q
    generalize failW w t 206 = fw at *
    obtain ⟨e1, e2, e3⟩ := fw
    obtain ⟨w1, w2, w3⟩ := w
    obtain ⟨tk, tx, nu, li, co⟩ := t
    dsimp only [Tk.cells, List.cons_append, List.nil_append] at *
    refine Fn2 Tryz.func82 Tryz.ntmps82 rfl rfl ?_
    repeat' (first | (refine G_markr (id := 3) ?_) | refine G_seq ?_ | refine G_then_n ?_ | refine G_cond_t rfl ?_ | (refine G_region (id := 0) ?_ <;> (try refine G_op1 ?_; (refine K1_box (t := 166) rfl rfl ?_; intro nb hnb; (try simp only [Value.cells]))) <;> (try refine G_nil ?_)) | (refine G_region (id := 1) ?_ <;> (try refine q_m ?_) <;> (try refine q_n ?_) <;> (try refine q_e (q_f fo_85_3) ?_) <;> (try refine q_e (q_g fo_36_3) ?_) <;> (try refine q_e q_l ?_) <;> (try refine q_e (q_b (r := by exact rb_neq_t q_o)) ?_) <;> (try refine G_nil ?_)) | (refine G_region (id := 2) ?_ <;> (try refine q_m ?_) <;> (try refine q_e (q_L sz_166) ?_) <;> (try refine G_op1 ?_; (refine q_c 52 (c := by apply hfl; exact c_9) (h := ?_); rintro _ _ ⟨rfl, rfl⟩; (try simp only [List.eraseIdx_cons_succ]); (try simp only [List.eraseIdx_cons_zero]))) <;> (try refine G_nil ?_)))
    refine ⟨?_⟩
    refine G_blocks (L' := tkBl nb ⟨tk, tx, nu, li, co⟩ :: rdB b (.pointer (some ⟨pb, 0, none⟩)) a l.length c (e1, e2, e3) ⟨o1, o2, o3, .int .u16 (hd : Nat), o5, o6, o7, o8⟩ :: x :: prB pb ct rb :: T) c_24 ?_
    repeat' (refine G_region (id := 3) ?_ <;> (try refine q_m ?_) <;> (try refine q_m ?_) <;> (try refine G_op1 ?_; (refine q_c 100 (c := by apply hst) (h := ?_); rintro _ _ ⟨a', c', T', rfl, hts, hT', rfl⟩; (try simp only [List.eraseIdx_cons_succ]); (try simp only [List.eraseIdx_cons_zero]))) <;> (try refine q_n ?_) <;> (try refine q_e (q_f fo_85_3) ?_) <;> (try refine q_e (q_g fo_36_3) ?_) <;> (try refine G_op1 ?_; (refine q_S ?_)) <;> (try refine G_nil ?_))
    (first | refine G_done Tryz.results82 .nil ?_ | refine G_done_n Tryz.results82 .nil ?_)
    exact ⟨_, ⟨a', c', T', rfl, hts, hT', rfl⟩, by intro w H; refine Sel.out ?_ H; (try simp only [List.cons_append, List.nil_append]); repeat (first | exact Sel.refl _ | (apply Sel.cons; exact c_29; (try simp only [List.eraseIdx_cons_succ]); (try simp only [List.eraseIdx_cons_zero])) | apply Sel.drop)⟩
  · rw [if_neg hz] at hst ⊢
    have hz0 : hd = 0 := by omega
    subst hz0
    generalize setF 51199 (l, w) = Q at *
    obtain ⟨st, r, f1, f2, f3⟩ := Q
    obtain ⟨w1, w2, w3⟩ := w
    obtain ⟨tk, tx, nu, li, co⟩ := t
    dsimp only [Tk.cells, List.cons_append, List.nil_append] at *
    clear hfl
    refine Fn2 Tryz.func82 Tryz.ntmps82 rfl rfl ?_
    repeat' (first | refine G_seq ?_ | refine G_then_n ?_ | refine G_skip ?_ | refine G_cond_f rfl ?_ | (refine G_region (id := 0) ?_ <;> (try refine G_op1 ?_; (refine K1_box (t := 166) rfl rfl ?_; intro nb hnb; (try simp only [Value.cells]))) <;> (try refine G_nil ?_)) | (refine G_region (id := 1) ?_ <;> (try refine q_m ?_) <;> (try refine q_n ?_) <;> (try refine q_e (q_f fo_85_3) ?_) <;> (try refine q_e (q_g fo_36_3) ?_) <;> (try refine q_e q_l ?_) <;> (try refine q_e (by exact q_b (r := by refine rb_neq_f ?_; first | rfl | (with_reducible assumption) | (decide; done) | omega)) ?_) <;> (try refine G_nil ?_)) | (refine G_region (id := 3) ?_ <;> (try refine q_m ?_) <;> (try refine q_m ?_) <;> (try refine G_op1 ?_; (refine q_c 100 (c := by apply hst) (h := ?_); rintro _ _ ⟨a', c', T', rfl, hts, hT', rfl⟩; (try simp only [List.eraseIdx_cons_succ]); (try simp only [List.eraseIdx_cons_zero]))) <;> (try refine q_n ?_) <;> (try refine q_e (q_f fo_85_3) ?_) <;> (try refine q_e (q_g fo_36_3) ?_) <;> (try refine G_op1 ?_; (refine q_S ?_)) <;> (try refine G_nil ?_)))
    (first | refine G_done Tryz.results82 .nil ?_ | refine G_done_n Tryz.results82 .nil ?_)
    exact ⟨_, ⟨a', c', T', rfl, hts, hT', rfl⟩, by intro w H; refine Sel.out ?_ H; (try simp only [List.cons_append, List.nil_append]); repeat (first | exact Sel.refl _ | (apply Sel.cons; exact c_29; (try simp only [List.eraseIdx_cons_succ]); (try simp only [List.eraseIdx_cons_zero])) | apply Sel.drop)⟩
end Go.Proofs.YtecbgehooembmaaGreatDoor
namespace Go.Proofs.YtecbgehooembmaaGreatDoor
open Go Go.RowKit
section
variable {α : Type} [DecidableEq α] (d : TypeDesc) (key : α → Value) (hk : ∀ a b, Instr.sameNow d (key a) (key b) = some (decide (a = b)))
def setKv (qs : List α) : List (Value × Value) := qs.map fun p => (key p, .bool true)
def MapS (kvs : List (Value × Value)) (ps : List α) : Prop := ∃ qs : List α, kvs = setKv key qs ∧ ∀ p, p ∈ qs ↔ p ∈ ps
include hk in
theorem fd_set (s : α) (qs : List α) (i : Nat) : (s ∉ qs ∧ fd d (key s) (setKv key qs) i = some none) ∨ (s ∈ qs ∧ ∃ j, j < qs.length ∧ qs[j]? = some s ∧ fd d (key s) (setKv key qs) i = some (some (i + j, .bool true))) := by
  induction qs generalizing i with
  | nil => exact Or.inl ⟨by simp, rfl⟩
  | cons q r ih =>
    by_cases h : s = q
    · refine Or.inr ⟨by simp [h], 0, by simp, by simp [h], ?_⟩
      simp [setKv, fd, hk, h]
    · have e : fd d (key s) (setKv key (q :: r)) i = fd d (key s) (setKv key r) (i + 1) := by simp [setKv, fd, hk, h]
      rw [e]
      rcases ih (i + 1) with ⟨h1, h2⟩ | ⟨h1, j, h2, h3, h4⟩
      · exact Or.inl ⟨by simp [h, h1], h2⟩
      · exact Or.inr ⟨by simp [h1], j + 1, by simpa using h2, by simpa using h3, by rw [h4]; congr 3; omega⟩
include hk in
theorem MapS.look {kvs : List (Value × Value)} {ps : List α} (h : MapS key kvs ps) (s : α) : ∃ r, fd d (key s) kvs 0 = some r ∧ found r (.bool false) = .bool (decide (s ∈ ps)) ∧ MapS key (updE kvs (key s) (.bool true) r) (ps ++ [s]) := by
  obtain ⟨qs, rfl, hq⟩ := h
  rcases fd_set d key hk s qs 0 with ⟨h1, h2⟩ | ⟨h1, j, h2, h3, h4⟩
  · refine ⟨none, h2, ?_, qs ++ [s], ?_, ?_⟩
    · rw [decide_eq_false (fun h => h1 ((hq s).2 h))]; rfl
    · simp [updE, setKv]
    · intro p; simp [hq p]
  · refine ⟨some (0 + j, .bool true), h4, ?_, qs, ?_, ?_⟩
    · rw [decide_eq_true ((hq s).1 h1)]; rfl
    · show (setKv key qs).set (0 + j) (key s, .bool true) = setKv key qs
      rw [Nat.zero_add]
      unfold setKv
      have hj : qs[j] = s := by rw [List.getElem?_eq_getElem h2] at h3; exact Option.some.inj h3
      apply List.ext_getElem (by simp)
      intro i hi1 hi2
      rw [List.getElem_set]
      split
      · rename_i hij; subst hij; simp [hj]
      · rfl
    · intro p
      rw [hq p, List.mem_append, List.mem_singleton]
      refine ⟨Or.inl, ?_⟩
      rintro (h | rfl)
      · exact h
      · exact (hq _).1 h1
end
theorem MapS.nil {α : Type} (key : α → Value) : MapS key [] ([] : List α) := ⟨[], rfl, fun _ => Iff.rfl⟩
abbrev keyT (s : List UInt8) : Value := .string (mB8 s)
theorem keyT_same (a b : List UInt8) : Instr.sameNow .string (keyT a) (keyT b) = some (decide (a = b)) := by
  have : (mB8 a = mB8 b) ↔ a = b := ⟨fun h => by rw [← lB_mB8 a, h, lB_mB8], fun h => by rw [h]⟩
  simp [Instr.sameNow, ba_beq, this]
abbrev keyP (n : Nat) : Value := .int .u16 (n : Nat)
theorem keyP_same (a b : Nat) : Instr.sameNow (.int .u16) (keyP a) (keyP b) = some (decide (a = b)) := by
  have e : ((a : Int) == (b : Int)) = decide (a = b) := by
    by_cases h : a = b
    · subst h; simp
    · rw [decide_eq_false h]
      exact beq_false_of_ne (by omega)
  simp [Instr.sameNow, e]
end Go.Proofs.YtecbgehooembmaaGreatDoor
namespace Go.Proofs.YtecbgehooembmaaGreatDoor
open Go Go.RowKit
set_option maxRecDepth 100000 in
theorem pathL_c {S w0 L} (s : ByteArray) (hs : s.size ≤ 1000000) : Fn Tryz.prog 66 #[.string s] S w0 L fun v L' => v = .bool (Pt.pathF (lB s)) ∧ L = L' := by
  by_cases h : s.size ≤ 1000
  · exact Pt.path_c s h
  · have hl := lB_len s
    have e : Pt.pathF (lB s) = false := by
      unfold Pt.pathF
      rw [if_neg (fun h1 => by rw [h1] at hl; simp at hl; omega), if_pos (by omega)]
    rw [e]
    have hn : ¬ s = ⟨#[47]⟩ := fun h1 => by rw [h1] at h; exact h (by decide)
    refine Fn1 Tryz.func66 Tryz.ntmps66 rfl rfl ?_
    repeat' (first | refine G_seq ?_ | refine G_then_n ?_ | refine G_then_r ?_ | refine G_ret ?_ | refine G_cond_t rfl ?_ | (refine G_region (id := 0) ?_ <;> (try refine q_a ?_) <;> (try refine G_nil ?_)) | (refine G_region (id := 1) ?_ <;> (try refine q_m ?_) <;> (try refine q_e (E_builtin rfl (fun _ => BigFrame.builtin_len ..) (r_len_string Tryz.underlying9)) ?_) <;> (try refine q_e (q_b (r := by exact rb_lss_f q_o)) ?_) <;> (try refine q_m ?_) <;> (try refine q_y (E_move rfl) ?_) <;> (try refine q_y (E_builtin rfl (fun _ => BigFrame.builtin_len ..) (r_len_string Tryz.underlying9)) ?_) <;> (try refine q_y (q_b (r := by exact rb_gtr_t q_o)) ?_) <;> (try refine q_p ?_) <;> (try refine q_m ?_) <;> (try refine q_z ?_) <;> (try refine q_z ?_) <;> (try refine q_z ?_) <;> (try refine q_p ?_) <;> (try refine G_nil ?_)) | (refine G_region (id := 2) ?_ <;> (try refine q_a ?_) <;> (try refine G_nil ?_)))
    (refine G_done Tryz.results66 (.tmp rfl .nil) ?_)
    exact ⟨_, ⟨rfl, rfl⟩, by intro w H; refine H.sub ?_; (try simp only [List.cons_append, List.nil_append]); repeat (exact List.Sublist.refl _)⟩
def ben1 (s : PS) : PS := ((takeF 3 s).2.1, if (takeF 3 s).2.2 = (0, 0, 0) ∧ Pt.pathF (takeF 3 s).1.text = false then failW (takeF 3 s).2.2 (takeF 3 s).1 203 else (takeF 3 s).2.2)
def ben2 (hd : Nat) (s : PS) : Nat × PS := setF (hd &&& 2047) (ben1 s)
def ben3 (hd : Nat) (ps : List (List UInt8 × Nat)) (s : PS) : Wr := if (takeF 3 s).1.text ∈ ps.map (·.1) then failW (ben2 hd s).2.2 (takeF 3 s).1 206 else (ben2 hd s).2.2
def benF (hd : Nat) (at_ : Tk) (ps : List (List UInt8 × Nat)) (s : PS) : List (List UInt8 × Nat) × PS := (ps ++ [((takeF 3 s).1.text, (ben2 hd s).1)], (ben2 hd s).2.1, if 32 < ps.length + 1 then failW (ben3 hd ps s) at_ 205 else ben3 hd ps s)
def pthC (ps : List (List UInt8 × Nat)) : List Value := ps.flatMap fun p => [.string (mB8 p.1), .int .u16 (p.2 : Nat)]
theorem iand_nat (a b : Nat) : iand (a : Int) (b : Int) = ((a &&& b : Nat) : Int) := rfl
end Go.Proofs.YtecbgehooembmaaGreatDoor
namespace Go.Proofs.YtecbgehooembmaaGreatDoor
open Go Go.RowKit
abbrev bpB (n : Nat) (t : List UInt8) (r : Nat) : Blk := ⟨true, n, .cells #[.string (mB8 t), .int .u16 (r : Nat)] 104 (0, 0)⟩
theorem EnS.put {S : List Nat} {w0 : World} {ct rb m : Nat} {L0 T : List Blk} (e : List Blk) (h : EnS ct rb m L0 T) : ∃ T2, EnS ct rb m (e ++ L0) T2 ∧ ∀ w, ∀ A : List Blk, HP S w0 w (A ++ (e ++ T)) → HP S w0 w (A ++ T2) := by
  obtain ⟨m1, m2, o, rfl⟩ := h
  refine ⟨_, ⟨m1, m2, o, rfl⟩, fun w A H => H.perm (List.Perm.append_left _ ?_)⟩
  exact (List.perm_append_comm_assoc ..).trans (List.Perm.append_left _ (List.perm_append_comm_assoc ..))
theorem EnS.get {S : List Nat} {w0 : World} {ct rb m : Nat} {L0 T2 : List Blk} (e : List Blk) (h : EnS ct rb m (e ++ L0) T2) : ∃ T, EnS ct rb m L0 T ∧ ∀ w, ∀ A : List Blk, HP S w0 w (A ++ T2) → HP S w0 w (A ++ (e ++ T)) := by
  obtain ⟨m1, m2, o, rfl⟩ := h
  refine ⟨_, ⟨m1, m2, o, rfl⟩, fun w A H => H.perm (List.Perm.append_left _ ?_)⟩
  exact (List.Perm.append_left _ (List.perm_append_comm_assoc ..)).trans (List.perm_append_comm_assoc ..)
theorem pthC_snoc (ps : List (List UInt8 × Nat)) (s : List UInt8) (n : Nat) : pthC (ps ++ [(s, n)]) = pthC ps ++ [.string (mB8 s), .int .u16 (n : Nat)] := by simp [pthC]
theorem setF_lt (kd : Nat) (s : PS) : (setF kd s).1 < 65536 := parseF_lt _ 0 (Nat.zero_lt_succ _)
set_option maxRecDepth 100000 in
set_option maxHeartbeats 2000000 in
theorem beneath_c {S w0} (hd : Nat) (hhd : hd < 65536) (ps : List (List UInt8 × Nat)) (o1 o2 o3 vp o6 o8 : Value) (ep : List Blk) (mb : Nat) (kvs : List (Value × Value)) (t : Tk) (b pb ct rb m : Nat) (L0 T : List Blk)
    (hlen : ps.length ≤ 64) (hO : Own 104 2 vp ps.length (pthC ps) ep) (hM : MapS keyT kvs (ps.map (·.1))) (hT : EnS ct rb m L0 T) (a : Option Addr) (c : Nat) (l : List Tk) (w : Wr) (x : Blk) (h : TkS x a c l) :
    Fn Tryz.prog 83 #[.pointer (some ⟨b, 0, none⟩), .agg t.cells.toArray] S w0 (mapB mb kvs :: (ep ++ (rdB b (.pointer (some ⟨pb, 0, none⟩)) a l.length c w ⟨o1, o2, o3, .int .u16 (hd : Nat), vp, o6, .map (some mb), o8⟩ :: x :: prB pb ct rb :: T))) fun v L' => ∃ a' c' T' kvs' vp' ep', v = .tuple #[] ∧ TkS x a' c' (benF hd t ps (l, w)).2.1 ∧ EnS ct rb m L0 T' ∧ MapS keyT kvs' ((benF hd t ps (l, w)).1.map (·.1)) ∧ Own 104 2 vp' (benF hd t ps (l, w)).1.length (pthC (benF hd t ps (l, w)).1) ep' ∧ mapB mb kvs' :: (ep' ++ (rdB b (.pointer (some ⟨pb, 0, none⟩)) a' (benF hd t ps (l, w)).2.1.length c' (benF hd t ps (l, w)).2.2 ⟨o1, o2, o3, .int .u16 (hd : Nat), vp', o6, .map (some mb), o8⟩ :: x :: prB pb ct rb :: T')) = L' := by
  have htk := fun (L : List Blk) (i j : Nat) h1 h2 => take_d (S := S) (w0 := w0) (L := L) 3 (by decide) (i := i) (j := j) (b := b) (c := c) (p := .pointer (some ⟨pb, 0, none⟩)) (a := a) (l := l) (w := w) (o := ⟨o1, o2, o3, .int .u16 (hd : Nat), vp, o6, .map (some mb), o8⟩) (x := x) h1 h2 h
  have hok := (takeF_ok (k := 3) (s := (l, w)) h.ok)
  have e1 : ben1 (l, w) = ((takeF 3 (l, w)).2.1, if (takeF 3 (l, w)).2.2 = (0, 0, 0) ∧ Pt.pathF (takeF 3 (l, w)).1.text = false then failW (takeF 3 (l, w)).2.2 (takeF 3 (l, w)).1 203 else (takeF 3 (l, w)).2.2) := rfl
  unfold benF ben3 ben2
  rw [e1]
  clear e1 h
  generalize takeF 3 (l, w) = Q at *
  obtain ⟨tt, r, f1, f2, f3⟩ := Q
  dsimp only at *
  have hlk := hM.look .string keyT keyT_same tt.text
  clear hM
  obtain ⟨rr, hl1, hl2, hl3⟩ := hlk
  have hpa := fun (L : List Blk) => pathL_c (S := S) (w0 := w0) (L := L) (mB8 tt.text) (by rw [mB8_size]; have := hok.1.text; omega)
  rw [lB_mB8] at hpa
  clear hok
  have hfl := fun (L : List Blk) (i : Nat) (a' : Option Addr) (c' : Nat) h1 => fail_d (S := S) (w0 := w0) (L := L) (i := i) (b := b) (n := r.length) (c := c') (p := (.pointer (some ⟨pb, 0, none⟩))) (a := a') (w := (f1, f2, f3)) (o := ⟨o1, o2, o3, .int .u16 (hd : Nat), vp, o6, .map (some mb), o8⟩) h1 tt 203
  have hq := wr_eq f1 f2 f3
  obtain ⟨T2, hT2, hput⟩ := hT.put (S := S) (w0 := w0) ep
  refine Fn.weak (L2 := mapB mb kvs :: rdB b (.pointer (some ⟨pb, 0, none⟩)) a l.length c w ⟨o1, o2, o3, .int .u16 (hd : Nat), vp, o6, .map (some mb), o8⟩ :: x :: prB pb ct rb :: T2) (fun w H => hput w [_, _, _, _] (H.perm ?_)) ?_
  · exact List.Perm.cons _ (List.perm_append_comm_assoc ep [_, _, _] T)
  clear hT hput
  generalize hg : (if (f1, f2, f3) = ((0, 0, 0) : Wr) ∧ Pt.pathF tt.text = false then failW (f1, f2, f3) tt 203 else (f1, f2, f3)) = g at *
  obtain ⟨g1, g2, g3⟩ := g
  have hst := fun (x1 x2 : Blk) (a1 : Option Addr) (c1 : Nat) h => set_e (S := S) (w0 := w0) [x1, x2, mapB mb kvs] (hd &&& 2047) (by have := Nat.and_le_left (n := hd) (m := 2047); omega) b pb ct rb m _ T2 hT2 a1 c1 r (g1, g2, g3) ⟨o1, o2, o3, .int .u16 (hd : Nat), vp, o6, .map (some mb), o8⟩ x h
  have hst4 := fun (x0 x1 x2 : Blk) (a1 : Option Addr) (c1 : Nat) h => set_e (S := S) (w0 := w0) [x0, x1, x2, mapB mb kvs] (hd &&& 2047) (by have := Nat.and_le_left (n := hd) (m := 2047); omega) b pb ct rb m _ T2 hT2 a1 c1 r (g1, g2, g3) ⟨o1, o2, o3, .int .u16 (hd : Nat), vp, o6, .map (some mb), o8⟩ x h
  have hlt := setF_lt (hd &&& 2047) (r, (g1, g2, g3))
  generalize setF (hd &&& 2047) (r, (g1, g2, g3)) = Q at *
  obtain ⟨st, r2, k1, k2, k3⟩ := Q
  rw [← iand_nat] at hst hst4
  dsimp only [List.cons_append, List.nil_append] at *
  have hf6 := fun (L : List Blk) (i : Nat) (a' : Option Addr) (c' : Nat) h1 => fail_d (S := S) (w0 := w0) (L := L) (i := i) (b := b) (n := r2.length) (c := c') (p := (.pointer (some ⟨pb, 0, none⟩))) (a := a') (w := (k1, k2, k3)) (o := ⟨o1, o2, o3, .int .u16 (hd : Nat), vp, o6, .map (some mb), o8⟩) h1 tt 206
  generalize hu : (if tt.text ∈ ps.map (·.1) then failW (k1, k2, k3) tt 206 else (k1, k2, k3)) = u at *
  obtain ⟨u1, u2, u3⟩ := u
  have hf5 := fun (L : List Blk) (i : Nat) (a' : Option Addr) (c' : Nat) (v : Value) h1 => fail_d (S := S) (w0 := w0) (L := L) (i := i) (b := b) (n := r2.length) (c := c') (p := (.pointer (some ⟨pb, 0, none⟩))) (a := a') (w := (u1, u2, u3)) (o := ⟨o1, o2, o3, .int .u16 (hd : Nat), v, o6, .map (some mb), o8⟩) h1 t 205
  have hfin : ∀ v e, Own 104 2 v (ps.length + 1) (pthC ps ++ [.string (mB8 tt.text), .int .u16 (st : Nat)]) e → Own 104 2 v (ps ++ [(tt.text, st)]).length (pthC (ps ++ [(tt.text, st)])) e := fun v e ho => by
    rw [pthC_snoc, List.length_append]; exact ho
  rw [show ps.map (·.1) ++ [tt.text] = (ps ++ [(tt.text, st)]).map (·.1) by rw [List.map_append]; rfl] at hl3
  generalize ps ++ [(tt.text, st)] = ps2 at *
  obtain ⟨w1, w2, w3⟩ := w
  obtain ⟨tk, tx, nu, li, co⟩ := t
  obtain ⟨sk, sx, sn, sl, sc⟩ := tt
  dsimp only [Tk.cells] at *
  refine Fn2 Tryz.func83 Tryz.ntmps83 rfl rfl ?_
  repeat' (first | (refine G_markr (id := 1) ?_) | refine G_seq ?_ | refine G_then_n ?_ | (refine G_region (id := 0) ?_ <;> (try refine G_op1 ?_; (refine K1_box (t := 166) rfl rfl ?_; intro nb hnb; (try simp only [Value.cells]))) <;> (try refine G_nil ?_)))
  refine ⟨?_⟩
  obtain ⟨nb3, rfl⟩ : ∃ x, x = nb := ⟨_, rfl⟩
  repeat' (first | (refine G_markr (id := 2) ?_) | refine G_seq ?_ | refine G_then_n ?_ | (refine G_region (id := 1) ?_ <;> (try refine q_m ?_) <;> (try refine G_op1 ?_; (refine q_c 53 (c := by apply htk; exact c_9; exact c_9) (h := ?_); rintro _ _ ⟨a1, c1, rfl, hts, rfl⟩; (try simp only [List.eraseIdx_cons_succ]); (try simp only [List.eraseIdx_cons_zero]))) <;> (try refine G_op1 ?_; (refine K1_alloc (t := 166) rfl Tryz.zeroValue166 ?_; intro nb hnb; (try simp only [Value.cells]))) <;> (try refine G_op1 ?_; (refine q_W ?_)) <;> (try refine G_nil ?_)))
  refine ⟨?_⟩
  obtain ⟨nb4, rfl⟩ : ∃ x, x = nb := ⟨_, rfl⟩
  refine G_meetk (γ := Bool) (fun q => q = decide ((f1, f2, f3) = ((0, 0, 0) : Wr) ∧ Pt.pathF sx = false)) (fun q => [(19, .bool q)]) [(0, _), (3, _), (4, _)]
    (fun _ => tkBl nb4 ⟨sk, sx, sn, sl, sc⟩ :: tkBl nb3 ⟨tk, tx, nu, li, co⟩ :: mapB mb kvs :: rdB b (.pointer (some ⟨pb, 0, none⟩)) a1 r.length c1 (f1, f2, f3) ⟨o1, o2, o3, .int .u16 (hd : Nat), vp, o6, .map (some mb), o8⟩ :: x :: prB pb ct rb :: T2) (.cons rfl (.cons rfl (.cons rfl .nil))) ?_ ?_
  · by_cases hz : (f1, f2, f3) = ((0, 0, 0) : Wr)
    · rw [decide_eq_true hz] at hq
      cases hp : Pt.pathF sx with
      | true =>
        rw [hp] at hpa
        repeat' (first | refine G_cut_n ?_ | (refine G_region (id := 2) ?_ <;> (try refine q_m ?_) <;> (try refine q_n ?_) <;> (try refine q_e (q_f fo_85_2) ?_) <;> (try refine q_e (q_L sz_25) ?_) <;> (try refine q_e (by exact E_build (t := 25) (fun vs => (match vs with | [] => [Value.int .i64 0, Value.int .i64 0, Value.int .i64 0] | _ => [])) rfl (fun w => by kernel_rfl)) ?_; (try simp only [Value.cells]); (try simp only [List.cons_append]); (try simp only [List.nil_append])) <;> (try refine q_e (by apply E_bin_agg (op := .eql) (t := 25); exact rfl; exact rfl; kernel_rfl; (with_reducible assumption)) ?_) <;> (try refine q_m ?_) <;> (try refine q_y (q_f fo_166_1) ?_) <;> (try refine q_y q_l ?_) <;> (try refine G_op1 ?_; (refine K1_yes rfl rfl rfl ?_; (refine q_c 66 (c := by apply hpa) (h := ?_); rintro _ _ ⟨rfl, rfl⟩; (try simp only [List.eraseIdx_cons_succ]); (try simp only [List.eraseIdx_cons_zero])))) <;> (try refine q_y (by apply E_un; exact rfl; exact ru_not_t) ?_) <;> (try refine q_p ?_) <;> (try refine G_nil ?_)))
        exact G_meet false (decide_eq_false (fun h => by cases h.2)).symm (by (focus (repeat (first | exact Sub.nil | refine Sub.cons rfl ?_)))) c_24
      | false =>
        rw [hp] at hpa
        repeat' (first | refine G_cut_n ?_ | (refine G_region (id := 2) ?_ <;> (try refine q_m ?_) <;> (try refine q_n ?_) <;> (try refine q_e (q_f fo_85_2) ?_) <;> (try refine q_e (q_L sz_25) ?_) <;> (try refine q_e (by exact E_build (t := 25) (fun vs => (match vs with | [] => [Value.int .i64 0, Value.int .i64 0, Value.int .i64 0] | _ => [])) rfl (fun w => by kernel_rfl)) ?_; (try simp only [Value.cells]); (try simp only [List.cons_append]); (try simp only [List.nil_append])) <;> (try refine q_e (by apply E_bin_agg (op := .eql) (t := 25); exact rfl; exact rfl; kernel_rfl; (with_reducible assumption)) ?_) <;> (try refine q_m ?_) <;> (try refine q_y (q_f fo_166_1) ?_) <;> (try refine q_y q_l ?_) <;> (try refine G_op1 ?_; (refine K1_yes rfl rfl rfl ?_; (refine q_c 66 (c := by apply hpa) (h := ?_); rintro _ _ ⟨rfl, rfl⟩; (try simp only [List.eraseIdx_cons_succ]); (try simp only [List.eraseIdx_cons_zero])))) <;> (try refine q_y (by apply E_un; exact rfl; exact ru_not_f) ?_) <;> (try refine q_p ?_) <;> (try refine G_nil ?_)))
        exact G_meet true (decide_eq_true ⟨hz, trivial⟩).symm (by (focus (repeat (first | exact Sub.nil | refine Sub.cons rfl ?_)))) c_24
    · rw [decide_eq_false hz] at hq
      repeat' (first | refine G_cut_n ?_ | (refine G_region (id := 2) ?_ <;> (try refine q_m ?_) <;> (try refine q_n ?_) <;> (try refine q_e (q_f fo_85_2) ?_) <;> (try refine q_e (q_L sz_25) ?_) <;> (try refine q_e (by exact E_build (t := 25) (fun vs => (match vs with | [] => [Value.int .i64 0, Value.int .i64 0, Value.int .i64 0] | _ => [])) rfl (fun w => by kernel_rfl)) ?_; (try simp only [Value.cells]); (try simp only [List.cons_append]); (try simp only [List.nil_append])) <;> (try refine q_e (by apply E_bin_agg (op := .eql) (t := 25); exact rfl; exact rfl; kernel_rfl; (with_reducible assumption)) ?_) <;> (try refine q_m ?_) <;> (try refine q_z ?_) <;> (try refine q_z ?_) <;> (try refine q_z ?_) <;> (try refine q_z ?_) <;> (try refine q_p ?_) <;> (try refine G_nil ?_)))
      exact G_meet false (decide_eq_false (fun h => hz h.1)).symm (by (focus (repeat (first | exact Sub.nil | refine Sub.cons rfl ?_)))) c_24
  clear hq hpa
  rintro q hB
  simp only [List.cons_append, List.nil_append]
  refine G_meetk (γ := Unit) (fun _ => True) (fun _ => []) [(0, _), (3, _), (4, _)]
    (fun _ => tkBl nb4 ⟨sk, sx, sn, sl, sc⟩ :: tkBl nb3 ⟨tk, tx, nu, li, co⟩ :: mapB mb kvs :: rdB b (.pointer (some ⟨pb, 0, none⟩)) a1 r.length c1 (g1, g2, g3) ⟨o1, o2, o3, .int .u16 (hd : Nat), vp, o6, .map (some mb), o8⟩ :: x :: prB pb ct rb :: T2) (.cons rfl (.cons rfl (.cons rfl .nil))) ?_ ?_
  · by_cases hc : (f1, f2, f3) = ((0, 0, 0) : Wr) ∧ Pt.pathF sx = false
    · rw [decide_eq_true hc] at hB
      rw [if_pos hc] at hg
      rw [hg] at hfl
      subst hB
      clear hc hg
      repeat' (first | refine G_cut_n ?_ | refine G_cond_t rfl ?_ | (refine G_region (id := 3) ?_ <;> (try refine q_m ?_) <;> (try refine q_e (q_L sz_166) ?_) <;> (try refine G_op1 ?_; (refine q_c 52 (c := by apply hfl; exact c_9) (h := ?_); rintro _ _ ⟨rfl, rfl⟩; (try simp only [List.eraseIdx_cons_succ]); (try simp only [List.eraseIdx_cons_zero]))) <;> (try refine G_nil ?_)))
      exact G_meet () trivial (by (focus (repeat (first | exact Sub.nil | refine Sub.cons rfl ?_)))) c_24
    · rw [decide_eq_false hc] at hB
      rw [if_neg hc] at hg
      injection hg with y1 y2
      injection y2 with y2 y3
      subst hB y1 y2 y3
      clear hc
      repeat' (first | refine G_cut_n ?_ | refine G_skip ?_ | refine G_cond_f rfl ?_)
      exact G_meet () trivial (by (focus (repeat (first | exact Sub.nil | refine Sub.cons rfl ?_)))) c_27
  clear hB q hg hfl htk
  rintro - -
  simp only [List.cons_append, List.nil_append]
  refine G_seq ?_
  refine G_meetk (γ := Nat × Option Addr × Nat × List Blk) (fun g => TkS x g.2.1 g.2.2.1 r2 ∧ EnS ct rb m (ep ++ L0) g.2.2.2) (fun g => [(5, .pointer (some ⟨g.1, 0, none⟩))]) [(0, _), (3, _), (4, _)]
    (fun g => bpB g.1 sx st :: tkBl nb4 ⟨sk, sx, sn, sl, sc⟩ :: tkBl nb3 ⟨tk, tx, nu, li, co⟩ :: mapB mb kvs :: rdB b (.pointer (some ⟨pb, 0, none⟩)) g.2.1 r2.length g.2.2.1 (k1, k2, k3) ⟨o1, o2, o3, .int .u16 (hd : Nat), vp, o6, .map (some mb), o8⟩ :: x :: prB pb ct rb :: g.2.2.2) (.cons rfl (.cons rfl (.cons rfl .nil))) ?_ ?_
  · repeat' (first | refine G_cut_n ?_ | ((refine G_regionHp (pre := [_, _, _]) (id := 4) (m := 13) rfl (by kernel_rfl) rfl ?_) <;> (try refine q_t 0 (e := c_10) (x := by exact q_f fo_166_1) (h := ?_)) <;> (try refine q_t 1 (e := c_10) (x := by exact q_l) (h := ?_)) <;> (try refine q_t 2 (e := c_10) (x := by exact E_move rfl) (h := ?_)) <;> (try refine q_t 3 (e := c_10) (x := by exact E_move rfl) (h := ?_)) <;> (try refine q_t 4 (e := c_10) (x := by exact E_nilCheck rfl) (h := ?_)) <;> (try refine q_t 5 (e := c_10) (x := by exact q_f fo_85_3) (h := ?_)) <;> (try refine q_t 6 (e := c_10) (x := by exact q_g fo_36_3) (h := ?_)) <;> (try refine H_run2t (i := 7) (j := 11) rfl rfl (by kernel_rfl) ?_ ?_ <;> (first | (refine TagA.mk ?_; (((refine q_k q_l ?_); refine H_go c_10 ?_) <;> (try refine q_t 8 (e := c_10) (x := by exact q_b (r := by refine rb_and ?_ ?_; (focus (refine ⟨rfl, ⟨?_, ?_⟩⟩; omega; (focus (simp only [IntKind.bits]; omega)))); (focus (refine ⟨rfl, ⟨?_, ?_⟩⟩; omega; (focus (simp only [IntKind.bits]; omega)))))) (h := ?_)) <;> (try refine H_run2t (i := 9) (j := 11) rfl rfl (by kernel_rfl) ?_ ?_ <;> (first | (refine TagA.mk ?_; (((refine q_c 100 (c := by apply hst; (with_reducible assumption)) (h := ?_); rintro _ _ ⟨a2, c2, T3, rfl, hts2, hT3, rfl⟩; (try simp only [List.eraseIdx_cons_succ]); (try simp only [List.eraseIdx_cons_zero])); refine H_go c_10 ?_) <;> (try refine q_t 10 (e := c_10) (x := by exact E_build (t := 104) (fun vs => (match vs with | [(_, x0), (_, x1)] => [x0, x1] | _ => [])) rfl (fun w => by kernel_rfl)) (h := ?_); (try simp only [Value.cells]); (try simp only [List.cons_append]); (try simp only [List.nil_append])) <;> (try refine q_r 11 ?_; (refine K1_alloc (t := 104) rfl Tryz.zeroValue104 ?_; intro nb hnb; (try simp only [Value.cells])); refine H_go c_8 ?_) <;> (try refine q_r 12 ?_; (refine q_W ?_); refine H_go c_8 ?_) <;> (try refine H_done (by kernel_rfl) ?_))) | (refine TagB.mk ?_; (((refine K1_alloc (t := 104) rfl Tryz.zeroValue104 ?_; intro nb hnb; (try simp only [Value.cells])); refine H_go c_8 ?_) <;> (try refine q_r 9 ?_; (refine q_c 100 (c := by apply hst4; (with_reducible assumption)) (h := ?_); rintro _ _ ⟨a2, c2, T3, rfl, hts2, hT3, rfl⟩; (try simp only [List.eraseIdx_cons_succ]); (try simp only [List.eraseIdx_cons_zero])); refine H_go c_8 ?_) <;> (try refine q_t 10 (e := c_8) (x := by exact E_build (t := 104) (fun vs => (match vs with | [(_, x0), (_, x1)] => [x0, x1] | _ => [])) rfl (fun w => by kernel_rfl)) (h := ?_); (try simp only [Value.cells]); (try simp only [List.cons_append]); (try simp only [List.nil_append])) <;> (try refine q_r 12 ?_; (refine q_W ?_); refine H_go c_8 ?_) <;> (try refine H_done (by kernel_rfl) ?_))))))) | (refine TagB.mk ?_; (((refine K1_alloc (t := 104) rfl Tryz.zeroValue104 ?_; intro nb hnb; (try simp only [Value.cells])); refine H_go c_8 ?_) <;> (try refine q_r 7 ?_; (refine q_k q_l ?_); refine H_go c_8 ?_) <;> (try refine q_t 8 (e := c_8) (x := by exact q_b (r := by refine rb_and ?_ ?_; (focus (refine ⟨rfl, ⟨?_, ?_⟩⟩; omega; (focus (simp only [IntKind.bits]; omega)))); (focus (refine ⟨rfl, ⟨?_, ?_⟩⟩; omega; (focus (simp only [IntKind.bits]; omega)))))) (h := ?_)) <;> (try refine q_r 9 ?_; (refine q_c 100 (c := by apply hst4; (with_reducible assumption)) (h := ?_); rintro _ _ ⟨a2, c2, T3, rfl, hts2, hT3, rfl⟩; (try simp only [List.eraseIdx_cons_succ]); (try simp only [List.eraseIdx_cons_zero])); refine H_go c_8 ?_) <;> (try refine q_t 10 (e := c_8) (x := by exact E_build (t := 104) (fun vs => (match vs with | [(_, x0), (_, x1)] => [x0, x1] | _ => [])) rfl (fun w => by kernel_rfl)) (h := ?_); (try simp only [Value.cells]); (try simp only [List.cons_append]); (try simp only [List.nil_append])) <;> (try refine q_r 12 ?_; (refine q_W ?_); refine H_go c_8 ?_) <;> (try refine H_done (by kernel_rfl) ?_)))))))
    all_goals exact G_meet (_, a2, c2, T3) ⟨hts2, hT3⟩ (by (focus (repeat (first | exact Sub.nil | refine Sub.cons rfl ?_)))) c_27
  clear hst hst4 hts hT2 T2 a1 c1
  rintro ⟨nb5, a2, c2, T3⟩ ⟨hts2, hT3⟩
  dsimp only [List.cons_append, List.nil_append] at *
  repeat' (first | (refine G_markc (t := 40) ?_) | refine G_seq ?_ | refine G_then_n ?_ | ((refine G_regionH (id := 5) (m := 7) (by kernel_rfl) rfl ?_) <;> (try refine q_t 0 (e := (fun _ H => H)) (x := by exact E_move rfl) (h := ?_)) <;> (try refine q_t 1 (e := (fun _ H => H)) (x := by exact E_nilCheck rfl) (h := ?_)) <;> (try refine q_t 2 (e := (fun _ H => H)) (x := by exact q_f fo_85_4) (h := ?_)) <;> (try refine q_t 3 (e := (fun _ H => H)) (x := by exact q_l) (h := ?_)) <;> (try refine q_t 4 (e := (fun _ H => H)) (x := by exact q_f fo_104_0) (h := ?_)) <;> (try refine q_t 5 (e := (fun _ H => H)) (x := by exact q_l) (h := ?_)) <;> (try refine q_t 6 (e := (fun _ H => H)) (x := by apply E_lookup1; exact rfl; exact rfl; exact c_29; exact Tryz.underlying82; exact Tryz.underlying9; exact trivial; exact Tryz.zeroValue4; (with_reducible assumption); (with_reducible assumption)) (h := ?_)) <;> (try refine H_done (by kernel_rfl) ?_)))
  refine ⟨?_⟩
  refine G_meetk (γ := Unit) (fun _ => True) (fun _ => []) [(0, _), (3, _), (5, _)]
    (fun _ => bpB nb5 sx st :: tkBl nb3 ⟨tk, tx, nu, li, co⟩ :: mapB mb kvs :: rdB b (.pointer (some ⟨pb, 0, none⟩)) a2 r2.length c2 (u1, u2, u3) ⟨o1, o2, o3, .int .u16 (hd : Nat), vp, o6, .map (some mb), o8⟩ :: x :: prB pb ct rb :: T3) (.cons rfl (.cons rfl (.cons rfl .nil))) ?_ ?_
  · by_cases hc : sx ∈ ps.map (·.1)
    · rw [if_pos hc] at hu
      rw [hu] at hf6
      clear hu hfin
      refine G_cond_d rfl (fun _ => ?_) (fun hn => absurd hc hn)
      clear hc
      repeat' (first | refine G_cut_n ?_ | (refine G_region (id := 6) ?_ <;> (try refine q_m ?_) <;> (try refine q_e (q_L sz_166) ?_) <;> (try refine G_op1 ?_; (refine q_c 52 (c := by apply hf6; exact c_9) (h := ?_); rintro _ _ ⟨rfl, rfl⟩; (try simp only [List.eraseIdx_cons_succ]); (try simp only [List.eraseIdx_cons_zero]))) <;> (try refine G_nil ?_)))
      exact G_meet () trivial (by (focus (repeat (first | exact Sub.nil | refine Sub.cons rfl ?_)))) c_23
    · rw [if_neg hc] at hu
      injection hu with y1 y2
      injection y2 with y2 y3
      subst y1 y2 y3
      refine G_cond_d rfl (fun hn => absurd hn hc) (fun _ => ?_)
      clear hc
      repeat' (first | refine G_cut_n ?_ | refine G_skip ?_)
      exact G_meet () trivial (by (focus (repeat (first | exact Sub.nil | refine Sub.cons rfl ?_)))) c_23
  clear hf6 hu hl2 k1 k2 k3
  rintro - -
  dsimp only [List.cons_append, List.nil_append]
  repeat' (first | (refine G_markr (id := 8) ?_) | refine G_seq ?_ | refine G_then_n ?_ | ((apply G_regionHb (i := 2) (id := 7) (m := 7); exact c_11; kernel_rfl; exact rfl) <;> (try refine q_t 0 (e := c_2) (x := by exact E_move rfl) (h := ?_)) <;> (try refine q_t 1 (e := c_2) (x := by exact E_nilCheck rfl) (h := ?_)) <;> (try refine q_t 2 (e := c_2) (x := by exact q_f fo_85_4) (h := ?_)) <;> (try refine q_t 3 (e := c_2) (x := by exact q_l) (h := ?_)) <;> (try refine q_t 4 (e := c_2) (x := by exact q_f fo_104_0) (h := ?_)) <;> (try refine q_t 5 (e := c_2) (x := by exact q_l) (h := ?_)) <;> (try refine q_r 6 ?_; (apply K1_mapUpdate; exact rfl; exact rfl; exact rfl; exact c_29; exact Tryz.underlying82; exact Tryz.underlying9; exact trivial; (with_reducible assumption); (try simp only [List.set_cons_succ]); (try simp only [List.set_cons_zero])); refine H_go c_2 ?_) <;> (try refine H_done (by kernel_rfl) ?_)))
  refine ⟨?_⟩
  obtain ⟨T4, hT4, hget⟩ := hT3.get (S := S) (w0 := w0) ep
  refine G_blocks (L' := ep ++ (bpB nb5 sx st :: tkBl nb3 ⟨tk, tx, nu, li, co⟩ :: mapB mb (updE kvs (keyT sx) (.bool true) rr) :: rdB b (.pointer (some ⟨pb, 0, none⟩)) a2 r2.length c2 (u1, u2, u3) ⟨o1, o2, o3, .int .u16 (hd : Nat), vp, o6, .map (some mb), o8⟩ :: x :: prB pb ct rb :: T4)) (fun w H => ((hget w [_, _, _, _, _, _] H).perm (List.perm_append_comm_assoc [_, _, _, _, _, _] ep T4))) ?_
  clear hget hT3 T3
  have hl3' := Lib.hid hl3
  have hT4' := Lib.hid hT4
  have hts' := Lib.hid hts2
  clear hl3 hT4 hts2 hl1
  by_cases hm : 32 < ps.length + 1
  · rw [if_pos hm]
    generalize failW (u1, u2, u3) _ 205 = fw at *
    obtain ⟨z1, z2, z3⟩ := fw
    rcases own_cases hO with ⟨rfl, h0, hx, rfl⟩ | ⟨g, capg, cur, rfl, rfl, q1, q2, q3, q4⟩
    · omega
    · rw [← q4] at hfin
      clear hO
      (try simp only [List.cons_append, List.nil_append])
      repeat' (first | refine G_seq ?_ | refine G_then_n ?_ | refine G_cond_t rfl ?_ | ((apply G_regionHc (i := 4) (j := 0) (id := 8) (m := 13); exact c_11; kernel_rfl; exact rfl) <;> (try refine q_t 0 (e := c_3) (x := by exact E_move rfl) (h := ?_)) <;> (try refine q_t 1 (e := c_3) (x := by exact E_move rfl) (h := ?_)) <;> (try refine q_t 2 (e := c_3) (x := by exact E_nilCheck rfl) (h := ?_)) <;> (try refine q_t 3 (e := c_3) (x := by exact q_f fo_85_3) (h := ?_)) <;> (try refine q_t 4 (e := c_3) (x := by exact q_g fo_36_4) (h := ?_)) <;> (try refine q_t 6 (e := c_3) (x := by exact q_L sz_104) (h := ?_)) <;> (try refine H_run2t (i := 5) (j := 7) rfl rfl (by kernel_rfl) ?_ ?_ <;> (first | (refine TagA.mk ?_; (((refine q_k q_l ?_); refine H_go c_3 ?_) <;> (try refine q_r 7 ?_; (refine K1_buildSlice (t := 33) (m := 1) (e := 104) (fun vs => (match vs with | [(_, x0)] => x0.cells.toList | _ => [])) rfl rfl (fun w => by kernel_rfl) ?_; intro nb hnb; (try simp only [Value.cells]); (try simp only [List.cons_append]); (try simp only [List.nil_append])); refine H_go c_3 ?_) <;> (try refine q_r 8 ?_; (apply K1_appendB; exact rfl; exact Tryz.underlying33; exact inf_104_i; exact inf_104_z; exact inf_104_s; exact inf_104_b; exact rfl; exact rfl; exact rfl; exact c_29; (with_reducible assumption); (with_reducible assumption); (with_reducible assumption); exact fd0; exact Nat.le_of_ble_eq_true rfl; exact c_25; exact rfl; exact c_21; omega; exact rfl; exact c_14; exact c_4; (try simp only [List.eraseIdx_cons_succ]); (try simp only [List.eraseIdx_cons_zero]); intro vA eA hownA; obtain ⟨gA, capA, curA, rfl, rfl, hA1, hA2, hA3, hA4⟩ := hownA.some (by omega); (try simp only [List.cons_append]); (try simp only [List.nil_append])); refine H_go c_3 ?_) <;> (try refine q_t 9 (e := c_3) (x := by exact E_nilCheck rfl) (h := ?_)) <;> (try refine q_t 10 (e := c_3) (x := by exact q_f fo_85_3) (h := ?_)) <;> (try refine q_t 11 (e := c_3) (x := by exact q_g fo_36_4) (h := ?_)) <;> (try refine q_r 12 ?_; (refine q_S ?_); refine H_go c_3 ?_) <;> (try refine H_done (by kernel_rfl) ?_))) | (refine TagB.mk ?_; (((refine K1_buildSlice (t := 33) (m := 1) (e := 104) (fun vs => (match vs with | [(_, x0)] => x0.cells.toList | _ => [])) rfl rfl (fun w => by kernel_rfl) ?_; intro nb hnb; (try simp only [Value.cells]); (try simp only [List.cons_append]); (try simp only [List.nil_append])); refine H_go c_3 ?_) <;> (try refine q_r 5 ?_; (refine q_k q_l ?_); refine H_go c_3 ?_) <;> (try refine q_r 8 ?_; (apply K1_appendB; exact rfl; exact Tryz.underlying33; exact inf_104_i; exact inf_104_z; exact inf_104_s; exact inf_104_b; exact rfl; exact rfl; exact rfl; exact c_29; (with_reducible assumption); (with_reducible assumption); (with_reducible assumption); exact fd0; exact Nat.le_of_ble_eq_true rfl; exact c_25; exact rfl; exact c_21; omega; exact rfl; exact c_14; exact c_4; (try simp only [List.eraseIdx_cons_succ]); (try simp only [List.eraseIdx_cons_zero]); intro vA eA hownA; obtain ⟨gA, capA, curA, rfl, rfl, hA1, hA2, hA3, hA4⟩ := hownA.some (by omega); (try simp only [List.cons_append]); (try simp only [List.nil_append])); refine H_go c_3 ?_) <;> (try refine q_t 9 (e := c_3) (x := by exact E_nilCheck rfl) (h := ?_)) <;> (try refine q_t 10 (e := c_3) (x := by exact q_f fo_85_3) (h := ?_)) <;> (try refine q_t 11 (e := c_3) (x := by exact q_g fo_36_4) (h := ?_)) <;> (try refine q_r 12 ?_; (refine q_S ?_); refine H_go c_3 ?_) <;> (try refine H_done (by kernel_rfl) ?_)))))) | (refine G_region (id := 9) ?_ <;> (try refine q_m ?_) <;> (try refine q_n ?_) <;> (try refine q_e (q_f fo_85_3) ?_) <;> (try refine q_e (q_g fo_36_4) ?_) <;> (try refine q_e q_l ?_) <;> (try refine q_e (by apply E_builtin; exact rfl; exact (fun _ => BigFrame.builtin_len ..); apply r_len_slice_e Tryz.underlying33; exact c_19) ?_) <;> (try refine q_e (q_b (r := by exact rb_gtr_t q_o)) ?_) <;> (try refine G_nil ?_)) | (refine G_region (id := 10) ?_ <;> (try refine q_m ?_) <;> (try refine q_e (q_L sz_166) ?_) <;> (try refine G_op1 ?_; (refine q_c 52 (c := by apply hf5; exact c_9) (h := ?_); rintro _ _ ⟨rfl, rfl⟩; (try simp only [List.eraseIdx_cons_succ]); (try simp only [List.eraseIdx_cons_zero]))) <;> (try refine G_nil ?_)))
      all_goals
        (first | refine G_done Tryz.results83 .nil ?_ | refine G_done_n Tryz.results83 .nil ?_)
        exact ⟨_, ⟨a2, c2, T4, _, _, _, rfl, hts'.out, hT4'.out, hl3'.out, hfin _ _ (own_mk (g := gA) hA1 hA2 hA3 hA4), rfl⟩, by intro w H; refine Sel.out ?_ H; (try simp only [List.cons_append, List.nil_append]); repeat (first | exact Sel.refl _ | (apply Sel.cons; exact c_29; (try simp only [List.eraseIdx_cons_succ]); (try simp only [List.eraseIdx_cons_zero])) | apply Sel.drop)⟩
  · rw [if_neg hm]
    clear hf5
    rcases own_cases hO with ⟨rfl, h0, hx, rfl⟩ | ⟨g, capg, cur, rfl, rfl, q1, q2, q3, q4⟩
    · rw [hx, h0] at hfin
      clear hO
      (try simp only [List.cons_append, List.nil_append])
      repeat' (first | refine G_seq ?_ | refine G_then_n ?_ | refine G_skip ?_ | refine G_cond_f rfl ?_ | ((apply G_regionHb (i := 3) (id := 8) (m := 13); exact c_11; kernel_rfl; exact rfl) <;> (try refine q_t 0 (e := c_2) (x := by exact E_move rfl) (h := ?_)) <;> (try refine q_t 1 (e := c_2) (x := by exact E_move rfl) (h := ?_)) <;> (try refine q_t 2 (e := c_2) (x := by exact E_nilCheck rfl) (h := ?_)) <;> (try refine q_t 3 (e := c_2) (x := by exact q_f fo_85_3) (h := ?_)) <;> (try refine q_t 4 (e := c_2) (x := by exact q_g fo_36_4) (h := ?_)) <;> (try refine q_t 6 (e := c_2) (x := by exact q_L sz_104) (h := ?_)) <;> (try refine H_run2t (i := 5) (j := 7) rfl rfl (by kernel_rfl) ?_ ?_ <;> (first | (refine TagA.mk ?_; (((refine q_k q_l ?_); refine H_go c_2 ?_) <;> (try refine q_r 7 ?_; (refine K1_buildSlice (t := 33) (m := 1) (e := 104) (fun vs => (match vs with | [(_, x0)] => x0.cells.toList | _ => [])) rfl rfl (fun w => by kernel_rfl) ?_; intro nb hnb; (try simp only [Value.cells]); (try simp only [List.cons_append]); (try simp only [List.nil_append])); refine H_go c_2 ?_) <;> (try refine q_r 8 ?_; (apply K1_append; exact rfl; exact Tryz.underlying33; exact inf_104_i; exact inf_104_z; exact inf_104_s; exact inf_104_b; exact rfl; exact rfl; exact rfl; exact Own.nil _ _; exact fd0; exact Nat.le_of_ble_eq_true rfl; exact c_25; exact rfl; exact c_21; omega; (exact fun _ H => H); exact rfl; exact c_14; exact c_4; intro vA eA hownA; obtain ⟨gA, capA, curA, rfl, rfl, hA1, hA2, hA3, hA4⟩ := hownA.some (by omega); (try simp only [List.cons_append]); (try simp only [List.nil_append])); refine H_go c_2 ?_) <;> (try refine q_t 9 (e := c_2) (x := by exact E_nilCheck rfl) (h := ?_)) <;> (try refine q_t 10 (e := c_2) (x := by exact q_f fo_85_3) (h := ?_)) <;> (try refine q_t 11 (e := c_2) (x := by exact q_g fo_36_4) (h := ?_)) <;> (try refine q_r 12 ?_; (refine q_S ?_); refine H_go c_2 ?_) <;> (try refine H_done (by kernel_rfl) ?_))) | (refine TagB.mk ?_; (((refine K1_buildSlice (t := 33) (m := 1) (e := 104) (fun vs => (match vs with | [(_, x0)] => x0.cells.toList | _ => [])) rfl rfl (fun w => by kernel_rfl) ?_; intro nb hnb; (try simp only [Value.cells]); (try simp only [List.cons_append]); (try simp only [List.nil_append])); refine H_go c_2 ?_) <;> (try refine q_r 5 ?_; (refine q_k q_l ?_); refine H_go c_2 ?_) <;> (try refine q_r 8 ?_; (apply K1_append; exact rfl; exact Tryz.underlying33; exact inf_104_i; exact inf_104_z; exact inf_104_s; exact inf_104_b; exact rfl; exact rfl; exact rfl; exact Own.nil _ _; exact fd0; exact Nat.le_of_ble_eq_true rfl; exact c_25; exact rfl; exact c_21; omega; (exact fun _ H => H); exact rfl; exact c_14; exact c_4; intro vA eA hownA; obtain ⟨gA, capA, curA, rfl, rfl, hA1, hA2, hA3, hA4⟩ := hownA.some (by omega); (try simp only [List.cons_append]); (try simp only [List.nil_append])); refine H_go c_2 ?_) <;> (try refine q_t 9 (e := c_2) (x := by exact E_nilCheck rfl) (h := ?_)) <;> (try refine q_t 10 (e := c_2) (x := by exact q_f fo_85_3) (h := ?_)) <;> (try refine q_t 11 (e := c_2) (x := by exact q_g fo_36_4) (h := ?_)) <;> (try refine q_r 12 ?_; (refine q_S ?_); refine H_go c_2 ?_) <;> (try refine H_done (by kernel_rfl) ?_)))))) | (refine G_region (id := 9) ?_ <;> (try refine q_m ?_) <;> (try refine q_n ?_) <;> (try refine q_e (q_f fo_85_3) ?_) <;> (try refine q_e (q_g fo_36_4) ?_) <;> (try refine q_e q_l ?_) <;> (try refine q_e (by apply E_builtin; exact rfl; exact (fun _ => BigFrame.builtin_len ..); apply r_len_slice_e Tryz.underlying33; exact c_19) ?_) <;> (try refine q_e (q_b (r := by exact rb_gtr_f q_o)) ?_) <;> (try refine G_nil ?_)))
      all_goals
        (first | refine G_done Tryz.results83 .nil ?_ | refine G_done_n Tryz.results83 .nil ?_)
        exact ⟨_, ⟨a2, c2, T4, _, _, _, rfl, hts'.out, hT4'.out, hl3'.out, hfin _ _ (own_mk (g := gA) hA1 hA2 hA3 hA4), rfl⟩, by intro w H; refine Sel.out ?_ H; (try simp only [List.cons_append, List.nil_append]); repeat (first | exact Sel.refl _ | (apply Sel.cons; exact c_29; (try simp only [List.eraseIdx_cons_succ]); (try simp only [List.eraseIdx_cons_zero])) | apply Sel.drop)⟩
    · rw [← q4] at hfin
      clear hO
      (try simp only [List.cons_append, List.nil_append])
      repeat' (first | refine G_seq ?_ | refine G_then_n ?_ | refine G_skip ?_ | refine G_cond_f rfl ?_ | ((apply G_regionHc (i := 4) (j := 0) (id := 8) (m := 13); exact c_11; kernel_rfl; exact rfl) <;> (try refine q_t 0 (e := c_3) (x := by exact E_move rfl) (h := ?_)) <;> (try refine q_t 1 (e := c_3) (x := by exact E_move rfl) (h := ?_)) <;> (try refine q_t 2 (e := c_3) (x := by exact E_nilCheck rfl) (h := ?_)) <;> (try refine q_t 3 (e := c_3) (x := by exact q_f fo_85_3) (h := ?_)) <;> (try refine q_t 4 (e := c_3) (x := by exact q_g fo_36_4) (h := ?_)) <;> (try refine q_t 6 (e := c_3) (x := by exact q_L sz_104) (h := ?_)) <;> (try refine H_run2t (i := 5) (j := 7) rfl rfl (by kernel_rfl) ?_ ?_ <;> (first | (refine TagA.mk ?_; (((refine q_k q_l ?_); refine H_go c_3 ?_) <;> (try refine q_r 7 ?_; (refine K1_buildSlice (t := 33) (m := 1) (e := 104) (fun vs => (match vs with | [(_, x0)] => x0.cells.toList | _ => [])) rfl rfl (fun w => by kernel_rfl) ?_; intro nb hnb; (try simp only [Value.cells]); (try simp only [List.cons_append]); (try simp only [List.nil_append])); refine H_go c_3 ?_) <;> (try refine q_r 8 ?_; (apply K1_appendB; exact rfl; exact Tryz.underlying33; exact inf_104_i; exact inf_104_z; exact inf_104_s; exact inf_104_b; exact rfl; exact rfl; exact rfl; exact c_29; (with_reducible assumption); (with_reducible assumption); (with_reducible assumption); exact fd0; exact Nat.le_of_ble_eq_true rfl; exact c_25; exact rfl; exact c_21; omega; exact rfl; exact c_14; exact c_4; (try simp only [List.eraseIdx_cons_succ]); (try simp only [List.eraseIdx_cons_zero]); intro vA eA hownA; obtain ⟨gA, capA, curA, rfl, rfl, hA1, hA2, hA3, hA4⟩ := hownA.some (by omega); (try simp only [List.cons_append]); (try simp only [List.nil_append])); refine H_go c_3 ?_) <;> (try refine q_t 9 (e := c_3) (x := by exact E_nilCheck rfl) (h := ?_)) <;> (try refine q_t 10 (e := c_3) (x := by exact q_f fo_85_3) (h := ?_)) <;> (try refine q_t 11 (e := c_3) (x := by exact q_g fo_36_4) (h := ?_)) <;> (try refine q_r 12 ?_; (refine q_S ?_); refine H_go c_3 ?_) <;> (try refine H_done (by kernel_rfl) ?_))) | (refine TagB.mk ?_; (((refine K1_buildSlice (t := 33) (m := 1) (e := 104) (fun vs => (match vs with | [(_, x0)] => x0.cells.toList | _ => [])) rfl rfl (fun w => by kernel_rfl) ?_; intro nb hnb; (try simp only [Value.cells]); (try simp only [List.cons_append]); (try simp only [List.nil_append])); refine H_go c_3 ?_) <;> (try refine q_r 5 ?_; (refine q_k q_l ?_); refine H_go c_3 ?_) <;> (try refine q_r 8 ?_; (apply K1_appendB; exact rfl; exact Tryz.underlying33; exact inf_104_i; exact inf_104_z; exact inf_104_s; exact inf_104_b; exact rfl; exact rfl; exact rfl; exact c_29; (with_reducible assumption); (with_reducible assumption); (with_reducible assumption); exact fd0; exact Nat.le_of_ble_eq_true rfl; exact c_25; exact rfl; exact c_21; omega; exact rfl; exact c_14; exact c_4; (try simp only [List.eraseIdx_cons_succ]); (try simp only [List.eraseIdx_cons_zero]); intro vA eA hownA; obtain ⟨gA, capA, curA, rfl, rfl, hA1, hA2, hA3, hA4⟩ := hownA.some (by omega); (try simp only [List.cons_append]); (try simp only [List.nil_append])); refine H_go c_3 ?_) <;> (try refine q_t 9 (e := c_3) (x := by exact E_nilCheck rfl) (h := ?_)) <;> (try refine q_t 10 (e := c_3) (x := by exact q_f fo_85_3) (h := ?_)) <;> (try refine q_t 11 (e := c_3) (x := by exact q_g fo_36_4) (h := ?_)) <;> (try refine q_r 12 ?_; (refine q_S ?_); refine H_go c_3 ?_) <;> (try refine H_done (by kernel_rfl) ?_)))))) | (refine G_region (id := 9) ?_ <;> (try refine q_m ?_) <;> (try refine q_n ?_) <;> (try refine q_e (q_f fo_85_3) ?_) <;> (try refine q_e (q_g fo_36_4) ?_) <;> (try refine q_e q_l ?_) <;> (try refine q_e (by apply E_builtin; exact rfl; exact (fun _ => BigFrame.builtin_len ..); apply r_len_slice_e Tryz.underlying33; exact c_19) ?_) <;> (try refine q_e (q_b (r := by exact rb_gtr_f q_o)) ?_) <;> (try refine G_nil ?_)))
      all_goals
        (first | refine G_done Tryz.results83 .nil ?_ | refine G_done_n Tryz.results83 .nil ?_)
        exact ⟨_, ⟨a2, c2, T4, _, _, _, rfl, hts'.out, hT4'.out, hl3'.out, hfin _ _ (own_mk (g := gA) hA1 hA2 hA3 hA4), rfl⟩, by intro w H; refine Sel.out ?_ H; (try simp only [List.cons_append, List.nil_append]); repeat (first | exact Sel.refl _ | (apply Sel.cons; exact c_29; (try simp only [List.eraseIdx_cons_succ]); (try simp only [List.eraseIdx_cons_zero])) | apply Sel.drop)⟩
end Go.Proofs.YtecbgehooembmaaGreatDoor
namespace Go.Proofs.YtecbgehooembmaaGreatDoor
open Go Go.RowKit
def por1 (s : PS) : PS := ((takeF 2 s).2.1, if 65535 < (takeF 2 s).1.num then failW (takeF 2 s).2.2 (takeF 2 s).1 204 else (takeF 2 s).2.2)
def porN (s : PS) : Nat := (takeF 2 s).1.num % 65536
def por2 (hd : Nat) (s : PS) : Nat × PS := setF (hd &&& 49152) (por1 s)
def por3 (hd : Nat) (ps : List (Nat × Nat)) (s : PS) : Wr := if porN s ∈ ps.map (·.1) then failW (por2 hd s).2.2 (takeF 2 s).1 206 else (por2 hd s).2.2
def porF (hd : Nat) (at_ : Tk) (ps : List (Nat × Nat)) (s : PS) : List (Nat × Nat) × PS := (ps ++ [(porN s, (por2 hd s).1)], (por2 hd s).2.1, if 32 < ps.length + 1 then failW (por3 hd ps s) at_ 205 else por3 hd ps s)
def porC (ps : List (Nat × Nat)) : List Value := ps.flatMap fun p => [.int .u16 (p.1 : Nat), .int .u16 (p.2 : Nat)]
def rulC (s : PS) : Option Cll := nameF (mB8 (wordT s).1.text) clls
def cnO : Option Cll → Int
  | some c => c.num
  | none => 0
def rulN (s : PS) : Int := cnO (rulC s)
def rul1 (s : PS) : PS := ((wordT s).2.1, if (rulC s).isSome then (wordT s).2.2 else failW (wordT s).2.2 (wordT s).1 38)
def rul2 (s : PS) : Int × PS := actF (rul1 s)
def rul3 (s : PS) : List Cnd × PS := cndsGo ((rul2 s).2.1.length + 1) tIf (rul2 s).2 []
def rulF (at_ : Tk) (rs : List RulP) (s : PS) : List RulP × PS := (rs ++ [⟨rulN s, (rul2 s).1, (rul3 s).1⟩], (rul3 s).2.1, if 64 < rs.length + 1 then failW (rul3 s).2.2 at_ 205 else (rul3 s).2.2)
def tCall : List UInt8 := [99, 97, 108, 108]
def tHandle : List UInt8 := [104, 97, 110, 100, 108, 101]
def tBeneath : List UInt8 := [98, 101, 110, 101, 97, 116, 104]
def tPort : List UInt8 := [112, 111, 114, 116]
def tPolicy : List UInt8 := [112, 111, 108, 105, 99, 121]
def tDefault : List UInt8 := [100, 101, 102, 97, 117, 108, 116]
def lineW (p : Pol) (t : Tk) (s : PS) : Pol × PS :=
  if t.text = tCall then ({ p with rules := (rulF t p.rules s).1 }, (rulF t p.rules s).2)
  else if t.text = tHandle then ({ p with hd := (hanF p.hd t s).1 }, (hanF p.hd t s).2)
  else if t.text = tBeneath then ({ p with paths := (benF p.hd t p.paths s).1 }, (benF p.hd t p.paths s).2)
  else if t.text = tPort then ({ p with ports := (porF p.hd t p.ports s).1 }, (porF p.hd t p.ports s).2)
  else (p, s.1, failW s.2 t 202)
def lineP (p : Pol) (s : PS) : Pol × PS := lineW p (takeF 1 s).1 (takeF 1 s).2
def linesGo : Nat → Pol × PS → Pol × PS
  | 0, q => q
  | f + 1, q => if q.2.1 = [] ∨ q.2.2 ≠ (0, 0, 0) then q else linesGo f ((lineP q.1 q.2).1, (takeF 0 (lineP q.1 q.2).2).2)
def nmS (s : PS) : PS := ((wordT (keyF tPolicy s)).2.1, if (wordT (keyF tPolicy s)).2.2 = (0, 0, 0) ∧ Wd.wordF (mB8 (wordT (keyF tPolicy s)).1.text) = false then failW (wordT (keyF tPolicy s)).2.2 (wordT (keyF tPolicy s)).1 202 else (wordT (keyF tPolicy s)).2.2)
def dfS (s : PS) : Int × PS := actF (keyF tDefault (takeF 0 (nmS s)).2)
def polS (s : PS) : Pol × PS := (⟨(wordT (keyF tPolicy s)).1.text, (dfS s).1, [], 0, [], []⟩, (takeF 0 (dfS s).2).2)
def allP (s : PS) : Pol × PS := linesGo ((polS s).2.1.length + 1) (polS s)
def polF (l : List UInt8) : Pol × Wr := match (lexF l).2 with
  | some w => (zPol, w)
  | none => if (allP ((lexF l).1, (0, 0, 0))).2.2 = (0, 0, 0) then ((allP ((lexF l).1, (0, 0, 0))).1, (0, 0, 0)) else (zPol, (allP ((lexF l).1, (0, 0, 0))).2.2)
end Go.Proofs.YtecbgehooembmaaGreatDoor
namespace Go.Proofs.YtecbgehooembmaaGreatDoor
open Go Go.RowKit
abbrev bqB (n : Nat) (p : Nat) (r : Nat) : Blk := ⟨true, n, .cells #[.int .u16 (p : Nat), .int .u16 (r : Nat)] 106 (0, 0)⟩
theorem porC_snoc (ps : List (Nat × Nat)) (s : Nat) (n : Nat) : porC (ps ++ [(s, n)]) = porC ps ++ [.int .u16 (s : Nat), .int .u16 (n : Nat)] := by simp [porC]
theorem wrap16 (n : Nat) : IntKind.u16.wrap (n : Int) = ((n % 65536 : Nat) : Int) := by
  rw [IntKind.wrap_u16]; omega
set_option maxRecDepth 100000 in
set_option maxHeartbeats 2000000 in
theorem port_c {S w0} (hd : Nat) (hhd : hd < 65536) (ps : List (Nat × Nat)) (o1 o2 o3 vp o5 o7 : Value) (ep : List Blk) (mb : Nat) (kvs : List (Value × Value)) (t : Tk) (b pb ct rb m : Nat) (L0 T : List Blk)
    (hlen : ps.length ≤ 64) (hO : Own 106 2 vp ps.length (porC ps) ep) (hM : MapS keyP kvs (ps.map (·.1))) (hT : EnS ct rb m L0 T) (a : Option Addr) (c : Nat) (l : List Tk) (w : Wr) (x : Blk) (h : TkS x a c l) :
    Fn Tryz.prog 84 #[.pointer (some ⟨b, 0, none⟩), .agg t.cells.toArray] S w0 (mapB mb kvs :: (ep ++ (rdB b (.pointer (some ⟨pb, 0, none⟩)) a l.length c w ⟨o1, o2, o3, .int .u16 (hd : Nat), o5, vp, o7, .map (some mb)⟩ :: x :: prB pb ct rb :: T))) fun v L' => ∃ a' c' T' kvs' vp' ep', v = .tuple #[] ∧ TkS x a' c' (porF hd t ps (l, w)).2.1 ∧ EnS ct rb m L0 T' ∧ MapS keyP kvs' ((porF hd t ps (l, w)).1.map (·.1)) ∧ Own 106 2 vp' (porF hd t ps (l, w)).1.length (porC (porF hd t ps (l, w)).1) ep' ∧ mapB mb kvs' :: (ep' ++ (rdB b (.pointer (some ⟨pb, 0, none⟩)) a' (porF hd t ps (l, w)).2.1.length c' (porF hd t ps (l, w)).2.2 ⟨o1, o2, o3, .int .u16 (hd : Nat), o5, vp', o7, .map (some mb)⟩ :: x :: prB pb ct rb :: T')) = L' := by
  have htk := fun (L : List Blk) (i j : Nat) h1 h2 => take_d (S := S) (w0 := w0) (L := L) 2 (by decide) (i := i) (j := j) (b := b) (c := c) (p := .pointer (some ⟨pb, 0, none⟩)) (a := a) (l := l) (w := w) (o := ⟨o1, o2, o3, .int .u16 (hd : Nat), o5, vp, o7, .map (some mb)⟩) (x := x) h1 h2 h
  have hok := (takeF_ok (k := 2) (s := (l, w)) h.ok)
  have e1 : por1 (l, w) = ((takeF 2 (l, w)).2.1, if 65535 < (takeF 2 (l, w)).1.num then failW (takeF 2 (l, w)).2.2 (takeF 2 (l, w)).1 204 else (takeF 2 (l, w)).2.2) := rfl
  unfold porF por3 por2 porN
  rw [e1]
  clear e1 h
  generalize takeF 2 (l, w) = Q at *
  obtain ⟨tt, r, f1, f2, f3⟩ := Q
  dsimp only at *
  have hlk := hM.look (.int .u16) keyP keyP_same (tt.num % 65536)
  clear hM
  obtain ⟨rr, hl1, hl2, hl3⟩ := hlk
  have hnu := hok.1.num
  have hwr := wrap16 tt.num
  clear hok
  have hfl := fun (L : List Blk) (i : Nat) (a' : Option Addr) (c' : Nat) h1 => fail_d (S := S) (w0 := w0) (L := L) (i := i) (b := b) (n := r.length) (c := c') (p := (.pointer (some ⟨pb, 0, none⟩))) (a := a') (w := (f1, f2, f3)) (o := ⟨o1, o2, o3, .int .u16 (hd : Nat), o5, vp, o7, .map (some mb)⟩) h1 tt 204
  obtain ⟨T2, hT2, hput⟩ := hT.put (S := S) (w0 := w0) ep
  refine Fn.weak (L2 := mapB mb kvs :: rdB b (.pointer (some ⟨pb, 0, none⟩)) a l.length c w ⟨o1, o2, o3, .int .u16 (hd : Nat), o5, vp, o7, .map (some mb)⟩ :: x :: prB pb ct rb :: T2) (fun w H => hput w [_, _, _, _] (H.perm ?_)) ?_
  · exact List.Perm.cons _ (List.perm_append_comm_assoc ep [_, _, _] T)
  clear hT hput
  generalize hg : (if 65535 < tt.num then failW (f1, f2, f3) tt 204 else (f1, f2, f3)) = g at *
  obtain ⟨g1, g2, g3⟩ := g
  have hst := fun (x1 x2 : Blk) (a1 : Option Addr) (c1 : Nat) h => set_e (S := S) (w0 := w0) [x1, x2, mapB mb kvs] (hd &&& 49152) (by have := Nat.and_le_left (n := hd) (m := 49152); omega) b pb ct rb m _ T2 hT2 a1 c1 r (g1, g2, g3) ⟨o1, o2, o3, .int .u16 (hd : Nat), o5, vp, o7, .map (some mb)⟩ x h
  have hst4 := fun (x0 x1 x2 : Blk) (a1 : Option Addr) (c1 : Nat) h => set_e (S := S) (w0 := w0) [x0, x1, x2, mapB mb kvs] (hd &&& 49152) (by have := Nat.and_le_left (n := hd) (m := 49152); omega) b pb ct rb m _ T2 hT2 a1 c1 r (g1, g2, g3) ⟨o1, o2, o3, .int .u16 (hd : Nat), o5, vp, o7, .map (some mb)⟩ x h
  have hlt := setF_lt (hd &&& 49152) (r, (g1, g2, g3))
  generalize setF (hd &&& 49152) (r, (g1, g2, g3)) = Q at *
  obtain ⟨st, r2, k1, k2, k3⟩ := Q
  rw [← iand_nat] at hst hst4
  dsimp only [List.cons_append, List.nil_append] at *
  have hf6 := fun (L : List Blk) (i : Nat) (a' : Option Addr) (c' : Nat) h1 => fail_d (S := S) (w0 := w0) (L := L) (i := i) (b := b) (n := r2.length) (c := c') (p := (.pointer (some ⟨pb, 0, none⟩))) (a := a') (w := (k1, k2, k3)) (o := ⟨o1, o2, o3, .int .u16 (hd : Nat), o5, vp, o7, .map (some mb)⟩) h1 tt 206
  generalize hu : (if tt.num % 65536 ∈ ps.map (·.1) then failW (k1, k2, k3) tt 206 else (k1, k2, k3)) = u at *
  obtain ⟨u1, u2, u3⟩ := u
  have hf5 := fun (L : List Blk) (i : Nat) (a' : Option Addr) (c' : Nat) (v : Value) h1 => fail_d (S := S) (w0 := w0) (L := L) (i := i) (b := b) (n := r2.length) (c := c') (p := (.pointer (some ⟨pb, 0, none⟩))) (a := a') (w := (u1, u2, u3)) (o := ⟨o1, o2, o3, .int .u16 (hd : Nat), o5, v, o7, .map (some mb)⟩) h1 t 205
  generalize hpn : tt.num % 65536 = pn at *
  have hfin : ∀ v e, Own 106 2 v (ps.length + 1) (porC ps ++ [.int .u16 (pn : Nat), .int .u16 (st : Nat)]) e → Own 106 2 v (ps ++ [(pn, st)]).length (porC (ps ++ [(pn, st)])) e := fun v e ho => by
    rw [porC_snoc, List.length_append]; exact ho
  rw [show ps.map (·.1) ++ [pn] = (ps ++ [(pn, st)]).map (·.1) by rw [List.map_append]; rfl] at hl3
  generalize ps ++ [(pn, st)] = ps2 at *
  obtain ⟨w1, w2, w3⟩ := w
  obtain ⟨tk, tx, nu, li, co⟩ := t
  obtain ⟨sk, sx, sn, sl, sc⟩ := tt
  dsimp only [Tk.cells] at *
  clear hpn
  refine Fn2 Tryz.func84 Tryz.ntmps84 rfl rfl ?_
  repeat' (first | (refine G_markr (id := 1) ?_) | refine G_seq ?_ | refine G_then_n ?_ | (refine G_region (id := 0) ?_ <;> (try refine G_op1 ?_; (refine K1_box (t := 166) rfl rfl ?_; intro nb hnb; (try simp only [Value.cells]))) <;> (try refine G_nil ?_)))
  refine ⟨?_⟩
  obtain ⟨nb3, rfl⟩ : ∃ x, x = nb := ⟨_, rfl⟩
  repeat' (first | (refine G_markc (t := 10) ?_) | refine G_seq ?_ | refine G_then_n ?_ | (refine G_region (id := 1) ?_ <;> (try refine q_m ?_) <;> (try refine G_op1 ?_; (refine q_c 53 (c := by apply htk; exact c_9; exact c_9) (h := ?_); rintro _ _ ⟨a1, c1, rfl, hts, rfl⟩; (try simp only [List.eraseIdx_cons_succ]); (try simp only [List.eraseIdx_cons_zero]))) <;> (try refine G_op1 ?_; (refine K1_alloc (t := 166) rfl Tryz.zeroValue166 ?_; intro nb hnb; (try simp only [Value.cells]))) <;> (try refine G_op1 ?_; (refine q_W ?_)) <;> (try refine G_nil ?_)) | (refine G_region (id := 2) ?_ <;> (try refine q_e (q_f fo_166_2) ?_) <;> (try refine q_e q_l ?_) <;> (try refine q_e (q_b (r := by exact rb_gtr)) ?_) <;> (try refine G_nil ?_)))
  refine ⟨?_⟩
  obtain ⟨nb4, rfl⟩ : ∃ x, x = nb := ⟨_, rfl⟩
  refine G_meetk (γ := Unit) (fun _ => True) (fun _ => []) [(0, _), (3, _), (4, _)]
    (fun _ => tkBl nb4 ⟨sk, sx, sn, sl, sc⟩ :: tkBl nb3 ⟨tk, tx, nu, li, co⟩ :: mapB mb kvs :: rdB b (.pointer (some ⟨pb, 0, none⟩)) a1 r.length c1 (g1, g2, g3) ⟨o1, o2, o3, .int .u16 (hd : Nat), o5, vp, o7, .map (some mb)⟩ :: x :: prB pb ct rb :: T2) (.cons rfl (.cons rfl (.cons rfl .nil))) ?_ ?_
  · by_cases hc : 65535 < sn
    · rw [if_pos hc] at hg
      rw [hg] at hfl
      clear hg
      refine G_cond_d rfl (fun _ => ?_) (fun hn => (by omega : False).elim)
      repeat' (first | refine G_cut_n ?_ | (refine G_region (id := 3) ?_ <;> (try refine q_m ?_) <;> (try refine q_e (q_L sz_166) ?_) <;> (try refine G_op1 ?_; (refine q_c 52 (c := by apply hfl; exact c_9) (h := ?_); rintro _ _ ⟨rfl, rfl⟩; (try simp only [List.eraseIdx_cons_succ]); (try simp only [List.eraseIdx_cons_zero]))) <;> (try refine G_nil ?_)))
      exact G_meet () trivial (by (focus (repeat (first | exact Sub.nil | refine Sub.cons rfl ?_)))) c_24
    · rw [if_neg hc] at hg
      injection hg with y1 y2
      injection y2 with y2 y3
      subst y1 y2 y3
      refine G_cond_d rfl (fun hn => (by omega : False).elim) (fun _ => ?_)
      repeat' (first | refine G_cut_n ?_ | refine G_skip ?_)
      exact G_meet () trivial (by (focus (repeat (first | exact Sub.nil | refine Sub.cons rfl ?_)))) c_24
  clear hg hfl htk
  rintro - -
  simp only [List.cons_append, List.nil_append]
  refine G_seq ?_
  refine G_meetk (γ := Nat × Option Addr × Nat × List Blk) (fun g => TkS x g.2.1 g.2.2.1 r2 ∧ EnS ct rb m (ep ++ L0) g.2.2.2) (fun g => [(5, .pointer (some ⟨g.1, 0, none⟩))]) [(0, _), (3, _), (4, _)]
    (fun g => bqB g.1 pn st :: tkBl nb4 ⟨sk, sx, sn, sl, sc⟩ :: tkBl nb3 ⟨tk, tx, nu, li, co⟩ :: mapB mb kvs :: rdB b (.pointer (some ⟨pb, 0, none⟩)) g.2.1 r2.length g.2.2.1 (k1, k2, k3) ⟨o1, o2, o3, .int .u16 (hd : Nat), o5, vp, o7, .map (some mb)⟩ :: x :: prB pb ct rb :: g.2.2.2) (.cons rfl (.cons rfl (.cons rfl .nil))) ?_ ?_
  · repeat' (first | refine G_cut_n ?_ | ((refine G_regionHp (pre := [_, _, _]) (id := 4) (m := 14) rfl (by kernel_rfl) rfl ?_) <;> (try refine q_t 0 (e := c_10) (x := by exact q_f fo_166_2) (h := ?_)) <;> (try refine q_t 1 (e := c_10) (x := by exact q_l) (h := ?_)) <;> (try refine q_t 2 (e := c_10) (x := by apply E_conv; exact rfl; (focus (apply r_conv Tryz.underlying97 Tryz.underlying31; exact hwr))) (h := ?_)) <;> (try refine q_t 3 (e := c_10) (x := by exact E_move rfl) (h := ?_)) <;> (try refine q_t 4 (e := c_10) (x := by exact E_move rfl) (h := ?_)) <;> (try refine q_t 5 (e := c_10) (x := by exact E_nilCheck rfl) (h := ?_)) <;> (try refine q_t 6 (e := c_10) (x := by exact q_f fo_85_3) (h := ?_)) <;> (try refine q_t 7 (e := c_10) (x := by exact q_g fo_36_3) (h := ?_)) <;> (try refine H_run2t (i := 8) (j := 12) rfl rfl (by kernel_rfl) ?_ ?_ <;> (first | (refine TagA.mk ?_; (((refine q_k q_l ?_); refine H_go c_10 ?_) <;> (try refine q_t 9 (e := c_10) (x := by exact q_b (r := by refine rb_and ?_ ?_; (focus (refine ⟨rfl, ⟨?_, ?_⟩⟩; omega; (focus (simp only [IntKind.bits]; omega)))); (focus (refine ⟨rfl, ⟨?_, ?_⟩⟩; omega; (focus (simp only [IntKind.bits]; omega)))))) (h := ?_)) <;> (try refine H_run2t (i := 10) (j := 12) rfl rfl (by kernel_rfl) ?_ ?_ <;> (first | (refine TagA.mk ?_; (((refine q_c 100 (c := by apply hst; (with_reducible assumption)) (h := ?_); rintro _ _ ⟨a2, c2, T3, rfl, hts2, hT3, rfl⟩; (try simp only [List.eraseIdx_cons_succ]); (try simp only [List.eraseIdx_cons_zero])); refine H_go c_10 ?_) <;> (try refine q_t 11 (e := c_10) (x := by exact E_build (t := 106) (fun vs => (match vs with | [(_, x0), (_, x1)] => [x0, x1] | _ => [])) rfl (fun w => by kernel_rfl)) (h := ?_); (try simp only [Value.cells]); (try simp only [List.cons_append]); (try simp only [List.nil_append])) <;> (try refine q_r 12 ?_; (refine K1_alloc (t := 106) rfl Tryz.zeroValue106 ?_; intro nb hnb; (try simp only [Value.cells])); refine H_go c_8 ?_) <;> (try refine q_r 13 ?_; (refine q_W ?_); refine H_go c_8 ?_) <;> (try refine H_done (by kernel_rfl) ?_))) | (refine TagB.mk ?_; (((refine K1_alloc (t := 106) rfl Tryz.zeroValue106 ?_; intro nb hnb; (try simp only [Value.cells])); refine H_go c_8 ?_) <;> (try refine q_r 10 ?_; (refine q_c 100 (c := by apply hst4; (with_reducible assumption)) (h := ?_); rintro _ _ ⟨a2, c2, T3, rfl, hts2, hT3, rfl⟩; (try simp only [List.eraseIdx_cons_succ]); (try simp only [List.eraseIdx_cons_zero])); refine H_go c_8 ?_) <;> (try refine q_t 11 (e := c_8) (x := by exact E_build (t := 106) (fun vs => (match vs with | [(_, x0), (_, x1)] => [x0, x1] | _ => [])) rfl (fun w => by kernel_rfl)) (h := ?_); (try simp only [Value.cells]); (try simp only [List.cons_append]); (try simp only [List.nil_append])) <;> (try refine q_r 13 ?_; (refine q_W ?_); refine H_go c_8 ?_) <;> (try refine H_done (by kernel_rfl) ?_))))))) | (refine TagB.mk ?_; (((refine K1_alloc (t := 106) rfl Tryz.zeroValue106 ?_; intro nb hnb; (try simp only [Value.cells])); refine H_go c_8 ?_) <;> (try refine q_r 8 ?_; (refine q_k q_l ?_); refine H_go c_8 ?_) <;> (try refine q_t 9 (e := c_8) (x := by exact q_b (r := by refine rb_and ?_ ?_; (focus (refine ⟨rfl, ⟨?_, ?_⟩⟩; omega; (focus (simp only [IntKind.bits]; omega)))); (focus (refine ⟨rfl, ⟨?_, ?_⟩⟩; omega; (focus (simp only [IntKind.bits]; omega)))))) (h := ?_)) <;> (try refine q_r 10 ?_; (refine q_c 100 (c := by apply hst4; (with_reducible assumption)) (h := ?_); rintro _ _ ⟨a2, c2, T3, rfl, hts2, hT3, rfl⟩; (try simp only [List.eraseIdx_cons_succ]); (try simp only [List.eraseIdx_cons_zero])); refine H_go c_8 ?_) <;> (try refine q_t 11 (e := c_8) (x := by exact E_build (t := 106) (fun vs => (match vs with | [(_, x0), (_, x1)] => [x0, x1] | _ => [])) rfl (fun w => by kernel_rfl)) (h := ?_); (try simp only [Value.cells]); (try simp only [List.cons_append]); (try simp only [List.nil_append])) <;> (try refine q_r 13 ?_; (refine q_W ?_); refine H_go c_8 ?_) <;> (try refine H_done (by kernel_rfl) ?_)))))))
    all_goals exact G_meet (_, a2, c2, T3) ⟨hts2, hT3⟩ (by (focus (repeat (first | exact Sub.nil | refine Sub.cons rfl ?_)))) c_27
  clear hst hst4 hts hT2 T2 a1 c1 hwr
  rintro ⟨nb5, a2, c2, T3⟩ ⟨hts2, hT3⟩
  dsimp only [List.cons_append, List.nil_append] at *
  repeat' (first | (refine G_markc (t := 32) ?_) | refine G_seq ?_ | refine G_then_n ?_ | ((refine G_regionH (id := 5) (m := 7) (by kernel_rfl) rfl ?_) <;> (try refine q_t 0 (e := (fun _ H => H)) (x := by exact E_move rfl) (h := ?_)) <;> (try refine q_t 1 (e := (fun _ H => H)) (x := by exact E_nilCheck rfl) (h := ?_)) <;> (try refine q_t 2 (e := (fun _ H => H)) (x := by exact q_f fo_85_5) (h := ?_)) <;> (try refine q_t 3 (e := (fun _ H => H)) (x := by exact q_l) (h := ?_)) <;> (try refine q_t 4 (e := (fun _ H => H)) (x := by exact q_f fo_106_0) (h := ?_)) <;> (try refine q_t 5 (e := (fun _ H => H)) (x := by exact q_l) (h := ?_)) <;> (try refine q_t 6 (e := (fun _ H => H)) (x := by apply E_lookup1; exact rfl; exact rfl; exact c_29; exact Tryz.underlying83; exact Tryz.underlying31; exact rfl; exact Tryz.zeroValue4; (with_reducible assumption); (with_reducible assumption)) (h := ?_)) <;> (try refine H_done (by kernel_rfl) ?_)))
  refine ⟨?_⟩
  refine G_meetk (γ := Unit) (fun _ => True) (fun _ => []) [(0, _), (3, _), (5, _)]
    (fun _ => bqB nb5 pn st :: tkBl nb3 ⟨tk, tx, nu, li, co⟩ :: mapB mb kvs :: rdB b (.pointer (some ⟨pb, 0, none⟩)) a2 r2.length c2 (u1, u2, u3) ⟨o1, o2, o3, .int .u16 (hd : Nat), o5, vp, o7, .map (some mb)⟩ :: x :: prB pb ct rb :: T3) (.cons rfl (.cons rfl (.cons rfl .nil))) ?_ ?_
  · by_cases hc : pn ∈ ps.map (·.1)
    · rw [if_pos hc] at hu
      rw [hu] at hf6
      clear hu hfin
      refine G_cond_d rfl (fun _ => ?_) (fun hn => absurd hc hn)
      clear hc
      repeat' (first | refine G_cut_n ?_ | (refine G_region (id := 6) ?_ <;> (try refine q_m ?_) <;> (try refine q_e (q_L sz_166) ?_) <;> (try refine G_op1 ?_; (refine q_c 52 (c := by apply hf6; exact c_9) (h := ?_); rintro _ _ ⟨rfl, rfl⟩; (try simp only [List.eraseIdx_cons_succ]); (try simp only [List.eraseIdx_cons_zero]))) <;> (try refine G_nil ?_)))
      exact G_meet () trivial (by (focus (repeat (first | exact Sub.nil | refine Sub.cons rfl ?_)))) c_23
    · rw [if_neg hc] at hu
      injection hu with y1 y2
      injection y2 with y2 y3
      subst y1 y2 y3
      refine G_cond_d rfl (fun hn => absurd hn hc) (fun _ => ?_)
      clear hc
      repeat' (first | refine G_cut_n ?_ | refine G_skip ?_)
      exact G_meet () trivial (by (focus (repeat (first | exact Sub.nil | refine Sub.cons rfl ?_)))) c_23
  clear hf6 hu hl2 k1 k2 k3
  rintro - -
  dsimp only [List.cons_append, List.nil_append]
  repeat' (first | (refine G_markr (id := 8) ?_) | refine G_seq ?_ | refine G_then_n ?_ | ((apply G_regionHb (i := 2) (id := 7) (m := 7); exact c_11; kernel_rfl; exact rfl) <;> (try refine q_t 0 (e := c_2) (x := by exact E_move rfl) (h := ?_)) <;> (try refine q_t 1 (e := c_2) (x := by exact E_nilCheck rfl) (h := ?_)) <;> (try refine q_t 2 (e := c_2) (x := by exact q_f fo_85_5) (h := ?_)) <;> (try refine q_t 3 (e := c_2) (x := by exact q_l) (h := ?_)) <;> (try refine q_t 4 (e := c_2) (x := by exact q_f fo_106_0) (h := ?_)) <;> (try refine q_t 5 (e := c_2) (x := by exact q_l) (h := ?_)) <;> (try refine q_r 6 ?_; (apply K1_mapUpdate; exact rfl; exact rfl; exact rfl; exact c_29; exact Tryz.underlying83; exact Tryz.underlying31; exact rfl; (with_reducible assumption); (try simp only [List.set_cons_succ]); (try simp only [List.set_cons_zero])); refine H_go c_2 ?_) <;> (try refine H_done (by kernel_rfl) ?_)))
  refine ⟨?_⟩
  obtain ⟨T4, hT4, hget⟩ := hT3.get (S := S) (w0 := w0) ep
  refine G_blocks (L' := ep ++ (bqB nb5 pn st :: tkBl nb3 ⟨tk, tx, nu, li, co⟩ :: mapB mb (updE kvs (keyP pn) (.bool true) rr) :: rdB b (.pointer (some ⟨pb, 0, none⟩)) a2 r2.length c2 (u1, u2, u3) ⟨o1, o2, o3, .int .u16 (hd : Nat), o5, vp, o7, .map (some mb)⟩ :: x :: prB pb ct rb :: T4)) (fun w H => ((hget w [_, _, _, _, _, _] H).perm (List.perm_append_comm_assoc [_, _, _, _, _, _] ep T4))) ?_
  clear hget hT3 T3
  have hl3' := Lib.hid hl3
  have hT4' := Lib.hid hT4
  have hts' := Lib.hid hts2
  clear hl3 hT4 hts2 hl1
  by_cases hm : 32 < ps.length + 1
  · rw [if_pos hm]
    generalize failW (u1, u2, u3) _ 205 = fw at *
    obtain ⟨z1, z2, z3⟩ := fw
    rcases own_cases hO with ⟨rfl, h0, hx, rfl⟩ | ⟨g, capg, cur, rfl, rfl, q1, q2, q3, q4⟩
    · omega
    · rw [← q4] at hfin
      clear hO
      (try simp only [List.cons_append, List.nil_append])
      repeat' (first | refine G_seq ?_ | refine G_then_n ?_ | refine G_cond_t rfl ?_ | ((apply G_regionHc (i := 4) (j := 0) (id := 8) (m := 13); exact c_11; kernel_rfl; exact rfl) <;> (try refine q_t 0 (e := c_3) (x := by exact E_move rfl) (h := ?_)) <;> (try refine q_t 1 (e := c_3) (x := by exact E_move rfl) (h := ?_)) <;> (try refine q_t 2 (e := c_3) (x := by exact E_nilCheck rfl) (h := ?_)) <;> (try refine q_t 3 (e := c_3) (x := by exact q_f fo_85_3) (h := ?_)) <;> (try refine q_t 4 (e := c_3) (x := by exact q_g fo_36_5) (h := ?_)) <;> (try refine q_t 6 (e := c_3) (x := by exact q_L sz_106) (h := ?_)) <;> (try refine H_run2t (i := 5) (j := 7) rfl rfl (by kernel_rfl) ?_ ?_ <;> (first | (refine TagA.mk ?_; (((refine q_k q_l ?_); refine H_go c_3 ?_) <;> (try refine q_r 7 ?_; (refine K1_buildSlice (t := 34) (m := 1) (e := 106) (fun vs => (match vs with | [(_, x0)] => x0.cells.toList | _ => [])) rfl rfl (fun w => by kernel_rfl) ?_; intro nb hnb; (try simp only [Value.cells]); (try simp only [List.cons_append]); (try simp only [List.nil_append])); refine H_go c_3 ?_) <;> (try refine q_r 8 ?_; (apply K1_appendB; exact rfl; exact Tryz.underlying34; exact inf_106_i; exact inf_106_z; exact inf_106_s; exact inf_106_b; exact rfl; exact rfl; exact rfl; exact c_29; (with_reducible assumption); (with_reducible assumption); (with_reducible assumption); exact fd0; exact Nat.le_of_ble_eq_true rfl; exact c_25; exact rfl; exact c_21; omega; exact rfl; exact c_14; exact c_4; (try simp only [List.eraseIdx_cons_succ]); (try simp only [List.eraseIdx_cons_zero]); intro vA eA hownA; obtain ⟨gA, capA, curA, rfl, rfl, hA1, hA2, hA3, hA4⟩ := hownA.some (by omega); (try simp only [List.cons_append]); (try simp only [List.nil_append])); refine H_go c_3 ?_) <;> (try refine q_t 9 (e := c_3) (x := by exact E_nilCheck rfl) (h := ?_)) <;> (try refine q_t 10 (e := c_3) (x := by exact q_f fo_85_3) (h := ?_)) <;> (try refine q_t 11 (e := c_3) (x := by exact q_g fo_36_5) (h := ?_)) <;> (try refine q_r 12 ?_; (refine q_S ?_); refine H_go c_3 ?_) <;> (try refine H_done (by kernel_rfl) ?_))) | (refine TagB.mk ?_; (((refine K1_buildSlice (t := 34) (m := 1) (e := 106) (fun vs => (match vs with | [(_, x0)] => x0.cells.toList | _ => [])) rfl rfl (fun w => by kernel_rfl) ?_; intro nb hnb; (try simp only [Value.cells]); (try simp only [List.cons_append]); (try simp only [List.nil_append])); refine H_go c_3 ?_) <;> (try refine q_r 5 ?_; (refine q_k q_l ?_); refine H_go c_3 ?_) <;> (try refine q_r 8 ?_; (apply K1_appendB; exact rfl; exact Tryz.underlying34; exact inf_106_i; exact inf_106_z; exact inf_106_s; exact inf_106_b; exact rfl; exact rfl; exact rfl; exact c_29; (with_reducible assumption); (with_reducible assumption); (with_reducible assumption); exact fd0; exact Nat.le_of_ble_eq_true rfl; exact c_25; exact rfl; exact c_21; omega; exact rfl; exact c_14; exact c_4; (try simp only [List.eraseIdx_cons_succ]); (try simp only [List.eraseIdx_cons_zero]); intro vA eA hownA; obtain ⟨gA, capA, curA, rfl, rfl, hA1, hA2, hA3, hA4⟩ := hownA.some (by omega); (try simp only [List.cons_append]); (try simp only [List.nil_append])); refine H_go c_3 ?_) <;> (try refine q_t 9 (e := c_3) (x := by exact E_nilCheck rfl) (h := ?_)) <;> (try refine q_t 10 (e := c_3) (x := by exact q_f fo_85_3) (h := ?_)) <;> (try refine q_t 11 (e := c_3) (x := by exact q_g fo_36_5) (h := ?_)) <;> (try refine q_r 12 ?_; (refine q_S ?_); refine H_go c_3 ?_) <;> (try refine H_done (by kernel_rfl) ?_)))))) | (refine G_region (id := 9) ?_ <;> (try refine q_m ?_) <;> (try refine q_n ?_) <;> (try refine q_e (q_f fo_85_3) ?_) <;> (try refine q_e (q_g fo_36_5) ?_) <;> (try refine q_e q_l ?_) <;> (try refine q_e (by apply E_builtin; exact rfl; exact (fun _ => BigFrame.builtin_len ..); apply r_len_slice_e Tryz.underlying34; exact c_19) ?_) <;> (try refine q_e (q_b (r := by exact rb_gtr_t q_o)) ?_) <;> (try refine G_nil ?_)) | (refine G_region (id := 10) ?_ <;> (try refine q_m ?_) <;> (try refine q_e (q_L sz_166) ?_) <;> (try refine G_op1 ?_; (refine q_c 52 (c := by apply hf5; exact c_9) (h := ?_); rintro _ _ ⟨rfl, rfl⟩; (try simp only [List.eraseIdx_cons_succ]); (try simp only [List.eraseIdx_cons_zero]))) <;> (try refine G_nil ?_)))
      all_goals
        (first | refine G_done Tryz.results84 .nil ?_ | refine G_done_n Tryz.results84 .nil ?_)
        exact ⟨_, ⟨a2, c2, T4, _, _, _, rfl, hts'.out, hT4'.out, hl3'.out, hfin _ _ (own_mk (g := gA) hA1 hA2 hA3 hA4), rfl⟩, by intro w H; refine Sel.out ?_ H; (try simp only [List.cons_append, List.nil_append]); repeat (first | exact Sel.refl _ | (apply Sel.cons; exact c_29; (try simp only [List.eraseIdx_cons_succ]); (try simp only [List.eraseIdx_cons_zero])) | apply Sel.drop)⟩
  · rw [if_neg hm]
    clear hf5
    rcases own_cases hO with ⟨rfl, h0, hx, rfl⟩ | ⟨g, capg, cur, rfl, rfl, q1, q2, q3, q4⟩
    · rw [hx, h0] at hfin
      clear hO
      (try simp only [List.cons_append, List.nil_append])
      repeat' (first | refine G_seq ?_ | refine G_then_n ?_ | refine G_skip ?_ | refine G_cond_f rfl ?_ | ((apply G_regionHb (i := 3) (id := 8) (m := 13); exact c_11; kernel_rfl; exact rfl) <;> (try refine q_t 0 (e := c_2) (x := by exact E_move rfl) (h := ?_)) <;> (try refine q_t 1 (e := c_2) (x := by exact E_move rfl) (h := ?_)) <;> (try refine q_t 2 (e := c_2) (x := by exact E_nilCheck rfl) (h := ?_)) <;> (try refine q_t 3 (e := c_2) (x := by exact q_f fo_85_3) (h := ?_)) <;> (try refine q_t 4 (e := c_2) (x := by exact q_g fo_36_5) (h := ?_)) <;> (try refine q_t 6 (e := c_2) (x := by exact q_L sz_106) (h := ?_)) <;> (try refine H_run2t (i := 5) (j := 7) rfl rfl (by kernel_rfl) ?_ ?_ <;> (first | (refine TagA.mk ?_; (((refine q_k q_l ?_); refine H_go c_2 ?_) <;> (try refine q_r 7 ?_; (refine K1_buildSlice (t := 34) (m := 1) (e := 106) (fun vs => (match vs with | [(_, x0)] => x0.cells.toList | _ => [])) rfl rfl (fun w => by kernel_rfl) ?_; intro nb hnb; (try simp only [Value.cells]); (try simp only [List.cons_append]); (try simp only [List.nil_append])); refine H_go c_2 ?_) <;> (try refine q_r 8 ?_; (apply K1_append; exact rfl; exact Tryz.underlying34; exact inf_106_i; exact inf_106_z; exact inf_106_s; exact inf_106_b; exact rfl; exact rfl; exact rfl; exact Own.nil _ _; exact fd0; exact Nat.le_of_ble_eq_true rfl; exact c_25; exact rfl; exact c_21; omega; (exact fun _ H => H); exact rfl; exact c_14; exact c_4; intro vA eA hownA; obtain ⟨gA, capA, curA, rfl, rfl, hA1, hA2, hA3, hA4⟩ := hownA.some (by omega); (try simp only [List.cons_append]); (try simp only [List.nil_append])); refine H_go c_2 ?_) <;> (try refine q_t 9 (e := c_2) (x := by exact E_nilCheck rfl) (h := ?_)) <;> (try refine q_t 10 (e := c_2) (x := by exact q_f fo_85_3) (h := ?_)) <;> (try refine q_t 11 (e := c_2) (x := by exact q_g fo_36_5) (h := ?_)) <;> (try refine q_r 12 ?_; (refine q_S ?_); refine H_go c_2 ?_) <;> (try refine H_done (by kernel_rfl) ?_))) | (refine TagB.mk ?_; (((refine K1_buildSlice (t := 34) (m := 1) (e := 106) (fun vs => (match vs with | [(_, x0)] => x0.cells.toList | _ => [])) rfl rfl (fun w => by kernel_rfl) ?_; intro nb hnb; (try simp only [Value.cells]); (try simp only [List.cons_append]); (try simp only [List.nil_append])); refine H_go c_2 ?_) <;> (try refine q_r 5 ?_; (refine q_k q_l ?_); refine H_go c_2 ?_) <;> (try refine q_r 8 ?_; (apply K1_append; exact rfl; exact Tryz.underlying34; exact inf_106_i; exact inf_106_z; exact inf_106_s; exact inf_106_b; exact rfl; exact rfl; exact rfl; exact Own.nil _ _; exact fd0; exact Nat.le_of_ble_eq_true rfl; exact c_25; exact rfl; exact c_21; omega; (exact fun _ H => H); exact rfl; exact c_14; exact c_4; intro vA eA hownA; obtain ⟨gA, capA, curA, rfl, rfl, hA1, hA2, hA3, hA4⟩ := hownA.some (by omega); (try simp only [List.cons_append]); (try simp only [List.nil_append])); refine H_go c_2 ?_) <;> (try refine q_t 9 (e := c_2) (x := by exact E_nilCheck rfl) (h := ?_)) <;> (try refine q_t 10 (e := c_2) (x := by exact q_f fo_85_3) (h := ?_)) <;> (try refine q_t 11 (e := c_2) (x := by exact q_g fo_36_5) (h := ?_)) <;> (try refine q_r 12 ?_; (refine q_S ?_); refine H_go c_2 ?_) <;> (try refine H_done (by kernel_rfl) ?_)))))) | (refine G_region (id := 9) ?_ <;> (try refine q_m ?_) <;> (try refine q_n ?_) <;> (try refine q_e (q_f fo_85_3) ?_) <;> (try refine q_e (q_g fo_36_5) ?_) <;> (try refine q_e q_l ?_) <;> (try refine q_e (by apply E_builtin; exact rfl; exact (fun _ => BigFrame.builtin_len ..); apply r_len_slice_e Tryz.underlying34; exact c_19) ?_) <;> (try refine q_e (q_b (r := by exact rb_gtr_f q_o)) ?_) <;> (try refine G_nil ?_)))
      all_goals
        (first | refine G_done Tryz.results84 .nil ?_ | refine G_done_n Tryz.results84 .nil ?_)
        exact ⟨_, ⟨a2, c2, T4, _, _, _, rfl, hts'.out, hT4'.out, hl3'.out, hfin _ _ (own_mk (g := gA) hA1 hA2 hA3 hA4), rfl⟩, by intro w H; refine Sel.out ?_ H; (try simp only [List.cons_append, List.nil_append]); repeat (first | exact Sel.refl _ | (apply Sel.cons; exact c_29; (try simp only [List.eraseIdx_cons_succ]); (try simp only [List.eraseIdx_cons_zero])) | apply Sel.drop)⟩
    · rw [← q4] at hfin
      clear hO
      (try simp only [List.cons_append, List.nil_append])
      repeat' (first | refine G_seq ?_ | refine G_then_n ?_ | refine G_skip ?_ | refine G_cond_f rfl ?_ | ((apply G_regionHc (i := 4) (j := 0) (id := 8) (m := 13); exact c_11; kernel_rfl; exact rfl) <;> (try refine q_t 0 (e := c_3) (x := by exact E_move rfl) (h := ?_)) <;> (try refine q_t 1 (e := c_3) (x := by exact E_move rfl) (h := ?_)) <;> (try refine q_t 2 (e := c_3) (x := by exact E_nilCheck rfl) (h := ?_)) <;> (try refine q_t 3 (e := c_3) (x := by exact q_f fo_85_3) (h := ?_)) <;> (try refine q_t 4 (e := c_3) (x := by exact q_g fo_36_5) (h := ?_)) <;> (try refine q_t 6 (e := c_3) (x := by exact q_L sz_106) (h := ?_)) <;> (try refine H_run2t (i := 5) (j := 7) rfl rfl (by kernel_rfl) ?_ ?_ <;> (first | (refine TagA.mk ?_; (((refine q_k q_l ?_); refine H_go c_3 ?_) <;> (try refine q_r 7 ?_; (refine K1_buildSlice (t := 34) (m := 1) (e := 106) (fun vs => (match vs with | [(_, x0)] => x0.cells.toList | _ => [])) rfl rfl (fun w => by kernel_rfl) ?_; intro nb hnb; (try simp only [Value.cells]); (try simp only [List.cons_append]); (try simp only [List.nil_append])); refine H_go c_3 ?_) <;> (try refine q_r 8 ?_; (apply K1_appendB; exact rfl; exact Tryz.underlying34; exact inf_106_i; exact inf_106_z; exact inf_106_s; exact inf_106_b; exact rfl; exact rfl; exact rfl; exact c_29; (with_reducible assumption); (with_reducible assumption); (with_reducible assumption); exact fd0; exact Nat.le_of_ble_eq_true rfl; exact c_25; exact rfl; exact c_21; omega; exact rfl; exact c_14; exact c_4; (try simp only [List.eraseIdx_cons_succ]); (try simp only [List.eraseIdx_cons_zero]); intro vA eA hownA; obtain ⟨gA, capA, curA, rfl, rfl, hA1, hA2, hA3, hA4⟩ := hownA.some (by omega); (try simp only [List.cons_append]); (try simp only [List.nil_append])); refine H_go c_3 ?_) <;> (try refine q_t 9 (e := c_3) (x := by exact E_nilCheck rfl) (h := ?_)) <;> (try refine q_t 10 (e := c_3) (x := by exact q_f fo_85_3) (h := ?_)) <;> (try refine q_t 11 (e := c_3) (x := by exact q_g fo_36_5) (h := ?_)) <;> (try refine q_r 12 ?_; (refine q_S ?_); refine H_go c_3 ?_) <;> (try refine H_done (by kernel_rfl) ?_))) | (refine TagB.mk ?_; (((refine K1_buildSlice (t := 34) (m := 1) (e := 106) (fun vs => (match vs with | [(_, x0)] => x0.cells.toList | _ => [])) rfl rfl (fun w => by kernel_rfl) ?_; intro nb hnb; (try simp only [Value.cells]); (try simp only [List.cons_append]); (try simp only [List.nil_append])); refine H_go c_3 ?_) <;> (try refine q_r 5 ?_; (refine q_k q_l ?_); refine H_go c_3 ?_) <;> (try refine q_r 8 ?_; (apply K1_appendB; exact rfl; exact Tryz.underlying34; exact inf_106_i; exact inf_106_z; exact inf_106_s; exact inf_106_b; exact rfl; exact rfl; exact rfl; exact c_29; (with_reducible assumption); (with_reducible assumption); (with_reducible assumption); exact fd0; exact Nat.le_of_ble_eq_true rfl; exact c_25; exact rfl; exact c_21; omega; exact rfl; exact c_14; exact c_4; (try simp only [List.eraseIdx_cons_succ]); (try simp only [List.eraseIdx_cons_zero]); intro vA eA hownA; obtain ⟨gA, capA, curA, rfl, rfl, hA1, hA2, hA3, hA4⟩ := hownA.some (by omega); (try simp only [List.cons_append]); (try simp only [List.nil_append])); refine H_go c_3 ?_) <;> (try refine q_t 9 (e := c_3) (x := by exact E_nilCheck rfl) (h := ?_)) <;> (try refine q_t 10 (e := c_3) (x := by exact q_f fo_85_3) (h := ?_)) <;> (try refine q_t 11 (e := c_3) (x := by exact q_g fo_36_5) (h := ?_)) <;> (try refine q_r 12 ?_; (refine q_S ?_); refine H_go c_3 ?_) <;> (try refine H_done (by kernel_rfl) ?_)))))) | (refine G_region (id := 9) ?_ <;> (try refine q_m ?_) <;> (try refine q_n ?_) <;> (try refine q_e (q_f fo_85_3) ?_) <;> (try refine q_e (q_g fo_36_5) ?_) <;> (try refine q_e q_l ?_) <;> (try refine q_e (by apply E_builtin; exact rfl; exact (fun _ => BigFrame.builtin_len ..); apply r_len_slice_e Tryz.underlying34; exact c_19) ?_) <;> (try refine q_e (q_b (r := by exact rb_gtr_f q_o)) ?_) <;> (try refine G_nil ?_)))
      all_goals
        (first | refine G_done Tryz.results84 .nil ?_ | refine G_done_n Tryz.results84 .nil ?_)
        exact ⟨_, ⟨a2, c2, T4, _, _, _, rfl, hts'.out, hT4'.out, hl3'.out, hfin _ _ (own_mk (g := gA) hA1 hA2 hA3 hA4), rfl⟩, by intro w H; refine Sel.out ?_ H; (try simp only [List.cons_append, List.nil_append]); repeat (first | exact Sel.refl _ | (apply Sel.cons; exact c_29; (try simp only [List.eraseIdx_cons_succ]); (try simp only [List.eraseIdx_cons_zero])) | apply Sel.drop)⟩
end Go.Proofs.YtecbgehooembmaaGreatDoor
namespace Go.Proofs.YtecbgehooembmaaGreatDoor
open Go Go.RowKit
theorem cond_d {S w0 L} {i j : Nat} {b c : Nat} {p : Value} {a : Option Addr} {l : List Tk} {w : Wr} {o : O8} {x : Blk} (h1 : L[i]? = some (rdB b p a l.length c w o)) (h2 : (L.eraseIdx i)[j]? = some x) (h : TkS x a c l) :
    Fn Tryz.prog 99 #[.pointer (some ⟨b, 0, none⟩)] S w0 L fun v L' => ∃ a' c', v = .agg (cndF (l, w)).1.cells.toArray ∧ TkS x a' c' (cndF (l, w)).2.1 ∧ rdB b p a' (cndF (l, w)).2.1.length c' (cndF (l, w)).2.2 o :: x :: (L.eraseIdx i).eraseIdx j = L' := Fn.at2 h1 h2 (cond_c b p a c l w o x h)
theorem action_d {S w0 L} {i j : Nat} {b c : Nat} {p : Value} {a : Option Addr} {l : List Tk} {w : Wr} {o : O8} {x : Blk} (h1 : L[i]? = some (rdB b p a l.length c w o)) (h2 : (L.eraseIdx i)[j]? = some x) (h : TkS x a c l) :
    Fn Tryz.prog 54 #[.pointer (some ⟨b, 0, none⟩)] S w0 L fun v L' => ∃ a' c', v = .int .u32 (actF (l, w)).1 ∧ TkS x a' c' (actF (l, w)).2.1 ∧ rdB b p a' (actF (l, w)).2.1.length c' (actF (l, w)).2.2 o :: x :: (L.eraseIdx i).eraseIdx j = L' := Fn.at2 h1 h2 (action_c b p a c l w o x h)
def cndC (cs : List Cnd) : List Value := cs.flatMap Cnd.cells
theorem cndC_snoc (cs : List Cnd) (c : Cnd) : cndC (cs ++ [c]) = cndC cs ++ c.cells := by simp [cndC]
abbrev rlB (n : Nat) (num act : Int) (v : Value) : Blk := ⟨true, n, .cells #[.int .u32 num, .int .u32 act, v] 73 (0, 0)⟩
theorem failW_ne (w : Wr) (t : Tk) (e : Nat) (he : e ≠ 0) : failW w t e ≠ (0, 0, 0) := by
  unfold failW
  split
  · intro h
    injection h with _ h
    injection h with _ h
    exact he h
  · assumption
theorem cndF_len (s : PS) : (cndF s).2.1.length ≤ s.1.length - 2 := by
  have e1 : ∀ a o m s, (valF a o m s).2.1 = s.1.tail := fun _ _ _ _ => rfl
  have e2 : ∀ o s, (mskF o s).2.1.length ≤ s.1.length := by
    intro o s
    unfold mskF
    split
    · show s.1.tail.tail.length ≤ _
      simp only [List.length_tail]; omega
    · exact Nat.le_refl _
  unfold cndF sgnS
  rw [e1, List.length_tail]
  have := e2 (opOf (takeF 4 ((wordT s).2.1, argW s)).1.text) (takeF 4 ((wordT s).2.1, argW s)).2
  have e3 : (takeF 4 ((wordT s).2.1, argW s)).2.1 = s.1.tail.tail := rfl
  rw [e3] at this
  simp only [List.length_tail] at this ⊢
  omega
theorem keyF_tl (k : List UInt8) (s : PS) : (keyF k s).1 = s.1.tail := rfl
theorem cndsGo_fuel (f : Nat) : ∀ (f' : Nat) (key : List UInt8) (s : PS) (out : List Cnd), s.1.length < f → s.1.length < f' → cndsGo f key s out = cndsGo f' key s out := by
  induction f with
  | zero => intro f' key s out h; omega
  | succ f ih =>
    intro f' key s out h h'
    cases f' with
    | zero => omega
    | succ f' =>
      unfold cndsGo
      split
      · rfl
      · rename_i hn
        have hl := cndF_len (keyF key s)
        rw [keyF_tl, List.length_tail] at hl
        have : s.1.length ≠ 0 := fun h0 => hn (Or.inl (List.eq_nil_of_length_eq_zero h0))
        exact ih _ _ _ _ (by show (cndF (keyF key s)).2.1.length < f; omega) (by show (cndF (keyF key s)).2.1.length < f'; omega)
structure RlG where
  key : List UInt8
  cs : List Cnd
  v : Value
  e : List Blk
  a : Option Addr
  c : Nat
  l : List Tk
  w : Wr
structure RlI (Z : List Cnd × PS) (x : Blk) (g : RlG) : Prop where
  ts : TkS x g.a g.c g.l
  own : Own 99 4 g.v g.cs.length (cndC g.cs) g.e
  le : g.cs.length ≤ 7
  lw : g.w = (0, 0, 0) → g.cs.length ≤ 6
  eq : cndsGo (g.l.length + 1) g.key (g.l, g.w) g.cs = Z
theorem cndsGo_stop {key : List UInt8} {l : List Tk} {w : Wr} {cs : List Cnd} (h : l = [] ∨ (l.headD zTk).kind = 0 ∨ w ≠ (0, 0, 0)) : cndsGo (l.length + 1) key (l, w) cs = (cs, (l, w)) := by
  unfold cndsGo
  rw [if_pos h]
theorem cndsGo_go {key : List UInt8} {t : Tk} {r r2 : List Tk} {cs : List Cnd} {cd : Cnd} {k : Wr} (h : t.kind ≠ 0) (hc : cndF (keyF key (t :: r, (0, 0, 0))) = (cd, r2, k)) :
    cndsGo ((t :: r).length + 1) key (t :: r, (0, 0, 0)) cs = cndsGo (r2.length + 1) tAnd (r2, if 6 < cs.length + 1 then failW k t 205 else k) (cs ++ [cd]) := by
  have hl := cndF_len (keyF key (t :: r, (0, 0, 0)))
  rw [hc, keyF_tl, List.length_tail] at hl
  have e1 : ∀ f, cndsGo (f + 1) key (t :: r, (0, 0, 0)) cs = cndsGo f tAnd (r2, if 6 < cs.length + 1 then failW k t 205 else k) (cs ++ [cd]) := by
    intro f
    rw [cndsGo, if_neg (by simp [h]), hc]
    rw [List.length_append]
    rfl
  rw [e1]
  refine cndsGo_fuel _ _ _ _ _ ?_ ?_
  · show r2.length < _
    have : (t :: r).length = r.length + 1 := rfl
    simp only at hl
    omega
  · exact Nat.lt_succ_self _
theorem TkS.head {x : Blk} {a : Option Addr} {c : Nat} {t : Tk} {r : List Tk} (h : TkS x a c (t :: r)) : ∃ q bb off cs T fr, a = some ⟨bb, off, none⟩ ∧ x = ⟨q, bb, .cells cs T fr⟩ ∧ off + (r.length + 1) * 5 ≤ cs.size ∧ (cs.toList.drop off).take 5 = t.cells ∧ cs.toList[off]? = some (.int .u8 (t.kind : Nat)) := by
  rcases h.sl.2 with h0 | ⟨i0, q, bb, off, cs, T, fr, rfl, hi0, hsz, hcs⟩
  · rw [List.length_cons] at h0; omega
  have hx5 : (cs.toList.drop off).take 5 = t.cells := by
    have h2 := (flatTk_at _ t r rfl).1
    rw [← hcs, List.take_take, Nat.min_eq_left (by rw [List.length_cons]; omega)] at h2
    exact h2
  obtain rfl : x = ⟨q, bb, .cells cs T fr⟩ := by
    cases i0 with
    | zero => exact Option.some.inj hi0
    | succ i => simp at hi0
  refine ⟨q, bb, off, cs, T, fr, rfl, rfl, by rw [List.length_cons] at hsz; exact hsz, hx5, ?_⟩
  have h3 : ((cs.toList.drop off).take 5)[0]? = some (.int .u8 (t.kind : Nat)) := by rw [hx5]; rfl
  rw [List.getElem?_take_of_lt (by omega), List.getElem?_drop, Nat.add_zero] at h3
  exact h3
theorem EnS.swap {S : List Nat} {w0 : World} {ct rb m : Nat} {L0 T : List Blk} (er e : List Blk) (h : EnS ct rb m (er ++ L0) T) : ∃ T2, EnS ct rb m (e ++ L0) T2 ∧ ∀ w, ∀ A : List Blk, HP S w0 w (e ++ (A ++ T)) → HP S w0 w (er ++ (A ++ T2)) := by
  obtain ⟨T4, hT4, hget⟩ := h.get (S := S) (w0 := w0) er
  obtain ⟨T5, hT5, hput⟩ := hT4.put (S := S) (w0 := w0) e
  refine ⟨T5, hT5, fun w A H => ?_⟩
  have h1 := hget w (e ++ A) (by rw [List.append_assoc]; exact H)
  have hp : ((e ++ A) ++ (er ++ T4)).Perm ((er ++ A) ++ (e ++ T4)) := by
    refine (List.perm_append_comm_assoc (e ++ A) er T4).trans ?_
    rw [List.append_assoc, List.append_assoc]
    exact List.Perm.append_left _ (List.perm_append_comm_assoc ..)
  have h2 := hput w (er ++ A) (h1.perm hp)
  rw [List.append_assoc] at h2
  exact h2
end Go.Proofs.YtecbgehooembmaaGreatDoor
