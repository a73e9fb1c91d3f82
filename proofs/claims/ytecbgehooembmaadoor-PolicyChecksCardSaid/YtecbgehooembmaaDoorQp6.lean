/- Part 6 of what the last text of this claim leans on: rules of walks, contracts, plain facts. Conditions: those of each statement. -/
import Derived.Test.YtecbgehooembmaaDoorQp5
set_option maxRecDepth 100000
namespace Go.Proofs.YtecbgehooembmaaDoor
open Go Go.RowKit
def valC : Array Value := #[.int .u64 0, .int .u64 1, .int .u64 2, .int .u64 3, .int .u64 5, .int .u64 255, .int .u64 4294967295, .int .u64 4294967296, .int .u64 4294967297, .int .u64 8589934597, .int .u64 9223372036854775810, .int .u64 18446744073709551615]
theorem valC_at (k : Nat) (h : k < 12) : ∃ n : Nat, valC.toList[k]? = some (.int .u64 (n : Nat)) ∧ n ≤ 18446744073709551615 ∧ (1 ≤ k → n ≠ 0) := by
 match k, h with
 | 0, _ => exact ⟨0, rfl, by omega, by omega⟩
 | 1, _ => exact ⟨1, rfl, by omega, by omega⟩
 | 2, _ => exact ⟨2, rfl, by omega, by omega⟩
 | 3, _ => exact ⟨3, rfl, by omega, by omega⟩
 | 4, _ => exact ⟨5, rfl, by omega, by omega⟩
 | 5, _ => exact ⟨255, rfl, by omega, by omega⟩
 | 6, _ => exact ⟨4294967295, rfl, by omega, by omega⟩
 | 7, _ => exact ⟨4294967296, rfl, by omega, by omega⟩
 | 8, _ => exact ⟨4294967297, rfl, by omega, by omega⟩
 | 9, _ => exact ⟨8589934597, rfl, by omega, by omega⟩
 | 10, _ => exact ⟨9223372036854775810, rfl, by omega, by omega⟩
 | 11, _ => exact ⟨18446744073709551615, rfl, by omega, by omega⟩
theorem values_c {S w0 L} : Fn Tryd.prog 35 #[] S w0 L fun v L' => ∃ nb, v = .slice (some ⟨nb, 0, none⟩) 12 12 ∧ ⟨true, nb, .cells valC 37 (0, 0)⟩ :: L = L' := by
 refine Fn0 Tryd.func35 Tryd.ntmps35 rfl ?_
 repeat' (first | refine h0t ?_ | refine h0e ?_ | refine h1e ?_ | (refine gR 0 (p_a (h:=h0a ?_))) | (refine gR 1 ?_ <;> (try refine h0b ?_; (refine h0w (t:=119) (m:=12) (e:=37) (fun vs => (match vs with | [(_, x0), (_, x1), (_, x2), (_, x3), (_, x4), (_, x5), (_, x6), (_, x7), (_, x8), (_, x9), (_, x10), (_, x11)] => [x0, x1, x2, x3, x4, x5, x6, x7, x8, x9, x10, x11] | _ => [])) rfl rfl (fun w => by kernel_rfl) ?_; intro nb hnb; (try simp only [Value.cells]); (try simp only [zzC, zzN]))) <;> (try refine p_a (h:=h0a ?_))))
 (refine h0z Tryd.results35 (.tmp rfl .nil) ?_)
 exact ⟨_, ⟨_, rfl, rfl⟩, fun _ H => H⟩
theorem and_andn (x m : Nat) : h3e ((x &&& m : Nat) : Int) (m : Int) = 0 := by
 unfold h3e
 rw [Int.toNat_natCast, Int.toNat_natCast, Nat.and_assoc, Nat.and_self, Nat.xor_self]
 rfl
structure SCnd where
 a : Int
 o : Int
 m : Int
 v : Int
abbrev SCnd.cells (c : SCnd) : List Value := [.int .u8 c.a, .int .u8 c.o, .int .u8 c.m, .int .u8 c.v]
structure SCnd.ok (c : SCnd) : Prop where
 a : 0 ≤ c.a ∧ c.a < 256
 o : 0 ≤ c.o ∧ c.o < 256
 m : 0 ≤ c.m ∧ c.m < 256
 v : 0 ≤ c.v ∧ c.v < 256
def CndG (c : Cnd) : Prop := CndOk c ∧ c.mask ≤ 18446744073709551615 ∧ c.val ≤ 18446744073709551615
theorem cond_s {S w0 L} (a o m x : Int) (ha : 0 ≤ a ∧ a < 256) (ho : 0 ≤ o ∧ o < 256) (hm : 0 ≤ m ∧ m < 256) (hx : 0 ≤ x ∧ x < 256) :
  Fn Tryd.prog 17 #[.agg #[.int .u8 a, .int .u8 o, .int .u8 m, .int .u8 x]] S w0 L fun v L' => ∃ c : Cnd, v = .agg #[.int .i64 (c.arg : Nat), .int .u8 (c.op : Nat), .int .u64 (c.mask : Nat), .int .u64 (c.val : Nat)] ∧ CndG c ∧ L = L' := by
 obtain ⟨y, hy, hy2, -⟩ := valC_at (x % 12).toNat (by omega)
 obtain ⟨z, hz, hz2, hz3⟩ := valC_at (1 + m % 11).toNat (by omega)
 have hz3 := hz3 (by omega)
 have hsz : valC.size = 12 := rfl
 have hv := fun (L : List Blk) => values_c (S:=S) (w0:=w0) (L:=L)
 generalize valC = V at *
 by_cases h7 : o % 7 = 6
 ·refine Fn1 Tryd.func17 Tryd.ntmps17 rfl rfl ?_
  repeat' (first | refine h0t ?_ | refine h0e ?_ | refine h1e ?_ | refine h0l rfl ?_ | (refine gR 0 ?_ <;> (try refine h0b ?_; (refine h2c (t:=97) rfl rfl ?_; intro nb hnb; (try simp only [Value.cells]))) <;> (try refine h0b ?_; (refine h1b (t:=39) rfl Tryd.zeroValue39 ?_; intro nb hnb; (try simp only [Value.cells]))) <;> (try refine h0a ?_)) | (refine gR 1 ?_ <;> (try refine h0b ?_; (refine q_c 35 (c:=by apply hv) (h:=?_); rintro _ _ ⟨nbV, rfl, rfl⟩; (try simp only [zzE, zzF]))) <;> (try refine p_a (h:=h0a ?_))) | ((refine h2s (id:=2) (m:=20) (by kernel_rfl) rfl (q_u 0 (x:=by exact q_f fo_97_0) (h:=q_u 1 (x:=by exact q_l) (h:=q_u 2 (x:=by exact q_b (r:=by apply h4i; omega; omega; exact c_4)) (h:=?_))))) <;> (try refine q_u 3 (x:=by apply h3c; exact rfl; (focus (apply h3a Tryd.underlying5 Tryd.underlying3; first | (refine IntWalk.i64_in _ ?_; omega) | (refine IntWalk.u8_in _ ?_; omega) | (refine IntWalk.u16_in _ ?_; omega) | (refine IntWalk.u32_in _ ?_; omega) | (refine IntWalk.u64_in _ ?_; omega) | (refine IntWalk.i32_in _ ?_; omega) | exact rfl))) (h:=?_)) <;> (try refine q_u 4 (x:=by exact q_f fo_97_1) (h:=q_u 5 (x:=by exact q_l) (h:=q_u 6 (x:=by exact q_b (r:=by apply h4i; omega; omega; exact c_4)) (h:=?_)))) <;> (try refine q_u 7 (x:=by exact q_b (r:=by apply h1q; exact c_4; (focus (refine IntWalk.u8_in _ ?_; omega)))) (h:=?_)) <;> (try refine q_u 8 (x:=by exact h0g rfl) (h:=q_u 9 (x:=by exact q_f fo_97_3) (h:=q_u 10 (x:=by exact q_l) (h:=?_)))) <;> (try refine q_u 11 (x:=by apply h3c; exact rfl; (focus (apply h3a Tryd.underlying5 Tryd.underlying3; first | (refine IntWalk.i64_in _ ?_; omega) | (refine IntWalk.u8_in _ ?_; omega) | (refine IntWalk.u16_in _ ?_; omega) | (refine IntWalk.u32_in _ ?_; omega) | (refine IntWalk.u64_in _ ?_; omega) | (refine IntWalk.i32_in _ ?_; omega) | exact rfl))) (h:=?_)) <;> (try refine q_u 12 (x:=by exact h0g rfl) (h:=q_u 13 (x:=by apply h0h; exact rfl; exact (fun _ => BigFrame.builtin_len ..); apply h0j Tryd.underlying119; exact h3d) (h:=q_u 14 (x:=by exact q_b (r:=by apply h4i; omega; omega; exact c_4)) (h:=q_u 15 (x:=by apply h0s; exact rfl; exact rfl; (focus (apply h2h Tryd.underlying119 sz_37; omega; omega; exact c_1))) (h:=q_u 16 (x:=by apply h2b (t:=37); exact rfl; exact fd0; kernel_rfl; kernel_rfl; (with_reducible assumption)) (h:=?_)))))) <;> (try refine q_u 17 (x:=by exact h0v (t:=39) (fun vs => (match vs with | [(_, x0), (_, x1), (_, x2)] => [x0, x1, Value.int .u64 0, x2] | _ => [])) rfl (fun w => by kernel_rfl)) (h:=?_); (try simp only [Value.cells]); (try simp only [zzC, zzN])) <;> (try refine q_r 18 ?_; (refine h1b (t:=39) rfl Tryd.zeroValue39 ?_; intro nb hnb; (try simp only [Value.cells])); refine h2a c_9 ?_) <;> (try refine q_r 19 ?_; (refine q_W ?_); refine h2a c_9 ?_) <;> (try refine h2e (by kernel_rfl) ?_)) | (refine gR 3 (p_e (q_f h2p) (h:=q_e q_l ?_)) <;> (try refine q_e (by exact q_b (r:=by refine h1l ?_; first | rfl | (with_reducible assumption) | (decide; done) | omega)) ?_) <;> (try refine h0a ?_)) | (refine gR 4 (p_m (h:=p_e (q_f fo_97_2) (h:=q_e q_l ?_))) <;> (try refine q_e (by apply h3c; exact rfl; (focus (apply h3a Tryd.underlying5 Tryd.underlying3; first | (refine IntWalk.i64_in _ ?_; omega) | (refine IntWalk.u8_in _ ?_; omega) | (refine IntWalk.u16_in _ ?_; omega) | (refine IntWalk.u32_in _ ?_; omega) | (refine IntWalk.u64_in _ ?_; omega) | (refine IntWalk.i32_in _ ?_; omega) | exact rfl))) ?_) <;> (try refine p_m (h:=q_e (by apply h0h; exact rfl; exact (fun _ => BigFrame.builtin_len ..); apply h0j Tryd.underlying119; exact h3d) ?_)) <;> (try refine q_e (q_b (r:=by apply rb_sub; exact c_4; (focus (refine IntWalk.i64_in _ ?_; omega)))) ?_) <;> (try refine q_e (q_b (r:=by apply h4i; omega; omega; exact c_4)) ?_) <;> (try refine q_e (q_b (r:=by apply h1q; exact c_4; (focus (refine IntWalk.i64_in _ ?_; omega)))) ?_) <;> (try refine p_e (by apply h0s; exact rfl; exact rfl; (focus (apply h2h Tryd.underlying119 sz_37; omega; omega; exact c_1))) (h:=p_e (by apply h2b (t:=37); exact rfl; exact c_23; kernel_rfl; kernel_rfl; (with_reducible assumption)) (h:=q_e (q_f fo_39_2) ?_))) <;> (try refine h0b ?_; (refine q_S ?_)) <;> (try refine h0a ?_)) | (refine gR 5 (p_e (q_f fo_39_3) (h:=p_e q_l (h:=p_e (q_f fo_39_2) (h:=q_e q_l ?_)))) <;> (try refine q_e (q_b (r:=by refine rb_and ?_ ?_; (focus (refine ⟨rfl, ⟨?_, ?_⟩⟩; omega; (focus (simp only [IntKind.bits]; omega)))); (focus (refine ⟨rfl, ⟨?_, ?_⟩⟩; omega; (focus (simp only [IntKind.bits]; omega)))))) ?_) <;> (try refine q_e (q_f fo_39_3) ?_) <;> (try refine h0b ?_; (refine q_S ?_)) <;> (try refine h0a ?_)) | (refine gR 6 (q_e (q_L sz_39) ?_) <;> (try refine h0b ?_; (refine q_W ?_)) <;> (try refine h0a ?_)))
  (apply G_doneA Tryd.results17; exact rfl; (focus (repeat (first | exact fd0 | (with_reducible assumption) | apply fdA | apply fdS))); kernel_rfl; kernel_rfl; exact sz_39; exact c_8)
  refine ⟨_, ⟨⟨(a % 6).toNat, (1 + o % 7).toNat, z, y &&& z⟩, by dsimp only; rw [Int.toNat_of_nonneg (by omega), Int.toNat_of_nonneg (by omega)]; rfl, ⟨⟨?_, ?_, ?_, ?_, ?_⟩, hz2, ?_⟩, rfl⟩, by intro w H; refine H.sub ?_; (try simp only [zzC, zzN]); repeat (first | exact List.Sublist.refl _ | refine List.Sublist.cons _ ?_)⟩
  ·dsimp only; omega
  ·dsimp only; omega
  ·dsimp only; omega
  ·intro h; dsimp only at h; omega
  ·intro _; exact ⟨hz3, and_andn y z⟩
  ·have := Nat.and_le_left (n:=y) (m:=z)
   show y &&& z ≤ _
   omega
 ·refine Fn1 Tryd.func17 Tryd.ntmps17 rfl rfl ?_
  repeat' (first | refine h0t ?_ | refine h0e ?_ | refine h1a ?_ | refine h1e ?_ | refine h0m rfl ?_ | (refine gR 0 ?_ <;> (try refine h0b ?_; (refine h2c (t:=97) rfl rfl ?_; intro nb hnb; (try simp only [Value.cells]))) <;> (try refine h0b ?_; (refine h1b (t:=39) rfl Tryd.zeroValue39 ?_; intro nb hnb; (try simp only [Value.cells]))) <;> (try refine h0a ?_)) | (refine gR 1 ?_ <;> (try refine h0b ?_; (refine q_c 35 (c:=by apply hv) (h:=?_); rintro _ _ ⟨nbV, rfl, rfl⟩; (try simp only [zzE, zzF]))) <;> (try refine p_a (h:=h0a ?_))) | ((refine h2s (id:=2) (m:=20) (by kernel_rfl) rfl (q_u 0 (x:=by exact q_f fo_97_0) (h:=q_u 1 (x:=by exact q_l) (h:=q_u 2 (x:=by exact q_b (r:=by apply h4i; omega; omega; exact c_4)) (h:=?_))))) <;> (try refine q_u 3 (x:=by apply h3c; exact rfl; (focus (apply h3a Tryd.underlying5 Tryd.underlying3; first | (refine IntWalk.i64_in _ ?_; omega) | (refine IntWalk.u8_in _ ?_; omega) | (refine IntWalk.u16_in _ ?_; omega) | (refine IntWalk.u32_in _ ?_; omega) | (refine IntWalk.u64_in _ ?_; omega) | (refine IntWalk.i32_in _ ?_; omega) | exact rfl))) (h:=?_)) <;> (try refine q_u 4 (x:=by exact q_f fo_97_1) (h:=q_u 5 (x:=by exact q_l) (h:=q_u 6 (x:=by exact q_b (r:=by apply h4i; omega; omega; exact c_4)) (h:=?_)))) <;> (try refine q_u 7 (x:=by exact q_b (r:=by apply h1q; exact c_4; (focus (refine IntWalk.u8_in _ ?_; omega)))) (h:=?_)) <;> (try refine q_u 8 (x:=by exact h0g rfl) (h:=q_u 9 (x:=by exact q_f fo_97_3) (h:=q_u 10 (x:=by exact q_l) (h:=?_)))) <;> (try refine q_u 11 (x:=by apply h3c; exact rfl; (focus (apply h3a Tryd.underlying5 Tryd.underlying3; first | (refine IntWalk.i64_in _ ?_; omega) | (refine IntWalk.u8_in _ ?_; omega) | (refine IntWalk.u16_in _ ?_; omega) | (refine IntWalk.u32_in _ ?_; omega) | (refine IntWalk.u64_in _ ?_; omega) | (refine IntWalk.i32_in _ ?_; omega) | exact rfl))) (h:=?_)) <;> (try refine q_u 12 (x:=by exact h0g rfl) (h:=q_u 13 (x:=by apply h0h; exact rfl; exact (fun _ => BigFrame.builtin_len ..); apply h0j Tryd.underlying119; exact h3d) (h:=q_u 14 (x:=by exact q_b (r:=by apply h4i; omega; omega; exact c_4)) (h:=q_u 15 (x:=by apply h0s; exact rfl; exact rfl; (focus (apply h2h Tryd.underlying119 sz_37; omega; omega; exact c_1))) (h:=q_u 16 (x:=by apply h2b (t:=37); exact rfl; exact fd0; kernel_rfl; kernel_rfl; (with_reducible assumption)) (h:=?_)))))) <;> (try refine q_u 17 (x:=by exact h0v (t:=39) (fun vs => (match vs with | [(_, x0), (_, x1), (_, x2)] => [x0, x1, Value.int .u64 0, x2] | _ => [])) rfl (fun w => by kernel_rfl)) (h:=?_); (try simp only [Value.cells]); (try simp only [zzC, zzN])) <;> (try refine q_r 18 ?_; (refine h1b (t:=39) rfl Tryd.zeroValue39 ?_; intro nb hnb; (try simp only [Value.cells])); refine h2a c_9 ?_) <;> (try refine q_r 19 ?_; (refine q_W ?_); refine h2a c_9 ?_) <;> (try refine h2e (by kernel_rfl) ?_)) | (refine gR 3 (p_e (q_f h2p) (h:=p_e q_l (h:=p_e (q_b (r:=by exact h0y q_o)) (h:=h0a ?_))))) | (refine gR 6 (q_e (q_L sz_39) ?_) <;> (try refine h0b ?_; (refine q_W ?_)) <;> (try refine h0a ?_)))
  (apply G_doneA Tryd.results17; exact rfl; (focus (repeat (first | exact fd0 | (with_reducible assumption) | apply fdA | apply fdS))); kernel_rfl; kernel_rfl; exact sz_39; exact c_8)
  refine ⟨_, ⟨⟨(a % 6).toNat, (1 + o % 7).toNat, 0, y⟩, by dsimp only; rw [Int.toNat_of_nonneg (by omega), Int.toNat_of_nonneg (by omega)]; rfl, ⟨⟨?_, ?_, ?_, ?_, ?_⟩, Nat.zero_le _, hy2⟩, rfl⟩, by intro w H; refine H.sub ?_; (try simp only [zzC, zzN]); repeat (first | exact List.Sublist.refl _ | refine List.Sublist.cons _ ?_)⟩
  ·dsimp only; omega
  ·dsimp only; omega
  ·dsimp only; omega
  ·intro _; rfl
  ·intro h; dsimp only at h; omega
theorem actOk_err (n : Int) (h : 0 ≤ n ∧ n < 256) : h4b (327680 + min (max (1 + n) 0) 4095) = true := by
 have key : ∀ k : Fin 256, h4b (327680 + min (max (1 + (k.val : Int)) 0) 4095) = true := by decide +kernel
 have hk := key ⟨n.toNat, by omega⟩
 rw [show ((n.toNat : Nat) : Int) = n by omega] at hk
 exact hk
theorem action_s {S w0 L} (k n : Int) (hk : 0 ≤ k ∧ k < 256) (hn : 0 ≤ n ∧ n < 256) : Fn Tryd.prog 16 #[.int .u8 k, .int .u8 n] S w0 L fun v L' => ∃ act : Int, v = .int .u32 act ∧ (0 ≤ act ∧ h4b act = true) ∧ L = L' := by
 have hf := fun (L : List Blk) => rfail_c (S:=S) (w0:=w0) (L:=L) (1 + n) (by omega) (by omega)
 have hok := actOk_err n hn
 have h0 : 0 ≤ 327680 + min (max (1 + n) 0) 4095 := by omega
 generalize 327680 + min (max (1 + n) 0) 4095 = e at *
 by_cases k0 : k % 4 = 0
 ·refine Fn2 Tryd.func16 Tryd.ntmps16 rfl rfl ?_
  repeat' (first | refine h0t ?_ | refine h0e ?_ | refine h0x ?_ | refine h1m ?_ | refine h0o ?_ | refine h1e ?_ | refine h0l rfl ?_ | (refine gR 0 (p_a (h:=h0a ?_))) | (refine gR 1 (p_m (h:=p_e (q_b (r:=by apply h4i; omega; omega; exact c_4)) (h:=h0a ?_)))) | (refine gR 2 ?_ <;> (try refine q_e (by exact q_b (r:=by refine h1l ?_; first | rfl | (with_reducible assumption) | (decide; done) | omega)) ?_) <;> (try refine p_a (h:=h0a ?_))) | (refine gR 3 (p_a (h:=h0a ?_))))
  (refine h0z Tryd.results16 (.tmp rfl .nil) ?_)
  exact ⟨_, ⟨_, rfl, ⟨by decide, by decide +kernel⟩, rfl⟩, by intro w H; refine H.sub ?_; (try simp only [zzC, zzN]); repeat (exact List.Sublist.refl _)⟩
 by_cases k1 : k % 4 = 1
 ·refine Fn2 Tryd.func16 Tryd.ntmps16 rfl rfl ?_
  repeat' (first | refine h0t ?_ | refine h0e ?_ | refine h0x ?_ | refine h1m ?_ | refine h0o ?_ | refine h1e ?_ | refine h0l rfl ?_ | refine h0m rfl ?_ | (refine gR 0 (p_a (h:=h0a ?_))) | (refine gR 1 (p_m (h:=p_e (q_b (r:=by apply h4i; omega; omega; exact c_4)) (h:=h0a ?_)))) | (refine gR 2 (p_e (q_b (r:=by exact h0y q_o)) (h:=p_a (h:=h0a ?_)))) | (refine gR 4 ?_ <;> (try refine q_e (by exact q_b (r:=by refine h1l ?_; first | rfl | (with_reducible assumption) | (decide; done) | omega)) ?_) <;> (try refine p_a (h:=h0a ?_))) | (refine gR 5 (q_m ?_) <;> (try refine q_e (by apply h3c; exact rfl; (focus (apply h3a Tryd.underlying5 Tryd.underlying53; first | (refine IntWalk.i64_in _ ?_; omega) | (refine IntWalk.u8_in _ ?_; omega) | (refine IntWalk.u16_in _ ?_; omega) | (refine IntWalk.u32_in _ ?_; omega) | (refine IntWalk.u64_in _ ?_; omega) | (refine IntWalk.i32_in _ ?_; omega) | exact rfl))) ?_) <;> (try refine q_e (q_b (r:=by apply h1q; exact c_4; (focus (refine IntWalk.i64_in _ ?_; omega)))) ?_) <;> (try refine h0b ?_; (refine q_c 34 (c:=by apply hf) (h:=?_); rintro _ _ ⟨rfl, rfl⟩; (try simp only [zzE, zzF]))) <;> (try refine p_a (h:=h0a ?_))))
  (refine h0z Tryd.results16 (.tmp rfl .nil) ?_)
  exact ⟨_, ⟨_, rfl, ⟨h0, hok⟩, rfl⟩, by intro w H; refine H.sub ?_; (try simp only [zzC, zzN]); repeat (exact List.Sublist.refl _)⟩
 by_cases k2 : k % 4 = 2
 ·refine Fn2 Tryd.func16 Tryd.ntmps16 rfl rfl ?_
  repeat' (first | refine h0t ?_ | refine h0e ?_ | refine h0x ?_ | refine h1m ?_ | refine h0o ?_ | refine h1e ?_ | refine h0l rfl ?_ | refine h0m rfl ?_ | (refine gR 0 (p_a (h:=h0a ?_))) | (refine gR 1 (p_m (h:=p_e (q_b (r:=by apply h4i; omega; omega; exact c_4)) (h:=h0a ?_)))) | (refine gR 2 (p_e (q_b (r:=by exact h0y q_o)) (h:=p_a (h:=h0a ?_)))) | (refine gR 4 (p_e (q_b (r:=by exact h0y q_o)) (h:=p_a (h:=h0a ?_)))) | (refine gR 6 ?_ <;> (try refine q_e (by exact q_b (r:=by refine h1l ?_; first | rfl | (with_reducible assumption) | (decide; done) | omega)) ?_) <;> (try refine p_a (h:=h0a ?_))) | (refine gR 7 (p_a (h:=h0a ?_))))
  (refine h0z Tryd.results16 (.tmp rfl .nil) ?_)
  exact ⟨_, ⟨_, rfl, ⟨by decide, by decide +kernel⟩, rfl⟩, by intro w H; refine H.sub ?_; (try simp only [zzC, zzN]); repeat (exact List.Sublist.refl _)⟩
 ·refine Fn2 Tryd.func16 Tryd.ntmps16 rfl rfl ?_
  repeat' (first | refine h0t ?_ | refine h0e ?_ | refine h1h ?_ | refine h0o ?_ | refine h1a ?_ | refine h1e ?_ | refine h0m rfl ?_ | (refine gR 0 (p_a (h:=h0a ?_))) | (refine gR 1 (p_m (h:=p_e (q_b (r:=by apply h4i; omega; omega; exact c_4)) (h:=h0a ?_)))) | (refine gR 2 (p_e (q_b (r:=by exact h0y q_o)) (h:=p_a (h:=h0a ?_)))) | (refine gR 4 (p_e (q_b (r:=by exact h0y q_o)) (h:=p_a (h:=h0a ?_)))) | (refine gR 6 (p_e (q_b (r:=by exact h0y q_o)) (h:=p_a (h:=h0a ?_)))) | (refine gR 8 (p_a (h:=h0a ?_))))
  (refine h0z Tryd.results16 (.tmp rfl .nil) ?_)
  exact ⟨_, ⟨_, rfl, ⟨by decide, by decide +kernel⟩, rfl⟩, by intro w H; refine H.sub ?_; (try simp only [zzC, zzN]); repeat (exact List.Sublist.refl _)⟩
def dirC : Array Value := #[.string ⟨#[47]⟩, .string ⟨#[47, 97]⟩, .string ⟨#[47, 97, 47, 98]⟩, .string ⟨#[47, 102]⟩, .string ⟨#[47, 97, 47, 103]⟩, .string ⟨#[47, 99]⟩]
theorem dirs_c {S w0 L} : Fn Tryd.prog 19 #[] S w0 L fun v L' => ∃ nb, v = .slice (some ⟨nb, 0, none⟩) 6 6 ∧ ⟨true, nb, .cells dirC 9 (0, 0)⟩ :: L = L' := by
 refine Fn0 Tryd.func19 Tryd.ntmps19 rfl ?_
 repeat' (first | refine h0t ?_ | refine h0e ?_ | refine h1e ?_ | (refine gR 0 (p_a (h:=h0a ?_))) | (refine gR 1 ?_ <;> (try refine h0b ?_; (refine h0w (t:=89) (m:=6) (e:=9) (fun vs => (match vs with | [(_, x0), (_, x1), (_, x2), (_, x3), (_, x4), (_, x5)] => [x0, x1, x2, x3, x4, x5] | _ => [])) rfl rfl (fun w => by kernel_rfl) ?_; intro nb hnb; (try simp only [Value.cells]); (try simp only [zzC, zzN]))) <;> (try refine p_a (h:=h0a ?_))))
 (refine h0z Tryd.results19 (.tmp rfl .nil) ?_)
 exact ⟨_, ⟨_, rfl, rfl⟩, fun _ H => H⟩
def callC : List Value := clls.flatMap fun c => [.int .i64 c.num, .string c.name, .int .i64 c.args]
theorem rcalls_c {S w0 L} : Fn Tryd.prog 15 #[] S w0 L fun v L' => ∃ nb, v = .slice (some ⟨nb, 0, none⟩) 30 30 ∧ ⟨true, nb, .cells callC.toArray 95 (0, 0)⟩ :: L = L' := by
 refine Fn0 Tryd.func15 Tryd.ntmps15 rfl ?_
 repeat' (first | refine h0t ?_ | refine h0e ?_ | refine h1e ?_ | (refine gR 0 (p_a (h:=h0a ?_))) | (refine gR 1 ?_ <;> (try refine q_e (by exact h0v (t:=95) (fun vs => (match vs with | [(_, x0), (_, x1), (_, x2)] => [x0, x1, x2] | _ => [])) rfl (fun w => by kernel_rfl)) ?_; (try simp only [Value.cells]); (try simp only [zzC, zzN])) <;> (try refine q_e (by exact h0v (t:=95) (fun vs => (match vs with | [(_, x0), (_, x1), (_, x2)] => [x0, x1, x2] | _ => [])) rfl (fun w => by kernel_rfl)) ?_; (try simp only [Value.cells]); (try simp only [zzC, zzN])) <;> (try refine q_e (by exact h0v (t:=95) (fun vs => (match vs with | [(_, x0), (_, x1), (_, x2)] => [x0, x1, x2] | _ => [])) rfl (fun w => by kernel_rfl)) ?_; (try simp only [Value.cells]); (try simp only [zzC, zzN])) <;> (try refine q_e (by exact h0v (t:=95) (fun vs => (match vs with | [(_, x0), (_, x1), (_, x2)] => [x0, x1, x2] | _ => [])) rfl (fun w => by kernel_rfl)) ?_; (try simp only [Value.cells]); (try simp only [zzC, zzN])) <;> (try refine q_e (by exact h0v (t:=95) (fun vs => (match vs with | [(_, x0), (_, x1), (_, x2)] => [x0, x1, x2] | _ => [])) rfl (fun w => by kernel_rfl)) ?_; (try simp only [Value.cells]); (try simp only [zzC, zzN])) <;> (try refine q_e (by exact h0v (t:=95) (fun vs => (match vs with | [(_, x0), (_, x1), (_, x2)] => [x0, x1, x2] | _ => [])) rfl (fun w => by kernel_rfl)) ?_; (try simp only [Value.cells]); (try simp only [zzC, zzN])) <;> (try refine q_e (by exact h0v (t:=95) (fun vs => (match vs with | [(_, x0), (_, x1), (_, x2)] => [x0, x1, x2] | _ => [])) rfl (fun w => by kernel_rfl)) ?_; (try simp only [Value.cells]); (try simp only [zzC, zzN])) <;> (try refine q_e (by exact h0v (t:=95) (fun vs => (match vs with | [(_, x0), (_, x1), (_, x2)] => [x0, x1, x2] | _ => [])) rfl (fun w => by kernel_rfl)) ?_; (try simp only [Value.cells]); (try simp only [zzC, zzN])) <;> (try refine q_e (by exact h0v (t:=95) (fun vs => (match vs with | [(_, x0), (_, x1), (_, x2)] => [x0, x1, x2] | _ => [])) rfl (fun w => by kernel_rfl)) ?_; (try simp only [Value.cells]); (try simp only [zzC, zzN])) <;> (try refine q_e (by exact h0v (t:=95) (fun vs => (match vs with | [(_, x0), (_, x1), (_, x2)] => [x0, x1, x2] | _ => [])) rfl (fun w => by kernel_rfl)) ?_; (try simp only [Value.cells]); (try simp only [zzC, zzN])) <;> (try refine q_e (by exact h0v (t:=95) (fun vs => (match vs with | [(_, x0), (_, x1), (_, x2)] => [x0, x1, x2] | _ => [])) rfl (fun w => by kernel_rfl)) ?_; (try simp only [Value.cells]); (try simp only [zzC, zzN])) <;> (try refine q_e (by exact h0v (t:=95) (fun vs => (match vs with | [(_, x0), (_, x1), (_, x2)] => [x0, x1, x2] | _ => [])) rfl (fun w => by kernel_rfl)) ?_; (try simp only [Value.cells]); (try simp only [zzC, zzN])) <;> (try refine q_e (by exact h0v (t:=95) (fun vs => (match vs with | [(_, x0), (_, x1), (_, x2)] => [x0, x1, x2] | _ => [])) rfl (fun w => by kernel_rfl)) ?_; (try simp only [Value.cells]); (try simp only [zzC, zzN])) <;> (try refine q_e (by exact h0v (t:=95) (fun vs => (match vs with | [(_, x0), (_, x1), (_, x2)] => [x0, x1, x2] | _ => [])) rfl (fun w => by kernel_rfl)) ?_; (try simp only [Value.cells]); (try simp only [zzC, zzN])) <;> (try refine q_e (by exact h0v (t:=95) (fun vs => (match vs with | [(_, x0), (_, x1), (_, x2)] => [x0, x1, x2] | _ => [])) rfl (fun w => by kernel_rfl)) ?_; (try simp only [Value.cells]); (try simp only [zzC, zzN])) <;> (try refine q_e (by exact h0v (t:=95) (fun vs => (match vs with | [(_, x0), (_, x1), (_, x2)] => [x0, x1, x2] | _ => [])) rfl (fun w => by kernel_rfl)) ?_; (try simp only [Value.cells]); (try simp only [zzC, zzN])) <;> (try refine q_e (by exact h0v (t:=95) (fun vs => (match vs with | [(_, x0), (_, x1), (_, x2)] => [x0, x1, x2] | _ => [])) rfl (fun w => by kernel_rfl)) ?_; (try simp only [Value.cells]); (try simp only [zzC, zzN])) <;> (try refine q_e (by exact h0v (t:=95) (fun vs => (match vs with | [(_, x0), (_, x1), (_, x2)] => [x0, x1, x2] | _ => [])) rfl (fun w => by kernel_rfl)) ?_; (try simp only [Value.cells]); (try simp only [zzC, zzN])) <;> (try refine q_e (by exact h0v (t:=95) (fun vs => (match vs with | [(_, x0), (_, x1), (_, x2)] => [x0, x1, x2] | _ => [])) rfl (fun w => by kernel_rfl)) ?_; (try simp only [Value.cells]); (try simp only [zzC, zzN])) <;> (try refine q_e (by exact h0v (t:=95) (fun vs => (match vs with | [(_, x0), (_, x1), (_, x2)] => [x0, x1, x2] | _ => [])) rfl (fun w => by kernel_rfl)) ?_; (try simp only [Value.cells]); (try simp only [zzC, zzN])) <;> (try refine q_e (by exact h0v (t:=95) (fun vs => (match vs with | [(_, x0), (_, x1), (_, x2)] => [x0, x1, x2] | _ => [])) rfl (fun w => by kernel_rfl)) ?_; (try simp only [Value.cells]); (try simp only [zzC, zzN])) <;> (try refine q_e (by exact h0v (t:=95) (fun vs => (match vs with | [(_, x0), (_, x1), (_, x2)] => [x0, x1, x2] | _ => [])) rfl (fun w => by kernel_rfl)) ?_; (try simp only [Value.cells]); (try simp only [zzC, zzN])) <;> (try refine q_e (by exact h0v (t:=95) (fun vs => (match vs with | [(_, x0), (_, x1), (_, x2)] => [x0, x1, x2] | _ => [])) rfl (fun w => by kernel_rfl)) ?_; (try simp only [Value.cells]); (try simp only [zzC, zzN])) <;> (try refine q_e (by exact h0v (t:=95) (fun vs => (match vs with | [(_, x0), (_, x1), (_, x2)] => [x0, x1, x2] | _ => [])) rfl (fun w => by kernel_rfl)) ?_; (try simp only [Value.cells]); (try simp only [zzC, zzN])) <;> (try refine q_e (by exact h0v (t:=95) (fun vs => (match vs with | [(_, x0), (_, x1), (_, x2)] => [x0, x1, x2] | _ => [])) rfl (fun w => by kernel_rfl)) ?_; (try simp only [Value.cells]); (try simp only [zzC, zzN])) <;> (try refine q_e (by exact h0v (t:=95) (fun vs => (match vs with | [(_, x0), (_, x1), (_, x2)] => [x0, x1, x2] | _ => [])) rfl (fun w => by kernel_rfl)) ?_; (try simp only [Value.cells]); (try simp only [zzC, zzN])) <;> (try refine q_e (by exact h0v (t:=95) (fun vs => (match vs with | [(_, x0), (_, x1), (_, x2)] => [x0, x1, x2] | _ => [])) rfl (fun w => by kernel_rfl)) ?_; (try simp only [Value.cells]); (try simp only [zzC, zzN])) <;> (try refine q_e (by exact h0v (t:=95) (fun vs => (match vs with | [(_, x0), (_, x1), (_, x2)] => [x0, x1, x2] | _ => [])) rfl (fun w => by kernel_rfl)) ?_; (try simp only [Value.cells]); (try simp only [zzC, zzN])) <;> (try refine q_e (by exact h0v (t:=95) (fun vs => (match vs with | [(_, x0), (_, x1), (_, x2)] => [x0, x1, x2] | _ => [])) rfl (fun w => by kernel_rfl)) ?_; (try simp only [Value.cells]); (try simp only [zzC, zzN])) <;> (try refine q_e (by exact h0v (t:=95) (fun vs => (match vs with | [(_, x0), (_, x1), (_, x2)] => [x0, x1, x2] | _ => [])) rfl (fun w => by kernel_rfl)) ?_; (try simp only [Value.cells]); (try simp only [zzC, zzN])) <;> (try refine h0b ?_; (refine h0w (t:=87) (m:=30) (e:=95) (fun vs => (match vs with | [(_, x0), (_, x1), (_, x2), (_, x3), (_, x4), (_, x5), (_, x6), (_, x7), (_, x8), (_, x9), (_, x10), (_, x11), (_, x12), (_, x13), (_, x14), (_, x15), (_, x16), (_, x17), (_, x18), (_, x19), (_, x20), (_, x21), (_, x22), (_, x23), (_, x24), (_, x25), (_, x26), (_, x27), (_, x28), (_, x29)] => x0.cells.toList ++ (x1.cells.toList ++ (x2.cells.toList ++ (x3.cells.toList ++ (x4.cells.toList ++ (x5.cells.toList ++ (x6.cells.toList ++ (x7.cells.toList ++ (x8.cells.toList ++ (x9.cells.toList ++ (x10.cells.toList ++ (x11.cells.toList ++ (x12.cells.toList ++ (x13.cells.toList ++ (x14.cells.toList ++ (x15.cells.toList ++ (x16.cells.toList ++ (x17.cells.toList ++ (x18.cells.toList ++ (x19.cells.toList ++ (x20.cells.toList ++ (x21.cells.toList ++ (x22.cells.toList ++ (x23.cells.toList ++ (x24.cells.toList ++ (x25.cells.toList ++ (x26.cells.toList ++ (x27.cells.toList ++ (x28.cells.toList ++ x29.cells.toList)))))))))))))))))))))))))))) | _ => [])) rfl rfl (fun w => by kernel_rfl) ?_; intro nb hnb; (try simp only [Value.cells]); (try simp only [zzC, zzN]))) <;> (try refine p_a (h:=h0a ?_))))
 (refine h0z Tryd.results15 (.tmp rfl .nil) ?_)
 exact ⟨_, ⟨_, rfl, rfl⟩, fun _ H => H⟩
structure SRul where
 c : Int
 a : Int
 e : Int
 conds : List SCnd
structure SRul.ok (r : SRul) : Prop where
 c : 0 ≤ r.c ∧ r.c < 256
 a : 0 ≤ r.a ∧ r.a < 256
 e : 0 ≤ r.e ∧ r.e < 256
 conds : ∀ c ∈ r.conds, c.ok
def scC (cs : List SCnd) : List Value := cs.flatMap SCnd.cells
theorem scC_at (cs : List SCnd) (k : Nat) (h : k < cs.length) : ((scC cs).drop (k * 4)).take 4 = (cs[k]).cells := by
 induction cs generalizing k with
 | nil => simp at h
 | cons c r ih =>
  cases k with
  | zero => simp [scC]
  | succ k =>
   rw [scC, List.flatMap_cons, ← scC, show (k + 1) * 4 = c.cells.length + k * 4 by simp only [SCnd.cells, List.length_cons, List.length_nil]; omega, List.drop_append, List.drop_eq_nil_of_le (by omega), List.nil_append, Nat.add_sub_cancel_left]
   exact ih k (by simpa using h)
def SCndS (L : List Blk) (v : Value) (cs : List SCnd) : Prop := ∃ a c, v = .slice a cs.length c ∧ Sli L a cs.length 4 (scC cs) ∧ cs.length ≤ maxLen
def SRulG (L : List Blk) : List SRul → List Value → Prop
 | [], cz => cz = []
 | r :: rs, cz => ∃ v cz', cz = .int .u8 r.c :: .int .u8 r.a :: .int .u8 r.e :: v :: cz' ∧ SCndS L v r.conds ∧ SRulG L rs cz'
theorem SRulG.at_ {L : List Blk} : ∀ {rs : List SRul} {cz : List Value} (_ : SRulG L rs cz) (k : Nat) (hk : k < rs.length), ∃ v, (cz.drop (k * 4)).take 4 = [.int .u8 (rs[k]).c, .int .u8 (rs[k]).a, .int .u8 (rs[k]).e, v] ∧ SCndS L v (rs[k]).conds
 | r :: rs, cz, ⟨v, cz', h1, h2, h3⟩, 0, _ => ⟨v, by rw [h1]; rfl, h2⟩
 | r :: rs, cz, ⟨v, cz', h1, h2, h3⟩, k + 1, hk => by
  obtain ⟨v', e1, e2⟩ := SRulG.at_ h3 k (by simpa using hk)
  exact ⟨v', by rw [h1, show (k + 1) * 4 = 4 + k * 4 by omega, ← List.drop_drop]; exact e1, e2⟩
theorem SCndS.upA {L : List Blk} {v : Value} {cs : List SCnd} (h : SCndS L v cs) (e : List Blk) : SCndS (e ++ L) v cs := let ⟨a, c, h1, h2, h3⟩ := h; ⟨a, c, h1, h2.upA e, h3⟩
theorem SCndS.left {L e : List Blk} {v : Value} {cs : List SCnd} (h : SCndS e v cs) : SCndS (e ++ L) v cs := let ⟨a, c, h1, h2, h3⟩ := h; ⟨a, c, h1, h2.left, h3⟩
theorem SRulG.upA {L : List Blk} (e : List Blk) : ∀ {rs : List SRul} {cz : List Value}, SRulG L rs cz → SRulG (e ++ L) rs cz
 | [], _, h => h
 | _ :: _, _, ⟨v, cz', h1, h2, h3⟩ => ⟨v, cz', h1, h2.upA e, SRulG.upA e h3⟩
theorem SRulG.left {L e : List Blk} : ∀ {rs : List SRul} {cz : List Value}, SRulG e rs cz → SRulG (e ++ L) rs cz
 | [], _, h => h
 | _ :: _, _, ⟨v, cz', h1, h2, h3⟩ => ⟨v, cz', h1, h2.left, SRulG.left h3⟩
structure SPol where
 nm : Int
 df : Int
 en : Int
 rules : List SRul
 hd : Nat
 paths : List Int
 rights : List Int
 ports : List Int
structure SPol.ok (s : SPol) : Prop where
 nm : 0 ≤ s.nm ∧ s.nm < 256
 df : 0 ≤ s.df ∧ s.df < 256
 en : 0 ≤ s.en ∧ s.en < 256
 rules : ∀ r ∈ s.rules, r.ok
 hd : s.hd < 65536
 paths : ∀ x ∈ s.paths, 0 ≤ x ∧ x < 256
 rights : ∀ x ∈ s.rights, 0 ≤ x ∧ x < 65536
 ports : ∀ x ∈ s.ports, 0 ≤ x ∧ x < 256
def u16g (l : List Int) : List Value := l.map (Value.int .u16)
structure SPolS (L : List Blk) (s : SPol) (vr vp vg vq : Value) : Prop where
 rs : ∃ a c cz, vr = .slice a s.rules.length c ∧ Sli L a s.rules.length 4 cz ∧ SRulG L s.rules cz
 ps : ∃ a c, vp = .slice a s.paths.length c ∧ Sli L a s.paths.length 1 (u8l s.paths)
 gs : ∃ a c, vg = .slice a s.rights.length c ∧ Sli L a s.rights.length 1 (u16g s.rights)
 qs : ∃ a c, vq = .slice a s.ports.length c ∧ Sli L a s.ports.length 1 (u8l s.ports)
 l1 : s.rules.length ≤ maxLen
 l2 : s.paths.length ≤ maxLen
 l3 : s.rights.length ≤ maxLen
 l4 : s.ports.length ≤ maxLen
abbrev smB (b : Nat) (nm df en : Int) (vr : Value) (hd : Nat) (vp vg vq : Value) : Blk := ⟨true, b, .cells #[.int .u8 nm, .int .u8 df, .int .u8 en, vr, .int .u16 (hd : Nat), vp, vg, vq] 35 (0, 0)⟩
abbrev pcB (b : Nat) (nm : ByteArray) (df : Int) (vr : Value) (hd : Nat) (vp vq : Value) : Blk := ⟨true, b, .cells #[.string nm, .int .u32 df, vr, .int .u16 (hd : Nat), vp, vq] 30 (0, 0)⟩
section
variable {P : Program} {n : Nat} {l : List (Nat × Value)} {S : List Nat} {w0 : World} {L : List Blk} {K : Act → World → Prop} {k : Kont} {ops : Array Oper} {d : Tmp} {ty : TypeId} {pos : String} {af : Array Edge}
theorem K1_callvc {F : FuncId} {t : Tmp} {first captured : Array Value} {xs : List Operand} {vs zs : List Value} {ats : Array TypeId} {R : Value → List Blk → Prop} (hfn : (P.funcs[F]?).map (fun fn => (fn.name == "runtime.NumGoroutine", fn.body.isNone)) = some (false, false)) (hd : Nat.blt d n = true)
  (ht : lk l t = some (.func (.func F) first captured)) (hx : evs l xs = some vs) (hz : first.toList ++ vs ++ captured.toList = zs) (hc : Fn P F zs.toArray S w0 L R) (h : ∀ v L', R v L' → G n ((d, v) :: l) S w0 L' K) :
  G n l S w0 L (K1 P ops k ⟨some d, .call { callee := .value (.tmp t), args := xs.toArray, argTypes := ats }, ty, pos, af, none⟩ K) := by
 refine K1_callv hfn hd ht hx ?_ h
 have e : first ++ vs.toArray ++ captured = zs.toArray := by rw [← hz]; simp
 rw [e]; exact hc
end
theorem dec_t {p : Prop} {i : Decidable p} (h : p) : @decide p i = true := decide_eq_true h
theorem dec_f {p : Prop} {i : Decidable p} (h : ¬ p) : @decide p i = false := decide_eq_false h
theorem Sel.appS {e L L' : List Blk} (h : Sel L L') : Sel (e ++ L) (e ++ L') := let ⟨M, h3, h4⟩ := h; ⟨e ++ M, h3.append_left e, h4.append_left e⟩
theorem iand_c (x : Int) (n : Nat) : iand x (n : Int) = ((x.toNat &&& n : Nat) : Int) := rfl
theorem rights_s {S w0 L} (i1 i2 b1 b2 : Nat) (nm df en : Int) (vr : Value) (hs : Nat) (vp : Value) (ga : Option Addr) (gc : Nat) (gs : List Int) (vq : Value) (pn : ByteArray) (pd : Int) (wr : Value) (hd : Nat) (wp wq : Value) (h1 : L[i1]? = some (smB b1 nm df en vr hs vp (.slice ga gs.length gc) vq)) (h2 : L[i2]? = some (pcB b2 pn pd wr hd wp wq))
  (hg : Sli L ga gs.length 1 (u16g gs)) (hgo : ∀ x ∈ gs, 0 ≤ x ∧ x < 65536) (hgl : gs.length ≤ maxLen) (hhd : hd < 65536) (i : Nat) (hi : i ≤ maxLen) (kd : Nat) (hkd : kd < 65536) :
  Fn Tryd.prog 18 #[.int .i64 (i : Nat), .int .u16 (kd : Nat), .pointer (some ⟨b1, 0, none⟩), .pointer (some ⟨b2, 0, none⟩)] S w0 L fun v L' => ∃ r : Nat, v = .int .u16 (r : Nat) ∧ (r &&& hd = r ∧ r &&& kd = r) ∧ L = L' := by
 unfold maxLen at hgl hi
 by_cases hlt : gs.length ≤ i
 ·refine Fn4 Tryd.func18 Tryd.ntmps18 rfl rfl ?_
  repeat' (first | refine h0t ?_ | refine h0e ?_ | refine h0x ?_ | refine h1e ?_ | refine h0l rfl ?_ | (refine gR 0 (p_a (h:=h0a ?_))) | (refine gR 1 (p_m (h:=p_e (q_f fo_35_6) (h:=p_e (by apply h2b (t:=33); exact rfl; exact c_13; kernel_rfl; kernel_rfl; exact rfl) (h:=p_e (by apply h0h; exact rfl; exact (fun _ => BigFrame.builtin_len ..); apply h0j Tryd.underlying33; exact h3d) (h:=p_e (q_b (r:=by exact h3h q_o)) (h:=h0a ?_))))))) | (refine gR 2 (p_e (q_f fo_30_3) (h:=p_e (by apply h2b (t:=26); exact rfl; exact c_13; kernel_rfl; kernel_rfl; exact rfl) (h:=q_m ?_))) <;> (try refine q_e (q_b (r:=by refine rb_and ?_ ?_; (focus (refine ⟨rfl, ⟨?_, ?_⟩⟩; omega; (focus (simp only [IntKind.bits]; omega)))); (focus (refine ⟨rfl, ⟨?_, ?_⟩⟩; omega; (focus (simp only [IntKind.bits]; omega)))))) ?_) <;> (try refine p_a (h:=h0a ?_))))
  (refine h0z Tryd.results18 (.tmp rfl .nil) ?_)
  rw [iand_c, Int.toNat_natCast]
  exact ⟨_, ⟨hd &&& kd, rfl, ⟨by rw [Nat.and_comm (hd &&& kd) hd, ← Nat.and_assoc, Nat.and_self], by rw [Nat.and_assoc, Nat.and_self]⟩, rfl⟩, by intro w H; refine H.sub ?_; (try simp only [zzC, zzN]); repeat (exact List.Sublist.refl _)⟩
 ·obtain ⟨i0, q, b, off, cs, T, fr, rfl, hi0, hsz, hx⟩ := hg.elem1 (show i < gs.length by omega)
  obtain ⟨x, hxe⟩ : ∃ x, x = gs[i]'(by omega) := ⟨_, rfl⟩
  have hxr : 0 ≤ x ∧ x < 65536 := hxe ▸ hgo _ (List.getElem_mem _)
  rw [u16g, List.getElem?_map, List.getElem?_eq_getElem (show i < gs.length by omega), Option.map_some, ← hxe] at hx
  clear hxe
  have hia : 0 ≤ iand x (hd : Nat) ∧ iand x (hd : Nat) < 65536 := by
   rw [iand_c]
   have := Nat.and_le_right (n:=x.toNat) (m:=hd)
   omega
  refine Fn4 Tryd.func18 Tryd.ntmps18 rfl rfl ?_
  repeat' (first | refine h0t ?_ | refine h0e ?_ | refine h1a ?_ | refine h1e ?_ | refine h0m rfl ?_ | (refine gR 0 (p_a (h:=h0a ?_))) | (refine gR 1 (p_m (h:=p_e (q_f fo_35_6) (h:=p_e (by apply h2b (t:=33); exact rfl; exact c_13; kernel_rfl; kernel_rfl; exact rfl) (h:=p_e (by apply h0h; exact rfl; exact (fun _ => BigFrame.builtin_len ..); apply h0j Tryd.underlying33; exact h3d) (h:=p_e (q_b (r:=by exact h3n q_o)) (h:=h0a ?_))))))) | ((refine h2s (id:=3) (m:=11) (by kernel_rfl) rfl (q_u 0 (x:=by exact q_f fo_35_6) (h:=q_u 1 (x:=by apply h2b (t:=33); exact rfl; exact c_13; kernel_rfl; kernel_rfl; exact rfl) (h:=q_u 2 (x:=by exact h0g rfl) (h:=q_u 3 (x:=by apply h0s; exact rfl; exact rfl; (focus (apply h2h Tryd.underlying33 sz_25; omega; omega; exact c_1))) (h:=q_u 4 (x:=by apply h2b (t:=25); exact rfl; exact c_13; kernel_rfl; kernel_rfl; (with_reducible assumption)) (h:=q_u 5 (x:=by exact q_f fo_30_3) (h:=q_u 6 (x:=by apply h2b (t:=26); exact rfl; exact c_13; kernel_rfl; kernel_rfl; exact rfl) (h:=?_))))))))) <;> (try refine q_u 7 (x:=by exact q_b (r:=by refine rb_and ?_ ?_; (focus (refine ⟨rfl, ⟨?_, ?_⟩⟩; omega; (focus (simp only [IntKind.bits]; omega)))); (focus (refine ⟨rfl, ⟨?_, ?_⟩⟩; omega; (focus (simp only [IntKind.bits]; omega)))))) (h:=?_)) <;> (try refine q_u 8 (x:=by exact h0g rfl) (h:=?_)) <;> (try refine q_u 9 (x:=by exact q_b (r:=by refine rb_and ?_ ?_; (focus (refine ⟨rfl, ⟨?_, ?_⟩⟩; omega; (focus (simp only [IntKind.bits]; omega)))); (focus (refine ⟨rfl, ⟨?_, ?_⟩⟩; omega; (focus (simp only [IntKind.bits]; omega)))))) (h:=?_)) <;> (try refine q_u 10 (x:=by exact h1j rfl) (h:=h2e (by kernel_rfl) ?_))))
  (refine h0z Tryd.results18 (.tmp rfl .nil) ?_)
  rw [iand_c, iand_c, Int.toNat_natCast]
  exact ⟨_, ⟨(x.toNat &&& hd) &&& kd, rfl, ⟨by rw [Nat.and_assoc (x.toNat &&& hd), Nat.and_comm kd hd, ← Nat.and_assoc, Nat.and_assoc x.toNat, Nat.and_self], by rw [Nat.and_assoc, Nat.and_self]⟩, rfl⟩, by intro w H; refine H.sub ?_; (try simp only [zzC, zzN]); repeat (exact List.Sublist.refl _)⟩
def nmC : Array Value := #[.string ⟨#[112]⟩, .string ⟨#[112, 111, 108, 45, 49]⟩, .string ⟨#[120, 95, 121]⟩]
theorem nmC_at (k : Nat) (h : k < 3) : ∃ n : List UInt8, nmC.toList[k]? = some (.string (mB8 n)) ∧ Wd.wordF (mB8 n) = true := by
 match k, h with
 | 0, _ => exact ⟨[112], rfl, by decide +kernel⟩
 | 1, _ => exact ⟨[112, 111, 108, 45, 49], rfl, by decide +kernel⟩
 | 2, _ => exact ⟨[120, 95, 121], rfl, by decide +kernel⟩
theorem callC_at (k : Nat) (h : k < 30) : ∃ n : Nat, callC.toArray.toList[k * 3]? = some (.int .i64 (n : Nat)) ∧ (h3f (n : Nat) clls).isSome = true ∧ n < 4294967296 := by
 obtain rfl | rfl | rfl | rfl | rfl | rfl | rfl | rfl | rfl | rfl | rfl | rfl | rfl | rfl | rfl | rfl | rfl | rfl | rfl | rfl | rfl | rfl | rfl | rfl | rfl | rfl | rfl | rfl | rfl | rfl : k = 0 ∨ k = 1 ∨ k = 2 ∨ k = 3 ∨ k = 4 ∨ k = 5 ∨ k = 6 ∨ k = 7 ∨ k = 8 ∨ k = 9 ∨ k = 10 ∨ k = 11 ∨ k = 12 ∨ k = 13 ∨ k = 14 ∨ k = 15 ∨ k = 16 ∨ k = 17 ∨ k = 18 ∨ k = 19 ∨ k = 20 ∨ k = 21 ∨ k = 22 ∨ k = 23 ∨ k = 24 ∨ k = 25 ∨ k = 26 ∨ k = 27 ∨ k = 28 ∨ k = 29 := by omega
 ·exact ⟨0, by kernel_rfl, by decide +kernel, by omega⟩
 ·exact ⟨1, by kernel_rfl, by decide +kernel, by omega⟩
 ·exact ⟨2, by kernel_rfl, by decide +kernel, by omega⟩
 ·exact ⟨3, by kernel_rfl, by decide +kernel, by omega⟩
 ·exact ⟨4, by kernel_rfl, by decide +kernel, by omega⟩
 ·exact ⟨8, by kernel_rfl, by decide +kernel, by omega⟩
 ·exact ⟨32, by kernel_rfl, by decide +kernel, by omega⟩
 ·exact ⟨39, by kernel_rfl, by decide +kernel, by omega⟩
 ·exact ⟨41, by kernel_rfl, by decide +kernel, by omega⟩
 ·exact ⟨42, by kernel_rfl, by decide +kernel, by omega⟩
 ·exact ⟨49, by kernel_rfl, by decide +kernel, by omega⟩
 ·exact ⟨50, by kernel_rfl, by decide +kernel, by omega⟩
 ·exact ⟨57, by kernel_rfl, by decide +kernel, by omega⟩
 ·exact ⟨60, by kernel_rfl, by decide +kernel, by omega⟩
 ·exact ⟨77, by kernel_rfl, by decide +kernel, by omega⟩
 ·exact ⟨78, by kernel_rfl, by decide +kernel, by omega⟩
 ·exact ⟨79, by kernel_rfl, by decide +kernel, by omega⟩
 ·exact ⟨80, by kernel_rfl, by decide +kernel, by omega⟩
 ·exact ⟨82, by kernel_rfl, by decide +kernel, by omega⟩
 ·exact ⟨83, by kernel_rfl, by decide +kernel, by omega⟩
 ·exact ⟨84, by kernel_rfl, by decide +kernel, by omega⟩
 ·exact ⟨86, by kernel_rfl, by decide +kernel, by omega⟩
 ·exact ⟨87, by kernel_rfl, by decide +kernel, by omega⟩
 ·exact ⟨88, by kernel_rfl, by decide +kernel, by omega⟩
 ·exact ⟨89, by kernel_rfl, by decide +kernel, by omega⟩
 ·exact ⟨157, by kernel_rfl, by decide +kernel, by omega⟩
 ·exact ⟨165, by kernel_rfl, by decide +kernel, by omega⟩
 ·exact ⟨166, by kernel_rfl, by decide +kernel, by omega⟩
 ·exact ⟨317, by kernel_rfl, by decide +kernel, by omega⟩
 ·exact ⟨446, by kernel_rfl, by decide +kernel, by omega⟩
structure SmG where
 k : Nat
 rs : List RulP
 cz : List Value
 vr : Value
 er : List Blk
 ec : List Blk
structure SmI (N : Nat) (g : SmG) : Prop where
 le : g.k ≤ N
 len : g.rs.length = g.k
 le2 : g.k ≤ 12
 rs : RulsR g.rs g.cz g.ec
 own : Own 47 3 g.vr g.rs.length g.cz g.er
 ok : ∀ r ∈ g.rs, RulOk r ∧ ∀ c ∈ r.conds, c.mask ≤ 18446744073709551615 ∧ c.val ≤ 18446744073709551615
def dirL : List (List UInt8) := [[47], [47, 97], [47, 97, 47, 98], [47, 102], [47, 97, 47, 103], [47, 99]]
theorem dirL_at (k : Nat) (h : k < 6) : ∃ p : List UInt8, dirC.toList[k]? = some (.string (mB8 p)) ∧ Pt.pathF p = true ∧ p ∈ dirL := by
 obtain rfl | rfl | rfl | rfl | rfl | rfl : k = 0 ∨ k = 1 ∨ k = 2 ∨ k = 3 ∨ k = 4 ∨ k = 5 := by omega
 ·exact ⟨[47], rfl, by decide +kernel, by decide⟩
 ·exact ⟨[47, 97], rfl, by decide +kernel, by decide⟩
 ·exact ⟨[47, 97, 47, 98], rfl, by decide +kernel, by decide⟩
 ·exact ⟨[47, 102], rfl, by decide +kernel, by decide⟩
 ·exact ⟨[47, 97, 47, 103], rfl, by decide +kernel, by decide⟩
 ·exact ⟨[47, 99], rfl, by decide +kernel, by decide⟩
theorem nd_len {α : Type} [DecidableEq α] : ∀ (l m : List α), l.Nodup → (∀ x ∈ l, x ∈ m) → l.length ≤ m.length
 | [], _, _, _ => Nat.zero_le _
 | a :: l, m, h, hs => by
  have h2 := List.nodup_cons.1 h
  have h3 := nd_len l (m.erase a) h2.2 (fun x hx => (List.mem_erase_of_ne (fun e => h2.1 (by subst e; exact hx))).2 (hs x (List.mem_cons_of_mem _ hx)))
  have hm := hs a (List.mem_cons_self ..)
  rw [List.length_erase_of_mem hm] at h3
  have : 0 < m.length := List.length_pos_of_mem hm
  rw [List.length_cons]
  omega
structure SmpG where
 k : Nat
 ps : List (List UInt8 × Nat)
 vp : Value
 ep : List Blk
 kvs : List (Value × Value)
structure SmpI (N HD : Nat) (g : SmpG) : Prop where
 le : g.k ≤ N
 len : g.ps.length ≤ g.k
 own : Own 49 2 g.vp g.ps.length (pthC g.ps) g.ep
 map : MapS keyT g.kvs (g.ps.map (·.1))
 ok : ∀ p ∈ g.ps, Pt.pathF p.1 = true ∧ p.2 ≠ 0 ∧ p.2 &&& HD = p.2 ∧ p.2 &&& 2047 = p.2
 nd : (g.ps.map (·.1)).Nodup
 dir : ∀ p ∈ g.ps, p.1 ∈ dirL
structure SmqG where
 k : Nat
 ps : List (Nat × Nat)
 vp : Value
 ep : List Blk
 kvs : List (Value × Value)
structure SmqI (N HD : Nat) (g : SmqG) : Prop where
 le : g.k ≤ N
 len : g.ps.length ≤ g.k
 own : Own 51 2 g.vp g.ps.length (porC g.ps) g.ep
 map : MapS keyP g.kvs (g.ps.map (·.1))
 ok : ∀ p ∈ g.ps, p.1 < 65536 ∧ p.2 ≠ 0 ∧ p.2 &&& HD = p.2 ∧ p.2 &&& 49152 = p.2
 nd : (g.ps.map (·.1)).Nodup
 dir : ∀ p ∈ g.ps, p.1 ∈ [80, 81, 82, 83]
set_option maxHeartbeats 2000000 in
theorem smpol_c {S w0 L} (s : SPol) (h : s.ok) (vr vp vg vq : Value) (hS : SPolS L s vr vp vg vq) :
  Fn Tryd.prog 7 #[.agg #[.int .u8 s.nm, .int .u8 s.df, .int .u8 s.en, vr, .int .u16 (s.hd : Nat), vp, vg, vq]] S w0 L fun v L' => ∃ (d : PoD) (P : Pol), v = .agg (polC P d.vr d.vp d.vq).toArray ∧ d.ok P ∧ PolOk P ∧ PolRn P ∧ (P.hd = s.hd &&& 51199 ∧ P.rules.length ≤ 12 ∧ P.paths.length ≤ s.paths.length ∧ P.ports.length ≤ s.ports.length) ∧ d.blocks ++ L = L' := by
 obtain ⟨⟨ra, rc, zz, rfl, hrs, hrg⟩, ⟨pa, pc, rfl, hps⟩, ⟨ga, gc, rfl, hgs⟩, ⟨qa, qc, rfl, hqs⟩, hl1, hl2, hl3, hl4⟩ := hS
 obtain ⟨nm, df, en, rules, hd, paths, rights, ports⟩ := s
 obtain ⟨hnm, hdf, hen, hrules, hhd, hpaths, hrights, hports⟩ := h
 dsimp only at *
 obtain ⟨n0, hn0, hw0⟩ := nmC_at (nm % 3).toNat (by omega)
 have hac := fun (L : List Blk) => action_s (S:=S) (w0:=w0) (L:=L) df en hdf hen
 have hrc := fun (L : List Blk) => rcalls_c (S:=S) (w0:=w0) (L:=L)
 unfold maxLen at hl1 hl2 hl3 hl4
 refine Fn1 Tryd.func7 Tryd.ntmps7 rfl rfl ?_
 repeat' (first | (refine h4o (id:=2) ?_) | refine h0t ?_ | refine h0e ?_ | (refine gR 0 ?_ <;> (try refine h0b ?_; (refine h2c (t:=35) rfl rfl ?_; intro nb hnb; (try simp only [Value.cells]))) <;> (try refine h0b ?_; (refine h1b (t:=30) rfl Tryd.zeroValue30 ?_; intro nb hnb; (try simp only [Value.cells]))) <;> (try refine h0a ?_)) | (refine gR 1 ?_ <;> (try refine h0b ?_; (refine q_c 15 (c:=by apply hrc) (h:=?_); rintro _ _ ⟨nbC, rfl, rfl⟩; (try simp only [zzE, zzF]))) <;> (try refine p_a (h:=h0a ?_))))
 refine ⟨?_⟩
 rename_i n1 _
 obtain ⟨n2, rfl⟩ : ∃ x, x = nb := ⟨_, rfl⟩
 have hn0' : (#[.string ⟨#[112]⟩, .string ⟨#[112, 111, 108, 45, 49]⟩, .string ⟨#[120, 95, 121]⟩] : Array Value).toList[(nm % 3).toNat]? = some (.string (mB8 n0)) := hn0
 have hrf := fun (L : List Blk) (i1 i2 b2 : Nat) (wr wq : Value) (wp : Value) (pn : ByteArray) (pd : Int) (hd' : Nat) a b c => rights_s (S:=S) (w0:=w0) (L:=L) i1 i2 n1 b2 nm df en (.slice ra rules.length rc) hd (.slice pa paths.length pc) ga gc rights (.slice qa ports.length qc) pn pd wr hd' wp wq a b c hrights hl3
 refine h4e (γ:=Nat × Int) (fun g => 0 ≤ g.2 ∧ h4b g.2 = true) (fun g => [(4, .pointer (some ⟨g.1, 0, none⟩))]) [(1, _), (2, _), (3, _)]
  (fun g => ⟨true, g.1, .cells #[.string (mB8 n0), .int .u32 g.2, .slice none 0 0, .int .u16 (iand (hd : Nat) 51199), .slice none 0 0, .slice none 0 0] 30 (0, 0)⟩ :: ⟨true, nbC, .cells callC.toArray 95 (0, 0)⟩ :: ⟨true, n2, .cells #[.string ⟨#[]⟩, .int .u32 0, .slice none 0 0, .int .u16 0, .slice none 0 0, .slice none 0 0] 30 (0, 0)⟩ :: smB n1 nm df en (.slice ra rules.length rc) hd (.slice pa paths.length pc) (.slice ga rights.length gc) (.slice qa ports.length qc) :: L) (.cons rfl (.cons rfl (.cons rfl .nil))) ?_ ?_
 ·repeat' (first | refine h1d ?_ | ((refine h2s (id:=2) (m:=17) (by kernel_rfl) rfl (q_u 1 (x:=by exact q_f fo_35_0) (h:=q_u 2 (x:=by exact q_l) (h:=q_u 3 (x:=by exact q_b (r:=by apply h4i; omega; omega; exact c_4)) (h:=q_u 6 (x:=by exact q_f fo_35_1) (h:=q_u 7 (x:=by exact q_l) (h:=q_u 8 (x:=by exact q_f fo_35_2) (h:=q_u 9 (x:=by exact q_l) (h:=q_u 11 (x:=by exact q_f fo_35_4) (h:=q_u 12 (x:=by exact q_l) (h:=?_))))))))))) <;> (try refine q_u 13 (x:=by exact q_b (r:=by refine rb_and ?_ ?_; (focus (refine ⟨rfl, ⟨?_, ?_⟩⟩; omega; (focus (simp only [IntKind.bits]; omega)))); (focus (refine ⟨rfl, ⟨?_, ?_⟩⟩; omega; (focus (simp only [IntKind.bits]; omega)))))) (h:=?_)) <;> (try refine H_run3t (i:=0) (j:=10) (m:=15) rfl rfl rfl (by kernel_rfl) ?_ ?_ ?_ <;> (first | (refine TagA.mk ?_; (((refine h0w (t:=89) (m:=3) (e:=9) (fun vs => (match vs with | [(_, x0), (_, x1), (_, x2)] => [x0, x1, x2] | _ => [])) rfl rfl (fun w => by kernel_rfl) ?_; intro nb hnb; (try simp only [Value.cells]); (try simp only [zzC, zzN])); refine h2a c_9 ?_) <;> (try refine q_t 4 (e:=c_9) (x:=by apply h0s; exact rfl; exact rfl; (focus (apply h2h Tryd.underlying89 sz_9; omega; omega; exact c_1))) (h:=?_)) <;> (try refine H_run3t (i:=5) (j:=10) (m:=15) rfl rfl rfl (by kernel_rfl) ?_ ?_ ?_ <;> (first | (refine TagA.mk ?_; (((refine q_k (by apply h2b (t:=9); exact rfl; exact fd0; kernel_rfl; kernel_rfl; (with_reducible assumption)) ?_); refine h2a c_9 ?_) <;> (try refine h3l (i:=10) (j:=15) rfl rfl (by kernel_rfl) ?_ ?_ <;> (first | (refine TagA.mk ?_; (((refine q_c 16 (c:=by apply hac) (h:=?_); rintro _ _ ⟨act, rfl, hact, rfl⟩; (try simp only [zzE, zzF])); refine h2a c_9 ?_) <;> (try refine q_t 14 (e:=c_9) (x:=by exact h0v (t:=30) (fun vs => (match vs with | [(_, x0), (_, x1), (_, x2)] => [x0, x1, Value.slice none 0 0, x2, Value.slice none 0 0, Value.slice none 0 0] | _ => [])) rfl (fun w => by kernel_rfl)) (h:=?_); (try simp only [Value.cells]); (try simp only [zzC, zzN])) <;> (try refine q_r 15 ?_; (refine h1b (t:=30) rfl Tryd.zeroValue30 ?_; intro nb hnb; (try simp only [Value.cells])); refine h2a c_9 ?_) <;> (try refine q_r 16 ?_; (refine q_W ?_); refine h2a c_9 ?_) <;> (try refine h2e (by kernel_rfl) ?_))) | (refine TagB.mk ?_; (((refine h1b (t:=30) rfl Tryd.zeroValue30 ?_; intro nb hnb; (try simp only [Value.cells])); refine h2a c_9 ?_) <;> (try refine q_r 10 ?_; (refine q_c 16 (c:=by apply hac) (h:=?_); rintro _ _ ⟨act, rfl, hact, rfl⟩; (try simp only [zzE, zzF])); refine h2a c_9 ?_) <;> (try refine q_t 14 (e:=c_9) (x:=by exact h0v (t:=30) (fun vs => (match vs with | [(_, x0), (_, x1), (_, x2)] => [x0, x1, Value.slice none 0 0, x2, Value.slice none 0 0, Value.slice none 0 0] | _ => [])) rfl (fun w => by kernel_rfl)) (h:=?_); (try simp only [Value.cells]); (try simp only [zzC, zzN])) <;> (try refine q_r 16 ?_; (refine q_W ?_); refine h2a c_9 ?_) <;> (try refine h2e (by kernel_rfl) ?_))))))) | (refine TagB.mk ?_; (((refine q_c 16 (c:=by apply hac) (h:=?_); rintro _ _ ⟨act, rfl, hact, rfl⟩; (try simp only [zzE, zzF])); refine h2a c_9 ?_) <;> (try refine h3l (i:=5) (j:=15) rfl rfl (by kernel_rfl) ?_ ?_ <;> (first | (refine TagA.mk ?_; (((refine q_k (by apply h2b (t:=9); exact rfl; exact fd0; kernel_rfl; kernel_rfl; (with_reducible assumption)) ?_); refine h2a c_9 ?_) <;> (try refine q_t 14 (e:=c_9) (x:=by exact h0v (t:=30) (fun vs => (match vs with | [(_, x0), (_, x1), (_, x2)] => [x0, x1, Value.slice none 0 0, x2, Value.slice none 0 0, Value.slice none 0 0] | _ => [])) rfl (fun w => by kernel_rfl)) (h:=?_); (try simp only [Value.cells]); (try simp only [zzC, zzN])) <;> (try refine q_r 15 ?_; (refine h1b (t:=30) rfl Tryd.zeroValue30 ?_; intro nb hnb; (try simp only [Value.cells])); refine h2a c_9 ?_) <;> (try refine q_r 16 ?_; (refine q_W ?_); refine h2a c_9 ?_) <;> (try refine h2e (by kernel_rfl) ?_))) | (refine TagB.mk ?_; (((refine h1b (t:=30) rfl Tryd.zeroValue30 ?_; intro nb hnb; (try simp only [Value.cells])); refine h2a c_9 ?_) <;> (try refine q_r 5 ?_; (refine q_k (by apply h2b (t:=9); exact rfl; exact c_23; kernel_rfl; kernel_rfl; (with_reducible assumption)) ?_); refine h2a c_9 ?_) <;> (try refine q_t 14 (e:=c_9) (x:=by exact h0v (t:=30) (fun vs => (match vs with | [(_, x0), (_, x1), (_, x2)] => [x0, x1, Value.slice none 0 0, x2, Value.slice none 0 0, Value.slice none 0 0] | _ => [])) rfl (fun w => by kernel_rfl)) (h:=?_); (try simp only [Value.cells]); (try simp only [zzC, zzN])) <;> (try refine q_r 16 ?_; (refine q_W ?_); refine h2a c_9 ?_) <;> (try refine h2e (by kernel_rfl) ?_))))))) | (refine TagC.mk ?_; (((refine h1b (t:=30) rfl Tryd.zeroValue30 ?_; intro nb hnb; (try simp only [Value.cells])); refine h2a c_9 ?_) <;> (try refine h3l (i:=5) (j:=10) rfl rfl (by kernel_rfl) ?_ ?_ <;> (first | (refine TagA.mk ?_; (((refine q_k (by apply h2b (t:=9); exact rfl; exact c_23; kernel_rfl; kernel_rfl; (with_reducible assumption)) ?_); refine h2a c_9 ?_) <;> (try refine q_r 10 ?_; (refine q_c 16 (c:=by apply hac) (h:=?_); rintro _ _ ⟨act, rfl, hact, rfl⟩; (try simp only [zzE, zzF])); refine h2a c_9 ?_) <;> (try refine q_t 14 (e:=c_9) (x:=by exact h0v (t:=30) (fun vs => (match vs with | [(_, x0), (_, x1), (_, x2)] => [x0, x1, Value.slice none 0 0, x2, Value.slice none 0 0, Value.slice none 0 0] | _ => [])) rfl (fun w => by kernel_rfl)) (h:=?_); (try simp only [Value.cells]); (try simp only [zzC, zzN])) <;> (try refine q_r 16 ?_; (refine q_W ?_); refine h2a c_9 ?_) <;> (try refine h2e (by kernel_rfl) ?_))) | (refine TagB.mk ?_; (((refine q_c 16 (c:=by apply hac) (h:=?_); rintro _ _ ⟨act, rfl, hact, rfl⟩; (try simp only [zzE, zzF])); refine h2a c_9 ?_) <;> (try refine q_r 5 ?_; (refine q_k (by apply h2b (t:=9); exact rfl; exact c_23; kernel_rfl; kernel_rfl; (with_reducible assumption)) ?_); refine h2a c_9 ?_) <;> (try refine q_t 14 (e:=c_9) (x:=by exact h0v (t:=30) (fun vs => (match vs with | [(_, x0), (_, x1), (_, x2)] => [x0, x1, Value.slice none 0 0, x2, Value.slice none 0 0, Value.slice none 0 0] | _ => [])) rfl (fun w => by kernel_rfl)) (h:=?_); (try simp only [Value.cells]); (try simp only [zzC, zzN])) <;> (try refine q_r 16 ?_; (refine q_W ?_); refine h2a c_9 ?_) <;> (try refine h2e (by kernel_rfl) ?_))))))))))) | (refine TagB.mk ?_; (((refine q_c 16 (c:=by apply hac) (h:=?_); rintro _ _ ⟨act, rfl, hact, rfl⟩; (try simp only [zzE, zzF])); refine h2a (fun _ H => H) ?_) <;> (try refine h3l (i:=0) (j:=15) rfl rfl (by kernel_rfl) ?_ ?_ <;> (first | (refine TagA.mk ?_; (((refine h0w (t:=89) (m:=3) (e:=9) (fun vs => (match vs with | [(_, x0), (_, x1), (_, x2)] => [x0, x1, x2] | _ => [])) rfl rfl (fun w => by kernel_rfl) ?_; intro nb hnb; (try simp only [Value.cells]); (try simp only [zzC, zzN])); refine h2a c_9 ?_) <;> (try refine q_t 4 (e:=c_9) (x:=by apply h0s; exact rfl; exact rfl; (focus (apply h2h Tryd.underlying89 sz_9; omega; omega; exact c_1))) (h:=?_)) <;> (try refine h3l (i:=5) (j:=15) rfl rfl (by kernel_rfl) ?_ ?_ <;> (first | (refine TagA.mk ?_; (((refine q_k (by apply h2b (t:=9); exact rfl; exact fd0; kernel_rfl; kernel_rfl; (with_reducible assumption)) ?_); refine h2a c_9 ?_) <;> (try refine q_t 14 (e:=c_9) (x:=by exact h0v (t:=30) (fun vs => (match vs with | [(_, x0), (_, x1), (_, x2)] => [x0, x1, Value.slice none 0 0, x2, Value.slice none 0 0, Value.slice none 0 0] | _ => [])) rfl (fun w => by kernel_rfl)) (h:=?_); (try simp only [Value.cells]); (try simp only [zzC, zzN])) <;> (try refine q_r 15 ?_; (refine h1b (t:=30) rfl Tryd.zeroValue30 ?_; intro nb hnb; (try simp only [Value.cells])); refine h2a c_9 ?_) <;> (try refine q_r 16 ?_; (refine q_W ?_); refine h2a c_9 ?_) <;> (try refine h2e (by kernel_rfl) ?_))) | (refine TagB.mk ?_; (((refine h1b (t:=30) rfl Tryd.zeroValue30 ?_; intro nb hnb; (try simp only [Value.cells])); refine h2a c_9 ?_) <;> (try refine q_r 5 ?_; (refine q_k (by apply h2b (t:=9); exact rfl; exact c_23; kernel_rfl; kernel_rfl; (with_reducible assumption)) ?_); refine h2a c_9 ?_) <;> (try refine q_t 14 (e:=c_9) (x:=by exact h0v (t:=30) (fun vs => (match vs with | [(_, x0), (_, x1), (_, x2)] => [x0, x1, Value.slice none 0 0, x2, Value.slice none 0 0, Value.slice none 0 0] | _ => [])) rfl (fun w => by kernel_rfl)) (h:=?_); (try simp only [Value.cells]); (try simp only [zzC, zzN])) <;> (try refine q_r 16 ?_; (refine q_W ?_); refine h2a c_9 ?_) <;> (try refine h2e (by kernel_rfl) ?_))))))) | (refine TagB.mk ?_; (((refine h1b (t:=30) rfl Tryd.zeroValue30 ?_; intro nb hnb; (try simp only [Value.cells])); refine h2a c_9 ?_) <;> (try refine q_r 0 ?_; (refine h0w (t:=89) (m:=3) (e:=9) (fun vs => (match vs with | [(_, x0), (_, x1), (_, x2)] => [x0, x1, x2] | _ => [])) rfl rfl (fun w => by kernel_rfl) ?_; intro nb hnb; (try simp only [Value.cells]); (try simp only [zzC, zzN])); refine h2a c_9 ?_) <;> (try refine q_t 4 (e:=c_9) (x:=by apply h0s; exact rfl; exact rfl; (focus (apply h2h Tryd.underlying89 sz_9; omega; omega; exact c_1))) (h:=?_)) <;> (try refine q_r 5 ?_; (refine q_k (by apply h2b (t:=9); exact rfl; exact fd0; kernel_rfl; kernel_rfl; (with_reducible assumption)) ?_); refine h2a c_9 ?_) <;> (try refine q_t 14 (e:=c_9) (x:=by exact h0v (t:=30) (fun vs => (match vs with | [(_, x0), (_, x1), (_, x2)] => [x0, x1, Value.slice none 0 0, x2, Value.slice none 0 0, Value.slice none 0 0] | _ => [])) rfl (fun w => by kernel_rfl)) (h:=?_); (try simp only [Value.cells]); (try simp only [zzC, zzN])) <;> (try refine q_r 16 ?_; (refine q_W ?_); refine h2a c_9 ?_) <;> (try refine h2e (by kernel_rfl) ?_))))))) | (refine TagC.mk ?_; (((refine h1b (t:=30) rfl Tryd.zeroValue30 ?_; intro nb hnb; (try simp only [Value.cells])); refine h2a c_9 ?_) <;> (try refine h3l (i:=0) (j:=10) rfl rfl (by kernel_rfl) ?_ ?_ <;> (first | (refine TagA.mk ?_; (((refine h0w (t:=89) (m:=3) (e:=9) (fun vs => (match vs with | [(_, x0), (_, x1), (_, x2)] => [x0, x1, x2] | _ => [])) rfl rfl (fun w => by kernel_rfl) ?_; intro nb hnb; (try simp only [Value.cells]); (try simp only [zzC, zzN])); refine h2a c_9 ?_) <;> (try refine q_t 4 (e:=c_9) (x:=by apply h0s; exact rfl; exact rfl; (focus (apply h2h Tryd.underlying89 sz_9; omega; omega; exact c_1))) (h:=?_)) <;> (try refine h3l (i:=5) (j:=10) rfl rfl (by kernel_rfl) ?_ ?_ <;> (first | (refine TagA.mk ?_; (((refine q_k (by apply h2b (t:=9); exact rfl; exact fd0; kernel_rfl; kernel_rfl; (with_reducible assumption)) ?_); refine h2a c_9 ?_) <;> (try refine q_r 10 ?_; (refine q_c 16 (c:=by apply hac) (h:=?_); rintro _ _ ⟨act, rfl, hact, rfl⟩; (try simp only [zzE, zzF])); refine h2a c_9 ?_) <;> (try refine q_t 14 (e:=c_9) (x:=by exact h0v (t:=30) (fun vs => (match vs with | [(_, x0), (_, x1), (_, x2)] => [x0, x1, Value.slice none 0 0, x2, Value.slice none 0 0, Value.slice none 0 0] | _ => [])) rfl (fun w => by kernel_rfl)) (h:=?_); (try simp only [Value.cells]); (try simp only [zzC, zzN])) <;> (try refine q_r 16 ?_; (refine q_W ?_); refine h2a c_9 ?_) <;> (try refine h2e (by kernel_rfl) ?_))) | (refine TagB.mk ?_; (((refine q_c 16 (c:=by apply hac) (h:=?_); rintro _ _ ⟨act, rfl, hact, rfl⟩; (try simp only [zzE, zzF])); refine h2a c_9 ?_) <;> (try refine q_r 5 ?_; (refine q_k (by apply h2b (t:=9); exact rfl; exact fd0; kernel_rfl; kernel_rfl; (with_reducible assumption)) ?_); refine h2a c_9 ?_) <;> (try refine q_t 14 (e:=c_9) (x:=by exact h0v (t:=30) (fun vs => (match vs with | [(_, x0), (_, x1), (_, x2)] => [x0, x1, Value.slice none 0 0, x2, Value.slice none 0 0, Value.slice none 0 0] | _ => [])) rfl (fun w => by kernel_rfl)) (h:=?_); (try simp only [Value.cells]); (try simp only [zzC, zzN])) <;> (try refine q_r 16 ?_; (refine q_W ?_); refine h2a c_9 ?_) <;> (try refine h2e (by kernel_rfl) ?_))))))) | (refine TagB.mk ?_; (((refine q_c 16 (c:=by apply hac) (h:=?_); rintro _ _ ⟨act, rfl, hact, rfl⟩; (try simp only [zzE, zzF])); refine h2a c_9 ?_) <;> (try refine q_r 0 ?_; (refine h0w (t:=89) (m:=3) (e:=9) (fun vs => (match vs with | [(_, x0), (_, x1), (_, x2)] => [x0, x1, x2] | _ => [])) rfl rfl (fun w => by kernel_rfl) ?_; intro nb hnb; (try simp only [Value.cells]); (try simp only [zzC, zzN])); refine h2a c_9 ?_) <;> (try refine q_t 4 (e:=c_9) (x:=by apply h0s; exact rfl; exact rfl; (focus (apply h2h Tryd.underlying89 sz_9; omega; omega; exact c_1))) (h:=?_)) <;> (try refine q_r 5 ?_; (refine q_k (by apply h2b (t:=9); exact rfl; exact fd0; kernel_rfl; kernel_rfl; (with_reducible assumption)) ?_); refine h2a c_9 ?_) <;> (try refine q_t 14 (e:=c_9) (x:=by exact h0v (t:=30) (fun vs => (match vs with | [(_, x0), (_, x1), (_, x2)] => [x0, x1, Value.slice none 0 0, x2, Value.slice none 0 0, Value.slice none 0 0] | _ => [])) rfl (fun w => by kernel_rfl)) (h:=?_); (try simp only [Value.cells]); (try simp only [zzC, zzN])) <;> (try refine q_r 16 ?_; (refine q_W ?_); refine h2a c_9 ?_) <;> (try refine h2e (by kernel_rfl) ?_)))))))))))
  all_goals exact h1p (_, act) hact (by (focus (repeat (first | exact Sub.nil | refine Sub.cons rfl ?_)))) c_15
 clear hac hrc hn0 hn0'
 rintro ⟨n4, act⟩ ⟨hact0, hact⟩
 dsimp only
 rw [show iand ((hd : Nat) : Int) 51199 = ((hd &&& 51199 : Nat) : Int) from rfl]
 have hhd2 : hd &&& 51199 < 65536 := by have := Nat.and_le_left (n:=hd) (m:=51199); omega
 repeat' (first | (refine h2g (id:=0) ?_) | refine h0t ?_ | refine h0e ?_ | (refine gR 3 (p_e (q_f fo_35_3) (h:=p_e q_l (h:=p_e (by apply h0h; exact rfl; exact (fun _ => BigFrame.builtin_len ..); apply h0j Tryd.underlying31; exact h3d) (h:=p_m (h:=h0a ?_)))))))
 refine ⟨?_⟩
 refine h4e (γ:=SmG) (SmI 12) (fun _ => []) [(1, _), (2, _), (4, _)]
  (fun g => g.er ++ (pcB n4 (mB8 n0) act g.vr (hd &&& 51199) (.slice none 0 0) (.slice none 0 0) :: ⟨true, n2, .cells #[.string ⟨#[]⟩, .int .u32 0, .slice none 0 0, .int .u16 0, .slice none 0 0, .slice none 0 0] 30 (0, 0)⟩ :: smB n1 nm df en (.slice ra rules.length rc) hd (.slice pa paths.length pc) (.slice ga rights.length gc) (.slice qa ports.length qc) :: (g.ec ++ L))) (.cons rfl (.cons rfl (.cons rfl .nil))) ?_ ?_
 ·refine h0o ?_
  refine h2i (γ:=SmG) (SmI rules.length) (fun g => rules.length - g.k) (fun g => [(40, .int .i64 (g.k : Nat))]) [(1, _), (2, _), (3, _), (4, _), (38, _), (39, _)]
   (fun g => g.er ++ (pcB n4 (mB8 n0) act g.vr (hd &&& 51199) (.slice none 0 0) (.slice none 0 0) :: ⟨true, nbC, .cells callC.toArray 95 (0, 0)⟩ :: ⟨true, n2, .cells #[.string ⟨#[]⟩, .int .u32 0, .slice none 0 0, .int .u16 0, .slice none 0 0, .slice none 0 0] 30 (0, 0)⟩ :: smB n1 nm df en (.slice ra rules.length rc) hd (.slice pa paths.length pc) (.slice ga rights.length gc) (.slice qa ports.length qc) :: (g.ec ++ L))) ⟨0, [], [], .slice none 0 0, [], []⟩ (.cons rfl (.cons rfl (.cons rfl (.cons rfl (.cons rfl (.cons rfl .nil)))))) ⟨Nat.zero_le _, rfl, Nat.zero_le _, .nil, Own.nil _ _, fun _ h => by cases h⟩ (by (focus (repeat (first | exact Sub.nil | refine Sub.cons rfl ?_)))) (fun _ H => H) ?_
  rintro ⟨k, rs, cz, vr, er, ec⟩ ⟨hk, hlen, hk2, hrsR, hown, hok⟩
  dsimp only at hk hlen hk2 hrsR hown hok ⊢
  by_cases hlt : k < rules.length
  case neg =>
   obtain ⟨va, vc, rfl, -⟩ := hown.sli []
   repeat' (first | refine h0t ?_ | refine h0e ?_ | refine h1d ?_ | refine h1w ?_ | refine h1o ?_ | refine h1v ?_ | refine h2j ?_ | refine h0m rfl ?_ | (refine gR 4 (p_e (q_b (r:=by exact h0r q_o)) (h:=h0a ?_))))
   exact h1p ⟨k, rs, cz, _, er, ec⟩ ⟨hk2, hlen, hk2, hrsR, hown, hok⟩ (by (focus (repeat (first | exact Sub.nil | refine Sub.cons rfl ?_)))) (by intro w H; refine Sel.out ?_ H; (try simp only [List.cons_append, List.nil_append, List.append_assoc]); repeat (first | exact Sel.refl _ | exact Sel.nil _ | (with_reducible apply Sel.appS) | (apply Sel.cons; (focus (repeat (first | exact fd0 | (with_reducible assumption) | apply fdA | apply fdS))); (try simp only [zzE, zzF])) | apply Sel.drop | apply Sel.dropA))
  obtain ⟨j, q, bb, off, cs, T, fr, rfl, hj, hsz, hx⟩ := hrs.elem hlt
  obtain ⟨v, hv, hcs⟩ := hrg.at_ k hlt
  rw [hv] at hx
  have hrk := hrules _ (List.getElem_mem hlt)
  obtain ⟨ca, cc, rfl, hsc, hcl⟩ := hcs
  clear hv
  generalize rules[k] = r at *
  obtain ⟨rc1, ra1, re1, cds⟩ := r
  obtain ⟨hr1, hr2, hr3, hr4⟩ := hrk
  dsimp only at *
  obtain ⟨num, hnu, hnc, hnl⟩ := callC_at (rc1 % 30).toNat (by omega)
  have hac := fun (L : List Blk) => action_s (S:=S) (w0:=w0) (L:=L) ra1 re1 hr2 hr3
  obtain ⟨va, vc, rfl, -⟩ := hown.sli []
  have hcz : callC.toArray.size = 90 := by kernel_rfl
  generalize callC.toArray = CC at *
  by_cases h12 : 12 ≤ k
  ·repeat' (first | refine h0t ?_ | refine h0e ?_ | refine h1d ?_ | refine h1w ?_ | refine h1o ?_ | refine h1v ?_ | refine G_blk_y rfl ?_ | refine h0o ?_ | refine h1a ?_ | refine h2j ?_ | refine h0l rfl ?_ | (refine gR 4 (p_e (q_b (r:=by exact h0q q_o)) (h:=h0a ?_))) | (refine gR 5 (p_m (h:=p_e (by apply h0s; exact rfl; exact rfl; (focus (apply h2h Tryd.underlying31 sz_93; omega; omega; exact c_1))) (h:=q_e (by apply h1r (t:=93); exact rfl; (focus (repeat (first | (with_reducible assumption) | apply fdA | apply fdS))); kernel_rfl; kernel_rfl; exact sz_93; (with_reducible assumption); (with_reducible assumption)) ?_))) <;> (try refine h0b ?_; (refine h1b (t:=93) rfl Tryd.zeroValue93 ?_; intro nb hnb; (try simp only [Value.cells]))) <;> (try refine q_a ?_) <;> (try refine h0b ?_; (refine q_W ?_)) <;> (try refine h0a ?_)) | (refine gR 6 (p_m (h:=p_e (q_b (r:=by exact h3h q_o)) (h:=h0a ?_)))))
   exact h1p ⟨k, rs, cz, _, er, ec⟩ ⟨hk2, hlen, hk2, hrsR, hown, hok⟩ (by (focus (repeat (first | exact Sub.nil | refine Sub.cons rfl ?_)))) (by intro w H; refine Sel.out ?_ H; (try simp only [List.cons_append, List.nil_append, List.append_assoc]); repeat (first | exact Sel.refl _ | exact Sel.nil _ | (with_reducible apply Sel.appS) | (apply Sel.cons; (focus (repeat (first | exact fd0 | (with_reducible assumption) | apply fdA | apply fdS))); (try simp only [zzE, zzF])) | apply Sel.drop | apply Sel.dropA))
  repeat' (first | (refine h4o (id:=7) ?_) | refine h0t ?_ | refine h0e ?_ | refine h0o ?_ | refine h1a ?_ | refine h0l rfl ?_ | refine h0m rfl ?_ | (refine gR 4 (p_e (q_b (r:=by exact h0q q_o)) (h:=h0a ?_))) | (refine gR 5 (p_m (h:=p_e (by apply h0s; exact rfl; exact rfl; (focus (apply h2h Tryd.underlying31 sz_93; omega; omega; exact c_1))) (h:=q_e (by apply h1r (t:=93); exact rfl; (focus (repeat (first | (with_reducible assumption) | apply fdA | apply fdS))); kernel_rfl; kernel_rfl; exact sz_93; (with_reducible assumption); (with_reducible assumption)) ?_))) <;> (try refine h0b ?_; (refine h1b (t:=93) rfl Tryd.zeroValue93 ?_; intro nb hnb; (try simp only [Value.cells]))) <;> (try refine q_a ?_) <;> (try refine h0b ?_; (refine q_W ?_)) <;> (try refine h0a ?_)) | (refine gR 6 (p_m (h:=p_e (q_b (r:=by exact h3n q_o)) (h:=h0a ?_)))))
  refine ⟨?_⟩
  obtain ⟨n6, rfl⟩ : ∃ x, x = nb := ⟨_, rfl⟩
  refine h4e (γ:=Nat × Int) (fun g => 0 ≤ g.2 ∧ h4b g.2 = true) (fun g => [(7, .pointer (some ⟨g.1, 0, none⟩))]) [(1, _), (2, _), (3, _), (4, _), (6, _), (38, _), (39, _), (40, _)]
   (fun g => rlB g.1 (num : Nat) g.2 (.slice none 0 0) :: ⟨true, n6, .cells #[.int .u8 rc1, .int .u8 ra1, .int .u8 re1, .slice ca cds.length cc] 93 (0, 0)⟩ :: (er ++ (pcB n4 (mB8 n0) act (.slice va rs.length vc) (hd &&& 51199) (.slice none 0 0) (.slice none 0 0) :: ⟨true, nbC, .cells CC 95 (0, 0)⟩ :: ⟨true, n2, .cells #[.string ⟨#[]⟩, .int .u32 0, .slice none 0 0, .int .u16 0, .slice none 0 0, .slice none 0 0] 30 (0, 0)⟩ :: smB n1 nm df en (.slice (some ⟨bb, off, none⟩) rules.length rc) hd (.slice pa paths.length pc) (.slice ga rights.length gc) (.slice qa ports.length qc) :: (ec ++ L)))) (.cons rfl (.cons rfl (.cons rfl (.cons rfl (.cons rfl (.cons rfl (.cons rfl (.cons rfl .nil)))))))) ?_ ?_
  ·repeat' (first | refine h1d ?_ | ((refine h2s (id:=7) (m:=19) (by kernel_rfl) rfl (q_u 0 (x:=by exact h0g rfl) (h:=q_u 1 (x:=by exact q_f fo_93_0) (h:=q_u 2 (x:=by exact q_l) (h:=?_))))) <;> (try refine q_u 3 (x:=by apply h3c; exact rfl; (focus (apply h3a Tryd.underlying5 Tryd.underlying3; first | (refine IntWalk.i64_in _ ?_; omega) | (refine IntWalk.u8_in _ ?_; omega) | (refine IntWalk.u16_in _ ?_; omega) | (refine IntWalk.u32_in _ ?_; omega) | (refine IntWalk.u64_in _ ?_; omega) | (refine IntWalk.i32_in _ ?_; omega) | exact rfl))) (h:=?_)) <;> (try refine q_u 4 (x:=by exact h0g rfl) (h:=q_u 5 (x:=by apply h0h; exact rfl; exact (fun _ => BigFrame.builtin_len ..); apply h0j Tryd.underlying87; exact h3d) (h:=q_u 6 (x:=by exact q_b (r:=by apply h4i; omega; omega; exact c_4)) (h:=q_u 7 (x:=by apply h0s; exact rfl; exact rfl; (focus (apply h2h Tryd.underlying87 sz_95; omega; omega; exact c_1))) (h:=q_u 8 (x:=by exact q_g fo_95_0) (h:=q_u 9 (x:=by apply h2b (t:=3); exact rfl; (focus (repeat (first | exact fd0 | apply fdA | apply fdS))); kernel_rfl; kernel_rfl; (with_reducible assumption)) (h:=?_))))))) <;> (try refine q_u 10 (x:=by apply h3c; exact rfl; (focus (apply h3a Tryd.underlying3 Tryd.underlying22; first | (refine IntWalk.i64_in _ ?_; omega) | (refine IntWalk.u8_in _ ?_; omega) | (refine IntWalk.u16_in _ ?_; omega) | (refine IntWalk.u32_in _ ?_; omega) | (refine IntWalk.u64_in _ ?_; omega) | (refine IntWalk.i32_in _ ?_; omega) | exact rfl))) (h:=?_)) <;> (try refine q_u 11 (x:=by exact q_f fo_93_1) (h:=q_u 12 (x:=by exact q_l) (h:=q_u 13 (x:=by exact q_f fo_93_2) (h:=q_u 14 (x:=by exact q_l) (h:=?_))))) <;> (try refine h3l (i:=15) (j:=17) rfl rfl (by kernel_rfl) ?_ ?_ <;> (first | (refine TagA.mk ?_; (((refine q_c 16 (c:=by apply hac) (h:=?_); rintro _ _ ⟨a2, rfl, ha2, rfl⟩; (try simp only [zzE, zzF])); refine h2a (fun _ H => H) ?_) <;> (try refine q_u 16 (x:=by exact h0v (t:=47) (fun vs => (match vs with | [(_, x0), (_, x1)] => [x0, x1, Value.slice none 0 0] | _ => [])) rfl (fun w => by kernel_rfl)) (h:=?_); (try simp only [Value.cells]); (try simp only [zzC, zzN])) <;> (try refine q_r 17 ?_; (refine h1b (t:=47) rfl Tryd.zeroValue47 ?_; intro nb hnb; (try simp only [Value.cells])); refine h2a c_9 ?_) <;> (try refine q_r 18 ?_; (refine q_W ?_); refine h2a c_9 ?_) <;> (try refine h2e (by kernel_rfl) ?_))) | (refine TagB.mk ?_; (((refine h1b (t:=47) rfl Tryd.zeroValue47 ?_; intro nb hnb; (try simp only [Value.cells])); refine h2a c_9 ?_) <;> (try refine q_r 15 ?_; (refine q_c 16 (c:=by apply hac) (h:=?_); rintro _ _ ⟨a2, rfl, ha2, rfl⟩; (try simp only [zzE, zzF])); refine h2a c_9 ?_) <;> (try refine q_t 16 (e:=c_9) (x:=by exact h0v (t:=47) (fun vs => (match vs with | [(_, x0), (_, x1)] => [x0, x1, Value.slice none 0 0] | _ => [])) rfl (fun w => by kernel_rfl)) (h:=?_); (try simp only [Value.cells]); (try simp only [zzC, zzN])) <;> (try refine q_r 18 ?_; (refine q_W ?_); refine h2a c_9 ?_) <;> (try refine h2e (by kernel_rfl) ?_)))))))
   all_goals exact h1p (_, a2) ha2 (by (focus (repeat (first | exact Sub.nil | refine Sub.cons rfl ?_)))) c_21
  clear hac hnu hx
  rintro ⟨n7, a2⟩ ⟨ha20, ha2⟩
  dsimp only
  repeat' (first | (refine h2g (id:=2) ?_) | refine h0t ?_ | refine h0e ?_ | (refine gR 8 (p_e (q_f fo_93_3) (h:=p_e q_l (h:=p_e (by apply h0h; exact rfl; exact (fun _ => BigFrame.builtin_len ..); apply h0j Tryd.underlying91; exact h3d) (h:=p_m (h:=h0a ?_)))))))
  refine ⟨?_⟩
  refine h4e (γ:=List Cnd × Value × List Blk) (fun g => Own 39 4 g.2.1 g.1.length (cndC g.1) g.2.2 ∧ g.1.length ≤ 4 ∧ ∀ c ∈ g.1, CndG c) (fun _ => []) [(1, _), (2, _), (3, _), (4, _), (7, _), (38, _), (39, _), (40, _)]
   (fun g => g.2.2 ++ (rlB n7 (num : Nat) a2 g.2.1 :: (er ++ (pcB n4 (mB8 n0) act (.slice va rs.length vc) (hd &&& 51199) (.slice none 0 0) (.slice none 0 0) :: ⟨true, nbC, .cells CC 95 (0, 0)⟩ :: ⟨true, n2, .cells #[.string ⟨#[]⟩, .int .u32 0, .slice none 0 0, .int .u16 0, .slice none 0 0, .slice none 0 0] 30 (0, 0)⟩ :: smB n1 nm df en (.slice (some ⟨bb, off, none⟩) rules.length rc) hd (.slice pa paths.length pc) (.slice ga rights.length gc) (.slice qa ports.length qc) :: (ec ++ L))))) (.cons rfl (.cons rfl (.cons rfl (.cons rfl (.cons rfl (.cons rfl (.cons rfl (.cons rfl .nil)))))))) ?_ ?_
  ·refine h0o ?_
   refine h2i (γ:=Nat × List Cnd × Value × List Blk) (fun g => g.1 ≤ cds.length ∧ Own 39 4 g.2.2.1 g.2.1.length (cndC g.2.1) g.2.2.2 ∧ g.2.1.length = min g.1 4 ∧ ∀ c ∈ g.2.1, CndG c) (fun g => cds.length - g.1) (fun g => [(67, .int .i64 (g.1 : Nat))]) [(1, _), (2, _), (3, _), (4, _), (7, _), (38, _), (39, _), (40, _), (65, _), (66, _)]
    (fun g => g.2.2.2 ++ (rlB n7 (num : Nat) a2 g.2.2.1 :: (er ++ (pcB n4 (mB8 n0) act (.slice va rs.length vc) (hd &&& 51199) (.slice none 0 0) (.slice none 0 0) :: ⟨true, nbC, .cells CC 95 (0, 0)⟩ :: ⟨true, n2, .cells #[.string ⟨#[]⟩, .int .u32 0, .slice none 0 0, .int .u16 0, .slice none 0 0, .slice none 0 0] 30 (0, 0)⟩ :: smB n1 nm df en (.slice (some ⟨bb, off, none⟩) rules.length rc) hd (.slice pa paths.length pc) (.slice ga rights.length gc) (.slice qa ports.length qc) :: (ec ++ L))))) (0, [], .slice none 0 0, []) (.cons rfl (.cons rfl (.cons rfl (.cons rfl (.cons rfl (.cons rfl (.cons rfl (.cons rfl (.cons rfl (.cons rfl .nil)))))))))) ⟨Nat.zero_le _, Own.nil _ _, rfl, fun _ h => by cases h⟩ (by (focus (repeat (first | exact Sub.nil | refine Sub.cons rfl ?_)))) c_17 ?_
   rintro ⟨j, cs, v, e⟩ ⟨hj2, hown2, hl2', hcg⟩
   dsimp only at hj2 hown2 hl2' hcg ⊢
   by_cases hlt2 : j < cds.length
   case neg =>
    obtain ⟨sa, sc, rfl, -⟩ := hown2.sli []
    repeat' (first | refine h0t ?_ | refine h0e ?_ | refine h1d ?_ | refine h1w ?_ | refine h1o ?_ | refine h1v ?_ | refine h2j ?_ | refine h0m rfl ?_ | (refine gR 9 (p_e (q_b (r:=by exact h0r q_o)) (h:=h0a ?_))))
    exact h1p (cs, _, e) ⟨hown2, by dsimp only; omega, hcg⟩ (by (focus (repeat (first | exact Sub.nil | refine Sub.cons rfl ?_)))) (by intro w H; refine Sel.out ?_ H; (try simp only [List.cons_append, List.nil_append, List.append_assoc]); repeat (first | exact Sel.refl _ | exact Sel.nil _ | (with_reducible apply Sel.appS) | (apply Sel.cons; (focus (repeat (first | exact fd0 | (with_reducible assumption) | apply fdA | apply fdS))); (try simp only [zzE, zzF])) | apply Sel.drop | apply Sel.dropA))
   obtain ⟨j3, q3, bb3, off3, cs3, T3, fr3, rfl, hj3, hsz3, hx3⟩ := hsc.elem hlt2
   rw [scC_at _ _ hlt2] at hx3
   have hcj := hr4 _ (List.getElem_mem hlt2)
   generalize cds[j] = cd at *
   obtain ⟨xa, xo, xm, xv⟩ := cd
   obtain ⟨y1, y2, y3, y4⟩ := hcj
   dsimp only at y1 y2 y3 y4 hx3
   have hcd := fun (L : List Blk) => cond_s (S:=S) (w0:=w0) (L:=L) xa xo xm xv y1 y2 y3 y4
   unfold maxLen at hcl
   by_cases hj4 : j < 4
   case neg =>
    obtain ⟨sa, sc, rfl, -⟩ := hown2.sli []
    repeat' (first | refine h0t ?_ | refine h0e ?_ | refine h1d ?_ | refine h1h ?_ | refine h0o ?_ | refine h1a ?_ | refine h0l rfl ?_ | refine h0m rfl ?_ | (refine gR 9 (p_e (q_b (r:=by exact h0q q_o)) (h:=h0a ?_))) | (refine gR 10 (p_m (h:=p_e (by apply h0s; exact rfl; exact rfl; (focus (apply h2h Tryd.underlying91 sz_97; omega; omega; exact c_1))) (h:=q_e (by apply h1r (t:=97); exact rfl; (focus (repeat (first | (with_reducible assumption) | apply fdA | apply fdS))); kernel_rfl; kernel_rfl; exact sz_97; (with_reducible assumption); (with_reducible assumption)) ?_))) <;> (try refine h0b ?_; (refine h1b (t:=97) rfl Tryd.zeroValue97 ?_; intro nb hnb; (try simp only [Value.cells]))) <;> (try refine q_a ?_) <;> (try refine h0b ?_; (refine q_W ?_)) <;> (try refine h0a ?_)) | (refine gR 11 (p_m (h:=p_e (q_b (r:=by exact h0r q_o)) (h:=h0a ?_)))) | (refine gR 13 ?_ <;> (try refine q_e (q_b (r:=by apply h1q; exact c_4; (focus (refine IntWalk.i64_in _ ?_; omega)))) ?_) <;> (try refine p_m (h:=h0a ?_))))
    exact h1p (j + 1, cs, _, e) ⟨⟨by show j + 1 ≤ _; omega, hown2, by show cs.length = min (j + 1) 4; omega, hcg⟩, by show _ - (j + 1) < _ - j; omega⟩ (by (focus (repeat (first | exact Sub.nil | refine Sub.cons rfl ?_)))) (by intro w H; refine Sel.out ?_ H; (try simp only [List.cons_append, List.nil_append, List.append_assoc]); repeat (first | exact Sel.refl _ | exact Sel.nil _ | (with_reducible apply Sel.appS) | (apply Sel.cons; (focus (repeat (first | exact fd0 | (with_reducible assumption) | apply fdA | apply fdS))); (try simp only [zzE, zzF])) | apply Sel.drop | apply Sel.dropA))
   have hfi : ∀ (c : Cnd) v e, Own 39 4 v (cs.length + 1) (cndC cs ++ c.cells) e → Own 39 4 v (cs ++ [c]).length (cndC (cs ++ [c])) e := fun c v e h => by
    rw [cndC_snoc, List.length_append]; exact h
   have hl3' : ∀ c : Cnd, (cs ++ [c]).length = min (j + 1) 4 := fun c => by rw [List.length_append, hl2']; simp only [List.length_cons, List.length_nil]; omega
   rcases h4l hown2 with ⟨rfl, h0, hx, rfl⟩ | ⟨g, capg, cur, rfl, rfl, q1, q2, q3, q4⟩
   ·rw [hx] at hfi
    rw [h0] at hfi
    clear hown2
    (try simp only [zzC, zzN])
    repeat' (first | refine h0t ?_ | refine h0e ?_ | refine h1d ?_ | refine h1h ?_ | refine h0o ?_ | refine h1a ?_ | refine h0l rfl ?_ | (refine gR 9 (p_e (q_b (r:=by exact h0q q_o)) (h:=h0a ?_))) | (refine gR 10 (p_m (h:=p_e (by apply h0s; exact rfl; exact rfl; (focus (apply h2h Tryd.underlying91 sz_97; omega; omega; exact c_1))) (h:=q_e (by apply h1r (t:=97); exact rfl; (focus (repeat (first | (with_reducible assumption) | apply fdA | apply fdS))); kernel_rfl; kernel_rfl; exact sz_97; (with_reducible assumption); (with_reducible assumption)) ?_))) <;> (try refine h0b ?_; (refine h1b (t:=97) rfl Tryd.zeroValue97 ?_; intro nb hnb; (try simp only [Value.cells]))) <;> (try refine q_a ?_) <;> (try refine h0b ?_; (refine q_W ?_)) <;> (try refine h0a ?_)) | (refine gR 11 (p_m (h:=p_e (q_b (r:=by exact h0q q_o)) (h:=h0a ?_)))) | ((refine G_regionHp (pre:=[]) (id:=12) (m:=8) rfl (by kernel_rfl) rfl (q_t 0 (e:=c_7) (x:=by exact q_f h3w) (h:=?_))) <;> (try refine h3l (i:=1) (j:=2) rfl rfl (by kernel_rfl) ?_ ?_ <;> (first | (refine TagA.mk ?_; (((refine q_k q_l ?_); refine h2a c_7 ?_) <;> (try refine q_r 2 ?_; (refine q_k (q_L sz_97) ?_); refine h2a c_7 ?_) <;> (try refine q_r 3 ?_; (refine q_c 17 (c:=by apply hcd) (h:=?_); rintro _ _ ⟨c2, rfl, hc2, rfl⟩; (try simp only [zzE, zzF])); refine h2a c_7 ?_) <;> (try refine q_r 4 ?_; (refine h0w (t:=45) (m:=1) (e:=39) (fun vs => (match vs with | [(_, x0)] => x0.cells.toList | _ => [])) rfl rfl (fun w => by kernel_rfl) ?_; intro nb hnb; (try simp only [Value.cells]); (try simp only [zzC, zzN])); refine h2a c_7 ?_) <;> (try refine q_r 5 ?_; (apply h2k; exact rfl; exact Tryd.underlying45; exact inf_39_i; exact inf_39_z; exact inf_39_s; exact inf_39_b; exact rfl; exact rfl; exact rfl; exact Own.nil _ _; exact fd0; exact Nat.le_of_ble_eq_true rfl; exact c_19; exact rfl; exact c_14; omega; (exact fun _ H => H); exact rfl; exact c_6; exact c_3; intro vA eA hownA; obtain ⟨gA, capA, curA, rfl, rfl, hA1, hA2, hA3, hA4⟩ := hownA.some (by omega); (try simp only [zzC, zzN])); refine h2a c_7 ?_) <;> (try refine q_t 6 (e:=c_7) (x:=by exact q_f h3w) (h:=?_)) <;> (try refine q_r 7 ?_; (refine q_S ?_); refine h2a c_7 ?_) <;> (try refine h2e (by kernel_rfl) ?_))) | (refine TagB.mk ?_; (((refine q_k (q_L sz_97) ?_); refine h2a c_7 ?_) <;> (try refine h3l (i:=1) (j:=3) rfl rfl (by kernel_rfl) ?_ ?_ <;> (first | (refine TagA.mk ?_; (((refine q_k q_l ?_); refine h2a c_7 ?_) <;> (try refine q_r 3 ?_; (refine q_c 17 (c:=by apply hcd) (h:=?_); rintro _ _ ⟨c2, rfl, hc2, rfl⟩; (try simp only [zzE, zzF])); refine h2a c_7 ?_) <;> (try refine q_r 4 ?_; (refine h0w (t:=45) (m:=1) (e:=39) (fun vs => (match vs with | [(_, x0)] => x0.cells.toList | _ => [])) rfl rfl (fun w => by kernel_rfl) ?_; intro nb hnb; (try simp only [Value.cells]); (try simp only [zzC, zzN])); refine h2a c_7 ?_) <;> (try refine q_r 5 ?_; (apply h2k; exact rfl; exact Tryd.underlying45; exact inf_39_i; exact inf_39_z; exact inf_39_s; exact inf_39_b; exact rfl; exact rfl; exact rfl; exact Own.nil _ _; exact fd0; exact Nat.le_of_ble_eq_true rfl; exact c_19; exact rfl; exact c_14; omega; (exact fun _ H => H); exact rfl; exact c_6; exact c_3; intro vA eA hownA; obtain ⟨gA, capA, curA, rfl, rfl, hA1, hA2, hA3, hA4⟩ := hownA.some (by omega); (try simp only [zzC, zzN])); refine h2a c_7 ?_) <;> (try refine q_t 6 (e:=c_7) (x:=by exact q_f h3w) (h:=?_)) <;> (try refine q_r 7 ?_; (refine q_S ?_); refine h2a c_7 ?_) <;> (try refine h2e (by kernel_rfl) ?_))) | (refine TagB.mk ?_; (((refine q_c 17 (c:=by apply hcd) (h:=?_); rintro _ _ ⟨c2, rfl, hc2, rfl⟩; (try simp only [zzE, zzF])); refine h2a c_7 ?_) <;> (try refine h3l (i:=1) (j:=4) rfl rfl (by kernel_rfl) ?_ ?_ <;> (first | (refine TagA.mk ?_; (((refine q_k q_l ?_); refine h2a c_7 ?_) <;> (try refine q_r 4 ?_; (refine h0w (t:=45) (m:=1) (e:=39) (fun vs => (match vs with | [(_, x0)] => x0.cells.toList | _ => [])) rfl rfl (fun w => by kernel_rfl) ?_; intro nb hnb; (try simp only [Value.cells]); (try simp only [zzC, zzN])); refine h2a c_7 ?_) <;> (try refine q_r 5 ?_; (apply h2k; exact rfl; exact Tryd.underlying45; exact inf_39_i; exact inf_39_z; exact inf_39_s; exact inf_39_b; exact rfl; exact rfl; exact rfl; exact Own.nil _ _; exact fd0; exact Nat.le_of_ble_eq_true rfl; exact c_19; exact rfl; exact c_14; omega; (exact fun _ H => H); exact rfl; exact c_6; exact c_3; intro vA eA hownA; obtain ⟨gA, capA, curA, rfl, rfl, hA1, hA2, hA3, hA4⟩ := hownA.some (by omega); (try simp only [zzC, zzN])); refine h2a c_7 ?_) <;> (try refine q_t 6 (e:=c_7) (x:=by exact q_f h3w) (h:=?_)) <;> (try refine q_r 7 ?_; (refine q_S ?_); refine h2a c_7 ?_) <;> (try refine h2e (by kernel_rfl) ?_))) | (refine TagB.mk ?_; (((refine h0w (t:=45) (m:=1) (e:=39) (fun vs => (match vs with | [(_, x0)] => x0.cells.toList | _ => [])) rfl rfl (fun w => by kernel_rfl) ?_; intro nb hnb; (try simp only [Value.cells]); (try simp only [zzC, zzN])); refine h2a c_7 ?_) <;> (try refine q_r 1 ?_; (refine q_k q_l ?_); refine h2a c_7 ?_) <;> (try refine q_r 5 ?_; (apply h2k; exact rfl; exact Tryd.underlying45; exact inf_39_i; exact inf_39_z; exact inf_39_s; exact inf_39_b; exact rfl; exact rfl; exact rfl; exact Own.nil _ _; exact fd0; exact Nat.le_of_ble_eq_true rfl; exact c_19; exact rfl; exact c_14; omega; (exact fun _ H => H); exact rfl; exact c_6; exact c_3; intro vA eA hownA; obtain ⟨gA, capA, curA, rfl, rfl, hA1, hA2, hA3, hA4⟩ := hownA.some (by omega); (try simp only [zzC, zzN])); refine h2a c_7 ?_) <;> (try refine q_t 6 (e:=c_7) (x:=by exact q_f h3w) (h:=?_)) <;> (try refine q_r 7 ?_; (refine q_S ?_); refine h2a c_7 ?_) <;> (try refine h2e (by kernel_rfl) ?_)))))))))))))) | (refine gR 13 ?_ <;> (try refine q_e (q_b (r:=by apply h1q; exact c_4; (focus (refine IntWalk.i64_in _ ?_; omega)))) ?_) <;> (try refine p_m (h:=h0a ?_))))
    all_goals exact h1p (j + 1, cs ++ [c2], _, _) ⟨⟨by show j + 1 ≤ _; omega, hfi c2 _ _ (own_mk (g:=gA) hA1 hA2 hA3 hA4), hl3' c2, h3y hcg hc2⟩, by show _ - (j + 1) < _ - j; omega⟩ (by (focus (repeat (first | exact Sub.nil | refine Sub.cons rfl ?_)))) c_15
   ·rw [← q4] at hfi
    clear hown2
    (try simp only [zzC, zzN])
    repeat' (first | refine h0t ?_ | refine h0e ?_ | refine h1d ?_ | refine h1h ?_ | refine h0o ?_ | refine h1a ?_ | refine h0l rfl ?_ | (refine gR 9 (p_e (q_b (r:=by exact h0q q_o)) (h:=h0a ?_))) | (refine gR 10 (p_m (h:=p_e (by apply h0s; exact rfl; exact rfl; (focus (apply h2h Tryd.underlying91 sz_97; omega; omega; exact c_1))) (h:=q_e (by apply h1r (t:=97); exact rfl; (focus (repeat (first | (with_reducible assumption) | apply fdA | apply fdS))); kernel_rfl; kernel_rfl; exact sz_97; (with_reducible assumption); (with_reducible assumption)) ?_))) <;> (try refine h0b ?_; (refine h1b (t:=97) rfl Tryd.zeroValue97 ?_; intro nb hnb; (try simp only [Value.cells]))) <;> (try refine q_a ?_) <;> (try refine h0b ?_; (refine q_W ?_)) <;> (try refine h0a ?_)) | (refine gR 11 (p_m (h:=p_e (q_b (r:=by exact h0q q_o)) (h:=h0a ?_)))) | ((refine G_regionHp (pre:=[]) (id:=12) (m:=8) rfl (by kernel_rfl) rfl (q_t 0 (e:=c_7) (x:=by exact q_f h3w) (h:=?_))) <;> (try refine h3l (i:=1) (j:=2) rfl rfl (by kernel_rfl) ?_ ?_ <;> (first | (refine TagA.mk ?_; (((refine q_k q_l ?_); refine h2a c_7 ?_) <;> (try refine q_r 2 ?_; (refine q_k (q_L sz_97) ?_); refine h2a c_7 ?_) <;> (try refine q_r 3 ?_; (refine q_c 17 (c:=by apply hcd) (h:=?_); rintro _ _ ⟨c2, rfl, hc2, rfl⟩; (try simp only [zzE, zzF])); refine h2a c_7 ?_) <;> (try refine q_r 4 ?_; (refine h0w (t:=45) (m:=1) (e:=39) (fun vs => (match vs with | [(_, x0)] => x0.cells.toList | _ => [])) rfl rfl (fun w => by kernel_rfl) ?_; intro nb hnb; (try simp only [Value.cells]); (try simp only [zzC, zzN])); refine h2a c_7 ?_) <;> (try refine q_r 5 ?_; (apply h2t; exact rfl; exact Tryd.underlying45; exact inf_39_i; exact inf_39_z; exact inf_39_s; exact inf_39_b; exact rfl; exact rfl; exact rfl; exact c_23; (with_reducible assumption); (with_reducible assumption); (with_reducible assumption); exact fd0; exact Nat.le_of_ble_eq_true rfl; exact c_19; exact rfl; exact c_14; omega; exact rfl; exact c_6; exact c_3; (try simp only [zzE, zzF]); intro vA eA hownA; obtain ⟨gA, capA, curA, rfl, rfl, hA1, hA2, hA3, hA4⟩ := hownA.some (by omega); (try simp only [zzC, zzN])); refine h2a c_7 ?_) <;> (try refine q_t 6 (e:=c_7) (x:=by exact q_f h3w) (h:=?_)) <;> (try refine q_r 7 ?_; (refine q_S ?_); refine h2a c_7 ?_) <;> (try refine h2e (by kernel_rfl) ?_))) | (refine TagB.mk ?_; (((refine q_k (q_L sz_97) ?_); refine h2a c_7 ?_) <;> (try refine h3l (i:=1) (j:=3) rfl rfl (by kernel_rfl) ?_ ?_ <;> (first | (refine TagA.mk ?_; (((refine q_k q_l ?_); refine h2a c_7 ?_) <;> (try refine q_r 3 ?_; (refine q_c 17 (c:=by apply hcd) (h:=?_); rintro _ _ ⟨c2, rfl, hc2, rfl⟩; (try simp only [zzE, zzF])); refine h2a c_7 ?_) <;> (try refine q_r 4 ?_; (refine h0w (t:=45) (m:=1) (e:=39) (fun vs => (match vs with | [(_, x0)] => x0.cells.toList | _ => [])) rfl rfl (fun w => by kernel_rfl) ?_; intro nb hnb; (try simp only [Value.cells]); (try simp only [zzC, zzN])); refine h2a c_7 ?_) <;> (try refine q_r 5 ?_; (apply h2t; exact rfl; exact Tryd.underlying45; exact inf_39_i; exact inf_39_z; exact inf_39_s; exact inf_39_b; exact rfl; exact rfl; exact rfl; exact c_23; (with_reducible assumption); (with_reducible assumption); (with_reducible assumption); exact fd0; exact Nat.le_of_ble_eq_true rfl; exact c_19; exact rfl; exact c_14; omega; exact rfl; exact c_6; exact c_3; (try simp only [zzE, zzF]); intro vA eA hownA; obtain ⟨gA, capA, curA, rfl, rfl, hA1, hA2, hA3, hA4⟩ := hownA.some (by omega); (try simp only [zzC, zzN])); refine h2a c_7 ?_) <;> (try refine q_t 6 (e:=c_7) (x:=by exact q_f h3w) (h:=?_)) <;> (try refine q_r 7 ?_; (refine q_S ?_); refine h2a c_7 ?_) <;> (try refine h2e (by kernel_rfl) ?_))) | (refine TagB.mk ?_; (((refine q_c 17 (c:=by apply hcd) (h:=?_); rintro _ _ ⟨c2, rfl, hc2, rfl⟩; (try simp only [zzE, zzF])); refine h2a c_7 ?_) <;> (try refine h3l (i:=1) (j:=4) rfl rfl (by kernel_rfl) ?_ ?_ <;> (first | (refine TagA.mk ?_; (((refine q_k q_l ?_); refine h2a c_7 ?_) <;> (try refine q_r 4 ?_; (refine h0w (t:=45) (m:=1) (e:=39) (fun vs => (match vs with | [(_, x0)] => x0.cells.toList | _ => [])) rfl rfl (fun w => by kernel_rfl) ?_; intro nb hnb; (try simp only [Value.cells]); (try simp only [zzC, zzN])); refine h2a c_7 ?_) <;> (try refine q_r 5 ?_; (apply h2t; exact rfl; exact Tryd.underlying45; exact inf_39_i; exact inf_39_z; exact inf_39_s; exact inf_39_b; exact rfl; exact rfl; exact rfl; exact c_23; (with_reducible assumption); (with_reducible assumption); (with_reducible assumption); exact fd0; exact Nat.le_of_ble_eq_true rfl; exact c_19; exact rfl; exact c_14; omega; exact rfl; exact c_6; exact c_3; (try simp only [zzE, zzF]); intro vA eA hownA; obtain ⟨gA, capA, curA, rfl, rfl, hA1, hA2, hA3, hA4⟩ := hownA.some (by omega); (try simp only [zzC, zzN])); refine h2a c_7 ?_) <;> (try refine q_t 6 (e:=c_7) (x:=by exact q_f h3w) (h:=?_)) <;> (try refine q_r 7 ?_; (refine q_S ?_); refine h2a c_7 ?_) <;> (try refine h2e (by kernel_rfl) ?_))) | (refine TagB.mk ?_; (((refine h0w (t:=45) (m:=1) (e:=39) (fun vs => (match vs with | [(_, x0)] => x0.cells.toList | _ => [])) rfl rfl (fun w => by kernel_rfl) ?_; intro nb hnb; (try simp only [Value.cells]); (try simp only [zzC, zzN])); refine h2a c_7 ?_) <;> (try refine q_r 1 ?_; (refine q_k q_l ?_); refine h2a c_7 ?_) <;> (try refine q_r 5 ?_; (apply h2t; exact rfl; exact Tryd.underlying45; exact inf_39_i; exact inf_39_z; exact inf_39_s; exact inf_39_b; exact rfl; exact rfl; exact rfl; exact c_23; (with_reducible assumption); (with_reducible assumption); (with_reducible assumption); exact fd0; exact Nat.le_of_ble_eq_true rfl; exact c_19; exact rfl; exact c_14; omega; exact rfl; exact c_6; exact c_3; (try simp only [zzE, zzF]); intro vA eA hownA; obtain ⟨gA, capA, curA, rfl, rfl, hA1, hA2, hA3, hA4⟩ := hownA.some (by omega); (try simp only [zzC, zzN])); refine h2a c_7 ?_) <;> (try refine q_t 6 (e:=c_7) (x:=by exact q_f h3w) (h:=?_)) <;> (try refine q_r 7 ?_; (refine q_S ?_); refine h2a c_7 ?_) <;> (try refine h2e (by kernel_rfl) ?_)))))))))))))) | (refine gR 13 ?_ <;> (try refine q_e (q_b (r:=by apply h1q; exact c_4; (focus (refine IntWalk.i64_in _ ?_; omega)))) ?_) <;> (try refine p_m (h:=h0a ?_))))
    all_goals exact h1p (j + 1, cs ++ [c2], _, _) ⟨⟨by show j + 1 ≤ _; omega, hfi c2 _ _ (own_mk (g:=gA) hA1 hA2 hA3 hA4), hl3' c2, h3y hcg hc2⟩, by show _ - (j + 1) < _ - j; omega⟩ (by (focus (repeat (first | exact Sub.nil | refine Sub.cons rfl ?_)))) c_15
  rintro ⟨cs, v, e⟩ ⟨hown2, hle4, hcg⟩
  dsimp only at hown2 hle4 hcg ⊢
  obtain ⟨sa, sc, rfl, -⟩ := hown2.sli []
  refine h3i (L' := er ++ (rlB n7 (num : Nat) a2 (.slice sa cs.length sc) :: pcB n4 (mB8 n0) act (.slice va rs.length vc) (hd &&& 51199) (.slice none 0 0) (.slice none 0 0) :: ⟨true, nbC, .cells CC 95 (0, 0)⟩ :: ⟨true, n2, .cells #[.string ⟨#[]⟩, .int .u32 0, .slice none 0 0, .int .u16 0, .slice none 0 0, .slice none 0 0] 30 (0, 0)⟩ :: smB n1 nm df en (.slice (some ⟨bb, off, none⟩) rules.length rc) hd (.slice pa paths.length pc) (.slice ga rights.length gc) (.slice qa ports.length qc) :: (e ++ (ec ++ L)))) (fun w H => HP.re2 (env:=[e, [_], er, [_, _, _, _], ec, L]) [0, 1, 2, 3, 4, 5] [2, 1, 3, 0, 4, 5] (by decide) rfl rfl H) ?_
  have hrule : RulOk ⟨(num : Nat), a2, cs⟩ ∧ ∀ c ∈ cs, c.mask ≤ 18446744073709551615 ∧ c.val ≤ 18446744073709551615 := ⟨⟨hnc, ha20, ha2, by dsimp only; omega, fun c hc => (hcg c hc).1⟩, fun c hc => (hcg c hc).2⟩
  have hok' : ∀ r ∈ rs ++ [(⟨(num : Nat), a2, cs⟩ : RulP)], RulOk r ∧ ∀ c ∈ r.conds, c.mask ≤ 18446744073709551615 ∧ c.val ≤ 18446744073709551615 := h3y hok hrule
  have hrs' : RulsR (rs ++ [(⟨(num : Nat), a2, cs⟩ : RulP)]) (cz ++ [.int .u32 (num : Nat), .int .u32 a2, .slice sa cs.length sc]) (e ++ ec) := .snoc hrsR hown2
  have hlen' : (rs ++ [(⟨(num : Nat), a2, cs⟩ : RulP)]).length = k + 1 := by rw [List.length_append, hlen]; rfl
  have hfi : ∀ v' e', Own 47 3 v' (rs.length + 1) (cz ++ [.int .u32 (num : Nat), .int .u32 a2, .slice sa cs.length sc]) e' → Own 47 3 v' (rs ++ [(⟨(num : Nat), a2, cs⟩ : RulP)]).length (cz ++ [.int .u32 (num : Nat), .int .u32 a2, .slice sa cs.length sc]) e' := fun _ _ h => by rw [List.length_append]; exact h
  clear hown2 hcg hrule hrsR hok hle4 hsc
  rcases h4l hown with ⟨hv0, h0, hx, rfl⟩ | ⟨g, capg, cur, hv0, rfl, q1, q2, q3, q4⟩
  ·injection hv0 with v1 v2 v3
   subst v1 v3
   rw [hx] at hfi hrs'
   rw [h0] at hfi ⊢
   clear hown
   (try simp only [zzC, zzN])
   repeat' (first | refine h0e ?_ | refine h1d ?_ | refine h1h ?_ | (refine gR 14 (p_e (q_f h2n) (h:=p_e q_l (h:=q_e (q_L sz_47) ?_))) <;> (try refine h0b ?_; (refine h0w (t:=24) (m:=1) (e:=47) (fun vs => (match vs with | [(_, x0)] => x0.cells.toList | _ => [])) rfl rfl (fun w => by kernel_rfl) ?_; intro nb hnb; (try simp only [Value.cells]); (try simp only [zzC, zzN]))) <;> (try refine h0b ?_; (apply h2k; exact rfl; exact Tryd.underlying24; exact inf_47_i; exact inf_47_z; exact inf_47_s; exact inf_47_b; exact rfl; exact rfl; exact rfl; exact Own.nil _ _; exact fd0; exact Nat.le_of_ble_eq_true rfl; exact c_19; exact rfl; exact c_14; omega; (exact fun _ H => H); exact rfl; exact c_6; exact c_3; intro vA eA hownA; obtain ⟨gA, capA, curA, rfl, rfl, hA1, hA2, hA3, hA4⟩ := hownA.some (by omega); (try simp only [zzC, zzN]))) <;> (try refine q_e (q_f h2n) ?_) <;> (try refine h0b ?_; (refine q_S ?_)) <;> (try refine h0a ?_)) | (refine gR 15 ?_ <;> (try refine q_e (q_b (r:=by apply h1q; exact c_4; (focus (refine IntWalk.i64_in _ ?_; omega)))) ?_) <;> (try refine p_m (h:=h0a ?_))))
   all_goals exact h1p ⟨k + 1, rs ++ [(⟨(num : Nat), a2, cs⟩ : RulP)], _, _, _, e ++ ec⟩ ⟨⟨by show k + 1 ≤ _; omega, hlen', by show k + 1 ≤ 12; omega, hrs', hfi _ _ (own_mk (g:=gA) hA1 hA2 hA3 hA4), hok'⟩, by show _ - (k + 1) < _ - k; omega⟩ (by (focus (repeat (first | exact Sub.nil | refine Sub.cons rfl ?_)))) (by intro w H; refine Sel.out ?_ H; (try simp only [List.cons_append, List.nil_append, List.append_assoc]); repeat (first | exact Sel.refl _ | exact Sel.nil _ | (with_reducible apply Sel.appS) | (apply Sel.cons; (focus (repeat (first | exact fd0 | (with_reducible assumption) | apply fdA | apply fdS))); (try simp only [zzE, zzF])) | apply Sel.drop | apply Sel.dropA))
  ·injection hv0 with v1 v2 v3
   subst v1 v3
   rw [← q4] at hfi hrs'
   clear hown
   (try simp only [zzC, zzN])
   repeat' (first | refine h0e ?_ | refine h1d ?_ | refine h1h ?_ | (refine gR 14 (p_e (q_f h2n) (h:=p_e q_l (h:=q_e (q_L sz_47) ?_))) <;> (try refine h0b ?_; (refine h0w (t:=24) (m:=1) (e:=47) (fun vs => (match vs with | [(_, x0)] => x0.cells.toList | _ => [])) rfl rfl (fun w => by kernel_rfl) ?_; intro nb hnb; (try simp only [Value.cells]); (try simp only [zzC, zzN]))) <;> (try refine h0b ?_; (apply h2t; exact rfl; exact Tryd.underlying24; exact inf_47_i; exact inf_47_z; exact inf_47_s; exact inf_47_b; exact rfl; exact rfl; exact rfl; exact c_23; (with_reducible assumption); (with_reducible assumption); (with_reducible assumption); exact fd0; exact Nat.le_of_ble_eq_true rfl; exact c_19; exact rfl; exact c_14; omega; exact rfl; exact c_6; exact c_3; (try simp only [zzE, zzF]); intro vA eA hownA; obtain ⟨gA, capA, curA, rfl, rfl, hA1, hA2, hA3, hA4⟩ := hownA.some (by omega); (try simp only [zzC, zzN]))) <;> (try refine q_e (q_f h2n) ?_) <;> (try refine h0b ?_; (refine q_S ?_)) <;> (try refine h0a ?_)) | (refine gR 15 ?_ <;> (try refine q_e (q_b (r:=by apply h1q; exact c_4; (focus (refine IntWalk.i64_in _ ?_; omega)))) ?_) <;> (try refine p_m (h:=h0a ?_))))
   all_goals exact h1p ⟨k + 1, rs ++ [(⟨(num : Nat), a2, cs⟩ : RulP)], _, _, _, e ++ ec⟩ ⟨⟨by show k + 1 ≤ _; omega, hlen', by show k + 1 ≤ 12; omega, hrs', hfi _ _ (own_mk (g:=gA) hA1 hA2 hA3 hA4), hok'⟩, by show _ - (k + 1) < _ - k; omega⟩ (by (focus (repeat (first | exact Sub.nil | refine Sub.cons rfl ?_)))) (by intro w H; refine Sel.out ?_ H; (try simp only [List.cons_append, List.nil_append, List.append_assoc]); repeat (first | exact Sel.refl _ | exact Sel.nil _ | (with_reducible apply Sel.appS) | (apply Sel.cons; (focus (repeat (first | exact fd0 | (with_reducible assumption) | apply fdA | apply fdS))); (try simp only [zzE, zzF])) | apply Sel.drop | apply Sel.dropA))
 -- PATHS
 rintro ⟨k1, rs, cz, vr, er, ec⟩ ⟨-, hrl, hr12, hrsR, hownR, hrok⟩
 dsimp only at hrl hr12 hrsR hownR hrok ⊢
 obtain ⟨va, vc, rfl, -⟩ := hownR.sli []
 refine h3i (L' := pcB n4 (mB8 n0) act (.slice va rs.length vc) (hd &&& 51199) (.slice none 0 0) (.slice none 0 0) :: ⟨true, n2, .cells #[.string ⟨#[]⟩, .int .u32 0, .slice none 0 0, .int .u16 0, .slice none 0 0, .slice none 0 0] 30 (0, 0)⟩ :: smB n1 nm df en (.slice ra rules.length rc) hd (.slice pa paths.length pc) (.slice ga rights.length gc) (.slice qa ports.length qc) :: (er ++ (ec ++ L))) (fun w H => HP.re2 (env:=[er, [_, _, _], ec, L]) [0, 1, 2, 3] [1, 0, 2, 3] (by decide) rfl rfl H) ?_
 have hps2 : Sli (er ++ (ec ++ L)) pa paths.length 1 (u8l paths) := (hps.upA ec).upA er
 have hgs2 : Sli (er ++ (ec ++ L)) ga rights.length 1 (u16g rights) := (hgs.upA ec).upA er
 have hqs2 : Sli (er ++ (ec ++ L)) qa ports.length 1 (u8l ports) := (hqs.upA ec).upA er
 clear hrg hrs hps hgs hqs hrules hl1
 generalize hL2 : er ++ (ec ++ L) = L2 at hps2 hgs2 hqs2 ⊢
 generalize hHD : hd &&& 51199 = HD at *
 have hrp := fun (i : Nat) (hi : i ≤ maxLen) (L : List Blk) (i1 i2 : Nat) (wp wq : Value) a b c => hrf L i1 i2 n4 (.slice va rs.length vc) wq wp (mB8 n0) act HD a b c hhd2 i hi 2047 (by omega)
 have hrq := fun (i : Nat) (hi : i ≤ maxLen) (L : List Blk) (i1 i2 : Nat) (wp wq : Value) a b c => hrf L i1 i2 n4 (.slice va rs.length vc) wq wp (mB8 n0) act HD a b c hhd2 i hi 49152 (by omega)
 have z20 : ((2047 : Nat) : Int) = 2047 := rfl
 have z49 : ((49152 : Nat) : Int) = 49152 := rfl
 simp only [z20] at hrp
 simp only [z49] at hrq
 have hdi := fun (L : List Blk) => dirs_c (S:=S) (w0:=w0) (L:=L)
 clear hrf z20 z49
 unfold maxLen at hrp hrq
 repeat' (first | (refine h2g (id:=4) ?_) | refine h0t ?_ | refine h0e ?_ | (refine gR 16 ?_ <;> (try refine h0b ?_; (refine K1_makeMap rfl ?_; intro nb hnb)) <;> (try refine p_a (h:=h0a ?_))) | (refine gR 17 (p_e (by apply E_makeFunc; exact rfl; exact rfl) (h:=p_a (h:=h0a ?_)))) | (refine gR 18 (p_e (q_f fo_35_5) (h:=p_e q_l (h:=p_e (by apply h0h; exact rfl; exact (fun _ => BigFrame.builtin_len ..); apply h0j Tryd.underlying32; exact h3d) (h:=p_m (h:=h0a ?_)))))))
 refine ⟨?_⟩
 obtain ⟨nbM, rfl⟩ : ∃ x, x = nb := ⟨_, rfl⟩
 refine h4e (γ:=SmpG) (SmpI paths.length HD) (fun _ => []) [(1, _), (2, _), (4, _), (11, _)]
  (fun g => g.ep ++ (pcB n4 (mB8 n0) act (.slice va rs.length vc) HD g.vp (.slice none 0 0) :: ⟨true, n2, .cells #[.string ⟨#[]⟩, .int .u32 0, .slice none 0 0, .int .u16 0, .slice none 0 0, .slice none 0 0] 30 (0, 0)⟩ :: smB n1 nm df en (.slice ra rules.length rc) hd (.slice pa paths.length pc) (.slice ga rights.length gc) (.slice qa ports.length qc) :: L2)) (.cons rfl (.cons rfl (.cons rfl (.cons rfl .nil)))) ?_ ?_
 ·-- PATHLOOP
  refine h0o ?_
  refine h2i (γ:=SmpG) (SmpI paths.length HD) (fun g => paths.length - g.k) (fun g => [(94, .int .i64 (g.k : Nat))]) [(1, _), (2, _), (4, _), (10, _), (11, _), (92, _), (93, _)]
   (fun g => g.ep ++ (pcB n4 (mB8 n0) act (.slice va rs.length vc) HD g.vp (.slice none 0 0) :: mapB nbM g.kvs :: ⟨true, n2, .cells #[.string ⟨#[]⟩, .int .u32 0, .slice none 0 0, .int .u16 0, .slice none 0 0, .slice none 0 0] 30 (0, 0)⟩ :: smB n1 nm df en (.slice ra rules.length rc) hd (.slice pa paths.length pc) (.slice ga rights.length gc) (.slice qa ports.length qc) :: L2)) ⟨0, [], .slice none 0 0, [], []⟩ (.cons rfl (.cons rfl (.cons rfl (.cons rfl (.cons rfl (.cons rfl (.cons rfl .nil))))))) ⟨Nat.zero_le _, Nat.zero_le _, Own.nil _ _, MapS.nil _, (fun _ h => by cases h), .nil, (fun _ h => by cases h)⟩ (by (focus (repeat (first | exact Sub.nil | refine Sub.cons rfl ?_)))) c_16 ?_
  rintro ⟨k, ps, vp, ep, kvs⟩ ⟨hk, hlen, hown, hmap, hok, hnd, hdir⟩
  dsimp only at hk hlen hown hmap hok hnd hdir ⊢
  by_cases hlt : k < paths.length
  case neg =>
   obtain ⟨ya, yc, rfl, -⟩ := hown.sli []
   repeat' (first | refine h0t ?_ | refine h0e ?_ | refine h1d ?_ | refine h1w ?_ | refine h1o ?_ | refine h1v ?_ | refine h2j ?_ | refine h0m rfl ?_ | (refine gR 19 (p_e (q_b (r:=by exact h0r q_o)) (h:=h0a ?_))))
   exact h1p ⟨k, ps, _, ep, kvs⟩ ⟨hk, hlen, hown, hmap, hok, hnd, hdir⟩ (by (focus (repeat (first | exact Sub.nil | refine Sub.cons rfl ?_)))) (by intro w H; refine Sel.out ?_ H; (try simp only [List.cons_append, List.nil_append, List.append_assoc]); repeat (first | exact Sel.refl _ | exact Sel.nil _ | (with_reducible apply Sel.appS) | (apply Sel.cons; (focus (repeat (first | exact fd0 | (with_reducible assumption) | apply fdA | apply fdS))); (try simp only [zzE, zzF])) | apply Sel.drop | apply Sel.dropA))
  obtain ⟨i0, q, b, off, cs, T, fr, rfl, hi0, hsz, hx⟩ := hps2.elem1 hlt
  obtain ⟨x, hxe⟩ : ∃ x, x = paths[k] := ⟨_, rfl⟩
  have hxr : 0 ≤ x ∧ x < 256 := hxe ▸ hpaths _ (List.getElem_mem hlt)
  rw [u8l, List.getElem?_map, List.getElem?_eq_getElem hlt, Option.map_some, ← hxe] at hx
  clear hxe
  obtain ⟨p, hp1, hp2, hp3⟩ := dirL_at (x % 6).toNat (by omega)
  have hds : dirC.size = 6 := rfl
  generalize dirC = DC at *
  obtain ⟨rr, hl1, hl2, hl3⟩ := hmap.look .string keyT keyT_same p
  obtain ⟨ya, yc, rfl, -⟩ := hown.sli []
  have hrp := hrp k (by omega)
  repeat' (first | (refine h4o (id:=23) ?_) | refine h0t ?_ | refine h0e ?_ | refine h0o ?_ | refine h1a ?_ | refine h0l rfl ?_ | (refine gR 19 (p_e (q_b (r:=by exact h0q q_o)) (h:=h0a ?_))) | (refine gR 20 (p_m (h:=p_e (by apply h0s; exact rfl; exact rfl; (focus (apply h2h Tryd.underlying32 sz_5; omega; omega; exact c_1))) (h:=p_e (by apply h2b (t:=5); exact rfl; (focus (repeat (first | (with_reducible assumption) | apply fdA | apply fdS))); kernel_rfl; kernel_rfl; (with_reducible assumption)) (h:=p_a (h:=p_a (h:=h0a ?_))))))) | (refine gR 21 ?_ <;> (try refine h0b ?_; (refine q_c 19 (c:=by apply hdi) (h:=?_); rintro _ _ ⟨nbD, rfl, rfl⟩; (try simp only [zzE, zzF]))) <;> (try refine q_m ?_) <;> (try refine q_e (by apply h3c; exact rfl; (focus (apply h3a Tryd.underlying5 Tryd.underlying3; first | (refine IntWalk.i64_in _ ?_; omega) | (refine IntWalk.u8_in _ ?_; omega) | (refine IntWalk.u16_in _ ?_; omega) | (refine IntWalk.u32_in _ ?_; omega) | (refine IntWalk.u64_in _ ?_; omega) | (refine IntWalk.i32_in _ ?_; omega) | exact rfl))) ?_) <;> (try refine h0b ?_; (refine q_c 19 (c:=by apply hdi) (h:=?_); rintro _ _ ⟨nbD, rfl, rfl⟩; (try simp only [zzE, zzF]))) <;> (try refine p_e (by apply h0h; exact rfl; exact (fun _ => BigFrame.builtin_len ..); apply h0j Tryd.underlying89; exact h3d) (h:=p_e (q_b (r:=by apply h4i; omega; omega; exact c_4)) (h:=p_e (by apply h0s; exact rfl; exact rfl; (focus (apply h2h Tryd.underlying89 sz_9; omega; omega; exact c_1))) (h:=p_e (by apply h2b (t:=9); exact rfl; exact c_23; kernel_rfl; kernel_rfl; (with_reducible assumption)) (h:=p_a (h:=h0a ?_))))))) | (refine gR 22 (p_m (h:=q_m ?_)) <;> (try refine h0b ?_; (apply K1_callvc (F:=18); kernel_rfl; exact rfl; exact rfl; exact rfl; exact rfl; (apply hrp; (focus (focus (repeat (first | exact fd0 | apply fdA | apply fdS)))); (focus (focus (repeat (first | exact fd0 | apply fdA | apply fdS)))); (focus (focus (repeat (first | (with_reducible assumption) | apply Sli.up | apply Sli.upA))))); rintro _ _ ⟨r, rfl, hr, rfl⟩)) <;> (try refine p_a (h:=h0a ?_))))
  refine ⟨?_⟩
  clear hrp hdi hrq
  by_cases h1 : p ∈ ps.map (·.1)
  ·replace hl2 := hl2.trans (congrArg Value.bool (dec_t h1))
   repeat' (first | refine h0e ?_ | refine h1d ?_ | refine h1h ?_ | refine h1a ?_ | refine h0m rfl ?_ | (refine gR 23 (p_m (h:=p_m (h:=p_e (by apply h3q; exact rfl; exact rfl; (focus (repeat (first | exact fd0 | apply fdA | apply fdS))); exact Tryd.underlying99; exact Tryd.underlying9; exact trivial; exact Tryd.zeroValue4; (with_reducible assumption); (with_reducible assumption)) (h:=p_e (by apply h3g; exact rfl; exact h1f) (h:=p_m (h:=p_z (h:=p_z (h:=p_p (h:=h0a ?_)))))))))) | (refine gR 26 ?_ <;> (try refine q_e (q_b (r:=by apply h1q; exact c_4; (focus (refine IntWalk.i64_in _ ?_; omega)))) ?_) <;> (try refine p_m (h:=h0a ?_))))
   exact h1p ⟨k + 1, ps, _, ep, kvs⟩ ⟨⟨by show k + 1 ≤ _; omega, by show ps.length ≤ k + 1; omega, hown, hmap, hok, hnd, hdir⟩, by show _ - (k + 1) < _ - k; omega⟩ (by (focus (repeat (first | exact Sub.nil | refine Sub.cons rfl ?_)))) (by intro w H; refine Sel.out ?_ H; (try simp only [List.cons_append, List.nil_append, List.append_assoc]); repeat (first | exact Sel.refl _ | exact Sel.nil _ | (with_reducible apply Sel.appS) | (apply Sel.cons; (focus (repeat (first | exact fd0 | (with_reducible assumption) | apply fdA | apply fdS))); (try simp only [zzE, zzF])) | apply Sel.drop | apply Sel.dropA))
  replace hl2 := hl2.trans (congrArg Value.bool (dec_f h1))
  by_cases h2 : r = 0
  ·have h20 : ((r : Nat) : Int) = 0 := by omega
   repeat' (first | refine h0e ?_ | refine h1d ?_ | refine h1h ?_ | refine h1a ?_ | refine h0m rfl ?_ | (refine gR 23 (p_m (h:=p_m (h:=p_e (by apply h3q; exact rfl; exact rfl; (focus (repeat (first | exact fd0 | apply fdA | apply fdS))); exact Tryd.underlying99; exact Tryd.underlying9; exact trivial; exact Tryd.zeroValue4; (with_reducible assumption); (with_reducible assumption)) (h:=p_e (by apply h3g; exact rfl; exact h1y) (h:=p_m (h:=q_y (h0g rfl) ?_)))))) <;> (try refine q_y (by exact q_b (r:=by refine h1g ?_; first | rfl | (with_reducible assumption) | (decide; done) | omega)) ?_) <;> (try refine p_p (h:=h0a ?_))) | (refine gR 26 ?_ <;> (try refine q_e (q_b (r:=by apply h1q; exact c_4; (focus (refine IntWalk.i64_in _ ?_; omega)))) ?_) <;> (try refine p_m (h:=h0a ?_))))
   exact h1p ⟨k + 1, ps, _, ep, kvs⟩ ⟨⟨by show k + 1 ≤ _; omega, by show ps.length ≤ k + 1; omega, hown, hmap, hok, hnd, hdir⟩, by show _ - (k + 1) < _ - k; omega⟩ (by (focus (repeat (first | exact Sub.nil | refine Sub.cons rfl ?_)))) (by intro w H; refine Sel.out ?_ H; (try simp only [List.cons_append, List.nil_append, List.append_assoc]); repeat (first | exact Sel.refl _ | exact Sel.nil _ | (with_reducible apply Sel.appS) | (apply Sel.cons; (focus (repeat (first | exact fd0 | (with_reducible assumption) | apply fdA | apply fdS))); (try simp only [zzE, zzF])) | apply Sel.drop | apply Sel.dropA))
  have h20 : ¬ ((r : Nat) : Int) = 0 := by omega
  have hl7 : ps.length ≤ 6 := by
   have := nd_len (ps.map (·.1)) dirL hnd (fun y hy => by obtain ⟨z, hz, rfl⟩ := List.mem_map.1 hy; exact hdir z hz)
   rw [List.length_map] at this
   exact this
  have hfi : ∀ v e, Own 49 2 v (ps.length + 1) (pthC ps ++ [.string (mB8 p), .int .u16 (r : Nat)]) e → Own 49 2 v (ps ++ [(p, r)]).length (pthC (ps ++ [(p, r)])) e := fun v e h => by
   rw [pthC_snoc, List.length_append]; exact h
  have hok' : ∀ z ∈ ps ++ [(p, r)], Pt.pathF z.1 = true ∧ z.2 ≠ 0 ∧ z.2 &&& HD = z.2 ∧ z.2 &&& 2047 = z.2 := h3y hok ⟨hp2, h2, hr.1, hr.2⟩
  have hdir' : ∀ z ∈ ps ++ [(p, r)], z.1 ∈ dirL := h3y hdir hp3
  have hnd' : ((ps ++ [(p, r)]).map (·.1)).Nodup := by rw [List.map_append]; exact nd_app hnd h1
  have hmap' : MapS keyT (updE kvs (keyT p) (.bool true) rr) ((ps ++ [(p, r)]).map (·.1)) := by rw [List.map_append]; exact hl3
  have hle' : (ps ++ [(p, r)]).length ≤ k + 1 := by rw [List.length_append]; simp only [List.length_cons, List.length_nil]; omega
  clear hmap hok hnd hdir hl3
  rcases h4l hown with ⟨hv0, h0, hx, rfl⟩ | ⟨g, capg, cur, hv0, rfl, q1, q2, q3, q4⟩
  ·injection hv0 with v1 v2 v3
   subst v1 v3
   rw [hx, h0] at hfi
   rw [h0]
   clear hown
   (try simp only [zzC, zzN])
   repeat' (first | refine h0t ?_ | refine h0e ?_ | refine h1d ?_ | refine h1h ?_ | refine h0l rfl ?_ | (refine gR 23 (p_m (h:=p_m (h:=p_e (by apply h3q; exact rfl; exact rfl; exact c_23; exact Tryd.underlying99; exact Tryd.underlying9; exact trivial; exact Tryd.zeroValue4; (with_reducible assumption); (with_reducible assumption)) (h:=p_e (by apply h3g; exact rfl; exact h1y) (h:=p_m (h:=p_y (h0g rfl) (h:=p_y (q_b (r:=by exact h1k q_o)) (h:=p_p (h:=h0a ?_)))))))))) | (refine gR 24 (p_m (h:=q_m ?_)) <;> (try refine h0b ?_; (apply h4g; exact rfl; exact rfl; exact rfl; exact c_23; exact Tryd.underlying99; exact Tryd.underlying9; exact trivial; (with_reducible assumption); (try simp only [List.set_cons_succ]); (try simp only [List.set_cons_zero]))) <;> (try refine h0a ?_)) | (refine gR 25 (p_e (q_f h3k) (h:=p_e q_l (h:=p_m (h:=q_m ?_)))) <;> (try refine q_e (by exact h0v (t:=49) (fun vs => (match vs with | [(_, x0), (_, x1)] => [x0, x1] | _ => [])) rfl (fun w => by kernel_rfl)) ?_; (try simp only [Value.cells]); (try simp only [zzC, zzN])) <;> (try refine h0b ?_; (refine h0w (t:=27) (m:=1) (e:=49) (fun vs => (match vs with | [(_, x0)] => x0.cells.toList | _ => [])) rfl rfl (fun w => by kernel_rfl) ?_; intro nb hnb; (try simp only [Value.cells]); (try simp only [zzC, zzN]))) <;> (try refine h0b ?_; (apply h2k; exact rfl; exact Tryd.underlying27; exact inf_49_i; exact inf_49_z; exact inf_49_s; exact inf_49_b; exact rfl; exact rfl; exact rfl; exact Own.nil _ _; exact fd0; exact Nat.le_of_ble_eq_true rfl; exact c_19; exact rfl; exact c_14; omega; (exact fun _ H => H); exact rfl; exact c_6; exact c_3; intro vA eA hownA; obtain ⟨gA, capA, curA, rfl, rfl, hA1, hA2, hA3, hA4⟩ := hownA.some (by omega); (try simp only [zzC, zzN]))) <;> (try refine q_e (q_f h3k) ?_) <;> (try refine h0b ?_; (refine q_S ?_)) <;> (try refine h0a ?_)) | (refine gR 26 ?_ <;> (try refine q_e (q_b (r:=by apply h1q; exact c_4; (focus (refine IntWalk.i64_in _ ?_; omega)))) ?_) <;> (try refine p_m (h:=h0a ?_))))
   all_goals exact h1p ⟨k + 1, ps ++ [(p, r)], _, _, _⟩ ⟨⟨by show k + 1 ≤ _; omega, hle', hfi _ _ (own_mk (g:=gA) hA1 hA2 hA3 hA4), hmap', hok', hnd', hdir'⟩, by show _ - (k + 1) < _ - k; omega⟩ (by (focus (repeat (first | exact Sub.nil | refine Sub.cons rfl ?_)))) (by intro w H; refine Sel.out ?_ H; (try simp only [List.cons_append, List.nil_append, List.append_assoc]); repeat (first | exact Sel.refl _ | exact Sel.nil _ | (with_reducible apply Sel.appS) | (apply Sel.cons; (focus (repeat (first | exact fd0 | (with_reducible assumption) | apply fdA | apply fdS))); (try simp only [zzE, zzF])) | apply Sel.drop | apply Sel.dropA))
  ·injection hv0 with v1 v2 v3
   subst v1 v3
   rw [← q4] at hfi
   clear hown
   (try simp only [zzC, zzN])
   repeat' (first | refine h0t ?_ | refine h0e ?_ | refine h1d ?_ | refine h1h ?_ | refine h0l rfl ?_ | (refine gR 23 (p_m (h:=p_m (h:=p_e (by apply h3q; exact rfl; exact rfl; exact c_23; exact Tryd.underlying99; exact Tryd.underlying9; exact trivial; exact Tryd.zeroValue4; (with_reducible assumption); (with_reducible assumption)) (h:=p_e (by apply h3g; exact rfl; exact h1y) (h:=p_m (h:=p_y (h0g rfl) (h:=p_y (q_b (r:=by exact h1k q_o)) (h:=p_p (h:=h0a ?_)))))))))) | (refine gR 24 (p_m (h:=q_m ?_)) <;> (try refine h0b ?_; (apply h4g; exact rfl; exact rfl; exact rfl; exact c_23; exact Tryd.underlying99; exact Tryd.underlying9; exact trivial; (with_reducible assumption); (try simp only [List.set_cons_succ]); (try simp only [List.set_cons_zero]))) <;> (try refine h0a ?_)) | (refine gR 25 (p_e (q_f h3k) (h:=p_e q_l (h:=p_m (h:=q_m ?_)))) <;> (try refine q_e (by exact h0v (t:=49) (fun vs => (match vs with | [(_, x0), (_, x1)] => [x0, x1] | _ => [])) rfl (fun w => by kernel_rfl)) ?_; (try simp only [Value.cells]); (try simp only [zzC, zzN])) <;> (try refine h0b ?_; (refine h0w (t:=27) (m:=1) (e:=49) (fun vs => (match vs with | [(_, x0)] => x0.cells.toList | _ => [])) rfl rfl (fun w => by kernel_rfl) ?_; intro nb hnb; (try simp only [Value.cells]); (try simp only [zzC, zzN]))) <;> (try refine h0b ?_; (apply h2t; exact rfl; exact Tryd.underlying27; exact inf_49_i; exact inf_49_z; exact inf_49_s; exact inf_49_b; exact rfl; exact rfl; exact rfl; exact c_23; (with_reducible assumption); (with_reducible assumption); (with_reducible assumption); exact fd0; exact Nat.le_of_ble_eq_true rfl; exact c_19; exact rfl; exact c_14; omega; exact rfl; exact c_6; exact c_3; (try simp only [zzE, zzF]); intro vA eA hownA; obtain ⟨gA, capA, curA, rfl, rfl, hA1, hA2, hA3, hA4⟩ := hownA.some (by omega); (try simp only [zzC, zzN]))) <;> (try refine q_e (q_f h3k) ?_) <;> (try refine h0b ?_; (refine q_S ?_)) <;> (try refine h0a ?_)) | (refine gR 26 ?_ <;> (try refine q_e (q_b (r:=by apply h1q; exact c_4; (focus (refine IntWalk.i64_in _ ?_; omega)))) ?_) <;> (try refine p_m (h:=h0a ?_))))
   all_goals exact h1p ⟨k + 1, ps ++ [(p, r)], _, _, _⟩ ⟨⟨by show k + 1 ≤ _; omega, hle', hfi _ _ (own_mk (g:=gA) hA1 hA2 hA3 hA4), hmap', hok', hnd', hdir'⟩, by show _ - (k + 1) < _ - k; omega⟩ (by (focus (repeat (first | exact Sub.nil | refine Sub.cons rfl ?_)))) (by intro w H; refine Sel.out ?_ H; (try simp only [List.cons_append, List.nil_append, List.append_assoc]); repeat (first | exact Sel.refl _ | exact Sel.nil _ | (with_reducible apply Sel.appS) | (apply Sel.cons; (focus (repeat (first | exact fd0 | (with_reducible assumption) | apply fdA | apply fdS))); (try simp only [zzE, zzF])) | apply Sel.drop | apply Sel.dropA))
 -- PORTS
 rintro ⟨k2, ps, vp, ep, kvs⟩ ⟨hpk, hpl, hownP, -, hpok, hpnd, hpdir⟩
 dsimp only at hpk hpl hownP hpok hpnd hpdir ⊢
 obtain ⟨wa, wc, rfl, -⟩ := hownP.sli []
 refine h3i (L' := pcB n4 (mB8 n0) act (.slice va rs.length vc) HD (.slice wa ps.length wc) (.slice none 0 0) :: ⟨true, n2, .cells #[.string ⟨#[]⟩, .int .u32 0, .slice none 0 0, .int .u16 0, .slice none 0 0, .slice none 0 0] 30 (0, 0)⟩ :: smB n1 nm df en (.slice ra rules.length rc) hd (.slice pa paths.length pc) (.slice ga rights.length gc) (.slice qa ports.length qc) :: (ep ++ L2)) (fun w H => HP.re2 (env:=[ep, [_, _, _], L2]) [0, 1, 2] [1, 0, 2] (by decide) rfl rfl H) ?_
 have hgs3 : Sli (ep ++ L2) ga rights.length 1 (u16g rights) := hgs2.upA ep
 have hqs3 : Sli (ep ++ L2) qa ports.length 1 (u8l ports) := hqs2.upA ep
 clear hps2 hgs2 hqs2 hrp hdi
 generalize hL3 : ep ++ L2 = L3 at hgs3 hqs3 ⊢
 repeat' (first | (refine h2g (id:=6) ?_) | refine h0t ?_ | refine h0e ?_ | (refine gR 27 ?_ <;> (try refine h0b ?_; (refine K1_makeMap rfl ?_; intro nb hnb)) <;> (try refine p_a (h:=h0a ?_))) | (refine gR 28 (p_e (q_f fo_35_7) (h:=p_e q_l (h:=p_e (by apply h0h; exact rfl; exact (fun _ => BigFrame.builtin_len ..); apply h0j Tryd.underlying32; exact h3d) (h:=p_m (h:=h0a ?_)))))))
 refine ⟨?_⟩
 obtain ⟨nbN, rfl⟩ : ∃ x, x = nb := ⟨_, rfl⟩
 refine h4e (γ:=SmqG) (SmqI ports.length HD) (fun _ => []) [(2, _), (4, _)]
  (fun g => g.ep ++ (pcB n4 (mB8 n0) act (.slice va rs.length vc) HD (.slice wa ps.length wc) g.vp :: ⟨true, n2, .cells #[.string ⟨#[]⟩, .int .u32 0, .slice none 0 0, .int .u16 0, .slice none 0 0, .slice none 0 0] 30 (0, 0)⟩ :: L3)) (.cons rfl (.cons rfl .nil)) ?_ ?_
 ·-- PORTLOOP
  refine h0o ?_
  refine h2i (γ:=SmqG) (SmqI ports.length HD) (fun g => ports.length - g.k) (fun g => [(133, .int .i64 (g.k : Nat))]) [(2, _), (4, _), (11, _), (16, _), (131, _), (132, _)]
   (fun g => g.ep ++ (pcB n4 (mB8 n0) act (.slice va rs.length vc) HD (.slice wa ps.length wc) g.vp :: mapB nbN g.kvs :: ⟨true, n2, .cells #[.string ⟨#[]⟩, .int .u32 0, .slice none 0 0, .int .u16 0, .slice none 0 0, .slice none 0 0] 30 (0, 0)⟩ :: smB n1 nm df en (.slice ra rules.length rc) hd (.slice pa paths.length pc) (.slice ga rights.length gc) (.slice qa ports.length qc) :: L3)) ⟨0, [], .slice none 0 0, [], []⟩ (.cons rfl (.cons rfl (.cons rfl (.cons rfl (.cons rfl (.cons rfl .nil)))))) ⟨Nat.zero_le _, Nat.zero_le _, Own.nil _ _, MapS.nil _, (fun _ h => by cases h), .nil, (fun _ h => by cases h)⟩ (by (focus (repeat (first | exact Sub.nil | refine Sub.cons rfl ?_)))) c_16 ?_
  clear hownP hpok hpnd hpdir hpl hpk
  rintro ⟨k, qs, vq, eq, kvs⟩ ⟨hk, hlen, hown, hmap, hok, hnd, hdir⟩
  dsimp only at hk hlen hown hmap hok hnd hdir ⊢
  by_cases hlt : k < ports.length
  case neg =>
   obtain ⟨ya, yc, rfl, -⟩ := hown.sli []
   repeat' (first | refine h0t ?_ | refine h0e ?_ | refine h1d ?_ | refine h1w ?_ | refine h1o ?_ | refine h1v ?_ | refine h2j ?_ | refine h0m rfl ?_ | (refine gR 29 (p_e (q_b (r:=by exact h0r q_o)) (h:=h0a ?_))))
   exact h1p ⟨k, qs, _, eq, kvs⟩ ⟨hk, hlen, hown, hmap, hok, hnd, hdir⟩ (by (focus (repeat (first | exact Sub.nil | refine Sub.cons rfl ?_)))) (by intro w H; refine Sel.out ?_ H; (try simp only [List.cons_append, List.nil_append, List.append_assoc]); repeat (first | exact Sel.refl _ | exact Sel.nil _ | (with_reducible apply Sel.appS) | (apply Sel.cons; (focus (repeat (first | exact fd0 | (with_reducible assumption) | apply fdA | apply fdS))); (try simp only [zzE, zzF])) | apply Sel.drop | apply Sel.dropA))
  obtain ⟨i0, q, b, off, cs, T, fr, rfl, hi0, hsz, hx⟩ := hqs3.elem1 hlt
  obtain ⟨x, hxe⟩ : ∃ x, x = ports[k] := ⟨_, rfl⟩
  have hxr : 0 ≤ x ∧ x < 256 := hxe ▸ hports _ (List.getElem_mem hlt)
  rw [u8l, List.getElem?_map, List.getElem?_eq_getElem hlt, Option.map_some, ← hxe] at hx
  clear hxe
  obtain ⟨p, hp⟩ : ∃ p : Nat, p = (80 + x % 4).toNat := ⟨_, rfl⟩
  have hpe : keyP p = .int .u16 (80 + x % 4) := by
   show Value.int .u16 ((p : Nat) : Int) = _
   rw [show ((p : Nat) : Int) = 80 + x % 4 by omega]
  obtain ⟨rr, hl1, hl2, hl3⟩ := hmap.look (.int .u16) keyP keyP_same p
  rw [hpe] at hl1 hl3
  obtain ⟨ya, yc, rfl, -⟩ := hown.sli []
  have hrq := hrq k (by omega)
  repeat' (first | (refine h4o (id:=33) ?_) | refine h0t ?_ | refine h0e ?_ | refine h0o ?_ | refine h1a ?_ | refine h0l rfl ?_ | (refine gR 29 (p_e (q_b (r:=by exact h0q q_o)) (h:=h0a ?_))) | (refine gR 30 (p_m (h:=p_e (by apply h0s; exact rfl; exact rfl; (focus (apply h2h Tryd.underlying32 sz_5; omega; omega; exact c_1))) (h:=p_e (by apply h2b (t:=5); exact rfl; (focus (repeat (first | (with_reducible assumption) | apply fdA | apply fdS))); kernel_rfl; kernel_rfl; (with_reducible assumption)) (h:=p_a (h:=p_a (h:=h0a ?_))))))) | (refine gR 31 (p_m (h:=q_e (q_b (r:=by apply h4i; omega; omega; exact c_4)) ?_)) <;> (try refine q_e (q_b (r:=by apply h1q; exact c_4; (focus (refine IntWalk.u8_in _ ?_; omega)))) ?_) <;> (try refine q_e (by apply h3c; exact rfl; (focus (apply h3a Tryd.underlying5 Tryd.underlying25; first | (refine IntWalk.i64_in _ ?_; omega) | (refine IntWalk.u8_in _ ?_; omega) | (refine IntWalk.u16_in _ ?_; omega) | (refine IntWalk.u32_in _ ?_; omega) | (refine IntWalk.u64_in _ ?_; omega) | (refine IntWalk.i32_in _ ?_; omega) | exact rfl))) ?_) <;> (try refine p_a (h:=h0a ?_))) | (refine gR 32 (p_m (h:=q_m ?_)) <;> (try refine h0b ?_; (apply K1_callvc (F:=18); kernel_rfl; exact rfl; exact rfl; exact rfl; exact rfl; (apply hrq; (focus (focus (repeat (first | exact fd0 | apply fdA | apply fdS)))); (focus (focus (repeat (first | exact fd0 | apply fdA)))); (focus (focus (repeat (first | (with_reducible assumption) | apply Sli.up | apply Sli.upA))))); rintro _ _ ⟨r, rfl, hr, rfl⟩)) <;> (try refine p_a (h:=h0a ?_))))
  refine ⟨?_⟩
  clear hrq
  by_cases h1 : p ∈ qs.map (·.1)
  ·replace hl2 := hl2.trans (congrArg Value.bool (dec_t h1))
   repeat' (first | refine h0e ?_ | refine h1d ?_ | refine h1h ?_ | refine h1a ?_ | refine h0m rfl ?_ | (refine gR 33 (p_m (h:=p_m (h:=p_e (by apply h3q; exact rfl; exact rfl; (focus (repeat (first | exact fd0 | apply fdA | apply fdS))); exact Tryd.underlying102; exact Tryd.underlying25; exact rfl; exact Tryd.zeroValue4; (with_reducible assumption); (with_reducible assumption)) (h:=p_e (by apply h3g; exact rfl; exact h1f) (h:=p_m (h:=p_z (h:=p_z (h:=p_p (h:=h0a ?_)))))))))) | (refine gR 36 ?_ <;> (try refine q_e (q_b (r:=by apply h1q; exact c_4; (focus (refine IntWalk.i64_in _ ?_; omega)))) ?_) <;> (try refine p_m (h:=h0a ?_))))
   exact h1p ⟨k + 1, qs, _, eq, kvs⟩ ⟨⟨by show k + 1 ≤ _; omega, by show qs.length ≤ k + 1; omega, hown, hmap, hok, hnd, hdir⟩, by show _ - (k + 1) < _ - k; omega⟩ (by (focus (repeat (first | exact Sub.nil | refine Sub.cons rfl ?_)))) (by intro w H; refine Sel.out ?_ H; (try simp only [List.cons_append, List.nil_append, List.append_assoc]); repeat (first | exact Sel.refl _ | exact Sel.nil _ | (with_reducible apply Sel.appS) | (apply Sel.cons; (focus (repeat (first | exact fd0 | (with_reducible assumption) | apply fdA | apply fdS))); (try simp only [zzE, zzF])) | apply Sel.drop | apply Sel.dropA))
  replace hl2 := hl2.trans (congrArg Value.bool (dec_f h1))
  by_cases h2 : r = 0
  ·have h20 : ((r : Nat) : Int) = 0 := by omega
   repeat' (first | refine h0e ?_ | refine h1d ?_ | refine h1h ?_ | refine h1a ?_ | refine h0m rfl ?_ | (refine gR 33 (p_m (h:=p_m (h:=p_e (by apply h3q; exact rfl; exact rfl; (focus (repeat (first | exact fd0 | apply fdA | apply fdS))); exact Tryd.underlying102; exact Tryd.underlying25; exact rfl; exact Tryd.zeroValue4; (with_reducible assumption); (with_reducible assumption)) (h:=p_e (by apply h3g; exact rfl; exact h1y) (h:=p_m (h:=q_y (h0g rfl) ?_)))))) <;> (try refine q_y (by exact q_b (r:=by refine h1g ?_; first | rfl | (with_reducible assumption) | (decide; done) | omega)) ?_) <;> (try refine p_p (h:=h0a ?_))) | (refine gR 36 ?_ <;> (try refine q_e (q_b (r:=by apply h1q; exact c_4; (focus (refine IntWalk.i64_in _ ?_; omega)))) ?_) <;> (try refine p_m (h:=h0a ?_))))
   exact h1p ⟨k + 1, qs, _, eq, kvs⟩ ⟨⟨by show k + 1 ≤ _; omega, by show qs.length ≤ k + 1; omega, hown, hmap, hok, hnd, hdir⟩, by show _ - (k + 1) < _ - k; omega⟩ (by (focus (repeat (first | exact Sub.nil | refine Sub.cons rfl ?_)))) (by intro w H; refine Sel.out ?_ H; (try simp only [List.cons_append, List.nil_append, List.append_assoc]); repeat (first | exact Sel.refl _ | exact Sel.nil _ | (with_reducible apply Sel.appS) | (apply Sel.cons; (focus (repeat (first | exact fd0 | (with_reducible assumption) | apply fdA | apply fdS))); (try simp only [zzE, zzF])) | apply Sel.drop | apply Sel.dropA))
  have h20 : ¬ ((r : Nat) : Int) = 0 := by omega
  have hl7 : qs.length ≤ 4 := by
   have := nd_len (qs.map (·.1)) [80, 81, 82, 83] hnd (fun y hy => by obtain ⟨z, hz, rfl⟩ := List.mem_map.1 hy; exact hdir z hz)
   rw [List.length_map] at this
   exact this
  have hfi : ∀ v e, Own 51 2 v (qs.length + 1) (porC qs ++ [.int .u16 (80 + x % 4), .int .u16 (r : Nat)]) e → Own 51 2 v (qs ++ [(p, r)]).length (porC (qs ++ [(p, r)])) e := fun v e h => by
   rw [porC_snoc, List.length_append, show (Value.int .u16 ((p : Nat) : Int)) = .int .u16 (80 + x % 4) from hpe]; exact h
  have hok' : ∀ z ∈ qs ++ [(p, r)], z.1 < 65536 ∧ z.2 ≠ 0 ∧ z.2 &&& HD = z.2 ∧ z.2 &&& 49152 = z.2 := h3y hok ⟨by dsimp only; omega, h2, hr.1, hr.2⟩
  have hdir' : ∀ z ∈ qs ++ [(p, r)], z.1 ∈ [80, 81, 82, 83] := h3y hdir (by
   dsimp only
   obtain h | h | h | h : p = 80 ∨ p = 81 ∨ p = 82 ∨ p = 83 := by omega
   all_goals simp [h])
  have hnd' : ((qs ++ [(p, r)]).map (·.1)).Nodup := by rw [List.map_append]; exact nd_app hnd h1
  have hmap' : MapS keyP (updE kvs (.int .u16 (80 + x % 4)) (.bool true) rr) ((qs ++ [(p, r)]).map (·.1)) := by rw [List.map_append]; exact hl3
  have hle' : (qs ++ [(p, r)]).length ≤ k + 1 := by rw [List.length_append]; simp only [List.length_cons, List.length_nil]; omega
  clear hmap hok hnd hdir hl3 hpe
  rcases h4l hown with ⟨hv0, h0, hx, rfl⟩ | ⟨g, capg, cur, hv0, rfl, q1, q2, q3, q4⟩
  ·injection hv0 with v1 v2 v3
   subst v1 v3
   rw [hx, h0] at hfi
   rw [h0]
   clear hown
   (try simp only [zzC, zzN])
   repeat' (first | refine h0t ?_ | refine h0e ?_ | refine h1d ?_ | refine h1h ?_ | refine h0l rfl ?_ | (refine gR 33 (p_m (h:=p_m (h:=p_e (by apply h3q; exact rfl; exact rfl; exact c_23; exact Tryd.underlying102; exact Tryd.underlying25; exact rfl; exact Tryd.zeroValue4; (with_reducible assumption); (with_reducible assumption)) (h:=p_e (by apply h3g; exact rfl; exact h1y) (h:=p_m (h:=p_y (h0g rfl) (h:=p_y (q_b (r:=by exact h1k q_o)) (h:=p_p (h:=h0a ?_)))))))))) | (refine gR 34 (p_m (h:=q_m ?_)) <;> (try refine h0b ?_; (apply h4g; exact rfl; exact rfl; exact rfl; exact c_23; exact Tryd.underlying102; exact Tryd.underlying25; exact rfl; (with_reducible assumption); (try simp only [List.set_cons_succ]); (try simp only [List.set_cons_zero]))) <;> (try refine h0a ?_)) | (refine gR 35 (p_e (q_f h4m) (h:=p_e q_l (h:=p_m (h:=q_m ?_)))) <;> (try refine q_e (by exact h0v (t:=51) (fun vs => (match vs with | [(_, x0), (_, x1)] => [x0, x1] | _ => [])) rfl (fun w => by kernel_rfl)) ?_; (try simp only [Value.cells]); (try simp only [zzC, zzN])) <;> (try refine h0b ?_; (refine h0w (t:=28) (m:=1) (e:=51) (fun vs => (match vs with | [(_, x0)] => x0.cells.toList | _ => [])) rfl rfl (fun w => by kernel_rfl) ?_; intro nb hnb; (try simp only [Value.cells]); (try simp only [zzC, zzN]))) <;> (try refine h0b ?_; (apply h2k; exact rfl; exact Tryd.underlying28; exact inf_51_i; exact inf_51_z; exact inf_51_s; exact inf_51_b; exact rfl; exact rfl; exact rfl; exact Own.nil _ _; exact fd0; exact Nat.le_of_ble_eq_true rfl; exact c_19; exact rfl; exact c_14; omega; (exact fun _ H => H); exact rfl; exact c_6; exact c_3; intro vA eA hownA; obtain ⟨gA, capA, curA, rfl, rfl, hA1, hA2, hA3, hA4⟩ := hownA.some (by omega); (try simp only [zzC, zzN]))) <;> (try refine q_e (q_f h4m) ?_) <;> (try refine h0b ?_; (refine q_S ?_)) <;> (try refine h0a ?_)) | (refine gR 36 ?_ <;> (try refine q_e (q_b (r:=by apply h1q; exact c_4; (focus (refine IntWalk.i64_in _ ?_; omega)))) ?_) <;> (try refine p_m (h:=h0a ?_))))
   all_goals exact h1p ⟨k + 1, qs ++ [(p, r)], _, _, _⟩ ⟨⟨by show k + 1 ≤ _; omega, hle', hfi _ _ (own_mk (g:=gA) hA1 hA2 hA3 hA4), hmap', hok', hnd', hdir'⟩, by show _ - (k + 1) < _ - k; omega⟩ (by (focus (repeat (first | exact Sub.nil | refine Sub.cons rfl ?_)))) (by intro w H; refine Sel.out ?_ H; (try simp only [List.cons_append, List.nil_append, List.append_assoc]); repeat (first | exact Sel.refl _ | exact Sel.nil _ | (with_reducible apply Sel.appS) | (apply Sel.cons; (focus (repeat (first | exact fd0 | (with_reducible assumption) | apply fdA | apply fdS))); (try simp only [zzE, zzF])) | apply Sel.drop | apply Sel.dropA))
  ·injection hv0 with v1 v2 v3
   subst v1 v3
   rw [← q4] at hfi
   clear hown
   (try simp only [zzC, zzN])
   repeat' (first | refine h0t ?_ | refine h0e ?_ | refine h1d ?_ | refine h1h ?_ | refine h0l rfl ?_ | (refine gR 33 (p_m (h:=p_m (h:=p_e (by apply h3q; exact rfl; exact rfl; exact c_23; exact Tryd.underlying102; exact Tryd.underlying25; exact rfl; exact Tryd.zeroValue4; (with_reducible assumption); (with_reducible assumption)) (h:=p_e (by apply h3g; exact rfl; exact h1y) (h:=p_m (h:=p_y (h0g rfl) (h:=p_y (q_b (r:=by exact h1k q_o)) (h:=p_p (h:=h0a ?_)))))))))) | (refine gR 34 (p_m (h:=q_m ?_)) <;> (try refine h0b ?_; (apply h4g; exact rfl; exact rfl; exact rfl; exact c_23; exact Tryd.underlying102; exact Tryd.underlying25; exact rfl; (with_reducible assumption); (try simp only [List.set_cons_succ]); (try simp only [List.set_cons_zero]))) <;> (try refine h0a ?_)) | (refine gR 35 (p_e (q_f h4m) (h:=p_e q_l (h:=p_m (h:=q_m ?_)))) <;> (try refine q_e (by exact h0v (t:=51) (fun vs => (match vs with | [(_, x0), (_, x1)] => [x0, x1] | _ => [])) rfl (fun w => by kernel_rfl)) ?_; (try simp only [Value.cells]); (try simp only [zzC, zzN])) <;> (try refine h0b ?_; (refine h0w (t:=28) (m:=1) (e:=51) (fun vs => (match vs with | [(_, x0)] => x0.cells.toList | _ => [])) rfl rfl (fun w => by kernel_rfl) ?_; intro nb hnb; (try simp only [Value.cells]); (try simp only [zzC, zzN]))) <;> (try refine h0b ?_; (apply h2t; exact rfl; exact Tryd.underlying28; exact inf_51_i; exact inf_51_z; exact inf_51_s; exact inf_51_b; exact rfl; exact rfl; exact rfl; exact c_23; (with_reducible assumption); (with_reducible assumption); (with_reducible assumption); exact fd0; exact Nat.le_of_ble_eq_true rfl; exact c_19; exact rfl; exact c_14; omega; exact rfl; exact c_6; exact c_3; (try simp only [zzE, zzF]); intro vA eA hownA; obtain ⟨gA, capA, curA, rfl, rfl, hA1, hA2, hA3, hA4⟩ := hownA.some (by omega); (try simp only [zzC, zzN]))) <;> (try refine q_e (q_f h4m) ?_) <;> (try refine h0b ?_; (refine q_S ?_)) <;> (try refine h0a ?_)) | (refine gR 36 ?_ <;> (try refine q_e (q_b (r:=by apply h1q; exact c_4; (focus (refine IntWalk.i64_in _ ?_; omega)))) ?_) <;> (try refine p_m (h:=h0a ?_))))
   all_goals exact h1p ⟨k + 1, qs ++ [(p, r)], _, _, _⟩ ⟨⟨by show k + 1 ≤ _; omega, hle', hfi _ _ (own_mk (g:=gA) hA1 hA2 hA3 hA4), hmap', hok', hnd', hdir'⟩, by show _ - (k + 1) < _ - k; omega⟩ (by (focus (repeat (first | exact Sub.nil | refine Sub.cons rfl ?_)))) (by intro w H; refine Sel.out ?_ H; (try simp only [List.cons_append, List.nil_append, List.append_assoc]); repeat (first | exact Sel.refl _ | exact Sel.nil _ | (with_reducible apply Sel.appS) | (apply Sel.cons; (focus (repeat (first | exact fd0 | (with_reducible assumption) | apply fdA | apply fdS))); (try simp only [zzE, zzF])) | apply Sel.drop | apply Sel.dropA))
 clear hrq
 rintro ⟨k3, qs, vq, eq, kvq⟩ ⟨hqk, hql, hownQ, -, hqok, hqnd, hqdir⟩
 dsimp only at hqk hql hownQ hqok hqnd hqdir ⊢
 obtain ⟨xa, xc, rfl, -⟩ := hownQ.sli []
 refine h3i (L' := pcB n4 (mB8 n0) act (.slice va rs.length vc) HD (.slice wa ps.length wc) (.slice xa qs.length xc) :: ⟨true, n2, .cells #[.string ⟨#[]⟩, .int .u32 0, .slice none 0 0, .int .u16 0, .slice none 0 0, .slice none 0 0] 30 (0, 0)⟩ :: (eq ++ L3)) (fun w H => HP.re2 (env:=[eq, [_, _], L3]) [0, 1, 2] [1, 0, 2] (by decide) rfl rfl H) ?_
 repeat' (first | refine h0t ?_ | refine h0e ?_ | refine h1e ?_ | (refine gR 37 (q_e (q_L sz_30) ?_) <;> (try refine h0b ?_; (refine q_W ?_)) <;> (try refine h0a ?_)))
 (apply G_doneA Tryd.results7; exact rfl; (focus (repeat (first | exact fd0 | (with_reducible assumption) | apply fdA | apply fdS))); kernel_rfl; kernel_rfl; exact sz_30; exact c_8)
 have hpl6 : ps.length ≤ 6 := by
  have := nd_len (ps.map (·.1)) dirL hpnd (fun y hy => by obtain ⟨z, hz, rfl⟩ := List.mem_map.1 hy; exact hpdir z hz)
  rw [List.length_map] at this
  exact this
 have hql4 : qs.length ≤ 4 := by
  have := nd_len (qs.map (·.1)) [80, 81, 82, 83] hqnd (fun y hy => by obtain ⟨z, hz, rfl⟩ := List.mem_map.1 hy; exact hqdir z hz)
  rw [List.length_map] at this
  exact this
 refine ⟨_, ⟨⟨.slice va rs.length vc, .slice wa ps.length wc, .slice xa qs.length xc, cz, er, ec, ep, eq⟩, ⟨n0, act, rs, HD, ps, qs⟩, rfl, ⟨hrsR, hownR, hownP, hownQ, hhd2, by dsimp only; omega, by dsimp only; omega, by dsimp only; omega⟩, ⟨hw0, hact0, hact, fun r hr => (hrok r hr).1, by dsimp only; rw [← hHD, Nat.and_assoc, Nat.and_self], by dsimp only; omega, by dsimp only; omega, by dsimp only; omega, hpok, hpnd, hqok, hqnd⟩, ⟨fun r hr => (hrok r hr).2⟩, ⟨rfl, by dsimp only; omega, by dsimp only; omega, by dsimp only; omega⟩, rfl⟩, fun w H => ?_⟩
 subst hL3 hL2
 have H2 : HP S w0 w (eq ++ (ep ++ (er ++ (ec ++ L)))) := by
  revert w
  intro w H; refine H.sub ?_; (try simp only [zzC, zzN]); repeat (first | exact List.Sublist.refl _ | refine List.Sublist.cons _ ?_)
 exact HP.re2 (env:=[eq, ep, er, ec, L]) [0, 1, 2, 3, 4] [2, 1, 0, 3, 4] (by decide) rfl (by unfold PoD.blocks; simp [flatB]) H2
end Go.Proofs.YtecbgehooembmaaDoor
