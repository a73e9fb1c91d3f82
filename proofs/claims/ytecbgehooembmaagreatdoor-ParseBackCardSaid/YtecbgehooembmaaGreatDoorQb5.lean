/- Part 5 of what the last text of this claim leans on: rules of walks, contracts, plain facts. Conditions: those of each statement. -/
import Derived.Test.YtecbgehooembmaaGreatDoorQb4
set_option maxRecDepth 100000
namespace Go.Proofs.YtecbgehooembmaaGreatDoor
open Go Go.RowKit
inductive Tl : List Blk → List Blk → List Blk → Prop
 | nil (M : List Blk) : Tl M [] M
 | one (e M : List Blk) : Tl (e ++ M) e M
 | cons {R B M : List Blk} (x : Blk) (h : Tl R B M) : Tl (x :: R) (x :: B) M
 | app {R B M : List Blk} (e : List Blk) (h : Tl R B M) : Tl (e ++ R) (e ++ B) M
theorem Tl.eq {L B M : List Blk} (h : Tl L B M) : L = B ++ M := by
 induction h with
 | nil => rfl
 | one => rfl
 | cons x _ ih => rw [ih]; rfl
 | app e _ ih => rw [ih, List.append_assoc]
theorem parse_t {S w0} {pb ct rb n : Nat} {L0 M L B : List Blk} (s : ByteArray) (hs : s.size ≤ 1000000) (P : Pol) (a b c : Nat) (hP : polF (lB s) = (P, (a, b, c))) (hl : ∀ r ∈ P.rules, r.conds.length ≤ maxLen) (hM : PrE pb ct rb n L0 M) (hn : n ≤ 90000) (hL : Tl L B M) :
  Fn Tryz.prog 10 #[.pointer (some ⟨pb, 0, none⟩), .string s] S w0 L fun v L' => ∃ (r1 p1 q1 : Option Addr) (r3 p3 q3 : Nat) (E : List Blk) (n' : Nat) (M' : List Blk), v = h2y [.agg #[.string (mB8 P.nm), .int .u32 P.df, .slice r1 P.rules.length r3, .int .u16 (P.hd : Nat), .slice p1 P.paths.length p3, .slice q1 P.ports.length q3], .agg #[.int .i64 (a : Nat), .int .i64 (b : Nat), .int .i64 (c : Nat)]] ∧ PolS E P.g (.slice r1 P.rules.length r3) (.slice p1 P.paths.length p3) (.slice q1 P.ports.length q3) ∧ n' ≤ n + 65 ∧ PrE pb ct rb n' L0 M' ∧ B ++ (E ++ M') = L' := by
 rw [hL.eq]
 refine (parse_x (S:=S) (w0:=w0) B hM hn s hs).mono ?_
 rw [hP]
 rintro v L' ⟨d, n', M', rfl, hd, hn', hM', rfl⟩
 have hS := hd.polS hl
 obtain ⟨r1, r3, p1, p3, q1, q3, e1, e2, e3⟩ := hd.sl
 rw [e1, e2, e3] at hS
 exact ⟨_, ⟨r1, p1, q1, r3, p3, q3, _, n', M', by rw [e1, e2, e3], hS, hn', hM', rfl⟩, fun _ H => H⟩
theorem calls_t {S w0} {pb ct rb n : Nat} {L0 M L B : List Blk} (hM : PrE pb ct rb n L0 M) (hL : Tl L B M) : Fn Tryz.prog 11 #[.pointer (some ⟨pb, 0, none⟩)] S w0 L fun v L' => v = .pointer (some ⟨ct, 0, none⟩) ∧ L = L' := by
 rw [hL.eq]
 exact calls_x (S:=S) (w0:=w0) B hM
theorem clls_num : (clls.all fun m => decide (0 ≤ m.num ∧ m.num < 4294967296)) = true := by decide +kernel
theorem act_rng {a : Int} (h0 : 0 ≤ a) (h : h6d a = true) : 0 ≤ a ∧ a < 4294967296 := by
 unfold h6d at h
 have h := of_decide_eq_true h
 refine ⟨h0, ?_⟩
 rcases h with rfl | rfl | rfl | ⟨h1, h2, h3⟩
 ·decide
 ·decide
 ·decide
 ·unfold kndA at h1
  have h4 := and_split a h0
  split at h1
  ·omega
  ·cases h1
theorem pol_gok {P : Pol} (h : PolOk P) (hr : PolRn P) : P.g.ok := by
 refine ⟨?_, act_rng h.df0 h.df, ?_, ?_, ?_, ?_⟩
 ·have h1 := h.nm
  unfold Wd.wordF at h1
  rw [Bool.and_eq_true] at h1
  have h2 := of_decide_eq_true h1.2
  rw [h2d] at h2
  show P.nm.length ≤ _
  omega
 ·intro r hr'
  obtain ⟨q, hq, rfl⟩ := List.mem_map.1 hr'
  have hq2 := h.rules q hq
  refine ⟨?_, act_rng hq2.act0 hq2.act, ?_⟩
  ·have hn := hq2.num
   cases hc : h4w q.num clls with
   | none => rw [hc] at hn; cases hn
   | some m =>
    obtain ⟨hm, he⟩ := cnumF_mem hc
    have h3 := of_decide_eq_true (List.all_eq_true.1 clls_num m hm)
    show 0 ≤ q.num ∧ q.num < 4294967296
    rw [← he]
    exact h3
  ·intro c hc
   obtain ⟨d, hd, rfl⟩ := List.mem_map.1 hc
   have h4 := hq2.conds d hd
   have h5 := hr.c q hq d hd
   have h6 := h4.arg
   have h7 := h4.op2
   exact ⟨⟨by show (-9223372036854775808 : Int) ≤ ((d.arg : Nat) : Int); omega, by show ((d.arg : Nat) : Int) < 9223372036854775808; omega⟩, by show d.op < 256; omega, by show d.mask < _; omega, by show d.val < _; omega⟩
 ·have h1 := h.hd
  have h2 := Nat.and_le_right (n:=P.hd) (m:=51199)
  show P.hd < 65536
  omega
 ·intro p hp
  have h1 := (h.paths p hp).1
  have h2 := (wP_ok h1).2
  have h3 := (h.paths p hp).2.2.2
  have h4 := Nat.and_le_right (n:=p.2) (m:=2047)
  exact ⟨by omega, by omega⟩
 ·intro p hp
  have h1 := h.ports p hp
  have h4 := Nat.and_le_right (n:=p.2) (m:=49152)
  exact ⟨h1.1, by omega⟩
theorem pol_cl {P : Pol} (h : PolOk P) : ∀ r ∈ P.rules, r.conds.length ≤ maxLen := by
 intro r hr
 have := (h.rules r hr).len
 unfold maxLen; omega
def valC : Array Value := #[.int .u64 0, .int .u64 1, .int .u64 2, .int .u64 3, .int .u64 5, .int .u64 255, .int .u64 4294967295, .int .u64 4294967296, .int .u64 4294967297, .int .u64 8589934597, .int .u64 9223372036854775810, .int .u64 18446744073709551615]
theorem valC_at (k : Nat) (h : k < 12) : ∃ n : Nat, valC.toList[k]? = some (.int .u64 (n : Nat)) ∧ n ≤ 18446744073709551615 ∧ (1 ≤ k → n ≠ 0) := by
 match k, h with
 | 0, _ => exact ⟨0, rfl, by omega, by omega⟩
 | 1, _ => exact ⟨1, rfl, by omega, by omega⟩
 | 2, _ => exact ⟨2, rfl, by omega, by omega⟩
 | 3, _ => exact ⟨3, rfl, by omega, by omega⟩
 | 4, _ => exact ⟨5, rfl, by omega, by omega⟩
 | 5, _ => exact ⟨255, rfl, by omega, by omega⟩
 | 6, _ => exact ⟨4294967295, rfl, by omega, by omega⟩
 | 7, _ => exact ⟨4294967296, rfl, by omega, by omega⟩
 | 8, _ => exact ⟨4294967297, rfl, by omega, by omega⟩
 | 9, _ => exact ⟨8589934597, rfl, by omega, by omega⟩
 | 10, _ => exact ⟨9223372036854775810, rfl, by omega, by omega⟩
 | 11, _ => exact ⟨18446744073709551615, rfl, by omega, by omega⟩
theorem values_c {S w0 L} : Fn Tryz.prog 57 #[] S w0 L fun v L' => ∃ nb, v = .slice (some ⟨nb, 0, none⟩) 12 12 ∧ ⟨true, nb, .cells valC 97 (0, 0)⟩ :: L = L' := by
 refine Fn0 Tryz.func57 Tryz.ntmps57 rfl ?_
 repeat' (first | refine h0i ?_ | refine h0b ?_ | refine h0v ?_ | (refine gR 0 (p_a (h:=h0a ?_))) | (refine gR 1 ?_ <;> (try refine h0c ?_; (refine h0m (t:=173) (m:=12) (e:=97) (fun vs => (match vs with | [(_, x0), (_, x1), (_, x2), (_, x3), (_, x4), (_, x5), (_, x6), (_, x7), (_, x8), (_, x9), (_, x10), (_, x11)] => [x0, x1, x2, x3, x4, x5, x6, x7, x8, x9, x10, x11] | _ => [])) rfl rfl (fun w => by kernel_rfl) ?_; intro nb hnb; (try simp only [Value.cells]); (try simp only [zzC, zzN]))) <;> (try refine p_a (h:=h0a ?_))))
 (refine h0o Tryz.results57 (.tmp rfl .nil) ?_)
 exact ⟨_, ⟨_, rfl, rfl⟩, fun _ H => H⟩
theorem and_andn (x m : Nat) : h4u ((x &&& m : Nat) : Int) (m : Int) = 0 := by
 unfold h4u
 rw [Int.toNat_natCast, Int.toNat_natCast, Nat.and_assoc, Nat.and_self, Nat.xor_self]
 rfl
structure SCnd where
 a : Int
 o : Int
 m : Int
 v : Int
abbrev SCnd.cells (c : SCnd) : List Value := [.int .u8 c.a, .int .u8 c.o, .int .u8 c.m, .int .u8 c.v]
structure SCnd.ok (c : SCnd) : Prop where
 a : 0 ≤ c.a ∧ c.a < 256
 o : 0 ≤ c.o ∧ c.o < 256
 m : 0 ≤ c.m ∧ c.m < 256
 v : 0 ≤ c.v ∧ c.v < 256
def CndG (c : Cnd) : Prop := CndOk c ∧ c.mask ≤ 18446744073709551615 ∧ c.val ≤ 18446744073709551615
theorem cond_s {S w0 L} (a o m x : Int) (ha : 0 ≤ a ∧ a < 256) (ho : 0 ≤ o ∧ o < 256) (hm : 0 ≤ m ∧ m < 256) (hx : 0 ≤ x ∧ x < 256) :
  Fn Tryz.prog 26 #[.agg #[.int .u8 a, .int .u8 o, .int .u8 m, .int .u8 x]] S w0 L fun v L' => ∃ c : Cnd, v = .agg #[.int .i64 (c.arg : Nat), .int .u8 (c.op : Nat), .int .u64 (c.mask : Nat), .int .u64 (c.val : Nat)] ∧ CndG c ∧ L = L' := by
 obtain ⟨y, hy, hy2, -⟩ := valC_at (x % 12).toNat (by omega)
 obtain ⟨z, hz, hz2, hz3⟩ := valC_at (1 + m % 11).toNat (by omega)
 have hz3 := hz3 (by omega)
 have hsz : valC.size = 12 := rfl
 have hv := fun (L : List Blk) => values_c (S:=S) (w0:=w0) (L:=L)
 generalize valC = V at *
 by_cases h7 : o % 7 = 6
 ·refine Fn1 Tryz.func26 Tryz.ntmps26 rfl rfl ?_
  repeat' (first | refine h0i ?_ | refine h0b ?_ | refine h0v ?_ | refine h0g rfl ?_ | (refine gR 0 ?_ <;> (try refine h0c ?_; (refine h2n (t:=95) rfl rfl ?_; intro nb hnb; (try simp only [Value.cells]))) <;> (try refine h0c ?_; (refine h0k (t:=99) rfl Tryz.zeroValue99 ?_; intro nb hnb; (try simp only [Value.cells]))) <;> (try refine h0a ?_)) | (refine gR 1 ?_ <;> (try refine h0c ?_; (refine q_c 57 (c:=by apply hv) (h:=?_); rintro _ _ ⟨nbV, rfl, rfl⟩; (try simp only [zzE, zzF]))) <;> (try refine p_a (h:=h0a ?_))) | ((refine h1z (id:=2) (m:=20) (by kernel_rfl) rfl (q_u 0 (x:=by exact q_f fo_95_0) (h:=q_u 1 (x:=by exact q_l) (h:=q_u 2 (x:=by exact q_b (r:=by apply rb_rem; omega; omega; exact c_5)) (h:=?_))))) <;> (try refine q_u 3 (x:=by apply h3t; exact rfl; (focus (apply h3u Tryz.underlying5 Tryz.underlying3; first | (refine IntWalk.i64_in _ ?_; omega) | (refine IntWalk.u8_in _ ?_; omega) | (refine IntWalk.u16_in _ ?_; omega) | (refine IntWalk.u32_in _ ?_; omega) | (refine IntWalk.u64_in _ ?_; omega) | (refine IntWalk.i32_in _ ?_; omega) | exact rfl))) (h:=?_)) <;> (try refine q_u 4 (x:=by exact q_f fo_95_1) (h:=q_u 5 (x:=by exact q_l) (h:=q_u 6 (x:=by exact q_b (r:=by apply rb_rem; omega; omega; exact c_5)) (h:=?_)))) <;> (try refine q_u 7 (x:=by exact q_b (r:=by apply h1n; exact c_5; (focus (refine IntWalk.u8_in _ ?_; omega)))) (h:=?_)) <;> (try refine q_u 8 (x:=by exact h0h rfl) (h:=q_u 9 (x:=by exact q_f fo_95_3) (h:=q_u 10 (x:=by exact q_l) (h:=?_)))) <;> (try refine q_u 11 (x:=by apply h3t; exact rfl; (focus (apply h3u Tryz.underlying5 Tryz.underlying3; first | (refine IntWalk.i64_in _ ?_; omega) | (refine IntWalk.u8_in _ ?_; omega) | (refine IntWalk.u16_in _ ?_; omega) | (refine IntWalk.u32_in _ ?_; omega) | (refine IntWalk.u64_in _ ?_; omega) | (refine IntWalk.i32_in _ ?_; omega) | exact rfl))) (h:=?_)) <;> (try refine q_u 12 (x:=by exact h0h rfl) (h:=q_u 13 (x:=by apply h0e; exact rfl; exact (fun _ => BigFrame.builtin_len ..); apply h0d Tryz.underlying173; exact h3m) (h:=q_u 14 (x:=by exact q_b (r:=by apply rb_rem; omega; omega; exact c_5)) (h:=q_u 15 (x:=by apply h0n; exact rfl; exact rfl; (focus (apply h2j Tryz.underlying173 sz_97; omega; omega; exact c_1))) (h:=q_u 16 (x:=by apply h1v (t:=97); exact rfl; exact fd0; kernel_rfl; kernel_rfl; (with_reducible assumption)) (h:=?_)))))) <;> (try refine q_u 17 (x:=by exact h0q (t:=99) (fun vs => (match vs with | [(_, x0), (_, x1), (_, x2)] => [x0, x1, Value.int .u64 0, x2] | _ => [])) rfl (fun w => by kernel_rfl)) (h:=?_); (try simp only [Value.cells]); (try simp only [zzC, zzN])) <;> (try refine q_r 18 ?_; (refine h0k (t:=99) rfl Tryz.zeroValue99 ?_; intro nb hnb; (try simp only [Value.cells])); refine h1b h5c ?_) <;> (try refine q_r 19 ?_; (refine q_W ?_); refine h1b h5c ?_) <;> (try refine h1a (by kernel_rfl) ?_)) | (refine gR 3 (p_e (q_f h3d) (h:=q_e q_l ?_)) <;> (try refine q_e (by exact q_b (r:=by refine h1e ?_; first | rfl | (with_reducible assumption) | (decide; done) | omega)) ?_) <;> (try refine h0a ?_)) | (refine gR 4 (p_m (h:=p_e (q_f fo_95_2) (h:=q_e q_l ?_))) <;> (try refine q_e (by apply h3t; exact rfl; (focus (apply h3u Tryz.underlying5 Tryz.underlying3; first | (refine IntWalk.i64_in _ ?_; omega) | (refine IntWalk.u8_in _ ?_; omega) | (refine IntWalk.u16_in _ ?_; omega) | (refine IntWalk.u32_in _ ?_; omega) | (refine IntWalk.u64_in _ ?_; omega) | (refine IntWalk.i32_in _ ?_; omega) | exact rfl))) ?_) <;> (try refine p_m (h:=q_e (by apply h0e; exact rfl; exact (fun _ => BigFrame.builtin_len ..); apply h0d Tryz.underlying173; exact h3m) ?_)) <;> (try refine q_e (q_b (r:=by apply rb_sub; exact c_5; (focus (refine IntWalk.i64_in _ ?_; omega)))) ?_) <;> (try refine q_e (q_b (r:=by apply rb_rem; omega; omega; exact c_5)) ?_) <;> (try refine q_e (q_b (r:=by apply h1n; exact c_5; (focus (refine IntWalk.i64_in _ ?_; omega)))) ?_) <;> (try refine p_e (by apply h0n; exact rfl; exact rfl; (focus (apply h2j Tryz.underlying173 sz_97; omega; omega; exact c_1))) (h:=p_e (by apply h1v (t:=97); exact rfl; exact h3i; kernel_rfl; kernel_rfl; (with_reducible assumption)) (h:=q_e (q_f h5b) ?_))) <;> (try refine h0c ?_; (refine q_S ?_)) <;> (try refine h0a ?_)) | (refine gR 5 (p_e (q_f fo_99_3) (h:=p_e q_l (h:=p_e (q_f h5b) (h:=q_e q_l ?_)))) <;> (try refine q_e (q_b (r:=by refine h5w ?_ ?_; (focus (refine ⟨rfl, ⟨?_, ?_⟩⟩; omega; (focus (simp only [IntKind.bits]; omega)))); (focus (refine ⟨rfl, ⟨?_, ?_⟩⟩; omega; (focus (simp only [IntKind.bits]; omega)))))) ?_) <;> (try refine q_e (q_f fo_99_3) ?_) <;> (try refine h0c ?_; (refine q_S ?_)) <;> (try refine h0a ?_)) | (refine gR 6 (q_e (q_L h5n) ?_) <;> (try refine h0c ?_; (refine q_W ?_)) <;> (try refine h0a ?_)))
  (apply h5d Tryz.results26; exact rfl; (focus (repeat (first | exact fd0 | (with_reducible assumption) | apply fdA | apply fdS))); kernel_rfl; kernel_rfl; exact h5n; exact c_16)
  refine ⟨_, ⟨⟨(a % 6).toNat, (1 + o % 7).toNat, z, y &&& z⟩, by dsimp only; rw [Int.toNat_of_nonneg (by omega), Int.toNat_of_nonneg (by omega)]; rfl, ⟨⟨?_, ?_, ?_, ?_, ?_⟩, hz2, ?_⟩, rfl⟩, by intro w H; refine H.sub ?_; (try simp only [zzC, zzN]); repeat (first | exact List.Sublist.refl _ | refine List.Sublist.cons _ ?_)⟩
  ·dsimp only; omega
  ·dsimp only; omega
  ·dsimp only; omega
  ·intro h; dsimp only at h; omega
  ·intro _; exact ⟨hz3, and_andn y z⟩
  ·have := Nat.and_le_left (n:=y) (m:=z)
   show y &&& z ≤ _
   omega
 ·refine Fn1 Tryz.func26 Tryz.ntmps26 rfl rfl ?_
  repeat' (first | refine h0i ?_ | refine h0b ?_ | refine h0r ?_ | refine h0v ?_ | refine h0f rfl ?_ | (refine gR 0 ?_ <;> (try refine h0c ?_; (refine h2n (t:=95) rfl rfl ?_; intro nb hnb; (try simp only [Value.cells]))) <;> (try refine h0c ?_; (refine h0k (t:=99) rfl Tryz.zeroValue99 ?_; intro nb hnb; (try simp only [Value.cells]))) <;> (try refine h0a ?_)) | (refine gR 1 ?_ <;> (try refine h0c ?_; (refine q_c 57 (c:=by apply hv) (h:=?_); rintro _ _ ⟨nbV, rfl, rfl⟩; (try simp only [zzE, zzF]))) <;> (try refine p_a (h:=h0a ?_))) | ((refine h1z (id:=2) (m:=20) (by kernel_rfl) rfl (q_u 0 (x:=by exact q_f fo_95_0) (h:=q_u 1 (x:=by exact q_l) (h:=q_u 2 (x:=by exact q_b (r:=by apply rb_rem; omega; omega; exact c_5)) (h:=?_))))) <;> (try refine q_u 3 (x:=by apply h3t; exact rfl; (focus (apply h3u Tryz.underlying5 Tryz.underlying3; first | (refine IntWalk.i64_in _ ?_; omega) | (refine IntWalk.u8_in _ ?_; omega) | (refine IntWalk.u16_in _ ?_; omega) | (refine IntWalk.u32_in _ ?_; omega) | (refine IntWalk.u64_in _ ?_; omega) | (refine IntWalk.i32_in _ ?_; omega) | exact rfl))) (h:=?_)) <;> (try refine q_u 4 (x:=by exact q_f fo_95_1) (h:=q_u 5 (x:=by exact q_l) (h:=q_u 6 (x:=by exact q_b (r:=by apply rb_rem; omega; omega; exact c_5)) (h:=?_)))) <;> (try refine q_u 7 (x:=by exact q_b (r:=by apply h1n; exact c_5; (focus (refine IntWalk.u8_in _ ?_; omega)))) (h:=?_)) <;> (try refine q_u 8 (x:=by exact h0h rfl) (h:=q_u 9 (x:=by exact q_f fo_95_3) (h:=q_u 10 (x:=by exact q_l) (h:=?_)))) <;> (try refine q_u 11 (x:=by apply h3t; exact rfl; (focus (apply h3u Tryz.underlying5 Tryz.underlying3; first | (refine IntWalk.i64_in _ ?_; omega) | (refine IntWalk.u8_in _ ?_; omega) | (refine IntWalk.u16_in _ ?_; omega) | (refine IntWalk.u32_in _ ?_; omega) | (refine IntWalk.u64_in _ ?_; omega) | (refine IntWalk.i32_in _ ?_; omega) | exact rfl))) (h:=?_)) <;> (try refine q_u 12 (x:=by exact h0h rfl) (h:=q_u 13 (x:=by apply h0e; exact rfl; exact (fun _ => BigFrame.builtin_len ..); apply h0d Tryz.underlying173; exact h3m) (h:=q_u 14 (x:=by exact q_b (r:=by apply rb_rem; omega; omega; exact c_5)) (h:=q_u 15 (x:=by apply h0n; exact rfl; exact rfl; (focus (apply h2j Tryz.underlying173 sz_97; omega; omega; exact c_1))) (h:=q_u 16 (x:=by apply h1v (t:=97); exact rfl; exact fd0; kernel_rfl; kernel_rfl; (with_reducible assumption)) (h:=?_)))))) <;> (try refine q_u 17 (x:=by exact h0q (t:=99) (fun vs => (match vs with | [(_, x0), (_, x1), (_, x2)] => [x0, x1, Value.int .u64 0, x2] | _ => [])) rfl (fun w => by kernel_rfl)) (h:=?_); (try simp only [Value.cells]); (try simp only [zzC, zzN])) <;> (try refine q_r 18 ?_; (refine h0k (t:=99) rfl Tryz.zeroValue99 ?_; intro nb hnb; (try simp only [Value.cells])); refine h1b h5c ?_) <;> (try refine q_r 19 ?_; (refine q_W ?_); refine h1b h5c ?_) <;> (try refine h1a (by kernel_rfl) ?_)) | (refine gR 3 (p_e (q_f h3d) (h:=p_e q_l (h:=p_e (q_b (r:=by exact h1c q_o)) (h:=h0a ?_))))) | (refine gR 6 (q_e (q_L h5n) ?_) <;> (try refine h0c ?_; (refine q_W ?_)) <;> (try refine h0a ?_)))
  (apply h5d Tryz.results26; exact rfl; (focus (repeat (first | exact fd0 | (with_reducible assumption) | apply fdA | apply fdS))); kernel_rfl; kernel_rfl; exact h5n; exact c_16)
  refine ⟨_, ⟨⟨(a % 6).toNat, (1 + o % 7).toNat, 0, y⟩, by dsimp only; rw [Int.toNat_of_nonneg (by omega), Int.toNat_of_nonneg (by omega)]; rfl, ⟨⟨?_, ?_, ?_, ?_, ?_⟩, Nat.zero_le _, hy2⟩, rfl⟩, by intro w H; refine H.sub ?_; (try simp only [zzC, zzN]); repeat (first | exact List.Sublist.refl _ | refine List.Sublist.cons _ ?_)⟩
  ·dsimp only; omega
  ·dsimp only; omega
  ·dsimp only; omega
  ·intro _; rfl
  ·intro h; dsimp only at h; omega
theorem actOk_err (n : Int) (h : 0 ≤ n ∧ n < 256) : h6d (327680 + min (max (1 + n) 0) 4095) = true := by
 have key : ∀ k : Fin 256, h6d (327680 + min (max (1 + (k.val : Int)) 0) 4095) = true := by decide +kernel
 have hk := key ⟨n.toNat, by omega⟩
 rw [show ((n.toNat : Nat) : Int) = n by omega] at hk
 exact hk
theorem action_s {S w0 L} (k n : Int) (hk : 0 ≤ k ∧ k < 256) (hn : 0 ≤ n ∧ n < 256) : Fn Tryz.prog 25 #[.int .u8 k, .int .u8 n] S w0 L fun v L' => ∃ act : Int, v = .int .u32 act ∧ (0 ≤ act ∧ h6d act = true) ∧ L = L' := by
 have hf := fun (L : List Blk) => rfail_c (S:=S) (w0:=w0) (L:=L) (1 + n) (by omega) (by omega)
 have hok := actOk_err n hn
 have h0 : 0 ≤ 327680 + min (max (1 + n) 0) 4095 := by omega
 generalize 327680 + min (max (1 + n) 0) 4095 = e at *
 by_cases k0 : k % 4 = 0
 ·refine Fn2 Tryz.func25 Tryz.ntmps25 rfl rfl ?_
  repeat' (first | refine h0i ?_ | refine h0b ?_ | refine h0t ?_ | refine h1k ?_ | refine h0j ?_ | refine h0v ?_ | refine h0g rfl ?_ | (refine gR 0 (p_a (h:=h0a ?_))) | (refine gR 1 (p_m (h:=p_e (q_b (r:=by apply rb_rem; omega; omega; exact c_5)) (h:=h0a ?_)))) | (refine gR 2 ?_ <;> (try refine q_e (by exact q_b (r:=by refine h1e ?_; first | rfl | (with_reducible assumption) | (decide; done) | omega)) ?_) <;> (try refine p_a (h:=h0a ?_))) | (refine gR 3 (p_a (h:=h0a ?_))))
  (refine h0o Tryz.results25 (.tmp rfl .nil) ?_)
  exact ⟨_, ⟨_, rfl, ⟨by decide, by decide +kernel⟩, rfl⟩, by intro w H; refine H.sub ?_; (try simp only [zzC, zzN]); repeat (exact List.Sublist.refl _)⟩
 by_cases k1 : k % 4 = 1
 ·refine Fn2 Tryz.func25 Tryz.ntmps25 rfl rfl ?_
  repeat' (first | refine h0i ?_ | refine h0b ?_ | refine h0t ?_ | refine h1k ?_ | refine h0j ?_ | refine h0v ?_ | refine h0g rfl ?_ | refine h0f rfl ?_ | (refine gR 0 (p_a (h:=h0a ?_))) | (refine gR 1 (p_m (h:=p_e (q_b (r:=by apply rb_rem; omega; omega; exact c_5)) (h:=h0a ?_)))) | (refine gR 2 (p_e (q_b (r:=by exact h1c q_o)) (h:=p_a (h:=h0a ?_)))) | (refine gR 4 ?_ <;> (try refine q_e (by exact q_b (r:=by refine h1e ?_; first | rfl | (with_reducible assumption) | (decide; done) | omega)) ?_) <;> (try refine p_a (h:=h0a ?_))) | (refine gR 5 (q_m ?_) <;> (try refine q_e (by apply h3t; exact rfl; (focus (apply h3u Tryz.underlying5 Tryz.underlying23; first | (refine IntWalk.i64_in _ ?_; omega) | (refine IntWalk.u8_in _ ?_; omega) | (refine IntWalk.u16_in _ ?_; omega) | (refine IntWalk.u32_in _ ?_; omega) | (refine IntWalk.u64_in _ ?_; omega) | (refine IntWalk.i32_in _ ?_; omega) | exact rfl))) ?_) <;> (try refine q_e (q_b (r:=by apply h1n; exact c_5; (focus (refine IntWalk.i64_in _ ?_; omega)))) ?_) <;> (try refine h0c ?_; (refine q_c 56 (c:=by apply hf) (h:=?_); rintro _ _ ⟨rfl, rfl⟩; (try simp only [zzE, zzF]))) <;> (try refine p_a (h:=h0a ?_))))
  (refine h0o Tryz.results25 (.tmp rfl .nil) ?_)
  exact ⟨_, ⟨_, rfl, ⟨h0, hok⟩, rfl⟩, by intro w H; refine H.sub ?_; (try simp only [zzC, zzN]); repeat (exact List.Sublist.refl _)⟩
 by_cases k2 : k % 4 = 2
 ·refine Fn2 Tryz.func25 Tryz.ntmps25 rfl rfl ?_
  repeat' (first | refine h0i ?_ | refine h0b ?_ | refine h0t ?_ | refine h1k ?_ | refine h0j ?_ | refine h0v ?_ | refine h0g rfl ?_ | refine h0f rfl ?_ | (refine gR 0 (p_a (h:=h0a ?_))) | (refine gR 1 (p_m (h:=p_e (q_b (r:=by apply rb_rem; omega; omega; exact c_5)) (h:=h0a ?_)))) | (refine gR 2 (p_e (q_b (r:=by exact h1c q_o)) (h:=p_a (h:=h0a ?_)))) | (refine gR 4 (p_e (q_b (r:=by exact h1c q_o)) (h:=p_a (h:=h0a ?_)))) | (refine gR 6 ?_ <;> (try refine q_e (by exact q_b (r:=by refine h1e ?_; first | rfl | (with_reducible assumption) | (decide; done) | omega)) ?_) <;> (try refine p_a (h:=h0a ?_))) | (refine gR 7 (p_a (h:=h0a ?_))))
  (refine h0o Tryz.results25 (.tmp rfl .nil) ?_)
  exact ⟨_, ⟨_, rfl, ⟨by decide, by decide +kernel⟩, rfl⟩, by intro w H; refine H.sub ?_; (try simp only [zzC, zzN]); repeat (exact List.Sublist.refl _)⟩
 ·refine Fn2 Tryz.func25 Tryz.ntmps25 rfl rfl ?_
  repeat' (first | refine h0i ?_ | refine h0b ?_ | refine h0x ?_ | refine h0j ?_ | refine h0r ?_ | refine h0v ?_ | refine h0f rfl ?_ | (refine gR 0 (p_a (h:=h0a ?_))) | (refine gR 1 (p_m (h:=p_e (q_b (r:=by apply rb_rem; omega; omega; exact c_5)) (h:=h0a ?_)))) | (refine gR 2 (p_e (q_b (r:=by exact h1c q_o)) (h:=p_a (h:=h0a ?_)))) | (refine gR 4 (p_e (q_b (r:=by exact h1c q_o)) (h:=p_a (h:=h0a ?_)))) | (refine gR 6 (p_e (q_b (r:=by exact h1c q_o)) (h:=p_a (h:=h0a ?_)))) | (refine gR 8 (p_a (h:=h0a ?_))))
  (refine h0o Tryz.results25 (.tmp rfl .nil) ?_)
  exact ⟨_, ⟨_, rfl, ⟨by decide, by decide +kernel⟩, rfl⟩, by intro w H; refine H.sub ?_; (try simp only [zzC, zzN]); repeat (exact List.Sublist.refl _)⟩
def dirC : Array Value := #[.string ⟨#[47]⟩, .string ⟨#[47, 97]⟩, .string ⟨#[47, 97, 47, 98]⟩, .string ⟨#[47, 102]⟩, .string ⟨#[47, 97, 47, 103]⟩, .string ⟨#[47, 99]⟩]
theorem dirs_c {S w0 L} : Fn Tryz.prog 28 #[] S w0 L fun v L' => ∃ nb, v = .slice (some ⟨nb, 0, none⟩) 6 6 ∧ ⟨true, nb, .cells dirC 9 (0, 0)⟩ :: L = L' := by
 refine Fn0 Tryz.func28 Tryz.ntmps28 rfl ?_
 repeat' (first | refine h0i ?_ | refine h0b ?_ | refine h0v ?_ | (refine gR 0 (p_a (h:=h0a ?_))) | (refine gR 1 ?_ <;> (try refine h0c ?_; (refine h0m (t:=56) (m:=6) (e:=9) (fun vs => (match vs with | [(_, x0), (_, x1), (_, x2), (_, x3), (_, x4), (_, x5)] => [x0, x1, x2, x3, x4, x5] | _ => [])) rfl rfl (fun w => by kernel_rfl) ?_; intro nb hnb; (try simp only [Value.cells]); (try simp only [zzC, zzN]))) <;> (try refine p_a (h:=h0a ?_))))
 (refine h0o Tryz.results28 (.tmp rfl .nil) ?_)
 exact ⟨_, ⟨_, rfl, rfl⟩, fun _ H => H⟩
def callC : List Value := clls.flatMap fun c => [.int .i64 c.num, .string c.name, .int .i64 c.args]
theorem rcalls_c {S w0 L} : Fn Tryz.prog 24 #[] S w0 L fun v L' => ∃ nb, v = .slice (some ⟨nb, 0, none⟩) 30 30 ∧ ⟨true, nb, .cells callC.toArray 93 (0, 0)⟩ :: L = L' := by
 refine Fn0 Tryz.func24 Tryz.ntmps24 rfl ?_
 repeat' (first | refine h0i ?_ | refine h0b ?_ | refine h0v ?_ | (refine gR 0 (p_a (h:=h0a ?_))) | (refine gR 1 ?_ <;> (try refine q_e (by exact h0q (t:=93) (fun vs => (match vs with | [(_, x0), (_, x1), (_, x2)] => [x0, x1, x2] | _ => [])) rfl (fun w => by kernel_rfl)) ?_; (try simp only [Value.cells]); (try simp only [zzC, zzN])) <;> (try refine q_e (by exact h0q (t:=93) (fun vs => (match vs with | [(_, x0), (_, x1), (_, x2)] => [x0, x1, x2] | _ => [])) rfl (fun w => by kernel_rfl)) ?_; (try simp only [Value.cells]); (try simp only [zzC, zzN])) <;> (try refine q_e (by exact h0q (t:=93) (fun vs => (match vs with | [(_, x0), (_, x1), (_, x2)] => [x0, x1, x2] | _ => [])) rfl (fun w => by kernel_rfl)) ?_; (try simp only [Value.cells]); (try simp only [zzC, zzN])) <;> (try refine q_e (by exact h0q (t:=93) (fun vs => (match vs with | [(_, x0), (_, x1), (_, x2)] => [x0, x1, x2] | _ => [])) rfl (fun w => by kernel_rfl)) ?_; (try simp only [Value.cells]); (try simp only [zzC, zzN])) <;> (try refine q_e (by exact h0q (t:=93) (fun vs => (match vs with | [(_, x0), (_, x1), (_, x2)] => [x0, x1, x2] | _ => [])) rfl (fun w => by kernel_rfl)) ?_; (try simp only [Value.cells]); (try simp only [zzC, zzN])) <;> (try refine q_e (by exact h0q (t:=93) (fun vs => (match vs with | [(_, x0), (_, x1), (_, x2)] => [x0, x1, x2] | _ => [])) rfl (fun w => by kernel_rfl)) ?_; (try simp only [Value.cells]); (try simp only [zzC, zzN])) <;> (try refine q_e (by exact h0q (t:=93) (fun vs => (match vs with | [(_, x0), (_, x1), (_, x2)] => [x0, x1, x2] | _ => [])) rfl (fun w => by kernel_rfl)) ?_; (try simp only [Value.cells]); (try simp only [zzC, zzN])) <;> (try refine q_e (by exact h0q (t:=93) (fun vs => (match vs with | [(_, x0), (_, x1), (_, x2)] => [x0, x1, x2] | _ => [])) rfl (fun w => by kernel_rfl)) ?_; (try simp only [Value.cells]); (try simp only [zzC, zzN])) <;> (try refine q_e (by exact h0q (t:=93) (fun vs => (match vs with | [(_, x0), (_, x1), (_, x2)] => [x0, x1, x2] | _ => [])) rfl (fun w => by kernel_rfl)) ?_; (try simp only [Value.cells]); (try simp only [zzC, zzN])) <;> (try refine q_e (by exact h0q (t:=93) (fun vs => (match vs with | [(_, x0), (_, x1), (_, x2)] => [x0, x1, x2] | _ => [])) rfl (fun w => by kernel_rfl)) ?_; (try simp only [Value.cells]); (try simp only [zzC, zzN])) <;> (try refine q_e (by exact h0q (t:=93) (fun vs => (match vs with | [(_, x0), (_, x1), (_, x2)] => [x0, x1, x2] | _ => [])) rfl (fun w => by kernel_rfl)) ?_; (try simp only [Value.cells]); (try simp only [zzC, zzN])) <;> (try refine q_e (by exact h0q (t:=93) (fun vs => (match vs with | [(_, x0), (_, x1), (_, x2)] => [x0, x1, x2] | _ => [])) rfl (fun w => by kernel_rfl)) ?_; (try simp only [Value.cells]); (try simp only [zzC, zzN])) <;> (try refine q_e (by exact h0q (t:=93) (fun vs => (match vs with | [(_, x0), (_, x1), (_, x2)] => [x0, x1, x2] | _ => [])) rfl (fun w => by kernel_rfl)) ?_; (try simp only [Value.cells]); (try simp only [zzC, zzN])) <;> (try refine q_e (by exact h0q (t:=93) (fun vs => (match vs with | [(_, x0), (_, x1), (_, x2)] => [x0, x1, x2] | _ => [])) rfl (fun w => by kernel_rfl)) ?_; (try simp only [Value.cells]); (try simp only [zzC, zzN])) <;> (try refine q_e (by exact h0q (t:=93) (fun vs => (match vs with | [(_, x0), (_, x1), (_, x2)] => [x0, x1, x2] | _ => [])) rfl (fun w => by kernel_rfl)) ?_; (try simp only [Value.cells]); (try simp only [zzC, zzN])) <;> (try refine q_e (by exact h0q (t:=93) (fun vs => (match vs with | [(_, x0), (_, x1), (_, x2)] => [x0, x1, x2] | _ => [])) rfl (fun w => by kernel_rfl)) ?_; (try simp only [Value.cells]); (try simp only [zzC, zzN])) <;> (try refine q_e (by exact h0q (t:=93) (fun vs => (match vs with | [(_, x0), (_, x1), (_, x2)] => [x0, x1, x2] | _ => [])) rfl (fun w => by kernel_rfl)) ?_; (try simp only [Value.cells]); (try simp only [zzC, zzN])) <;> (try refine q_e (by exact h0q (t:=93) (fun vs => (match vs with | [(_, x0), (_, x1), (_, x2)] => [x0, x1, x2] | _ => [])) rfl (fun w => by kernel_rfl)) ?_; (try simp only [Value.cells]); (try simp only [zzC, zzN])) <;> (try refine q_e (by exact h0q (t:=93) (fun vs => (match vs with | [(_, x0), (_, x1), (_, x2)] => [x0, x1, x2] | _ => [])) rfl (fun w => by kernel_rfl)) ?_; (try simp only [Value.cells]); (try simp only [zzC, zzN])) <;> (try refine q_e (by exact h0q (t:=93) (fun vs => (match vs with | [(_, x0), (_, x1), (_, x2)] => [x0, x1, x2] | _ => [])) rfl (fun w => by kernel_rfl)) ?_; (try simp only [Value.cells]); (try simp only [zzC, zzN])) <;> (try refine q_e (by exact h0q (t:=93) (fun vs => (match vs with | [(_, x0), (_, x1), (_, x2)] => [x0, x1, x2] | _ => [])) rfl (fun w => by kernel_rfl)) ?_; (try simp only [Value.cells]); (try simp only [zzC, zzN])) <;> (try refine q_e (by exact h0q (t:=93) (fun vs => (match vs with | [(_, x0), (_, x1), (_, x2)] => [x0, x1, x2] | _ => [])) rfl (fun w => by kernel_rfl)) ?_; (try simp only [Value.cells]); (try simp only [zzC, zzN])) <;> (try refine q_e (by exact h0q (t:=93) (fun vs => (match vs with | [(_, x0), (_, x1), (_, x2)] => [x0, x1, x2] | _ => [])) rfl (fun w => by kernel_rfl)) ?_; (try simp only [Value.cells]); (try simp only [zzC, zzN])) <;> (try refine q_e (by exact h0q (t:=93) (fun vs => (match vs with | [(_, x0), (_, x1), (_, x2)] => [x0, x1, x2] | _ => [])) rfl (fun w => by kernel_rfl)) ?_; (try simp only [Value.cells]); (try simp only [zzC, zzN])) <;> (try refine q_e (by exact h0q (t:=93) (fun vs => (match vs with | [(_, x0), (_, x1), (_, x2)] => [x0, x1, x2] | _ => [])) rfl (fun w => by kernel_rfl)) ?_; (try simp only [Value.cells]); (try simp only [zzC, zzN])) <;> (try refine q_e (by exact h0q (t:=93) (fun vs => (match vs with | [(_, x0), (_, x1), (_, x2)] => [x0, x1, x2] | _ => [])) rfl (fun w => by kernel_rfl)) ?_; (try simp only [Value.cells]); (try simp only [zzC, zzN])) <;> (try refine q_e (by exact h0q (t:=93) (fun vs => (match vs with | [(_, x0), (_, x1), (_, x2)] => [x0, x1, x2] | _ => [])) rfl (fun w => by kernel_rfl)) ?_; (try simp only [Value.cells]); (try simp only [zzC, zzN])) <;> (try refine q_e (by exact h0q (t:=93) (fun vs => (match vs with | [(_, x0), (_, x1), (_, x2)] => [x0, x1, x2] | _ => [])) rfl (fun w => by kernel_rfl)) ?_; (try simp only [Value.cells]); (try simp only [zzC, zzN])) <;> (try refine q_e (by exact h0q (t:=93) (fun vs => (match vs with | [(_, x0), (_, x1), (_, x2)] => [x0, x1, x2] | _ => [])) rfl (fun w => by kernel_rfl)) ?_; (try simp only [Value.cells]); (try simp only [zzC, zzN])) <;> (try refine q_e (by exact h0q (t:=93) (fun vs => (match vs with | [(_, x0), (_, x1), (_, x2)] => [x0, x1, x2] | _ => [])) rfl (fun w => by kernel_rfl)) ?_; (try simp only [Value.cells]); (try simp only [zzC, zzN])) <;> (try refine h0c ?_; (refine h0m (t:=86) (m:=30) (e:=93) (fun vs => (match vs with | [(_, x0), (_, x1), (_, x2), (_, x3), (_, x4), (_, x5), (_, x6), (_, x7), (_, x8), (_, x9), (_, x10), (_, x11), (_, x12), (_, x13), (_, x14), (_, x15), (_, x16), (_, x17), (_, x18), (_, x19), (_, x20), (_, x21), (_, x22), (_, x23), (_, x24), (_, x25), (_, x26), (_, x27), (_, x28), (_, x29)] => x0.cells.toList ++ (x1.cells.toList ++ (x2.cells.toList ++ (x3.cells.toList ++ (x4.cells.toList ++ (x5.cells.toList ++ (x6.cells.toList ++ (x7.cells.toList ++ (x8.cells.toList ++ (x9.cells.toList ++ (x10.cells.toList ++ (x11.cells.toList ++ (x12.cells.toList ++ (x13.cells.toList ++ (x14.cells.toList ++ (x15.cells.toList ++ (x16.cells.toList ++ (x17.cells.toList ++ (x18.cells.toList ++ (x19.cells.toList ++ (x20.cells.toList ++ (x21.cells.toList ++ (x22.cells.toList ++ (x23.cells.toList ++ (x24.cells.toList ++ (x25.cells.toList ++ (x26.cells.toList ++ (x27.cells.toList ++ (x28.cells.toList ++ x29.cells.toList)))))))))))))))))))))))))))) | _ => [])) rfl rfl (fun w => by kernel_rfl) ?_; intro nb hnb; (try simp only [Value.cells]); (try simp only [zzC, zzN]))) <;> (try refine p_a (h:=h0a ?_))))
 (refine h0o Tryz.results24 (.tmp rfl .nil) ?_)
 exact ⟨_, ⟨_, rfl, rfl⟩, fun _ H => H⟩
structure SRul where
 c : Int
 a : Int
 e : Int
 conds : List SCnd
structure SRul.ok (r : SRul) : Prop where
 c : 0 ≤ r.c ∧ r.c < 256
 a : 0 ≤ r.a ∧ r.a < 256
 e : 0 ≤ r.e ∧ r.e < 256
 conds : ∀ c ∈ r.conds, c.ok
def scC (cs : List SCnd) : List Value := cs.flatMap SCnd.cells
theorem scC_at (cs : List SCnd) (k : Nat) (h : k < cs.length) : ((scC cs).drop (k * 4)).take 4 = (cs[k]).cells := by
 induction cs generalizing k with
 | nil => simp at h
 | cons c r ih =>
  cases k with
  | zero => simp [scC]
  | succ k =>
   rw [scC, List.flatMap_cons, ← scC, show (k + 1) * 4 = c.cells.length + k * 4 by simp only [SCnd.cells, List.length_cons, List.length_nil]; omega, List.drop_append, List.drop_eq_nil_of_le (by omega), List.nil_append, Nat.add_sub_cancel_left]
   exact ih k (by simpa using h)
def SCndS (L : List Blk) (v : Value) (cs : List SCnd) : Prop := ∃ a c, v = .slice a cs.length c ∧ Sli L a cs.length 4 (scC cs) ∧ cs.length ≤ maxLen
def SRulG (L : List Blk) : List SRul → List Value → Prop
 | [], cz => cz = []
 | r :: rs, cz => ∃ v cz', cz = .int .u8 r.c :: .int .u8 r.a :: .int .u8 r.e :: v :: cz' ∧ SCndS L v r.conds ∧ SRulG L rs cz'
theorem SRulG.at_ {L : List Blk} : ∀ {rs : List SRul} {cz : List Value} (_ : SRulG L rs cz) (k : Nat) (hk : k < rs.length), ∃ v, (cz.drop (k * 4)).take 4 = [.int .u8 (rs[k]).c, .int .u8 (rs[k]).a, .int .u8 (rs[k]).e, v] ∧ SCndS L v (rs[k]).conds
 | r :: rs, cz, ⟨v, cz', h1, h2, h3⟩, 0, _ => ⟨v, by rw [h1]; rfl, h2⟩
 | r :: rs, cz, ⟨v, cz', h1, h2, h3⟩, k + 1, hk => by
  obtain ⟨v', e1, e2⟩ := SRulG.at_ h3 k (by simpa using hk)
  exact ⟨v', by rw [h1, show (k + 1) * 4 = 4 + k * 4 by omega, ← List.drop_drop]; exact e1, e2⟩
theorem SCndS.upA {L : List Blk} {v : Value} {cs : List SCnd} (h : SCndS L v cs) (e : List Blk) : SCndS (e ++ L) v cs := let ⟨a, c, h1, h2, h3⟩ := h; ⟨a, c, h1, h2.upA e, h3⟩
theorem SCndS.left {L e : List Blk} {v : Value} {cs : List SCnd} (h : SCndS e v cs) : SCndS (e ++ L) v cs := let ⟨a, c, h1, h2, h3⟩ := h; ⟨a, c, h1, h2.left, h3⟩
theorem SRulG.upA {L : List Blk} (e : List Blk) : ∀ {rs : List SRul} {cz : List Value}, SRulG L rs cz → SRulG (e ++ L) rs cz
 | [], _, h => h
 | _ :: _, _, ⟨v, cz', h1, h2, h3⟩ => ⟨v, cz', h1, h2.upA e, SRulG.upA e h3⟩
theorem SRulG.left {L e : List Blk} : ∀ {rs : List SRul} {cz : List Value}, SRulG e rs cz → SRulG (e ++ L) rs cz
 | [], _, h => h
 | _ :: _, _, ⟨v, cz', h1, h2, h3⟩ => ⟨v, cz', h1, h2.left, SRulG.left h3⟩
structure SPol where
 nm : Int
 df : Int
 en : Int
 rules : List SRul
 hd : Nat
 paths : List Int
 rights : List Int
 ports : List Int
structure SPol.ok (s : SPol) : Prop where
 nm : 0 ≤ s.nm ∧ s.nm < 256
 df : 0 ≤ s.df ∧ s.df < 256
 en : 0 ≤ s.en ∧ s.en < 256
 rules : ∀ r ∈ s.rules, r.ok
 hd : s.hd < 65536
 paths : ∀ x ∈ s.paths, 0 ≤ x ∧ x < 256
 rights : ∀ x ∈ s.rights, 0 ≤ x ∧ x < 65536
 ports : ∀ x ∈ s.ports, 0 ≤ x ∧ x < 256
def u16g (l : List Int) : List Value := l.map (Value.int .u16)
structure SPolS (L : List Blk) (s : SPol) (vr vp vg vq : Value) : Prop where
 rs : ∃ a c cz, vr = .slice a s.rules.length c ∧ Sli L a s.rules.length 4 cz ∧ SRulG L s.rules cz
 ps : ∃ a c, vp = .slice a s.paths.length c ∧ Sli L a s.paths.length 1 (u8l s.paths)
 gs : ∃ a c, vg = .slice a s.rights.length c ∧ Sli L a s.rights.length 1 (u16g s.rights)
 qs : ∃ a c, vq = .slice a s.ports.length c ∧ Sli L a s.ports.length 1 (u8l s.ports)
 l1 : s.rules.length ≤ maxLen
 l2 : s.paths.length ≤ maxLen
 l3 : s.rights.length ≤ maxLen
 l4 : s.ports.length ≤ maxLen
abbrev smB (b : Nat) (nm df en : Int) (vr : Value) (hd : Nat) (vp vg vq : Value) : Blk := ⟨true, b, .cells #[.int .u8 nm, .int .u8 df, .int .u8 en, vr, .int .u16 (hd : Nat), vp, vg, vq] 48 (0, 0)⟩
abbrev pcB (b : Nat) (nm : ByteArray) (df : Int) (vr : Value) (hd : Nat) (vp vq : Value) : Blk := ⟨true, b, .cells #[.string nm, .int .u32 df, vr, .int .u16 (hd : Nat), vp, vq] 36 (0, 0)⟩
section
variable {P : Program} {n : Nat} {l : List (Nat × Value)} {S : List Nat} {w0 : World} {L : List Blk} {K : Act → World → Prop} {k : Kont} {ops : Array Oper} {d : Tmp} {ty : TypeId} {pos : String} {af : Array Edge}
theorem K1_callvc {F : FuncId} {t : Tmp} {first captured : Array Value} {xs : List Operand} {vs zs : List Value} {ats : Array TypeId} {R : Value → List Blk → Prop} (hfn : (P.funcs[F]?).map (fun fn => (fn.name == "runtime.NumGoroutine", fn.body.isNone)) = some (false, false)) (hd : Nat.blt d n = true)
  (ht : lk l t = some (.func (.func F) first captured)) (hx : evs l xs = some vs) (hz : first.toList ++ vs ++ captured.toList = zs) (hc : Fn P F zs.toArray S w0 L R) (h : ∀ v L', R v L' → G n ((d, v) :: l) S w0 L' K) :
  G n l S w0 L (K1 P ops k ⟨some d, .call { callee := .value (.tmp t), args := xs.toArray, argTypes := ats }, ty, pos, af, none⟩ K) := by
 refine K1_callv hfn hd ht hx ?_ h
 have e : first ++ vs.toArray ++ captured = zs.toArray := by rw [← hz]; simp
 rw [e]; exact hc
end
theorem dec_t {p : Prop} {i : Decidable p} (h : p) : @decide p i = true := decide_eq_true h
theorem dec_f {p : Prop} {i : Decidable p} (h : ¬ p) : @decide p i = false := decide_eq_false h
theorem Sel.appS {e L L' : List Blk} (h : Sel L L') : Sel (e ++ L) (e ++ L') := let ⟨M, h3, h4⟩ := h; ⟨e ++ M, h3.append_left e, h4.append_left e⟩
theorem iand_c (x : Int) (n : Nat) : iand x (n : Int) = ((x.toNat &&& n : Nat) : Int) := rfl
theorem rights_s {S w0 L} (i1 i2 b1 b2 : Nat) (nm df en : Int) (vr : Value) (hs : Nat) (vp : Value) (ga : Option Addr) (gc : Nat) (gs : List Int) (vq : Value) (pn : ByteArray) (pd : Int) (wr : Value) (hd : Nat) (wp wq : Value) (h1 : L[i1]? = some (smB b1 nm df en vr hs vp (.slice ga gs.length gc) vq)) (h2 : L[i2]? = some (pcB b2 pn pd wr hd wp wq))
  (hg : Sli L ga gs.length 1 (u16g gs)) (hgo : ∀ x ∈ gs, 0 ≤ x ∧ x < 65536) (hgl : gs.length ≤ maxLen) (hhd : hd < 65536) (i : Nat) (hi : i ≤ maxLen) (kd : Nat) (hkd : kd < 65536) :
  Fn Tryz.prog 27 #[.int .i64 (i : Nat), .int .u16 (kd : Nat), .pointer (some ⟨b1, 0, none⟩), .pointer (some ⟨b2, 0, none⟩)] S w0 L fun v L' => ∃ r : Nat, v = .int .u16 (r : Nat) ∧ (r &&& hd = r ∧ r &&& kd = r) ∧ L = L' := by
 unfold maxLen at hgl hi
 by_cases hlt : gs.length ≤ i
 ·refine Fn4 Tryz.func27 Tryz.ntmps27 rfl rfl ?_
  repeat' (first | refine h0i ?_ | refine h0b ?_ | refine h0t ?_ | refine h0v ?_ | refine h0g rfl ?_ | (refine gR 0 (p_a (h:=h0a ?_))) | (refine gR 1 (p_m (h:=p_e (q_f fo_48_6) (h:=p_e (by apply h1v (t:=46); exact rfl; exact c_21; kernel_rfl; kernel_rfl; exact rfl) (h:=p_e (by apply h0e; exact rfl; exact (fun _ => BigFrame.builtin_len ..); apply h0d Tryz.underlying46; exact h3m) (h:=p_e (q_b (r:=by exact rb_geq_t q_o)) (h:=h0a ?_))))))) | (refine gR 2 (p_e (q_f h5l) (h:=p_e (by apply h1v (t:=32); exact rfl; exact c_21; kernel_rfl; kernel_rfl; exact rfl) (h:=q_m ?_))) <;> (try refine q_e (q_b (r:=by refine h5w ?_ ?_; (focus (refine ⟨rfl, ⟨?_, ?_⟩⟩; omega; (focus (simp only [IntKind.bits]; omega)))); (focus (refine ⟨rfl, ⟨?_, ?_⟩⟩; omega; (focus (simp only [IntKind.bits]; omega)))))) ?_) <;> (try refine p_a (h:=h0a ?_))))
  (refine h0o Tryz.results27 (.tmp rfl .nil) ?_)
  rw [iand_c, Int.toNat_natCast]
  exact ⟨_, ⟨hd &&& kd, rfl, ⟨by rw [Nat.and_comm (hd &&& kd) hd, ← Nat.and_assoc, Nat.and_self], by rw [Nat.and_assoc, Nat.and_self]⟩, rfl⟩, by intro w H; refine H.sub ?_; (try simp only [zzC, zzN]); repeat (exact List.Sublist.refl _)⟩
 ·obtain ⟨i0, q, b, off, cs, T, fr, rfl, hi0, hsz, hx⟩ := hg.elem1 (show i < gs.length by omega)
  obtain ⟨x, hxe⟩ : ∃ x, x = gs[i]'(by omega) := ⟨_, rfl⟩
  have hxr : 0 ≤ x ∧ x < 65536 := hxe ▸ hgo _ (List.getElem_mem _)
  rw [u16g, List.getElem?_map, List.getElem?_eq_getElem (show i < gs.length by omega), Option.map_some, ← hxe] at hx
  clear hxe
  have hia : 0 ≤ iand x (hd : Nat) ∧ iand x (hd : Nat) < 65536 := by
   rw [iand_c]
   have := Nat.and_le_right (n:=x.toNat) (m:=hd)
   omega
  refine Fn4 Tryz.func27 Tryz.ntmps27 rfl rfl ?_
  repeat' (first | refine h0i ?_ | refine h0b ?_ | refine h0r ?_ | refine h0v ?_ | refine h0f rfl ?_ | (refine gR 0 (p_a (h:=h0a ?_))) | (refine gR 1 (p_m (h:=p_e (q_f fo_48_6) (h:=p_e (by apply h1v (t:=46); exact rfl; exact c_21; kernel_rfl; kernel_rfl; exact rfl) (h:=p_e (by apply h0e; exact rfl; exact (fun _ => BigFrame.builtin_len ..); apply h0d Tryz.underlying46; exact h3m) (h:=p_e (q_b (r:=by exact rb_geq_f q_o)) (h:=h0a ?_))))))) | ((refine h1z (id:=3) (m:=11) (by kernel_rfl) rfl (q_u 0 (x:=by exact q_f fo_48_6) (h:=q_u 1 (x:=by apply h1v (t:=46); exact rfl; exact c_21; kernel_rfl; kernel_rfl; exact rfl) (h:=q_u 2 (x:=by exact h0h rfl) (h:=q_u 3 (x:=by apply h0n; exact rfl; exact rfl; (focus (apply h2j Tryz.underlying46 sz_31; omega; omega; exact c_1))) (h:=q_u 4 (x:=by apply h1v (t:=31); exact rfl; exact c_21; kernel_rfl; kernel_rfl; (with_reducible assumption)) (h:=q_u 5 (x:=by exact q_f h5l) (h:=q_u 6 (x:=by apply h1v (t:=32); exact rfl; exact c_21; kernel_rfl; kernel_rfl; exact rfl) (h:=?_))))))))) <;> (try refine q_u 7 (x:=by exact q_b (r:=by refine h5w ?_ ?_; (focus (refine ⟨rfl, ⟨?_, ?_⟩⟩; omega; (focus (simp only [IntKind.bits]; omega)))); (focus (refine ⟨rfl, ⟨?_, ?_⟩⟩; omega; (focus (simp only [IntKind.bits]; omega)))))) (h:=?_)) <;> (try refine q_u 8 (x:=by exact h0h rfl) (h:=?_)) <;> (try refine q_u 9 (x:=by exact q_b (r:=by refine h5w ?_ ?_; (focus (refine ⟨rfl, ⟨?_, ?_⟩⟩; omega; (focus (simp only [IntKind.bits]; omega)))); (focus (refine ⟨rfl, ⟨?_, ?_⟩⟩; omega; (focus (simp only [IntKind.bits]; omega)))))) (h:=?_)) <;> (try refine q_u 10 (x:=by exact h3f rfl) (h:=h1a (by kernel_rfl) ?_))))
  (refine h0o Tryz.results27 (.tmp rfl .nil) ?_)
  rw [iand_c, iand_c, Int.toNat_natCast]
  exact ⟨_, ⟨(x.toNat &&& hd) &&& kd, rfl, ⟨by rw [Nat.and_assoc (x.toNat &&& hd), Nat.and_comm kd hd, ← Nat.and_assoc, Nat.and_assoc x.toNat, Nat.and_self], by rw [Nat.and_assoc, Nat.and_self]⟩, rfl⟩, by intro w H; refine H.sub ?_; (try simp only [zzC, zzN]); repeat (exact List.Sublist.refl _)⟩
def nmC : Array Value := #[.string ⟨#[112]⟩, .string ⟨#[112, 111, 108, 45, 49]⟩, .string ⟨#[120, 95, 121]⟩]
theorem nmC_at (k : Nat) (h : k < 3) : ∃ n : List UInt8, nmC.toList[k]? = some (.string (mB8 n)) ∧ Wd.wordF (mB8 n) = true := by
 match k, h with
 | 0, _ => exact ⟨[112], rfl, by decide +kernel⟩
 | 1, _ => exact ⟨[112, 111, 108, 45, 49], rfl, by decide +kernel⟩
 | 2, _ => exact ⟨[120, 95, 121], rfl, by decide +kernel⟩
theorem callC_at (k : Nat) (h : k < 30) : ∃ n : Nat, callC.toArray.toList[k * 3]? = some (.int .i64 (n : Nat)) ∧ (h4w (n : Nat) clls).isSome = true ∧ n < 4294967296 := by
 obtain rfl | rfl | rfl | rfl | rfl | rfl | rfl | rfl | rfl | rfl | rfl | rfl | rfl | rfl | rfl | rfl | rfl | rfl | rfl | rfl | rfl | rfl | rfl | rfl | rfl | rfl | rfl | rfl | rfl | rfl : k = 0 ∨ k = 1 ∨ k = 2 ∨ k = 3 ∨ k = 4 ∨ k = 5 ∨ k = 6 ∨ k = 7 ∨ k = 8 ∨ k = 9 ∨ k = 10 ∨ k = 11 ∨ k = 12 ∨ k = 13 ∨ k = 14 ∨ k = 15 ∨ k = 16 ∨ k = 17 ∨ k = 18 ∨ k = 19 ∨ k = 20 ∨ k = 21 ∨ k = 22 ∨ k = 23 ∨ k = 24 ∨ k = 25 ∨ k = 26 ∨ k = 27 ∨ k = 28 ∨ k = 29 := by omega
 ·exact ⟨0, by kernel_rfl, by decide +kernel, by omega⟩
 ·exact ⟨1, by kernel_rfl, by decide +kernel, by omega⟩
 ·exact ⟨2, by kernel_rfl, by decide +kernel, by omega⟩
 ·exact ⟨3, by kernel_rfl, by decide +kernel, by omega⟩
 ·exact ⟨4, by kernel_rfl, by decide +kernel, by omega⟩
 ·exact ⟨8, by kernel_rfl, by decide +kernel, by omega⟩
 ·exact ⟨32, by kernel_rfl, by decide +kernel, by omega⟩
 ·exact ⟨39, by kernel_rfl, by decide +kernel, by omega⟩
 ·exact ⟨41, by kernel_rfl, by decide +kernel, by omega⟩
 ·exact ⟨42, by kernel_rfl, by decide +kernel, by omega⟩
 ·exact ⟨49, by kernel_rfl, by decide +kernel, by omega⟩
 ·exact ⟨50, by kernel_rfl, by decide +kernel, by omega⟩
 ·exact ⟨57, by kernel_rfl, by decide +kernel, by omega⟩
 ·exact ⟨60, by kernel_rfl, by decide +kernel, by omega⟩
 ·exact ⟨77, by kernel_rfl, by decide +kernel, by omega⟩
 ·exact ⟨78, by kernel_rfl, by decide +kernel, by omega⟩
 ·exact ⟨79, by kernel_rfl, by decide +kernel, by omega⟩
 ·exact ⟨80, by kernel_rfl, by decide +kernel, by omega⟩
 ·exact ⟨82, by kernel_rfl, by decide +kernel, by omega⟩
 ·exact ⟨83, by kernel_rfl, by decide +kernel, by omega⟩
 ·exact ⟨84, by kernel_rfl, by decide +kernel, by omega⟩
 ·exact ⟨86, by kernel_rfl, by decide +kernel, by omega⟩
 ·exact ⟨87, by kernel_rfl, by decide +kernel, by omega⟩
 ·exact ⟨88, by kernel_rfl, by decide +kernel, by omega⟩
 ·exact ⟨89, by kernel_rfl, by decide +kernel, by omega⟩
 ·exact ⟨157, by kernel_rfl, by decide +kernel, by omega⟩
 ·exact ⟨165, by kernel_rfl, by decide +kernel, by omega⟩
 ·exact ⟨166, by kernel_rfl, by decide +kernel, by omega⟩
 ·exact ⟨317, by kernel_rfl, by decide +kernel, by omega⟩
 ·exact ⟨446, by kernel_rfl, by decide +kernel, by omega⟩
structure SmG where
 k : Nat
 rs : List RulP
 cz : List Value
 vr : Value
 er : List Blk
 ec : List Blk
structure SmI (N : Nat) (g : SmG) : Prop where
 le : g.k ≤ N
 len : g.rs.length = g.k
 le2 : g.k ≤ 12
 rs : RulsR g.rs g.cz g.ec
 own : Own 73 3 g.vr g.rs.length g.cz g.er
 ok : ∀ r ∈ g.rs, RulOk r ∧ ∀ c ∈ r.conds, c.mask ≤ 18446744073709551615 ∧ c.val ≤ 18446744073709551615
def dirL : List (List UInt8) := [[47], [47, 97], [47, 97, 47, 98], [47, 102], [47, 97, 47, 103], [47, 99]]
theorem dirL_at (k : Nat) (h : k < 6) : ∃ p : List UInt8, dirC.toList[k]? = some (.string (mB8 p)) ∧ Pt.pathF p = true ∧ p ∈ dirL := by
 obtain rfl | rfl | rfl | rfl | rfl | rfl : k = 0 ∨ k = 1 ∨ k = 2 ∨ k = 3 ∨ k = 4 ∨ k = 5 := by omega
 ·exact ⟨[47], rfl, by decide +kernel, by decide⟩
 ·exact ⟨[47, 97], rfl, by decide +kernel, by decide⟩
 ·exact ⟨[47, 97, 47, 98], rfl, by decide +kernel, by decide⟩
 ·exact ⟨[47, 102], rfl, by decide +kernel, by decide⟩
 ·exact ⟨[47, 97, 47, 103], rfl, by decide +kernel, by decide⟩
 ·exact ⟨[47, 99], rfl, by decide +kernel, by decide⟩
theorem nd_len {α : Type} [DecidableEq α] : ∀ (l m : List α), l.Nodup → (∀ x ∈ l, x ∈ m) → l.length ≤ m.length
 | [], _, _, _ => Nat.zero_le _
 | a :: l, m, h, hs => by
  have h2 := List.nodup_cons.1 h
  have h3 := nd_len l (m.erase a) h2.2 (fun x hx => (List.mem_erase_of_ne (fun e => h2.1 (by subst e; exact hx))).2 (hs x (List.mem_cons_of_mem _ hx)))
  have hm := hs a (List.mem_cons_self ..)
  rw [List.length_erase_of_mem hm] at h3
  have : 0 < m.length := List.length_pos_of_mem hm
  rw [List.length_cons]
  omega
structure SmpG where
 k : Nat
 ps : List (List UInt8 × Nat)
 vp : Value
 ep : List Blk
 kvs : List (Value × Value)
structure SmpI (N HD : Nat) (g : SmpG) : Prop where
 le : g.k ≤ N
 len : g.ps.length ≤ g.k
 own : Own 104 2 g.vp g.ps.length (pthC g.ps) g.ep
 map : MapS keyT g.kvs (g.ps.map (·.1))
 ok : ∀ p ∈ g.ps, Pt.pathF p.1 = true ∧ p.2 ≠ 0 ∧ p.2 &&& HD = p.2 ∧ p.2 &&& 2047 = p.2
 nd : (g.ps.map (·.1)).Nodup
 dir : ∀ p ∈ g.ps, p.1 ∈ dirL
structure SmqG where
 k : Nat
 ps : List (Nat × Nat)
 vp : Value
 ep : List Blk
 kvs : List (Value × Value)
structure SmqI (N HD : Nat) (g : SmqG) : Prop where
 le : g.k ≤ N
 len : g.ps.length ≤ g.k
 own : Own 106 2 g.vp g.ps.length (porC g.ps) g.ep
 map : MapS keyP g.kvs (g.ps.map (·.1))
 ok : ∀ p ∈ g.ps, p.1 < 65536 ∧ p.2 ≠ 0 ∧ p.2 &&& HD = p.2 ∧ p.2 &&& 49152 = p.2
 nd : (g.ps.map (·.1)).Nodup
 dir : ∀ p ∈ g.ps, p.1 ∈ [80, 81, 82, 83]
set_option maxHeartbeats 2000000 in
theorem smpol_c {S w0 L} (s : SPol) (h : s.ok) (vr vp vg vq : Value) (hS : SPolS L s vr vp vg vq) :
  Fn Tryz.prog 12 #[.agg #[.int .u8 s.nm, .int .u8 s.df, .int .u8 s.en, vr, .int .u16 (s.hd : Nat), vp, vg, vq]] S w0 L fun v L' => ∃ (d : PoD) (P : Pol), v = .agg (polC P d.vr d.vp d.vq).toArray ∧ d.ok P ∧ PolOk P ∧ PolRn P ∧ (P.hd = s.hd &&& 51199 ∧ P.rules.length ≤ 12 ∧ P.paths.length ≤ s.paths.length ∧ P.ports.length ≤ s.ports.length) ∧ d.blocks ++ L = L' := by
 obtain ⟨⟨ra, rc, zz, rfl, hrs, hrg⟩, ⟨pa, pc, rfl, hps⟩, ⟨ga, gc, rfl, hgs⟩, ⟨qa, qc, rfl, hqs⟩, hl1, hl2, hl3, hl4⟩ := hS
 obtain ⟨nm, df, en, rules, hd, paths, rights, ports⟩ := s
 obtain ⟨hnm, hdf, hen, hrules, hhd, hpaths, hrights, hports⟩ := h
 dsimp only at *
 obtain ⟨n0, hn0, hw0⟩ := nmC_at (nm % 3).toNat (by omega)
 have hac := fun (L : List Blk) => action_s (S:=S) (w0:=w0) (L:=L) df en hdf hen
 have hrc := fun (L : List Blk) => rcalls_c (S:=S) (w0:=w0) (L:=L)
 unfold maxLen at hl1 hl2 hl3 hl4
 refine Fn1 Tryz.func12 Tryz.ntmps12 rfl rfl ?_
 repeat' (first | (refine h3s (id:=2) ?_) | refine h0i ?_ | refine h0b ?_ | (refine gR 0 ?_ <;> (try refine h0c ?_; (refine h2n (t:=48) rfl rfl ?_; intro nb hnb; (try simp only [Value.cells]))) <;> (try refine h0c ?_; (refine h0k (t:=36) rfl Tryz.zeroValue36 ?_; intro nb hnb; (try simp only [Value.cells]))) <;> (try refine h0a ?_)) | (refine gR 1 ?_ <;> (try refine h0c ?_; (refine q_c 24 (c:=by apply hrc) (h:=?_); rintro _ _ ⟨nbC, rfl, rfl⟩; (try simp only [zzE, zzF]))) <;> (try refine p_a (h:=h0a ?_))))
 refine ⟨?_⟩
 rename_i n1 _
 obtain ⟨n2, rfl⟩ : ∃ x, x = nb := ⟨_, rfl⟩
 have hn0' : (#[.string ⟨#[112]⟩, .string ⟨#[112, 111, 108, 45, 49]⟩, .string ⟨#[120, 95, 121]⟩] : Array Value).toList[(nm % 3).toNat]? = some (.string (mB8 n0)) := hn0
 have hrf := fun (L : List Blk) (i1 i2 b2 : Nat) (wr wq : Value) (wp : Value) (pn : ByteArray) (pd : Int) (hd' : Nat) a b c => rights_s (S:=S) (w0:=w0) (L:=L) i1 i2 n1 b2 nm df en (.slice ra rules.length rc) hd (.slice pa paths.length pc) ga gc rights (.slice qa ports.length qc) pn pd wr hd' wp wq a b c hrights hl3
 refine h2q (γ:=Nat × Int) (fun g => 0 ≤ g.2 ∧ h6d g.2 = true) (fun g => [(4, .pointer (some ⟨g.1, 0, none⟩))]) [(1, _), (2, _), (3, _)]
  (fun g => ⟨true, g.1, .cells #[.string (mB8 n0), .int .u32 g.2, .slice none 0 0, .int .u16 (iand (hd : Nat) 51199), .slice none 0 0, .slice none 0 0] 36 (0, 0)⟩ :: ⟨true, nbC, .cells callC.toArray 93 (0, 0)⟩ :: ⟨true, n2, .cells #[.string ⟨#[]⟩, .int .u32 0, .slice none 0 0, .int .u16 0, .slice none 0 0, .slice none 0 0] 36 (0, 0)⟩ :: smB n1 nm df en (.slice ra rules.length rc) hd (.slice pa paths.length pc) (.slice ga rights.length gc) (.slice qa ports.length qc) :: L) (.cons rfl (.cons rfl (.cons rfl .nil))) ?_ ?_
 ·repeat' (first | refine h0s ?_ | ((refine h1z (id:=2) (m:=17) (by kernel_rfl) rfl (q_u 1 (x:=by exact q_f fo_48_0) (h:=q_u 2 (x:=by exact q_l) (h:=q_u 3 (x:=by exact q_b (r:=by apply rb_rem; omega; omega; exact c_5)) (h:=q_u 6 (x:=by exact q_f fo_48_1) (h:=q_u 7 (x:=by exact q_l) (h:=q_u 8 (x:=by exact q_f fo_48_2) (h:=q_u 9 (x:=by exact q_l) (h:=q_u 11 (x:=by exact q_f fo_48_4) (h:=q_u 12 (x:=by exact q_l) (h:=?_))))))))))) <;> (try refine q_u 13 (x:=by exact q_b (r:=by refine h5w ?_ ?_; (focus (refine ⟨rfl, ⟨?_, ?_⟩⟩; omega; (focus (simp only [IntKind.bits]; omega)))); (focus (refine ⟨rfl, ⟨?_, ?_⟩⟩; omega; (focus (simp only [IntKind.bits]; omega)))))) (h:=?_)) <;> (try refine H_run3t (i:=0) (j:=10) (m:=15) rfl rfl rfl (by kernel_rfl) ?_ ?_ ?_ <;> (first | (refine TagA.mk ?_; (((refine h0m (t:=56) (m:=3) (e:=9) (fun vs => (match vs with | [(_, x0), (_, x1), (_, x2)] => [x0, x1, x2] | _ => [])) rfl rfl (fun w => by kernel_rfl) ?_; intro nb hnb; (try simp only [Value.cells]); (try simp only [zzC, zzN])); refine h1b h5c ?_) <;> (try refine q_t 4 (e:=h5c) (x:=by apply h0n; exact rfl; exact rfl; (focus (apply h2j Tryz.underlying56 sz_9; omega; omega; exact c_1))) (h:=?_)) <;> (try refine H_run3t (i:=5) (j:=10) (m:=15) rfl rfl rfl (by kernel_rfl) ?_ ?_ ?_ <;> (first | (refine TagA.mk ?_; (((refine q_k (by apply h1v (t:=9); exact rfl; exact fd0; kernel_rfl; kernel_rfl; (with_reducible assumption)) ?_); refine h1b h5c ?_) <;> (try refine h2g (i:=10) (j:=15) rfl rfl (by kernel_rfl) ?_ ?_ <;> (first | (refine TagA.mk ?_; (((refine q_c 25 (c:=by apply hac) (h:=?_); rintro _ _ ⟨act, rfl, hact, rfl⟩; (try simp only [zzE, zzF])); refine h1b h5c ?_) <;> (try refine q_t 14 (e:=h5c) (x:=by exact h0q (t:=36) (fun vs => (match vs with | [(_, x0), (_, x1), (_, x2)] => [x0, x1, Value.slice none 0 0, x2, Value.slice none 0 0, Value.slice none 0 0] | _ => [])) rfl (fun w => by kernel_rfl)) (h:=?_); (try simp only [Value.cells]); (try simp only [zzC, zzN])) <;> (try refine q_r 15 ?_; (refine h0k (t:=36) rfl Tryz.zeroValue36 ?_; intro nb hnb; (try simp only [Value.cells])); refine h1b h5c ?_) <;> (try refine q_r 16 ?_; (refine q_W ?_); refine h1b h5c ?_) <;> (try refine h1a (by kernel_rfl) ?_))) | (refine TagB.mk ?_; (((refine h0k (t:=36) rfl Tryz.zeroValue36 ?_; intro nb hnb; (try simp only [Value.cells])); refine h1b h5c ?_) <;> (try refine q_r 10 ?_; (refine q_c 25 (c:=by apply hac) (h:=?_); rintro _ _ ⟨act, rfl, hact, rfl⟩; (try simp only [zzE, zzF])); refine h1b h5c ?_) <;> (try refine q_t 14 (e:=h5c) (x:=by exact h0q (t:=36) (fun vs => (match vs with | [(_, x0), (_, x1), (_, x2)] => [x0, x1, Value.slice none 0 0, x2, Value.slice none 0 0, Value.slice none 0 0] | _ => [])) rfl (fun w => by kernel_rfl)) (h:=?_); (try simp only [Value.cells]); (try simp only [zzC, zzN])) <;> (try refine q_r 16 ?_; (refine q_W ?_); refine h1b h5c ?_) <;> (try refine h1a (by kernel_rfl) ?_))))))) | (refine TagB.mk ?_; (((refine q_c 25 (c:=by apply hac) (h:=?_); rintro _ _ ⟨act, rfl, hact, rfl⟩; (try simp only [zzE, zzF])); refine h1b h5c ?_) <;> (try refine h2g (i:=5) (j:=15) rfl rfl (by kernel_rfl) ?_ ?_ <;> (first | (refine TagA.mk ?_; (((refine q_k (by apply h1v (t:=9); exact rfl; exact fd0; kernel_rfl; kernel_rfl; (with_reducible assumption)) ?_); refine h1b h5c ?_) <;> (try refine q_t 14 (e:=h5c) (x:=by exact h0q (t:=36) (fun vs => (match vs with | [(_, x0), (_, x1), (_, x2)] => [x0, x1, Value.slice none 0 0, x2, Value.slice none 0 0, Value.slice none 0 0] | _ => [])) rfl (fun w => by kernel_rfl)) (h:=?_); (try simp only [Value.cells]); (try simp only [zzC, zzN])) <;> (try refine q_r 15 ?_; (refine h0k (t:=36) rfl Tryz.zeroValue36 ?_; intro nb hnb; (try simp only [Value.cells])); refine h1b h5c ?_) <;> (try refine q_r 16 ?_; (refine q_W ?_); refine h1b h5c ?_) <;> (try refine h1a (by kernel_rfl) ?_))) | (refine TagB.mk ?_; (((refine h0k (t:=36) rfl Tryz.zeroValue36 ?_; intro nb hnb; (try simp only [Value.cells])); refine h1b h5c ?_) <;> (try refine q_r 5 ?_; (refine q_k (by apply h1v (t:=9); exact rfl; exact h3i; kernel_rfl; kernel_rfl; (with_reducible assumption)) ?_); refine h1b h5c ?_) <;> (try refine q_t 14 (e:=h5c) (x:=by exact h0q (t:=36) (fun vs => (match vs with | [(_, x0), (_, x1), (_, x2)] => [x0, x1, Value.slice none 0 0, x2, Value.slice none 0 0, Value.slice none 0 0] | _ => [])) rfl (fun w => by kernel_rfl)) (h:=?_); (try simp only [Value.cells]); (try simp only [zzC, zzN])) <;> (try refine q_r 16 ?_; (refine q_W ?_); refine h1b h5c ?_) <;> (try refine h1a (by kernel_rfl) ?_))))))) | (refine TagC.mk ?_; (((refine h0k (t:=36) rfl Tryz.zeroValue36 ?_; intro nb hnb; (try simp only [Value.cells])); refine h1b h5c ?_) <;> (try refine h2g (i:=5) (j:=10) rfl rfl (by kernel_rfl) ?_ ?_ <;> (first | (refine TagA.mk ?_; (((refine q_k (by apply h1v (t:=9); exact rfl; exact h3i; kernel_rfl; kernel_rfl; (with_reducible assumption)) ?_); refine h1b h5c ?_) <;> (try refine q_r 10 ?_; (refine q_c 25 (c:=by apply hac) (h:=?_); rintro _ _ ⟨act, rfl, hact, rfl⟩; (try simp only [zzE, zzF])); refine h1b h5c ?_) <;> (try refine q_t 14 (e:=h5c) (x:=by exact h0q (t:=36) (fun vs => (match vs with | [(_, x0), (_, x1), (_, x2)] => [x0, x1, Value.slice none 0 0, x2, Value.slice none 0 0, Value.slice none 0 0] | _ => [])) rfl (fun w => by kernel_rfl)) (h:=?_); (try simp only [Value.cells]); (try simp only [zzC, zzN])) <;> (try refine q_r 16 ?_; (refine q_W ?_); refine h1b h5c ?_) <;> (try refine h1a (by kernel_rfl) ?_))) | (refine TagB.mk ?_; (((refine q_c 25 (c:=by apply hac) (h:=?_); rintro _ _ ⟨act, rfl, hact, rfl⟩; (try simp only [zzE, zzF])); refine h1b h5c ?_) <;> (try refine q_r 5 ?_; (refine q_k (by apply h1v (t:=9); exact rfl; exact h3i; kernel_rfl; kernel_rfl; (with_reducible assumption)) ?_); refine h1b h5c ?_) <;> (try refine q_t 14 (e:=h5c) (x:=by exact h0q (t:=36) (fun vs => (match vs with | [(_, x0), (_, x1), (_, x2)] => [x0, x1, Value.slice none 0 0, x2, Value.slice none 0 0, Value.slice none 0 0] | _ => [])) rfl (fun w => by kernel_rfl)) (h:=?_); (try simp only [Value.cells]); (try simp only [zzC, zzN])) <;> (try refine q_r 16 ?_; (refine q_W ?_); refine h1b h5c ?_) <;> (try refine h1a (by kernel_rfl) ?_))))))))))) | (refine TagB.mk ?_; (((refine q_c 25 (c:=by apply hac) (h:=?_); rintro _ _ ⟨act, rfl, hact, rfl⟩; (try simp only [zzE, zzF])); refine h1b (fun _ H => H) ?_) <;> (try refine h2g (i:=0) (j:=15) rfl rfl (by kernel_rfl) ?_ ?_ <;> (first | (refine TagA.mk ?_; (((refine h0m (t:=56) (m:=3) (e:=9) (fun vs => (match vs with | [(_, x0), (_, x1), (_, x2)] => [x0, x1, x2] | _ => [])) rfl rfl (fun w => by kernel_rfl) ?_; intro nb hnb; (try simp only [Value.cells]); (try simp only [zzC, zzN])); refine h1b h5c ?_) <;> (try refine q_t 4 (e:=h5c) (x:=by apply h0n; exact rfl; exact rfl; (focus (apply h2j Tryz.underlying56 sz_9; omega; omega; exact c_1))) (h:=?_)) <;> (try refine h2g (i:=5) (j:=15) rfl rfl (by kernel_rfl) ?_ ?_ <;> (first | (refine TagA.mk ?_; (((refine q_k (by apply h1v (t:=9); exact rfl; exact fd0; kernel_rfl; kernel_rfl; (with_reducible assumption)) ?_); refine h1b h5c ?_) <;> (try refine q_t 14 (e:=h5c) (x:=by exact h0q (t:=36) (fun vs => (match vs with | [(_, x0), (_, x1), (_, x2)] => [x0, x1, Value.slice none 0 0, x2, Value.slice none 0 0, Value.slice none 0 0] | _ => [])) rfl (fun w => by kernel_rfl)) (h:=?_); (try simp only [Value.cells]); (try simp only [zzC, zzN])) <;> (try refine q_r 15 ?_; (refine h0k (t:=36) rfl Tryz.zeroValue36 ?_; intro nb hnb; (try simp only [Value.cells])); refine h1b h5c ?_) <;> (try refine q_r 16 ?_; (refine q_W ?_); refine h1b h5c ?_) <;> (try refine h1a (by kernel_rfl) ?_))) | (refine TagB.mk ?_; (((refine h0k (t:=36) rfl Tryz.zeroValue36 ?_; intro nb hnb; (try simp only [Value.cells])); refine h1b h5c ?_) <;> (try refine q_r 5 ?_; (refine q_k (by apply h1v (t:=9); exact rfl; exact h3i; kernel_rfl; kernel_rfl; (with_reducible assumption)) ?_); refine h1b h5c ?_) <;> (try refine q_t 14 (e:=h5c) (x:=by exact h0q (t:=36) (fun vs => (match vs with | [(_, x0), (_, x1), (_, x2)] => [x0, x1, Value.slice none 0 0, x2, Value.slice none 0 0, Value.slice none 0 0] | _ => [])) rfl (fun w => by kernel_rfl)) (h:=?_); (try simp only [Value.cells]); (try simp only [zzC, zzN])) <;> (try refine q_r 16 ?_; (refine q_W ?_); refine h1b h5c ?_) <;> (try refine h1a (by kernel_rfl) ?_))))))) | (refine TagB.mk ?_; (((refine h0k (t:=36) rfl Tryz.zeroValue36 ?_; intro nb hnb; (try simp only [Value.cells])); refine h1b h5c ?_) <;> (try refine q_r 0 ?_; (refine h0m (t:=56) (m:=3) (e:=9) (fun vs => (match vs with | [(_, x0), (_, x1), (_, x2)] => [x0, x1, x2] | _ => [])) rfl rfl (fun w => by kernel_rfl) ?_; intro nb hnb; (try simp only [Value.cells]); (try simp only [zzC, zzN])); refine h1b h5c ?_) <;> (try refine q_t 4 (e:=h5c) (x:=by apply h0n; exact rfl; exact rfl; (focus (apply h2j Tryz.underlying56 sz_9; omega; omega; exact c_1))) (h:=?_)) <;> (try refine q_r 5 ?_; (refine q_k (by apply h1v (t:=9); exact rfl; exact fd0; kernel_rfl; kernel_rfl; (with_reducible assumption)) ?_); refine h1b h5c ?_) <;> (try refine q_t 14 (e:=h5c) (x:=by exact h0q (t:=36) (fun vs => (match vs with | [(_, x0), (_, x1), (_, x2)] => [x0, x1, Value.slice none 0 0, x2, Value.slice none 0 0, Value.slice none 0 0] | _ => [])) rfl (fun w => by kernel_rfl)) (h:=?_); (try simp only [Value.cells]); (try simp only [zzC, zzN])) <;> (try refine q_r 16 ?_; (refine q_W ?_); refine h1b h5c ?_) <;> (try refine h1a (by kernel_rfl) ?_))))))) | (refine TagC.mk ?_; (((refine h0k (t:=36) rfl Tryz.zeroValue36 ?_; intro nb hnb; (try simp only [Value.cells])); refine h1b h5c ?_) <;> (try refine h2g (i:=0) (j:=10) rfl rfl (by kernel_rfl) ?_ ?_ <;> (first | (refine TagA.mk ?_; (((refine h0m (t:=56) (m:=3) (e:=9) (fun vs => (match vs with | [(_, x0), (_, x1), (_, x2)] => [x0, x1, x2] | _ => [])) rfl rfl (fun w => by kernel_rfl) ?_; intro nb hnb; (try simp only [Value.cells]); (try simp only [zzC, zzN])); refine h1b h5c ?_) <;> (try refine q_t 4 (e:=h5c) (x:=by apply h0n; exact rfl; exact rfl; (focus (apply h2j Tryz.underlying56 sz_9; omega; omega; exact c_1))) (h:=?_)) <;> (try refine h2g (i:=5) (j:=10) rfl rfl (by kernel_rfl) ?_ ?_ <;> (first | (refine TagA.mk ?_; (((refine q_k (by apply h1v (t:=9); exact rfl; exact fd0; kernel_rfl; kernel_rfl; (with_reducible assumption)) ?_); refine h1b h5c ?_) <;> (try refine q_r 10 ?_; (refine q_c 25 (c:=by apply hac) (h:=?_); rintro _ _ ⟨act, rfl, hact, rfl⟩; (try simp only [zzE, zzF])); refine h1b h5c ?_) <;> (try refine q_t 14 (e:=h5c) (x:=by exact h0q (t:=36) (fun vs => (match vs with | [(_, x0), (_, x1), (_, x2)] => [x0, x1, Value.slice none 0 0, x2, Value.slice none 0 0, Value.slice none 0 0] | _ => [])) rfl (fun w => by kernel_rfl)) (h:=?_); (try simp only [Value.cells]); (try simp only [zzC, zzN])) <;> (try refine q_r 16 ?_; (refine q_W ?_); refine h1b h5c ?_) <;> (try refine h1a (by kernel_rfl) ?_))) | (refine TagB.mk ?_; (((refine q_c 25 (c:=by apply hac) (h:=?_); rintro _ _ ⟨act, rfl, hact, rfl⟩; (try simp only [zzE, zzF])); refine h1b h5c ?_) <;> (try refine q_r 5 ?_; (refine q_k (by apply h1v (t:=9); exact rfl; exact fd0; kernel_rfl; kernel_rfl; (with_reducible assumption)) ?_); refine h1b h5c ?_) <;> (try refine q_t 14 (e:=h5c) (x:=by exact h0q (t:=36) (fun vs => (match vs with | [(_, x0), (_, x1), (_, x2)] => [x0, x1, Value.slice none 0 0, x2, Value.slice none 0 0, Value.slice none 0 0] | _ => [])) rfl (fun w => by kernel_rfl)) (h:=?_); (try simp only [Value.cells]); (try simp only [zzC, zzN])) <;> (try refine q_r 16 ?_; (refine q_W ?_); refine h1b h5c ?_) <;> (try refine h1a (by kernel_rfl) ?_))))))) | (refine TagB.mk ?_; (((refine q_c 25 (c:=by apply hac) (h:=?_); rintro _ _ ⟨act, rfl, hact, rfl⟩; (try simp only [zzE, zzF])); refine h1b h5c ?_) <;> (try refine q_r 0 ?_; (refine h0m (t:=56) (m:=3) (e:=9) (fun vs => (match vs with | [(_, x0), (_, x1), (_, x2)] => [x0, x1, x2] | _ => [])) rfl rfl (fun w => by kernel_rfl) ?_; intro nb hnb; (try simp only [Value.cells]); (try simp only [zzC, zzN])); refine h1b h5c ?_) <;> (try refine q_t 4 (e:=h5c) (x:=by apply h0n; exact rfl; exact rfl; (focus (apply h2j Tryz.underlying56 sz_9; omega; omega; exact c_1))) (h:=?_)) <;> (try refine q_r 5 ?_; (refine q_k (by apply h1v (t:=9); exact rfl; exact fd0; kernel_rfl; kernel_rfl; (with_reducible assumption)) ?_); refine h1b h5c ?_) <;> (try refine q_t 14 (e:=h5c) (x:=by exact h0q (t:=36) (fun vs => (match vs with | [(_, x0), (_, x1), (_, x2)] => [x0, x1, Value.slice none 0 0, x2, Value.slice none 0 0, Value.slice none 0 0] | _ => [])) rfl (fun w => by kernel_rfl)) (h:=?_); (try simp only [Value.cells]); (try simp only [zzC, zzN])) <;> (try refine q_r 16 ?_; (refine q_W ?_); refine h1b h5c ?_) <;> (try refine h1a (by kernel_rfl) ?_)))))))))))
  all_goals exact h0w (_, act) hact (by (focus (repeat (first | exact Sub.nil | refine Sub.cons rfl ?_)))) c_23
 clear hac hrc hn0 hn0'
 rintro ⟨n4, act⟩ ⟨hact0, hact⟩
 dsimp only
 rw [show iand ((hd : Nat) : Int) 51199 = ((hd &&& 51199 : Nat) : Int) from rfl]
 have hhd2 : hd &&& 51199 < 65536 := by have := Nat.and_le_left (n:=hd) (m:=51199); omega
 repeat' (first | (refine h2h (id:=0) ?_) | refine h0i ?_ | refine h0b ?_ | (refine gR 3 (p_e (q_f fo_48_3) (h:=p_e q_l (h:=p_e (by apply h0e; exact rfl; exact (fun _ => BigFrame.builtin_len ..); apply h0d Tryz.underlying44; exact h3m) (h:=p_m (h:=h0a ?_)))))))
 refine ⟨?_⟩
 refine h2q (γ:=SmG) (SmI 12) (fun _ => []) [(1, _), (2, _), (4, _)]
  (fun g => g.er ++ (pcB n4 (mB8 n0) act g.vr (hd &&& 51199) (.slice none 0 0) (.slice none 0 0) :: ⟨true, n2, .cells #[.string ⟨#[]⟩, .int .u32 0, .slice none 0 0, .int .u16 0, .slice none 0 0, .slice none 0 0] 36 (0, 0)⟩ :: smB n1 nm df en (.slice ra rules.length rc) hd (.slice pa paths.length pc) (.slice ga rights.length gc) (.slice qa ports.length qc) :: (g.ec ++ L))) (.cons rfl (.cons rfl (.cons rfl .nil))) ?_ ?_
 ·refine h0j ?_
  refine h2i (γ:=SmG) (SmI rules.length) (fun g => rules.length - g.k) (fun g => [(40, .int .i64 (g.k : Nat))]) [(1, _), (2, _), (3, _), (4, _), (38, _), (39, _)]
   (fun g => g.er ++ (pcB n4 (mB8 n0) act g.vr (hd &&& 51199) (.slice none 0 0) (.slice none 0 0) :: ⟨true, nbC, .cells callC.toArray 93 (0, 0)⟩ :: ⟨true, n2, .cells #[.string ⟨#[]⟩, .int .u32 0, .slice none 0 0, .int .u16 0, .slice none 0 0, .slice none 0 0] 36 (0, 0)⟩ :: smB n1 nm df en (.slice ra rules.length rc) hd (.slice pa paths.length pc) (.slice ga rights.length gc) (.slice qa ports.length qc) :: (g.ec ++ L))) ⟨0, [], [], .slice none 0 0, [], []⟩ (.cons rfl (.cons rfl (.cons rfl (.cons rfl (.cons rfl (.cons rfl .nil)))))) ⟨Nat.zero_le _, rfl, Nat.zero_le _, .nil, Own.nil _ _, fun _ h => by cases h⟩ (by (focus (repeat (first | exact Sub.nil | refine Sub.cons rfl ?_)))) (fun _ H => H) ?_
  rintro ⟨k, rs, cz, vr, er, ec⟩ ⟨hk, hlen, hk2, hrsR, hown, hok⟩
  dsimp only at hk hlen hk2 hrsR hown hok ⊢
  by_cases hlt : k < rules.length
  case neg =>
   obtain ⟨va, vc, rfl, -⟩ := hown.sli []
   repeat' (first | refine h0i ?_ | refine h0b ?_ | refine h0s ?_ | refine h1p ?_ | refine h1f ?_ | refine h1o ?_ | refine h2c ?_ | refine h0f rfl ?_ | (refine gR 4 (p_e (q_b (r:=by exact h0y q_o)) (h:=h0a ?_))))
   exact h0w ⟨k, rs, cz, _, er, ec⟩ ⟨hk2, hlen, hk2, hrsR, hown, hok⟩ (by (focus (repeat (first | exact Sub.nil | refine Sub.cons rfl ?_)))) (by intro w H; refine Sel.out ?_ H; (try simp only [List.cons_append, List.nil_append, List.append_assoc]); repeat (first | exact Sel.refl _ | exact Sel.nil _ | (with_reducible apply Sel.appS) | (apply Sel.cons; (focus (repeat (first | exact fd0 | (with_reducible assumption) | apply fdA | apply fdS))); (try simp only [zzE, zzF])) | apply Sel.drop | apply Sel.dropA))
  obtain ⟨j, q, bb, off, cs, T, fr, rfl, hj, hsz, hx⟩ := hrs.elem hlt
  obtain ⟨v, hv, hcs⟩ := hrg.at_ k hlt
  rw [hv] at hx
  have hrk := hrules _ (List.getElem_mem hlt)
  obtain ⟨ca, cc, rfl, hsc, hcl⟩ := hcs
  clear hv
  generalize rules[k] = r at *
  obtain ⟨rc1, ra1, re1, cds⟩ := r
  obtain ⟨hr1, hr2, hr3, hr4⟩ := hrk
  dsimp only at *
  obtain ⟨num, hnu, hnc, hnl⟩ := callC_at (rc1 % 30).toNat (by omega)
  have hac := fun (L : List Blk) => action_s (S:=S) (w0:=w0) (L:=L) ra1 re1 hr2 hr3
  obtain ⟨va, vc, rfl, -⟩ := hown.sli []
  have hcz : callC.toArray.size = 90 := by kernel_rfl
  generalize callC.toArray = CC at *
  by_cases h12 : 12 ≤ k
  ·repeat' (first | refine h0i ?_ | refine h0b ?_ | refine h0s ?_ | refine h1p ?_ | refine h1f ?_ | refine h1o ?_ | refine G_blk_y rfl ?_ | refine h0j ?_ | refine h0r ?_ | refine h2c ?_ | refine h0g rfl ?_ | (refine gR 4 (p_e (q_b (r:=by exact h0u q_o)) (h:=h0a ?_))) | (refine gR 5 (p_m (h:=p_e (by apply h0n; exact rfl; exact rfl; (focus (apply h2j Tryz.underlying44 sz_91; omega; omega; exact c_1))) (h:=q_e (by apply h1u (t:=91); exact rfl; (focus (repeat (first | (with_reducible assumption) | apply fdA | apply fdS))); kernel_rfl; kernel_rfl; exact sz_91; (with_reducible assumption); (with_reducible assumption)) ?_))) <;> (try refine h0c ?_; (refine h0k (t:=91) rfl Tryz.zeroValue91 ?_; intro nb hnb; (try simp only [Value.cells]))) <;> (try refine q_a ?_) <;> (try refine h0c ?_; (refine q_W ?_)) <;> (try refine h0a ?_)) | (refine gR 6 (p_m (h:=p_e (q_b (r:=by exact rb_geq_t q_o)) (h:=h0a ?_)))))
   exact h0w ⟨k, rs, cz, _, er, ec⟩ ⟨hk2, hlen, hk2, hrsR, hown, hok⟩ (by (focus (repeat (first | exact Sub.nil | refine Sub.cons rfl ?_)))) (by intro w H; refine Sel.out ?_ H; (try simp only [List.cons_append, List.nil_append, List.append_assoc]); repeat (first | exact Sel.refl _ | exact Sel.nil _ | (with_reducible apply Sel.appS) | (apply Sel.cons; (focus (repeat (first | exact fd0 | (with_reducible assumption) | apply fdA | apply fdS))); (try simp only [zzE, zzF])) | apply Sel.drop | apply Sel.dropA))
  repeat' (first | (refine h3s (id:=7) ?_) | refine h0i ?_ | refine h0b ?_ | refine h0j ?_ | refine h0r ?_ | refine h0g rfl ?_ | refine h0f rfl ?_ | (refine gR 4 (p_e (q_b (r:=by exact h0u q_o)) (h:=h0a ?_))) | (refine gR 5 (p_m (h:=p_e (by apply h0n; exact rfl; exact rfl; (focus (apply h2j Tryz.underlying44 sz_91; omega; omega; exact c_1))) (h:=q_e (by apply h1u (t:=91); exact rfl; (focus (repeat (first | (with_reducible assumption) | apply fdA | apply fdS))); kernel_rfl; kernel_rfl; exact sz_91; (with_reducible assumption); (with_reducible assumption)) ?_))) <;> (try refine h0c ?_; (refine h0k (t:=91) rfl Tryz.zeroValue91 ?_; intro nb hnb; (try simp only [Value.cells]))) <;> (try refine q_a ?_) <;> (try refine h0c ?_; (refine q_W ?_)) <;> (try refine h0a ?_)) | (refine gR 6 (p_m (h:=p_e (q_b (r:=by exact rb_geq_f q_o)) (h:=h0a ?_)))))
  refine ⟨?_⟩
  obtain ⟨n6, rfl⟩ : ∃ x, x = nb := ⟨_, rfl⟩
  refine h2q (γ:=Nat × Int) (fun g => 0 ≤ g.2 ∧ h6d g.2 = true) (fun g => [(7, .pointer (some ⟨g.1, 0, none⟩))]) [(1, _), (2, _), (3, _), (4, _), (6, _), (38, _), (39, _), (40, _)]
   (fun g => rlB g.1 (num : Nat) g.2 (.slice none 0 0) :: ⟨true, n6, .cells #[.int .u8 rc1, .int .u8 ra1, .int .u8 re1, .slice ca cds.length cc] 91 (0, 0)⟩ :: (er ++ (pcB n4 (mB8 n0) act (.slice va rs.length vc) (hd &&& 51199) (.slice none 0 0) (.slice none 0 0) :: ⟨true, nbC, .cells CC 93 (0, 0)⟩ :: ⟨true, n2, .cells #[.string ⟨#[]⟩, .int .u32 0, .slice none 0 0, .int .u16 0, .slice none 0 0, .slice none 0 0] 36 (0, 0)⟩ :: smB n1 nm df en (.slice (some ⟨bb, off, none⟩) rules.length rc) hd (.slice pa paths.length pc) (.slice ga rights.length gc) (.slice qa ports.length qc) :: (ec ++ L)))) (.cons rfl (.cons rfl (.cons rfl (.cons rfl (.cons rfl (.cons rfl (.cons rfl (.cons rfl .nil)))))))) ?_ ?_
  ·repeat' (first | refine h0s ?_ | ((refine h1z (id:=7) (m:=19) (by kernel_rfl) rfl (q_u 0 (x:=by exact h0h rfl) (h:=q_u 1 (x:=by exact q_f fo_91_0) (h:=q_u 2 (x:=by exact q_l) (h:=?_))))) <;> (try refine q_u 3 (x:=by apply h3t; exact rfl; (focus (apply h3u Tryz.underlying5 Tryz.underlying3; first | (refine IntWalk.i64_in _ ?_; omega) | (refine IntWalk.u8_in _ ?_; omega) | (refine IntWalk.u16_in _ ?_; omega) | (refine IntWalk.u32_in _ ?_; omega) | (refine IntWalk.u64_in _ ?_; omega) | (refine IntWalk.i32_in _ ?_; omega) | exact rfl))) (h:=?_)) <;> (try refine q_u 4 (x:=by exact h0h rfl) (h:=q_u 5 (x:=by apply h0e; exact rfl; exact (fun _ => BigFrame.builtin_len ..); apply h0d Tryz.underlying86; exact h3m) (h:=q_u 6 (x:=by exact q_b (r:=by apply rb_rem; omega; omega; exact c_5)) (h:=q_u 7 (x:=by apply h0n; exact rfl; exact rfl; (focus (apply h2j Tryz.underlying86 sz_93; omega; omega; exact c_1))) (h:=q_u 8 (x:=by exact q_g fo_93_0) (h:=q_u 9 (x:=by apply h1v (t:=3); exact rfl; (focus (repeat (first | exact fd0 | apply fdA | apply fdS))); kernel_rfl; kernel_rfl; (with_reducible assumption)) (h:=?_))))))) <;> (try refine q_u 10 (x:=by apply h3t; exact rfl; (focus (apply h3u Tryz.underlying3 Tryz.underlying28; first | (refine IntWalk.i64_in _ ?_; omega) | (refine IntWalk.u8_in _ ?_; omega) | (refine IntWalk.u16_in _ ?_; omega) | (refine IntWalk.u32_in _ ?_; omega) | (refine IntWalk.u64_in _ ?_; omega) | (refine IntWalk.i32_in _ ?_; omega) | exact rfl))) (h:=?_)) <;> (try refine q_u 11 (x:=by exact q_f fo_91_1) (h:=q_u 12 (x:=by exact q_l) (h:=q_u 13 (x:=by exact q_f fo_91_2) (h:=q_u 14 (x:=by exact q_l) (h:=?_))))) <;> (try refine h2g (i:=15) (j:=17) rfl rfl (by kernel_rfl) ?_ ?_ <;> (first | (refine TagA.mk ?_; (((refine q_c 25 (c:=by apply hac) (h:=?_); rintro _ _ ⟨a2, rfl, ha2, rfl⟩; (try simp only [zzE, zzF])); refine h1b (fun _ H => H) ?_) <;> (try refine q_u 16 (x:=by exact h0q (t:=73) (fun vs => (match vs with | [(_, x0), (_, x1)] => [x0, x1, Value.slice none 0 0] | _ => [])) rfl (fun w => by kernel_rfl)) (h:=?_); (try simp only [Value.cells]); (try simp only [zzC, zzN])) <;> (try refine q_r 17 ?_; (refine h0k (t:=73) rfl Tryz.zeroValue73 ?_; intro nb hnb; (try simp only [Value.cells])); refine h1b h5c ?_) <;> (try refine q_r 18 ?_; (refine q_W ?_); refine h1b h5c ?_) <;> (try refine h1a (by kernel_rfl) ?_))) | (refine TagB.mk ?_; (((refine h0k (t:=73) rfl Tryz.zeroValue73 ?_; intro nb hnb; (try simp only [Value.cells])); refine h1b h5c ?_) <;> (try refine q_r 15 ?_; (refine q_c 25 (c:=by apply hac) (h:=?_); rintro _ _ ⟨a2, rfl, ha2, rfl⟩; (try simp only [zzE, zzF])); refine h1b h5c ?_) <;> (try refine q_t 16 (e:=h5c) (x:=by exact h0q (t:=73) (fun vs => (match vs with | [(_, x0), (_, x1)] => [x0, x1, Value.slice none 0 0] | _ => [])) rfl (fun w => by kernel_rfl)) (h:=?_); (try simp only [Value.cells]); (try simp only [zzC, zzN])) <;> (try refine q_r 18 ?_; (refine q_W ?_); refine h1b h5c ?_) <;> (try refine h1a (by kernel_rfl) ?_)))))))
   all_goals exact h0w (_, a2) ha2 (by (focus (repeat (first | exact Sub.nil | refine Sub.cons rfl ?_)))) c_28
  clear hac hnu hx
  rintro ⟨n7, a2⟩ ⟨ha20, ha2⟩
  dsimp only
  repeat' (first | (refine h2h (id:=2) ?_) | refine h0i ?_ | refine h0b ?_ | (refine gR 8 (p_e (q_f fo_91_3) (h:=p_e q_l (h:=p_e (by apply h0e; exact rfl; exact (fun _ => BigFrame.builtin_len ..); apply h0d Tryz.underlying89; exact h3m) (h:=p_m (h:=h0a ?_)))))))
  refine ⟨?_⟩
  refine h2q (γ:=List Cnd × Value × List Blk) (fun g => Own 99 4 g.2.1 g.1.length (cndC g.1) g.2.2 ∧ g.1.length ≤ 4 ∧ ∀ c ∈ g.1, CndG c) (fun _ => []) [(1, _), (2, _), (3, _), (4, _), (7, _), (38, _), (39, _), (40, _)]
   (fun g => g.2.2 ++ (rlB n7 (num : Nat) a2 g.2.1 :: (er ++ (pcB n4 (mB8 n0) act (.slice va rs.length vc) (hd &&& 51199) (.slice none 0 0) (.slice none 0 0) :: ⟨true, nbC, .cells CC 93 (0, 0)⟩ :: ⟨true, n2, .cells #[.string ⟨#[]⟩, .int .u32 0, .slice none 0 0, .int .u16 0, .slice none 0 0, .slice none 0 0] 36 (0, 0)⟩ :: smB n1 nm df en (.slice (some ⟨bb, off, none⟩) rules.length rc) hd (.slice pa paths.length pc) (.slice ga rights.length gc) (.slice qa ports.length qc) :: (ec ++ L))))) (.cons rfl (.cons rfl (.cons rfl (.cons rfl (.cons rfl (.cons rfl (.cons rfl (.cons rfl .nil)))))))) ?_ ?_
  ·refine h0j ?_
   refine h2i (γ:=Nat × List Cnd × Value × List Blk) (fun g => g.1 ≤ cds.length ∧ Own 99 4 g.2.2.1 g.2.1.length (cndC g.2.1) g.2.2.2 ∧ g.2.1.length = min g.1 4 ∧ ∀ c ∈ g.2.1, CndG c) (fun g => cds.length - g.1) (fun g => [(67, .int .i64 (g.1 : Nat))]) [(1, _), (2, _), (3, _), (4, _), (7, _), (38, _), (39, _), (40, _), (65, _), (66, _)]
    (fun g => g.2.2.2 ++ (rlB n7 (num : Nat) a2 g.2.2.1 :: (er ++ (pcB n4 (mB8 n0) act (.slice va rs.length vc) (hd &&& 51199) (.slice none 0 0) (.slice none 0 0) :: ⟨true, nbC, .cells CC 93 (0, 0)⟩ :: ⟨true, n2, .cells #[.string ⟨#[]⟩, .int .u32 0, .slice none 0 0, .int .u16 0, .slice none 0 0, .slice none 0 0] 36 (0, 0)⟩ :: smB n1 nm df en (.slice (some ⟨bb, off, none⟩) rules.length rc) hd (.slice pa paths.length pc) (.slice ga rights.length gc) (.slice qa ports.length qc) :: (ec ++ L))))) (0, [], .slice none 0 0, []) (.cons rfl (.cons rfl (.cons rfl (.cons rfl (.cons rfl (.cons rfl (.cons rfl (.cons rfl (.cons rfl (.cons rfl .nil)))))))))) ⟨Nat.zero_le _, Own.nil _ _, rfl, fun _ h => by cases h⟩ (by (focus (repeat (first | exact Sub.nil | refine Sub.cons rfl ?_)))) c_25 ?_
   rintro ⟨j, cs, v, e⟩ ⟨hj2, hown2, hl2', hcg⟩
   dsimp only at hj2 hown2 hl2' hcg ⊢
   by_cases hlt2 : j < cds.length
   case neg =>
    obtain ⟨sa, sc, rfl, -⟩ := hown2.sli []
    repeat' (first | refine h0i ?_ | refine h0b ?_ | refine h0s ?_ | refine h1p ?_ | refine h1f ?_ | refine h1o ?_ | refine h2c ?_ | refine h0f rfl ?_ | (refine gR 9 (p_e (q_b (r:=by exact h0y q_o)) (h:=h0a ?_))))
    exact h0w (cs, _, e) ⟨hown2, by dsimp only; omega, hcg⟩ (by (focus (repeat (first | exact Sub.nil | refine Sub.cons rfl ?_)))) (by intro w H; refine Sel.out ?_ H; (try simp only [List.cons_append, List.nil_append, List.append_assoc]); repeat (first | exact Sel.refl _ | exact Sel.nil _ | (with_reducible apply Sel.appS) | (apply Sel.cons; (focus (repeat (first | exact fd0 | (with_reducible assumption) | apply fdA | apply fdS))); (try simp only [zzE, zzF])) | apply Sel.drop | apply Sel.dropA))
   obtain ⟨j3, q3, bb3, off3, cs3, T3, fr3, rfl, hj3, hsz3, hx3⟩ := hsc.elem hlt2
   rw [scC_at _ _ hlt2] at hx3
   have hcj := hr4 _ (List.getElem_mem hlt2)
   generalize cds[j] = cd at *
   obtain ⟨xa, xo, xm, xv⟩ := cd
   obtain ⟨y1, y2, y3, y4⟩ := hcj
   dsimp only at y1 y2 y3 y4 hx3
   have hcd := fun (L : List Blk) => cond_s (S:=S) (w0:=w0) (L:=L) xa xo xm xv y1 y2 y3 y4
   unfold maxLen at hcl
   by_cases hj4 : j < 4
   case neg =>
    obtain ⟨sa, sc, rfl, -⟩ := hown2.sli []
    repeat' (first | refine h0i ?_ | refine h0b ?_ | refine h0s ?_ | refine h0x ?_ | refine h0j ?_ | refine h0r ?_ | refine h0g rfl ?_ | refine h0f rfl ?_ | (refine gR 9 (p_e (q_b (r:=by exact h0u q_o)) (h:=h0a ?_))) | (refine gR 10 (p_m (h:=p_e (by apply h0n; exact rfl; exact rfl; (focus (apply h2j Tryz.underlying89 sz_95; omega; omega; exact c_1))) (h:=q_e (by apply h1u (t:=95); exact rfl; (focus (repeat (first | (with_reducible assumption) | apply fdA | apply fdS))); kernel_rfl; kernel_rfl; exact sz_95; (with_reducible assumption); (with_reducible assumption)) ?_))) <;> (try refine h0c ?_; (refine h0k (t:=95) rfl Tryz.zeroValue95 ?_; intro nb hnb; (try simp only [Value.cells]))) <;> (try refine q_a ?_) <;> (try refine h0c ?_; (refine q_W ?_)) <;> (try refine h0a ?_)) | (refine gR 11 (p_m (h:=p_e (q_b (r:=by exact h0y q_o)) (h:=h0a ?_)))) | (refine gR 13 ?_ <;> (try refine q_e (q_b (r:=by apply h1n; exact c_5; (focus (refine IntWalk.i64_in _ ?_; omega)))) ?_) <;> (try refine p_m (h:=h0a ?_))))
    exact h0w (j + 1, cs, _, e) ⟨⟨by show j + 1 ≤ _; omega, hown2, by show cs.length = min (j + 1) 4; omega, hcg⟩, by show _ - (j + 1) < _ - j; omega⟩ (by (focus (repeat (first | exact Sub.nil | refine Sub.cons rfl ?_)))) (by intro w H; refine Sel.out ?_ H; (try simp only [List.cons_append, List.nil_append, List.append_assoc]); repeat (first | exact Sel.refl _ | exact Sel.nil _ | (with_reducible apply Sel.appS) | (apply Sel.cons; (focus (repeat (first | exact fd0 | (with_reducible assumption) | apply fdA | apply fdS))); (try simp only [zzE, zzF])) | apply Sel.drop | apply Sel.dropA))
   have hfi : ∀ (c : Cnd) v e, Own 99 4 v (cs.length + 1) (cndC cs ++ c.cells) e → Own 99 4 v (cs ++ [c]).length (cndC (cs ++ [c])) e := fun c v e h => by
    rw [cndC_snoc, List.length_append]; exact h
   have hl3' : ∀ c : Cnd, (cs ++ [c]).length = min (j + 1) 4 := fun c => by rw [List.length_append, hl2']; simp only [List.length_cons, List.length_nil]; omega
   rcases h2z hown2 with ⟨rfl, h0, hx, rfl⟩ | ⟨g, capg, cur, rfl, rfl, q1, q2, q3, q4⟩
   ·rw [hx] at hfi
    rw [h0] at hfi
    clear hown2
    (try simp only [zzC, zzN])
    repeat' (first | refine h0i ?_ | refine h0b ?_ | refine h0s ?_ | refine h0x ?_ | refine h0j ?_ | refine h0r ?_ | refine h0g rfl ?_ | (refine gR 9 (p_e (q_b (r:=by exact h0u q_o)) (h:=h0a ?_))) | (refine gR 10 (p_m (h:=p_e (by apply h0n; exact rfl; exact rfl; (focus (apply h2j Tryz.underlying89 sz_95; omega; omega; exact c_1))) (h:=q_e (by apply h1u (t:=95); exact rfl; (focus (repeat (first | (with_reducible assumption) | apply fdA | apply fdS))); kernel_rfl; kernel_rfl; exact sz_95; (with_reducible assumption); (with_reducible assumption)) ?_))) <;> (try refine h0c ?_; (refine h0k (t:=95) rfl Tryz.zeroValue95 ?_; intro nb hnb; (try simp only [Value.cells]))) <;> (try refine q_a ?_) <;> (try refine h0c ?_; (refine q_W ?_)) <;> (try refine h0a ?_)) | (refine gR 11 (p_m (h:=p_e (q_b (r:=by exact h0u q_o)) (h:=h0a ?_)))) | ((refine h2s (pre:=[]) (id:=12) (m:=8) rfl (by kernel_rfl) rfl (q_t 0 (e:=h2o) (x:=by exact q_f h2w) (h:=?_))) <;> (try refine h2g (i:=1) (j:=2) rfl rfl (by kernel_rfl) ?_ ?_ <;> (first | (refine TagA.mk ?_; (((refine q_k q_l ?_); refine h1b h2o ?_) <;> (try refine q_r 2 ?_; (refine q_k (q_L sz_95) ?_); refine h1b h2o ?_) <;> (try refine q_r 3 ?_; (refine q_c 26 (c:=by apply hcd) (h:=?_); rintro _ _ ⟨c2, rfl, hc2, rfl⟩; (try simp only [zzE, zzF])); refine h1b h2o ?_) <;> (try refine q_r 4 ?_; (refine h0m (t:=71) (m:=1) (e:=99) (fun vs => (match vs with | [(_, x0)] => x0.cells.toList | _ => [])) rfl rfl (fun w => by kernel_rfl) ?_; intro nb hnb; (try simp only [Value.cells]); (try simp only [zzC, zzN])); refine h1b h2o ?_) <;> (try refine q_r 5 ?_; (apply h2b; exact rfl; exact Tryz.underlying71; exact h4h; exact h4f; exact h4g; exact h4i; exact rfl; exact rfl; exact rfl; exact Own.nil _ _; exact fd0; exact Nat.le_of_ble_eq_true rfl; exact h6c; exact rfl; exact h5t; omega; (exact fun _ H => H); exact rfl; exact h5x; exact c_4; intro vA eA hownA; obtain ⟨gA, capA, curA, rfl, rfl, hA1, hA2, hA3, hA4⟩ := hownA.some (by omega); (try simp only [zzC, zzN])); refine h1b h2o ?_) <;> (try refine q_t 6 (e:=h2o) (x:=by exact q_f h2w) (h:=?_)) <;> (try refine q_r 7 ?_; (refine q_S ?_); refine h1b h2o ?_) <;> (try refine h1a (by kernel_rfl) ?_))) | (refine TagB.mk ?_; (((refine q_k (q_L sz_95) ?_); refine h1b h2o ?_) <;> (try refine h2g (i:=1) (j:=3) rfl rfl (by kernel_rfl) ?_ ?_ <;> (first | (refine TagA.mk ?_; (((refine q_k q_l ?_); refine h1b h2o ?_) <;> (try refine q_r 3 ?_; (refine q_c 26 (c:=by apply hcd) (h:=?_); rintro _ _ ⟨c2, rfl, hc2, rfl⟩; (try simp only [zzE, zzF])); refine h1b h2o ?_) <;> (try refine q_r 4 ?_; (refine h0m (t:=71) (m:=1) (e:=99) (fun vs => (match vs with | [(_, x0)] => x0.cells.toList | _ => [])) rfl rfl (fun w => by kernel_rfl) ?_; intro nb hnb; (try simp only [Value.cells]); (try simp only [zzC, zzN])); refine h1b h2o ?_) <;> (try refine q_r 5 ?_; (apply h2b; exact rfl; exact Tryz.underlying71; exact h4h; exact h4f; exact h4g; exact h4i; exact rfl; exact rfl; exact rfl; exact Own.nil _ _; exact fd0; exact Nat.le_of_ble_eq_true rfl; exact h6c; exact rfl; exact h5t; omega; (exact fun _ H => H); exact rfl; exact h5x; exact c_4; intro vA eA hownA; obtain ⟨gA, capA, curA, rfl, rfl, hA1, hA2, hA3, hA4⟩ := hownA.some (by omega); (try simp only [zzC, zzN])); refine h1b h2o ?_) <;> (try refine q_t 6 (e:=h2o) (x:=by exact q_f h2w) (h:=?_)) <;> (try refine q_r 7 ?_; (refine q_S ?_); refine h1b h2o ?_) <;> (try refine h1a (by kernel_rfl) ?_))) | (refine TagB.mk ?_; (((refine q_c 26 (c:=by apply hcd) (h:=?_); rintro _ _ ⟨c2, rfl, hc2, rfl⟩; (try simp only [zzE, zzF])); refine h1b h2o ?_) <;> (try refine h2g (i:=1) (j:=4) rfl rfl (by kernel_rfl) ?_ ?_ <;> (first | (refine TagA.mk ?_; (((refine q_k q_l ?_); refine h1b h2o ?_) <;> (try refine q_r 4 ?_; (refine h0m (t:=71) (m:=1) (e:=99) (fun vs => (match vs with | [(_, x0)] => x0.cells.toList | _ => [])) rfl rfl (fun w => by kernel_rfl) ?_; intro nb hnb; (try simp only [Value.cells]); (try simp only [zzC, zzN])); refine h1b h2o ?_) <;> (try refine q_r 5 ?_; (apply h2b; exact rfl; exact Tryz.underlying71; exact h4h; exact h4f; exact h4g; exact h4i; exact rfl; exact rfl; exact rfl; exact Own.nil _ _; exact fd0; exact Nat.le_of_ble_eq_true rfl; exact h6c; exact rfl; exact h5t; omega; (exact fun _ H => H); exact rfl; exact h5x; exact c_4; intro vA eA hownA; obtain ⟨gA, capA, curA, rfl, rfl, hA1, hA2, hA3, hA4⟩ := hownA.some (by omega); (try simp only [zzC, zzN])); refine h1b h2o ?_) <;> (try refine q_t 6 (e:=h2o) (x:=by exact q_f h2w) (h:=?_)) <;> (try refine q_r 7 ?_; (refine q_S ?_); refine h1b h2o ?_) <;> (try refine h1a (by kernel_rfl) ?_))) | (refine TagB.mk ?_; (((refine h0m (t:=71) (m:=1) (e:=99) (fun vs => (match vs with | [(_, x0)] => x0.cells.toList | _ => [])) rfl rfl (fun w => by kernel_rfl) ?_; intro nb hnb; (try simp only [Value.cells]); (try simp only [zzC, zzN])); refine h1b h2o ?_) <;> (try refine q_r 1 ?_; (refine q_k q_l ?_); refine h1b h2o ?_) <;> (try refine q_r 5 ?_; (apply h2b; exact rfl; exact Tryz.underlying71; exact h4h; exact h4f; exact h4g; exact h4i; exact rfl; exact rfl; exact rfl; exact Own.nil _ _; exact fd0; exact Nat.le_of_ble_eq_true rfl; exact h6c; exact rfl; exact h5t; omega; (exact fun _ H => H); exact rfl; exact h5x; exact c_4; intro vA eA hownA; obtain ⟨gA, capA, curA, rfl, rfl, hA1, hA2, hA3, hA4⟩ := hownA.some (by omega); (try simp only [zzC, zzN])); refine h1b h2o ?_) <;> (try refine q_t 6 (e:=h2o) (x:=by exact q_f h2w) (h:=?_)) <;> (try refine q_r 7 ?_; (refine q_S ?_); refine h1b h2o ?_) <;> (try refine h1a (by kernel_rfl) ?_)))))))))))))) | (refine gR 13 ?_ <;> (try refine q_e (q_b (r:=by apply h1n; exact c_5; (focus (refine IntWalk.i64_in _ ?_; omega)))) ?_) <;> (try refine p_m (h:=h0a ?_))))
    all_goals exact h0w (j + 1, cs ++ [c2], _, _) ⟨⟨by show j + 1 ≤ _; omega, hfi c2 _ _ (h3v (g:=gA) hA1 hA2 hA3 hA4), hl3' c2, mem_app1 hcg hc2⟩, by show _ - (j + 1) < _ - j; omega⟩ (by (focus (repeat (first | exact Sub.nil | refine Sub.cons rfl ?_)))) c_23
   ·rw [← q4] at hfi
    clear hown2
    (try simp only [zzC, zzN])
    repeat' (first | refine h0i ?_ | refine h0b ?_ | refine h0s ?_ | refine h0x ?_ | refine h0j ?_ | refine h0r ?_ | refine h0g rfl ?_ | (refine gR 9 (p_e (q_b (r:=by exact h0u q_o)) (h:=h0a ?_))) | (refine gR 10 (p_m (h:=p_e (by apply h0n; exact rfl; exact rfl; (focus (apply h2j Tryz.underlying89 sz_95; omega; omega; exact c_1))) (h:=q_e (by apply h1u (t:=95); exact rfl; (focus (repeat (first | (with_reducible assumption) | apply fdA | apply fdS))); kernel_rfl; kernel_rfl; exact sz_95; (with_reducible assumption); (with_reducible assumption)) ?_))) <;> (try refine h0c ?_; (refine h0k (t:=95) rfl Tryz.zeroValue95 ?_; intro nb hnb; (try simp only [Value.cells]))) <;> (try refine q_a ?_) <;> (try refine h0c ?_; (refine q_W ?_)) <;> (try refine h0a ?_)) | (refine gR 11 (p_m (h:=p_e (q_b (r:=by exact h0u q_o)) (h:=h0a ?_)))) | ((refine h2s (pre:=[]) (id:=12) (m:=8) rfl (by kernel_rfl) rfl (q_t 0 (e:=h2o) (x:=by exact q_f h2w) (h:=?_))) <;> (try refine h2g (i:=1) (j:=2) rfl rfl (by kernel_rfl) ?_ ?_ <;> (first | (refine TagA.mk ?_; (((refine q_k q_l ?_); refine h1b h2o ?_) <;> (try refine q_r 2 ?_; (refine q_k (q_L sz_95) ?_); refine h1b h2o ?_) <;> (try refine q_r 3 ?_; (refine q_c 26 (c:=by apply hcd) (h:=?_); rintro _ _ ⟨c2, rfl, hc2, rfl⟩; (try simp only [zzE, zzF])); refine h1b h2o ?_) <;> (try refine q_r 4 ?_; (refine h0m (t:=71) (m:=1) (e:=99) (fun vs => (match vs with | [(_, x0)] => x0.cells.toList | _ => [])) rfl rfl (fun w => by kernel_rfl) ?_; intro nb hnb; (try simp only [Value.cells]); (try simp only [zzC, zzN])); refine h1b h2o ?_) <;> (try refine q_r 5 ?_; (apply h1m; exact rfl; exact Tryz.underlying71; exact h4h; exact h4f; exact h4g; exact h4i; exact rfl; exact rfl; exact rfl; exact h3i; (with_reducible assumption); (with_reducible assumption); (with_reducible assumption); exact fd0; exact Nat.le_of_ble_eq_true rfl; exact h6c; exact rfl; exact h5t; omega; exact rfl; exact h5x; exact c_4; (try simp only [zzE, zzF]); intro vA eA hownA; obtain ⟨gA, capA, curA, rfl, rfl, hA1, hA2, hA3, hA4⟩ := hownA.some (by omega); (try simp only [zzC, zzN])); refine h1b h2o ?_) <;> (try refine q_t 6 (e:=h2o) (x:=by exact q_f h2w) (h:=?_)) <;> (try refine q_r 7 ?_; (refine q_S ?_); refine h1b h2o ?_) <;> (try refine h1a (by kernel_rfl) ?_))) | (refine TagB.mk ?_; (((refine q_k (q_L sz_95) ?_); refine h1b h2o ?_) <;> (try refine h2g (i:=1) (j:=3) rfl rfl (by kernel_rfl) ?_ ?_ <;> (first | (refine TagA.mk ?_; (((refine q_k q_l ?_); refine h1b h2o ?_) <;> (try refine q_r 3 ?_; (refine q_c 26 (c:=by apply hcd) (h:=?_); rintro _ _ ⟨c2, rfl, hc2, rfl⟩; (try simp only [zzE, zzF])); refine h1b h2o ?_) <;> (try refine q_r 4 ?_; (refine h0m (t:=71) (m:=1) (e:=99) (fun vs => (match vs with | [(_, x0)] => x0.cells.toList | _ => [])) rfl rfl (fun w => by kernel_rfl) ?_; intro nb hnb; (try simp only [Value.cells]); (try simp only [zzC, zzN])); refine h1b h2o ?_) <;> (try refine q_r 5 ?_; (apply h1m; exact rfl; exact Tryz.underlying71; exact h4h; exact h4f; exact h4g; exact h4i; exact rfl; exact rfl; exact rfl; exact h3i; (with_reducible assumption); (with_reducible assumption); (with_reducible assumption); exact fd0; exact Nat.le_of_ble_eq_true rfl; exact h6c; exact rfl; exact h5t; omega; exact rfl; exact h5x; exact c_4; (try simp only [zzE, zzF]); intro vA eA hownA; obtain ⟨gA, capA, curA, rfl, rfl, hA1, hA2, hA3, hA4⟩ := hownA.some (by omega); (try simp only [zzC, zzN])); refine h1b h2o ?_) <;> (try refine q_t 6 (e:=h2o) (x:=by exact q_f h2w) (h:=?_)) <;> (try refine q_r 7 ?_; (refine q_S ?_); refine h1b h2o ?_) <;> (try refine h1a (by kernel_rfl) ?_))) | (refine TagB.mk ?_; (((refine q_c 26 (c:=by apply hcd) (h:=?_); rintro _ _ ⟨c2, rfl, hc2, rfl⟩; (try simp only [zzE, zzF])); refine h1b h2o ?_) <;> (try refine h2g (i:=1) (j:=4) rfl rfl (by kernel_rfl) ?_ ?_ <;> (first | (refine TagA.mk ?_; (((refine q_k q_l ?_); refine h1b h2o ?_) <;> (try refine q_r 4 ?_; (refine h0m (t:=71) (m:=1) (e:=99) (fun vs => (match vs with | [(_, x0)] => x0.cells.toList | _ => [])) rfl rfl (fun w => by kernel_rfl) ?_; intro nb hnb; (try simp only [Value.cells]); (try simp only [zzC, zzN])); refine h1b h2o ?_) <;> (try refine q_r 5 ?_; (apply h1m; exact rfl; exact Tryz.underlying71; exact h4h; exact h4f; exact h4g; exact h4i; exact rfl; exact rfl; exact rfl; exact h3i; (with_reducible assumption); (with_reducible assumption); (with_reducible assumption); exact fd0; exact Nat.le_of_ble_eq_true rfl; exact h6c; exact rfl; exact h5t; omega; exact rfl; exact h5x; exact c_4; (try simp only [zzE, zzF]); intro vA eA hownA; obtain ⟨gA, capA, curA, rfl, rfl, hA1, hA2, hA3, hA4⟩ := hownA.some (by omega); (try simp only [zzC, zzN])); refine h1b h2o ?_) <;> (try refine q_t 6 (e:=h2o) (x:=by exact q_f h2w) (h:=?_)) <;> (try refine q_r 7 ?_; (refine q_S ?_); refine h1b h2o ?_) <;> (try refine h1a (by kernel_rfl) ?_))) | (refine TagB.mk ?_; (((refine h0m (t:=71) (m:=1) (e:=99) (fun vs => (match vs with | [(_, x0)] => x0.cells.toList | _ => [])) rfl rfl (fun w => by kernel_rfl) ?_; intro nb hnb; (try simp only [Value.cells]); (try simp only [zzC, zzN])); refine h1b h2o ?_) <;> (try refine q_r 1 ?_; (refine q_k q_l ?_); refine h1b h2o ?_) <;> (try refine q_r 5 ?_; (apply h1m; exact rfl; exact Tryz.underlying71; exact h4h; exact h4f; exact h4g; exact h4i; exact rfl; exact rfl; exact rfl; exact h3i; (with_reducible assumption); (with_reducible assumption); (with_reducible assumption); exact fd0; exact Nat.le_of_ble_eq_true rfl; exact h6c; exact rfl; exact h5t; omega; exact rfl; exact h5x; exact c_4; (try simp only [zzE, zzF]); intro vA eA hownA; obtain ⟨gA, capA, curA, rfl, rfl, hA1, hA2, hA3, hA4⟩ := hownA.some (by omega); (try simp only [zzC, zzN])); refine h1b h2o ?_) <;> (try refine q_t 6 (e:=h2o) (x:=by exact q_f h2w) (h:=?_)) <;> (try refine q_r 7 ?_; (refine q_S ?_); refine h1b h2o ?_) <;> (try refine h1a (by kernel_rfl) ?_)))))))))))))) | (refine gR 13 ?_ <;> (try refine q_e (q_b (r:=by apply h1n; exact c_5; (focus (refine IntWalk.i64_in _ ?_; omega)))) ?_) <;> (try refine p_m (h:=h0a ?_))))
    all_goals exact h0w (j + 1, cs ++ [c2], _, _) ⟨⟨by show j + 1 ≤ _; omega, hfi c2 _ _ (h3v (g:=gA) hA1 hA2 hA3 hA4), hl3' c2, mem_app1 hcg hc2⟩, by show _ - (j + 1) < _ - j; omega⟩ (by (focus (repeat (first | exact Sub.nil | refine Sub.cons rfl ?_)))) c_23
  rintro ⟨cs, v, e⟩ ⟨hown2, hle4, hcg⟩
  dsimp only at hown2 hle4 hcg ⊢
  obtain ⟨sa, sc, rfl, -⟩ := hown2.sli []
  refine h5h (L' := er ++ (rlB n7 (num : Nat) a2 (.slice sa cs.length sc) :: pcB n4 (mB8 n0) act (.slice va rs.length vc) (hd &&& 51199) (.slice none 0 0) (.slice none 0 0) :: ⟨true, nbC, .cells CC 93 (0, 0)⟩ :: ⟨true, n2, .cells #[.string ⟨#[]⟩, .int .u32 0, .slice none 0 0, .int .u16 0, .slice none 0 0, .slice none 0 0] 36 (0, 0)⟩ :: smB n1 nm df en (.slice (some ⟨bb, off, none⟩) rules.length rc) hd (.slice pa paths.length pc) (.slice ga rights.length gc) (.slice qa ports.length qc) :: (e ++ (ec ++ L)))) (fun w H => HP.re2 (env:=[e, [_], er, [_, _, _, _], ec, L]) [0, 1, 2, 3, 4, 5] [2, 1, 3, 0, 4, 5] (by decide) rfl rfl H) ?_
  have hrule : RulOk ⟨(num : Nat), a2, cs⟩ ∧ ∀ c ∈ cs, c.mask ≤ 18446744073709551615 ∧ c.val ≤ 18446744073709551615 := ⟨⟨hnc, ha20, ha2, by dsimp only; omega, fun c hc => (hcg c hc).1⟩, fun c hc => (hcg c hc).2⟩
  have hok' : ∀ r ∈ rs ++ [(⟨(num : Nat), a2, cs⟩ : RulP)], RulOk r ∧ ∀ c ∈ r.conds, c.mask ≤ 18446744073709551615 ∧ c.val ≤ 18446744073709551615 := mem_app1 hok hrule
  have hrs' : RulsR (rs ++ [(⟨(num : Nat), a2, cs⟩ : RulP)]) (cz ++ [.int .u32 (num : Nat), .int .u32 a2, .slice sa cs.length sc]) (e ++ ec) := .snoc hrsR hown2
  have hlen' : (rs ++ [(⟨(num : Nat), a2, cs⟩ : RulP)]).length = k + 1 := by rw [List.length_append, hlen]; rfl
  have hfi : ∀ v' e', Own 73 3 v' (rs.length + 1) (cz ++ [.int .u32 (num : Nat), .int .u32 a2, .slice sa cs.length sc]) e' → Own 73 3 v' (rs ++ [(⟨(num : Nat), a2, cs⟩ : RulP)]).length (cz ++ [.int .u32 (num : Nat), .int .u32 a2, .slice sa cs.length sc]) e' := fun _ _ h => by rw [List.length_append]; exact h
  clear hown2 hcg hrule hrsR hok hle4 hsc
  rcases h2z hown with ⟨hv0, h0, hx, rfl⟩ | ⟨g, capg, cur, hv0, rfl, q1, q2, q3, q4⟩
  ·injection hv0 with v1 v2 v3
   subst v1 v3
   rw [hx] at hfi hrs'
   rw [h0] at hfi ⊢
   clear hown
   (try simp only [zzC, zzN])
   repeat' (first | refine h0b ?_ | refine h0s ?_ | refine h0x ?_ | (refine gR 14 (p_e (q_f h2t) (h:=p_e q_l (h:=q_e (q_L sz_73) ?_))) <;> (try refine h0c ?_; (refine h0m (t:=30) (m:=1) (e:=73) (fun vs => (match vs with | [(_, x0)] => x0.cells.toList | _ => [])) rfl rfl (fun w => by kernel_rfl) ?_; intro nb hnb; (try simp only [Value.cells]); (try simp only [zzC, zzN]))) <;> (try refine h0c ?_; (apply h2b; exact rfl; exact Tryz.underlying30; exact inf_73_i; exact inf_73_z; exact inf_73_s; exact inf_73_b; exact rfl; exact rfl; exact rfl; exact Own.nil _ _; exact fd0; exact Nat.le_of_ble_eq_true rfl; exact h6c; exact rfl; exact h5t; omega; (exact fun _ H => H); exact rfl; exact h5x; exact c_4; intro vA eA hownA; obtain ⟨gA, capA, curA, rfl, rfl, hA1, hA2, hA3, hA4⟩ := hownA.some (by omega); (try simp only [zzC, zzN]))) <;> (try refine q_e (q_f h2t) ?_) <;> (try refine h0c ?_; (refine q_S ?_)) <;> (try refine h0a ?_)) | (refine gR 15 ?_ <;> (try refine q_e (q_b (r:=by apply h1n; exact c_5; (focus (refine IntWalk.i64_in _ ?_; omega)))) ?_) <;> (try refine p_m (h:=h0a ?_))))
   all_goals exact h0w ⟨k + 1, rs ++ [(⟨(num : Nat), a2, cs⟩ : RulP)], _, _, _, e ++ ec⟩ ⟨⟨by show k + 1 ≤ _; omega, hlen', by show k + 1 ≤ 12; omega, hrs', hfi _ _ (h3v (g:=gA) hA1 hA2 hA3 hA4), hok'⟩, by show _ - (k + 1) < _ - k; omega⟩ (by (focus (repeat (first | exact Sub.nil | refine Sub.cons rfl ?_)))) (by intro w H; refine Sel.out ?_ H; (try simp only [List.cons_append, List.nil_append, List.append_assoc]); repeat (first | exact Sel.refl _ | exact Sel.nil _ | (with_reducible apply Sel.appS) | (apply Sel.cons; (focus (repeat (first | exact fd0 | (with_reducible assumption) | apply fdA | apply fdS))); (try simp only [zzE, zzF])) | apply Sel.drop | apply Sel.dropA))
  ·injection hv0 with v1 v2 v3
   subst v1 v3
   rw [← q4] at hfi hrs'
   clear hown
   (try simp only [zzC, zzN])
   repeat' (first | refine h0b ?_ | refine h0s ?_ | refine h0x ?_ | (refine gR 14 (p_e (q_f h2t) (h:=p_e q_l (h:=q_e (q_L sz_73) ?_))) <;> (try refine h0c ?_; (refine h0m (t:=30) (m:=1) (e:=73) (fun vs => (match vs with | [(_, x0)] => x0.cells.toList | _ => [])) rfl rfl (fun w => by kernel_rfl) ?_; intro nb hnb; (try simp only [Value.cells]); (try simp only [zzC, zzN]))) <;> (try refine h0c ?_; (apply h1m; exact rfl; exact Tryz.underlying30; exact inf_73_i; exact inf_73_z; exact inf_73_s; exact inf_73_b; exact rfl; exact rfl; exact rfl; exact h3i; (with_reducible assumption); (with_reducible assumption); (with_reducible assumption); exact fd0; exact Nat.le_of_ble_eq_true rfl; exact h6c; exact rfl; exact h5t; omega; exact rfl; exact h5x; exact c_4; (try simp only [zzE, zzF]); intro vA eA hownA; obtain ⟨gA, capA, curA, rfl, rfl, hA1, hA2, hA3, hA4⟩ := hownA.some (by omega); (try simp only [zzC, zzN]))) <;> (try refine q_e (q_f h2t) ?_) <;> (try refine h0c ?_; (refine q_S ?_)) <;> (try refine h0a ?_)) | (refine gR 15 ?_ <;> (try refine q_e (q_b (r:=by apply h1n; exact c_5; (focus (refine IntWalk.i64_in _ ?_; omega)))) ?_) <;> (try refine p_m (h:=h0a ?_))))
   all_goals exact h0w ⟨k + 1, rs ++ [(⟨(num : Nat), a2, cs⟩ : RulP)], _, _, _, e ++ ec⟩ ⟨⟨by show k + 1 ≤ _; omega, hlen', by show k + 1 ≤ 12; omega, hrs', hfi _ _ (h3v (g:=gA) hA1 hA2 hA3 hA4), hok'⟩, by show _ - (k + 1) < _ - k; omega⟩ (by (focus (repeat (first | exact Sub.nil | refine Sub.cons rfl ?_)))) (by intro w H; refine Sel.out ?_ H; (try simp only [List.cons_append, List.nil_append, List.append_assoc]); repeat (first | exact Sel.refl _ | exact Sel.nil _ | (with_reducible apply Sel.appS) | (apply Sel.cons; (focus (repeat (first | exact fd0 | (with_reducible assumption) | apply fdA | apply fdS))); (try simp only [zzE, zzF])) | apply Sel.drop | apply Sel.dropA))
 -- PATHS
 rintro ⟨k1, rs, cz, vr, er, ec⟩ ⟨-, hrl, hr12, hrsR, hownR, hrok⟩
 dsimp only at hrl hr12 hrsR hownR hrok ⊢
 obtain ⟨va, vc, rfl, -⟩ := hownR.sli []
 refine h5h (L' := pcB n4 (mB8 n0) act (.slice va rs.length vc) (hd &&& 51199) (.slice none 0 0) (.slice none 0 0) :: ⟨true, n2, .cells #[.string ⟨#[]⟩, .int .u32 0, .slice none 0 0, .int .u16 0, .slice none 0 0, .slice none 0 0] 36 (0, 0)⟩ :: smB n1 nm df en (.slice ra rules.length rc) hd (.slice pa paths.length pc) (.slice ga rights.length gc) (.slice qa ports.length qc) :: (er ++ (ec ++ L))) (fun w H => HP.re2 (env:=[er, [_, _, _], ec, L]) [0, 1, 2, 3] [1, 0, 2, 3] (by decide) rfl rfl H) ?_
 have hps2 : Sli (er ++ (ec ++ L)) pa paths.length 1 (u8l paths) := (hps.upA ec).upA er
 have hgs2 : Sli (er ++ (ec ++ L)) ga rights.length 1 (u16g rights) := (hgs.upA ec).upA er
 have hqs2 : Sli (er ++ (ec ++ L)) qa ports.length 1 (u8l ports) := (hqs.upA ec).upA er
 clear hrg hrs hps hgs hqs hrules hl1
 generalize hL2 : er ++ (ec ++ L) = L2 at hps2 hgs2 hqs2 ⊢
 generalize hHD : hd &&& 51199 = HD at *
 have hrp := fun (i : Nat) (hi : i ≤ maxLen) (L : List Blk) (i1 i2 : Nat) (wp wq : Value) a b c => hrf L i1 i2 n4 (.slice va rs.length vc) wq wp (mB8 n0) act HD a b c hhd2 i hi 2047 (by omega)
 have hrq := fun (i : Nat) (hi : i ≤ maxLen) (L : List Blk) (i1 i2 : Nat) (wp wq : Value) a b c => hrf L i1 i2 n4 (.slice va rs.length vc) wq wp (mB8 n0) act HD a b c hhd2 i hi 49152 (by omega)
 have z20 : ((2047 : Nat) : Int) = 2047 := rfl
 have z49 : ((49152 : Nat) : Int) = 49152 := rfl
 simp only [z20] at hrp
 simp only [z49] at hrq
 have hdi := fun (L : List Blk) => dirs_c (S:=S) (w0:=w0) (L:=L)
 clear hrf z20 z49
 unfold maxLen at hrp hrq
 repeat' (first | (refine h2h (id:=4) ?_) | refine h0i ?_ | refine h0b ?_ | (refine gR 16 ?_ <;> (try refine h0c ?_; (refine h5p rfl ?_; intro nb hnb)) <;> (try refine p_a (h:=h0a ?_))) | (refine gR 17 (p_e (by apply E_makeFunc; exact rfl; exact rfl) (h:=p_a (h:=h0a ?_)))) | (refine gR 18 (p_e (q_f fo_48_5) (h:=p_e q_l (h:=p_e (by apply h0e; exact rfl; exact (fun _ => BigFrame.builtin_len ..); apply h0d Tryz.underlying45; exact h3m) (h:=p_m (h:=h0a ?_)))))))
 refine ⟨?_⟩
 obtain ⟨nbM, rfl⟩ : ∃ x, x = nb := ⟨_, rfl⟩
 refine h2q (γ:=SmpG) (SmpI paths.length HD) (fun _ => []) [(1, _), (2, _), (4, _), (11, _)]
  (fun g => g.ep ++ (pcB n4 (mB8 n0) act (.slice va rs.length vc) HD g.vp (.slice none 0 0) :: ⟨true, n2, .cells #[.string ⟨#[]⟩, .int .u32 0, .slice none 0 0, .int .u16 0, .slice none 0 0, .slice none 0 0] 36 (0, 0)⟩ :: smB n1 nm df en (.slice ra rules.length rc) hd (.slice pa paths.length pc) (.slice ga rights.length gc) (.slice qa ports.length qc) :: L2)) (.cons rfl (.cons rfl (.cons rfl (.cons rfl .nil)))) ?_ ?_
 ·-- PATHLOOP
  refine h0j ?_
  refine h2i (γ:=SmpG) (SmpI paths.length HD) (fun g => paths.length - g.k) (fun g => [(94, .int .i64 (g.k : Nat))]) [(1, _), (2, _), (4, _), (10, _), (11, _), (92, _), (93, _)]
   (fun g => g.ep ++ (pcB n4 (mB8 n0) act (.slice va rs.length vc) HD g.vp (.slice none 0 0) :: h3k nbM g.kvs :: ⟨true, n2, .cells #[.string ⟨#[]⟩, .int .u32 0, .slice none 0 0, .int .u16 0, .slice none 0 0, .slice none 0 0] 36 (0, 0)⟩ :: smB n1 nm df en (.slice ra rules.length rc) hd (.slice pa paths.length pc) (.slice ga rights.length gc) (.slice qa ports.length qc) :: L2)) ⟨0, [], .slice none 0 0, [], []⟩ (.cons rfl (.cons rfl (.cons rfl (.cons rfl (.cons rfl (.cons rfl (.cons rfl .nil))))))) ⟨Nat.zero_le _, Nat.zero_le _, Own.nil _ _, MapS.nil _, (fun _ h => by cases h), .nil, (fun _ h => by cases h)⟩ (by (focus (repeat (first | exact Sub.nil | refine Sub.cons rfl ?_)))) c_24 ?_
  rintro ⟨k, ps, vp, ep, kvs⟩ ⟨hk, hlen, hown, hmap, hok, hnd, hdir⟩
  dsimp only at hk hlen hown hmap hok hnd hdir ⊢
  by_cases hlt : k < paths.length
  case neg =>
   obtain ⟨ya, yc, rfl, -⟩ := hown.sli []
   repeat' (first | refine h0i ?_ | refine h0b ?_ | refine h0s ?_ | refine h1p ?_ | refine h1f ?_ | refine h1o ?_ | refine h2c ?_ | refine h0f rfl ?_ | (refine gR 19 (p_e (q_b (r:=by exact h0y q_o)) (h:=h0a ?_))))
   exact h0w ⟨k, ps, _, ep, kvs⟩ ⟨hk, hlen, hown, hmap, hok, hnd, hdir⟩ (by (focus (repeat (first | exact Sub.nil | refine Sub.cons rfl ?_)))) (by intro w H; refine Sel.out ?_ H; (try simp only [List.cons_append, List.nil_append, List.append_assoc]); repeat (first | exact Sel.refl _ | exact Sel.nil _ | (with_reducible apply Sel.appS) | (apply Sel.cons; (focus (repeat (first | exact fd0 | (with_reducible assumption) | apply fdA | apply fdS))); (try simp only [zzE, zzF])) | apply Sel.drop | apply Sel.dropA))
  obtain ⟨i0, q, b, off, cs, T, fr, rfl, hi0, hsz, hx⟩ := hps2.elem1 hlt
  obtain ⟨x, hxe⟩ : ∃ x, x = paths[k] := ⟨_, rfl⟩
  have hxr : 0 ≤ x ∧ x < 256 := hxe ▸ hpaths _ (List.getElem_mem hlt)
  rw [u8l, List.getElem?_map, List.getElem?_eq_getElem hlt, Option.map_some, ← hxe] at hx
  clear hxe
  obtain ⟨p, hp1, hp2, hp3⟩ := dirL_at (x % 6).toNat (by omega)
  have hds : dirC.size = 6 := rfl
  generalize dirC = DC at *
  obtain ⟨rr, hl1, hl2, hl3⟩ := hmap.look .string keyT keyT_same p
  obtain ⟨ya, yc, rfl, -⟩ := hown.sli []
  have hrp := hrp k (by omega)
  repeat' (first | (refine h3s (id:=23) ?_) | refine h0i ?_ | refine h0b ?_ | refine h0j ?_ | refine h0r ?_ | refine h0g rfl ?_ | (refine gR 19 (p_e (q_b (r:=by exact h0u q_o)) (h:=h0a ?_))) | (refine gR 20 (p_m (h:=p_e (by apply h0n; exact rfl; exact rfl; (focus (apply h2j Tryz.underlying45 sz_5; omega; omega; exact c_1))) (h:=p_e (by apply h1v (t:=5); exact rfl; (focus (repeat (first | (with_reducible assumption) | apply fdA | apply fdS))); kernel_rfl; kernel_rfl; (with_reducible assumption)) (h:=p_a (h:=p_a (h:=h0a ?_))))))) | (refine gR 21 ?_ <;> (try refine h0c ?_; (refine q_c 28 (c:=by apply hdi) (h:=?_); rintro _ _ ⟨nbD, rfl, rfl⟩; (try simp only [zzE, zzF]))) <;> (try refine q_m ?_) <;> (try refine q_e (by apply h3t; exact rfl; (focus (apply h3u Tryz.underlying5 Tryz.underlying3; first | (refine IntWalk.i64_in _ ?_; omega) | (refine IntWalk.u8_in _ ?_; omega) | (refine IntWalk.u16_in _ ?_; omega) | (refine IntWalk.u32_in _ ?_; omega) | (refine IntWalk.u64_in _ ?_; omega) | (refine IntWalk.i32_in _ ?_; omega) | exact rfl))) ?_) <;> (try refine h0c ?_; (refine q_c 28 (c:=by apply hdi) (h:=?_); rintro _ _ ⟨nbD, rfl, rfl⟩; (try simp only [zzE, zzF]))) <;> (try refine p_e (by apply h0e; exact rfl; exact (fun _ => BigFrame.builtin_len ..); apply h0d Tryz.underlying56; exact h3m) (h:=p_e (q_b (r:=by apply rb_rem; omega; omega; exact c_5)) (h:=p_e (by apply h0n; exact rfl; exact rfl; (focus (apply h2j Tryz.underlying56 sz_9; omega; omega; exact c_1))) (h:=p_e (by apply h1v (t:=9); exact rfl; exact h3i; kernel_rfl; kernel_rfl; (with_reducible assumption)) (h:=p_a (h:=h0a ?_))))))) | (refine gR 22 (p_m (h:=q_m ?_)) <;> (try refine h0c ?_; (apply K1_callvc (F:=27); kernel_rfl; exact rfl; exact rfl; exact rfl; exact rfl; (apply hrp; (focus (focus (repeat (first | exact fd0 | apply fdA | apply fdS)))); (focus (focus (repeat (first | exact fd0 | apply fdA | apply fdS)))); (focus (focus (repeat (first | (with_reducible assumption) | apply Sli.up | apply Sli.upA))))); rintro _ _ ⟨r, rfl, hr, rfl⟩)) <;> (try refine p_a (h:=h0a ?_))))
  refine ⟨?_⟩
  clear hrp hdi hrq
  by_cases h1 : p ∈ ps.map (·.1)
  ·replace hl2 := hl2.trans (congrArg Value.bool (dec_t h1))
   repeat' (first | refine h0b ?_ | refine h0s ?_ | refine h0x ?_ | refine h0r ?_ | refine h0f rfl ?_ | (refine gR 23 (p_m (h:=p_m (h:=p_e (by apply h4l; exact rfl; exact rfl; (focus (repeat (first | exact fd0 | apply fdA | apply fdS))); exact Tryz.underlying82; exact Tryz.underlying9; exact trivial; exact Tryz.zeroValue4; (with_reducible assumption); (with_reducible assumption)) (h:=p_e (by apply h5m; exact rfl; exact h1r) (h:=p_m (h:=p_z (h:=p_z (h:=p_p (h:=h0a ?_)))))))))) | (refine gR 26 ?_ <;> (try refine q_e (q_b (r:=by apply h1n; exact c_5; (focus (refine IntWalk.i64_in _ ?_; omega)))) ?_) <;> (try refine p_m (h:=h0a ?_))))
   exact h0w ⟨k + 1, ps, _, ep, kvs⟩ ⟨⟨by show k + 1 ≤ _; omega, by show ps.length ≤ k + 1; omega, hown, hmap, hok, hnd, hdir⟩, by show _ - (k + 1) < _ - k; omega⟩ (by (focus (repeat (first | exact Sub.nil | refine Sub.cons rfl ?_)))) (by intro w H; refine Sel.out ?_ H; (try simp only [List.cons_append, List.nil_append, List.append_assoc]); repeat (first | exact Sel.refl _ | exact Sel.nil _ | (with_reducible apply Sel.appS) | (apply Sel.cons; (focus (repeat (first | exact fd0 | (with_reducible assumption) | apply fdA | apply fdS))); (try simp only [zzE, zzF])) | apply Sel.drop | apply Sel.dropA))
  replace hl2 := hl2.trans (congrArg Value.bool (dec_f h1))
  by_cases h2 : r = 0
  ·have h20 : ((r : Nat) : Int) = 0 := by omega
   repeat' (first | refine h0b ?_ | refine h0s ?_ | refine h0x ?_ | refine h0r ?_ | refine h0f rfl ?_ | (refine gR 23 (p_m (h:=p_m (h:=p_e (by apply h4l; exact rfl; exact rfl; (focus (repeat (first | exact fd0 | apply fdA | apply fdS))); exact Tryz.underlying82; exact Tryz.underlying9; exact trivial; exact Tryz.zeroValue4; (with_reducible assumption); (with_reducible assumption)) (h:=p_e (by apply h5m; exact rfl; exact h3o) (h:=p_m (h:=q_y (h0h rfl) ?_)))))) <;> (try refine q_y (by exact q_b (r:=by refine h1w ?_; first | rfl | (with_reducible assumption) | (decide; done) | omega)) ?_) <;> (try refine p_p (h:=h0a ?_))) | (refine gR 26 ?_ <;> (try refine q_e (q_b (r:=by apply h1n; exact c_5; (focus (refine IntWalk.i64_in _ ?_; omega)))) ?_) <;> (try refine p_m (h:=h0a ?_))))
   exact h0w ⟨k + 1, ps, _, ep, kvs⟩ ⟨⟨by show k + 1 ≤ _; omega, by show ps.length ≤ k + 1; omega, hown, hmap, hok, hnd, hdir⟩, by show _ - (k + 1) < _ - k; omega⟩ (by (focus (repeat (first | exact Sub.nil | refine Sub.cons rfl ?_)))) (by intro w H; refine Sel.out ?_ H; (try simp only [List.cons_append, List.nil_append, List.append_assoc]); repeat (first | exact Sel.refl _ | exact Sel.nil _ | (with_reducible apply Sel.appS) | (apply Sel.cons; (focus (repeat (first | exact fd0 | (with_reducible assumption) | apply fdA | apply fdS))); (try simp only [zzE, zzF])) | apply Sel.drop | apply Sel.dropA))
  have h20 : ¬ ((r : Nat) : Int) = 0 := by omega
  have hl7 : ps.length ≤ 6 := by
   have := nd_len (ps.map (·.1)) dirL hnd (fun y hy => by obtain ⟨z, hz, rfl⟩ := List.mem_map.1 hy; exact hdir z hz)
   rw [List.length_map] at this
   exact this
  have hfi : ∀ v e, Own 104 2 v (ps.length + 1) (pthC ps ++ [.string (mB8 p), .int .u16 (r : Nat)]) e → Own 104 2 v (ps ++ [(p, r)]).length (pthC (ps ++ [(p, r)])) e := fun v e h => by
   rw [pthC_snoc, List.length_append]; exact h
  have hok' : ∀ z ∈ ps ++ [(p, r)], Pt.pathF z.1 = true ∧ z.2 ≠ 0 ∧ z.2 &&& HD = z.2 ∧ z.2 &&& 2047 = z.2 := mem_app1 hok ⟨hp2, h2, hr.1, hr.2⟩
  have hdir' : ∀ z ∈ ps ++ [(p, r)], z.1 ∈ dirL := mem_app1 hdir hp3
  have hnd' : ((ps ++ [(p, r)]).map (·.1)).Nodup := by rw [List.map_append]; exact nd_app hnd h1
  have hmap' : MapS keyT (updE kvs (keyT p) (.bool true) rr) ((ps ++ [(p, r)]).map (·.1)) := by rw [List.map_append]; exact hl3
  have hle' : (ps ++ [(p, r)]).length ≤ k + 1 := by rw [List.length_append]; simp only [List.length_cons, List.length_nil]; omega
  clear hmap hok hnd hdir hl3
  rcases h2z hown with ⟨hv0, h0, hx, rfl⟩ | ⟨g, capg, cur, hv0, rfl, q1, q2, q3, q4⟩
  ·injection hv0 with v1 v2 v3
   subst v1 v3
   rw [hx, h0] at hfi
   rw [h0]
   clear hown
   (try simp only [zzC, zzN])
   repeat' (first | refine h0i ?_ | refine h0b ?_ | refine h0s ?_ | refine h0x ?_ | refine h0g rfl ?_ | (refine gR 23 (p_m (h:=p_m (h:=p_e (by apply h4l; exact rfl; exact rfl; exact h3i; exact Tryz.underlying82; exact Tryz.underlying9; exact trivial; exact Tryz.zeroValue4; (with_reducible assumption); (with_reducible assumption)) (h:=p_e (by apply h5m; exact rfl; exact h3o) (h:=p_m (h:=p_y (h0h rfl) (h:=p_y (q_b (r:=by exact h2p q_o)) (h:=p_p (h:=h0a ?_)))))))))) | (refine gR 24 (p_m (h:=q_m ?_)) <;> (try refine h0c ?_; (apply h4k; exact rfl; exact rfl; exact rfl; exact h3i; exact Tryz.underlying82; exact Tryz.underlying9; exact trivial; (with_reducible assumption); (try simp only [List.set_cons_succ]); (try simp only [List.set_cons_zero]))) <;> (try refine h0a ?_)) | (refine gR 25 (p_e (q_f h3h) (h:=p_e q_l (h:=p_m (h:=q_m ?_)))) <;> (try refine q_e (by exact h0q (t:=104) (fun vs => (match vs with | [(_, x0), (_, x1)] => [x0, x1] | _ => [])) rfl (fun w => by kernel_rfl)) ?_; (try simp only [Value.cells]); (try simp only [zzC, zzN])) <;> (try refine h0c ?_; (refine h0m (t:=33) (m:=1) (e:=104) (fun vs => (match vs with | [(_, x0)] => x0.cells.toList | _ => [])) rfl rfl (fun w => by kernel_rfl) ?_; intro nb hnb; (try simp only [Value.cells]); (try simp only [zzC, zzN]))) <;> (try refine h0c ?_; (apply h2b; exact rfl; exact Tryz.underlying33; exact inf_104_i; exact inf_104_z; exact inf_104_s; exact inf_104_b; exact rfl; exact rfl; exact rfl; exact Own.nil _ _; exact fd0; exact Nat.le_of_ble_eq_true rfl; exact h6c; exact rfl; exact h5t; omega; (exact fun _ H => H); exact rfl; exact h5x; exact c_4; intro vA eA hownA; obtain ⟨gA, capA, curA, rfl, rfl, hA1, hA2, hA3, hA4⟩ := hownA.some (by omega); (try simp only [zzC, zzN]))) <;> (try refine q_e (q_f h3h) ?_) <;> (try refine h0c ?_; (refine q_S ?_)) <;> (try refine h0a ?_)) | (refine gR 26 ?_ <;> (try refine q_e (q_b (r:=by apply h1n; exact c_5; (focus (refine IntWalk.i64_in _ ?_; omega)))) ?_) <;> (try refine p_m (h:=h0a ?_))))
   all_goals exact h0w ⟨k + 1, ps ++ [(p, r)], _, _, _⟩ ⟨⟨by show k + 1 ≤ _; omega, hle', hfi _ _ (h3v (g:=gA) hA1 hA2 hA3 hA4), hmap', hok', hnd', hdir'⟩, by show _ - (k + 1) < _ - k; omega⟩ (by (focus (repeat (first | exact Sub.nil | refine Sub.cons rfl ?_)))) (by intro w H; refine Sel.out ?_ H; (try simp only [List.cons_append, List.nil_append, List.append_assoc]); repeat (first | exact Sel.refl _ | exact Sel.nil _ | (with_reducible apply Sel.appS) | (apply Sel.cons; (focus (repeat (first | exact fd0 | (with_reducible assumption) | apply fdA | apply fdS))); (try simp only [zzE, zzF])) | apply Sel.drop | apply Sel.dropA))
  ·injection hv0 with v1 v2 v3
   subst v1 v3
   rw [← q4] at hfi
   clear hown
   (try simp only [zzC, zzN])
   repeat' (first | refine h0i ?_ | refine h0b ?_ | refine h0s ?_ | refine h0x ?_ | refine h0g rfl ?_ | (refine gR 23 (p_m (h:=p_m (h:=p_e (by apply h4l; exact rfl; exact rfl; exact h3i; exact Tryz.underlying82; exact Tryz.underlying9; exact trivial; exact Tryz.zeroValue4; (with_reducible assumption); (with_reducible assumption)) (h:=p_e (by apply h5m; exact rfl; exact h3o) (h:=p_m (h:=p_y (h0h rfl) (h:=p_y (q_b (r:=by exact h2p q_o)) (h:=p_p (h:=h0a ?_)))))))))) | (refine gR 24 (p_m (h:=q_m ?_)) <;> (try refine h0c ?_; (apply h4k; exact rfl; exact rfl; exact rfl; exact h3i; exact Tryz.underlying82; exact Tryz.underlying9; exact trivial; (with_reducible assumption); (try simp only [List.set_cons_succ]); (try simp only [List.set_cons_zero]))) <;> (try refine h0a ?_)) | (refine gR 25 (p_e (q_f h3h) (h:=p_e q_l (h:=p_m (h:=q_m ?_)))) <;> (try refine q_e (by exact h0q (t:=104) (fun vs => (match vs with | [(_, x0), (_, x1)] => [x0, x1] | _ => [])) rfl (fun w => by kernel_rfl)) ?_; (try simp only [Value.cells]); (try simp only [zzC, zzN])) <;> (try refine h0c ?_; (refine h0m (t:=33) (m:=1) (e:=104) (fun vs => (match vs with | [(_, x0)] => x0.cells.toList | _ => [])) rfl rfl (fun w => by kernel_rfl) ?_; intro nb hnb; (try simp only [Value.cells]); (try simp only [zzC, zzN]))) <;> (try refine h0c ?_; (apply h1m; exact rfl; exact Tryz.underlying33; exact inf_104_i; exact inf_104_z; exact inf_104_s; exact inf_104_b; exact rfl; exact rfl; exact rfl; exact h3i; (with_reducible assumption); (with_reducible assumption); (with_reducible assumption); exact fd0; exact Nat.le_of_ble_eq_true rfl; exact h6c; exact rfl; exact h5t; omega; exact rfl; exact h5x; exact c_4; (try simp only [zzE, zzF]); intro vA eA hownA; obtain ⟨gA, capA, curA, rfl, rfl, hA1, hA2, hA3, hA4⟩ := hownA.some (by omega); (try simp only [zzC, zzN]))) <;> (try refine q_e (q_f h3h) ?_) <;> (try refine h0c ?_; (refine q_S ?_)) <;> (try refine h0a ?_)) | (refine gR 26 ?_ <;> (try refine q_e (q_b (r:=by apply h1n; exact c_5; (focus (refine IntWalk.i64_in _ ?_; omega)))) ?_) <;> (try refine p_m (h:=h0a ?_))))
   all_goals exact h0w ⟨k + 1, ps ++ [(p, r)], _, _, _⟩ ⟨⟨by show k + 1 ≤ _; omega, hle', hfi _ _ (h3v (g:=gA) hA1 hA2 hA3 hA4), hmap', hok', hnd', hdir'⟩, by show _ - (k + 1) < _ - k; omega⟩ (by (focus (repeat (first | exact Sub.nil | refine Sub.cons rfl ?_)))) (by intro w H; refine Sel.out ?_ H; (try simp only [List.cons_append, List.nil_append, List.append_assoc]); repeat (first | exact Sel.refl _ | exact Sel.nil _ | (with_reducible apply Sel.appS) | (apply Sel.cons; (focus (repeat (first | exact fd0 | (with_reducible assumption) | apply fdA | apply fdS))); (try simp only [zzE, zzF])) | apply Sel.drop | apply Sel.dropA))
 -- PORTS
 rintro ⟨k2, ps, vp, ep, kvs⟩ ⟨hpk, hpl, hownP, -, hpok, hpnd, hpdir⟩
 dsimp only at hpk hpl hownP hpok hpnd hpdir ⊢
 obtain ⟨wa, wc, rfl, -⟩ := hownP.sli []
 refine h5h (L' := pcB n4 (mB8 n0) act (.slice va rs.length vc) HD (.slice wa ps.length wc) (.slice none 0 0) :: ⟨true, n2, .cells #[.string ⟨#[]⟩, .int .u32 0, .slice none 0 0, .int .u16 0, .slice none 0 0, .slice none 0 0] 36 (0, 0)⟩ :: smB n1 nm df en (.slice ra rules.length rc) hd (.slice pa paths.length pc) (.slice ga rights.length gc) (.slice qa ports.length qc) :: (ep ++ L2)) (fun w H => HP.re2 (env:=[ep, [_, _, _], L2]) [0, 1, 2] [1, 0, 2] (by decide) rfl rfl H) ?_
 have hgs3 : Sli (ep ++ L2) ga rights.length 1 (u16g rights) := hgs2.upA ep
 have hqs3 : Sli (ep ++ L2) qa ports.length 1 (u8l ports) := hqs2.upA ep
 clear hps2 hgs2 hqs2 hrp hdi
 generalize hL3 : ep ++ L2 = L3 at hgs3 hqs3 ⊢
 repeat' (first | (refine h2h (id:=6) ?_) | refine h0i ?_ | refine h0b ?_ | (refine gR 27 ?_ <;> (try refine h0c ?_; (refine h5p rfl ?_; intro nb hnb)) <;> (try refine p_a (h:=h0a ?_))) | (refine gR 28 (p_e (q_f fo_48_7) (h:=p_e q_l (h:=p_e (by apply h0e; exact rfl; exact (fun _ => BigFrame.builtin_len ..); apply h0d Tryz.underlying45; exact h3m) (h:=p_m (h:=h0a ?_)))))))
 refine ⟨?_⟩
 obtain ⟨nbN, rfl⟩ : ∃ x, x = nb := ⟨_, rfl⟩
 refine h2q (γ:=SmqG) (SmqI ports.length HD) (fun _ => []) [(2, _), (4, _)]
  (fun g => g.ep ++ (pcB n4 (mB8 n0) act (.slice va rs.length vc) HD (.slice wa ps.length wc) g.vp :: ⟨true, n2, .cells #[.string ⟨#[]⟩, .int .u32 0, .slice none 0 0, .int .u16 0, .slice none 0 0, .slice none 0 0] 36 (0, 0)⟩ :: L3)) (.cons rfl (.cons rfl .nil)) ?_ ?_
 ·-- PORTLOOP
  refine h0j ?_
  refine h2i (γ:=SmqG) (SmqI ports.length HD) (fun g => ports.length - g.k) (fun g => [(133, .int .i64 (g.k : Nat))]) [(2, _), (4, _), (11, _), (16, _), (131, _), (132, _)]
   (fun g => g.ep ++ (pcB n4 (mB8 n0) act (.slice va rs.length vc) HD (.slice wa ps.length wc) g.vp :: h3k nbN g.kvs :: ⟨true, n2, .cells #[.string ⟨#[]⟩, .int .u32 0, .slice none 0 0, .int .u16 0, .slice none 0 0, .slice none 0 0] 36 (0, 0)⟩ :: smB n1 nm df en (.slice ra rules.length rc) hd (.slice pa paths.length pc) (.slice ga rights.length gc) (.slice qa ports.length qc) :: L3)) ⟨0, [], .slice none 0 0, [], []⟩ (.cons rfl (.cons rfl (.cons rfl (.cons rfl (.cons rfl (.cons rfl .nil)))))) ⟨Nat.zero_le _, Nat.zero_le _, Own.nil _ _, MapS.nil _, (fun _ h => by cases h), .nil, (fun _ h => by cases h)⟩ (by (focus (repeat (first | exact Sub.nil | refine Sub.cons rfl ?_)))) c_24 ?_
  clear hownP hpok hpnd hpdir hpl hpk
  rintro ⟨k, qs, vq, eq, kvs⟩ ⟨hk, hlen, hown, hmap, hok, hnd, hdir⟩
  dsimp only at hk hlen hown hmap hok hnd hdir ⊢
  by_cases hlt : k < ports.length
  case neg =>
   obtain ⟨ya, yc, rfl, -⟩ := hown.sli []
   repeat' (first | refine h0i ?_ | refine h0b ?_ | refine h0s ?_ | refine h1p ?_ | refine h1f ?_ | refine h1o ?_ | refine h2c ?_ | refine h0f rfl ?_ | (refine gR 29 (p_e (q_b (r:=by exact h0y q_o)) (h:=h0a ?_))))
   exact h0w ⟨k, qs, _, eq, kvs⟩ ⟨hk, hlen, hown, hmap, hok, hnd, hdir⟩ (by (focus (repeat (first | exact Sub.nil | refine Sub.cons rfl ?_)))) (by intro w H; refine Sel.out ?_ H; (try simp only [List.cons_append, List.nil_append, List.append_assoc]); repeat (first | exact Sel.refl _ | exact Sel.nil _ | (with_reducible apply Sel.appS) | (apply Sel.cons; (focus (repeat (first | exact fd0 | (with_reducible assumption) | apply fdA | apply fdS))); (try simp only [zzE, zzF])) | apply Sel.drop | apply Sel.dropA))
  obtain ⟨i0, q, b, off, cs, T, fr, rfl, hi0, hsz, hx⟩ := hqs3.elem1 hlt
  obtain ⟨x, hxe⟩ : ∃ x, x = ports[k] := ⟨_, rfl⟩
  have hxr : 0 ≤ x ∧ x < 256 := hxe ▸ hports _ (List.getElem_mem hlt)
  rw [u8l, List.getElem?_map, List.getElem?_eq_getElem hlt, Option.map_some, ← hxe] at hx
  clear hxe
  obtain ⟨p, hp⟩ : ∃ p : Nat, p = (80 + x % 4).toNat := ⟨_, rfl⟩
  have hpe : keyP p = .int .u16 (80 + x % 4) := by
   show Value.int .u16 ((p : Nat) : Int) = _
   rw [show ((p : Nat) : Int) = 80 + x % 4 by omega]
  obtain ⟨rr, hl1, hl2, hl3⟩ := hmap.look (.int .u16) keyP keyP_same p
  rw [hpe] at hl1 hl3
  obtain ⟨ya, yc, rfl, -⟩ := hown.sli []
  have hrq := hrq k (by omega)
  repeat' (first | (refine h3s (id:=33) ?_) | refine h0i ?_ | refine h0b ?_ | refine h0j ?_ | refine h0r ?_ | refine h0g rfl ?_ | (refine gR 29 (p_e (q_b (r:=by exact h0u q_o)) (h:=h0a ?_))) | (refine gR 30 (p_m (h:=p_e (by apply h0n; exact rfl; exact rfl; (focus (apply h2j Tryz.underlying45 sz_5; omega; omega; exact c_1))) (h:=p_e (by apply h1v (t:=5); exact rfl; (focus (repeat (first | (with_reducible assumption) | apply fdA | apply fdS))); kernel_rfl; kernel_rfl; (with_reducible assumption)) (h:=p_a (h:=p_a (h:=h0a ?_))))))) | (refine gR 31 (p_m (h:=q_e (q_b (r:=by apply rb_rem; omega; omega; exact c_5)) ?_)) <;> (try refine q_e (q_b (r:=by apply h1n; exact c_5; (focus (refine IntWalk.u8_in _ ?_; omega)))) ?_) <;> (try refine q_e (by apply h3t; exact rfl; (focus (apply h3u Tryz.underlying5 Tryz.underlying31; first | (refine IntWalk.i64_in _ ?_; omega) | (refine IntWalk.u8_in _ ?_; omega) | (refine IntWalk.u16_in _ ?_; omega) | (refine IntWalk.u32_in _ ?_; omega) | (refine IntWalk.u64_in _ ?_; omega) | (refine IntWalk.i32_in _ ?_; omega) | exact rfl))) ?_) <;> (try refine p_a (h:=h0a ?_))) | (refine gR 32 (p_m (h:=q_m ?_)) <;> (try refine h0c ?_; (apply K1_callvc (F:=27); kernel_rfl; exact rfl; exact rfl; exact rfl; exact rfl; (apply hrq; (focus (focus (repeat (first | exact fd0 | apply fdA | apply fdS)))); (focus (focus (repeat (first | exact fd0 | apply fdA)))); (focus (focus (repeat (first | (with_reducible assumption) | apply Sli.up | apply Sli.upA))))); rintro _ _ ⟨r, rfl, hr, rfl⟩)) <;> (try refine p_a (h:=h0a ?_))))
  refine ⟨?_⟩
  clear hrq
  by_cases h1 : p ∈ qs.map (·.1)
  ·replace hl2 := hl2.trans (congrArg Value.bool (dec_t h1))
   repeat' (first | refine h0b ?_ | refine h0s ?_ | refine h0x ?_ | refine h0r ?_ | refine h0f rfl ?_ | (refine gR 33 (p_m (h:=p_m (h:=p_e (by apply h4l; exact rfl; exact rfl; (focus (repeat (first | exact fd0 | apply fdA | apply fdS))); exact Tryz.underlying83; exact Tryz.underlying31; exact rfl; exact Tryz.zeroValue4; (with_reducible assumption); (with_reducible assumption)) (h:=p_e (by apply h5m; exact rfl; exact h1r) (h:=p_m (h:=p_z (h:=p_z (h:=p_p (h:=h0a ?_)))))))))) | (refine gR 36 ?_ <;> (try refine q_e (q_b (r:=by apply h1n; exact c_5; (focus (refine IntWalk.i64_in _ ?_; omega)))) ?_) <;> (try refine p_m (h:=h0a ?_))))
   exact h0w ⟨k + 1, qs, _, eq, kvs⟩ ⟨⟨by show k + 1 ≤ _; omega, by show qs.length ≤ k + 1; omega, hown, hmap, hok, hnd, hdir⟩, by show _ - (k + 1) < _ - k; omega⟩ (by (focus (repeat (first | exact Sub.nil | refine Sub.cons rfl ?_)))) (by intro w H; refine Sel.out ?_ H; (try simp only [List.cons_append, List.nil_append, List.append_assoc]); repeat (first | exact Sel.refl _ | exact Sel.nil _ | (with_reducible apply Sel.appS) | (apply Sel.cons; (focus (repeat (first | exact fd0 | (with_reducible assumption) | apply fdA | apply fdS))); (try simp only [zzE, zzF])) | apply Sel.drop | apply Sel.dropA))
  replace hl2 := hl2.trans (congrArg Value.bool (dec_f h1))
  by_cases h2 : r = 0
  ·have h20 : ((r : Nat) : Int) = 0 := by omega
   repeat' (first | refine h0b ?_ | refine h0s ?_ | refine h0x ?_ | refine h0r ?_ | refine h0f rfl ?_ | (refine gR 33 (p_m (h:=p_m (h:=p_e (by apply h4l; exact rfl; exact rfl; (focus (repeat (first | exact fd0 | apply fdA | apply fdS))); exact Tryz.underlying83; exact Tryz.underlying31; exact rfl; exact Tryz.zeroValue4; (with_reducible assumption); (with_reducible assumption)) (h:=p_e (by apply h5m; exact rfl; exact h3o) (h:=p_m (h:=q_y (h0h rfl) ?_)))))) <;> (try refine q_y (by exact q_b (r:=by refine h1w ?_; first | rfl | (with_reducible assumption) | (decide; done) | omega)) ?_) <;> (try refine p_p (h:=h0a ?_))) | (refine gR 36 ?_ <;> (try refine q_e (q_b (r:=by apply h1n; exact c_5; (focus (refine IntWalk.i64_in _ ?_; omega)))) ?_) <;> (try refine p_m (h:=h0a ?_))))
   exact h0w ⟨k + 1, qs, _, eq, kvs⟩ ⟨⟨by show k + 1 ≤ _; omega, by show qs.length ≤ k + 1; omega, hown, hmap, hok, hnd, hdir⟩, by show _ - (k + 1) < _ - k; omega⟩ (by (focus (repeat (first | exact Sub.nil | refine Sub.cons rfl ?_)))) (by intro w H; refine Sel.out ?_ H; (try simp only [List.cons_append, List.nil_append, List.append_assoc]); repeat (first | exact Sel.refl _ | exact Sel.nil _ | (with_reducible apply Sel.appS) | (apply Sel.cons; (focus (repeat (first | exact fd0 | (with_reducible assumption) | apply fdA | apply fdS))); (try simp only [zzE, zzF])) | apply Sel.drop | apply Sel.dropA))
  have h20 : ¬ ((r : Nat) : Int) = 0 := by omega
  have hl7 : qs.length ≤ 4 := by
   have := nd_len (qs.map (·.1)) [80, 81, 82, 83] hnd (fun y hy => by obtain ⟨z, hz, rfl⟩ := List.mem_map.1 hy; exact hdir z hz)
   rw [List.length_map] at this
   exact this
  have hfi : ∀ v e, Own 106 2 v (qs.length + 1) (porC qs ++ [.int .u16 (80 + x % 4), .int .u16 (r : Nat)]) e → Own 106 2 v (qs ++ [(p, r)]).length (porC (qs ++ [(p, r)])) e := fun v e h => by
   rw [porC_snoc, List.length_append, show (Value.int .u16 ((p : Nat) : Int)) = .int .u16 (80 + x % 4) from hpe]; exact h
  have hok' : ∀ z ∈ qs ++ [(p, r)], z.1 < 65536 ∧ z.2 ≠ 0 ∧ z.2 &&& HD = z.2 ∧ z.2 &&& 49152 = z.2 := mem_app1 hok ⟨by dsimp only; omega, h2, hr.1, hr.2⟩
  have hdir' : ∀ z ∈ qs ++ [(p, r)], z.1 ∈ [80, 81, 82, 83] := mem_app1 hdir (by
   dsimp only
   obtain h | h | h | h : p = 80 ∨ p = 81 ∨ p = 82 ∨ p = 83 := by omega
   all_goals simp [h])
  have hnd' : ((qs ++ [(p, r)]).map (·.1)).Nodup := by rw [List.map_append]; exact nd_app hnd h1
  have hmap' : MapS keyP (updE kvs (.int .u16 (80 + x % 4)) (.bool true) rr) ((qs ++ [(p, r)]).map (·.1)) := by rw [List.map_append]; exact hl3
  have hle' : (qs ++ [(p, r)]).length ≤ k + 1 := by rw [List.length_append]; simp only [List.length_cons, List.length_nil]; omega
  clear hmap hok hnd hdir hl3 hpe
  rcases h2z hown with ⟨hv0, h0, hx, rfl⟩ | ⟨g, capg, cur, hv0, rfl, q1, q2, q3, q4⟩
  ·injection hv0 with v1 v2 v3
   subst v1 v3
   rw [hx, h0] at hfi
   rw [h0]
   clear hown
   (try simp only [zzC, zzN])
   repeat' (first | refine h0i ?_ | refine h0b ?_ | refine h0s ?_ | refine h0x ?_ | refine h0g rfl ?_ | (refine gR 33 (p_m (h:=p_m (h:=p_e (by apply h4l; exact rfl; exact rfl; exact h3i; exact Tryz.underlying83; exact Tryz.underlying31; exact rfl; exact Tryz.zeroValue4; (with_reducible assumption); (with_reducible assumption)) (h:=p_e (by apply h5m; exact rfl; exact h3o) (h:=p_m (h:=p_y (h0h rfl) (h:=p_y (q_b (r:=by exact h2p q_o)) (h:=p_p (h:=h0a ?_)))))))))) | (refine gR 34 (p_m (h:=q_m ?_)) <;> (try refine h0c ?_; (apply h4k; exact rfl; exact rfl; exact rfl; exact h3i; exact Tryz.underlying83; exact Tryz.underlying31; exact rfl; (with_reducible assumption); (try simp only [List.set_cons_succ]); (try simp only [List.set_cons_zero]))) <;> (try refine h0a ?_)) | (refine gR 35 (p_e (q_f h3p) (h:=p_e q_l (h:=p_m (h:=q_m ?_)))) <;> (try refine q_e (by exact h0q (t:=106) (fun vs => (match vs with | [(_, x0), (_, x1)] => [x0, x1] | _ => [])) rfl (fun w => by kernel_rfl)) ?_; (try simp only [Value.cells]); (try simp only [zzC, zzN])) <;> (try refine h0c ?_; (refine h0m (t:=34) (m:=1) (e:=106) (fun vs => (match vs with | [(_, x0)] => x0.cells.toList | _ => [])) rfl rfl (fun w => by kernel_rfl) ?_; intro nb hnb; (try simp only [Value.cells]); (try simp only [zzC, zzN]))) <;> (try refine h0c ?_; (apply h2b; exact rfl; exact Tryz.underlying34; exact inf_106_i; exact inf_106_z; exact inf_106_s; exact inf_106_b; exact rfl; exact rfl; exact rfl; exact Own.nil _ _; exact fd0; exact Nat.le_of_ble_eq_true rfl; exact h6c; exact rfl; exact h5t; omega; (exact fun _ H => H); exact rfl; exact h5x; exact c_4; intro vA eA hownA; obtain ⟨gA, capA, curA, rfl, rfl, hA1, hA2, hA3, hA4⟩ := hownA.some (by omega); (try simp only [zzC, zzN]))) <;> (try refine q_e (q_f h3p) ?_) <;> (try refine h0c ?_; (refine q_S ?_)) <;> (try refine h0a ?_)) | (refine gR 36 ?_ <;> (try refine q_e (q_b (r:=by apply h1n; exact c_5; (focus (refine IntWalk.i64_in _ ?_; omega)))) ?_) <;> (try refine p_m (h:=h0a ?_))))
   all_goals exact h0w ⟨k + 1, qs ++ [(p, r)], _, _, _⟩ ⟨⟨by show k + 1 ≤ _; omega, hle', hfi _ _ (h3v (g:=gA) hA1 hA2 hA3 hA4), hmap', hok', hnd', hdir'⟩, by show _ - (k + 1) < _ - k; omega⟩ (by (focus (repeat (first | exact Sub.nil | refine Sub.cons rfl ?_)))) (by intro w H; refine Sel.out ?_ H; (try simp only [List.cons_append, List.nil_append, List.append_assoc]); repeat (first | exact Sel.refl _ | exact Sel.nil _ | (with_reducible apply Sel.appS) | (apply Sel.cons; (focus (repeat (first | exact fd0 | (with_reducible assumption) | apply fdA | apply fdS))); (try simp only [zzE, zzF])) | apply Sel.drop | apply Sel.dropA))
  ·injection hv0 with v1 v2 v3
   subst v1 v3
   rw [← q4] at hfi
   clear hown
   (try simp only [zzC, zzN])
   repeat' (first | refine h0i ?_ | refine h0b ?_ | refine h0s ?_ | refine h0x ?_ | refine h0g rfl ?_ | (refine gR 33 (p_m (h:=p_m (h:=p_e (by apply h4l; exact rfl; exact rfl; exact h3i; exact Tryz.underlying83; exact Tryz.underlying31; exact rfl; exact Tryz.zeroValue4; (with_reducible assumption); (with_reducible assumption)) (h:=p_e (by apply h5m; exact rfl; exact h3o) (h:=p_m (h:=p_y (h0h rfl) (h:=p_y (q_b (r:=by exact h2p q_o)) (h:=p_p (h:=h0a ?_)))))))))) | (refine gR 34 (p_m (h:=q_m ?_)) <;> (try refine h0c ?_; (apply h4k; exact rfl; exact rfl; exact rfl; exact h3i; exact Tryz.underlying83; exact Tryz.underlying31; exact rfl; (with_reducible assumption); (try simp only [List.set_cons_succ]); (try simp only [List.set_cons_zero]))) <;> (try refine h0a ?_)) | (refine gR 35 (p_e (q_f h3p) (h:=p_e q_l (h:=p_m (h:=q_m ?_)))) <;> (try refine q_e (by exact h0q (t:=106) (fun vs => (match vs with | [(_, x0), (_, x1)] => [x0, x1] | _ => [])) rfl (fun w => by kernel_rfl)) ?_; (try simp only [Value.cells]); (try simp only [zzC, zzN])) <;> (try refine h0c ?_; (refine h0m (t:=34) (m:=1) (e:=106) (fun vs => (match vs with | [(_, x0)] => x0.cells.toList | _ => [])) rfl rfl (fun w => by kernel_rfl) ?_; intro nb hnb; (try simp only [Value.cells]); (try simp only [zzC, zzN]))) <;> (try refine h0c ?_; (apply h1m; exact rfl; exact Tryz.underlying34; exact inf_106_i; exact inf_106_z; exact inf_106_s; exact inf_106_b; exact rfl; exact rfl; exact rfl; exact h3i; (with_reducible assumption); (with_reducible assumption); (with_reducible assumption); exact fd0; exact Nat.le_of_ble_eq_true rfl; exact h6c; exact rfl; exact h5t; omega; exact rfl; exact h5x; exact c_4; (try simp only [zzE, zzF]); intro vA eA hownA; obtain ⟨gA, capA, curA, rfl, rfl, hA1, hA2, hA3, hA4⟩ := hownA.some (by omega); (try simp only [zzC, zzN]))) <;> (try refine q_e (q_f h3p) ?_) <;> (try refine h0c ?_; (refine q_S ?_)) <;> (try refine h0a ?_)) | (refine gR 36 ?_ <;> (try refine q_e (q_b (r:=by apply h1n; exact c_5; (focus (refine IntWalk.i64_in _ ?_; omega)))) ?_) <;> (try refine p_m (h:=h0a ?_))))
   all_goals exact h0w ⟨k + 1, qs ++ [(p, r)], _, _, _⟩ ⟨⟨by show k + 1 ≤ _; omega, hle', hfi _ _ (h3v (g:=gA) hA1 hA2 hA3 hA4), hmap', hok', hnd', hdir'⟩, by show _ - (k + 1) < _ - k; omega⟩ (by (focus (repeat (first | exact Sub.nil | refine Sub.cons rfl ?_)))) (by intro w H; refine Sel.out ?_ H; (try simp only [List.cons_append, List.nil_append, List.append_assoc]); repeat (first | exact Sel.refl _ | exact Sel.nil _ | (with_reducible apply Sel.appS) | (apply Sel.cons; (focus (repeat (first | exact fd0 | (with_reducible assumption) | apply fdA | apply fdS))); (try simp only [zzE, zzF])) | apply Sel.drop | apply Sel.dropA))
 clear hrq
 rintro ⟨k3, qs, vq, eq, kvq⟩ ⟨hqk, hql, hownQ, -, hqok, hqnd, hqdir⟩
 dsimp only at hqk hql hownQ hqok hqnd hqdir ⊢
 obtain ⟨xa, xc, rfl, -⟩ := hownQ.sli []
 refine h5h (L' := pcB n4 (mB8 n0) act (.slice va rs.length vc) HD (.slice wa ps.length wc) (.slice xa qs.length xc) :: ⟨true, n2, .cells #[.string ⟨#[]⟩, .int .u32 0, .slice none 0 0, .int .u16 0, .slice none 0 0, .slice none 0 0] 36 (0, 0)⟩ :: (eq ++ L3)) (fun w H => HP.re2 (env:=[eq, [_, _], L3]) [0, 1, 2] [1, 0, 2] (by decide) rfl rfl H) ?_
 repeat' (first | refine h0i ?_ | refine h0b ?_ | refine h0v ?_ | (refine gR 37 (q_e (q_L sz_36) ?_) <;> (try refine h0c ?_; (refine q_W ?_)) <;> (try refine h0a ?_)))
 (apply h5d Tryz.results12; exact rfl; (focus (repeat (first | exact fd0 | (with_reducible assumption) | apply fdA | apply fdS))); kernel_rfl; kernel_rfl; exact sz_36; exact c_16)
 have hpl6 : ps.length ≤ 6 := by
  have := nd_len (ps.map (·.1)) dirL hpnd (fun y hy => by obtain ⟨z, hz, rfl⟩ := List.mem_map.1 hy; exact hpdir z hz)
  rw [List.length_map] at this
  exact this
 have hql4 : qs.length ≤ 4 := by
  have := nd_len (qs.map (·.1)) [80, 81, 82, 83] hqnd (fun y hy => by obtain ⟨z, hz, rfl⟩ := List.mem_map.1 hy; exact hqdir z hz)
  rw [List.length_map] at this
  exact this
 refine ⟨_, ⟨⟨.slice va rs.length vc, .slice wa ps.length wc, .slice xa qs.length xc, cz, er, ec, ep, eq⟩, ⟨n0, act, rs, HD, ps, qs⟩, rfl, ⟨hrsR, hownR, hownP, hownQ, hhd2, by dsimp only; omega, by dsimp only; omega, by dsimp only; omega⟩, ⟨hw0, hact0, hact, fun r hr => (hrok r hr).1, by dsimp only; rw [← hHD, Nat.and_assoc, Nat.and_self], by dsimp only; omega, by dsimp only; omega, by dsimp only; omega, hpok, hpnd, hqok, hqnd⟩, ⟨fun r hr => (hrok r hr).2⟩, ⟨rfl, by dsimp only; omega, by dsimp only; omega, by dsimp only; omega⟩, rfl⟩, fun w H => ?_⟩
 subst hL3 hL2
 have H2 : HP S w0 w (eq ++ (ep ++ (er ++ (ec ++ L)))) := by
  revert w
  intro w H; refine H.sub ?_; (try simp only [zzC, zzN]); repeat (first | exact List.Sublist.refl _ | refine List.Sublist.cons _ ?_)
 exact HP.re2 (env:=[eq, ep, er, ec, L]) [0, 1, 2, 3, 4] [2, 1, 0, 3, 4] (by decide) rfl (by unfold PoD.blocks; simp [flatB]) H2
abbrev GCnd.rc (c : GCnd) : List Value := [.int .i64 c.arg, .int .i64 (c.op : Nat), .int .u64 (c.mask : Nat), .int .u64 (c.val : Nat)]
def rgC (cs : List GCnd) : List Value := cs.flatMap GCnd.rc
theorem rgC_snoc (cs : List GCnd) (c : GCnd) : rgC (cs ++ [c]) = rgC cs ++ c.rc := by simp [rgC]
theorem rgC_at (cs : List GCnd) (k : Nat) (h : k < cs.length) : ((rgC cs).drop (k * 4)).take 4 = (cs[k]).rc := by
 induction cs generalizing k with
 | nil => simp at h
 | cons c r ih =>
  cases k with
  | zero => simp [rgC]
  | succ k =>
   rw [rgC, List.flatMap_cons, ← rgC, show (k + 1) * 4 = c.rc.length + k * 4 by simp only [GCnd.rc, List.length_cons, List.length_nil]; omega, List.drop_append, List.drop_eq_nil_of_le (by omega), List.nil_append, Nat.add_sub_cancel_left]
   exact ih k (by simpa using h)
def rpC (ps : List (List UInt8 × Nat)) : List Value := ps.flatMap fun p => [.string (mB8 p.1), .int .i64 (p.2 : Nat)]
def rqC (ps : List (Nat × Nat)) : List Value := ps.flatMap fun p => [.int .i64 (p.1 : Nat), .int .i64 (p.2 : Nat)]
theorem rpC_snoc (ps : List (List UInt8 × Nat)) (p : List UInt8 × Nat) : rpC (ps ++ [p]) = rpC ps ++ [.string (mB8 p.1), .int .i64 (p.2 : Nat)] := by simp [rpC]
theorem rqC_snoc (ps : List (Nat × Nat)) (p : Nat × Nat) : rqC (ps ++ [p]) = rqC ps ++ [.int .i64 (p.1 : Nat), .int .i64 (p.2 : Nat)] := by simp [rqC]
inductive RefR : List GRul → List Value → List Blk → Prop
 | nil : RefR [] [] []
 | snoc {rs : List GRul} {cz : List Value} {ec : List Blk} {r : GRul} {v : Value} {e : List Blk} (h : RefR rs cz ec) (ho : Own 136 4 v r.conds.length (rgC r.conds) e) : RefR (rs ++ [r]) (cz ++ [.int .u32 r.num, .int .u32 r.act, v]) (e ++ ec)
structure RfD where
 vr : Value
 vp : Value
 vq : Value
 cz : List Value
 er : List Blk
 ec : List Blk
 ep : List Blk
 eq : List Blk
structure RfD.ok (d : RfD) (P : GPol) : Prop where
 rs : RefR P.rules d.cz d.ec
 vr : Own 130 3 d.vr P.rules.length d.cz d.er
 vp : Own 132 2 d.vp P.paths.length (rpC P.paths) d.ep
 vq : Own 134 2 d.vq P.ports.length (rqC P.ports) d.eq
def RfD.blocks (d : RfD) : List Blk := d.er ++ (d.ep ++ (d.eq ++ d.ec))
abbrev refC (P : GPol) (vr vp vq : Value) : List Value := [.string (mB8 P.nm), .int .u32 P.df, vr, .int .i64 (P.hd : Nat), vp, vq]
structure FewN (P : GPol) : Prop where
 conds : ∀ r ∈ P.rules, r.conds.length ≤ 1000
 l1 : P.rules.length ≤ 1000
 l2 : P.paths.length ≤ 1000
 l3 : P.ports.length ≤ 1000
abbrev rfB (b : Nat) (nm : ByteArray) (df : Int) (vr : Value) (hd : Nat) (vp vq : Value) : Blk := ⟨true, b, .cells #[.string nm, .int .u32 df, vr, .int .i64 (hd : Nat), vp, vq] 67 (0, 0)⟩
abbrev poB (b : Nat) (nm : ByteArray) (df : Int) (vr : Value) (hd : Nat) (vp vq : Value) : Blk := ⟨true, b, .cells #[.string nm, .int .u32 df, vr, .int .u16 (hd : Nat), vp, vq] 36 (0, 0)⟩
abbrev rrB (n : Nat) (num act : Int) (v : Value) : Blk := ⟨true, n, .cells #[.int .u32 num, .int .u32 act, v] 130 (0, 0)⟩
abbrev rfZ (b : Nat) : Blk := ⟨true, b, .cells #[.string ⟨#[]⟩, .int .u32 0, .slice none 0 0, .int .i64 0, .slice none 0 0, .slice none 0 0] 67 (0, 0)⟩
theorem refcond_c {S w0 L} (a : Int) (o m v : Nat) (ho : o < 256) : Fn Tryz.prog 46 #[.agg #[.int .i64 a, .int .u8 (o : Nat), .int .u64 (m : Nat), .int .u64 (v : Nat)]] S w0 L fun r L' => r = .agg #[.int .i64 a, .int .i64 (o : Nat), .int .u64 (m : Nat), .int .u64 (v : Nat)] ∧ L = L' := by
 refine Fn1 Tryz.func46 Tryz.ntmps46 rfl rfl ?_
 repeat' (first | refine h0i ?_ | refine h0b ?_ | refine h0v ?_ | (refine gR 0 ?_ <;> (try refine h0c ?_; (refine h2n (t:=99) rfl rfl ?_; intro nb hnb; (try simp only [Value.cells]))) <;> (try refine h0c ?_; (refine h0k (t:=136) rfl Tryz.zeroValue136 ?_; intro nb hnb; (try simp only [Value.cells]))) <;> (try refine h0a ?_)) | (refine gR 1 (p_e (q_f h4m) (h:=p_e q_l (h:=p_e (q_f h3d) (h:=q_e q_l ?_)))) <;> (try refine q_e (by apply h3t; exact rfl; (focus (apply h3u Tryz.underlying96 Tryz.underlying3; first | (refine IntWalk.i64_in _ ?_; omega) | (refine IntWalk.u8_in _ ?_; omega) | (refine IntWalk.u16_in _ ?_; omega) | (refine IntWalk.u32_in _ ?_; omega) | (refine IntWalk.u64_in _ ?_; omega) | (refine IntWalk.i32_in _ ?_; omega) | exact rfl))) ?_) <;> (try refine p_e (q_f h5b) (h:=p_e q_l (h:=p_e (q_f fo_99_3) (h:=q_e q_l ?_)))) <;> (try refine q_e (by exact h0q (t:=136) (fun vs => (match vs with | [(_, x0), (_, x1), (_, x2), (_, x3)] => [x0, x1, x2, x3] | _ => [])) rfl (fun w => by kernel_rfl)) ?_; (try simp only [Value.cells]); (try simp only [zzC, zzN])) <;> (try refine h0c ?_; (refine q_W ?_)) <;> (try refine h0a ?_)))
 (apply h5d Tryz.results46; exact rfl; (focus (repeat (first | exact fd0 | (with_reducible assumption) | apply fdA | apply fdS))); kernel_rfl; kernel_rfl; exact sz_136; exact c_16)
 exact ⟨_, ⟨rfl, rfl⟩, by intro w H; refine H.sub ?_; (try simp only [zzC, zzN]); repeat (first | exact List.Sublist.refl _ | refine List.Sublist.cons _ ?_)⟩
structure RfG where
 k : Nat
 cz : List Value
 vr : Value
 er : List Blk
 ec : List Blk
structure RfI (rules : List GRul) (g : RfG) : Prop where
 le : g.k ≤ rules.length
 rs : RefR (rules.take g.k) g.cz g.ec
 own : Own 130 3 g.vr g.k g.cz g.er
set_option maxHeartbeats 2000000 in
theorem ref_c {S w0 L} (P : GPol) (h : P.ok) (hN : FewN P) (vr vp vq : Value) (hS : PolS L P vr vp vq) :
  Fn Tryz.prog 19 #[.agg (polG P vr vp vq).toArray] S w0 L fun v L' => ∃ d : RfD, v = .agg (refC P d.vr d.vp d.vq).toArray ∧ d.ok P ∧ d.blocks ++ L = L' := by
 obtain ⟨⟨ra, rc, zz, rfl, hrs, hrg⟩, ⟨pa, pc, rfl, hps⟩, ⟨qa, qc, rfl, hqs⟩, -, -, -⟩ := hS
 obtain ⟨hcn, hl1, hl2, hl3⟩ := hN
 obtain ⟨-, -, hro, hhd, hpo, hqo⟩ := h
 obtain ⟨nm, df, rules, hd, paths, ports⟩ := P
 dsimp only [polG] at *
 generalize hnmB : mB8 nm = nmB at *
 refine Fn1 Tryz.func19 Tryz.ntmps19 rfl rfl ?_
 repeat' (first | (refine h2h (id:=0) ?_) | refine h0i ?_ | refine h0b ?_ | (refine gR 0 ?_ <;> (try refine h0c ?_; (refine h2n (t:=36) rfl rfl ?_; intro nb hnb; (try simp only [Value.cells]))) <;> (try refine h0c ?_; (refine h0k (t:=67) rfl Tryz.zeroValue67 ?_; intro nb hnb; (try simp only [Value.cells]))) <;> (try refine h0a ?_)) | (refine gR 1 (p_e (q_f h6b) (h:=p_e q_l (h:=p_e (q_f fo_36_1) (h:=p_e q_l (h:=p_e (q_f h5l) (h:=q_e q_l ?_)))))) <;> (try refine q_e (by apply h3t; exact rfl; (focus (apply h3u Tryz.underlying32 Tryz.underlying3; first | (refine IntWalk.i64_in _ ?_; omega) | (refine IntWalk.u8_in _ ?_; omega) | (refine IntWalk.u16_in _ ?_; omega) | (refine IntWalk.u32_in _ ?_; omega) | (refine IntWalk.u64_in _ ?_; omega) | (refine IntWalk.i32_in _ ?_; omega) | exact rfl))) ?_) <;> (try refine q_e (by exact h0q (t:=67) (fun vs => (match vs with | [(_, x0), (_, x1), (_, x2)] => [x0, x1, Value.slice none 0 0, x2, Value.slice none 0 0, Value.slice none 0 0] | _ => [])) rfl (fun w => by kernel_rfl)) ?_; (try simp only [Value.cells]); (try simp only [zzC, zzN])) <;> (try refine h0c ?_; (refine h0k (t:=67) rfl Tryz.zeroValue67 ?_; intro nb hnb; (try simp only [Value.cells]))) <;> (try refine h0c ?_; (refine q_W ?_)) <;> (try refine h0a ?_)) | (refine gR 2 (p_e (q_f h2t) (h:=p_e q_l (h:=p_e (by apply h0e; exact rfl; exact (fun _ => BigFrame.builtin_len ..); apply h0d Tryz.underlying30; exact h3m) (h:=p_m (h:=h0a ?_)))))))
 refine ⟨?_⟩
 rename_i n1 _ n2 _
 obtain ⟨n3, rfl⟩ : ∃ x, x = nb := ⟨_, rfl⟩
 refine h2q (γ:=RfG) (fun g => RefR rules g.cz g.ec ∧ Own 130 3 g.vr rules.length g.cz g.er) (fun _ => []) [(1, _), (2, _), (3, _)]
  (fun g => g.er ++ (rfB n3 nmB df g.vr hd (.slice none 0 0) (.slice none 0 0) :: rfZ n2 :: poB n1 nmB df (.slice ra rules.length rc) hd (.slice pa paths.length pc) (.slice qa ports.length qc) :: (g.ec ++ L))) (.cons rfl (.cons rfl (.cons rfl .nil))) ?_ ?_
 ·refine h0j ?_
  refine h2i (γ:=RfG) (RfI rules) (fun g => rules.length - g.k) (fun g => [(24, .int .i64 (g.k : Nat))]) [(1, _), (2, _), (3, _), (22, _), (23, _)]
   (fun g => g.er ++ (rfB n3 nmB df g.vr hd (.slice none 0 0) (.slice none 0 0) :: rfZ n2 :: poB n1 nmB df (.slice ra rules.length rc) hd (.slice pa paths.length pc) (.slice qa ports.length qc) :: (g.ec ++ L))) ⟨0, [], .slice none 0 0, [], []⟩ (.cons rfl (.cons rfl (.cons rfl (.cons rfl (.cons rfl .nil))))) ⟨Nat.zero_le _, .nil, Own.nil _ _⟩ (by (focus (repeat (first | exact Sub.nil | refine Sub.cons rfl ?_)))) c_28 ?_
  rintro ⟨k, cz, vr, er, ec⟩ ⟨hk, hR, hown⟩
  dsimp only at hk hR hown ⊢
  obtain ⟨va, vc, rfl, -⟩ := hown.sli []
  by_cases hlt : k < rules.length
  case neg =>
   obtain rfl : k = rules.length := by omega
   rw [List.take_length] at hR
   repeat' (first | refine h0i ?_ | refine h0b ?_ | refine h0s ?_ | refine h1p ?_ | refine h1f ?_ | refine h1o ?_ | refine h2c ?_ | refine h0f rfl ?_ | (refine gR 3 (p_e (q_b (r:=by exact h0y q_o)) (h:=h0a ?_))))
   exact h0w ⟨0, cz, _, er, ec⟩ ⟨hR, hown⟩ (by (focus (repeat (first | exact Sub.nil | refine Sub.cons rfl ?_)))) (by intro w H; refine Sel.out ?_ H; (try simp only [List.cons_append, List.nil_append, List.append_assoc]); repeat (first | exact Sel.refl _ | exact Sel.nil _ | (with_reducible apply Sel.appS) | (apply Sel.cons; (focus (repeat (first | exact fd0 | (with_reducible assumption) | apply fdA | apply fdS))); (try simp only [zzE, zzF])) | apply Sel.drop | apply Sel.dropA))
  obtain ⟨j, q, bb, off, cs, T, fr, rfl, hj, hsz, hx⟩ := hrs.elem hlt
  obtain ⟨v, hv, hcs⟩ := hrg.at_ k hlt
  rw [hv] at hx
  have hrk := hro _ (List.getElem_mem hlt)
  have hck := hcn _ (List.getElem_mem hlt)
  obtain ⟨ca, cc, rfl, hsc, hcl⟩ := hcs
  clear hv
  have hRs : ∀ (v : Value) (e : List Blk), Own 136 4 v rules[k].conds.length (rgC rules[k].conds) e → RefR (rules.take (k + 1)) (cz ++ [.int .u32 rules[k].num, .int .u32 rules[k].act, v]) (e ++ ec) := fun v e h => by
   rw [List.take_succ_eq_append_getElem hlt]
   exact .snoc hR h
  generalize rules[k] = r at *
  obtain ⟨num, act, conds⟩ := r
  obtain ⟨-, -, hr4⟩ := hrk
  dsimp only at *
  clear hR
  repeat' (first | (refine h2h (id:=2) ?_) | refine h0i ?_ | refine h0b ?_ | refine h0j ?_ | refine h0r ?_ | refine h0g rfl ?_ | (refine gR 3 (p_e (q_b (r:=by exact h0u q_o)) (h:=h0a ?_))) | (refine gR 4 (p_e (by apply h0n; exact rfl; exact rfl; (focus (apply h2j Tryz.underlying30 sz_73; omega; omega; exact c_1))) (h:=q_e (by apply h1u (t:=73); exact rfl; (focus (repeat (first | (with_reducible assumption) | apply fdA | apply fdS))); kernel_rfl; kernel_rfl; exact sz_73; (with_reducible assumption); (with_reducible assumption)) ?_)) <;> (try refine h0c ?_; (refine h0k (t:=73) rfl Tryz.zeroValue73 ?_; intro nb hnb; (try simp only [Value.cells]))) <;> (try refine h0c ?_; (refine q_W ?_)) <;> (try refine h0a ?_)) | (refine gR 5 (p_e (q_f fo_73_0) (h:=p_e q_l (h:=p_e (q_f fo_73_1) (h:=q_e q_l ?_)))) <;> (try refine q_e (by exact h0q (t:=130) (fun vs => (match vs with | [(_, x0), (_, x1)] => [x0, x1, Value.slice none 0 0] | _ => [])) rfl (fun w => by kernel_rfl)) ?_; (try simp only [Value.cells]); (try simp only [zzC, zzN])) <;> (try refine h0c ?_; (refine h0k (t:=130) rfl Tryz.zeroValue130 ?_; intro nb hnb; (try simp only [Value.cells]))) <;> (try refine h0c ?_; (refine q_W ?_)) <;> (try refine h0a ?_)) | (refine gR 6 (p_e (q_f h2w) (h:=p_e q_l (h:=p_e (by apply h0e; exact rfl; exact (fun _ => BigFrame.builtin_len ..); apply h0d Tryz.underlying71; exact h3m) (h:=p_m (h:=h0a ?_)))))))
  refine ⟨?_⟩
  obtain ⟨n6, rfl⟩ : ∃ x, x = nb := ⟨_, rfl⟩
  refine h2q (γ:=Value × List Blk) (fun g => Own 136 4 g.1 conds.length (rgC conds) g.2) (fun _ => []) [(1, _), (2, _), (3, _), (6, _), (22, _), (23, _), (24, _)]
   (fun g => g.2 ++ (rrB n6 num act g.1 :: (er ++ (rfB n3 nmB df (.slice va k vc) hd (.slice none 0 0) (.slice none 0 0) :: rfZ n2 :: poB n1 nmB df (.slice (some ⟨bb, off, none⟩) rules.length rc) hd (.slice pa paths.length pc) (.slice qa ports.length qc) :: (ec ++ L))))) (.cons rfl (.cons rfl (.cons rfl (.cons rfl (.cons rfl (.cons rfl (.cons rfl .nil))))))) ?_ ?_
  ·refine h0j ?_
   refine h2i (γ:=Nat × Value × List Blk) (fun g => g.1 ≤ conds.length ∧ Own 136 4 g.2.1 g.1 (rgC (conds.take g.1)) g.2.2) (fun g => conds.length - g.1) (fun g => [(36, .int .i64 (g.1 : Nat))]) [(1, _), (2, _), (3, _), (6, _), (22, _), (23, _), (24, _), (34, _), (35, _)]
    (fun g => g.2.2 ++ (rrB n6 num act g.2.1 :: (er ++ (rfB n3 nmB df (.slice va k vc) hd (.slice none 0 0) (.slice none 0 0) :: rfZ n2 :: poB n1 nmB df (.slice (some ⟨bb, off, none⟩) rules.length rc) hd (.slice pa paths.length pc) (.slice qa ports.length qc) :: (ec ++ L))))) (0, .slice none 0 0, []) (.cons rfl (.cons rfl (.cons rfl (.cons rfl (.cons rfl (.cons rfl (.cons rfl (.cons rfl (.cons rfl .nil))))))))) ⟨Nat.zero_le _, Own.nil _ _⟩ (by (focus (repeat (first | exact Sub.nil | refine Sub.cons rfl ?_)))) c_25 ?_
   clear hRs hown
   rintro ⟨j, v, e⟩ ⟨hj2, hown2⟩
   dsimp only at hj2 hown2 ⊢
   by_cases hlt2 : j < conds.length
   case neg =>
    obtain rfl : j = conds.length := by omega
    rw [List.take_length] at hown2
    obtain ⟨sa, sc, rfl, -⟩ := hown2.sli []
    repeat' (first | refine h0i ?_ | refine h0b ?_ | refine h0s ?_ | refine h1p ?_ | refine h1f ?_ | refine h1o ?_ | refine h2c ?_ | refine h0f rfl ?_ | (refine gR 7 (p_e (q_b (r:=by exact h0y q_o)) (h:=h0a ?_))))
    exact h0w (_, e) hown2 (by (focus (repeat (first | exact Sub.nil | refine Sub.cons rfl ?_)))) (by intro w H; refine Sel.out ?_ H; (try simp only [List.cons_append, List.nil_append, List.append_assoc]); repeat (first | exact Sel.refl _ | exact Sel.nil _ | (with_reducible apply Sel.appS) | (apply Sel.cons; (focus (repeat (first | exact fd0 | (with_reducible assumption) | apply fdA | apply fdS))); (try simp only [zzE, zzF])) | apply Sel.drop | apply Sel.dropA))
   obtain ⟨j3, q3, bb3, off3, cs3, T3, fr3, rfl, hj3, hsz3, hx3⟩ := hsc.elem hlt2
   rw [gcC_at _ _ hlt2] at hx3
   have hcj := hr4 _ (List.getElem_mem hlt2)
   have hfi : ∀ v e, Own 136 4 v (j + 1) (rgC (conds.take j) ++ conds[j].rc) e → Own 136 4 v (j + 1) (rgC (conds.take (j + 1))) e := fun v e h => by
    rw [List.take_succ_eq_append_getElem hlt2, rgC_snoc]; exact h
   generalize conds[j] = cd at *
   obtain ⟨xa, xo, xm, xv⟩ := cd
   obtain ⟨y1, y2, y3, y4⟩ := hcj
   dsimp only [GCnd.rc, GCnd.cells] at y1 y2 y3 y4 hx3 hfi
   have hcd := fun (L : List Blk) => refcond_c (S:=S) (w0:=w0) (L:=L) xa xo xm xv y2
   unfold maxLen at hcl
   rcases h2z hown2 with ⟨rfl, h0, hx', rfl⟩ | ⟨g, capg, cur, rfl, rfl, q1, q2, q3, q4⟩
   ·have hfi : ∀ v e, Own 136 4 v (0 + 1) ([] ++ [.int .i64 xa, .int .i64 (xo : Nat), .int .u64 (xm : Nat), .int .u64 (xv : Nat)]) e → Own 136 4 v (j + 1) (rgC (conds.take (j + 1))) e := fun v e h => hfi v e (by rw [hx', h0]; exact h)
    clear hown2 hx'
    (try simp only [zzC, zzN])
    repeat' (first | refine h0i ?_ | refine h0b ?_ | refine h0s ?_ | refine h0x ?_ | refine h0j ?_ | refine h0r ?_ | refine h0g rfl ?_ | (refine gR 7 (p_e (q_b (r:=by exact h0u q_o)) (h:=h0a ?_))) | (refine gR 8 (p_e (by apply h0n; exact rfl; exact rfl; (focus (apply h2j Tryz.underlying71 h5n; omega; omega; exact c_1))) (h:=q_e (by apply h1u (t:=99); exact rfl; (focus (repeat (first | (with_reducible assumption) | apply fdA | apply fdS))); kernel_rfl; kernel_rfl; exact h5n; (with_reducible assumption); (with_reducible assumption)) ?_)) <;> (try refine h0c ?_; (refine h0k (t:=99) rfl Tryz.zeroValue99 ?_; intro nb hnb; (try simp only [Value.cells]))) <;> (try refine h0c ?_; (refine q_W ?_)) <;> (try refine h0a ?_)) | ((refine h2s (pre:=[]) (id:=9) (m:=8) rfl (by kernel_rfl) rfl (q_t 0 (e:=h2o) (x:=by exact q_f h4r) (h:=?_))) <;> (try refine h2g (i:=1) (j:=2) rfl rfl (by kernel_rfl) ?_ ?_ <;> (first | (refine TagA.mk ?_; (((refine q_k q_l ?_); refine h1b h2o ?_) <;> (try refine q_r 2 ?_; (refine q_k (q_L h5n) ?_); refine h1b h2o ?_) <;> (try refine q_r 3 ?_; (refine q_c 46 (c:=by apply hcd) (h:=?_); rintro _ _ ⟨rfl, rfl⟩; (try simp only [zzE, zzF])); refine h1b h2o ?_) <;> (try refine q_r 4 ?_; (refine h0m (t:=128) (m:=1) (e:=136) (fun vs => (match vs with | [(_, x0)] => x0.cells.toList | _ => [])) rfl rfl (fun w => by kernel_rfl) ?_; intro nb hnb; (try simp only [Value.cells]); (try simp only [zzC, zzN])); refine h1b h2o ?_) <;> (try refine q_r 5 ?_; (apply h2b; exact rfl; exact Tryz.underlying128; exact inf_136_i; exact inf_136_z; exact inf_136_s; exact inf_136_b; exact rfl; exact rfl; exact rfl; exact Own.nil _ _; exact fd0; exact Nat.le_of_ble_eq_true rfl; exact h6c; exact rfl; exact h5t; omega; (exact fun _ H => H); exact rfl; exact h5x; exact c_4; intro vA eA hownA; obtain ⟨gA, capA, curA, rfl, rfl, hA1, hA2, hA3, hA4⟩ := hownA.some (by omega); (try simp only [zzC, zzN])); refine h1b h2o ?_) <;> (try refine q_t 6 (e:=h2o) (x:=by exact q_f h4r) (h:=?_)) <;> (try refine q_r 7 ?_; (refine q_S ?_); refine h1b h2o ?_) <;> (try refine h1a (by kernel_rfl) ?_))) | (refine TagB.mk ?_; (((refine q_k (q_L h5n) ?_); refine h1b h2o ?_) <;> (try refine h2g (i:=1) (j:=3) rfl rfl (by kernel_rfl) ?_ ?_ <;> (first | (refine TagA.mk ?_; (((refine q_k q_l ?_); refine h1b h2o ?_) <;> (try refine q_r 3 ?_; (refine q_c 46 (c:=by apply hcd) (h:=?_); rintro _ _ ⟨rfl, rfl⟩; (try simp only [zzE, zzF])); refine h1b h2o ?_) <;> (try refine q_r 4 ?_; (refine h0m (t:=128) (m:=1) (e:=136) (fun vs => (match vs with | [(_, x0)] => x0.cells.toList | _ => [])) rfl rfl (fun w => by kernel_rfl) ?_; intro nb hnb; (try simp only [Value.cells]); (try simp only [zzC, zzN])); refine h1b h2o ?_) <;> (try refine q_r 5 ?_; (apply h2b; exact rfl; exact Tryz.underlying128; exact inf_136_i; exact inf_136_z; exact inf_136_s; exact inf_136_b; exact rfl; exact rfl; exact rfl; exact Own.nil _ _; exact fd0; exact Nat.le_of_ble_eq_true rfl; exact h6c; exact rfl; exact h5t; omega; (exact fun _ H => H); exact rfl; exact h5x; exact c_4; intro vA eA hownA; obtain ⟨gA, capA, curA, rfl, rfl, hA1, hA2, hA3, hA4⟩ := hownA.some (by omega); (try simp only [zzC, zzN])); refine h1b h2o ?_) <;> (try refine q_t 6 (e:=h2o) (x:=by exact q_f h4r) (h:=?_)) <;> (try refine q_r 7 ?_; (refine q_S ?_); refine h1b h2o ?_) <;> (try refine h1a (by kernel_rfl) ?_))) | (refine TagB.mk ?_; (((refine q_c 46 (c:=by apply hcd) (h:=?_); rintro _ _ ⟨rfl, rfl⟩; (try simp only [zzE, zzF])); refine h1b h2o ?_) <;> (try refine h2g (i:=1) (j:=4) rfl rfl (by kernel_rfl) ?_ ?_ <;> (first | (refine TagA.mk ?_; (((refine q_k q_l ?_); refine h1b h2o ?_) <;> (try refine q_r 4 ?_; (refine h0m (t:=128) (m:=1) (e:=136) (fun vs => (match vs with | [(_, x0)] => x0.cells.toList | _ => [])) rfl rfl (fun w => by kernel_rfl) ?_; intro nb hnb; (try simp only [Value.cells]); (try simp only [zzC, zzN])); refine h1b h2o ?_) <;> (try refine q_r 5 ?_; (apply h2b; exact rfl; exact Tryz.underlying128; exact inf_136_i; exact inf_136_z; exact inf_136_s; exact inf_136_b; exact rfl; exact rfl; exact rfl; exact Own.nil _ _; exact fd0; exact Nat.le_of_ble_eq_true rfl; exact h6c; exact rfl; exact h5t; omega; (exact fun _ H => H); exact rfl; exact h5x; exact c_4; intro vA eA hownA; obtain ⟨gA, capA, curA, rfl, rfl, hA1, hA2, hA3, hA4⟩ := hownA.some (by omega); (try simp only [zzC, zzN])); refine h1b h2o ?_) <;> (try refine q_t 6 (e:=h2o) (x:=by exact q_f h4r) (h:=?_)) <;> (try refine q_r 7 ?_; (refine q_S ?_); refine h1b h2o ?_) <;> (try refine h1a (by kernel_rfl) ?_))) | (refine TagB.mk ?_; (((refine h0m (t:=128) (m:=1) (e:=136) (fun vs => (match vs with | [(_, x0)] => x0.cells.toList | _ => [])) rfl rfl (fun w => by kernel_rfl) ?_; intro nb hnb; (try simp only [Value.cells]); (try simp only [zzC, zzN])); refine h1b h2o ?_) <;> (try refine q_r 1 ?_; (refine q_k q_l ?_); refine h1b h2o ?_) <;> (try refine q_r 5 ?_; (apply h2b; exact rfl; exact Tryz.underlying128; exact inf_136_i; exact inf_136_z; exact inf_136_s; exact inf_136_b; exact rfl; exact rfl; exact rfl; exact Own.nil _ _; exact fd0; exact Nat.le_of_ble_eq_true rfl; exact h6c; exact rfl; exact h5t; omega; (exact fun _ H => H); exact rfl; exact h5x; exact c_4; intro vA eA hownA; obtain ⟨gA, capA, curA, rfl, rfl, hA1, hA2, hA3, hA4⟩ := hownA.some (by omega); (try simp only [zzC, zzN])); refine h1b h2o ?_) <;> (try refine q_t 6 (e:=h2o) (x:=by exact q_f h4r) (h:=?_)) <;> (try refine q_r 7 ?_; (refine q_S ?_); refine h1b h2o ?_) <;> (try refine h1a (by kernel_rfl) ?_)))))))))))))) | (refine gR 10 ?_ <;> (try refine q_e (q_b (r:=by apply h1n; exact c_5; (focus (refine IntWalk.i64_in _ ?_; omega)))) ?_) <;> (try refine p_m (h:=h0a ?_))))
    all_goals exact h0w (j + 1, _, _) ⟨⟨by show j + 1 ≤ _; omega, hfi _ _ (h3v (g:=gA) hA1 hA2 hA3 hA4)⟩, by show _ - (j + 1) < _ - j; omega⟩ (by (focus (repeat (first | exact Sub.nil | refine Sub.cons rfl ?_)))) c_23
   ·rw [← q4] at hfi
    clear hown2
    (try simp only [zzC, zzN])
    repeat' (first | refine h0i ?_ | refine h0b ?_ | refine h0s ?_ | refine h0x ?_ | refine h0j ?_ | refine h0r ?_ | refine h0g rfl ?_ | (refine gR 7 (p_e (q_b (r:=by exact h0u q_o)) (h:=h0a ?_))) | (refine gR 8 (p_e (by apply h0n; exact rfl; exact rfl; (focus (apply h2j Tryz.underlying71 h5n; omega; omega; exact c_1))) (h:=q_e (by apply h1u (t:=99); exact rfl; (focus (repeat (first | (with_reducible assumption) | apply fdA | apply fdS))); kernel_rfl; kernel_rfl; exact h5n; (with_reducible assumption); (with_reducible assumption)) ?_)) <;> (try refine h0c ?_; (refine h0k (t:=99) rfl Tryz.zeroValue99 ?_; intro nb hnb; (try simp only [Value.cells]))) <;> (try refine h0c ?_; (refine q_W ?_)) <;> (try refine h0a ?_)) | ((refine h2s (pre:=[]) (id:=9) (m:=8) rfl (by kernel_rfl) rfl (q_t 0 (e:=h2o) (x:=by exact q_f h4r) (h:=?_))) <;> (try refine h2g (i:=1) (j:=2) rfl rfl (by kernel_rfl) ?_ ?_ <;> (first | (refine TagA.mk ?_; (((refine q_k q_l ?_); refine h1b h2o ?_) <;> (try refine q_r 2 ?_; (refine q_k (q_L h5n) ?_); refine h1b h2o ?_) <;> (try refine q_r 3 ?_; (refine q_c 46 (c:=by apply hcd) (h:=?_); rintro _ _ ⟨rfl, rfl⟩; (try simp only [zzE, zzF])); refine h1b h2o ?_) <;> (try refine q_r 4 ?_; (refine h0m (t:=128) (m:=1) (e:=136) (fun vs => (match vs with | [(_, x0)] => x0.cells.toList | _ => [])) rfl rfl (fun w => by kernel_rfl) ?_; intro nb hnb; (try simp only [Value.cells]); (try simp only [zzC, zzN])); refine h1b h2o ?_) <;> (try refine q_r 5 ?_; (apply h1m; exact rfl; exact Tryz.underlying128; exact inf_136_i; exact inf_136_z; exact inf_136_s; exact inf_136_b; exact rfl; exact rfl; exact rfl; exact h3i; (with_reducible assumption); (with_reducible assumption); (with_reducible assumption); exact fd0; exact Nat.le_of_ble_eq_true rfl; exact h6c; exact rfl; exact h5t; omega; exact rfl; exact h5x; exact c_4; (try simp only [zzE, zzF]); intro vA eA hownA; obtain ⟨gA, capA, curA, rfl, rfl, hA1, hA2, hA3, hA4⟩ := hownA.some (by omega); (try simp only [zzC, zzN])); refine h1b h2o ?_) <;> (try refine q_t 6 (e:=h2o) (x:=by exact q_f h4r) (h:=?_)) <;> (try refine q_r 7 ?_; (refine q_S ?_); refine h1b h2o ?_) <;> (try refine h1a (by kernel_rfl) ?_))) | (refine TagB.mk ?_; (((refine q_k (q_L h5n) ?_); refine h1b h2o ?_) <;> (try refine h2g (i:=1) (j:=3) rfl rfl (by kernel_rfl) ?_ ?_ <;> (first | (refine TagA.mk ?_; (((refine q_k q_l ?_); refine h1b h2o ?_) <;> (try refine q_r 3 ?_; (refine q_c 46 (c:=by apply hcd) (h:=?_); rintro _ _ ⟨rfl, rfl⟩; (try simp only [zzE, zzF])); refine h1b h2o ?_) <;> (try refine q_r 4 ?_; (refine h0m (t:=128) (m:=1) (e:=136) (fun vs => (match vs with | [(_, x0)] => x0.cells.toList | _ => [])) rfl rfl (fun w => by kernel_rfl) ?_; intro nb hnb; (try simp only [Value.cells]); (try simp only [zzC, zzN])); refine h1b h2o ?_) <;> (try refine q_r 5 ?_; (apply h1m; exact rfl; exact Tryz.underlying128; exact inf_136_i; exact inf_136_z; exact inf_136_s; exact inf_136_b; exact rfl; exact rfl; exact rfl; exact h3i; (with_reducible assumption); (with_reducible assumption); (with_reducible assumption); exact fd0; exact Nat.le_of_ble_eq_true rfl; exact h6c; exact rfl; exact h5t; omega; exact rfl; exact h5x; exact c_4; (try simp only [zzE, zzF]); intro vA eA hownA; obtain ⟨gA, capA, curA, rfl, rfl, hA1, hA2, hA3, hA4⟩ := hownA.some (by omega); (try simp only [zzC, zzN])); refine h1b h2o ?_) <;> (try refine q_t 6 (e:=h2o) (x:=by exact q_f h4r) (h:=?_)) <;> (try refine q_r 7 ?_; (refine q_S ?_); refine h1b h2o ?_) <;> (try refine h1a (by kernel_rfl) ?_))) | (refine TagB.mk ?_; (((refine q_c 46 (c:=by apply hcd) (h:=?_); rintro _ _ ⟨rfl, rfl⟩; (try simp only [zzE, zzF])); refine h1b h2o ?_) <;> (try refine h2g (i:=1) (j:=4) rfl rfl (by kernel_rfl) ?_ ?_ <;> (first | (refine TagA.mk ?_; (((refine q_k q_l ?_); refine h1b h2o ?_) <;> (try refine q_r 4 ?_; (refine h0m (t:=128) (m:=1) (e:=136) (fun vs => (match vs with | [(_, x0)] => x0.cells.toList | _ => [])) rfl rfl (fun w => by kernel_rfl) ?_; intro nb hnb; (try simp only [Value.cells]); (try simp only [zzC, zzN])); refine h1b h2o ?_) <;> (try refine q_r 5 ?_; (apply h1m; exact rfl; exact Tryz.underlying128; exact inf_136_i; exact inf_136_z; exact inf_136_s; exact inf_136_b; exact rfl; exact rfl; exact rfl; exact h3i; (with_reducible assumption); (with_reducible assumption); (with_reducible assumption); exact fd0; exact Nat.le_of_ble_eq_true rfl; exact h6c; exact rfl; exact h5t; omega; exact rfl; exact h5x; exact c_4; (try simp only [zzE, zzF]); intro vA eA hownA; obtain ⟨gA, capA, curA, rfl, rfl, hA1, hA2, hA3, hA4⟩ := hownA.some (by omega); (try simp only [zzC, zzN])); refine h1b h2o ?_) <;> (try refine q_t 6 (e:=h2o) (x:=by exact q_f h4r) (h:=?_)) <;> (try refine q_r 7 ?_; (refine q_S ?_); refine h1b h2o ?_) <;> (try refine h1a (by kernel_rfl) ?_))) | (refine TagB.mk ?_; (((refine h0m (t:=128) (m:=1) (e:=136) (fun vs => (match vs with | [(_, x0)] => x0.cells.toList | _ => [])) rfl rfl (fun w => by kernel_rfl) ?_; intro nb hnb; (try simp only [Value.cells]); (try simp only [zzC, zzN])); refine h1b h2o ?_) <;> (try refine q_r 1 ?_; (refine q_k q_l ?_); refine h1b h2o ?_) <;> (try refine q_r 5 ?_; (apply h1m; exact rfl; exact Tryz.underlying128; exact inf_136_i; exact inf_136_z; exact inf_136_s; exact inf_136_b; exact rfl; exact rfl; exact rfl; exact h3i; (with_reducible assumption); (with_reducible assumption); (with_reducible assumption); exact fd0; exact Nat.le_of_ble_eq_true rfl; exact h6c; exact rfl; exact h5t; omega; exact rfl; exact h5x; exact c_4; (try simp only [zzE, zzF]); intro vA eA hownA; obtain ⟨gA, capA, curA, rfl, rfl, hA1, hA2, hA3, hA4⟩ := hownA.some (by omega); (try simp only [zzC, zzN])); refine h1b h2o ?_) <;> (try refine q_t 6 (e:=h2o) (x:=by exact q_f h4r) (h:=?_)) <;> (try refine q_r 7 ?_; (refine q_S ?_); refine h1b h2o ?_) <;> (try refine h1a (by kernel_rfl) ?_)))))))))))))) | (refine gR 10 ?_ <;> (try refine q_e (q_b (r:=by apply h1n; exact c_5; (focus (refine IntWalk.i64_in _ ?_; omega)))) ?_) <;> (try refine p_m (h:=h0a ?_))))
    all_goals exact h0w (j + 1, _, _) ⟨⟨by show j + 1 ≤ _; omega, hfi _ _ (h3v (g:=gA) hA1 hA2 hA3 hA4)⟩, by show _ - (j + 1) < _ - j; omega⟩ (by (focus (repeat (first | exact Sub.nil | refine Sub.cons rfl ?_)))) c_23
  rintro ⟨v, e⟩ hown2
  dsimp only at hown2 ⊢
  obtain ⟨sa, sc, rfl, -⟩ := hown2.sli []
  refine h5h (L' := er ++ (rrB n6 num act (.slice sa conds.length sc) :: rfB n3 nmB df (.slice va k vc) hd (.slice none 0 0) (.slice none 0 0) :: rfZ n2 :: poB n1 nmB df (.slice (some ⟨bb, off, none⟩) rules.length rc) hd (.slice pa paths.length pc) (.slice qa ports.length qc) :: (e ++ (ec ++ L)))) (fun w H => HP.re2 (env:=[e, [_], er, [_, _, _], ec, L]) [0, 1, 2, 3, 4, 5] [2, 1, 3, 0, 4, 5] (by decide) rfl rfl H) ?_
  have hR' := hRs _ _ hown2
  clear hown2 hRs hsc
  have hfi : ∀ v' e', Own 130 3 v' (k + 1) (cz ++ [.int .u32 num, .int .u32 act, .slice sa conds.length sc]) e' → Own 130 3 v' (k + 1) (cz ++ [.int .u32 num, .int .u32 act, .slice sa conds.length sc]) e' := fun _ _ h => h
  rcases h2z hown with ⟨hv0, h0, hx', rfl⟩ | ⟨g, capg, cur, hv0, rfl, q1, q2, q3, q4⟩
  ·injection hv0 with v1 v2 v3
   subst v1 v3
   have hfi : ∀ v' e', Own 130 3 v' (0 + 1) ([] ++ [.int .u32 num, .int .u32 act, .slice sa conds.length sc]) e' → Own 130 3 v' (k + 1) (cz ++ [.int .u32 num, .int .u32 act, .slice sa conds.length sc]) e' := fun v e h => hfi v e (by rw [hx', h0]; exact h)
   rw [show Value.slice none k 0 = .slice none 0 0 by rw [h0]]
   clear hown hx'
   (try simp only [zzC, zzN])
   repeat' (first | refine h0b ?_ | refine h0s ?_ | refine h0x ?_ | (refine gR 11 (p_e (q_f fo_67_2) (h:=p_e q_l (h:=q_e (q_L sz_130) ?_))) <;> (try refine h0c ?_; (refine h0m (t:=63) (m:=1) (e:=130) (fun vs => (match vs with | [(_, x0)] => x0.cells.toList | _ => [])) rfl rfl (fun w => by kernel_rfl) ?_; intro nb hnb; (try simp only [Value.cells]); (try simp only [zzC, zzN]))) <;> (try refine h0c ?_; (apply h2b; exact rfl; exact Tryz.underlying63; exact inf_130_i; exact inf_130_z; exact inf_130_s; exact inf_130_b; exact rfl; exact rfl; exact rfl; exact Own.nil _ _; exact fd0; exact Nat.le_of_ble_eq_true rfl; exact h6c; exact rfl; exact h5t; omega; (exact fun _ H => H); exact rfl; exact h5x; exact c_4; intro vA eA hownA; obtain ⟨gA, capA, curA, rfl, rfl, hA1, hA2, hA3, hA4⟩ := hownA.some (by omega); (try simp only [zzC, zzN]))) <;> (try refine q_e (q_f fo_67_2) ?_) <;> (try refine h0c ?_; (refine q_S ?_)) <;> (try refine h0a ?_)) | (refine gR 12 ?_ <;> (try refine q_e (q_b (r:=by apply h1n; exact c_5; (focus (refine IntWalk.i64_in _ ?_; omega)))) ?_) <;> (try refine p_m (h:=h0a ?_))))
   all_goals exact h0w ⟨k + 1, _, _, _, e ++ ec⟩ ⟨⟨by show k + 1 ≤ _; omega, hR', hfi _ _ (h3v (g:=gA) hA1 hA2 hA3 hA4)⟩, by show _ - (k + 1) < _ - k; omega⟩ (by (focus (repeat (first | exact Sub.nil | refine Sub.cons rfl ?_)))) (by intro w H; refine Sel.out ?_ H; (try simp only [List.cons_append, List.nil_append, List.append_assoc]); repeat (first | exact Sel.refl _ | exact Sel.nil _ | (with_reducible apply Sel.appS) | (apply Sel.cons; (focus (repeat (first | exact fd0 | (with_reducible assumption) | apply fdA | apply fdS))); (try simp only [zzE, zzF])) | apply Sel.drop | apply Sel.dropA))
  ·injection hv0 with v1 v2 v3
   subst v1 v3
   rw [← q4] at hR'
   clear hown
   (try simp only [zzC, zzN])
   repeat' (first | refine h0b ?_ | refine h0s ?_ | refine h0x ?_ | (refine gR 11 (p_e (q_f fo_67_2) (h:=p_e q_l (h:=q_e (q_L sz_130) ?_))) <;> (try refine h0c ?_; (refine h0m (t:=63) (m:=1) (e:=130) (fun vs => (match vs with | [(_, x0)] => x0.cells.toList | _ => [])) rfl rfl (fun w => by kernel_rfl) ?_; intro nb hnb; (try simp only [Value.cells]); (try simp only [zzC, zzN]))) <;> (try refine h0c ?_; (apply h1m; exact rfl; exact Tryz.underlying63; exact inf_130_i; exact inf_130_z; exact inf_130_s; exact inf_130_b; exact rfl; exact rfl; exact rfl; exact h3i; (with_reducible assumption); (with_reducible assumption); (with_reducible assumption); exact fd0; exact Nat.le_of_ble_eq_true rfl; exact h6c; exact rfl; exact h5t; omega; exact rfl; exact h5x; exact c_4; (try simp only [zzE, zzF]); intro vA eA hownA; obtain ⟨gA, capA, curA, rfl, rfl, hA1, hA2, hA3, hA4⟩ := hownA.some (by omega); (try simp only [zzC, zzN]))) <;> (try refine q_e (q_f fo_67_2) ?_) <;> (try refine h0c ?_; (refine q_S ?_)) <;> (try refine h0a ?_)) | (refine gR 12 ?_ <;> (try refine q_e (q_b (r:=by apply h1n; exact c_5; (focus (refine IntWalk.i64_in _ ?_; omega)))) ?_) <;> (try refine p_m (h:=h0a ?_))))
   all_goals exact h0w ⟨k + 1, _, _, _, e ++ ec⟩ ⟨⟨by show k + 1 ≤ _; omega, hR', h3v (g:=gA) hA1 hA2 hA3 hA4⟩, by show _ - (k + 1) < _ - k; omega⟩ (by (focus (repeat (first | exact Sub.nil | refine Sub.cons rfl ?_)))) (by intro w H; refine Sel.out ?_ H; (try simp only [List.cons_append, List.nil_append, List.append_assoc]); repeat (first | exact Sel.refl _ | exact Sel.nil _ | (with_reducible apply Sel.appS) | (apply Sel.cons; (focus (repeat (first | exact fd0 | (with_reducible assumption) | apply fdA | apply fdS))); (try simp only [zzE, zzF])) | apply Sel.drop | apply Sel.dropA))
 -- PATHS
 rintro ⟨k1, cz, vr, er, ec⟩ ⟨hR, hownR⟩
 dsimp only at hR hownR ⊢
 obtain ⟨va, vc, rfl, -⟩ := hownR.sli []
 refine h5h (L' := rfB n3 nmB df (.slice va rules.length vc) hd (.slice none 0 0) (.slice none 0 0) :: rfZ n2 :: poB n1 nmB df (.slice ra rules.length rc) hd (.slice pa paths.length pc) (.slice qa ports.length qc) :: (er ++ (ec ++ L))) (fun w H => HP.re2 (env:=[er, [_, _, _], ec, L]) [0, 1, 2, 3] [1, 0, 2, 3] (by decide) rfl rfl H) ?_
 have hps2 : Sli (er ++ (ec ++ L)) pa paths.length 2 (pthC paths) := (hps.upA ec).upA er
 have hqs2 : Sli (er ++ (ec ++ L)) qa ports.length 2 (porC ports) := (hqs.upA ec).upA er
 clear hrg hrs hps hqs hro hcn
 generalize hL2 : er ++ (ec ++ L) = L2 at hps2 hqs2 ⊢
 repeat' (first | (refine h2h (id:=4) ?_) | refine h0i ?_ | refine h0b ?_ | (refine gR 13 (p_e (q_f h3h) (h:=p_e q_l (h:=p_e (by apply h0e; exact rfl; exact (fun _ => BigFrame.builtin_len ..); apply h0d Tryz.underlying33; exact h3m) (h:=p_m (h:=h0a ?_)))))))
 refine ⟨?_⟩
 refine h2q (γ:=Value × List Blk) (fun g => Own 132 2 g.1 paths.length (rpC paths) g.2) (fun _ => []) [(1, _), (2, _), (3, _)]
  (fun g => g.2 ++ (rfB n3 nmB df (.slice va rules.length vc) hd g.1 (.slice none 0 0) :: rfZ n2 :: poB n1 nmB df (.slice ra rules.length rc) hd (.slice pa paths.length pc) (.slice qa ports.length qc) :: L2)) (.cons rfl (.cons rfl (.cons rfl .nil))) ?_ ?_
 ·refine h0j ?_
  refine h2i (γ:=Nat × Value × List Blk) (fun g => g.1 ≤ paths.length ∧ Own 132 2 g.2.1 g.1 (rpC (paths.take g.1)) g.2.2) (fun g => paths.length - g.1) (fun g => [(58, .int .i64 (g.1 : Nat))]) [(1, _), (2, _), (3, _), (56, _), (57, _)]
   (fun g => g.2.2 ++ (rfB n3 nmB df (.slice va rules.length vc) hd g.2.1 (.slice none 0 0) :: rfZ n2 :: poB n1 nmB df (.slice ra rules.length rc) hd (.slice pa paths.length pc) (.slice qa ports.length qc) :: L2)) (0, .slice none 0 0, []) (.cons rfl (.cons rfl (.cons rfl (.cons rfl (.cons rfl .nil))))) ⟨Nat.zero_le _, Own.nil _ _⟩ (by (focus (repeat (first | exact Sub.nil | refine Sub.cons rfl ?_)))) c_28 ?_
  rintro ⟨k, v, e⟩ ⟨hk, hown⟩
  dsimp only at hk hown ⊢
  by_cases hlt : k < paths.length
  case neg =>
   obtain rfl : k = paths.length := by omega
   rw [List.take_length] at hown
   obtain ⟨sa, sc, rfl, -⟩ := hown.sli []
   repeat' (first | refine h0i ?_ | refine h0b ?_ | refine h0s ?_ | refine h1p ?_ | refine h1f ?_ | refine h1o ?_ | refine h2c ?_ | refine h0f rfl ?_ | (refine gR 14 (p_e (q_b (r:=by exact h0y q_o)) (h:=h0a ?_))))
   exact h0w (_, e) hown (by (focus (repeat (first | exact Sub.nil | refine Sub.cons rfl ?_)))) (by intro w H; refine Sel.out ?_ H; (try simp only [List.cons_append, List.nil_append, List.append_assoc]); repeat (first | exact Sel.refl _ | exact Sel.nil _ | (with_reducible apply Sel.appS) | (apply Sel.cons; (focus (repeat (first | exact fd0 | (with_reducible assumption) | apply fdA | apply fdS))); (try simp only [zzE, zzF])) | apply Sel.drop | apply Sel.dropA))
  obtain ⟨j, q, bb, off, cs, T, fr, rfl, hj, hsz, hx⟩ := hps2.elem hlt
  rw [pthC_at _ _ hlt] at hx
  have hpk := hpo _ (List.getElem_mem hlt)
  have hfi : ∀ v e, Own 132 2 v (k + 1) (rpC (paths.take k) ++ [.string (mB8 (paths[k]).1), .int .i64 ((paths[k]).2 : Nat)]) e → Own 132 2 v (k + 1) (rpC (paths.take (k + 1))) e := fun v e h => by
   rw [List.take_succ_eq_append_getElem hlt, rpC_snoc]; exact h
  generalize paths[k] = p at *
  obtain ⟨pt, pr⟩ := p
  dsimp only at *
  generalize mB8 pt = ptB at *
  rcases h2z hown with ⟨rfl, h0, hx', rfl⟩ | ⟨g, capg, cur, rfl, rfl, q1, q2, q3, q4⟩
  ·have hfi : ∀ v e, Own 132 2 v (0 + 1) ([] ++ [.string ptB, .int .i64 (pr : Nat)]) e → Own 132 2 v (k + 1) (rpC (paths.take (k + 1))) e := fun v e h => hfi v e (by rw [hx', h0]; exact h)
   clear hown hx'
   (try simp only [zzC, zzN])
   repeat' (first | refine h0i ?_ | refine h0b ?_ | refine h0s ?_ | refine h0x ?_ | refine h0j ?_ | refine h0r ?_ | refine h0g rfl ?_ | (refine gR 14 (p_e (q_b (r:=by exact h0u q_o)) (h:=h0a ?_))) | (refine gR 15 (p_e (by apply h0n; exact rfl; exact rfl; (focus (apply h2j Tryz.underlying33 h4x; omega; omega; exact c_1))) (h:=q_e (by apply h1u (t:=104); exact rfl; exact c_19; kernel_rfl; kernel_rfl; exact h4x; (with_reducible assumption); (with_reducible assumption)) ?_)) <;> (try refine h0c ?_; (refine h0k (t:=104) rfl Tryz.zeroValue104 ?_; intro nb hnb; (try simp only [Value.cells]))) <;> (try refine h0c ?_; (refine q_W ?_)) <;> (try refine h0a ?_)) | (refine gR 16 (p_e (q_f fo_67_4) (h:=p_e q_l (h:=p_e (q_f h5f) (h:=p_e q_l (h:=p_e (q_f fo_104_1) (h:=q_e q_l ?_)))))) <;> (try refine q_e (by apply h3t; exact rfl; (focus (apply h3u Tryz.underlying32 Tryz.underlying3; first | (refine IntWalk.i64_in _ ?_; omega) | (refine IntWalk.u8_in _ ?_; omega) | (refine IntWalk.u16_in _ ?_; omega) | (refine IntWalk.u32_in _ ?_; omega) | (refine IntWalk.u64_in _ ?_; omega) | (refine IntWalk.i32_in _ ?_; omega) | exact rfl))) ?_) <;> (try refine q_e (by exact h0q (t:=132) (fun vs => (match vs with | [(_, x0), (_, x1)] => [x0, x1] | _ => [])) rfl (fun w => by kernel_rfl)) ?_; (try simp only [Value.cells]); (try simp only [zzC, zzN])) <;> (try refine h0c ?_; (refine h0m (t:=64) (m:=1) (e:=132) (fun vs => (match vs with | [(_, x0)] => x0.cells.toList | _ => [])) rfl rfl (fun w => by kernel_rfl) ?_; intro nb hnb; (try simp only [Value.cells]); (try simp only [zzC, zzN]))) <;> (try refine h0c ?_; (apply h2b; exact rfl; exact Tryz.underlying64; exact inf_132_i; exact inf_132_z; exact inf_132_s; exact inf_132_b; exact rfl; exact rfl; exact rfl; exact Own.nil _ _; exact fd0; exact Nat.le_of_ble_eq_true rfl; exact h6c; exact rfl; exact h5t; omega; (exact fun _ H => H); exact rfl; exact h5x; exact c_4; intro vA eA hownA; obtain ⟨gA, capA, curA, rfl, rfl, hA1, hA2, hA3, hA4⟩ := hownA.some (by omega); (try simp only [zzC, zzN]))) <;> (try refine q_e (q_f fo_67_4) ?_) <;> (try refine h0c ?_; (refine q_S ?_)) <;> (try refine h0a ?_)) | (refine gR 17 ?_ <;> (try refine q_e (q_b (r:=by apply h1n; exact c_5; (focus (refine IntWalk.i64_in _ ?_; omega)))) ?_) <;> (try refine p_m (h:=h0a ?_))))
   all_goals exact h0w (k + 1, _, _) ⟨⟨by show k + 1 ≤ _; omega, hfi _ _ (h3v (g:=gA) hA1 hA2 hA3 hA4)⟩, by show _ - (k + 1) < _ - k; omega⟩ (by (focus (repeat (first | exact Sub.nil | refine Sub.cons rfl ?_)))) c_23
  ·rw [← q4] at hfi
   clear hown
   (try simp only [zzC, zzN])
   repeat' (first | refine h0i ?_ | refine h0b ?_ | refine h0s ?_ | refine h0x ?_ | refine h0j ?_ | refine h0r ?_ | refine h0g rfl ?_ | (refine gR 14 (p_e (q_b (r:=by exact h0u q_o)) (h:=h0a ?_))) | (refine gR 15 (p_e (by apply h0n; exact rfl; exact rfl; (focus (apply h2j Tryz.underlying33 h4x; omega; omega; exact c_1))) (h:=q_e (by apply h1u (t:=104); exact rfl; exact c_19; kernel_rfl; kernel_rfl; exact h4x; (with_reducible assumption); (with_reducible assumption)) ?_)) <;> (try refine h0c ?_; (refine h0k (t:=104) rfl Tryz.zeroValue104 ?_; intro nb hnb; (try simp only [Value.cells]))) <;> (try refine h0c ?_; (refine q_W ?_)) <;> (try refine h0a ?_)) | (refine gR 16 (p_e (q_f fo_67_4) (h:=p_e q_l (h:=p_e (q_f h5f) (h:=p_e q_l (h:=p_e (q_f fo_104_1) (h:=q_e q_l ?_)))))) <;> (try refine q_e (by apply h3t; exact rfl; (focus (apply h3u Tryz.underlying32 Tryz.underlying3; first | (refine IntWalk.i64_in _ ?_; omega) | (refine IntWalk.u8_in _ ?_; omega) | (refine IntWalk.u16_in _ ?_; omega) | (refine IntWalk.u32_in _ ?_; omega) | (refine IntWalk.u64_in _ ?_; omega) | (refine IntWalk.i32_in _ ?_; omega) | exact rfl))) ?_) <;> (try refine q_e (by exact h0q (t:=132) (fun vs => (match vs with | [(_, x0), (_, x1)] => [x0, x1] | _ => [])) rfl (fun w => by kernel_rfl)) ?_; (try simp only [Value.cells]); (try simp only [zzC, zzN])) <;> (try refine h0c ?_; (refine h0m (t:=64) (m:=1) (e:=132) (fun vs => (match vs with | [(_, x0)] => x0.cells.toList | _ => [])) rfl rfl (fun w => by kernel_rfl) ?_; intro nb hnb; (try simp only [Value.cells]); (try simp only [zzC, zzN]))) <;> (try refine h0c ?_; (apply h1m; exact rfl; exact Tryz.underlying64; exact inf_132_i; exact inf_132_z; exact inf_132_s; exact inf_132_b; exact rfl; exact rfl; exact rfl; exact h3i; (with_reducible assumption); (with_reducible assumption); (with_reducible assumption); exact fd0; exact Nat.le_of_ble_eq_true rfl; exact h6c; exact rfl; exact h5t; omega; exact rfl; exact h5x; exact c_4; (try simp only [zzE, zzF]); intro vA eA hownA; obtain ⟨gA, capA, curA, rfl, rfl, hA1, hA2, hA3, hA4⟩ := hownA.some (by omega); (try simp only [zzC, zzN]))) <;> (try refine q_e (q_f fo_67_4) ?_) <;> (try refine h0c ?_; (refine q_S ?_)) <;> (try refine h0a ?_)) | (refine gR 17 ?_ <;> (try refine q_e (q_b (r:=by apply h1n; exact c_5; (focus (refine IntWalk.i64_in _ ?_; omega)))) ?_) <;> (try refine p_m (h:=h0a ?_))))
   all_goals exact h0w (k + 1, _, _) ⟨⟨by show k + 1 ≤ _; omega, hfi _ _ (h3v (g:=gA) hA1 hA2 hA3 hA4)⟩, by show _ - (k + 1) < _ - k; omega⟩ (by (focus (repeat (first | exact Sub.nil | refine Sub.cons rfl ?_)))) c_23
 -- PORTS
 rintro ⟨vp, ep⟩ hownP
 dsimp only at hownP ⊢
 obtain ⟨wa, wc, rfl, -⟩ := hownP.sli []
 refine h5h (L' := rfB n3 nmB df (.slice va rules.length vc) hd (.slice wa paths.length wc) (.slice none 0 0) :: rfZ n2 :: poB n1 nmB df (.slice ra rules.length rc) hd (.slice pa paths.length pc) (.slice qa ports.length qc) :: (ep ++ L2)) (fun w H => HP.re2 (env:=[ep, [_, _, _], L2]) [0, 1, 2] [1, 0, 2] (by decide) rfl rfl H) ?_
 have hqs3 : Sli (ep ++ L2) qa ports.length 2 (porC ports) := hqs2.upA ep
 clear hps2 hqs2 hpo
 generalize hL3 : ep ++ L2 = L3 at hqs3 ⊢
 repeat' (first | (refine h2h (id:=6) ?_) | refine h0i ?_ | refine h0b ?_ | (refine gR 18 (p_e (q_f h3p) (h:=p_e q_l (h:=p_e (by apply h0e; exact rfl; exact (fun _ => BigFrame.builtin_len ..); apply h0d Tryz.underlying34; exact h3m) (h:=p_m (h:=h0a ?_)))))))
 refine ⟨?_⟩
 refine h2q (γ:=Value × List Blk) (fun g => Own 134 2 g.1 ports.length (rqC ports) g.2) (fun _ => []) [(2, _), (3, _)]
  (fun g => rfB n3 nmB df (.slice va rules.length vc) hd (.slice wa paths.length wc) g.1 :: rfZ n2 :: (g.2 ++ L3)) (.cons rfl (.cons rfl .nil)) ?_ ?_
 ·refine h0j ?_
  refine h2i (γ:=Nat × Value × List Blk) (fun g => g.1 ≤ ports.length ∧ Own 134 2 g.2.1 g.1 (rqC (ports.take g.1)) g.2.2) (fun g => ports.length - g.1) (fun g => [(77, .int .i64 (g.1 : Nat))]) [(2, _), (3, _), (75, _), (76, _)]
   (fun g => g.2.2 ++ (rfB n3 nmB df (.slice va rules.length vc) hd (.slice wa paths.length wc) g.2.1 :: rfZ n2 :: L3)) (0, .slice none 0 0, []) (.cons rfl (.cons rfl (.cons rfl (.cons rfl .nil)))) ⟨Nat.zero_le _, Own.nil _ _⟩ (by (focus (repeat (first | exact Sub.nil | refine Sub.cons rfl ?_)))) c_25 ?_
  rintro ⟨k, v, e⟩ ⟨hk, hown⟩
  dsimp only at hk hown ⊢
  by_cases hlt : k < ports.length
  case neg =>
   obtain rfl : k = ports.length := by omega
   rw [List.take_length] at hown
   obtain ⟨sa, sc, rfl, -⟩ := hown.sli []
   repeat' (first | refine h0i ?_ | refine h0b ?_ | refine h0s ?_ | refine h1p ?_ | refine h1f ?_ | refine h1o ?_ | refine h2c ?_ | refine h0f rfl ?_ | (refine gR 19 (p_e (q_b (r:=by exact h0y q_o)) (h:=h0a ?_))))
   exact h0w (_, e) hown (by (focus (repeat (first | exact Sub.nil | refine Sub.cons rfl ?_)))) (fun w H => HP.re2 (env:=[e, [_, _], L3]) [0, 1, 2] [1, 0, 2] (by decide) rfl rfl H)
  obtain ⟨j, q, bb, off, cs, T, fr, rfl, hj, hsz, hx⟩ := hqs3.elem hlt
  rw [porC_at _ _ hlt] at hx
  have hpk := hqo _ (List.getElem_mem hlt)
  have hfi : ∀ v e, Own 134 2 v (k + 1) (rqC (ports.take k) ++ [.int .i64 ((ports[k]).1 : Nat), .int .i64 ((ports[k]).2 : Nat)]) e → Own 134 2 v (k + 1) (rqC (ports.take (k + 1))) e := fun v e h => by
   rw [List.take_succ_eq_append_getElem hlt, rqC_snoc]; exact h
  generalize ports[k] = p at *
  obtain ⟨pt, pr⟩ := p
  dsimp only at *
  rcases h2z hown with ⟨rfl, h0, hx', rfl⟩ | ⟨g, capg, cur, rfl, rfl, q1, q2, q3, q4⟩
  ·have hfi : ∀ v e, Own 134 2 v (0 + 1) ([] ++ [.int .i64 (pt : Nat), .int .i64 (pr : Nat)]) e → Own 134 2 v (k + 1) (rqC (ports.take (k + 1))) e := fun v e h => hfi v e (by rw [hx', h0]; exact h)
   clear hown hx'
   (try simp only [zzC, zzN])
   repeat' (first | refine h0i ?_ | refine h0b ?_ | refine h0s ?_ | refine h0x ?_ | refine h0j ?_ | refine h0r ?_ | refine h0g rfl ?_ | (refine gR 19 (p_e (q_b (r:=by exact h0u q_o)) (h:=h0a ?_))) | (refine gR 20 (p_e (by apply h0n; exact rfl; exact rfl; (focus (apply h2j Tryz.underlying34 h6e; omega; omega; exact c_1))) (h:=q_e (by apply h1u (t:=106); exact rfl; exact c_19; kernel_rfl; kernel_rfl; exact h6e; (with_reducible assumption); (with_reducible assumption)) ?_)) <;> (try refine h0c ?_; (refine h0k (t:=106) rfl Tryz.zeroValue106 ?_; intro nb hnb; (try simp only [Value.cells]))) <;> (try refine h0c ?_; (refine q_W ?_)) <;> (try refine h0a ?_)) | (refine gR 21 (p_e (q_f fo_67_5) (h:=p_e q_l (h:=p_e (q_f fo_106_0) (h:=q_e q_l ?_)))) <;> (try refine q_e (by apply h3t; exact rfl; (focus (apply h3u Tryz.underlying31 Tryz.underlying3; first | (refine IntWalk.i64_in _ ?_; omega) | (refine IntWalk.u8_in _ ?_; omega) | (refine IntWalk.u16_in _ ?_; omega) | (refine IntWalk.u32_in _ ?_; omega) | (refine IntWalk.u64_in _ ?_; omega) | (refine IntWalk.i32_in _ ?_; omega) | exact rfl))) ?_) <;> (try refine p_e (q_f fo_106_1) (h:=q_e q_l ?_)) <;> (try refine q_e (by apply h3t; exact rfl; (focus (apply h3u Tryz.underlying32 Tryz.underlying3; first | (refine IntWalk.i64_in _ ?_; omega) | (refine IntWalk.u8_in _ ?_; omega) | (refine IntWalk.u16_in _ ?_; omega) | (refine IntWalk.u32_in _ ?_; omega) | (refine IntWalk.u64_in _ ?_; omega) | (refine IntWalk.i32_in _ ?_; omega) | exact rfl))) ?_) <;> (try refine q_e (by exact h0q (t:=134) (fun vs => (match vs with | [(_, x0), (_, x1)] => [x0, x1] | _ => [])) rfl (fun w => by kernel_rfl)) ?_; (try simp only [Value.cells]); (try simp only [zzC, zzN])) <;> (try refine h0c ?_; (refine h0m (t:=65) (m:=1) (e:=134) (fun vs => (match vs with | [(_, x0)] => x0.cells.toList | _ => [])) rfl rfl (fun w => by kernel_rfl) ?_; intro nb hnb; (try simp only [Value.cells]); (try simp only [zzC, zzN]))) <;> (try refine h0c ?_; (apply h2b; exact rfl; exact Tryz.underlying65; exact inf_134_i; exact inf_134_z; exact inf_134_s; exact inf_134_b; exact rfl; exact rfl; exact rfl; exact Own.nil _ _; exact fd0; exact Nat.le_of_ble_eq_true rfl; exact h6c; exact rfl; exact h5t; omega; (exact fun _ H => H); exact rfl; exact h5x; exact c_4; intro vA eA hownA; obtain ⟨gA, capA, curA, rfl, rfl, hA1, hA2, hA3, hA4⟩ := hownA.some (by omega); (try simp only [zzC, zzN]))) <;> (try refine q_e (q_f fo_67_5) ?_) <;> (try refine h0c ?_; (refine q_S ?_)) <;> (try refine h0a ?_)) | (refine gR 22 ?_ <;> (try refine q_e (q_b (r:=by apply h1n; exact c_5; (focus (refine IntWalk.i64_in _ ?_; omega)))) ?_) <;> (try refine p_m (h:=h0a ?_))))
   all_goals exact h0w (k + 1, _, _) ⟨⟨by show k + 1 ≤ _; omega, hfi _ _ (h3v (g:=gA) hA1 hA2 hA3 hA4)⟩, by show _ - (k + 1) < _ - k; omega⟩ (by (focus (repeat (first | exact Sub.nil | refine Sub.cons rfl ?_)))) c_23
  ·rw [← q4] at hfi
   clear hown
   (try simp only [zzC, zzN])
   repeat' (first | refine h0i ?_ | refine h0b ?_ | refine h0s ?_ | refine h0x ?_ | refine h0j ?_ | refine h0r ?_ | refine h0g rfl ?_ | (refine gR 19 (p_e (q_b (r:=by exact h0u q_o)) (h:=h0a ?_))) | (refine gR 20 (p_e (by apply h0n; exact rfl; exact rfl; (focus (apply h2j Tryz.underlying34 h6e; omega; omega; exact c_1))) (h:=q_e (by apply h1u (t:=106); exact rfl; exact c_19; kernel_rfl; kernel_rfl; exact h6e; (with_reducible assumption); (with_reducible assumption)) ?_)) <;> (try refine h0c ?_; (refine h0k (t:=106) rfl Tryz.zeroValue106 ?_; intro nb hnb; (try simp only [Value.cells]))) <;> (try refine h0c ?_; (refine q_W ?_)) <;> (try refine h0a ?_)) | (refine gR 21 (p_e (q_f fo_67_5) (h:=p_e q_l (h:=p_e (q_f fo_106_0) (h:=q_e q_l ?_)))) <;> (try refine q_e (by apply h3t; exact rfl; (focus (apply h3u Tryz.underlying31 Tryz.underlying3; first | (refine IntWalk.i64_in _ ?_; omega) | (refine IntWalk.u8_in _ ?_; omega) | (refine IntWalk.u16_in _ ?_; omega) | (refine IntWalk.u32_in _ ?_; omega) | (refine IntWalk.u64_in _ ?_; omega) | (refine IntWalk.i32_in _ ?_; omega) | exact rfl))) ?_) <;> (try refine p_e (q_f fo_106_1) (h:=q_e q_l ?_)) <;> (try refine q_e (by apply h3t; exact rfl; (focus (apply h3u Tryz.underlying32 Tryz.underlying3; first | (refine IntWalk.i64_in _ ?_; omega) | (refine IntWalk.u8_in _ ?_; omega) | (refine IntWalk.u16_in _ ?_; omega) | (refine IntWalk.u32_in _ ?_; omega) | (refine IntWalk.u64_in _ ?_; omega) | (refine IntWalk.i32_in _ ?_; omega) | exact rfl))) ?_) <;> (try refine q_e (by exact h0q (t:=134) (fun vs => (match vs with | [(_, x0), (_, x1)] => [x0, x1] | _ => [])) rfl (fun w => by kernel_rfl)) ?_; (try simp only [Value.cells]); (try simp only [zzC, zzN])) <;> (try refine h0c ?_; (refine h0m (t:=65) (m:=1) (e:=134) (fun vs => (match vs with | [(_, x0)] => x0.cells.toList | _ => [])) rfl rfl (fun w => by kernel_rfl) ?_; intro nb hnb; (try simp only [Value.cells]); (try simp only [zzC, zzN]))) <;> (try refine h0c ?_; (apply h1m; exact rfl; exact Tryz.underlying65; exact inf_134_i; exact inf_134_z; exact inf_134_s; exact inf_134_b; exact rfl; exact rfl; exact rfl; exact h3i; (with_reducible assumption); (with_reducible assumption); (with_reducible assumption); exact fd0; exact Nat.le_of_ble_eq_true rfl; exact h6c; exact rfl; exact h5t; omega; exact rfl; exact h5x; exact c_4; (try simp only [zzE, zzF]); intro vA eA hownA; obtain ⟨gA, capA, curA, rfl, rfl, hA1, hA2, hA3, hA4⟩ := hownA.some (by omega); (try simp only [zzC, zzN]))) <;> (try refine q_e (q_f fo_67_5) ?_) <;> (try refine h0c ?_; (refine q_S ?_)) <;> (try refine h0a ?_)) | (refine gR 22 ?_ <;> (try refine q_e (q_b (r:=by apply h1n; exact c_5; (focus (refine IntWalk.i64_in _ ?_; omega)))) ?_) <;> (try refine p_m (h:=h0a ?_))))
   all_goals exact h0w (k + 1, _, _) ⟨⟨by show k + 1 ≤ _; omega, hfi _ _ (h3v (g:=gA) hA1 hA2 hA3 hA4)⟩, by show _ - (k + 1) < _ - k; omega⟩ (by (focus (repeat (first | exact Sub.nil | refine Sub.cons rfl ?_)))) c_23
 rintro ⟨vq, eq⟩ hownQ
 dsimp only at hownQ ⊢
 obtain ⟨xa, xc, rfl, -⟩ := hownQ.sli []
 repeat' (first | refine h0i ?_ | refine h0b ?_ | refine h0v ?_ | (refine gR 23 (q_e (q_L sz_67) ?_) <;> (try refine h0c ?_; (refine q_W ?_)) <;> (try refine h0a ?_)))
 (apply h5d Tryz.results19; exact rfl; (focus (repeat (first | exact fd0 | (with_reducible assumption) | apply fdA | apply fdS))); kernel_rfl; kernel_rfl; exact sz_67; exact c_16)
 refine ⟨_, ⟨⟨.slice va rules.length vc, .slice wa paths.length wc, .slice xa ports.length xc, cz, er, ec, ep, eq⟩, by dsimp only [refC]; rw [hnmB], ⟨hR, hownR, hownP, hownQ⟩, rfl⟩, fun w H => ?_⟩
 subst hL3 hL2
 have H2 : HP S w0 w (eq ++ (ep ++ (er ++ (ec ++ L)))) := by
  revert w
  intro w H; refine H.sub ?_; (try simp only [zzC, zzN]); repeat (first | exact List.Sublist.refl _ | refine List.Sublist.cons _ ?_)
 exact HP.re2 (env:=[eq, ep, er, ec, L]) [0, 1, 2, 3, 4] [2, 1, 0, 3, 4] (by decide) rfl (by unfold RfD.blocks; simp [flatB]) H2
def RCnS (L : List Blk) (v : Value) (cs : List GCnd) : Prop := ∃ a c, v = .slice a cs.length c ∧ Sli L a cs.length 4 (rgC cs) ∧ cs.length ≤ maxLen
def RRlG (L : List Blk) : List GRul → List Value → Prop
 | [], cz => cz = []
 | r :: rs, cz => ∃ v cz', cz = .int .u32 r.num :: .int .u32 r.act :: v :: cz' ∧ RCnS L v r.conds ∧ RRlG L rs cz'
structure RfS (L : List Blk) (P : GPol) (vr vp vq : Value) : Prop where
 rs : ∃ a c cz, vr = .slice a P.rules.length c ∧ Sli L a P.rules.length 3 cz ∧ RRlG L P.rules cz
 ps : ∃ a c, vp = .slice a P.paths.length c ∧ Sli L a P.paths.length 2 (rpC P.paths)
 qs : ∃ a c, vq = .slice a P.ports.length c ∧ Sli L a P.ports.length 2 (rqC P.ports)
 l1 : P.rules.length ≤ maxLen
 l2 : P.paths.length ≤ maxLen
 l3 : P.ports.length ≤ maxLen
theorem RCnS.upA {L : List Blk} {v : Value} {cs : List GCnd} (h : RCnS L v cs) (e : List Blk) : RCnS (e ++ L) v cs := let ⟨a, c, h1, h2, h3⟩ := h; ⟨a, c, h1, h2.upA e, h3⟩
theorem RCnS.left {L e : List Blk} {v : Value} {cs : List GCnd} (h : RCnS e v cs) : RCnS (e ++ L) v cs := let ⟨a, c, h1, h2, h3⟩ := h; ⟨a, c, h1, h2.left, h3⟩
theorem RRlG.upA {L : List Blk} (e : List Blk) : ∀ {rs : List GRul} {cz : List Value}, RRlG L rs cz → RRlG (e ++ L) rs cz
 | [], _, h => h
 | _ :: _, _, ⟨v, cz', h1, h2, h3⟩ => ⟨v, cz', h1, h2.upA e, RRlG.upA e h3⟩
theorem RRlG.left {L e : List Blk} : ∀ {rs : List GRul} {cz : List Value}, RRlG e rs cz → RRlG (e ++ L) rs cz
 | [], _, h => h
 | _ :: _, _, ⟨v, cz', h1, h2, h3⟩ => ⟨v, cz', h1, h2.left, RRlG.left h3⟩
theorem RfS.upA {L : List Blk} {P : GPol} {vr vp vq : Value} (h : RfS L P vr vp vq) (e : List Blk) : RfS (e ++ L) P vr vp vq := by
 obtain ⟨⟨a, c, cz, h1, h2, h3⟩, ⟨a2, c2, h4, h5⟩, ⟨a3, c3, h6, h7⟩, l1, l2, l3⟩ := h
 exact ⟨⟨a, c, cz, h1, h2.upA e, h3.upA e⟩, ⟨a2, c2, h4, h5.upA e⟩, ⟨a3, c3, h6, h7.upA e⟩, l1, l2, l3⟩
theorem RfS.left {L e : List Blk} {P : GPol} {vr vp vq : Value} (h : RfS e P vr vp vq) : RfS (e ++ L) P vr vp vq := by
 obtain ⟨⟨a, c, cz, h1, h2, h3⟩, ⟨a2, c2, h4, h5⟩, ⟨a3, c3, h6, h7⟩, l1, l2, l3⟩ := h
 exact ⟨⟨a, c, cz, h1, h2.left, h3.left⟩, ⟨a2, c2, h4, h5.left⟩, ⟨a3, c3, h6, h7.left⟩, l1, l2, l3⟩
theorem RRlG.at_ {L : List Blk} : ∀ {rs : List GRul} {cz : List Value} (_ : RRlG L rs cz) (k : Nat) (hk : k < rs.length), ∃ v, (cz.drop (k * 3)).take 3 = [.int .u32 (rs[k]).num, .int .u32 (rs[k]).act, v] ∧ RCnS L v (rs[k]).conds
 | r :: rs, cz, ⟨v, cz', h1, h2, h3⟩, 0, _ => ⟨v, by rw [h1]; rfl, h2⟩
 | r :: rs, cz, ⟨v, cz', h1, h2, h3⟩, k + 1, hk => by
  obtain ⟨v', e1, e2⟩ := RRlG.at_ h3 k (by simpa using hk)
  exact ⟨v', by rw [h1, show (k + 1) * 3 = 3 + k * 3 by omega, ← List.drop_drop]; exact e1, e2⟩
theorem RRlG.snoc {L : List Blk} {v : Value} {r : GRul} : ∀ {rs : List GRul} {cz : List Value}, RRlG L rs cz → RCnS L v r.conds → RRlG L (rs ++ [r]) (cz ++ [.int .u32 r.num, .int .u32 r.act, v])
 | [], cz, h, hc => by
  obtain rfl : cz = [] := h
  exact ⟨v, [], rfl, hc, rfl⟩
 | _ :: _, _, ⟨v2, cz', h1, h2, h3⟩, hc => ⟨v2, _, by rw [h1]; rfl, h2, RRlG.snoc h3 hc⟩
theorem RefR.g {rs : List GRul} {cz : List Value} {ec : List Blk} (h : RefR rs cz ec) (hl : ∀ r ∈ rs, r.conds.length ≤ maxLen) : RRlG ec rs cz := by
 induction h with
 | nil => rfl
 | @snoc rs cz ec r v e _ ho ih =>
  obtain ⟨a, c, hv, hs⟩ := ho.sli ec
  exact RRlG.snoc (RRlG.upA e (ih fun q hq => hl q (List.mem_append_left _ hq))) ⟨a, c, hv, hs, hl r (List.mem_append_right _ (List.mem_singleton.2 rfl))⟩
theorem RfD.ok.rfS {d : RfD} {P : GPol} (h : d.ok P) (hN : FewN P) : RfS d.blocks P d.vr d.vp d.vq := by
 obtain ⟨r1, r2, e1, s1⟩ := h.vr.sli (d.ep ++ (d.eq ++ d.ec))
 obtain ⟨p1, p2, e2, s2⟩ := h.vp.sli (d.eq ++ d.ec)
 obtain ⟨q1, q2, e3, s3⟩ := h.vq.sli d.ec
 have hm : (1000 : Nat) ≤ maxLen := by unfold maxLen; omega
 have g := RefR.g h.rs (fun r hr => Nat.le_trans (hN.conds r hr) hm)
 exact ⟨⟨r1, r2, d.cz, e1, s1, ((g.upA d.eq).upA d.ep).upA d.er⟩, ⟨p1, p2, e2, s2.upA d.er⟩, ⟨q1, q2, e3, (s3.upA d.ep).upA d.er⟩, Nat.le_trans hN.l1 hm, Nat.le_trans hN.l2 hm, Nat.le_trans hN.l3 hm⟩
theorem rpC_at (ps : List (List UInt8 × Nat)) (k : Nat) (h : k < ps.length) : ((rpC ps).drop (k * 2)).take 2 = [.string (mB8 (ps[k]).1), .int .i64 ((ps[k]).2 : Nat)] := by
 induction ps generalizing k with
 | nil => simp at h
 | cons c r ih =>
  cases k with
  | zero => simp [rpC]
  | succ k =>
   rw [rpC, List.flatMap_cons, ← rpC, show (k + 1) * 2 = 2 + k * 2 by omega, ← List.drop_drop]
   exact ih k (by simpa using h)
theorem rqC_at (ps : List (Nat × Nat)) (k : Nat) (h : k < ps.length) : ((rqC ps).drop (k * 2)).take 2 = [.int .i64 ((ps[k]).1 : Nat), .int .i64 ((ps[k]).2 : Nat)] := by
 induction ps generalizing k with
 | nil => simp at h
 | cons c r ih =>
  cases k with
  | zero => simp [rqC]
  | succ k =>
   rw [rqC, List.flatMap_cons, ← rqC, show (k + 1) * 2 = 2 + k * 2 by omega, ← List.drop_drop]
   exact ih k (by simpa using h)
theorem ne_rpath (a : ByteArray) (b : Int) : RBin Tryz.prog .neq 132 (.agg #[.string a, .int .i64 b]) (.agg #[.string a, .int .i64 b]) (.bool false) := by
 apply RBin.mk
 intro w
 go_simp
theorem ne_rport (a : Int) (b : Int) : RBin Tryz.prog .neq 134 (.agg #[.int .i64 a, .int .i64 b]) (.agg #[.int .i64 a, .int .i64 b]) (.bool false) := by
 apply RBin.mk
 intro w
 go_simp
theorem ne_rcond (a b c d : Int) : RBin Tryz.prog .neq 136 (.agg #[.int .i64 a, .int .i64 b, .int .u64 c, .int .u64 d]) (.agg #[.int .i64 a, .int .i64 b, .int .u64 c, .int .u64 d]) (.bool false) := by
 apply RBin.mk
 intro w
 go_simp
theorem rsamerule_c {S w0 L} (num act : Int) (cs : List GCnd) (v1 v2 : Value) (h1 : RCnS L v1 cs) (h2 : RCnS L v2 cs) :
  Fn Tryz.prog 45 #[.agg #[.int .u32 num, .int .u32 act, v1], .agg #[.int .u32 num, .int .u32 act, v2]] S w0 L fun v L' => v = .bool true ∧ L = L' := by
 obtain ⟨a1, c1, rfl, s1, l1⟩ := h1
 obtain ⟨a2, c2, rfl, s2, -⟩ := h2
 unfold maxLen at l1
 refine Fn2 Tryz.func45 Tryz.ntmps45 rfl rfl ?_
 repeat' (first | (refine h2h (id:=0) ?_) | refine h0i ?_ | refine h0b ?_ | refine h0r ?_ | refine h0f rfl ?_ | (refine gR 0 ?_ <;> (try refine h0c ?_; (refine h2n (t:=130) rfl rfl ?_; intro nb hnb; (try simp only [Value.cells]))) <;> (try refine h0c ?_; (refine h2n (t:=130) rfl rfl ?_; intro nb hnb; (try simp only [Value.cells]))) <;> (try refine p_a (h:=h0a ?_))) | (refine gR 1 (p_e (q_f fo_130_0) (h:=p_e q_l (h:=p_e (q_f fo_130_0) (h:=q_e q_l ?_)))) <;> (try refine q_e (by exact q_b (r:=by refine h1w ?_; first | rfl | (with_reducible assumption) | (decide; done) | omega)) ?_) <;> (try refine p_m (h:=p_y (q_f fo_130_1) (h:=p_y q_l (h:=p_y (q_f fo_130_1) (h:=q_y q_l ?_))))) <;> (try refine q_y (by exact q_b (r:=by refine h1w ?_; first | rfl | (with_reducible assumption) | (decide; done) | omega)) ?_) <;> (try refine p_p (h:=p_m (h:=p_y (q_f h4r) (h:=p_y q_l (h:=p_y (by apply h0e; exact rfl; exact (fun _ => BigFrame.builtin_len ..); apply h0d Tryz.underlying128; exact h3m) (h:=p_y (q_f h4r) (h:=p_y q_l (h:=q_y (by apply h0e; exact rfl; exact (fun _ => BigFrame.builtin_len ..); apply h0d Tryz.underlying128; exact h3m) ?_)))))))) <;> (try refine q_y (by exact q_b (r:=by refine h1w ?_; first | rfl | (with_reducible assumption) | (decide; done) | omega)) ?_) <;> (try refine p_p (h:=h0a ?_))) | (refine gR 3 (p_a (h:=h0a ?_))))
 refine ⟨?_⟩
 rename_i n1 _
 obtain ⟨n2, rfl⟩ : ∃ x, x = nb := ⟨_, rfl⟩
 refine h0j ?_
 refine h2i (γ:=Nat) (fun k => k ≤ cs.length) (fun k => cs.length - k) (fun k => [(5, .int .i64 (k : Nat))]) [(2, _), (3, _)] (fun _ => rrB n2 num act (.slice a2 cs.length c2) :: rrB n1 num act (.slice a1 cs.length c1) :: L) 0 (.cons rfl (.cons rfl .nil)) (Nat.zero_le _) (by (focus (repeat (first | exact Sub.nil | refine Sub.cons rfl ?_)))) (fun _ H => H) ?_
 intro k hk
 by_cases hlt : k < cs.length
 ·obtain ⟨j, q, bb, off, xs, T, fr, rfl, hj, hsz, hx⟩ := s1.elem hlt
  obtain ⟨j2, qb, bb2, off2, xs2, T2, fr2, rfl, hj2, hsz2, hx2⟩ := s2.elem hlt
  rw [rgC_at _ _ hlt] at hx hx2
  generalize cs[k] = p at *
  obtain ⟨ca, co, cm, cv⟩ := p
  dsimp only [GCnd.rc] at *
  have hne := ne_rcond ca (co : Nat) (cm : Nat) (cv : Nat)
  repeat' (first | refine h0i ?_ | refine h0b ?_ | refine h0s ?_ | refine h0x ?_ | refine h0j ?_ | refine h0r ?_ | refine h0g rfl ?_ | refine h0f rfl ?_ | (refine gR 4 (p_m (h:=p_e (q_f h4r) (h:=p_e q_l (h:=p_e (by apply h0e; exact rfl; exact (fun _ => BigFrame.builtin_len ..); apply h0d Tryz.underlying128; exact h3m) (h:=p_e (q_b (r:=by exact h0u q_o)) (h:=h0a ?_))))))) | ((refine h1z (id:=6) (m:=11) (by kernel_rfl) rfl (q_u 0 (x:=by exact q_f h4r) (h:=q_u 1 (x:=by exact q_l) (h:=q_u 2 (x:=by exact h0h rfl) (h:=q_u 3 (x:=by apply h0n; exact rfl; exact rfl; (focus (apply h2j Tryz.underlying128 sz_136; omega; omega; exact c_1))) (h:=q_u 4 (x:=by apply h1u (t:=136); exact rfl; exact c_19; kernel_rfl; kernel_rfl; exact sz_136; (with_reducible assumption); (with_reducible assumption)) (h:=q_u 5 (x:=by exact q_f h4r) (h:=q_u 6 (x:=by exact q_l) (h:=q_u 7 (x:=by exact h0h rfl) (h:=q_u 8 (x:=by apply h0n; exact rfl; exact rfl; (focus (apply h2j Tryz.underlying128 sz_136; omega; omega; exact c_1))) (h:=q_u 9 (x:=by apply h1u (t:=136); exact rfl; exact c_19; kernel_rfl; kernel_rfl; exact sz_136; (with_reducible assumption); (with_reducible assumption)) (h:=q_u 10 (x:=by apply h1l (op:=.neq) (t:=136); exact rfl; exact rfl; kernel_rfl; (with_reducible assumption)) (h:=h1a (by kernel_rfl) ?_)))))))))))))) | (refine gR 5 (q_m ?_) <;> (try refine q_e (q_b (r:=by apply h1n; exact c_5; (focus (refine IntWalk.i64_in _ ?_; omega)))) ?_) <;> (try refine p_a (h:=h0a ?_))))
  exact h0w (k + 1) ⟨by show k + 1 ≤ cs.length; omega, by show cs.length - (k + 1) < cs.length - k; omega⟩ (by (focus (repeat (first | exact Sub.nil | refine Sub.cons rfl ?_)))) (fun _ H => H)
 ·repeat' (first | refine h0i ?_ | refine h0b ?_ | refine h1p ?_ | refine h1f ?_ | refine h1o ?_ | refine h2c ?_ | refine h0v ?_ | refine h0f rfl ?_ | (refine gR 4 (p_m (h:=p_e (q_f h4r) (h:=p_e q_l (h:=p_e (by apply h0e; exact rfl; exact (fun _ => BigFrame.builtin_len ..); apply h0d Tryz.underlying128; exact h3m) (h:=p_e (q_b (r:=by exact h0y q_o)) (h:=h0a ?_))))))) | (refine gR 8 (p_a (h:=h0a ?_))))
  (refine h0o Tryz.results45 (.tmp rfl .nil) ?_)
  exact ⟨_, ⟨rfl, rfl⟩, by intro w H; refine H.sub ?_; (try simp only [zzC, zzN]); repeat (first | exact List.Sublist.refl _ | refine List.Sublist.cons _ ?_)⟩
set_option maxHeartbeats 2000000 in
theorem rsame_c {S w0 L} (P : GPol) (vr vp vq ur up uq : Value) (h1 : RfS L P vr vp vq) (h2 : RfS L P ur up uq) :
  Fn Tryz.prog 18 #[.agg #[.string (mB8 P.nm), .int .u32 P.df, vr, .int .i64 (P.hd : Nat), vp, vq], .agg #[.string (mB8 P.nm), .int .u32 P.df, ur, .int .i64 (P.hd : Nat), up, uq]] S w0 L fun v L' => v = .bool true ∧ L = L' := by
 obtain ⟨⟨a1, c1, z1, rfl, r1, g1⟩, ⟨a2, c2, rfl, p1⟩, ⟨a3, c3, rfl, q1⟩, l1, l2, l3⟩ := h1
 obtain ⟨⟨b1, d1, z2, rfl, r2, g2⟩, ⟨b2, d2, rfl, p2⟩, ⟨b3, d3, rfl, q2⟩, -, -, -⟩ := h2
 obtain ⟨nm, df, rs, hd, ps, qs⟩ := P
 dsimp only at *
 generalize mB8 nm = nm' at *
 unfold maxLen at l1 l2 l3
 refine Fn2 Tryz.func18 Tryz.ntmps18 rfl rfl ?_
 repeat' (first | (refine h2h (id:=0) ?_) | refine h0i ?_ | refine h0b ?_ | refine h0r ?_ | refine h0f rfl ?_ | (refine gR 0 ?_ <;> (try refine h0c ?_; (refine h2n (t:=67) rfl rfl ?_; intro nb hnb; (try simp only [Value.cells]))) <;> (try refine h0c ?_; (refine h2n (t:=67) rfl rfl ?_; intro nb hnb; (try simp only [Value.cells]))) <;> (try refine p_a (h:=h0a ?_))) | (refine gR 1 (p_e (q_f fo_67_0) (h:=p_e q_l (h:=p_e (q_f fo_67_0) (h:=p_e q_l (h:=p_e (q_b (r:=by exact rb_strne_s)) (h:=p_m (h:=p_y (q_f fo_67_1) (h:=p_y q_l (h:=p_y (q_f fo_67_1) (h:=q_y q_l ?_)))))))))) <;> (try refine q_y (by exact q_b (r:=by refine h1w ?_; first | rfl | (with_reducible assumption) | (decide; done) | omega)) ?_) <;> (try refine p_p (h:=p_m (h:=p_y (q_f fo_67_3) (h:=p_y q_l (h:=p_y (q_f fo_67_3) (h:=q_y q_l ?_)))))) <;> (try refine q_y (by exact q_b (r:=by refine h1w ?_; first | rfl | (with_reducible assumption) | (decide; done) | omega)) ?_) <;> (try refine p_p (h:=p_m (h:=p_y (q_f fo_67_2) (h:=p_y q_l (h:=p_y (by apply h0e; exact rfl; exact (fun _ => BigFrame.builtin_len ..); apply h0d Tryz.underlying63; exact h3m) (h:=p_y (q_f fo_67_2) (h:=p_y q_l (h:=q_y (by apply h0e; exact rfl; exact (fun _ => BigFrame.builtin_len ..); apply h0d Tryz.underlying63; exact h3m) ?_)))))))) <;> (try refine q_y (by exact q_b (r:=by refine h1w ?_; first | rfl | (with_reducible assumption) | (decide; done) | omega)) ?_) <;> (try refine p_p (h:=p_m (h:=p_y (q_f fo_67_4) (h:=p_y q_l (h:=p_y (by apply h0e; exact rfl; exact (fun _ => BigFrame.builtin_len ..); apply h0d Tryz.underlying64; exact h3m) (h:=p_y (q_f fo_67_4) (h:=p_y q_l (h:=q_y (by apply h0e; exact rfl; exact (fun _ => BigFrame.builtin_len ..); apply h0d Tryz.underlying64; exact h3m) ?_)))))))) <;> (try refine q_y (by exact q_b (r:=by refine h1w ?_; first | rfl | (with_reducible assumption) | (decide; done) | omega)) ?_) <;> (try refine p_p (h:=p_m (h:=p_y (q_f fo_67_5) (h:=p_y q_l (h:=p_y (by apply h0e; exact rfl; exact (fun _ => BigFrame.builtin_len ..); apply h0d Tryz.underlying65; exact h3m) (h:=p_y (q_f fo_67_5) (h:=p_y q_l (h:=q_y (by apply h0e; exact rfl; exact (fun _ => BigFrame.builtin_len ..); apply h0d Tryz.underlying65; exact h3m) ?_)))))))) <;> (try refine q_y (by exact q_b (r:=by refine h1w ?_; first | rfl | (with_reducible assumption) | (decide; done) | omega)) ?_) <;> (try refine p_p (h:=h0a ?_))) | (refine gR 3 (p_a (h:=h0a ?_))))
 refine ⟨?_⟩
 rename_i n1 _
 obtain ⟨n2, rfl⟩ : ∃ x, x = nb := ⟨_, rfl⟩
 obtain ⟨BA, hBA⟩ : ∃ b : Blk, b = rfB n1 nm' df (.slice a1 rs.length c1) hd (.slice a2 ps.length c2) (.slice a3 qs.length c3) := ⟨_, rfl⟩
 refine h2q (γ:=Unit) (fun _ => True) (fun _ => []) [(2, _), (3, _)]
  (fun _ => rfB n2 nm' df (.slice b1 rs.length d1) hd (.slice b2 ps.length d2) (.slice b3 qs.length d3) :: rfB n1 nm' df (.slice a1 rs.length c1) hd (.slice a2 ps.length c2) (.slice a3 qs.length c3) :: L) (.cons rfl (.cons rfl .nil)) ?_ ?_
 ·refine h0j ?_
  refine h2i (γ:=Nat) (fun k => k ≤ rs.length) (fun k => rs.length - k) (fun k => [(5, .int .i64 (k : Nat))]) [(2, _), (3, _)]
   (fun _ => rfB n2 nm' df (.slice b1 rs.length d1) hd (.slice b2 ps.length d2) (.slice b3 qs.length d3) :: rfB n1 nm' df (.slice a1 rs.length c1) hd (.slice a2 ps.length c2) (.slice a3 qs.length c3) :: L) 0 (.cons rfl (.cons rfl .nil)) (Nat.zero_le _) (by (focus (repeat (first | exact Sub.nil | refine Sub.cons rfl ?_)))) (fun _ H => H) ?_
  intro k hk
  by_cases hlt : k < rs.length
  ·obtain ⟨j, q, bb, off, cs, T, fr, rfl, hj, hsz, hx⟩ := r1.elem hlt
   obtain ⟨j2, qb, bb2, off2, cs2, T2, fr2, rfl, hj2, hsz2, hx2⟩ := r2.elem hlt
   obtain ⟨v1, e1, k1⟩ := g1.at_ k hlt
   obtain ⟨v2, e2, k2⟩ := g2.at_ k hlt
   obtain ⟨u1, y1, rfl, m1, o1⟩ := k1
   obtain ⟨u2, y2, rfl, m2, o2⟩ := k2
   rw [e1] at hx
   rw [e2] at hx2
   have hsr := fun (x1 x2 : Blk) => rsamerule_c (S:=S) (w0:=w0) (L:=[x1, x2] ++ L) rs[k].num rs[k].act rs[k].conds _ _ ⟨u1, y1, rfl, m1.upA _, o1⟩ ⟨u2, y2, rfl, m2.upA _, o2⟩
   simp only [List.cons_append, List.nil_append] at hsr
   clear m1 m2 e1 e2 o1 o2
   generalize rs[k] = r at *
   obtain ⟨rn, ra, rcs⟩ := r
   dsimp only at *
   repeat' (first | refine h0i ?_ | refine h0b ?_ | refine h0s ?_ | refine h0x ?_ | refine h0j ?_ | refine h0r ?_ | refine h0g rfl ?_ | refine h0f rfl ?_ | (refine gR 4 (p_m (h:=p_e (q_f fo_67_2) (h:=p_e q_l (h:=p_e (by apply h0e; exact rfl; exact (fun _ => BigFrame.builtin_len ..); apply h0d Tryz.underlying63; exact h3m) (h:=p_e (q_b (r:=by exact h0u q_o)) (h:=h0a ?_))))))) | ((refine h1z (id:=6) (m:=12) (by kernel_rfl) rfl (q_u 0 (x:=by exact q_f fo_67_2) (h:=q_u 1 (x:=by exact q_l) (h:=q_u 2 (x:=by exact h0h rfl) (h:=q_u 3 (x:=by apply h0n; exact rfl; exact rfl; (focus (apply h2j Tryz.underlying63 sz_130; omega; omega; exact c_1))) (h:=q_u 4 (x:=by apply h1u (t:=130); exact rfl; exact c_19; kernel_rfl; kernel_rfl; exact sz_130; (with_reducible assumption); (with_reducible assumption)) (h:=q_u 5 (x:=by exact q_f fo_67_2) (h:=q_u 6 (x:=by exact q_l) (h:=q_u 7 (x:=by exact h0h rfl) (h:=q_u 8 (x:=by apply h0n; exact rfl; exact rfl; (focus (apply h2j Tryz.underlying63 sz_130; omega; omega; exact c_1))) (h:=q_u 9 (x:=by apply h1u (t:=130); exact rfl; exact c_19; kernel_rfl; kernel_rfl; exact sz_130; (with_reducible assumption); (with_reducible assumption)) (h:=?_)))))))))))) <;> (try refine q_r 10 ?_; (refine q_c 45 (c:=by apply hsr) (h:=?_); rintro _ _ ⟨rfl, rfl⟩; (try simp only [zzE, zzF])); refine h1b (fun _ H => H) ?_) <;> (try refine q_u 11 (x:=by apply h5m; exact rfl; exact h1r) (h:=h1a (by kernel_rfl) ?_))) | (refine gR 5 (q_m ?_) <;> (try refine q_e (q_b (r:=by apply h1n; exact c_5; (focus (refine IntWalk.i64_in _ ?_; omega)))) ?_) <;> (try refine p_a (h:=h0a ?_))))
   exact h0w (k + 1) ⟨by show k + 1 ≤ rs.length; omega, by show rs.length - (k + 1) < rs.length - k; omega⟩ (by (focus (repeat (first | exact Sub.nil | refine Sub.cons rfl ?_)))) (fun _ H => H)
  ·repeat' (first | refine h0i ?_ | refine h0b ?_ | refine h0s ?_ | refine h1p ?_ | refine h1f ?_ | refine h1o ?_ | refine h2c ?_ | refine h0f rfl ?_ | (refine gR 4 (p_m (h:=p_e (q_f fo_67_2) (h:=p_e q_l (h:=p_e (by apply h0e; exact rfl; exact (fun _ => BigFrame.builtin_len ..); apply h0d Tryz.underlying63; exact h3m) (h:=p_e (q_b (r:=by exact h0y q_o)) (h:=h0a ?_))))))))
   exact h0w () trivial (by (focus (repeat (first | exact Sub.nil | refine Sub.cons rfl ?_)))) (fun _ H => H)
 rintro - -
 (try dsimp only)
 repeat' (first | (refine h2h (id:=2) ?_) | refine h0i ?_ | refine h0b ?_ | (refine gR 8 (p_a (h:=h0a ?_))))
 refine ⟨?_⟩
 refine h2q (γ:=Unit) (fun _ => True) (fun _ => []) [(2, _), (3, _)]
  (fun _ => rfB n2 nm' df (.slice b1 rs.length d1) hd (.slice b2 ps.length d2) (.slice b3 qs.length d3) :: rfB n1 nm' df (.slice a1 rs.length c1) hd (.slice a2 ps.length c2) (.slice a3 qs.length c3) :: L) (.cons rfl (.cons rfl .nil)) ?_ ?_
 ·refine h0j ?_
  refine h2i (γ:=Nat) (fun k => k ≤ ps.length) (fun k => ps.length - k) (fun k => [(6, .int .i64 (k : Nat))]) [(2, _), (3, _)]
   (fun _ => rfB n2 nm' df (.slice b1 rs.length d1) hd (.slice b2 ps.length d2) (.slice b3 qs.length d3) :: rfB n1 nm' df (.slice a1 rs.length c1) hd (.slice a2 ps.length c2) (.slice a3 qs.length c3) :: L) 0 (.cons rfl (.cons rfl .nil)) (Nat.zero_le _) (by (focus (repeat (first | exact Sub.nil | refine Sub.cons rfl ?_)))) (fun _ H => H) ?_
  intro k hk
  by_cases hlt : k < ps.length
  ·obtain ⟨j, q, bb, off, cs, T, fr, rfl, hj, hsz, hx⟩ := p1.elem hlt
   obtain ⟨j2, qb, bb2, off2, cs2, T2, fr2, rfl, hj2, hsz2, hx2⟩ := p2.elem hlt
   rw [rpC_at _ _ hlt] at hx hx2
   generalize ps[k] = p at *
   obtain ⟨pt, pr⟩ := p
   dsimp only at *
   have hne := ne_rpath (mB8 pt) (pr : Nat)
   repeat' (first | refine h0i ?_ | refine h0b ?_ | refine h0s ?_ | refine h0x ?_ | refine h0j ?_ | refine h0r ?_ | refine h0g rfl ?_ | refine h0f rfl ?_ | (refine gR 9 (p_m (h:=p_e (q_f fo_67_4) (h:=p_e q_l (h:=p_e (by apply h0e; exact rfl; exact (fun _ => BigFrame.builtin_len ..); apply h0d Tryz.underlying64; exact h3m) (h:=p_e (q_b (r:=by exact h0u q_o)) (h:=h0a ?_))))))) | ((refine h1z (id:=11) (m:=11) (by kernel_rfl) rfl (q_u 0 (x:=by exact q_f fo_67_4) (h:=q_u 1 (x:=by exact q_l) (h:=q_u 2 (x:=by exact h0h rfl) (h:=q_u 3 (x:=by apply h0n; exact rfl; exact rfl; (focus (apply h2j Tryz.underlying64 sz_132; omega; omega; exact c_1))) (h:=q_u 4 (x:=by apply h1u (t:=132); exact rfl; exact c_19; kernel_rfl; kernel_rfl; exact sz_132; (with_reducible assumption); (with_reducible assumption)) (h:=q_u 5 (x:=by exact q_f fo_67_4) (h:=q_u 6 (x:=by exact q_l) (h:=q_u 7 (x:=by exact h0h rfl) (h:=q_u 8 (x:=by apply h0n; exact rfl; exact rfl; (focus (apply h2j Tryz.underlying64 sz_132; omega; omega; exact c_1))) (h:=q_u 9 (x:=by apply h1u (t:=132); exact rfl; exact c_19; kernel_rfl; kernel_rfl; exact sz_132; (with_reducible assumption); (with_reducible assumption)) (h:=q_u 10 (x:=by apply h1l (op:=.neq) (t:=132); exact rfl; exact rfl; kernel_rfl; (with_reducible assumption)) (h:=h1a (by kernel_rfl) ?_)))))))))))))) | (refine gR 10 (q_m ?_) <;> (try refine q_e (q_b (r:=by apply h1n; exact c_5; (focus (refine IntWalk.i64_in _ ?_; omega)))) ?_) <;> (try refine p_a (h:=h0a ?_))))
   exact h0w (k + 1) ⟨by show k + 1 ≤ ps.length; omega, by show ps.length - (k + 1) < ps.length - k; omega⟩ (by (focus (repeat (first | exact Sub.nil | refine Sub.cons rfl ?_)))) (fun _ H => H)
  ·repeat' (first | refine h0i ?_ | refine h0b ?_ | refine h0s ?_ | refine h1p ?_ | refine h1f ?_ | refine h1o ?_ | refine h2c ?_ | refine h0f rfl ?_ | (refine gR 9 (p_m (h:=p_e (q_f fo_67_4) (h:=p_e q_l (h:=p_e (by apply h0e; exact rfl; exact (fun _ => BigFrame.builtin_len ..); apply h0d Tryz.underlying64; exact h3m) (h:=p_e (q_b (r:=by exact h0y q_o)) (h:=h0a ?_))))))))
   exact h0w () trivial (by (focus (repeat (first | exact Sub.nil | refine Sub.cons rfl ?_)))) (fun _ H => H)
 rintro - -
 (try dsimp only)
 repeat' (first | (refine h2h (id:=4) ?_) | refine h0i ?_ | refine h0b ?_ | (refine gR 13 (p_a (h:=h0a ?_))))
 refine ⟨?_⟩
 refine h0j ?_
 refine h2i (γ:=Nat) (fun k => k ≤ qs.length) (fun k => qs.length - k) (fun k => [(7, .int .i64 (k : Nat))]) [(2, _), (3, _)]
  (fun _ => rfB n2 nm' df (.slice b1 rs.length d1) hd (.slice b2 ps.length d2) (.slice b3 qs.length d3) :: rfB n1 nm' df (.slice a1 rs.length c1) hd (.slice a2 ps.length c2) (.slice a3 qs.length c3) :: L) 0 (.cons rfl (.cons rfl .nil)) (Nat.zero_le _) (by (focus (repeat (first | exact Sub.nil | refine Sub.cons rfl ?_)))) (fun _ H => H) ?_
 intro k hk
 by_cases hlt : k < qs.length
 ·obtain ⟨j, q, bb, off, cs, T, fr, rfl, hj, hsz, hx⟩ := q1.elem hlt
  obtain ⟨j2, qb, bb2, off2, cs2, T2, fr2, rfl, hj2, hsz2, hx2⟩ := q2.elem hlt
  rw [rqC_at _ _ hlt] at hx hx2
  generalize qs[k] = p at *
  obtain ⟨pt, pr⟩ := p
  dsimp only at *
  have hne := ne_rport (pt : Nat) (pr : Nat)
  repeat' (first | refine h0i ?_ | refine h0b ?_ | refine h0s ?_ | refine h0x ?_ | refine h0j ?_ | refine h0r ?_ | refine h0g rfl ?_ | refine h0f rfl ?_ | (refine gR 14 (p_m (h:=p_e (q_f fo_67_5) (h:=p_e q_l (h:=p_e (by apply h0e; exact rfl; exact (fun _ => BigFrame.builtin_len ..); apply h0d Tryz.underlying65; exact h3m) (h:=p_e (q_b (r:=by exact h0u q_o)) (h:=h0a ?_))))))) | ((refine h1z (id:=16) (m:=11) (by kernel_rfl) rfl (q_u 0 (x:=by exact q_f fo_67_5) (h:=q_u 1 (x:=by exact q_l) (h:=q_u 2 (x:=by exact h0h rfl) (h:=q_u 3 (x:=by apply h0n; exact rfl; exact rfl; (focus (apply h2j Tryz.underlying65 sz_134; omega; omega; exact c_1))) (h:=q_u 4 (x:=by apply h1u (t:=134); exact rfl; exact c_19; kernel_rfl; kernel_rfl; exact sz_134; (with_reducible assumption); (with_reducible assumption)) (h:=q_u 5 (x:=by exact q_f fo_67_5) (h:=q_u 6 (x:=by exact q_l) (h:=q_u 7 (x:=by exact h0h rfl) (h:=q_u 8 (x:=by apply h0n; exact rfl; exact rfl; (focus (apply h2j Tryz.underlying65 sz_134; omega; omega; exact c_1))) (h:=q_u 9 (x:=by apply h1u (t:=134); exact rfl; exact c_19; kernel_rfl; kernel_rfl; exact sz_134; (with_reducible assumption); (with_reducible assumption)) (h:=q_u 10 (x:=by apply h1l (op:=.neq) (t:=134); exact rfl; exact rfl; kernel_rfl; (with_reducible assumption)) (h:=h1a (by kernel_rfl) ?_)))))))))))))) | (refine gR 15 (q_m ?_) <;> (try refine q_e (q_b (r:=by apply h1n; exact c_5; (focus (refine IntWalk.i64_in _ ?_; omega)))) ?_) <;> (try refine p_a (h:=h0a ?_))))
  exact h0w (k + 1) ⟨by show k + 1 ≤ qs.length; omega, by show qs.length - (k + 1) < qs.length - k; omega⟩ (by (focus (repeat (first | exact Sub.nil | refine Sub.cons rfl ?_)))) (fun _ H => H)
 ·repeat' (first | refine h0i ?_ | refine h0b ?_ | refine h1p ?_ | refine h1f ?_ | refine h1o ?_ | refine h2c ?_ | refine h0v ?_ | refine h0f rfl ?_ | (refine gR 14 (p_m (h:=p_e (q_f fo_67_5) (h:=p_e q_l (h:=p_e (by apply h0e; exact rfl; exact (fun _ => BigFrame.builtin_len ..); apply h0d Tryz.underlying65; exact h3m) (h:=p_e (q_b (r:=by exact h0y q_o)) (h:=h0a ?_))))))) | (refine gR 18 (p_a (h:=h0a ?_))))
  (refine h0o Tryz.results18 (.tmp rfl .nil) ?_)
  exact ⟨_, ⟨rfl, rfl⟩, by intro w H; refine H.sub ?_; (try simp only [zzC, zzN]); repeat (first | exact List.Sublist.refl _ | refine List.Sublist.cons _ ?_)⟩
structure FewG (P : GPol) : Prop where
 conds : ∀ r ∈ P.rules, r.conds.length ≤ 20
 path : ∀ p ∈ P.paths, p.1.length ≤ 200
 l1 : P.rules.length ≤ 80
 l2 : P.paths.length ≤ 50
 l3 : P.ports.length ≤ 50
 nm : P.nm.length ≤ 100
theorem take_all {α : Type} {p : α → Prop} {l : List α} {k : Nat} (h : ∀ x ∈ l.take k, p x) (hk : k < l.length) (h2 : p l[k]) : ∀ x ∈ l.take (k + 1), p x := by
 rw [List.take_succ_eq_append_getElem hk]
 exact mem_app1 h h2
set_option maxHeartbeats 1000000 in
theorem few_c {S w0 L} (P : GPol) (vr vp vq : Value) (hS : PolS L P vr vp vq) (hpp : ∀ p ∈ P.paths, p.1.length ≤ maxLen) (hnm : P.nm.length ≤ maxLen) : Fn Tryz.prog 16 #[.agg (polG P vr vp vq).toArray] S w0 L fun v L' => ∃ b : Bool, v = .bool b ∧ (b = true → FewG P) ∧ L = L' := by
 obtain ⟨⟨ra, rc, cz, rfl, hrs, hrg⟩, ⟨pa, pc, rfl, hps⟩, ⟨qa, qc, rfl, hqs⟩, hl1, hl2, hl3⟩ := hS
 obtain ⟨nm, df, rules, hd, paths, ports⟩ := P
 dsimp only [polG] at *
 have hnz : (mB8 nm).size = nm.length := h2d nm
 generalize mB8 nm = nmB at *
 unfold maxLen at hl1 hl2 hl3 hpp hnm
 refine Fn1 Tryz.func16 Tryz.ntmps16 rfl rfl ?_
 repeat' (first | (refine h2h (id:=0) ?_) | refine h0i ?_ | refine h0b ?_ | (refine gR 0 ?_ <;> (try refine h0c ?_; (refine h2n (t:=36) rfl rfl ?_; intro nb hnb; (try simp only [Value.cells]))) <;> (try refine p_a (h:=h0a ?_))) | (refine gR 1 (p_e (q_f h2t) (h:=p_e q_l (h:=p_e (by apply h0e; exact rfl; exact (fun _ => BigFrame.builtin_len ..); apply h0d Tryz.underlying30; exact h3m) (h:=p_m (h:=h0a ?_)))))))
 refine ⟨?_⟩
 obtain ⟨n1, rfl⟩ : ∃ x, x = nb := ⟨_, rfl⟩
 refine h2q (γ:=Unit) (fun _ => ∀ r ∈ rules, r.conds.length ≤ 20) (fun _ => []) [(1, _)]
  (fun _ => ⟨true, n1, .cells #[.string nmB, .int .u32 df, .slice ra rules.length rc, .int .u16 (hd : Nat), .slice pa paths.length pc, .slice qa ports.length qc] 36 (0, 0)⟩ :: L) (.cons rfl .nil) ?_ ?_
 ·refine h0j ?_
  refine h2i (γ:=Nat) (fun k => k ≤ rules.length ∧ ∀ r ∈ rules.take k, r.conds.length ≤ 20) (fun k => rules.length - k) (fun k => [(10, .int .i64 (k : Nat))]) [(1, _), (8, _), (9, _)]
   (fun _ => ⟨true, n1, .cells #[.string nmB, .int .u32 df, .slice ra rules.length rc, .int .u16 (hd : Nat), .slice pa paths.length pc, .slice qa ports.length qc] 36 (0, 0)⟩ :: L) 0 (.cons rfl (.cons rfl (.cons rfl .nil))) ⟨Nat.zero_le _, fun _ h => by cases h⟩ (by (focus (repeat (first | exact Sub.nil | refine Sub.cons rfl ?_)))) (fun _ H => H) ?_
  rintro k ⟨hk, hc⟩
  (try dsimp only at hk hc ⊢)
  by_cases hlt : k < rules.length
  case neg =>
   obtain rfl : k = rules.length := by omega
   rw [List.take_length] at hc
   repeat' (first | refine h0i ?_ | refine h0b ?_ | refine h0s ?_ | refine h1p ?_ | refine h1f ?_ | refine h1o ?_ | refine h2c ?_ | refine h0f rfl ?_ | (refine gR 2 (p_e (q_b (r:=by exact h0y q_o)) (h:=h0a ?_))))
   exact h0w () hc (by (focus (repeat (first | exact Sub.nil | refine Sub.cons rfl ?_)))) (fun _ H => H)
  obtain ⟨j, q, bb, off, cs, T, fr, rfl, hj, hsz, hx⟩ := hrs.elem hlt
  obtain ⟨v, hv, hcs⟩ := hrg.at_ k hlt
  rw [hv] at hx
  obtain ⟨ca, cc, rfl, -, hcl⟩ := hcs
  unfold maxLen at hcl
  have hc2 := take_all (p:=fun r : GRul => r.conds.length ≤ 20) hc hlt
  clear hv
  generalize rules[k] = r at *
  obtain ⟨num, act, conds⟩ := r
  dsimp only at *
  by_cases h20 : 20 < conds.length
  ·repeat' (first | refine h0i ?_ | refine h0b ?_ | refine h3q ?_ | refine h0t ?_ | refine h1k ?_ | refine h0j ?_ | refine h0r ?_ | refine h0v ?_ | refine h0g rfl ?_ | (refine gR 2 (p_e (q_b (r:=by exact h0u q_o)) (h:=h0a ?_))) | (refine gR 3 (p_e (by apply h0n; exact rfl; exact rfl; (focus (apply h2j Tryz.underlying30 sz_73; omega; omega; exact c_1))) (h:=q_e (by apply h1u (t:=73); exact rfl; exact c_19; kernel_rfl; kernel_rfl; exact sz_73; (with_reducible assumption); (with_reducible assumption)) ?_)) <;> (try refine h0c ?_; (refine h0k (t:=73) rfl Tryz.zeroValue73 ?_; intro nb hnb; (try simp only [Value.cells]))) <;> (try refine h0c ?_; (refine q_W ?_)) <;> (try refine h0a ?_)) | (refine gR 4 (p_e (q_f h2w) (h:=p_e q_l (h:=p_e (by apply h0e; exact rfl; exact (fun _ => BigFrame.builtin_len ..); apply h0d Tryz.underlying71; exact h3m) (h:=p_e (q_b (r:=by exact h1x q_o)) (h:=h0a ?_)))))) | (refine gR 5 (p_a (h:=h0a ?_))))
   (refine h0o Tryz.results16 (.tmp rfl .nil) ?_)
   exact ⟨_, ⟨_, rfl, (fun h => by cases h), rfl⟩, by intro w H; refine H.sub ?_; (try simp only [zzC, zzN]); repeat (first | exact List.Sublist.refl _ | refine List.Sublist.cons _ ?_)⟩
  ·repeat' (first | refine h0i ?_ | refine h0b ?_ | refine h0s ?_ | refine h0x ?_ | refine h0j ?_ | refine h0r ?_ | refine h0g rfl ?_ | refine h0f rfl ?_ | (refine gR 2 (p_e (q_b (r:=by exact h0u q_o)) (h:=h0a ?_))) | (refine gR 3 (p_e (by apply h0n; exact rfl; exact rfl; (focus (apply h2j Tryz.underlying30 sz_73; omega; omega; exact c_1))) (h:=q_e (by apply h1u (t:=73); exact rfl; exact c_19; kernel_rfl; kernel_rfl; exact sz_73; (with_reducible assumption); (with_reducible assumption)) ?_)) <;> (try refine h0c ?_; (refine h0k (t:=73) rfl Tryz.zeroValue73 ?_; intro nb hnb; (try simp only [Value.cells]))) <;> (try refine h0c ?_; (refine q_W ?_)) <;> (try refine h0a ?_)) | (refine gR 4 (p_e (q_f h2w) (h:=p_e q_l (h:=p_e (by apply h0e; exact rfl; exact (fun _ => BigFrame.builtin_len ..); apply h0d Tryz.underlying71; exact h3m) (h:=p_e (q_b (r:=by exact h1h q_o)) (h:=h0a ?_)))))) | (refine gR 6 ?_ <;> (try refine q_e (q_b (r:=by apply h1n; exact c_5; (focus (refine IntWalk.i64_in _ ?_; omega)))) ?_) <;> (try refine p_m (h:=h0a ?_))))
   exact h0w (k + 1) ⟨⟨by show k + 1 ≤ _; omega, hc2 (by omega)⟩, by show _ - (k + 1) < _ - k; omega⟩ (by (focus (repeat (first | exact Sub.nil | refine Sub.cons rfl ?_)))) (fun _ H => H.tail)
 rintro - hcc
 (try dsimp only)
 repeat' (first | (refine h2h (id:=2) ?_) | refine h0i ?_ | refine h0b ?_ | (refine gR 7 (p_e (q_f h3h) (h:=p_e q_l (h:=p_e (by apply h0e; exact rfl; exact (fun _ => BigFrame.builtin_len ..); apply h0d Tryz.underlying33; exact h3m) (h:=p_m (h:=h0a ?_)))))))
 refine ⟨?_⟩
 refine h2q (γ:=Unit) (fun _ => ∀ p ∈ paths, p.1.length ≤ 200) (fun _ => []) [(1, _)]
  (fun _ => ⟨true, n1, .cells #[.string nmB, .int .u32 df, .slice ra rules.length rc, .int .u16 (hd : Nat), .slice pa paths.length pc, .slice qa ports.length qc] 36 (0, 0)⟩ :: L) (.cons rfl .nil) ?_ ?_
 ·refine h0j ?_
  refine h2i (γ:=Nat) (fun k => k ≤ paths.length ∧ ∀ r ∈ paths.take k, r.1.length ≤ 200) (fun k => paths.length - k) (fun k => [(22, .int .i64 (k : Nat))]) [(1, _), (20, _), (21, _)]
   (fun _ => ⟨true, n1, .cells #[.string nmB, .int .u32 df, .slice ra rules.length rc, .int .u16 (hd : Nat), .slice pa paths.length pc, .slice qa ports.length qc] 36 (0, 0)⟩ :: L) 0 (.cons rfl (.cons rfl (.cons rfl .nil))) ⟨Nat.zero_le _, fun _ h => by cases h⟩ (by (focus (repeat (first | exact Sub.nil | refine Sub.cons rfl ?_)))) (fun _ H => H) ?_
  rintro k ⟨hk, hc⟩
  (try dsimp only at hk hc ⊢)
  by_cases hlt : k < paths.length
  case neg =>
   obtain rfl : k = paths.length := by omega
   rw [List.take_length] at hc
   repeat' (first | refine h0i ?_ | refine h0b ?_ | refine h0s ?_ | refine h1p ?_ | refine h1f ?_ | refine h1o ?_ | refine h2c ?_ | refine h0f rfl ?_ | (refine gR 8 (p_e (q_b (r:=by exact h0y q_o)) (h:=h0a ?_))))
   exact h0w () hc (by (focus (repeat (first | exact Sub.nil | refine Sub.cons rfl ?_)))) (fun _ H => H)
  obtain ⟨j, q, bb, off, cs, T, fr, rfl, hj, hsz, hx⟩ := hps.elem hlt
  rw [pthC_at _ _ hlt] at hx
  have hc2 := take_all (p:=fun r : List UInt8 × Nat => r.1.length ≤ 200) hc hlt
  have hp1 := hpp _ (List.getElem_mem hlt)
  generalize paths[k] = p at *
  obtain ⟨pt, pr⟩ := p
  dsimp only at *
  have hpz : (mB8 pt).size = pt.length := h2d pt
  generalize mB8 pt = ptB at *
  by_cases h20 : 200 < pt.length
  ·repeat' (first | refine h0i ?_ | refine h0b ?_ | refine h3q ?_ | refine h0t ?_ | refine h1k ?_ | refine h0j ?_ | refine h0r ?_ | refine h0v ?_ | refine h0g rfl ?_ | (refine gR 8 (p_e (q_b (r:=by exact h0u q_o)) (h:=h0a ?_))) | (refine gR 9 (p_e (by apply h0n; exact rfl; exact rfl; (focus (apply h2j Tryz.underlying33 h4x; omega; omega; exact c_1))) (h:=q_e (by apply h1u (t:=104); exact rfl; exact c_19; kernel_rfl; kernel_rfl; exact h4x; (with_reducible assumption); (with_reducible assumption)) ?_)) <;> (try refine h0c ?_; (refine h0k (t:=104) rfl Tryz.zeroValue104 ?_; intro nb hnb; (try simp only [Value.cells]))) <;> (try refine h0c ?_; (refine q_W ?_)) <;> (try refine h0a ?_)) | (refine gR 10 (p_e (q_f h5f) (h:=p_e q_l (h:=p_e (h0e rfl (fun _ => BigFrame.builtin_len ..) (h0p Tryz.underlying9)) (h:=p_e (q_b (r:=by exact h1x q_o)) (h:=h0a ?_)))))) | (refine gR 11 (p_a (h:=h0a ?_))))
   (refine h0o Tryz.results16 (.tmp rfl .nil) ?_)
   exact ⟨_, ⟨_, rfl, (fun h => by cases h), rfl⟩, by intro w H; refine H.sub ?_; (try simp only [zzC, zzN]); repeat (first | exact List.Sublist.refl _ | refine List.Sublist.cons _ ?_)⟩
  ·repeat' (first | refine h0i ?_ | refine h0b ?_ | refine h0s ?_ | refine h0x ?_ | refine h0j ?_ | refine h0r ?_ | refine h0g rfl ?_ | refine h0f rfl ?_ | (refine gR 8 (p_e (q_b (r:=by exact h0u q_o)) (h:=h0a ?_))) | (refine gR 9 (p_e (by apply h0n; exact rfl; exact rfl; (focus (apply h2j Tryz.underlying33 h4x; omega; omega; exact c_1))) (h:=q_e (by apply h1u (t:=104); exact rfl; exact c_19; kernel_rfl; kernel_rfl; exact h4x; (with_reducible assumption); (with_reducible assumption)) ?_)) <;> (try refine h0c ?_; (refine h0k (t:=104) rfl Tryz.zeroValue104 ?_; intro nb hnb; (try simp only [Value.cells]))) <;> (try refine h0c ?_; (refine q_W ?_)) <;> (try refine h0a ?_)) | (refine gR 10 (p_e (q_f h5f) (h:=p_e q_l (h:=p_e (h0e rfl (fun _ => BigFrame.builtin_len ..) (h0p Tryz.underlying9)) (h:=p_e (q_b (r:=by exact h1h q_o)) (h:=h0a ?_)))))) | (refine gR 12 ?_ <;> (try refine q_e (q_b (r:=by apply h1n; exact c_5; (focus (refine IntWalk.i64_in _ ?_; omega)))) ?_) <;> (try refine p_m (h:=h0a ?_))))
   exact h0w (k + 1) ⟨⟨by show k + 1 ≤ _; omega, hc2 (by omega)⟩, by show _ - (k + 1) < _ - k; omega⟩ (by (focus (repeat (first | exact Sub.nil | refine Sub.cons rfl ?_)))) (fun _ H => H.tail)
 rintro - hpc
 (try dsimp only)
 by_cases c1 : rules.length ≤ 80
 ·by_cases c2 : paths.length ≤ 50
  ·by_cases c3 : ports.length ≤ 50
   ·by_cases c4 : nm.length ≤ 100
    ·repeat' (first | refine h0i ?_ | refine h0b ?_ | refine h0v ?_ | (refine gR 13 (p_e (q_f h2t) (h:=p_e q_l (h:=p_e (by apply h0e; exact rfl; exact (fun _ => BigFrame.builtin_len ..); apply h0d Tryz.underlying30; exact h3m) (h:=p_e (q_b (r:=by exact h4p q_o)) (h:=p_m (h:=p_y (q_f h3h) (h:=p_y q_l (h:=p_y (by apply h0e; exact rfl; exact (fun _ => BigFrame.builtin_len ..); apply h0d Tryz.underlying33; exact h3m) (h:=p_y (q_b (r:=by exact h4p q_o)) (h:=p_p (h:=p_m (h:=p_y (q_f h3p) (h:=p_y q_l (h:=p_y (by apply h0e; exact rfl; exact (fun _ => BigFrame.builtin_len ..); apply h0d Tryz.underlying34; exact h3m) (h:=p_y (q_b (r:=by exact h4p q_o)) (h:=p_p (h:=p_m (h:=p_y (q_f h6b) (h:=p_y q_l (h:=p_y (h0e rfl (fun _ => BigFrame.builtin_len ..) (h0p Tryz.underlying9)) (h:=p_y (q_b (r:=by exact h4p q_o)) (h:=p_p (h:=p_a (h:=h0a ?_))))))))))))))))))))))))))
     (refine h0o Tryz.results16 (.tmp rfl .nil) ?_)
     exact ⟨_, ⟨true, rfl, (fun _ => ⟨hcc, hpc, c1, c2, c3, c4⟩), rfl⟩, by intro w H; refine H.sub ?_; (try simp only [zzC, zzN]); repeat (first | exact List.Sublist.refl _ | refine List.Sublist.cons _ ?_)⟩
    ·repeat' (first | refine h0i ?_ | refine h0b ?_ | refine h0v ?_ | (refine gR 13 (p_e (q_f h2t) (h:=p_e q_l (h:=p_e (by apply h0e; exact rfl; exact (fun _ => BigFrame.builtin_len ..); apply h0d Tryz.underlying30; exact h3m) (h:=p_e (q_b (r:=by exact h4p q_o)) (h:=p_m (h:=p_y (q_f h3h) (h:=p_y q_l (h:=p_y (by apply h0e; exact rfl; exact (fun _ => BigFrame.builtin_len ..); apply h0d Tryz.underlying33; exact h3m) (h:=p_y (q_b (r:=by exact h4p q_o)) (h:=p_p (h:=p_m (h:=p_y (q_f h3p) (h:=p_y q_l (h:=p_y (by apply h0e; exact rfl; exact (fun _ => BigFrame.builtin_len ..); apply h0d Tryz.underlying34; exact h3m) (h:=p_y (q_b (r:=by exact h4p q_o)) (h:=p_p (h:=p_m (h:=p_y (q_f h6b) (h:=p_y q_l (h:=p_y (h0e rfl (fun _ => BigFrame.builtin_len ..) (h0p Tryz.underlying9)) (h:=p_y (q_b (r:=by exact rb_leq_f q_o)) (h:=p_p (h:=p_a (h:=h0a ?_))))))))))))))))))))))))))
     (refine h0o Tryz.results16 (.tmp rfl .nil) ?_)
     exact ⟨_, ⟨false, rfl, (fun h => by cases h), rfl⟩, by intro w H; refine H.sub ?_; (try simp only [zzC, zzN]); repeat (first | exact List.Sublist.refl _ | refine List.Sublist.cons _ ?_)⟩
   ·repeat' (first | refine h0i ?_ | refine h0b ?_ | refine h0v ?_ | (refine gR 13 (p_e (q_f h2t) (h:=p_e q_l (h:=p_e (by apply h0e; exact rfl; exact (fun _ => BigFrame.builtin_len ..); apply h0d Tryz.underlying30; exact h3m) (h:=p_e (q_b (r:=by exact h4p q_o)) (h:=p_m (h:=p_y (q_f h3h) (h:=p_y q_l (h:=p_y (by apply h0e; exact rfl; exact (fun _ => BigFrame.builtin_len ..); apply h0d Tryz.underlying33; exact h3m) (h:=p_y (q_b (r:=by exact h4p q_o)) (h:=p_p (h:=p_m (h:=p_y (q_f h3p) (h:=p_y q_l (h:=p_y (by apply h0e; exact rfl; exact (fun _ => BigFrame.builtin_len ..); apply h0d Tryz.underlying34; exact h3m) (h:=p_y (q_b (r:=by exact rb_leq_f q_o)) (h:=p_p (h:=p_m (h:=p_z (h:=p_z (h:=p_z (h:=p_z (h:=p_p (h:=p_a (h:=h0a ?_))))))))))))))))))))))))))
    (refine h0o Tryz.results16 (.tmp rfl .nil) ?_)
    exact ⟨_, ⟨false, rfl, (fun h => by cases h), rfl⟩, by intro w H; refine H.sub ?_; (try simp only [zzC, zzN]); repeat (first | exact List.Sublist.refl _ | refine List.Sublist.cons _ ?_)⟩
  ·repeat' (first | refine h0i ?_ | refine h0b ?_ | refine h0v ?_ | (refine gR 13 (p_e (q_f h2t) (h:=p_e q_l (h:=p_e (by apply h0e; exact rfl; exact (fun _ => BigFrame.builtin_len ..); apply h0d Tryz.underlying30; exact h3m) (h:=p_e (q_b (r:=by exact h4p q_o)) (h:=p_m (h:=p_y (q_f h3h) (h:=p_y q_l (h:=p_y (by apply h0e; exact rfl; exact (fun _ => BigFrame.builtin_len ..); apply h0d Tryz.underlying33; exact h3m) (h:=p_y (q_b (r:=by exact rb_leq_f q_o)) (h:=p_p (h:=p_m (h:=p_z (h:=p_z (h:=p_z (h:=p_z (h:=p_p (h:=p_m (h:=p_z (h:=p_z (h:=p_z (h:=p_z (h:=p_p (h:=p_a (h:=h0a ?_))))))))))))))))))))))))))
   (refine h0o Tryz.results16 (.tmp rfl .nil) ?_)
   exact ⟨_, ⟨false, rfl, (fun h => by cases h), rfl⟩, by intro w H; refine H.sub ?_; (try simp only [zzC, zzN]); repeat (first | exact List.Sublist.refl _ | refine List.Sublist.cons _ ?_)⟩
 ·repeat' (first | refine h0i ?_ | refine h0b ?_ | refine h0v ?_ | (refine gR 13 (p_e (q_f h2t) (h:=p_e q_l (h:=p_e (by apply h0e; exact rfl; exact (fun _ => BigFrame.builtin_len ..); apply h0d Tryz.underlying30; exact h3m) (h:=p_e (q_b (r:=by exact rb_leq_f q_o)) (h:=p_m (h:=p_z (h:=p_z (h:=p_z (h:=p_z (h:=p_p (h:=p_m (h:=p_z (h:=p_z (h:=p_z (h:=p_z (h:=p_p (h:=p_m (h:=p_z (h:=p_z (h:=p_z (h:=p_z (h:=p_p (h:=p_a (h:=h0a ?_))))))))))))))))))))))))))
  (refine h0o Tryz.results16 (.tmp rfl .nil) ?_)
  exact ⟨_, ⟨false, rfl, (fun h => by cases h), rfl⟩, by intro w H; refine H.sub ?_; (try simp only [zzC, zzN]); repeat (first | exact List.Sublist.refl _ | refine List.Sublist.cons _ ?_)⟩
def wsep : List UInt8 := [32, 9, 32]
def wend : List UInt8 := [32, 32, 35, 32, 120, 32, 121, 10, 10]
def whead : List UInt8 := [35, 32, 102, 105, 114, 115, 116, 10, 10]
def wideB (c : UInt8) : List UInt8 := if c = 32 then wsep else if c = 10 then wend else [c]
def wspcL : List W3 → List UInt8
 | [] => []
 | w :: r => w.2.1 ++ r.flatMap fun v => wsep ++ v.2.1
def widL (D : List (List W3)) : List UInt8 := D.flatMap fun ws => wspcL ws ++ wend
def wideT (l : List UInt8) : List UInt8 := whead ++ l.flatMap wideB
theorem w_no32 {w : W3} (h : WOk w) : ∀ x ∈ w.2.1, x ≠ 32 ∧ x ≠ 10 := by
 intro x hx
 refine ⟨fun e => ?_, (h.no x hx).1⟩
 obtain ⟨c, r, -, -, hk⟩ := h.good.word
 have h1 := h.good.pred x hx
 have h2 := blk_pred c x (by rw [e]; decide)
 rw [hk] at h2
 rw [h1] at h2
 cases h2
theorem wide_id {l : List UInt8} (h : ∀ x ∈ l, x ≠ 32 ∧ x ≠ 10) : l.flatMap wideB = l := by
 induction l with
 | nil => rfl
 | cons c r ih =>
  have hc := h c (List.mem_cons_self ..)
  rw [List.flatMap_cons, ih (fun x hx => h x (List.mem_cons_of_mem _ hx))]
  unfold wideB
  rw [if_neg hc.1, if_neg hc.2]
  rfl
theorem wide_spc {ws : List W3} (h : ∀ w ∈ ws, WOk w) : (spcL ws).flatMap wideB = wspcL ws := by
 cases ws with
 | nil => rfl
 | cons w r =>
  have key : ∀ r : List W3, (∀ w ∈ r, WOk w) → (r.flatMap fun v => 32 :: v.2.1).flatMap wideB = r.flatMap fun v => wsep ++ v.2.1 := by
   intro r
   induction r with
   | nil => intro _; rfl
   | cons v r ih =>
    intro h
    rw [List.flatMap_cons, List.flatMap_cons, List.flatMap_append, ih (fun w hw => h w (List.mem_cons_of_mem _ hw)), List.flatMap_cons, wide_id (w_no32 (h v (List.mem_cons_self ..)))]
    rfl
  unfold spcL wspcL
  rw [List.flatMap_append, key r (fun w hw => h w (List.mem_cons_of_mem _ hw)), wide_id (w_no32 (h w (List.mem_cons_self ..)))]
theorem wide_lns (D : List (List W3)) (h : ∀ ws ∈ D, ∀ w ∈ ws, WOk w) : (lnsT D).flatMap wideB = widL D := by
 induction D with
 | nil => rfl
 | cons ws D ih =>
  have e : lnsT (ws :: D) = spcL ws ++ [10] ++ lnsT D := rfl
  rw [e, List.flatMap_append, List.flatMap_append, ih (fun v hv => h v (List.mem_cons_of_mem _ hv)), wide_spc (h ws (List.mem_cons_self ..))]
  rfl
def gapX : List W3 → List (List UInt8 × Tk)
 | [] => []
 | w :: r => ([], tk0 w) :: r.map fun v => (wsep, tk0 v)
theorem pcs_gapX (ws : List W3) : pcs (gapX ws) = wspcL ws := by
 cases ws with
 | nil => rfl
 | cons w r =>
  rw [gapX, pcs_cons]
  show [] ++ w.2.1 ++ pcs (r.map fun v => (wsep, tk0 v)) = w.2.1 ++ r.flatMap fun v => wsep ++ v.2.1
  rw [List.nil_append]
  congr 1
  induction r with
  | nil => rfl
  | cons v r ih => rw [List.map_cons, pcs_cons, ih, List.flatMap_cons]; rfl
theorem blkX : Blks wsep := by
 intro x hx
 simp only [wsep, List.mem_cons, List.not_mem_nil, or_false] at hx
 rcases hx with rfl | rfl | rfl <;> decide
theorem apart_gapX (ws : List W3) (h : ∀ w ∈ ws, WOk w) : Apart (gapX ws) := by
 cases ws with
 | nil => trivial
 | cons w r =>
  have key : ∀ r : List W3, (∀ w ∈ r, WOk w) → Apart (r.map fun v => (wsep, tk0 v)) := by
   intro r
   induction r with
   | nil => intro _; trivial
   | cons v r ih =>
    intro h
    refine ⟨blkX, (h v (List.mem_cons_self ..)).good, ?_, ih (fun w hw => h w (List.mem_cons_of_mem _ hw))⟩
    intro q hq
    cases r with
    | nil => cases hq
    | cons u r =>
     have : q = (wsep, tk0 u) := (Option.some.inj hq).symm
     rw [this]; simp [wsep]
  refine ⟨(fun x hx => by cases hx), (h w (List.mem_cons_self ..)).good, ?_, key r (fun w hw => h w (List.mem_cons_of_mem _ hw))⟩
  intro q hq
  cases r with
  | nil => cases hq
  | cons u r =>
   have : q = (wsep, tk0 u) := (Option.some.inj hq).symm
   rw [this]; simp [wsep]
theorem gapX_kn (ws : List W3) : (gapX ws).map (fun p => kn p.2) = ws := by
 cases ws with
 | nil => rfl
 | cons w r =>
  rw [gapX, List.map_cons, List.map_map]
  show w :: r.map (fun v => (v.1, v.2.1, v.2.2)) = w :: r
  rw [show (fun v : W3 => (v.1, v.2.1, v.2.2)) = id from rfl, List.map_id]
theorem wspc_no {ws : List W3} (h : ∀ w ∈ ws, WOk w) : ∀ x ∈ wspcL ws, x ≠ 10 ∧ x ≠ 35 := by
 rw [← pcs_gapX]
 refine pcs_no (fun p hp => ?_)
 have hm : (p.1 = [] ∨ p.1 = wsep) ∧ ∃ w ∈ ws, p.2 = tk0 w := by
  cases ws with
  | nil => cases hp
  | cons w r =>
   rcases List.mem_cons.1 hp with rfl | hp
   ·exact ⟨Or.inl rfl, w, List.mem_cons_self .., rfl⟩
   ·obtain ⟨v, hv, rfl⟩ := List.mem_map.1 hp
    exact ⟨Or.inr rfl, v, List.mem_cons_of_mem _ hv, rfl⟩
 obtain ⟨h1, w, hw, h2⟩ := hm
 refine ⟨fun x hx => ?_, fun x hx => ?_⟩
 ·rcases h1 with h1 | h1 <;> rw [h1] at hx
  ·cases hx
  ·simp only [wsep, List.mem_cons, List.not_mem_nil, or_false] at hx
   rcases hx with rfl | rfl | rfl <;> decide
 ·rw [h2] at hx
  exact (h w hw).no x hx
theorem lexAll_wide (D : List (List W3)) (h : LinesOk D) : ∀ (n : Nat) (out : List Tk), ∃ ts, h4y n (h1g 10 (widL D)) out = (out ++ ts, none) ∧ ts.map kn = (toks D).map kn := by
 induction D with
 | nil =>
  intro n out
  refine ⟨[], ?_, rfl⟩
  show h4y n (h1g 10 []) out = _
  rw [splitC_no (fun h => by cases h), lexAll_none (fun line => by rw [headF_id (fun h => by cases h)]; exact ln_blank (fun x hx => by cases hx) line), h4y, List.append_nil]
 | cons ws D ih =>
  intro n out
  have hok := h.ok ws (List.mem_cons_self ..)
  have hno := wspc_no hok
  have e1 : widL (ws :: D) = (wspcL ws ++ [32, 32, 35, 32, 120, 32, 121]) ++ 10 :: ([] ++ 10 :: widL D) := by
   show (wspcL ws ++ wend) ++ widL D = _
   simp [wend]
  rw [e1, splitC_ln (by
   intro hm
   rcases List.mem_append.1 hm with hm | hm
   ·exact (hno 10 hm).1 rfl
   ·revert hm; decide), splitC_ln (fun h => by cases h)]
  have hp : h4v 35 (wspcL ws ++ [32, 32, 35, 32, 120, 32, 121]) = pcs (gapX ws) ++ [32, 32] := by
   rw [pcs_gapX, show wspcL ws ++ [32, 32, 35, 32, 120, 32, 121] = (wspcL ws ++ [32, 32]) ++ 35 :: [32, 120, 32, 121] by simp, headF_cut]
   intro hm
   rcases List.mem_append.1 hm with hm | hm
   ·exact (hno 35 hm).2 rfl
   ·revert hm; decide
  have hne : gapX ws ≠ [] := by
   cases hx : ws with
   | nil => exact absurd hx (h.ne ws (List.mem_cons_self ..))
   | cons w r => simp [gapX]
  rw [lexAll_line (apart_gapX ws hok) hne (fun x hx => by
   simp only [List.mem_cons, List.not_mem_nil, or_false] at hx
   rcases hx with rfl | rfl <;> decide) hp, lexAll_none (fun line => by rw [headF_id (fun h => by cases h)]; exact ln_blank (fun x hx => by cases hx) line)]
  obtain ⟨ts, h1, h2⟩ := ih ⟨fun v hv => h.ne v (List.mem_cons_of_mem _ hv), fun v hv => h.ok v (List.mem_cons_of_mem _ hv)⟩ (n + 1 + 1) (out ++ tokL (n + 1) 0 (gapX ws) ++ [⟨0, [], 0, n + 1, (pcs (gapX ws) ++ [32, 32]).length + 1⟩])
  refine ⟨tokL (n + 1) 0 (gapX ws) ++ ([⟨0, [], 0, n + 1, (pcs (gapX ws) ++ [32, 32]).length + 1⟩] ++ ts), by rw [h1]; simp, ?_⟩
  rw [toks_cons]
  simp only [List.map_append, List.map_cons, List.map_nil, h2, tokL_kn, gapX_kn, List.singleton_append]
  have e : (ws.map tk0).map kn = ws := by
   rw [List.map_map, show (kn ∘ tk0) = id from rfl, List.map_id]
  rw [e]; rfl
theorem lex_wide (D : List (List W3)) (h : LinesOk D) (hl : (whead ++ widL D).length ≤ 65536) : ∃ ts, lexF (whead ++ widL D) = (ts, none) ∧ ts.map kn = (toks D).map kn := by
 unfold lexF
 rw [if_neg (by omega)]
 have e1 : whead ++ widL D = [35, 32, 102, 105, 114, 115, 116] ++ 10 :: ([] ++ 10 :: widL D) := rfl
 rw [e1, splitC_ln (by decide), splitC_ln (fun h => by cases h)]
 rw [lexAll_none (fun line => by
  have : h4v 35 ([35, 32, 102, 105, 114, 115, 116] : List UInt8) = [] := headF_cut (X:=[]) (y:=[32, 102, 105, 114, 115, 116]) (fun h => by cases h)
  rw [this]; exact ln_blank (fun x hx => by cases hx) line), lexAll_none (fun line => by rw [headF_id (fun h => by cases h)]; exact ln_blank (fun x hx => by cases hx) line)]
 obtain ⟨ts, h1, h2⟩ := lexAll_wide D h (0 + 1 + 1) []
 exact ⟨ts, h1, h2⟩
theorem wspcL_len (ws : List W3) : (wspcL ws).length ≤ (ws.map fun w => w.2.1.length + 1).sum + 2 * ws.length := by
 cases ws with
 | nil => exact Nat.zero_le _
 | cons w r =>
  have key : ∀ r : List W3, (r.flatMap fun v => wsep ++ v.2.1).length = (r.map fun w => w.2.1.length + 1).sum + 2 * r.length := by
   intro r
   induction r with
   | nil => rfl
   | cons v r ih =>
    rw [List.flatMap_cons, List.length_append, ih, List.map_cons, List.sum_cons, List.length_append, List.length_cons]
    have : wsep.length = 3 := rfl
    omega
  unfold wspcL
  rw [List.length_append, key, List.map_cons, List.sum_cons, List.length_cons]
  omega
theorem widL_len (D : List (List W3)) (k c : Nat) (h : ∀ ws ∈ D, (ws.map fun w => w.2.1.length + 1).sum ≤ k ∧ ws.length ≤ c) : (widL D).length ≤ D.length * (k + 2 * c + 9) := by
 induction D with
 | nil => exact Nat.zero_le _
 | cons ws D ih =>
  have h1 := h ws (List.mem_cons_self ..)
  have h2 := ih (fun v hv => h v (List.mem_cons_of_mem _ hv))
  have h3 := wspcL_len ws
  have e : widL (ws :: D) = (wspcL ws ++ wend) ++ widL D := rfl
  have e2 : wend.length = 9 := rfl
  rw [e, List.length_append, List.length_append, List.length_cons, Nat.succ_mul]
  omega
theorem widL_app (A B : List (List W3)) : widL (A ++ B) = widL A ++ widL B := by simp [widL]
theorem cndsL_cnt (cs : List Cnd) : ∀ key, (cndsL key cs).length ≤ 6 * cs.length := by
 induction cs with
 | nil => intro _; exact Nat.zero_le _
 | cons c r ih =>
  intro key
  have := ih tAnd
  have h2 : (cndL c).length ≤ 5 := by unfold cndL; split <;> simp
  rw [cndsL, List.length_cons, List.length_append, List.length_cons]
  omega
theorem actL_cnt (a : Int) : (actL a).length ≤ 2 := by
 unfold actL
 split
 ·simp
 ·split
  ·simp
  ·split <;> simp
theorem wide_len (P : Pol) (h : PolOk P) (hr : PolRn P) : (whead ++ widL (polL P)).length ≤ 65536 := by
 obtain ⟨n1, n2⟩ := nm_ok h.nm
 obtain ⟨a1, a2, a3⟩ := actL_ok h.df
 have hru : ∀ ws ∈ P.rules.map rulL, (ws.map fun w => w.2.1.length + 1).sum ≤ 390 ∧ ws.length ≤ 40 := by
  intro ws hws
  obtain ⟨r, hr1, rfl⟩ := List.mem_map.1 hws
  refine ⟨(rulL_ok (h.rules r hr1) (hr.c r hr1)).2.2, ?_⟩
  have h1 := cndsL_cnt r.conds tIf
  have h2 := actL_cnt r.act
  have h3 := (h.rules r hr1).len
  unfold rulL
  rw [List.length_cons, List.length_cons, List.length_append]
  omega
 have hha : ∀ ws ∈ hanL P.hd, (ws.map fun w => w.2.1.length + 1).sum ≤ 390 ∧ ws.length ≤ 2 := by
  intro ws hws
  unfold hanL at hws
  split at hws
  ·rename_i h0
   obtain ⟨r1, r2⟩ := rg_ok h0 h.hd
   rw [List.mem_singleton.1 hws]
   refine ⟨?_, by simp⟩
   show tHandle.length + 1 + ((rgT P.hd).length + 1 + 0) ≤ 390
   have e : tHandle.length = 6 := rfl
   omega
  ·cases hws
 have hpa : ∀ ws ∈ P.paths.map benL, (ws.map fun w => w.2.1.length + 1).sum ≤ 450 ∧ ws.length ≤ 3 := by
  intro ws hws
  obtain ⟨p, hp, rfl⟩ := List.mem_map.1 hws
  obtain ⟨g1, g2, g3, g4⟩ := h.paths p hp
  obtain ⟨p1, p2⟩ := wP_ok g1
  obtain ⟨r1, r2⟩ := rg_ok g2 (and_sub g3 h.hd)
  refine ⟨?_, by simp [benL]⟩
  show tBeneath.length + 1 + (p.1.length + 1 + ((rgT p.2).length + 1 + 0)) ≤ 450
  have e : tBeneath.length = 7 := rfl
  omega
 have hpo : ∀ ws ∈ P.ports.map porL, (ws.map fun w => w.2.1.length + 1).sum ≤ 390 ∧ ws.length ≤ 3 := by
  intro ws hws
  obtain ⟨p, hp, rfl⟩ := List.mem_map.1 hws
  obtain ⟨g1, g2, g3, g4⟩ := h.ports p hp
  obtain ⟨r1, r2⟩ := rg_ok g2 (and_sub g3 h.hd)
  have hd := d20 (n:=p.1) (by omega)
  refine ⟨?_, by simp [porL]⟩
  show tPort.length + 1 + ((decF p.1).length + 1 + ((rgT p.2).length + 1 + 0)) ≤ 390
  have e : tPort.length = 4 := rfl
  omega
 have hh : ∀ ws ∈ [[wN tPolicy, wN P.nm], wN tDefault :: actL P.df], (ws.map fun w => w.2.1.length + 1).sum ≤ 40 ∧ ws.length ≤ 3 := by
  intro ws hws
  rcases List.mem_cons.1 hws with rfl | hws
  ·refine ⟨?_, by simp⟩
   show tPolicy.length + 1 + (P.nm.length + 1 + 0) ≤ 40
   have e : tPolicy.length = 6 := rfl
   omega
  ·rw [List.mem_singleton.1 hws]
   refine ⟨?_, ?_⟩
   ·rw [List.map_cons, List.sum_cons]
    show tDefault.length + 1 + _ ≤ 40
    have e : tDefault.length = 7 := rfl
    omega
   ·have := actL_cnt P.df
    rw [List.length_cons]; omega
 have e : polL P = [[wN tPolicy, wN P.nm], wN tDefault :: actL P.df] ++ (P.rules.map rulL ++ (hanL P.hd ++ (P.paths.map benL ++ P.ports.map porL))) := rfl
 rw [e, widL_app, widL_app, widL_app, widL_app]
 have b1 := widL_len _ _ _ hh
 have b2 := widL_len _ _ _ hru
 have b3 := widL_len _ _ _ hha
 have b4 := widL_len _ _ _ hpa
 have b5 := widL_len _ _ _ hpo
 have l3 : (hanL P.hd).length ≤ 1 := by unfold hanL; split <;> simp
 rw [List.length_map] at b2 b4 b5
 simp only [List.length_append]
 have l1 := h.l1
 have l2 := h.l2
 have l4 := h.l3
 have lw : whead.length = 9 := rfl
 simp only [List.length_cons, List.length_nil] at b1
 omega
theorem polT_wide (P : Pol) (h : PolOk P) (hr : PolRn P) : wideT (polT P) = whead ++ widL (polL P) := by
 unfold wideT polT
 rw [wide_lns _ (polL_ok P h hr).1.ok]
theorem pol_wide (P : Pol) (h : PolOk P) (hr : PolRn P) : polF (wideT (polT P)) = (P, (0, 0, 0)) := by
 rw [polT_wide P h hr]
 obtain ⟨ts, h3, h4⟩ := lex_wide (polL P) (polL_ok P h hr).1 (wide_len P h hr)
 exact pol_words P h h3 h4
theorem pred_lt : ∀ k : Fin 5, ∀ x : Fin 256, 1 ≤ k.val → h5o k.val (UInt8.ofNat x.val) = true → x.val < 128 := by decide +kernel
theorem w_lt {w : W3} (h : WOk w) : ∀ x ∈ w.2.1, x.toNat < 128 := by
 intro x hx
 obtain ⟨c, r, -, -, hk⟩ := h.good.word
 have hk4 : h2e c = 1 ∨ h2e c = 2 ∨ h2e c = 3 ∨ h2e c = 4 := by
  unfold h2e
  split
  ·left; rfl
  ·split
   ·right; left; rfl
   ·split
    ·right; right; left; rfl
    ·right; right; right; rfl
 have h1 := h.good.pred x hx
 have e : (UInt8.ofNat x.toNat) = x := by simp
 have hl : x.toNat < 256 := x.toNat_lt
 rw [hk] at hk4
 refine pred_lt ⟨(tk0 w).kind, by omega⟩ ⟨x.toNat, hl⟩ (by show 1 ≤ (tk0 w).kind; omega) ?_
 dsimp only
 rw [e]
 exact h1
theorem polT_byte (P : Pol) (h : PolOk P) (hr : PolRn P) : ∀ x ∈ polT P, x.toNat < 128 := by
 have hL := (polL_ok P h hr).1
 intro x hx
 obtain ⟨ws, hws, hx⟩ := List.mem_flatMap.1 hx
 have hok := hL.ok ws hws
 rcases List.mem_append.1 hx with hx | hx
 ·cases ws with
  | nil => cases hx
  | cons w r =>
   rcases List.mem_append.1 hx with hx | hx
   ·exact w_lt (hok w (List.mem_cons_self ..)) x hx
   ·obtain ⟨v, hv, hx⟩ := List.mem_flatMap.1 hx
    rcases List.mem_cons.1 hx with rfl | hx
    ·decide
    ·exact w_lt (hok v (List.mem_cons_of_mem _ hv)) x hx
 ·rw [List.mem_singleton.1 hx]; decide
structure SubB (X L : List Blk) : Prop where
 mem : ∀ b ∈ X, b ∈ L
theorem SubB.refl (X : List Blk) : SubB X X := ⟨fun _ h => h⟩
theorem SubB.left (X R : List Blk) : SubB X (X ++ R) := ⟨fun _ h => List.mem_append_left _ h⟩
theorem SubB.app {X R Y : List Blk} (h : SubB X R) : SubB (Y ++ X) (Y ++ R) := ⟨fun b hb => (List.mem_append.1 hb).elim (fun h => List.mem_append_left _ h) (fun hx => List.mem_append_right _ (h.mem b hx))⟩
theorem SubB.up {X L : List Blk} {x : Blk} (h : SubB X L) : SubB X (x :: L) := ⟨fun b hb => List.mem_cons_of_mem _ (h.mem b hb)⟩
theorem SubB.upA {X L e : List Blk} (h : SubB X L) : SubB X (e ++ L) := ⟨fun b hb => List.mem_append_right _ (h.mem b hb)⟩
theorem PrE.subB {pb ct rb n : Nat} {L0 M : List Blk} (h : PrE pb ct rb n L0 M) : SubB L0 M := ⟨fun _ hb => h.sub.subset hb⟩
theorem Sli.mono {X L : List Blk} {a : Option Addr} {n size : Nat} {xs : List Value} (h : Sli X a n size xs) (hs : SubB X L) : Sli L a n size xs := by
 refine ⟨h.1, ?_⟩
 rcases h.2 with h1 | ⟨i, q, b, off, cs, T, fr, h1, h2, h3⟩
 ·exact Or.inl h1
 ·obtain ⟨j, hj⟩ := List.mem_iff_getElem?.1 (hs.mem _ (List.mem_iff_getElem?.2 ⟨i, h2⟩))
  exact Or.inr ⟨j, q, b, off, cs, T, fr, h1, hj, h3⟩
theorem CndS.mono {X L : List Blk} {v : Value} {cs : List GCnd} (h : CndS X v cs) (hs : SubB X L) : CndS L v cs := let ⟨a, c, h1, h2, h3⟩ := h; ⟨a, c, h1, h2.mono hs, h3⟩
theorem RulsG.mono {X L : List Blk} (hs : SubB X L) : ∀ {rs : List GRul} {cz : List Value}, RulsG X rs cz → RulsG L rs cz
 | [], _, h => h
 | _ :: _, _, ⟨v, cz', h1, h2, h3⟩ => ⟨v, cz', h1, h2.mono hs, RulsG.mono hs h3⟩
theorem PolS.mono {X L : List Blk} {P : GPol} {vr vp vq : Value} (h : PolS X P vr vp vq) (hs : SubB X L) : PolS L P vr vp vq := by
 obtain ⟨⟨a, c, cz, h1, h2, h3⟩, ⟨a2, c2, h4, h5⟩, ⟨a3, c3, h6, h7⟩, l1, l2, l3⟩ := h
 exact ⟨⟨a, c, cz, h1, h2.mono hs, h3.mono hs⟩, ⟨a2, c2, h4, h5.mono hs⟩, ⟨a3, c3, h6, h7.mono hs⟩, l1, l2, l3⟩
theorem RCnS.mono {X L : List Blk} {v : Value} {cs : List GCnd} (h : RCnS X v cs) (hs : SubB X L) : RCnS L v cs := let ⟨a, c, h1, h2, h3⟩ := h; ⟨a, c, h1, h2.mono hs, h3⟩
theorem RRlG.mono {X L : List Blk} (hs : SubB X L) : ∀ {rs : List GRul} {cz : List Value}, RRlG X rs cz → RRlG L rs cz
 | [], _, h => h
 | _ :: _, _, ⟨v, cz', h1, h2, h3⟩ => ⟨v, cz', h1, h2.mono hs, RRlG.mono hs h3⟩
theorem RfS.mono {X L : List Blk} {P : GPol} {vr vp vq : Value} (h : RfS X P vr vp vq) (hs : SubB X L) : RfS L P vr vp vq := by
 obtain ⟨⟨a, c, cz, h1, h2, h3⟩, ⟨a2, c2, h4, h5⟩, ⟨a3, c3, h6, h7⟩, l1, l2, l3⟩ := h
 exact ⟨⟨a, c, cz, h1, h2.mono hs, h3.mono hs⟩, ⟨a2, c2, h4, h5.mono hs⟩, ⟨a3, c3, h6, h7.mono hs⟩, l1, l2, l3⟩
theorem same_m {S w0 L} {X1 X2 : List Blk} (P : GPol) {vr vp vq ur up uq : Value} (h1 : PolS X1 P vr vp vq) (h2 : PolS X2 P ur up uq) (s1 : SubB X1 L) (s2 : SubB X2 L) :
  Fn Tryz.prog 14 #[.agg #[.string (mB8 P.nm), .int .u32 P.df, vr, .int .u16 (P.hd : Nat), vp, vq], .agg #[.string (mB8 P.nm), .int .u32 P.df, ur, .int .u16 (P.hd : Nat), up, uq]] S w0 L fun v L' => v = .bool true ∧ L = L' :=
 psame_c (S:=S) (w0:=w0) P _ _ _ _ _ _ (h1.mono s1) (h2.mono s2)
theorem ref_m {S w0 L} {X : List Blk} (P : GPol) (hP : P.ok) (hN : FewN P) {vr vp vq : Value} (h : PolS X P vr vp vq) (s : SubB X L) :
  Fn Tryz.prog 19 #[.agg #[.string (mB8 P.nm), .int .u32 P.df, vr, .int .u16 (P.hd : Nat), vp, vq]] S w0 L fun v L' => ∃ (r1 p1 q1 : Option Addr) (r3 p3 q3 : Nat) (D : List Blk), v = .agg #[.string (mB8 P.nm), .int .u32 P.df, .slice r1 P.rules.length r3, .int .i64 (P.hd : Nat), .slice p1 P.paths.length p3, .slice q1 P.ports.length q3] ∧ RfS D P (.slice r1 P.rules.length r3) (.slice p1 P.paths.length p3) (.slice q1 P.ports.length q3) ∧ D ++ L = L' := by
 refine (ref_c (S:=S) (w0:=w0) P hP hN vr vp vq (h.mono s)).mono ?_
 rintro v L' ⟨d, rfl, hd, rfl⟩
 have hR := hd.rfS hN
 obtain ⟨⟨r1, r3, -, e1, -⟩, ⟨p1, p3, e2, -⟩, ⟨q1, q3, e3, -⟩, -⟩ := id hR
 rw [e1, e2, e3] at hR
 exact ⟨_, ⟨r1, p1, q1, r3, p3, q3, d.blocks, by dsimp only [refC]; rw [e1, e2, e3], hR, rfl⟩, fun _ H => H⟩
theorem rsame_m {S w0 L} {X1 X2 : List Blk} (P : GPol) {vr vp vq ur up uq : Value} (h1 : RfS X1 P vr vp vq) (h2 : RfS X2 P ur up uq) (s1 : SubB X1 L) (s2 : SubB X2 L) :
  Fn Tryz.prog 18 #[.agg #[.string (mB8 P.nm), .int .u32 P.df, vr, .int .i64 (P.hd : Nat), vp, vq], .agg #[.string (mB8 P.nm), .int .u32 P.df, ur, .int .i64 (P.hd : Nat), up, uq]] S w0 L fun v L' => v = .bool true ∧ L = L' :=
 rsame_c (S:=S) (w0:=w0) P _ _ _ _ _ _ (h1.mono s1) (h2.mono s2)
theorem check_m {S w0} {pb ct rb n : Nat} {L0 M L B E : List Blk} (P : GPol) (hP : P.ok) (hr : P.rules.length ≤ 1000) {vr vp vq : Value} (hS : PolS (E ++ L0) P vr vp vq) (hM : PrE pb ct rb n L0 M) (hn : n ≤ 90000) (hL : Tl L B (E ++ M)) :
  Fn Tryz.prog 17 #[.agg #[.string (mB8 P.nm), .int .u32 P.df, vr, .int .u16 (P.hd : Nat), vp, vq], .pointer (some ⟨ct, 0, none⟩)] S w0 L fun v L' => ∃ n' M', v = .int .i64 (chkG P : Nat) ∧ n' ≤ n + P.rules.length ∧ PrE pb ct rb n' L0 M' ∧ B ++ (E ++ M') = L' := by
 have e : L = (B ++ E) ++ M := by rw [hL.eq, List.append_assoc]
 rw [e]
 refine (check_x (S:=S) (w0:=w0) (B ++ E) hM hn P hP _ _ _ (by rw [List.append_assoc]; exact hS.upA B) hr).mono ?_
 rintro v L' ⟨n', M', rfl, hn', hM', rfl⟩
 exact ⟨_, ⟨n', M', rfl, hn', hM', rfl⟩, fun _ H => by rw [List.append_assoc] at H; exact H⟩
theorem text_m {S w0} {pb ct rb n : Nat} {L0 M L B E : List Blk} (P : Pol) (hP : PolOk P) (hR : PolRn P) {vr vp vq : Value} (hS : PolS (E ++ L0) P.g vr vp vq) (hM : PrE pb ct rb n L0 M) (hn : n ≤ 90000) (hL : Tl L B (E ++ M)) :
  Fn Tryz.prog 13 #[.agg #[.string (mB8 P.nm), .int .u32 P.df, vr, .int .u16 (P.hd : Nat), vp, vq], .pointer (some ⟨ct, 0, none⟩)] S w0 L fun v L' => ∃ M', v = .string (mB8 (polT P)) ∧ PrE pb ct rb (n + P.rules.length) L0 M' ∧ B ++ (E ++ M') = L' := by
 have e : L = (B ++ E) ++ M := by rw [hL.eq, List.append_assoc]
 rw [e]
 refine (text_x (S:=S) (w0:=w0) (B ++ E) hM hn P hP hR _ _ _ (by rw [List.append_assoc]; exact hS.upA B)).mono ?_
 rintro v L' ⟨M', rfl, hM', rfl⟩
 exact ⟨_, ⟨M', rfl, hM', rfl⟩, fun _ H => by rw [List.append_assoc] at H; exact H⟩
def GCnd.c (c : GCnd) : Cnd := ⟨c.arg.toNat, c.op, c.mask, c.val⟩
def GRul.r (r : GRul) : RulP := ⟨r.num, r.act, r.conds.map GCnd.c⟩
def GPol.p (P : GPol) : Pol := ⟨P.nm, P.df, P.rules.map GRul.r, P.hd, P.paths, P.ports⟩
theorem chkC_arg {c : GCnd} (h : chkC c = 0) : 0 ≤ c.arg := by
 unfold chkC at h
 split at h
 ·cases h
 ·omega
theorem gpol_pg {P : GPol} (h : chkG P = 0) : P.p.g = P := by
 have hr : ∀ r ∈ P.rules, ∀ c ∈ r.conds, 0 ≤ c.arg := by
  intro r hr c hc
  unfold chkG at h
  split at h
  ·cases h
  split at h
  ·cases h
  split at h
  ·cases h
  split at h
  ·cases h
  split at h
  ·rename_i h5; exact absurd h h5
  ·rename_i h5
   have h6 := firstE_z.1 (Decidable.byContradiction h5) (chkR r) (List.mem_map.2 ⟨r, hr, rfl⟩)
   unfold chkR at h6
   split at h6
   ·cases h6
   split at h6
   ·cases h6
   split at h6
   ·cases h6
   exact chkC_arg (firstE_z.1 h6 (chkC c) (List.mem_map.2 ⟨c, hc, rfl⟩))
 obtain ⟨nm, df, rules, hd, paths, ports⟩ := P
 unfold GPol.p Pol.g
 dsimp only at *
 congr 1
 rw [List.map_map]
 conv => rhs; rw [← List.map_id rules]
 refine List.map_congr_left (fun r hr2 => ?_)
 obtain ⟨num, act, conds⟩ := r
 show (⟨num, act, (conds.map GCnd.c).map Cnd.g⟩ : GRul) = ⟨num, act, conds⟩
 congr 1
 rw [List.map_map]
 conv => rhs; rw [← List.map_id conds]
 refine List.map_congr_left (fun c hc => ?_)
 have := hr _ hr2 c hc
 obtain ⟨a, o, m, v⟩ := c
 show (⟨((a.toNat : Nat) : Int), o, m, v⟩ : GCnd) = ⟨a, o, m, v⟩
 dsimp only at this
 rw [Int.toNat_of_nonneg this]
theorem gpol_ok {P : GPol} (h : chkG P = 0) (hP : P.ok) : PolOk P.p ∧ PolRn P.p := by
 have e := gpol_pg h
 refine ⟨(chkG_z (P:=P.p) hP.df.1 ?_ ?_).1 (by rw [e]; exact h), ⟨?_⟩⟩
 ·intro r hr
  obtain ⟨g, hg, rfl⟩ := List.mem_map.1 hr
  exact (hP.rules g hg).act.1
 ·intro p hp
  exact (hP.ports p hp).1
 ·intro r hr c hc
  obtain ⟨g, hg, rfl⟩ := List.mem_map.1 hr
  obtain ⟨d, hd, rfl⟩ := List.mem_map.1 hc
  have h1 := (hP.rules g hg).conds d hd
  have h2 := h1.mask
  have h3 := h1.val
  exact ⟨by show d.mask ≤ _; omega, by show d.val ≤ _; omega⟩
theorem pol_fewN {P : Pol} (h : PolOk P) : FewN P.g := by
 refine ⟨?_, ?_, ?_, ?_⟩
 ·intro r hr
  obtain ⟨q, hq, rfl⟩ := List.mem_map.1 hr
  have := (h.rules q hq).len
  show (q.conds.map Cnd.g).length ≤ 1000
  rw [List.length_map]; omega
 ·show (P.rules.map RulP.g).length ≤ 1000
  rw [List.length_map]; have := h.l1; omega
 ·show P.paths.length ≤ 1000
  have := h.l2; omega
 ·show P.ports.length ≤ 1000
  have := h.l3; omega
theorem SCndS.mono {X L : List Blk} {v : Value} {cs : List SCnd} (h : SCndS X v cs) (hs : SubB X L) : SCndS L v cs := let ⟨a, c, h1, h2, h3⟩ := h; ⟨a, c, h1, h2.mono hs, h3⟩
theorem SRulG.mono {X L : List Blk} (hs : SubB X L) : ∀ {rs : List SRul} {cz : List Value}, SRulG X rs cz → SRulG L rs cz
 | [], _, h => h
 | _ :: _, _, ⟨v, cz', h1, h2, h3⟩ => ⟨v, cz', h1, h2.mono hs, SRulG.mono hs h3⟩
theorem SPolS.mono {X L : List Blk} {s : SPol} {vr vp vg vq : Value} (h : SPolS X s vr vp vg vq) (hs : SubB X L) : SPolS L s vr vp vg vq := by
 obtain ⟨⟨a, c, cz, h1, h2, h3⟩, ⟨a2, c2, h4, h5⟩, ⟨a3, c3, h6, h7⟩, ⟨a4, c4, h8, h9⟩, l1, l2, l3, l4⟩ := h
 exact ⟨⟨a, c, cz, h1, h2.mono hs, h3.mono hs⟩, ⟨a2, c2, h4, h5.mono hs⟩, ⟨a3, c3, h6, h7.mono hs⟩, ⟨a4, c4, h8, h9.mono hs⟩, l1, l2, l3, l4⟩
theorem smpol_m {S w0 L X} (s : SPol) (h : s.ok) (vr vp vg vq : Value) (hS : SPolS X s vr vp vg vq) (hX : SubB X L) :
  Fn Tryz.prog 12 #[.agg #[.int .u8 s.nm, .int .u8 s.df, .int .u8 s.en, vr, .int .u16 (s.hd : Nat), vp, vg, vq]] S w0 L fun v L' => ∃ (P : Pol) (r1 p1 q1 : Option Addr) (r3 p3 q3 : Nat) (E : List Blk), v = .agg #[.string (mB8 P.nm), .int .u32 P.df, .slice r1 P.rules.length r3, .int .u16 (P.hd : Nat), .slice p1 P.paths.length p3, .slice q1 P.ports.length q3] ∧ PolOk P ∧ PolRn P ∧ PolS E P.g (.slice r1 P.rules.length r3) (.slice p1 P.paths.length p3) (.slice q1 P.ports.length q3) ∧ (P.hd = s.hd &&& 51199 ∧ P.rules.length ≤ 12 ∧ P.paths.length ≤ s.paths.length ∧ P.ports.length ≤ s.ports.length) ∧ E ++ L = L' := by
 refine (smpol_c (S:=S) (w0:=w0) s h vr vp vg vq (hS.mono hX)).mono ?_
 rintro v L' ⟨d, P, rfl, hd, hok, hrn, hi, rfl⟩
 have hS := hd.polS (pol_cl hok)
 obtain ⟨r1, r3, p1, p3, q1, q3, e1, e2, e3⟩ := hd.sl
 rw [e1, e2, e3] at hS
 exact ⟨_, ⟨P, r1, p1, q1, r3, p3, q3, _, by rw [e1, e2, e3], hok, hrn, hS, hi, rfl⟩, fun _ H => H⟩
theorem wide_le (l : List UInt8) : (l.flatMap wideB).length ≤ 9 * l.length := by
 induction l with
 | nil => exact Nat.zero_le _
 | cons c r ih =>
  have h : (wideB c).length ≤ 9 := by
   unfold wideB
   split
   ·decide
   ·split
    ·decide
    ·simp
  rw [List.flatMap_cons, List.length_append, List.length_cons]
  omega
theorem wide_take {l : List UInt8} {p : Nat} (h : p < l.length) : whead ++ (l.take (p + 1)).flatMap wideB = (whead ++ (l.take p).flatMap wideB) ++ wideB l[p] := by
 rw [List.take_succ_eq_append_getElem h, List.flatMap_append, List.append_assoc]
 simp
theorem mB8_get {l : List UInt8} {p : Nat} (h : p < (mB8 l).size) (h2 : p < l.length) : (mB8 l)[p]'h = l[p] := rfl
structure GPolR (P : GPol) : Prop where
 nm : P.nm.length ≤ maxLen
 df : 0 ≤ P.df ∧ P.df < 4294967296
 rules : ∀ r ∈ P.rules, r.ok
 hd : P.hd < 65536
 paths : ∀ p ∈ P.paths, p.1.length ≤ maxLen ∧ p.2 < 65536
 ports : ∀ p ∈ P.ports, p.1 < 65536 ∧ p.2 < 65536
theorem GPolR.ok {P : GPol} (h : GPolR P) (hf : FewG P) : P.ok := by
 refine ⟨?_, h.df, h.rules, h.hd, ?_, h.ports⟩
 ·have := hf.nm; omega
 ·intro p hp
  have := hf.path p hp
  exact ⟨by omega, (h.paths p hp).2⟩
theorem enc128 : ∀ c : Fin 128, Utf8.encode ((c.val : Nat) : Int) = ⟨#[UInt8.ofNat c.val]⟩ := by decide +kernel
theorem r_convRune {P : Program} {s t : TypeId} {k k' : IntKind} (hs : P.underlying s = some (.int k')) (ht : P.underlying t = some .string) {c : UInt8} (hc : c.toNat < 128) : RConv P s t (.int k (c.toNat : Int)) (.string ⟨#[c]⟩) := .mk fun w => by
 have h := enc128 ⟨c.toNat, hc⟩
 dsimp only at h
 rw [UInt8.ofNat_toNat] at h
 simp only [convert, Sem.run_bind, run_underlying hs, run_underlying ht, Result.andThen_ok, Conv.intToString, Sem.run_pure, h]
structure QuO (E L0 : List Blk) (cs : Array Value) (k : Nat) (G : GPol) (r1 p1 q1 : Option Addr) (r3 p3 q3 : Nat) : Prop where
 at_ : (cs.toList.drop (k * 6)).take 6 = [.string (mB8 G.nm), .int .u32 G.df, .slice r1 G.rules.length r3, .int .u16 (G.hd : Nat), .slice p1 G.paths.length p3, .slice q1 G.ports.length q3]
 ok : G.ok
 len : G.rules.length ≤ 1000
 s : PolS (E ++ L0) G (.slice r1 G.rules.length r3) (.slice p1 G.paths.length p3) (.slice q1 G.ports.length q3)
set_option maxHeartbeats 2000000 in
theorem parseBack_c {S w0 L} (s : SPol) (hs : s.ok) (svr svp svg svq : Value) (hS : SPolS L s svr svp svg svq) (P : GPol) (hP : GPolR P) (vr vp vq : Value) (hPS : PolS L P vr vp vq) (g : Bool) :
  Fn Tryz.prog 6 #[.agg #[.int .u8 s.nm, .int .u8 s.df, .int .u8 s.en, svr, .int .u16 (s.hd : Nat), svp, svg, svq], .agg (polG P vr vp vq).toArray, .bool g] S w0 L fun v L' => v = .bool true ∧ L = L' := by
 obtain ⟨⟨ra, rc, cz, rfl, -, -⟩, ⟨pa, pc, rfl, -⟩, ⟨qa, qc, rfl, -⟩, -, -, -⟩ := id hPS
 obtain ⟨⟨sa, sc, sz, rfl, -, -⟩, ⟨ta, tc, rfl, -⟩, ⟨ua, uc, rfl, -⟩, ⟨xa, xc, rfl, -⟩, -, -, -, -⟩ := id hS
 have hfw := fun (x y : Blk) => few_c (S:=S) (w0:=w0) (L:=[x, y] ++ L) P _ _ _ (hPS.upA [x, y]) (fun p hp => (hP.paths p hp).1) hP.nm
 dsimp only [polG, List.cons_append, List.nil_append] at hfw ⊢
 refine Fn3 Tryz.func6 Tryz.ntmps6 rfl rfl ?_
 repeat' (first | (refine h3s (id:=5) ?_) | refine h0i ?_ | refine h0b ?_ | refine h0t ?_ | refine h0r ?_ | refine h0v ?_ | refine h0g rfl ?_ | refine h0f rfl ?_ | (refine gR 0 ?_ <;> (try refine h0c ?_; (refine h2n (t:=48) rfl rfl ?_; intro nb hnb; (try simp only [Value.cells]))) <;> (try refine h0c ?_; (refine h2n (t:=36) rfl rfl ?_; intro nb hnb; (try simp only [Value.cells]))) <;> (try refine p_a (h:=h0a ?_))) | (refine gR 1 ?_ <;> (try refine h0c ?_; (refine q_c 8 (c:=by apply awake10_c) (h:=?_); rintro _ _ ⟨rfl, rfl⟩; (try simp only [zzE, zzF]))) <;> (try refine p_e (by apply h5m; exact rfl; exact h1r) (h:=h0a ?_))) | (refine gR 3 (q_e (q_L sz_36) ?_) <;> (try refine h0c ?_; ((refine q_c 16 (c:=by apply hfw) (h:=?_); rintro _ _ ⟨b, rfl, hb, rfl⟩; (try simp only [zzE, zzF])); cases b)) <;> (try refine p_e (by apply h5m; exact rfl; (focus (first | exact h1r | exact h3o))) (h:=h0a ?_))) | (refine gR 4 (p_a (h:=h0a ?_))))
 ·(refine h0o Tryz.results6 (.tmp rfl .nil) ?_)
  exact ⟨_, ⟨rfl, rfl⟩, by intro w H; refine H.sub ?_; (try simp only [zzC, zzN]); repeat (first | exact List.Sublist.refl _ | refine List.Sublist.cons _ ?_)⟩
 refine ⟨?_⟩
 have hG := hP.ok (hb rfl)
 have hfew := hb rfl
 clear hfw hb hP
 rename_i n3 _
 obtain ⟨n4, rfl⟩ : ∃ x, x = nb := ⟨_, rfl⟩
 have hsp := fun (L' : List Blk) hX => smpol_m (S:=S) (w0:=w0) (L:=L') (X:=L) s hs _ _ _ _ hS hX
 repeat' (first | (refine h2h (id:=0) ?_) | refine h0i ?_ | refine h0b ?_ | (refine gR 5 ?_ <;> (try refine h0c ?_; (refine q_c 9 (c:=by apply new_q) (h:=?_); rintro _ _ ⟨pb, ct, rb, rfl, rfl⟩; (try simp only [zzE, zzF]))) <;> (try refine p_a (h:=h0a ?_))) | ((refine h1z (id:=6) (m:=6) (by kernel_rfl) rfl (q_u 0 (x:=by exact q_L sz_36) (h:=q_u 1 (x:=by exact q_L sz_48) (h:=q_u 5 (x:=by exact h0h rfl) (h:=?_))))) <;> (try refine q_r 2 ?_; (refine q_c 12 (c:=by apply hsp; (focus ((try simp only [zzC, zzN, List.append_assoc]); (repeat' (first | (with_reducible exact SubB.refl _) | (with_reducible apply SubB.up)))))) (h:=?_); rintro _ _ ⟨P2, r1, p1, q1, r3, p3, q3, E, rfl, hok2, hrn2, hS2, hi2, rfl⟩; (try simp only [zzE, zzF])); refine h1b c_17 ?_) <;> (try refine q_r 3 ?_; (refine h0m (t:=58) (m:=2) (e:=36) (fun vs => (match vs with | [(_, x0), (_, x1)] => x0.cells.toList ++ x1.cells.toList | _ => [])) rfl rfl (fun w => by kernel_rfl) ?_; intro nb hnb; (try simp only [Value.cells]); (try simp only [zzC, zzN])); refine h1b (by intro w H; repeat (first | exact H | (replace H := H.tail) | (replace H := H.dropA))) ?_) <;> (try refine q_t 4 (e:=(by intro w H; repeat (first | exact H | (replace H := H.tail) | (replace H := H.dropA)))) (x:=by apply h0e; exact rfl; exact (fun _ => BigFrame.builtin_len ..); apply h0d Tryz.underlying58; exact h3m) (h:=h1a (by kernel_rfl) ?_))))
 refine ⟨?_⟩
 obtain ⟨nbS, rfl⟩ : ∃ x, x = nb := ⟨_, rfl⟩
 obtain ⟨cs2, hcs⟩ : ∃ c : Array Value, c = #[.string (mB8 P.nm), .int .u32 P.df, .slice ra P.rules.length rc, .int .u16 (P.hd : Nat), .slice pa P.paths.length pc, .slice qa P.ports.length qc, .string (mB8 P2.nm), .int .u32 P2.df, .slice r1 P2.rules.length r3, .int .u16 (P2.hd : Nat), .slice p1 P2.paths.length p3, .slice q1 P2.ports.length q3] := ⟨_, rfl⟩
 obtain ⟨L0, hL0⟩ : ∃ M : List Blk, M = ⟨true, n4, .cells #[.string (mB8 P.nm), .int .u32 P.df, .slice ra P.rules.length rc, .int .u16 (P.hd : Nat), .slice pa P.paths.length pc, .slice qa P.ports.length qc] 36 (0, 0)⟩ :: smB n3 s.nm s.df s.en (.slice sa s.rules.length sc) s.hd (.slice ta s.paths.length tc) (.slice ua s.rights.length uc) (.slice xa s.ports.length xc) :: L := ⟨_, rfl⟩
 have hLL : L.Sublist L0 := hL0 ▸ (List.sublist_cons_self _ _).trans (List.sublist_cons_self _ _)
 have hPL : PolS L0 P (.slice ra P.rules.length rc) (.slice pa P.paths.length pc) (.slice qa P.ports.length qc) := hPS.mono ⟨fun _ hb => hLL.subset hb⟩
 have hz2 : cs2.size = 12 := by rw [hcs]; rfl
 have hel : ∀ k, k < 2 → ∃ G r1 p1 q1 r3 p3 q3, QuO E L0 cs2 k G r1 p1 q1 r3 p3 q3 := by
  intro k hk
  obtain rfl | rfl : k = 0 ∨ k = 1 := by omega
  ·refine ⟨P, ra, pa, qa, rc, pc, qc, by rw [hcs]; rfl, hG, by have := hfew.l1; omega, hPL.upA E⟩
  ·exact ⟨P2.g, r1, p1, q1, r3, p3, q3, by rw [hcs]; show _ = ([.string (mB8 P2.nm), .int .u32 P2.df, .slice r1 (P2.rules.map RulP.g).length r3, .int .u16 (P2.hd : Nat), .slice p1 P2.paths.length p3, .slice q1 P2.ports.length q3] : List Value); rw [List.length_map]; rfl, pol_gok hok2 hrn2, (pol_fewN hok2).l1, by
    have e : P2.g.rules.length = P2.rules.length := List.length_map ..
    rw [e]; exact hS2.left⟩
 refine h0j ?_
 refine h2i (γ:=Nat × Nat × List Blk) (fun g => g.1 ≤ 2 ∧ g.2.1 ≤ 2000 * g.1 ∧ PrE pb ct rb g.2.1 L0 g.2.2) (fun g => 2 - g.1) (fun g => [(27, .int .i64 (g.1 : Nat))]) [(2, _), (7, _), (25, _), (26, _)]
  (fun g => ⟨true, nbS, .cells cs2 36 (0, 0)⟩ :: (E ++ g.2.2)) (0, 0, prB pb ct rb :: (tbS ct 0 0 0 ++ (Rg.wst rb none ++ L0))) (.cons rfl (.cons rfl (.cons rfl (.cons rfl .nil)))) ⟨Nat.zero_le _, Nat.zero_le _, ⟨0, 0, none, rfl⟩⟩ (by (focus (repeat (first | exact Sub.nil | refine Sub.cons rfl ?_)))) (by intro w H; rw [hcs, hL0]; exact H) ?_
 clear hcs hL0 hPS hPL hS hG hfew hsp hok2 hrn2 hi2 hS2
 rintro ⟨k, n, M⟩ ⟨hk, hn, hM⟩
 dsimp only at hk hn hM ⊢
 by_cases hlt : k < 2
 case neg =>
  repeat' (first | refine h0i ?_ | refine h0b ?_ | refine h1p ?_ | refine h1f ?_ | refine h1o ?_ | refine h2c ?_ | refine h0v ?_ | refine h0f rfl ?_ | (refine gR 7 (p_e (q_b (r:=by exact h0y q_o)) (h:=h0a ?_))) | (refine gR 27 (p_a (h:=h0a ?_))))
  (refine h0o Tryz.results6 (.tmp rfl .nil) ?_)
  exact ⟨_, ⟨rfl, rfl⟩, fun w H => H.sub (((hLL.trans hM.sub).trans (List.sublist_append_right _ _)).trans (List.sublist_cons_self _ _))⟩
 obtain ⟨G, y1, y2, y3, z1, z2, z3, hat, hGok, hGl, hGS⟩ := hel k hlt
 have hcl := fun (n : Nat) (M L B : List Blk) => calls_t (S:=S) (w0:=w0) (pb:=pb) (ct:=ct) (rb:=rb) (n:=n) (L0:=L0) (M:=M) (L:=L) (B:=B)
 have hck := fun (n : Nat) (M L B : List Blk) => check_m (S:=S) (w0:=w0) (pb:=pb) (ct:=ct) (rb:=rb) (n:=n) (L0:=L0) (M:=M) (L:=L) (B:=B) (E:=E) G hGok hGl hGS
 by_cases hz : chkG G = 0
 case neg =>
  have hzi : ¬ ((chkG G : Nat) : Int) = 0 := by omega
  clear hel
  generalize chkG G = ck at *
  repeat' (first | refine h0i ?_ | refine h0b ?_ | refine h0s ?_ | refine h1f ?_ | refine h1o ?_ | refine h0j ?_ | refine h0r ?_ | refine h2c ?_ | refine h0g rfl ?_ | (refine gR 7 (p_e (q_b (r:=by exact h0u q_o)) (h:=h0a ?_))) | (refine gR 8 (p_e (by apply h0n; exact rfl; exact rfl; (focus (apply h2j Tryz.underlying58 sz_36; omega; omega; exact c_1))) (h:=q_e (by apply h1u (t:=36); exact rfl; exact fd0; kernel_rfl; kernel_rfl; exact sz_36; (focus (omega)); (with_reducible assumption)) ?_)) <;> (try refine h0c ?_; (refine h0k (t:=36) rfl Tryz.zeroValue36 ?_; intro nb hnb; (try simp only [Value.cells]))) <;> (try refine h0c ?_; (refine q_W ?_)) <;> (try refine h0a ?_)) | ((refine h2s (pre:=[_, _]) (id:=9) (m:=5) rfl (by kernel_rfl) rfl (q_t 0 (e:=h3e) (x:=by exact q_L sz_36) (h:=q_t 1 (e:=h3e) (x:=by exact h0h rfl) (h:=?_)))) <;> (try refine q_r 2 ?_; (refine q_c 11 (c:=by apply hcl; (with_reducible assumption); (focus ((try simp only [zzC, zzN]); (repeat' (first | (with_reducible exact Tl.one _ _) | (with_reducible apply Tl.cons)))))) (h:=?_); rintro _ _ ⟨rfl, rfl⟩; (try simp only [zzE, zzF])); refine h1b h3e ?_) <;> (try refine q_r 3 ?_; ((refine q_c 17 (c:=by apply hck; (with_reducible assumption); (focus (omega)); (focus ((try simp only [zzC, zzN]); (repeat' (first | (with_reducible exact Tl.nil _) | (with_reducible apply Tl.cons)))))) (h:=?_); rintro _ _ ⟨n4', M4, rfl, hn4, hM4, rfl⟩; (try simp only [zzE, zzF])); (try simp only [zzC, zzN])); refine h1b h3e ?_) <;> (try refine q_t 4 (e:=h3e) (x:=by exact q_b (r:=by exact h2p q_o)) (h:=h1a (by kernel_rfl) ?_))) | (refine gR 26 ?_ <;> (try refine q_e (q_b (r:=by apply h1n; exact c_5; (focus (refine IntWalk.i64_in _ ?_; omega)))) ?_) <;> (try refine p_m (h:=h0a ?_))))
  exact h0w (k + 1, n4', M4) ⟨⟨by show k + 1 ≤ 2; omega, by dsimp only; omega, hM4⟩, by show 2 - (k + 1) < 2 - k; omega⟩ (by (focus (repeat (first | exact Sub.nil | refine Sub.cons rfl ?_)))) c_23
 rw [hz] at hck
 obtain ⟨hok, hrn⟩ := gpol_ok hz hGok
 obtain ⟨P', hP'⟩ : ∃ P' : Pol, P' = G.p := ⟨_, rfl⟩
 have hPg : P'.g = G := hP' ▸ gpol_pg hz
 rw [← hP'] at hok hrn
 clear hP'
 subst hPg
 have z0 : ((0 : Nat) : Int) = 0 := rfl
 rw [z0] at hck
 have elr : P'.g.rules.length = P'.rules.length := List.length_map ..
 rw [elr] at hck hGS hat
 have hb := (polL_ok P' hok hrn).2
 have hwz : (mB8 (wideT (polT P'))).size ≤ 500000 := by
  rw [h2d]
  unfold wideT
  rw [List.length_append]
  have := wide_le (polT P')
  have : whead.length = 9 := rfl
  omega
 have hP1 : polF (lB (mB8 (polT P'))) = (P', (0, 0, 0)) := by rw [h3y]; exact pol_back P' hok hrn
 have hP2 : polF (lB (mB8 (wideT (polT P')))) = (P', (0, 0, 0)) := by rw [h3y]; exact pol_wide P' hok hrn
 have hby := polT_byte P' hok hrn
 have hxt := fun (n : Nat) (M L B : List Blk) => text_m (S:=S) (w0:=w0) (pb:=pb) (ct:=ct) (rb:=rb) (n:=n) (L0:=L0) (M:=M) (L:=L) (B:=B) (E:=E) P' hok hrn hGS
 have hpr := fun (t : ByteArray) (ht : t.size ≤ 500000) (hp : polF (lB t) = (P', (0, 0, 0))) (n : Nat) (M L B : List Blk) => parse_t (S:=S) (w0:=w0) (pb:=pb) (ct:=ct) (rb:=rb) (n:=n) (L0:=L0) (M:=M) (L:=L) (B:=B) t (by omega) P' 0 0 0 hp (pol_cl hok)
 have hsm := fun (L X1 X2 : List Blk) (vr vp vq ur up uq : Value) => same_m (S:=S) (w0:=w0) (L:=L) (X1:=X1) (X2:=X2) P'.g (vr:=vr) (vp:=vp) (vq:=vq) (ur:=ur) (up:=up) (uq:=uq)
 have hrf := fun (L X : List Blk) (vr vp vq : Value) => ref_m (S:=S) (w0:=w0) (L:=L) (X:=X) P'.g hGok (pol_fewN hok) (vr:=vr) (vp:=vp) (vq:=vq)
 have hrs := fun (L X1 X2 : List Blk) (vr vp vq ur up uq : Value) => rsame_m (S:=S) (w0:=w0) (L:=L) (X1:=X1) (X2:=X2) P'.g (vr:=vr) (vp:=vp) (vq:=vq) (ur:=ur) (up:=up) (uq:=uq)
 rw [elr] at hrf
 simp only [z0] at hpr
 have hlr := hok.l1
 have hq0 : RBin Tryz.prog .neq 25 (.agg #[.int .i64 0, .int .i64 0, .int .i64 0]) (.agg #[.int .i64 0, .int .i64 0, .int .i64 0]) (.bool false) := by
  have := wr_ne 0 0 0
  rw [decide_eq_true (rfl : ((0, 0, 0) : Wr) = (0, 0, 0))] at this
  exact this
 simp only [show P'.g.nm = P'.nm from rfl, show P'.g.df = P'.df from rfl, show P'.g.hd = P'.hd from rfl, show P'.g.paths = P'.paths from rfl, show P'.g.ports = P'.ports from rfl] at hck hat hGS hsm hrf hrs hxt
 clear z0 hok hrn hz hGok hGl elr hel
 generalize polT P' = bs at *
 generalize mB8 P'.nm = nmB at *
 generalize P'.g = G at *
 generalize P'.rules.length = lr at *
 generalize P'.paths.length = lp at *
 generalize P'.ports.length = lq at *
 generalize P'.df = df at *
 generalize P'.hd = hd at *
 repeat' (first | (refine G_markc (t:=40) ?_) | refine h0i ?_ | refine h0b ?_ | refine h0j ?_ | refine h0r ?_ | refine h0g rfl ?_ | refine h0f rfl ?_ | (refine gR 7 (p_e (q_b (r:=by exact h0u q_o)) (h:=h0a ?_))) | (refine gR 8 (p_e (by apply h0n; exact rfl; exact rfl; (focus (apply h2j Tryz.underlying58 sz_36; omega; omega; exact c_1))) (h:=q_e (by apply h1u (t:=36); exact rfl; exact fd0; kernel_rfl; kernel_rfl; exact sz_36; (focus (omega)); (with_reducible assumption)) ?_)) <;> (try refine h0c ?_; (refine h0k (t:=36) rfl Tryz.zeroValue36 ?_; intro nb hnb; (try simp only [Value.cells]))) <;> (try refine h0c ?_; (refine q_W ?_)) <;> (try refine h0a ?_)) | ((refine h2s (pre:=[_, _]) (id:=9) (m:=5) rfl (by kernel_rfl) rfl (q_t 0 (e:=h3e) (x:=by exact q_L sz_36) (h:=q_t 1 (e:=h3e) (x:=by exact h0h rfl) (h:=?_)))) <;> (try refine q_r 2 ?_; (refine q_c 11 (c:=by apply hcl; (with_reducible assumption); (focus ((try simp only [zzC, zzN]); (repeat' (first | (with_reducible exact Tl.one _ _) | (with_reducible apply Tl.cons)))))) (h:=?_); rintro _ _ ⟨rfl, rfl⟩; (try simp only [zzE, zzF])); refine h1b h3e ?_) <;> (try refine q_r 3 ?_; ((refine q_c 17 (c:=by apply hck; (with_reducible assumption); (focus (omega)); (focus ((try simp only [zzC, zzN]); (repeat' (first | (with_reducible exact Tl.nil _) | (with_reducible apply Tl.cons)))))) (h:=?_); rintro _ _ ⟨n4', M4, rfl, hn4, hM4, rfl⟩; (try simp only [zzE, zzF])); (try simp only [zzC, zzN])); refine h1b h3e ?_) <;> (try refine q_t 4 (e:=h3e) (x:=by exact q_b (r:=by refine h1w ?_; first | rfl | (with_reducible assumption) | (decide; done) | omega)) (h:=?_)) <;> (try refine h1a (by kernel_rfl) ?_)) | ((refine h2s (pre:=[_, _]) (id:=10) (m:=5) rfl (by kernel_rfl) rfl (q_t 0 (e:=h3e) (x:=by exact q_L sz_36) (h:=q_t 1 (e:=h3e) (x:=by exact h0h rfl) (h:=?_)))) <;> (try refine q_r 2 ?_; (refine q_c 11 (c:=by apply hcl; (with_reducible assumption); (focus ((try simp only [zzC, zzN]); (repeat' (first | (with_reducible exact Tl.one _ _) | (with_reducible apply Tl.cons)))))) (h:=?_); rintro _ _ ⟨rfl, rfl⟩; (try simp only [zzE, zzF])); refine h1b h3e ?_) <;> (try refine q_r 3 ?_; ((refine q_c 13 (c:=by apply hxt; (with_reducible assumption); (focus (omega)); (focus ((try simp only [zzC, zzN]); (repeat' (first | (with_reducible exact Tl.nil _) | (with_reducible apply Tl.cons)))))) (h:=?_); rintro _ _ ⟨M5, rfl, hM5, rfl⟩; (try simp only [zzE, zzF])); (try simp only [zzC, zzN])); refine h1b h3e ?_) <;> (try refine q_t 4 (e:=h3e) (x:=by exact h3f rfl) (h:=h1a (by kernel_rfl) ?_))) | (refine gR 11 (p_m (h:=h0a ?_))))
 refine ⟨?_⟩
 obtain ⟨n9, rfl⟩ : ∃ x, x = nb := ⟨_, rfl⟩
 refine h2q (γ:=ByteArray) (fun t => t.size ≤ 500000 ∧ polF (lB t) = (P', (0, 0, 0))) (fun t => [(10, .string t)]) [(2, _), (7, _), (9, _), (25, _), (26, _), (27, _)]
  (fun _ => poB n9 nmB df (.slice y1 lr z1) hd (.slice y2 lp z2) (.slice y3 lq z3) :: ⟨true, nbS, .cells cs2 36 (0, 0)⟩ :: (E ++ M5)) (.cons rfl (.cons rfl (.cons rfl (.cons rfl (.cons rfl (.cons rfl .nil)))))) ?_ ?_
 ·clear hpr hsm hrf hrs hxt hck hcl hq0
  cases g with
  | false =>
   repeat' (first | refine h0s ?_ | refine h0r ?_ | refine h0f rfl ?_)
   exact h0w (mB8 bs) ⟨by rw [h2d]; omega, hP1⟩ (by (focus (repeat (first | exact Sub.nil | refine Sub.cons rfl ?_)))) c_28
  | true =>
   repeat' (first | (refine h2h (id:=2) ?_) | refine h0i ?_ | refine h0b ?_ | refine h0g rfl ?_ | (refine gR 12 (p_a (h:=h0a ?_))) | (refine gR 13 (q_m ?_) <;> (try refine h0c ?_; (refine K1_rangeStr rfl rfl Tryz.underlying9 ?_; intro nb hnb)) <;> (try refine h0a ?_)))
   refine ⟨?_⟩
   obtain ⟨nbI, rfl⟩ : ∃ x, x = nb := ⟨_, rfl⟩
   have hbz : (mB8 bs).size = bs.length := h2d bs
   refine h0j ?_
   refine h2i (γ:=Nat) (fun p => p ≤ bs.length) (fun p => bs.length - p) (fun p => [(11, .string (mB8 (whead ++ (bs.take p).flatMap wideB)))]) [(2, _), (7, _), (9, _), (25, _), (26, _), (27, _), (42, _)]
    (fun p => iterB nbI (mB8 bs) p :: poB n9 nmB df (.slice y1 lr z1) hd (.slice y2 lp z2) (.slice y3 lq z3) :: ⟨true, nbS, .cells cs2 36 (0, 0)⟩ :: (E ++ M5)) 0 (.cons rfl (.cons rfl (.cons rfl (.cons rfl (.cons rfl (.cons rfl (.cons rfl .nil))))))) (Nat.zero_le _) (by (focus (repeat (first | exact Sub.nil | refine Sub.cons rfl ?_)))) (fun _ H => H) ?_
   intro p hp
   (try dsimp only)
   by_cases hlp : p < bs.length
   case neg =>
    obtain rfl : p = bs.length := by omega
    rw [List.take_length]
    repeat' (first | refine h0i ?_ | refine h0b ?_ | refine h0s ?_ | refine h1p ?_ | refine h1f ?_ | refine h1o ?_ | refine h2c ?_ | refine h0f rfl ?_ | (refine gR 14 ?_ <;> (try refine h0c ?_; (apply K1_nextOver; exact rfl; exact rfl; exact fd0; omega)) <;> (try refine p_x (h:=h0a ?_))) | (refine gR 22 (p_m (h:=p_a (h:=h0a ?_)))))
    exact h0w (mB8 (wideT bs)) ⟨hwz, hP2⟩ (by (focus (repeat (first | exact Sub.nil | refine Sub.cons rfl ?_)))) c_23
   have hlt8 : p < (mB8 bs).size := by omega
   have hc8 := hby _ (List.getElem_mem hlp)
   have hd := decode_ascii (mB8 bs) p hlt8 (by rw [mB8_get hlt8 hlp]; exact hc8)
   rw [mB8_get hlt8 hlp] at hd
   have hwt := wide_take hlp
   have hsz : (mB8 (whead ++ (bs.take p).flatMap wideB)).size ≤ 495018 := by
    rw [h2d, List.length_append]
    have h1 := wide_le (bs.take p)
    have h2 : (bs.take p).length ≤ bs.length := by rw [List.length_take]; omega
    have : whead.length = 9 := rfl
    omega
   generalize bs[p] = c at *
   have hd1 : ((Utf8.decode (mB8 bs) p).1 : Int) = c.toNat := by rw [hd]
   have hd2 : (Utf8.decode (mB8 bs) p).2 = 1 := by rw [hd]
   clear hd
   repeat' (first | (refine h3s (id:=15) ?_) | refine h0i ?_ | refine h0b ?_ | refine h0j ?_ | refine h0r ?_ | refine h0g rfl ?_ | (refine gR 14 ?_ <;> (try refine h0c ?_; (apply K1_nextStr; exact rfl; exact rfl; exact fd0; omega; (try simp only [List.set_cons_succ]); (try simp only [List.set_cons_zero]))) <;> (try refine p_x (h:=h0a ?_))))
   refine ⟨?_⟩
   rw [hd1, hd2]
   clear hd1 hd2
   have d1 : (⟨#[32, 9, 32]⟩ : ByteArray).size = 3 := rfl
   have d2 : (⟨#[32, 32, 35, 32, 120, 32, 121, 10, 10]⟩ : ByteArray).size = 9 := rfl
   have d3 : (⟨#[c]⟩ : ByteArray).size = 1 := rfl
   by_cases c32 : c = 32
   ·have hw : mB8 (whead ++ (bs.take p).flatMap wideB) ++ ⟨#[32, 9, 32]⟩ = mB8 (whead ++ (bs.take (p + 1)).flatMap wideB) := by
     rw [hwt, c32, show (⟨#[32, 9, 32]⟩ : ByteArray) = mB8 [32, 9, 32] from rfl, h6m]; rfl
    have c1 : ((c.toNat : Nat) : Int) = 32 := by rw [c32]; rfl
    generalize mB8 (whead ++ (bs.take p).flatMap wideB) = W at *
    repeat' (first | refine h0i ?_ | refine h0b ?_ | refine h0s ?_ | refine h0x ?_ | refine h0j ?_ | refine h0g rfl ?_ | (refine gR 15 (p_x (h:=p_a (h:=h0a ?_)))) | (refine gR 16 (p_m (h:=h0a ?_))) | (refine gR 18 ?_ <;> (try refine q_e (by exact q_b (r:=by refine h1e ?_; first | rfl | (with_reducible assumption) | (decide; done) | omega)) ?_) <;> (try refine p_a (h:=h0a ?_))) | (refine gR 19 (p_m (h:=p_e (q_b (r:=by apply h1t; exact rfl; (focus (omega)))) (h:=p_a (h:=h0a ?_))))))
    rw [hw]
    exact h0w (p + 1) ⟨by show p + 1 ≤ bs.length; omega, by show bs.length - (p + 1) < bs.length - p; omega⟩ (by (focus (repeat (first | exact Sub.nil | refine Sub.cons rfl ?_)))) c_28
   have n32 : ¬ ((c.toNat : Nat) : Int) = 32 := fun h => c32 (UInt8.toNat_inj.1 (by show c.toNat = 32; omega))
   by_cases c10 : c = 10
   ·have hw : mB8 (whead ++ (bs.take p).flatMap wideB) ++ ⟨#[32, 32, 35, 32, 120, 32, 121, 10, 10]⟩ = mB8 (whead ++ (bs.take (p + 1)).flatMap wideB) := by
     rw [hwt, c10, show (⟨#[32, 32, 35, 32, 120, 32, 121, 10, 10]⟩ : ByteArray) = mB8 [32, 32, 35, 32, 120, 32, 121, 10, 10] from rfl, h6m]; rfl
    have c1 : ((c.toNat : Nat) : Int) = 10 := by rw [c10]; rfl
    generalize mB8 (whead ++ (bs.take p).flatMap wideB) = W at *
    repeat' (first | refine h0i ?_ | refine h0b ?_ | refine h0s ?_ | refine h0x ?_ | refine h0j ?_ | refine h0g rfl ?_ | refine h0f rfl ?_ | (refine gR 15 (p_x (h:=p_a (h:=h0a ?_)))) | (refine gR 16 (p_m (h:=h0a ?_))) | (refine gR 18 (p_e (q_b (r:=by exact h1c q_o)) (h:=p_a (h:=h0a ?_)))) | (refine gR 20 ?_ <;> (try refine q_e (by exact q_b (r:=by refine h1e ?_; first | rfl | (with_reducible assumption) | (decide; done) | omega)) ?_) <;> (try refine p_a (h:=h0a ?_))) | (refine gR 21 (p_m (h:=p_e (q_b (r:=by apply h1t; exact rfl; (focus (omega)))) (h:=p_a (h:=h0a ?_))))))
    rw [hw]
    exact h0w (p + 1) ⟨by show p + 1 ≤ bs.length; omega, by show bs.length - (p + 1) < bs.length - p; omega⟩ (by (focus (repeat (first | exact Sub.nil | refine Sub.cons rfl ?_)))) c_28
   ·have n10 : ¬ ((c.toNat : Nat) : Int) = 10 := fun h => c10 (UInt8.toNat_inj.1 (by show c.toNat = 10; omega))
    have hw : mB8 (whead ++ (bs.take p).flatMap wideB) ++ ⟨#[c]⟩ = mB8 (whead ++ (bs.take (p + 1)).flatMap wideB) := by
     rw [hwt, show wideB c = [c] by unfold wideB; rw [if_neg c32, if_neg c10], show (⟨#[c]⟩ : ByteArray) = mB8 [c] from rfl, h6m]
    generalize mB8 (whead ++ (bs.take p).flatMap wideB) = W at *
    repeat' (first | refine h0i ?_ | refine h0b ?_ | refine h0s ?_ | refine h0x ?_ | refine h0j ?_ | refine h0f rfl ?_ | (refine gR 15 (p_x (h:=p_a (h:=h0a ?_)))) | (refine gR 16 (p_m (h:=h0a ?_))) | (refine gR 18 (p_e (q_b (r:=by exact h1c q_o)) (h:=p_a (h:=h0a ?_)))) | (refine gR 20 (p_e (q_b (r:=by exact h1c q_o)) (h:=p_a (h:=h0a ?_)))) | (refine gR 17 (p_m (h:=p_m (h:=p_e (by apply h3t; exact rfl; (focus (apply r_convRune Tryz.underlying21 Tryz.underlying9; assumption))) (h:=p_e (q_b (r:=by apply h1t; exact rfl; (focus (omega)))) (h:=p_a (h:=h0a ?_))))))))
    rw [hw]
    exact h0w (p + 1) ⟨by show p + 1 ≤ bs.length; omega, by show bs.length - (p + 1) < bs.length - p; omega⟩ (by (focus (repeat (first | exact Sub.nil | refine Sub.cons rfl ?_)))) c_28
 clear hby hwz hP1 hP2 hxt hck hM hM4 hat
 rintro tx ⟨htx, hpt⟩
 have hp9 := hpr tx htx hpt
 clear hpr hpt
 repeat' (first | (refine h3s (id:=24) ?_) | refine h0i ?_ | refine h0b ?_ | (refine gR 23 (p_m (h:=q_m ?_)) <;> (try refine h0c ?_; ((refine q_c 10 (c:=by apply hp9; (with_reducible assumption); (focus (omega)); (focus ((try simp only [zzC, zzN]); (repeat' (first | (with_reducible exact Tl.one _ _) | (with_reducible apply Tl.cons)))))) (h:=?_); rintro _ _ ⟨r5, p5, q5, r6, p6, q6, E3, n6, M6, rfl, hS3, hn6, hM6, rfl⟩; (try simp only [zzE, zzF])); (try simp only [zzC, zzN, List.append_assoc]))) <;> (try refine p_m (h:=p_x (h:=q_x ?_))) <;> (try refine h0c ?_; (refine h0k (t:=36) rfl Tryz.zeroValue36 ?_; intro nb hnb; (try simp only [Value.cells]))) <;> (try refine h0c ?_; (refine h0k (t:=25) rfl Tryz.zeroValue25 ?_; intro nb hnb; (try simp only [Value.cells]))) <;> (try refine h0c ?_; (refine q_W ?_)) <;> (try refine h0c ?_; (refine q_W ?_)) <;> (try refine h0a ?_)))
 refine ⟨?_⟩
 have hsb : SubB L0 M6 := hM6.subB
 clear hM5 hcl hp9
 repeat' (first | refine h0b ?_ | refine h0s ?_ | refine h0x ?_ | refine h0r ?_ | refine h0f rfl ?_ | ((refine h1z (id:=24) (m:=17) (by kernel_rfl) rfl (q_u 0 (x:=by exact q_L h3z) (h:=?_))) <;> (try refine q_u 1 (x:=by exact h0q (t:=25) (fun vs => (match vs with | [] => [Value.int .i64 0, Value.int .i64 0, Value.int .i64 0] | _ => [])) rfl (fun w => by kernel_rfl)) (h:=?_); (try simp only [Value.cells]); (try simp only [zzC, zzN])) <;> (try refine q_u 2 (x:=by apply h1l (op:=.neq) (t:=25); exact rfl; exact rfl; kernel_rfl; (with_reducible assumption)) (h:=q_u 3 (x:=by exact h0h rfl) (h:=q_T 4 (e:=(fun _ H => H)) (x:=by exact q_L sz_36) (h:=q_T 5 (e:=(fun _ H => H)) (x:=by exact q_L sz_36) (h:=?_))))) <;> (try refine q_r 6 ?_; (refine h1s rfl rfl rfl ?_; (refine q_c 14 (c:=by apply hsm; (with_reducible assumption); (with_reducible assumption); (focus ((try simp only [zzC, zzN, List.append_assoc]); (repeat' (first | (with_reducible exact SubB.left _ _) | (with_reducible apply SubB.up) | (with_reducible apply SubB.upA))))); (focus ((try simp only [zzC, zzN, List.append_assoc]); (repeat' (first | (with_reducible assumption) | (with_reducible apply SubB.app) | (with_reducible apply SubB.up) | (with_reducible apply SubB.upA)))))) (h:=?_); rintro _ _ ⟨rfl, rfl⟩; (try simp only [zzE, zzF]))); refine h1b (fun _ H => H) ?_) <;> (try refine q_T 7 (e:=(fun _ H => H)) (x:=by apply h5m; exact rfl; exact h1r) (h:=q_u 8 (x:=by exact h4o rfl rfl) (h:=q_u 9 (x:=by exact h0h rfl) (h:=q_T 10 (e:=(fun _ H => H)) (x:=by exact q_L sz_36) (h:=q_T 12 (e:=(fun _ H => H)) (x:=by exact q_L sz_36) (h:=?_)))))) <;> (try refine q_r 11 ?_; (refine h1s rfl rfl rfl ?_; (refine q_c 19 (c:=by apply hrf; (with_reducible assumption); (focus ((try simp only [zzC, zzN, List.append_assoc]); (repeat' (first | (with_reducible exact SubB.left _ _) | (with_reducible apply SubB.up) | (with_reducible apply SubB.upA)))))) (h:=?_); rintro _ _ ⟨r7, p7, q7, r8, p8, q8, D, rfl, hD, rfl⟩; (try simp only [zzE, zzF]))); refine h1b c_17 ?_) <;> (try refine q_r 13 ?_; (refine h1s rfl rfl rfl ?_; (refine q_c 19 (c:=by apply hrf; (with_reducible assumption); (focus ((try simp only [zzC, zzN, List.append_assoc]); (repeat' (first | (with_reducible assumption) | (with_reducible apply SubB.app) | (with_reducible apply SubB.up) | (with_reducible apply SubB.upA)))))) (h:=?_); rintro _ _ ⟨r7, p7, q7, r8, p8, q8, D, rfl, hD, rfl⟩; (try simp only [zzE, zzF]))); refine h1b c_17 ?_) <;> (try refine q_r 14 ?_; (refine h1s rfl rfl rfl ?_; (refine q_c 18 (c:=by apply hrs; (with_reducible assumption); (with_reducible assumption); (focus ((try simp only [zzC, zzN, List.append_assoc]); (repeat' (first | (with_reducible exact SubB.left _ _) | (with_reducible apply SubB.upA))))); (focus ((try simp only [zzC, zzN, List.append_assoc]); (repeat' (with_reducible exact SubB.left _ _))))) (h:=?_); rintro _ _ ⟨rfl, rfl⟩; (try simp only [zzE, zzF]))); refine h1b c_17 ?_) <;> (try refine q_T 15 (e:=c_17) (x:=by apply h5m; exact rfl; exact h1r) (h:=q_t 16 (e:=c_17) (x:=by exact h4o rfl rfl) (h:=h1a (by kernel_rfl) ?_)))) | (refine gR 26 ?_ <;> (try refine q_e (q_b (r:=by apply h1n; exact c_5; (focus (refine IntWalk.i64_in _ ?_; omega)))) ?_) <;> (try refine p_m (h:=h0a ?_))))
 exact h0w (k + 1, n6, M6) ⟨⟨by show k + 1 ≤ 2; omega, by dsimp only; omega, hM6⟩, by show 2 - (k + 1) < 2 - k; omega⟩ (by (focus (repeat (first | exact Sub.nil | refine Sub.cons rfl ?_)))) (fun w H => H.sub ((((((List.Sublist.append_left (List.sublist_append_right _ _) _).cons_cons _).cons _).cons _).cons _).trans ((List.sublist_append_right _ _).trans (List.sublist_append_right _ _))))
theorem wf_u8 {a : Int} (h : (Lit.int .u8 a).wf = true) : 0 ≤ a ∧ a < 256 := by
 simp [Lit.wf, IntKind.min, IntKind.max, IntKind.signed, IntKind.bits] at h; omega
theorem wf_u16 {a : Int} (h : (Lit.int .u16 a).wf = true) : 0 ≤ a ∧ a < 65536 := by
 simp [Lit.wf, IntKind.min, IntKind.max, IntKind.signed, IntKind.bits] at h; omega
theorem wf_u32 {a : Int} (h : (Lit.int .u32 a).wf = true) : 0 ≤ a ∧ a < 4294967296 := by
 simp [Lit.wf, IntKind.min, IntKind.max, IntKind.signed, IntKind.bits] at h; omega
theorem wf_u64 {a : Int} (h : (Lit.int .u64 a).wf = true) : 0 ≤ a ∧ a < 18446744073709551616 := by
 simp [Lit.wf, IntKind.min, IntKind.max, IntKind.signed, IntKind.bits] at h; omega
theorem wf_i64 {a : Int} (h : (Lit.int .i64 a).wf = true) : -9223372036854775808 ≤ a ∧ a < 9223372036854775808 := by
 simp [Lit.wf, IntKind.min, IntKind.max, IntKind.signed, IntKind.bits] at h; omega
theorem HP.read {w : World} {L : List Blk} (h : ∀ p ∈ L, p.wr = false ∧ w.heap[p.b]? = some p.o) : HP [] w w L :=
 ⟨rfl, rfl, rfl, Nat.le_refl _, fun _ _ _ => rfl, fun p hp => (h p hp).2, fun p hp hw => by simp [(h p hp).1] at hw,
  List.pairwise_of_forall_mem_list fun p hp q hq hw => by rcases hw with hw | hw <;> simp [(h p hp).1, (h q hq).1] at hw⟩
theorem mapM_some {α β : Type} {f : α → Option β} : ∀ {l : List α} {ys : List β}, l.mapM f = some ys → ∀ (i : Nat) (x : α), l[i]? = some x → ∃ y, f x = some y ∧ ys[i]? = some y
 | [], _, _, i, x, hx => by simp at hx
 | a :: l, ys, h, i, x, hx => by
  simp only [List.mapM_cons, Option.pure_def, Option.bind_eq_bind, Option.bind_eq_some_iff] at h
  obtain ⟨y, hy, ys', hys, e⟩ := h
  obtain rfl := Option.some.inj e
  cases i with
  | zero => simp at hx; subst hx; exact ⟨y, hy, by simp⟩
  | succ i => simp at hx; simpa using mapM_some hys i x hx
theorem mapM_len {α β : Type} {f : α → Option β} : ∀ {l : List α} {ys : List β}, l.mapM f = some ys → ys.length = l.length
 | [], ys, h => by simp at h; simp [h]
 | a :: l, ys, h => by
  simp only [List.mapM_cons, Option.pure_def, Option.bind_eq_bind, Option.bind_eq_some_iff] at h
  obtain ⟨y, hy, ys', hys, e⟩ := h
  obtain rfl := Option.some.inj e
  simp [mapM_len hys]
section
variable {H : Type} {enc : TypeId × Value → H} {P : Program} {w : World} {base : Nat} {spare : Nat → Bool} {held : Bool}
theorem h5i {t : TypeId} {fs : Array Field} {fuel : Nat} {cs : List Value} {x : DataW H × List MemPlace} (ht : P.underlying t = some (.struct fs))
  (h : DataW.trod enc P w base spare held fuel t cs = some x) :
  ∃ n, fuel = n + 1 ∧ cs.length = P.cellsOf t ∧ ∀ (i : Nat) (f : Field), fs.toList[i]? = some f → ∃ y, DataW.trod enc P w base spare held n f.type ((cs.drop f.offset).take (P.cellsOf f.type)) = some y := by
 cases fuel with
 | zero => simp [DataW.trod] at h
 | succ n =>
  refine ⟨n, rfl, ?_⟩
  unfold DataW.trod at h
  simp only [ht] at h
  split at h
  ·rename_i hlen
   simp only [Option.map_eq_some_iff] at h
   obtain ⟨xs, hxs, _⟩ := h
   exact ⟨hlen, fun i f hf => let ⟨y, hy, _⟩ := mapM_some hxs i f hf; ⟨y, hy⟩⟩
  ·simp at h
theorem trod_slice {t e : TypeId} {fuel : Nat} {a : Option Addr} {len cap : Nat} {x : DataW H × List MemPlace} (ht : P.underlying t = some (.slice e))
  (h : DataW.trod enc P w base spare held fuel t [.slice a len cap] = some x) :
  (a = none ∧ len = 0 ∧ cap = 0) ∨
  ∃ p n, a = some p ∧ fuel = n + 1 ∧ len ≤ cap ∧ cap ≤ maxLen ∧ ∀ i, i < len → ∃ cs y, w.cells? base (p.add (i * P.cellsOf e)) (P.cellsOf e) = some cs ∧ DataW.trod enc P w base spare held n e cs = some y := by
 cases fuel with
 | zero => simp [DataW.trod] at h
 | succ n =>
  cases a with
  | none =>
   left
   unfold DataW.trod at h
   simp only [ht] at h
   cases len <;> cases cap <;> simp_all
  | some p =>
   right
   unfold DataW.trod at h
   simp only [ht] at h
   split at h
   ·rename_i hc
    simp only [Option.bind_eq_some_iff] at h
    obtain ⟨elems, hel, _⟩ := h
    refine ⟨p, n, rfl, rfl, hc.2.1, hc.2.2, fun i hi => ?_⟩
    obtain ⟨y, hy, _⟩ := mapM_some hel i i (by simp [hi])
    simp only [Option.bind_eq_some_iff] at hy
    obtain ⟨cs, hcs, hy⟩ := hy
    exact ⟨cs, y, hcs, hy⟩
   ·simp at h
theorem cells?_get {a : Addr} {n : Nat} {cs : List Value} (h : w.cells? base a n = some cs) : base ≤ a.block ∧ cs.length = n ∧ ∀ j, j < n → w.cell? (a.add j) = cs[j]? := by
 unfold World.cells? at h
 split at h
 ·rename_i hb
  refine ⟨hb, by simpa using mapM_len h, fun j hj => ?_⟩
  obtain ⟨y, hy, hy'⟩ := mapM_some h j j (by simp [hj])
  rw [hy, hy']
 ·simp at h
theorem h1q {t : TypeId} {k : IntKind} {fuel : Nat} {c : Value} {y : DataW H × List MemPlace} (ht : P.underlying t = some (.int k)) (h : DataW.trod enc P w base spare held fuel t [c] = some y) :
  ∃ n, c = .int k n ∧ (Lit.int k n).wf = true := by
 cases fuel with
 | zero => simp [DataW.trod] at h
 | succ f =>
  unfold DataW.trod at h
  rw [ht] at h
  cases c <;> simp_all
theorem trod_string_cell {t : TypeId} {fuel : Nat} {c : Value} {y : DataW H × List MemPlace} (ht : P.underlying t = some .string) (h : DataW.trod enc P w base spare held fuel t [c] = some y) :
  ∃ s, c = .string s ∧ s.size ≤ maxLen := by
 cases fuel with
 | zero => simp [DataW.trod] at h
 | succ f =>
  unfold DataW.trod at h
  rw [ht] at h
  cases c <;> simp_all
theorem add_none (b off n : Nat) : (⟨b, off, none⟩ : Addr).add n = ⟨b, off + n, none⟩ := by unfold Addr.add; split <;> simp_all
theorem slice_block {t e : TypeId} {fuel : Nat} {a : Option Addr} {len cap : Nat} {x : DataW H × List MemPlace} (ht : P.underlying t = some (.slice e)) {sz : Nat} (hsz : P.cellsOf e = sz) (h0 : 0 < sz)
  (h : DataW.trod enc P w base spare held fuel t [.slice a len cap] = some x) (hlen : 0 < len) :
  ∃ b off acs T fr n, a = some ⟨b, off, none⟩ ∧ w.heap[b]? = some (.cells acs T fr) ∧ len ≤ cap ∧ cap ≤ maxLen ∧
   ∀ i, i < len → ∃ cs y, cs.length = sz ∧ DataW.trod enc P w base spare held n e cs = some y ∧ off + i * sz + sz ≤ acs.size ∧ acs.extract (off + i * sz) (off + i * sz + sz) = cs.toArray := by
 rcases trod_slice ht h with ⟨_, h1, _⟩ | ⟨p, n, rfl, _, hlc, hcm, hel⟩
 ·omega
 ·rw [hsz] at hel
  obtain ⟨cs0, y0, hc0, _⟩ := hel 0 hlen
  obtain ⟨_, hl0, hg0⟩ := cells?_get hc0
  obtain ⟨v, hv⟩ : ∃ v, cs0[0]? = some v := ⟨_, List.getElem?_eq_getElem (by omega)⟩
  have hcell := hg0 0 h0
  rw [hv] at hcell
  obtain ⟨b, off, spot⟩ := p
  have hsp : spot = none := by simpa [Addr.add] using World.cell?_spot hcell
  subst hsp
  simp only [add_none, Nat.zero_mul, Nat.add_zero] at hcell
  obtain ⟨acs, T, fr, hb⟩ : ∃ acs T fr, w.heap[b]? = some (.cells acs T fr) := by
   unfold World.cell? at hcell
   cases hq : w.heap[b]? with
   | none => simp [hq] at hcell
   | some ob =>
    cases ob with
    | cells acs T fr => exact ⟨acs, T, fr, rfl⟩
    | _ => simp [hq] at hcell
  refine ⟨b, off, acs, T, fr, n, rfl, hb, hlc, hcm, fun i hi => ?_⟩
  obtain ⟨cs, y, hcs, hy⟩ := hel i hi
  obtain ⟨_, hl, hg⟩ := cells?_get hcs
  have hget : ∀ j, j < sz → acs[off + i * sz + j]? = cs[j]? := by
   intro j hj
   have := hg j hj
   simp only [add_none] at this
   rw [cell_of_row w b _ acs T fr hb] at this
   exact this
  have hsize : off + i * sz + sz ≤ acs.size := by
   have := hget (sz - 1) (by omega)
   rw [List.getElem?_eq_getElem (by omega)] at this
   have h3 := Array.getElem?_eq_some_iff.1 this
   obtain ⟨h3, _⟩ := h3
   omega
  refine ⟨cs, y, hl, hy, hsize, ?_⟩
  apply Array.ext_getElem?
  intro j
  by_cases hj : j < sz
  ·rw [Array.getElem?_extract, if_pos (by omega), hget j hj]
   simp
  ·rw [Array.getElem?_extract, if_neg (by omega)]
   simp; omega
end
theorem lst_2 {cs : List Value} (h : cs.length = 2) : ∃ c0 c1, cs = [c0, c1] := by
 match cs, h with
 | [_, _], _ => exact ⟨_, _, rfl⟩
theorem lst_3 {cs : List Value} (h : cs.length = 3) : ∃ c0 c1 c2, cs = [c0, c1, c2] := by
 match cs, h with
 | [_, _, _], _ => exact ⟨_, _, _, rfl⟩
theorem lst_4 {cs : List Value} (h : cs.length = 4) : ∃ c0 c1 c2 c3, cs = [c0, c1, c2, c3] := by
 match cs, h with
 | [_, _, _, _], _ => exact ⟨_, _, _, _, rfl⟩
theorem lst_6 {cs : List Value} (h : cs.length = 6) : ∃ c0 c1 c2 c3 c4 c5, cs = [c0, c1, c2, c3, c4, c5] := by
 match cs, h with
 | [_, _, _, _, _, _], _ => exact ⟨_, _, _, _, _, _, rfl⟩
theorem lst_8 {cs : List Value} (h : cs.length = 8) : ∃ c0 c1 c2 c3 c4 c5 c6 c7, cs = [c0, c1, c2, c3, c4, c5, c6, c7] := by
 match cs, h with
 | [_, _, _, _, _, _, _, _], _ => exact ⟨_, _, _, _, _, _, _, _, rfl⟩
section
variable {H : Type} {enc : TypeId × Value → H} {P : Program} {w : World} {base : Nat} {spare : Nat → Bool} {held : Bool}
theorem h3n {t e : TypeId} {fuel : Nat} {c : Value} {y : DataW H × List MemPlace} (ht : P.underlying t = some (.slice e)) (h : DataW.trod enc P w base spare held fuel t [c] = some y) : ∃ a len cap, c = .slice a len cap := by
 cases fuel with
 | zero => simp [DataW.trod] at h
 | succ f =>
  unfold DataW.trod at h
  rw [ht] at h
  cases c <;> simp_all
theorem trod_int_any {t : TypeId} {k : IntKind} {fuel : Nat} {cs : List Value} {y : DataW H × List MemPlace} (ht : P.underlying t = some (.int k)) (h : DataW.trod enc P w base spare held fuel t cs = some y) : ∃ n, cs = [.int k n] ∧ (Lit.int k n).wf = true := by
 have hc : ∃ c, cs = [c] := by
  cases fuel with
  | zero => simp [DataW.trod] at h
  | succ f =>
   unfold DataW.trod at h
   rw [ht] at h
   match cs, h with
   | [c], _ => exact ⟨c, rfl⟩
   | [], h => simp at h
   | _ :: _ :: _, h => simp at h
 obtain ⟨c, rfl⟩ := hc
 obtain ⟨n, rfl, hw⟩ := h1q ht h
 exact ⟨n, rfl, hw⟩
def ROnly (w : World) (B : List Blk) : Prop := ∀ p ∈ B, p.wr = false ∧ w.heap[p.b]? = some p.o
theorem ROnly.nil {w : World} : ROnly w [] := by simp [ROnly]
theorem ROnly.app {w : World} {B C : List Blk} (h : ROnly w B) (h2 : ROnly w C) : ROnly w (B ++ C) := fun p hp => by
 rcases List.mem_append.1 hp with hp | hp
 ·exact h p hp
 ·exact h2 p hp
theorem HP.ro {w : World} {B : List Blk} (h : ROnly w B) : HP [] w w B := HP.read h
theorem Sli.app {L M : List Blk} {a : Option Addr} {len size : Nat} {cells : List Value} (h : Sli L a len size cells) : Sli (L ++ M) a len size cells := h.left
theorem slice_list {X : Type} {cells : X → List Value} {ok : X → Prop} {t e : TypeId} {sz fuel : Nat} {a : Option Addr} {len cap : Nat} {x : DataW H × List MemPlace} (ht : P.underlying t = some (.slice e)) (hsz : P.cellsOf e = sz) (h0 : 0 < sz)
  (hcl : ∀ x, ok x → (cells x).length = sz) (hel : ∀ n cs y, DataW.trod enc P w base spare held n e cs = some y → ∃ x, cs = cells x ∧ ok x) (h : DataW.trod enc P w base spare held fuel t [.slice a len cap] = some x) :
  ∃ (l : List X) (B : List Blk), l.length = len ∧ (∀ x ∈ l, ok x) ∧ Sli B a len sz (l.flatMap cells) ∧ ROnly w B ∧ len ≤ maxLen ∧ len ≤ cap ∧ cap ≤ maxLen := by
 by_cases hl : 0 < len
 ·obtain ⟨b, off, acs, T, fr, n, rfl, hb, h1, h2, hall⟩ := slice_block ht hsz h0 h hl
  have key : ∀ m, m ≤ len → ∃ l : List X, l.length = m ∧ (∀ x ∈ l, ok x) ∧ (acs.toList.drop off).take (m * sz) = l.flatMap cells := by
   intro m
   induction m with
   | zero => intro _; exact ⟨[], rfl, by simp, by simp⟩
   | succ m ih =>
    intro hm
    obtain ⟨l, e1, e2, e3⟩ := ih (by omega)
    obtain ⟨cs, y, hc1, hc2, hc3, hc4⟩ := hall m (by omega)
    obtain ⟨x, rfl, hx⟩ := hel _ _ _ hc2
    refine ⟨l ++ [x], by simp [e1], ?_, ?_⟩
    ·intro z hz
     rcases List.mem_append.1 hz with hz | hz
     ·exact e2 z hz
     ·rw [List.mem_singleton.1 hz]; exact hx
    ·rw [List.flatMap_append, ← e3, Nat.add_mul, Nat.one_mul, List.take_add, List.drop_drop]
     congr 1
     have := congrArg Array.toList hc4
     simp only [Array.toList_extract, List.extract_eq_take_drop] at this
     rw [Nat.add_sub_cancel_left] at this
     simpa using this
  obtain ⟨l, e1, e2, e3⟩ := key len (Nat.le_refl _)
  obtain ⟨_, _, _, _, hc3, _⟩ := hall (len - 1) (by omega)
  have hmul : (len - 1) * sz + sz = len * sz := by
   obtain ⟨q, rfl⟩ : ∃ q, len = q + 1 := ⟨len - 1, by omega⟩
   rw [Nat.add_sub_cancel, Nat.add_mul, Nat.one_mul]
  refine ⟨l, [⟨false, b, .cells acs T fr⟩], e1, e2, Sli.of (i:=0) rfl (by omega) e3, ?_, by omega, by omega, by omega⟩
  intro p hp
  rw [List.mem_singleton.1 hp]
  exact ⟨rfl, hb⟩
 ·rcases trod_slice ht h with ⟨rfl, rfl, rfl⟩ | ⟨p, n, rfl, _, h2, h3, _⟩
  ·exact ⟨[], [], rfl, by simp, ⟨by simp, .inl rfl⟩, ROnly.nil, by omega, by omega, by omega⟩
  ·obtain rfl : len = 0 := by omega
   exact ⟨[], [], rfl, by simp, ⟨by simp, .inl rfl⟩, ROnly.nil, by omega, by omega, by omega⟩
end
end Go.Proofs.YtecbgehooembmaaGreatDoor
