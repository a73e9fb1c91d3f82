/- Part 2 of what the last text of this claim leans on: rules of walks, contracts, plain facts. Conditions: those of each statement. -/
import Derived.Test.YtnpnjicaigdjjaaGreatQn1
set_option maxRecDepth 100000
namespace Go.Proofs.YtnpnjicaigdjjaaGreat
open Go Go.RowKit
theorem mB8_add (a b : List UInt8) : mB8 a ++ mB8 b = mB8 (a ++ b) := by
 rw [← mB8_lB (mB8 a ++ mB8 b)]; congr 1
theorem mB8_size (a : List UInt8) : (mB8 a).size = a.length := by rw [← lB_len, lB_mB8]
theorem lB_get (s : ByteArray) (i : Nat) : (lB s)[i]? = s[i]? := by
 cases s with
 | mk d =>
  show d.toList[i]? = _
  rw [Array.getElem?_toList]
  rfl
theorem lB_inj {a b : ByteArray} (h : lB a = lB b) : a = b := by rw [← mB8_lB a, h, mB8_lB]
def decF (n : Nat) : List UInt8 := if n < 10 then [UInt8.ofNat (48 + n)] else decF (n / 10) ++ [UInt8.ofNat (48 + n % 10)]
termination_by n
decreasing_by omega
theorem decF_lt {n : Nat} (h : n < 10) : decF n = [UInt8.ofNat (48 + n)] := by rw [decF, if_pos h]
theorem decF_ge {n : Nat} (h : ¬ n < 10) : decF n = decF (n / 10) ++ decF (n % 10) := by rw [decF, if_neg h, decF_lt (n:=n % 10) (by omega)]
theorem decF_len (k n : Nat) (hk : 0 < k) (h : n < 10 ^ k) : (decF n).length ≤ k := by
 induction k generalizing n with
 | zero => omega
 | succ k ih =>
  by_cases hn : n < 10
  ·rw [decF_lt hn]; simp
  ·rw [decF_ge hn, List.length_append, decF_lt (n:=n % 10) (by omega), List.length_singleton]
   have hk0 : 0 < k := by
    rcases Nat.eq_zero_or_pos k with rfl | h0
    ·omega
    ·exact h0
   have := ih (n / 10) hk0 (by rw [Nat.pow_succ] at h; omega)
   omega
theorem son1 (n : Nat) (h : n < 10) : strOfNums [48 + (n : Int)] = mB8 (decF n) := by
 rw [decF_lt h]
 have : ∀ k : Fin 10, strOfNums [48 + ((k.val : Nat) : Int)] = mB8 [UInt8.ofNat (48 + k.val)] := by decide +kernel
 exact this ⟨n, h⟩
theorem printed_c (n : Nat) : n < 18446744073709551616 → ∀ S w0 L, Fn Tryz.prog 43 #[.int .u64 (n : Int)] S w0 L fun v L' => v = .string (mB8 (decF n)) ∧ L = L' := by
 induction n using Nat.strongRecOn with
 | _ n ih =>
  intro hn S w0 L
  by_cases h : n < 10
  ·rw [← son1 n h]
   refine Fn1 Tryz.func43 Tryz.ntmps43 rfl rfl ?_
   repeat' (first | refine h2j ?_ | refine h0e ?_ | refine h0w ?_ | refine h1i ?_ | refine h1g ?_ | refine h1h ?_ | refine h0u ?_ | refine h0v ?_ | refine h1m ?_ | refine h1l ?_ | refine h1k ?_ | refine h1j rfl ?_ | refine h1d ?_ | refine h1u ?_ | refine h1v ?_ | refine h2k ?_ | refine h0x rfl ?_ | refine h0y rfl ?_ | (refine gR 0 ?_ <;> (try refine h0a ?_; (first | (refine q_k (h0c rfl) ?_))) <;> (try refine h0e ?_)) | (refine gR 1 ?_ <;> (try refine h0a ?_; (first | (refine q_k (h0b rfl) ?_))) <;> (try refine h0a ?_; (first | (refine q_k (by exact q_b (r:=by first | (exact h2h q_o) | (exact h2i q_o) | exact h3f)) ?_))) <;> (try refine h0e ?_)) | (refine gR 2 ?_ <;> (try refine h0a ?_; (first | (refine q_k (h0b rfl) ?_))) <;> (try refine h0a ?_; (first | (refine q_k (by exact q_b (r:=by apply rb_quo; (omega); (omega); exact c_6; (focus (first | (refine IntWalk.i64_in _ ?_; omega) | (refine IntWalk.u8_in _ ?_; omega) | (refine IntWalk.u16_in _ ?_; omega) | (refine IntWalk.u32_in _ ?_; omega) | (refine IntWalk.u64_in _ ?_; omega) | (refine IntWalk.i32_in _ ?_; omega) | exact rfl)))) ?_))) <;> (try refine h0a ?_; (first | fail)) <;> (try refine h0a ?_; (first | (refine q_k (h0b rfl) ?_))) <;> (try refine h0a ?_; (first | (refine q_k (q_b (r:=by apply rb_rem; (omega); (omega); exact c_6)) ?_))) <;> (try refine h0a ?_; (first | fail)) <;> (try refine h0a ?_; (first | (refine q_k (q_b (r:=by apply h0l; exact rfl; exact c_14)) ?_))) <;> (try refine h0a ?_; (first | (refine q_k (h0c rfl) ?_))) <;> (try refine h0e ?_)) | (refine gR 3 ?_ <;> (try refine h0a ?_; (first | (refine q_k (h0b rfl) ?_))) <;> (try refine h0a ?_; (first | (refine q_k (by exact q_b (r:=by apply h2x; exact c_6; (focus (first | (refine IntWalk.i64_in _ ?_; omega) | (refine IntWalk.u8_in _ ?_; omega) | (refine IntWalk.u16_in _ ?_; omega) | (refine IntWalk.u32_in _ ?_; omega) | (refine IntWalk.u64_in _ ?_; omega) | (refine IntWalk.i32_in _ ?_; omega) | exact rfl)))) ?_))) <;> (try refine h0a ?_; (first | (refine q_k (by apply h3l; exact rfl; (focus (apply h3k Tryz.underlying59 Tryz.underlying5; first | (refine IntWalk.i64_in _ ?_; omega) | (refine IntWalk.u8_in _ ?_; omega) | (refine IntWalk.u16_in _ ?_; omega) | (refine IntWalk.u32_in _ ?_; omega) | (refine IntWalk.u64_in _ ?_; omega) | (refine IntWalk.i32_in _ ?_; omega) | exact rfl))) ?_))) <;> (try refine h0a ?_; (first | (refine h2b (t:=53) (m:=1) (e:=5) (fun vs => (match vs with | [(_, x0)] => [x0] | _ => [])) rfl rfl (fun w => by kernel_rfl) ?_; intro nb hnb; (try simp only [Value.cells]); (try simp only [zzC, zzN])))) <;> (try refine h0a ?_; (first | (refine q_k (by first | (apply E_byteStrI; exact rfl; exact Tryz.underlying53; exact Tryz.underlying5; exact Tryz.underlying9; (focus (repeat (first | exact fd0 | (with_reducible assumption) | apply fdA | apply fdS)))) | (apply h3t; exact rfl; exact Tryz.underlying53; exact Tryz.underlying5; exact Tryz.underlying9; exact h2c; exact h2c)) ?_))) <;> (try refine h0a ?_; (first | (refine q_k (h0c rfl) ?_))) <;> (try refine h0e ?_)) | ((first | (refine h0o rfl (fun hc => ?_) (fun hc => ?_)) | (refine h0z rfl (fun hc => ?_) (fun hc => ?_)) | (refine h1r rfl (fun hc => ?_) (fun hc => ?_))) <;> (try subst hc)))
   (refine h2o Tryz.results43 (.tmp rfl .nil) ?_)
   exact ⟨_, ⟨rfl, rfl⟩, by intro w H; refine H.sub ?_; (try simp only [zzC, zzN]); repeat (first | exact List.Sublist.refl _ | refine List.Sublist.cons_cons _ ?_ | refine List.Sublist.cons _ ?_ | refine List.sublist_append_of_sublist_right ?_)⟩
  ·have i1 := fun (L : List Blk) => ih (n / 10) (by omega) (by omega) S w0 L
   have i2 := fun (L : List Blk) => ih (n % 10) (by omega) (by omega) S w0 L
   have e1 : ((n / 10 : Nat) : Int) = (n : Int) / 10 := rfl
   have e2 : ((n % 10 : Nat) : Int) = (n : Int) % 10 := rfl
   simp only [e1] at i1
   simp only [e2] at i2
   have hl1 := decF_len 20 (n / 10) (by omega) (by omega)
   have hl2 := decF_len 20 (n % 10) (by omega) (by omega)
   rw [← mB8_size] at hl1 hl2
   rw [decF_ge h, ← mB8_add]
   clear ih
   generalize mB8 (decF (n / 10)) = x at *
   generalize mB8 (decF (n % 10)) = y at *
   refine Fn1 Tryz.func43 Tryz.ntmps43 rfl rfl ?_
   repeat' (first | refine h2j ?_ | refine h0e ?_ | refine h0w ?_ | refine h1i ?_ | refine h1g ?_ | refine h1h ?_ | refine h0u ?_ | refine h0v ?_ | refine h1m ?_ | refine h1l ?_ | refine h1k ?_ | refine h1j rfl ?_ | refine h1d ?_ | refine h1u ?_ | refine h1v ?_ | refine h2k ?_ | refine h0x rfl ?_ | refine h0y rfl ?_ | (refine gR 0 ?_ <;> (try refine h0a ?_; (first | (refine q_k (h0c rfl) ?_))) <;> (try refine h0e ?_)) | (refine gR 1 ?_ <;> (try refine h0a ?_; (first | (refine q_k (h0b rfl) ?_))) <;> (try refine h0a ?_; (first | (refine q_k (by exact q_b (r:=by first | (exact h2h q_o) | (exact h2i q_o) | exact h3f)) ?_))) <;> (try refine h0e ?_)) | (refine gR 2 ?_ <;> (try refine h0a ?_; (first | (refine q_k (h0b rfl) ?_))) <;> (try refine h0a ?_; (first | (refine q_k (by exact q_b (r:=by apply rb_quo; (omega); (omega); exact c_6; (focus (first | (refine IntWalk.i64_in _ ?_; omega) | (refine IntWalk.u8_in _ ?_; omega) | (refine IntWalk.u16_in _ ?_; omega) | (refine IntWalk.u32_in _ ?_; omega) | (refine IntWalk.u64_in _ ?_; omega) | (refine IntWalk.i32_in _ ?_; omega) | exact rfl)))) ?_))) <;> (try refine h0a ?_; (first | (first | (refine h1x (F:=43) (by kernel_rfl) rfl rfl (i1 _) ?_; rintro _ _ ⟨rfl, rfl⟩) | (refine h1x (F:=43) (by kernel_rfl) rfl rfl (i2 _) ?_; rintro _ _ ⟨rfl, rfl⟩)))) <;> (try refine h0a ?_; (first | (refine q_k (h0b rfl) ?_))) <;> (try refine h0a ?_; (first | (refine q_k (q_b (r:=by apply rb_rem; (omega); (omega); exact c_6)) ?_))) <;> (try refine h0a ?_; (first | (first | (refine h1x (F:=43) (by kernel_rfl) rfl rfl (i1 _) ?_; rintro _ _ ⟨rfl, rfl⟩) | (refine h1x (F:=43) (by kernel_rfl) rfl rfl (i2 _) ?_; rintro _ _ ⟨rfl, rfl⟩)))) <;> (try refine h0a ?_; (first | (refine q_k (q_b (r:=by apply h0l; exact rfl; exact c_14)) ?_))) <;> (try refine h0a ?_; (first | (refine q_k (h0c rfl) ?_))) <;> (try refine h0e ?_)) | (refine gR 3 ?_ <;> (try refine h0a ?_; (first | (refine q_k (h0b rfl) ?_))) <;> (try refine h0a ?_; (first | (refine q_k (by exact q_b (r:=by apply h2x; exact c_6; (focus (first | (refine IntWalk.i64_in _ ?_; omega) | (refine IntWalk.u8_in _ ?_; omega) | (refine IntWalk.u16_in _ ?_; omega) | (refine IntWalk.u32_in _ ?_; omega) | (refine IntWalk.u64_in _ ?_; omega) | (refine IntWalk.i32_in _ ?_; omega) | exact rfl)))) ?_))) <;> (try refine h0a ?_; (first | (refine q_k (by apply h3l; exact rfl; (focus (apply h3k Tryz.underlying59 Tryz.underlying5; first | (refine IntWalk.i64_in _ ?_; omega) | (refine IntWalk.u8_in _ ?_; omega) | (refine IntWalk.u16_in _ ?_; omega) | (refine IntWalk.u32_in _ ?_; omega) | (refine IntWalk.u64_in _ ?_; omega) | (refine IntWalk.i32_in _ ?_; omega) | exact rfl))) ?_))) <;> (try refine h0a ?_; (first | (refine h2b (t:=53) (m:=1) (e:=5) (fun vs => (match vs with | [(_, x0)] => [x0] | _ => [])) rfl rfl (fun w => by kernel_rfl) ?_; intro nb hnb; (try simp only [Value.cells]); (try simp only [zzC, zzN])))) <;> (try refine h0a ?_; (first | (refine q_k (by first | (apply E_byteStrI; exact rfl; exact Tryz.underlying53; exact Tryz.underlying5; exact Tryz.underlying9; (focus (repeat (first | exact fd0 | (with_reducible assumption) | apply fdA | apply fdS)))) | (apply h3t; exact rfl; exact Tryz.underlying53; exact Tryz.underlying5; exact Tryz.underlying9; exact h2c; exact h2c)) ?_))) <;> (try refine h0a ?_; (first | (refine q_k (h0c rfl) ?_))) <;> (try refine h0e ?_)) | ((first | (refine h0o rfl (fun hc => ?_) (fun hc => ?_)) | (refine h0z rfl (fun hc => ?_) (fun hc => ?_)) | (refine h1r rfl (fun hc => ?_) (fun hc => ?_))) <;> (try subst hc)))
   (refine h2o Tryz.results43 (.tmp rfl .nil) ?_)
   exact ⟨_, ⟨rfl, rfl⟩, by intro w H; refine H.sub ?_; (try simp only [zzC, zzN]); repeat (first | exact List.Sublist.refl _ | refine List.Sublist.cons_cons _ ?_ | refine List.Sublist.cons _ ?_ | refine List.sublist_append_of_sublist_right ?_)⟩
structure RpD (n : Nat) (g : Nat × List UInt8) : Prop where
 lt : g.1 ≤ n
 eq : decF n = decF g.1 ++ g.2
 len : g.2.length ≤ 20
 fst : g.1 = 0 → g.2 = []
theorem rprinted_c {S w0 L} (n : Nat) (hn : n < 18446744073709551616) : Fn Tryz.prog 14 #[.int .u64 (n : Int)] S w0 L fun v L' => v = .string (mB8 (decF n)) ∧ L = L' := by
 refine Fn1 Tryz.func14 Tryz.ntmps14 rfl rfl ?_
 repeat' (first | (refine h4l (id:=0) ?_) | refine h2j ?_ | refine h0e ?_ | refine h0w ?_ | refine h1i ?_ | refine h1g ?_ | refine h1h ?_ | refine h0u ?_ | refine h0v ?_ | refine h1m ?_ | refine h1l ?_ | refine h1k ?_ | refine h1j rfl ?_ | refine h1d ?_ | refine h1u ?_ | refine h1v ?_ | refine h2k ?_ | refine h0x rfl ?_ | refine h0y rfl ?_ | (refine gR 0 ?_ <;> (try refine h0a ?_; (first | (refine q_k (h0c rfl) ?_))) <;> (try refine h0e ?_)) | (refine gR 1 ?_ <;> (try refine h0a ?_; (first | (refine q_k (h0c rfl) ?_))) <;> (try refine h0e ?_)) | (refine gR 2 ?_ <;> (try refine h0a ?_; (first | (refine q_k (h0b rfl) ?_))) <;> (try refine h0a ?_; (first | (refine q_k (q_b (r:=by apply rb_rem; (omega); (omega); exact c_6)) ?_))) <;> (try refine h0a ?_; (first | (refine q_k (by exact q_b (r:=by apply h2x; exact c_6; (focus (first | (refine IntWalk.i64_in _ ?_; omega) | (refine IntWalk.u8_in _ ?_; omega) | (refine IntWalk.u16_in _ ?_; omega) | (refine IntWalk.u32_in _ ?_; omega) | (refine IntWalk.u64_in _ ?_; omega) | (refine IntWalk.i32_in _ ?_; omega) | exact rfl)))) ?_))) <;> (try refine h0a ?_; (first | (refine q_k (by apply h3l; exact rfl; (focus (apply h3k Tryz.underlying59 Tryz.underlying5; first | (refine IntWalk.i64_in _ ?_; omega) | (refine IntWalk.u8_in _ ?_; omega) | (refine IntWalk.u16_in _ ?_; omega) | (refine IntWalk.u32_in _ ?_; omega) | (refine IntWalk.u64_in _ ?_; omega) | (refine IntWalk.i32_in _ ?_; omega) | exact rfl))) ?_))) <;> (try refine h0a ?_; (first | (refine h2b (t:=53) (m:=1) (e:=5) (fun vs => (match vs with | [(_, x0)] => [x0] | _ => [])) rfl rfl (fun w => by kernel_rfl) ?_; intro nb hnb; (try simp only [Value.cells]); (try simp only [zzC, zzN])))) <;> (try refine h0a ?_; (first | (refine q_k (by first | (apply E_byteStrI; exact rfl; exact Tryz.underlying53; exact Tryz.underlying5; exact Tryz.underlying9; (focus (repeat (first | exact fd0 | (with_reducible assumption) | apply fdA | apply fdS)))) | (apply h3t; exact rfl; exact Tryz.underlying53; exact Tryz.underlying5; exact Tryz.underlying9; exact h2c; exact h2c)) ?_))) <;> (try refine h0a ?_; (first | (refine q_k (h0b rfl) ?_))) <;> (try refine h0a ?_; (first | (refine q_k (q_b (r:=by apply h0l; exact rfl; exact c_14)) ?_))) <;> (try refine h0a ?_; (first | (refine q_k (h0c rfl) ?_))) <;> (try refine h0e ?_)) | (refine gR 3 ?_ <;> (try refine h0a ?_; (first | (refine q_k (h0b rfl) ?_))) <;> (try refine h0a ?_; (first | (refine q_k (by exact q_b (r:=by apply rb_quo; (omega); (omega); exact c_6; (focus (first | (refine IntWalk.i64_in _ ?_; omega) | (refine IntWalk.u8_in _ ?_; omega) | (refine IntWalk.u16_in _ ?_; omega) | (refine IntWalk.u32_in _ ?_; omega) | (refine IntWalk.u64_in _ ?_; omega) | (refine IntWalk.i32_in _ ?_; omega) | exact rfl)))) ?_))) <;> (try refine h0a ?_; (first | (refine q_k (h0c rfl) ?_))) <;> (try refine h0e ?_)) | (refine gR 4 ?_ <;> (try refine h0a ?_; (first | (refine q_k (h0b rfl) ?_))) <;> (try refine h0a ?_; (first | (refine q_k (by exact q_b (r:=by first | (refine h1p ?_; first | rfl | (with_reducible assumption) | (decide; done) | omega) | (exact h1z q_o) | exact h2w)) ?_))) <;> (try refine h0e ?_)) | (refine gR 5 ?_ <;> (try refine h0a ?_; (first | (refine q_k (h0b rfl) ?_))) <;> (try refine h0a ?_; (first | (refine q_k (h0c rfl) ?_))) <;> (try refine h0e ?_)) | ((first | (refine h0o rfl (fun hc => ?_) (fun hc => ?_)) | (refine h0z rfl (fun hc => ?_) (fun hc => ?_)) | (refine h1r rfl (fun hc => ?_) (fun hc => ?_))) <;> (try subst hc)))
 refine ⟨?_⟩
 refine h1d ?_
 refine G_loopk (γ:=Nat × List UInt8) (RpD n) (fun g => g.1) (fun g => [(0, .int .u64 (g.1 : Nat)), (3, .string (mB8 g.2))]) []
  (fun _ => L) (n, []) .nil ⟨Nat.le_refl _, (List.append_nil _).symm, Nat.zero_le _, fun _ => rfl⟩ (by (focus (repeat (first | exact Sub.nil | refine Sub.cons rfl ?_ | (refine Sub.cons (congrArg some ?_) ?_; (focus go_num)))))) c_3 ?_
 rintro ⟨m, u⟩ hI
 have hlt := hI.lt
 have hln := hI.len
 have hdl := decF_len 20 n (by omega) (by omega)
 have heq := hI.eq
 dsimp only at hlt hln heq ⊢
 rw [heq, List.length_append] at hdl
 have hd : strOfNums [48 + ((m % 10 : Nat) : Int)] = mB8 (decF (m % 10)) := son1 _ (by omega)
 have hd2 : (decF (m % 10)).length = 1 := by rw [decF_lt (by omega)]; rfl
 have e2 : ((m % 10 : Nat) : Int) = (m : Int) % 10 := rfl
 rw [e2] at hd
 have hsz : (mB8 u).size = u.length := mB8_size u
 have hsd : (mB8 (decF (m % 10))).size = 1 := by rw [mB8_size, hd2]
 rw [← hd] at hsd
 have hcat : strOfNums [48 + (m : Int) % 10] ++ mB8 u = mB8 (decF (m % 10) ++ u) := by rw [hd, mB8_add]
 have e10 : (m : Int) / 10 = ((m / 10 : Nat) : Int) := rfl
 have hcat' := Lib.hid hcat
 have heq' := Lib.hid heq
 have hd2' := Lib.hid hd2
 have e10' := Lib.hid e10
 clear hI hd e2 hcat heq hd2 e10
 by_cases h0 : m / 10 = 0
 ·repeat' (first | refine h2j ?_ | refine h0e ?_ | refine h0w ?_ | refine h1i ?_ | refine h1g ?_ | refine h1h ?_ | refine h0u ?_ | refine h0v ?_ | refine h1m ?_ | refine h1l ?_ | refine h1k ?_ | refine h1j rfl ?_ | refine h1d ?_ | refine h1u ?_ | refine h1v ?_ | refine h2k ?_ | refine h0x rfl ?_ | refine h0y rfl ?_ | (refine gR 0 ?_ <;> (try refine h0a ?_; (first | (refine q_k (h0c rfl) ?_))) <;> (try refine h0e ?_)) | (refine gR 1 ?_ <;> (try refine h0a ?_; (first | (refine q_k (h0c rfl) ?_))) <;> (try refine h0e ?_)) | (refine gR 2 ?_ <;> (try refine h0a ?_; (first | (refine q_k (h0b rfl) ?_))) <;> (try refine h0a ?_; (first | (refine q_k (q_b (r:=by apply rb_rem; (omega); (omega); exact c_6)) ?_))) <;> (try refine h0a ?_; (first | (refine q_k (by exact q_b (r:=by apply h2x; exact c_6; (focus (first | (refine IntWalk.i64_in _ ?_; omega) | (refine IntWalk.u8_in _ ?_; omega) | (refine IntWalk.u16_in _ ?_; omega) | (refine IntWalk.u32_in _ ?_; omega) | (refine IntWalk.u64_in _ ?_; omega) | (refine IntWalk.i32_in _ ?_; omega) | exact rfl)))) ?_))) <;> (try refine h0a ?_; (first | (refine q_k (by apply h3l; exact rfl; (focus (apply h3k Tryz.underlying59 Tryz.underlying5; first | (refine IntWalk.i64_in _ ?_; omega) | (refine IntWalk.u8_in _ ?_; omega) | (refine IntWalk.u16_in _ ?_; omega) | (refine IntWalk.u32_in _ ?_; omega) | (refine IntWalk.u64_in _ ?_; omega) | (refine IntWalk.i32_in _ ?_; omega) | exact rfl))) ?_))) <;> (try refine h0a ?_; (first | (refine h2b (t:=53) (m:=1) (e:=5) (fun vs => (match vs with | [(_, x0)] => [x0] | _ => [])) rfl rfl (fun w => by kernel_rfl) ?_; intro nb hnb; (try simp only [Value.cells]); (try simp only [zzC, zzN])))) <;> (try refine h0a ?_; (first | (refine q_k (by first | (apply E_byteStrI; exact rfl; exact Tryz.underlying53; exact Tryz.underlying5; exact Tryz.underlying9; (focus (repeat (first | exact fd0 | (with_reducible assumption) | apply fdA | apply fdS)))) | (apply h3t; exact rfl; exact Tryz.underlying53; exact Tryz.underlying5; exact Tryz.underlying9; exact h2c; exact h2c)) ?_))) <;> (try refine h0a ?_; (first | (refine q_k (h0b rfl) ?_))) <;> (try refine h0a ?_; (first | (refine q_k (q_b (r:=by apply h0l; exact rfl; exact c_14)) ?_))) <;> (try refine h0a ?_; (first | (refine q_k (h0c rfl) ?_))) <;> (try refine h0e ?_)) | (refine gR 3 ?_ <;> (try refine h0a ?_; (first | (refine q_k (h0b rfl) ?_))) <;> (try refine h0a ?_; (first | (refine q_k (by exact q_b (r:=by apply rb_quo; (omega); (omega); exact c_6; (focus (first | (refine IntWalk.i64_in _ ?_; omega) | (refine IntWalk.u8_in _ ?_; omega) | (refine IntWalk.u16_in _ ?_; omega) | (refine IntWalk.u32_in _ ?_; omega) | (refine IntWalk.u64_in _ ?_; omega) | (refine IntWalk.i32_in _ ?_; omega) | exact rfl)))) ?_))) <;> (try refine h0a ?_; (first | (refine q_k (h0c rfl) ?_))) <;> (try refine h0e ?_)) | (refine gR 4 ?_ <;> (try refine h0a ?_; (first | (refine q_k (h0b rfl) ?_))) <;> (try refine h0a ?_; (first | (refine q_k (by exact q_b (r:=by first | (refine h1p ?_; first | rfl | (with_reducible assumption) | (decide; done) | omega) | (exact h1z q_o) | exact h2w)) ?_))) <;> (try refine h0e ?_)) | (refine gR 5 ?_ <;> (try refine h0a ?_; (first | (refine q_k (h0b rfl) ?_))) <;> (try refine h0a ?_; (first | (refine q_k (h0c rfl) ?_))) <;> (try refine h0e ?_)) | ((first | (refine h0o rfl (fun hc => ?_) (fun hc => ?_)) | (refine h0z rfl (fun hc => ?_) (fun hc => ?_)) | (refine h1r rfl (fun hc => ?_) (fun hc => ?_))) <;> (try subst hc)))
  (refine h2o Tryz.results14 (.tmp rfl .nil) ?_)
  refine ⟨_, ⟨?_, rfl⟩, by intro w H; refine H.sub ?_; (try simp only [zzC, zzN]); repeat (first | exact List.Sublist.refl _ | refine List.Sublist.cons_cons _ ?_ | refine List.Sublist.cons _ ?_ | refine List.sublist_append_of_sublist_right ?_)⟩
  show Value.string _ = _
  rw [hcat'.out, heq'.out, show m % 10 = m by omega]
 ·repeat' (first | refine h2j ?_ | refine h0e ?_ | refine h0w ?_ | refine h1i ?_ | refine h1g ?_ | refine h1h ?_ | refine h0u ?_ | refine h0v ?_ | refine h1m ?_ | refine h1l ?_ | refine h1k ?_ | refine h1j rfl ?_ | refine h1d ?_ | refine h1u ?_ | refine h1v ?_ | refine h2k ?_ | refine h0x rfl ?_ | refine h0y rfl ?_ | (refine gR 0 ?_ <;> (try refine h0a ?_; (first | (refine q_k (h0c rfl) ?_))) <;> (try refine h0e ?_)) | (refine gR 1 ?_ <;> (try refine h0a ?_; (first | (refine q_k (h0c rfl) ?_))) <;> (try refine h0e ?_)) | (refine gR 2 ?_ <;> (try refine h0a ?_; (first | (refine q_k (h0b rfl) ?_))) <;> (try refine h0a ?_; (first | (refine q_k (q_b (r:=by apply rb_rem; (omega); (omega); exact c_6)) ?_))) <;> (try refine h0a ?_; (first | (refine q_k (by exact q_b (r:=by apply h2x; exact c_6; (focus (first | (refine IntWalk.i64_in _ ?_; omega) | (refine IntWalk.u8_in _ ?_; omega) | (refine IntWalk.u16_in _ ?_; omega) | (refine IntWalk.u32_in _ ?_; omega) | (refine IntWalk.u64_in _ ?_; omega) | (refine IntWalk.i32_in _ ?_; omega) | exact rfl)))) ?_))) <;> (try refine h0a ?_; (first | (refine q_k (by apply h3l; exact rfl; (focus (apply h3k Tryz.underlying59 Tryz.underlying5; first | (refine IntWalk.i64_in _ ?_; omega) | (refine IntWalk.u8_in _ ?_; omega) | (refine IntWalk.u16_in _ ?_; omega) | (refine IntWalk.u32_in _ ?_; omega) | (refine IntWalk.u64_in _ ?_; omega) | (refine IntWalk.i32_in _ ?_; omega) | exact rfl))) ?_))) <;> (try refine h0a ?_; (first | (refine h2b (t:=53) (m:=1) (e:=5) (fun vs => (match vs with | [(_, x0)] => [x0] | _ => [])) rfl rfl (fun w => by kernel_rfl) ?_; intro nb hnb; (try simp only [Value.cells]); (try simp only [zzC, zzN])))) <;> (try refine h0a ?_; (first | (refine q_k (by first | (apply E_byteStrI; exact rfl; exact Tryz.underlying53; exact Tryz.underlying5; exact Tryz.underlying9; (focus (repeat (first | exact fd0 | (with_reducible assumption) | apply fdA | apply fdS)))) | (apply h3t; exact rfl; exact Tryz.underlying53; exact Tryz.underlying5; exact Tryz.underlying9; exact h2c; exact h2c)) ?_))) <;> (try refine h0a ?_; (first | (refine q_k (h0b rfl) ?_))) <;> (try refine h0a ?_; (first | (refine q_k (q_b (r:=by apply h0l; exact rfl; exact c_14)) ?_))) <;> (try refine h0a ?_; (first | (refine q_k (h0c rfl) ?_))) <;> (try refine h0e ?_)) | (refine gR 3 ?_ <;> (try refine h0a ?_; (first | (refine q_k (h0b rfl) ?_))) <;> (try refine h0a ?_; (first | (refine q_k (by exact q_b (r:=by apply rb_quo; (omega); (omega); exact c_6; (focus (first | (refine IntWalk.i64_in _ ?_; omega) | (refine IntWalk.u8_in _ ?_; omega) | (refine IntWalk.u16_in _ ?_; omega) | (refine IntWalk.u32_in _ ?_; omega) | (refine IntWalk.u64_in _ ?_; omega) | (refine IntWalk.i32_in _ ?_; omega) | exact rfl)))) ?_))) <;> (try refine h0a ?_; (first | (refine q_k (h0c rfl) ?_))) <;> (try refine h0e ?_)) | (refine gR 4 ?_ <;> (try refine h0a ?_; (first | (refine q_k (h0b rfl) ?_))) <;> (try refine h0a ?_; (first | (refine q_k (by exact q_b (r:=by first | (refine h1p ?_; first | rfl | (with_reducible assumption) | (decide; done) | omega) | (exact h1z q_o) | exact h2w)) ?_))) <;> (try refine h0e ?_)) | (refine gR 5 ?_ <;> (try refine h0a ?_; (first | (refine q_k (h0b rfl) ?_))) <;> (try refine h0a ?_; (first | (refine q_k (h0c rfl) ?_))) <;> (try refine h0e ?_)) | ((first | (refine h0o rfl (fun hc => ?_) (fun hc => ?_)) | (refine h0z rfl (fun hc => ?_) (fun hc => ?_)) | (refine h1r rfl (fun hc => ?_) (fun hc => ?_))) <;> (try subst hc)))
  simp only [hcat'.out, e10'.out]
  refine G_meet (m / 10, decF (m % 10) ++ u) ⟨⟨by dsimp only; omega, ?_, ?_, fun h => absurd h h0⟩, by dsimp only; omega⟩ (by (focus (repeat (first | exact Sub.nil | refine Sub.cons rfl ?_ | (refine Sub.cons (congrArg some ?_) ?_; (focus go_num)))))) c_3
  ·dsimp only
   rw [heq'.out, decF_ge (n:=m) (by omega), List.append_assoc]
  ·dsimp only
   rw [List.length_append, hd2'.out]
   have h1 : (decF (m / 10)).length ≥ 1 := by
    rw [decF]; split
    ·exact Nat.le_refl _
    ·rw [List.length_append]; simp
   have h2 : (decF m).length = (decF (m / 10)).length + 1 := by rw [decF_ge (n:=m) (by omega), List.length_append, hd2'.out]
   omega
def D16 : ByteArray := ⟨#[48, 49, 50, 51, 52, 53, 54, 55, 56, 57, 97, 98, 99, 100, 101, 102]⟩
theorem fin_u8 {p : UInt8 → Prop} (h : ∀ k : Fin 256, p (UInt8.ofNat k.val)) (c : UInt8) : p c := by
 have := h ⟨c.toNat, c.toNat_lt⟩
 simpa using this
theorem ba_at {s : ByteArray} {k : Nat} (h : k < s.size) : ∃ x : UInt8, s[k]? = some x ∧ (lB s).drop k = x :: (lB s).drop (k + 1) := by
 have hl : k < (lB s).length := by rw [lB_len]; exact h
 refine ⟨(lB s)[k], ?_, List.drop_eq_getElem_cons hl⟩
 rw [← lB_get, List.getElem?_eq_getElem hl]
def PlainKey : TypeDesc → Value → Prop
 | .int k, .int k' _ => k' = k
 | .string, .string _ => True
 | _, _ => False
section
variable {P : Program} {o : Oper} {a : Act} {w w0 : World} {K : Act → World → Prop} {Q : Exit → Act → World → Prop} {S : List Nat} {L : List Blk} {ops : Array Oper} {rest : List Oper}
theorem run_checkKey_plain {e : Bool} {key : TypeId} {d : TypeDesc} {v : Value} (hk : P.underlying key = some d) (hp : PlainKey d v) (w : World) : (Instr.checkKey e 10000 key v).run P w = .ok () w := by
 show (Instr.checkKey e (9999 + 1) key v).run P w = .ok () w
 unfold Instr.checkKey
 rw [Sem.run_bind, run_underlying hk w]
 cases d <;> cases v <;> simp_all [PlainKey]
theorem run_findKey {key : TypeId} {d : TypeDesc} {v : Value} {es : List MapEntry} {r : Option (Nat × Value)} (hk : P.underlying key = some d) (hf : Instr.findNow d v es 0 = some r) (w : World) :
  (Instr.findKey key v es).run P w = .ok r w := by
 unfold Instr.findKey
 rw [Sem.run_bind, run_underlying hk w]
 simp [hf]
theorem run_getObj_map {b : Nat} {es : Array MapEntry} {c : Nat} (h : w.heap[b]? = some (.map es c)) : (getObj b).run P w = .ok (.map es c) w := by
 simp only [getObj, Sem.run, h]
def found (r : Option (Nat × Value)) (z : Value) : Value := match r with | some (_, v) => v | none => z
theorem run_lookup (H : HP S w0 w L) (i : Nat) {t key elem : TypeId} {d : TypeDesc} {q : Bool} {b : Nat} {es : Array MapEntry} {c : Nat} {kv z : Value} {r : Option (Nat × Value)} {ok : Bool}
  (ht : P.underlying t = some (.map key elem)) (hk : P.underlying key = some d) (hp : PlainKey d kv) (hz : ∀ w, (zeroValue elem).run P w = .ok z w)
  (hi : L[i]? = some ⟨q, b, .map es c⟩) (hf : Instr.findNow d kv es.toList 0 = some r) :
  (Instr.lookup t (.map (some b)) kv ok).run P w = .ok (if ok then .tuple #[found r z, .bool r.isSome] else found r z) w := by
 unfold Instr.lookup
 simp only [Sem.run_bind, run_underlying ht, Result.andThen_ok, run_getObj_map (H.at_ i hi), Sem.run_pure, run_checkKey_plain hk hp, run_findKey hk hf]
 cases r with
 | none => cases ok <;> simp [found, hz]
 | some p => cases ok <;> simp [found]
end
def mkE : List (Value × Value) → Nat → List MapEntry
 | [], _ => []
 | p :: r, i => { key := p.1, val := p.2, born := i } :: mkE r (i + 1)
abbrev mapB (b : Nat) (kvs : List (Value × Value)) : Blk := ⟨true, b, .map (mkE kvs 0).toArray kvs.length⟩
def fd (d : TypeDesc) (k : Value) : List (Value × Value) → Nat → Option (Option (Nat × Value))
 | [], _ => some none
 | p :: r, i => match Instr.sameNow d k p.1 with
  | some true => some (some (i, p.2))
  | some false => fd d k r (i + 1)
  | none => none
theorem fd_eq (d : TypeDesc) (k : Value) (kvs : List (Value × Value)) (i j : Nat) : Instr.findNow d k (mkE kvs j) i = fd d k kvs i := by
 induction kvs generalizing i j with
 | nil => rfl
 | cons p r ih =>
  simp only [mkE, Instr.findNow, fd]
  cases h : Instr.sameNow d k p.1 with
  | none => rfl
  | some q => cases q with
   | true => rfl
   | false => exact ih _ _
theorem mkE_len (kvs : List (Value × Value)) (i : Nat) : (mkE kvs i).length = kvs.length := by
 induction kvs generalizing i with
 | nil => rfl
 | cons p r ih => simp [mkE, ih]
theorem mkE_app (kvs : List (Value × Value)) (p : Value × Value) (i : Nat) : mkE (kvs ++ [p]) i = mkE kvs i ++ [{ key := p.1, val := p.2, born := i + kvs.length }] := by
 induction kvs generalizing i with
 | nil => simp [mkE]
 | cons q r ih => simp only [List.cons_append, mkE, ih, List.length_cons]; rw [show i + 1 + r.length = i + (r.length + 1) by omega]
theorem mkE_get (kvs : List (Value × Value)) (i j : Nat) (p : Value × Value) (h : kvs[j]? = some p) : (mkE kvs i)[j]? = some { key := p.1, val := p.2, born := i + j } := by
 induction kvs generalizing i j with
 | nil => simp at h
 | cons q r ih =>
  cases j with
  | zero => simp at h; subst h; simp [mkE]
  | succ j =>
   simp only [List.getElem?_cons_succ] at h
   simp only [mkE, List.getElem?_cons_succ, ih (i + 1) j h]
   congr 2; omega
theorem mkE_set (kvs : List (Value × Value)) (i j : Nat) (p : Value × Value) (f : MapEntry → MapEntry) (hf : ∀ q, kvs[j]? = some q → f { key := q.1, val := q.2, born := i + j } = { key := p.1, val := p.2, born := i + j }) : (mkE kvs i).modify j f = mkE (kvs.set j p) i := by
 induction kvs generalizing i j with
 | nil => cases j <;> rfl
 | cons q r ih =>
  cases j with
  | zero => simp only [mkE, List.modify_zero_cons, List.set_cons_zero]; have := hf q (by simp); simp only [Nat.add_zero] at this; rw [this]
  | succ j =>
   simp only [mkE, List.modify_succ_cons, List.set_cons_succ]
   rw [ih (i + 1) j (fun q hq => by have := hf q (by simpa using hq); rw [show i + 1 + j = i + (j + 1) by omega]; exact this)]
theorem fd_get {d : TypeDesc} {k : Value} {kvs : List (Value × Value)} {i j : Nat} {v : Value} (h : fd d k kvs i = some (some (j, v))) : i ≤ j ∧ ∃ p, kvs[j - i]? = some p ∧ p.2 = v ∧ Instr.sameNow d k p.1 = some true := by
 induction kvs generalizing i with
 | nil => simp [fd] at h
 | cons q r ih =>
  simp only [fd] at h
  split at h
  ·rename_i hs
   simp only [Option.some.injEq, Prod.mk.injEq] at h
   obtain ⟨rfl, rfl⟩ := h
   exact ⟨Nat.le_refl _, q, by simp, rfl, hs⟩
  ·obtain ⟨h1, p, h2, h3⟩ := ih h
   refine ⟨by omega, p, ?_, h3⟩
   rw [show j - i = (j - (i + 1)) + 1 by omega, List.getElem?_cons_succ]; exact h2
  ·simp at h
theorem ba_beq (x y : ByteArray) : (x == y) = decide (x = y) := by
 show (x.data == y.data) = _
 cases x with | mk a => cases y with | mk b =>
 by_cases h : a = b
 ·subst h; simp
 ·have h2 : ¬ (ByteArray.mk a = ByteArray.mk b) := fun e => h (by injection e)
  simp [h2]; exact fun e => h e
theorem same_plain {d : TypeDesc} {k k' : Value} (hp : PlainKey d k) (h : Instr.sameNow d k k' = some true) : Instr.sameBits 10000 k' k = true ∧ k' = k := by
 cases d <;> cases k <;> simp [PlainKey] at hp <;> cases k' <;> simp_all [Instr.sameNow, Instr.sameBits, ba_beq]
section
variable {P : Program} {n : Nat} {l : List (Nat × Value)} {S : List Nat} {w0 : World} {L : List Blk} {K : Act → World → Prop} {kt : Kont} {ops : Array Oper} {d : Tmp} {ty : TypeId} {pos : String} {af : Array Edge}
theorem K1_makeMap {t : TypeId} (hd : Nat.blt d n = true) (h : ∀ nb, w0.heap.size ≤ nb → G n ((d, .map (some nb)) :: l) S w0 (mapB nb [] :: L) K) :
  G n l S w0 L (K1 P ops kt ⟨some d, .makeMap t none, ty, pos, af, none⟩ K) := .mk fun a w hf H => h3m rfl <| by
 unfold Oper.wp execOp
 simp only [Option.map_none, Instr.makeMap, Sem.run_bind, Sem.run_pure, Result.andThen_ok, run_newObj]
 exact (h _ H.size).out _ _ (hf.put (some d) _ hd) (H.alloc _)
theorem E_lookup {t key elem : TypeId} {dd : TypeDesc} {x ix : Operand} {i b : Nat} {kvs : List (Value × Value)} {kv z : Value} {r : Option (Nat × Value)} (hx : ev l x = some (.map (some b))) (hk : ev l ix = some kv) (hi : L[i]? = some (mapB b kvs))
  (ht : P.underlying t = some (.map key elem)) (hkt : P.underlying key = some dd) (hp : PlainKey dd kv) (hz : ∀ w, (zeroValue elem).run P w = .ok z w) (hf : fd dd kv kvs 0 = some r) {fv : Value} {fb : Bool} (hfv : found r z = fv) (hfb : r.isSome = fb) :
  ValOf P n l S w0 L ⟨some d, .lookup t x ix true, ty, pos, af, none⟩ (h3u [fv, .bool fb]) :=
 ⟨fun a w hF H => by
  subst hfv
  subst hfb
  unfold execOp
  simp only [hF.eval hx, hF.eval hk, Sem.run_bind, run_lookup H i ht hkt hp hz hi (by simpa [fd_eq] using hf), Result.andThen_ok, Sem.run_pure]
  rfl⟩
theorem E_lookup1 {t key elem : TypeId} {dd : TypeDesc} {x ix : Operand} {i b : Nat} {kvs : List (Value × Value)} {kv z : Value} {r : Option (Nat × Value)} (hx : ev l x = some (.map (some b))) (hk : ev l ix = some kv) (hi : L[i]? = some (mapB b kvs))
  (ht : P.underlying t = some (.map key elem)) (hkt : P.underlying key = some dd) (hp : PlainKey dd kv) (hz : ∀ w, (zeroValue elem).run P w = .ok z w) (hf : fd dd kv kvs 0 = some r) {fv : Value} (hfv : found r z = fv) :
  ValOf P n l S w0 L ⟨some d, .lookup t x ix false, ty, pos, af, none⟩ fv :=
 ⟨fun a w hF H => by
  subst hfv
  unfold execOp
  simp only [hF.eval hx, hF.eval hk, Sem.run_bind, run_lookup H i ht hkt hp hz hi (by simpa [fd_eq] using hf), Result.andThen_ok, Sem.run_pure]
  rfl⟩
theorem HP.setMap {w : World} {i b : Nat} {es : Array MapEntry} {c : Nat} (H : HP S w0 w L) (hi : L[i]? = some ⟨true, b, .map es c⟩) (o' : Obj) : HP S w0 { w with heap := w.heap.setIfInBounds b o' } (L.set i ⟨true, b, o'⟩) := by
 have hb : b < w.heap.size := H.lt i hi
 exact H.turn i hi _ o' rfl rfl rfl (by simp) (by simp [hb]) (fun k hk => by rw [Array.getElem?_setIfInBounds, if_neg (fun e => hk (Eq.symm e))])
theorem run_setMap {w : World} {b : Nat} {es : Array MapEntry} {c : Nat} (hat : w.heap[b]? = some (.map es c)) (o' : Obj) : (setObj b o').run P w = .ok () { w with heap := w.heap.setIfInBounds b o' } := by
 simp only [setObj, Sem.run, hat]
def updE (kvs : List (Value × Value)) (kv v : Value) (r : Option (Nat × Value)) : List (Value × Value) :=
 match r with
 | some (i, _) => kvs.set i (kv, v)
 | none => kvs ++ [(kv, v)]
theorem h3z {t key elem : TypeId} {dd : TypeDesc} {x ix y : Operand} {i b : Nat} {kvs : List (Value × Value)} {kv v : Value} {r : Option (Nat × Value)} (hx : ev l x = some (.map (some b))) (hk : ev l ix = some kv) (hy : ev l y = some v) (hi : L[i]? = some (mapB b kvs))
  (ht : P.underlying t = some (.map key elem)) (hkt : P.underlying key = some dd) (hp : PlainKey dd kv) (hf : fd dd kv kvs 0 = some r)
  (h : G n l S w0 (L.set i (mapB b (updE kvs kv v r))) K) : G n l S w0 L (K1 P ops kt ⟨none, .mapUpdate t x ix y, ty, pos, af, none⟩ K) := .mk fun a w hF H => h3m rfl <| by
 have hat := H.at_ i hi
 have hfn : Instr.findNow dd kv (mkE kvs 0) 0 = some r := by rw [fd_eq]; exact hf
 have hr : (Instr.mapUpdate t (.map (some b)) kv v).run P w = .ok () { w with heap := w.heap.setIfInBounds b (mapB b (updE kvs kv v r)).o } := by
  unfold Instr.mapUpdate
  simp only [Sem.run_bind, run_underlying ht, Result.andThen_ok, run_getObj_map hat, run_checkKey_plain hkt hp, run_findKey hkt hfn]
  cases r with
  | none =>
   simp only [updE, run_setMap hat]
   simp [mkE_app]
  | some p =>
   obtain ⟨j, u⟩ := p
   obtain ⟨_, q, hq, _, hsn⟩ := fd_get hf
   simp only [Nat.sub_zero] at hq
   obtain ⟨hsb, hqe⟩ := same_plain hp hsn
   have hg := mkE_get kvs 0 j q hq
   have e1 : (mkE kvs 0).modify j (fun e => { key := kv, val := v, born := e.born }) = mkE (kvs.set j (kv, v)) 0 := mkE_set kvs 0 j (kv, v) _ (fun _ _ => rfl)
   simp only [List.getElem?_toArray, hg, Option.map_some, Option.getD_some, Instr.keyThatStays, hsb, if_true, Sem.run_pure, Result.andThen_ok, updE, Sem.run_bind, run_setMap hat]
   congr 1
   simp [e1]
 have hgo : (execOp a.eval (⟨none, .mapUpdate t x ix y, ty, pos, af, none⟩ : Oper)).run P w = .ok .skip { w with heap := w.heap.setIfInBounds b (mapB b (updE kvs kv v r)).o } := by
  unfold execOp
  simp only [hF.eval hx, hF.eval hk, hF.eval hy, Sem.run_bind, hr, Result.andThen_ok, Sem.run_pure]
 unfold Oper.wp
 rw [hgo]
 exact h.out _ _ hF (H.setMap hi _)
end
abbrev mapG (b : Nat) (es : List MapEntry) (c : Nat) : Blk := ⟨true, b, .map es.toArray c⟩
section
variable {P : Program} {n : Nat} {l : List (Nat × Value)} {S : List Nat} {w0 : World} {L : List Blk} {K : Act → World → Prop} {kt : Kont} {ops : Array Oper} {d : Tmp} {ty : TypeId} {pos : String} {af : Array Edge}
theorem E_lenG {t key elem : TypeId} {x : Operand} {i b c : Nat} {es : List MapEntry} (hx : ev l x = some (.map (some b))) (hi : L[i]? = some (mapG b es c)) (ht : P.underlying t = some (.map key elem)) :
  ValOf P n l S w0 L ⟨some d, .call { callee := .builtin .len, args := #[x], argTypes := #[t] }, ty, pos, af, none⟩ (.int .i64 es.length) :=
 ⟨fun a w hF H => by
  have hr : (Builtin.len_ #[t] ty #[.map (some b)]).run P w = .ok (.int .i64 es.length) w := by
   unfold Builtin.len_
   simp only [List.getElem?_toArray, List.getElem?_cons_zero, Sem.run_bind, run_underlying ht, Result.andThen_ok, run_getObj_map (H.at_ i hi), Sem.run_pure]
   rfl
  rw [BigFrame.execOp_builtin]
  simp only [List.map_toArray, List.map_cons, List.map_nil, hF.eval hx, builtin, Sem.run_bind, hr, Result.andThen_ok, Sem.run_pure]⟩
end
section
variable {P : Program} {n : Nat} {l : List (Nat × Value)} {S : List Nat} {w0 : World} {L : List Blk} {K : Act → World → Prop} {k : Kont} {ops : Array Oper} {d : Tmp} {ty : TypeId} {pos : String} {af : Array Edge}
theorem E_lenB {t key elem : TypeId} {x : Operand} {i b : Nat} {kvs : List (Value × Value)} (hx : ev l x = some (.map (some b))) (hi : L[i]? = some (mapB b kvs)) (ht : P.underlying t = some (.map key elem)) :
  ValOf P n l S w0 L ⟨some d, .call { callee := .builtin .len, args := #[x], argTypes := #[t] }, ty, pos, af, none⟩ (.int .i64 kvs.length) := by
 have h := E_lenG (P:=P) (n:=n) (S:=S) (w0:=w0) (d:=d) (ty:=ty) (pos:=pos) (af:=af) (es:=mkE kvs 0) (c:=kvs.length) hx hi ht
 rwa [mkE_len] at h
end
theorem own_cases {E size : Nat} {v : Value} {n : Nat} {xs : List Value} {e : List Blk} (h : Own E size v n xs e) :
  (v = .slice none 0 0 ∧ n = 0 ∧ xs = [] ∧ e = []) ∨ ∃ g cap cur, v = .slice (some ⟨g, 0, none⟩) n cap ∧ e = [⟨true, g, .cells cur E (0, 0)⟩] ∧ n ≤ cap ∧ cap ≤ maxLen ∧ cur.size = cap * size ∧ cur.toList.take (n * size) = xs := by
 obtain ⟨h1, h | h⟩ := h
 ·obtain ⟨a, b, c⟩ := h
  subst b
  rw [Nat.zero_mul] at h1
  exact .inl ⟨a, rfl, List.eq_nil_of_length_eq_zero h1, c⟩
 ·exact .inr h
theorem own_mk {E size n g cap : Nat} {cur : Array Value} {xs : List Value} (h1 : n ≤ cap) (h2 : cap ≤ maxLen) (h3 : cur.size = cap * size) (h4 : cur.toList.take (n * size) = xs) :
  Own E size (.slice (some ⟨g, 0, none⟩) n cap) n xs [⟨true, g, .cells cur E (0, 0)⟩] := by subst h4; exact Own.of_block h1 h2 h3
section
variable {P : Program} {n : Nat} {l : List (Nat × Value)} {S : List Nat} {w0 : World} {L : List Blk} {d : Tmp} {ty : TypeId} {pos : String} {af : Array Edge}
theorem K1_aadd {ops : Array Oper} {kt : Kont} {K : Act → World → Prop} {F : FuncId} {fn : Func} {k : IntKind} {x y : Operand} {ats : Array TypeId} {i b off : Nat} {cs : Array Value} {T : TypeId} {u v : Int}
  (hf0 : P.funcs[F]? = some fn) (hname : (fn.name == "runtime.NumGoroutine") = false) (hb : fn.body.isNone = true) (hn : Extern.findNext fn = none) (he : Extern.find fn = some (Extern.Atomic.update (Op.intArith .add) k true)) (hd : Nat.blt d n = true)
  (hx : ev l x = some (.pointer (some ⟨b, off, none⟩))) (hy : ev l y = some (.int k v)) (hi : L[i]? = some ⟨true, b, .cells cs T (0, 0)⟩) (hv : cs.toList[off]? = some (.int k u))
  (h : G n ((d, .int k (k.wrap (u + v))) :: l) S w0 (L.set i ⟨true, b, .cells (cs.setIfInBounds off (.int k (k.wrap (u + v)))) T (0, 0)⟩) K) :
  G n l S w0 L (K1 P ops kt ⟨some d, .call { callee := .value (.func F), args := [x, y].toArray, argTypes := ats }, ty, pos, af, none⟩ K) := .mk fun a w hf H => h3m rfl <| by
 unfold Oper.wp
 rw [execOp_call_go, List.map_toArray]
 have e : [x, y].map a.eval = [.pointer (some ⟨b, off, none⟩), .int k v] := by simp [hf.eval hx, hf.eval hy]
 rw [e]
 have : (#[] ++ [Value.pointer (some ⟨b, off, none⟩), Value.int k v].toArray ++ #[] : Array Value) = #[.pointer (some ⟨b, off, none⟩), .int k v] := by simp
 rw [this, run_call_add hf0 hname hb hn k he ((cell_at H i hi).trans (by simpa using hv)) (by simp [frozen_at H i hi]) (s:=k.wrap (u + v)) (by simp [Op.intArith])]
 have H1 := H.turn i hi (w.setCell ⟨b, off, none⟩ (.int k (k.wrap (u + v)))) (.cells (cs.setIfInBounds off (.int k (k.wrap (u + v)))) T (0, 0)) rfl rfl rfl (by simp)
  (by rw [heap_setCell_same w b off cs T _ (H.at_ i hi)]) (fun q hq => heap_setCell_other w _ q _ hq)
 exact h.out _ _ (hf.put (some d) _ hd) H1
end
theorem aadd_c {S w0 L} (b off T : Nat) (cs : List Value) (u v : Int) (hv : cs.toArray.toList[off]? = some (.int .i64 u)) : Fn Tryz.prog 50 #[.pointer (some ⟨b, off, none⟩), .int .i64 v] S w0 (⟨true, b, .cells cs.toArray T (0, 0)⟩ :: L) fun r L' => r = .int .i64 (IntKind.i64.wrap (u + v)) ∧ ⟨true, b, .cells (cs.set off (.int .i64 (IntKind.i64.wrap (u + v)))).toArray T (0, 0)⟩ :: L = L' := by
 refine Fn2 Tryz.func50 Tryz.ntmps50 rfl rfl ?_
 repeat' (first | refine h2j ?_ | refine h0e ?_ | refine h0w ?_ | refine h1i ?_ | refine h1g ?_ | refine h1h ?_ | refine h0u ?_ | refine h0v ?_ | refine h1m ?_ | refine h1l ?_ | refine h1k ?_ | refine h1j rfl ?_ | refine h1d ?_ | refine h1u ?_ | refine h1v ?_ | refine h2k ?_ | refine h0x rfl ?_ | refine h0y rfl ?_ | (refine gR 0 ?_ <;> (try refine h0a ?_; (first | (refine q_k (h0c rfl) ?_))) <;> (try refine h0e ?_)) | (refine gR 1 ?_ <;> (try refine h0a ?_; (first | (refine q_k (h0b rfl) ?_))) <;> (try refine h0a ?_; (first | (refine q_k (h0h rfl) ?_))) <;> (try refine h0a ?_; (first | (refine q_k (by first | (exact q_f fo_133_2) | (exact q_g fo_133_2)) ?_))) <;> (try refine h0a ?_; (first | (refine q_k (h0b rfl) ?_))) <;> (try refine h0a ?_; (first | (first | (refine K1_aadd (i:=0) Tryz.func69 (by kernel_rfl) (by kernel_rfl) (by kernel_rfl) (by kernel_rfl) rfl rfl rfl rfl hv ?_; (try simp only [List.set_cons_zero]); (try simp only [List.setIfInBounds_toArray]))))) <;> (try refine h0a ?_; (first | (refine q_k (h0c rfl) ?_))) <;> (try refine h0e ?_)) | ((first | (refine h0o rfl (fun hc => ?_) (fun hc => ?_)) | (refine h0z rfl (fun hc => ?_) (fun hc => ?_)) | (refine h1r rfl (fun hc => ?_) (fun hc => ?_))) <;> (try subst hc)))
 (refine h2o Tryz.results50 (.tmp rfl .nil) ?_)
 exact ⟨_, ⟨rfl, rfl⟩, fun _ H => H⟩
structure Cll where
 num : Int
 name : ByteArray
 args : Int
def Cll.cells (c : Cll) : List Value := [.int .u32 c.num, .string c.name, .int .i64 c.args]
def Cll.v (c : Cll) : Value := .agg #[.int .u32 c.num, .string c.name, .int .i64 c.args]
theorem Fn.permI {P : Program} {F : FuncId} {args : Array Value} {S : List Nat} {w0 : World} {L1 L2 : List Blk} {Q : Value → Prop} (hp : L1.Perm L2) (hc : Fn P F args S w0 L2 fun v L' => Q v ∧ L2 = L') : Fn P F args S w0 L1 fun v L' => Q v ∧ L1 = L' :=
 .mk fun w H => (hc.out w (H.perm hp)).mono fun e w' ⟨v, L', he, ⟨hQ, hL⟩, H'⟩ => ⟨v, L1, he, ⟨hQ, rfl⟩, (hL ▸ H').perm hp.symm⟩
theorem Fn.weak {P : Program} {F : FuncId} {args : Array Value} {S : List Nat} {w0 : World} {L1 L2 : List Blk} {R : Value → List Blk → Prop} (hL : ∀ w, HP S w0 w L1 → HP S w0 w L2) (hc : Fn P F args S w0 L2 R) : Fn P F args S w0 L1 R := .mk fun w H => hc.out w (hL w H)
structure CallD where
 task : Int
 frn : Bool
 num : Int
 n0 : Int
 n1 : Int
 t0 : ByteArray
 t1 : ByteArray
def CallD.cells (c : CallD) : List Value := [.int .u8 c.task, .bool c.frn, .int .u32 c.num, .int .u64 c.n0, .int .u64 c.n1, .string c.t0, .string c.t1]
structure CallD.ok (c : CallD) : Prop where
 task : 0 ≤ c.task ∧ c.task < 256
 num : 0 ≤ c.num ∧ c.num < 4294967296
 n0 : 0 ≤ c.n0 ∧ c.n0 < 18446744073709551616
 n1 : 0 ≤ c.n1 ∧ c.n1 < 18446744073709551616
 t0 : c.t0.size ≤ maxLen
 t1 : c.t1.size ≤ maxLen
def plB (c : UInt8) : Bool := decide (32 < c.toNat) && (decide (c.toNat < 127) && (!decide (c.toNat = 35) && !decide (c.toNat = 37)))
def hxB (n : Nat) : UInt8 := (lB D16).getD n 0
def qB (c : UInt8) : List UInt8 := if plB c = true then [c] else [37, hxB (c.toNat / 16), hxB (c.toNat % 16)]
def quoteF (s : List UInt8) : List UInt8 := if s = [] then [45] else if s = [45] then [37, 50, 100] else s.flatMap qB
section
variable {P : Program} {n : Nat} {l : List (Nat × Value)} {S : List Nat} {w0 : World} {L : List Blk} {K : Act → World → Prop} {k : Kont} {ops : Array Oper} {d : Tmp} {ty : TypeId} {pos : String} {af : Array Edge}
theorem shape_at {w : World} (H : HP S w0 w L) (i : Nat) {q : Bool} {b : Nat} {cs : Array Value} {t : TypeId} {fr : Nat × Nat} (hi : L[i]? = some ⟨q, b, .cells cs t fr⟩) : w.shape? b = some (t, cs.size) := by
 have := H.at_ i hi
 simp only [World.shape?, this]
theorem E_toUnsafe {src dst t e : TypeId} {m : Nat} {x : Operand} {b i : Nat} {q : Bool} {cs : Array Value} {fr : Nat × Nat} (hx : ev l x = some (.pointer (some ⟨b, 0, none⟩))) (hs : P.underlying src = some (.pointer t)) (hd : P.underlying dst = some .unsafePointer) (ht : (P.info? t).map (·.size) = some m) (hj : Nat.blt 0 m = true)
  (hi : L[i]? = some ⟨q, b, .cells cs e fr⟩) (hc : 0 < cs.size) : ValOf P n l S w0 L ⟨some d, .convert src dst x, ty, pos, af, none⟩ (.pointer (some ⟨b, 0, none⟩)) :=
 ⟨fun a w hf H => by
  obtain ⟨inf, hi2, hi3⟩ := Option.map_eq_some_iff.1 ht
  have hj' : inf.size ≠ 0 := by have := Nat.le_of_ble_eq_true hj; omega
  simp only [execOp, hf.eval hx, Sem.run_bind, Lib.run_to_unsafe (P:=P) (w:=w) ⟨b, 0, none⟩ hs hd hi2 hj' (shape_at H i hi) hc, Result.andThen_ok, Sem.run_pure]⟩
theorem E_fromUnsafe {src dst u e : TypeId} {m : Nat} {x : Operand} {b i : Nat} {q : Bool} {cs : Array Value} {fr : Nat × Nat} (hx : ev l x = some (.pointer (some ⟨b, 0, none⟩))) (hs : P.underlying src = some .unsafePointer) (hd : P.underlying dst = some (.pointer u)) (hu : (P.info? u).map (·.size) = some m)
  (hi : L[i]? = some ⟨q, b, .cells cs e fr⟩) (hlies : liesAt P P.depth e (cs.size / P.cellsOf e) 0 u 1 = true) : ValOf P n l S w0 L ⟨some d, .convert src dst x, ty, pos, af, none⟩ (.pointer (some ⟨b, 0, none⟩)) :=
 ⟨fun a w hf H => by
  obtain ⟨inf, hi2, hi3⟩ := Option.map_eq_some_iff.1 hu
  simp only [execOp, hf.eval hx, Sem.run_bind, Lib.run_from_unsafe (P:=P) (w:=w) ⟨b, 0, none⟩ hs hd hi2 (shape_at H i hi) hlies, Result.andThen_ok, Sem.run_pure]⟩
theorem rb_pne_same {t te : TypeId} {m : Nat} {a : Addr} (hp : P.underlying t = some (.pointer te)) (hte : (P.info? te).map (·.size) = some m) : RBin P .neq t (.pointer (some a)) (.pointer (some a)) (.bool false) := .mk fun w => by
 obtain ⟨inf, hi, -⟩ := Option.map_eq_some_iff.1 hte
 exact Lib.run_neq_ptr_same w a hp hi
theorem K1_noEsc {F : FuncId} {fn : Func} {x : Operand} {v : Value} {ats : Array TypeId} (hf : P.funcs[F]? = some fn) (hname : (fn.name == "runtime.NumGoroutine") = false) (hb : fn.body.isNone = true) (hn : Extern.findNext fn = none) (he : Extern.find fn = some Extern.AbiNoEscape.same) (hd : Nat.blt d n = true) (hx : ev l x = some v)
  (h : G n ((d, v) :: l) S w0 L K) : G n l S w0 L (K1 P ops k ⟨some d, .call { callee := .value (.func F), args := #[x], argTypes := ats }, ty, pos, af, none⟩ K) := .mk fun a w hF H => h3m rfl <| by
 unfold Oper.wp
 rw [execOp_call_go, List.map_toArray, hF.evals (xs:=[x]) (vs:=[v]) (by simp [evs, hx]), run_callFunc_extern hf hname hb hn he]
 exact h.out _ _ (hF.put (some d) v hd) H
theorem E_sliceData {x : Operand} {a : Addr} {m c : Nat} {ats : Array TypeId} (hx : ev l x = some (.slice (some a) m c)) (hc : c ≠ 0) : ValOf P n l S w0 L ⟨some d, .call { callee := .builtin .unsafeSliceData, args := #[x], argTypes := ats }, ty, pos, af, none⟩ (.pointer (some a)) :=
 h1n (xs:=[x]) (vs:=[.slice (some a) m c]) (by simp [evs, hx]) (fun cs => BigFrame.builtin_unsafeSliceData ..) ⟨fun w => Lib.run_unsafeSliceData_row _ _ _ _ _ _ hc⟩
theorem K1_unsafeStr {x y : Operand} {i g : Nat} {cur : Array Value} {z : List UInt8} {pt it e : TypeId} {m : Nat} (hd : Nat.blt d n = true) (hx : ev l x = some (.pointer (some ⟨g, 0, none⟩))) (hy : ev l y = some (.int .i64 (m : Nat))) (hi : L[i]? = some ⟨true, g, .cells cur e (0, 0)⟩)
  (hp : P.underlying pt = some (.pointer e)) (hc : P.cellsOf e = 1) (hm : z.length = m) (h0 : 0 < m) (hn : m ≤ cur.size) (h63 : m ≤ 9223372036854775807) (hcell : cur.toList.take m = Lib.byteCells z)
  (h : G n ((d, .string ⟨z.toArray⟩) :: l) S w0 (L.eraseIdx i) K) : G n l S w0 L (K1 P ops k ⟨some d, .call { callee := .builtin .unsafeString, args := #[x, y], argTypes := #[pt, it] }, ty, pos, af, none⟩ K) := .mk fun a w hf H => h3m rfl <| by
 subst hm
 have hgw := H.at_ i hi
 have hr := Lib.run_unsafeString_row (P:=P) w pt it ty e hp hc g cur.size (shape_at H i hi) z (fun h => by rw [h] at h0; simp at h0) hn h63 (fun j u hu => by
  have hadd : (⟨g, 0, none⟩ : Addr).add j = ⟨g, j, none⟩ := by unfold Addr.add; split <;> simp_all
  rw [hadd, cell_at H i hi]
  have hj : j < z.length := by
   rcases Nat.lt_or_ge j z.length with h | h
   ·exact h
   ·rw [List.getElem?_eq_none h] at hu; cases hu
  have h2 := congrArg (fun l => l[j]?) hcell
  simp only [List.getElem?_take, if_pos hj] at h2
  rw [← Array.getElem?_toList, h2]
  simp [Lib.byteCells, hu])
 unfold Oper.wp
 rw [BigFrame.execOp_builtin]
 simp only [List.map_toArray, List.map_cons, List.map_nil, hf.eval hx, hf.eval hy]
 rw [BigFrame.builtin_unsafeString]
 simp only [Sem.run_bind, hr, Result.andThen_ok, Sem.run_pure]
 have hz : z.length ≠ 0 := by omega
 have hgl : g < w.heap.size := H.lt i hi
 have HT := H.turn i (o:=.cells cur e (0, 0)) hi (w.freeze ⟨g, 0, none⟩ z.length) (.cells cur e (0, 0 + z.length)) (by unfold World.freeze; rw [if_neg hz]) (by unfold World.freeze; rw [if_neg hz]) (by unfold World.freeze; rw [if_neg hz])
  (by unfold World.freeze; rw [if_neg hz]; exact Array.size_modify) (by unfold World.freeze; rw [if_neg hz]; dsimp only; rw [Array.getElem?_modify, if_pos rfl]; have hgw' : w.heap[g]? = some (.cells cur e (0, 0)) := hgw; rw [hgw']; rfl) (fun k hk => by unfold World.freeze; rw [if_neg hz]; dsimp only; rw [Array.getElem?_modify, if_neg (fun h => hk h.symm)])
 refine h.out _ _ (hf.put (some d) _ hd) (HT.sub ?_)
 have : ∀ (L : List Blk) (i : Nat) (x : Blk), (L.eraseIdx i).Sublist (L.set i x) := by
  intro L
  induction L with
  | nil => intro i x; simp
  | cons y r ih =>
   intro i x
   cases i with
   | zero => exact List.sublist_cons_self _ _
   | succ i => exact (ih i x).cons_cons y
 exact this L i _
end
def h4c (s : ByteArray) : List Value := s.data.toList.map fun b => .int .u8 (b.toNat : Int)
theorem sBytes_len (s : ByteArray) : (h4c s).length = s.size := by unfold h4c; rw [List.length_map]; cases s; rfl
section
variable {P : Program} {n : Nat} {l : List (Nat × Value)} {S : List Nat} {w0 : World} {L : List Blk} {K : Act → World → Prop} {k : Kont} {ops : Array Oper} {d : Tmp} {ty : TypeId} {pos : String} {af : Array Edge}
theorem firstCells_str (s : ByteArray) (w : World) : (Builtin.firstCells 1 s.size (.string s)).run P w = .ok (h4c s).toArray w := by
 simp only [Builtin.firstCells, Sem.run_pure]
 congr 1
 have hx : s.extract 0 s.size = s := by simp
 rw [hx]
 apply Array.ext'
 simp [h4c]
theorem run_appS_room (w : World) (t u ty e : TypeId) (i : TypeInfo) (ht : P.underlying t = some (.slice e)) (hu : P.underlying u = some .string) (hi : P.info? e = some i) (h1 : i.size = 1)
  (g sLen sCap : Nat) (cur : Array Value) (hg : w.heap[g]? = some (.cells cur e (0, 0))) (s : ByteArray) (hroom : sLen + s.size ≤ sCap) (hfit : sLen + s.size ≤ cur.size) :
  (Builtin.append_ #[t, u] ty #[.slice (some ⟨g, 0, none⟩) sLen sCap, .string s]).run P w =
   .ok (.slice (some ⟨g, 0, none⟩) (sLen + s.size) sCap) (w.setRow g (cur.toList.take sLen ++ h4c s ++ cur.toList.drop (sLen + s.size)).toArray) := by
 have hone : ∀ u ∈ h4c s, u.oneCell' = true := by
  intro u hu
  unfold h4c at hu
  obtain ⟨b, _, rfl⟩ := List.mem_map.1 hu
  exact h3q
 have hf := firstCells_str (P:=P) s w
 have hst := run_storeCells_at P g sLen e (h4c s) 0 cur w hg (by simpa [sBytes_len] using hfit) hone
 simp only [Nat.add_zero, sBytes_len] at hst
 simp [Builtin.append_, run_underlying ht, run_underlying hu, sizeOf, typeInfo, hi, h1, Builtin.lenOf, hroom, hf, Addr.add_lit, hst]
theorem run_appS_grow (w : World) (t u ty e : TypeId) (i : TypeInfo) (z : Value) (ht : P.underlying t = some (.slice e)) (hu : P.underlying u = some .string) (hi : P.info? e = some i) (hz : i.zero = some z) (h1 : i.size = 1) (hb1 : i.bytes = 1)
  (b : Addr) (sLen sCap : Nat) (olds : List Value) (hlo : olds.length = sLen) (holds : ∀ j v, olds[j]? = some v → w.cell? (b.add j) = some v) (s : ByteArray)
  (hg : sCap < sLen + s.size) (h47 : sLen + s.size ≤ 140737488355328) :
  (Builtin.append_ #[t, u] ty #[.slice (some b) sLen sCap, .string s]).run P w =
   .ok (.slice (some ⟨w.heap.size, 0, none⟩) (sLen + s.size) (grownCap w (sLen + s.size) sCap e))
    (w.drew.alloc (.cells (olds.toArray ++ (h4c s).toArray ++ Builtin.zeroCells z.cells (grownCap w (sLen + s.size) sCap e - (sLen + s.size))) e)) := by
 have hn : ¬ (sLen + s.size ≤ sCap) := by omega
 have h63' : ¬ (9223372036854775807 < ((sLen : Int) + (s.size : Int))) := by omega
 have hfit : Builtin.nextslicecap (sLen + s.size) sCap * 1 ≤ 281474976710656 := growslice_fits hg (by omega)
 have h48' : ¬ (281474976710656 < Builtin.nextslicecap (sLen + s.size) sCap) := by omega
 have hf := firstCells_str (P:=P) s w.drew
 have hfo := run_firstCells_some (P:=P) w.drew 1 sLen b sLen sCap olds (by omega) (by simpa using holds)
 simp [Builtin.append_, run_underlying ht, run_underlying hu, sizeOf, typeInfo, zeroValue, hi, hz, h1, hb1, Builtin.lenOf, hn, h63', h48', Question.forced, hf, hfo, newRow, grownCap]
 congr 2
 apply Array.ext'
 simp [List.append_assoc]
theorem K1_appendStr {E : Nat} {t tt : TypeId} {inf : TypeInfo} {z : Value} {s y : Operand} {v : Value} {m : Nat} {xs : List Value} {e L0 : List Blk} {str : ByteArray}
  (hd : Nat.blt d n = true) (ht : P.underlying t = some (.slice E)) (hu : P.underlying tt = some .string) (hi : P.info? E = some inf) (hz : inf.zero = some z) (hsize : inf.size = 1) (hby : inf.bytes = 1) (hzs : z.cells.size = 1)
  (hs : ev l s = some v) (hy : ev l y = some (.string str)) (hown : Own E 1 v m xs e) (hm : 0 < m) (h47 : m + str.size ≤ 140737488355328) (hL : ∀ w, HP S w0 w L → HP S w0 w (e ++ L0)) {mm : Nat} {xn : List Value} (hmm : m + str.size = mm) (hxn : xs ++ h4c str = xn)
  (h : ∀ v' e', Own E 1 v' mm xn e' → G n ((d, v') :: l) S w0 (e' ++ L0) K) :
  G n l S w0 L (K1 P ops k ⟨some d, .call { callee := .builtin .append, args := #[s, y], argTypes := #[t, tt] }, ty, pos, af, none⟩ K) := .mk fun a w hf H => h3m rfl <| by
 subst hmm hxn
 have H' := hL w H
 obtain ⟨g, cap, cur, rfl, rfl, hnc, hcm, hcs, htake⟩ := hown.some hm
 rw [Nat.mul_one] at hcs htake
 have hlen : (xs ++ h4c str).length = (m + str.size) * 1 := by rw [List.length_append, hown.1, sBytes_len, Nat.mul_one, Nat.mul_one]
 have hgw : w.heap[g]? = some (.cells cur E (0, 0)) := H'.at_ 0 (p:=⟨true, g, .cells cur E (0, 0)⟩) rfl
 have HL : HP S w0 w L0 := H'.sub (List.sublist_append_right _ _)
 unfold Oper.wp execOp
 simp only [resolve, invoke, builtin, Sem.run_bind, Sem.run_pure, Result.andThen_ok, List.map_toArray, List.map_cons, List.map_nil, hf.eval hs, hf.eval hy]
 by_cases hroom : m + str.size ≤ cap
 ·have hr := run_appS_room (P:=P) w t tt ty E inf ht hu hi hsize g m cap cur hgw str hroom (by omega)
  rw [hr]
  have HT := H'.turn 0 (o:=.cells cur E (0, 0)) rfl (w.setRow g (cur.toList.take m ++ h4c str ++ cur.toList.drop (m + str.size)).toArray) _ rfl rfl rfl (size_setRow w g _)
   (setRow_heap w g cur _ E _ hgw) (fun k hk => setRow_other w g k _ hk)
  refine (h _ [⟨true, g, .cells (cur.toList.take m ++ h4c str ++ cur.toList.drop (m + str.size)).toArray E (0, 0)⟩] ⟨hlen, .inr ⟨g, cap, _, rfl, rfl, hroom, hcm, ?_, ?_⟩⟩).out _ _ (hf.put (some d) _ hd) HT
  ·simp only [List.size_toArray, List.length_append, List.length_take, List.length_drop, Array.length_toList, sBytes_len]
   omega
  ·rw [htake, ← hlen]
   exact List.take_left
 ·have holds : ∀ j u, xs[j]? = some u → w.cell? ((⟨g, 0, none⟩ : Addr).add j) = some u := by
   intro j u hj
   have hadd : (⟨g, 0, none⟩ : Addr).add j = ⟨g, j, none⟩ := by unfold Addr.add; split <;> simp_all
   rw [hadd, cell_of_row w g j cur E (0, 0) hgw]
   rw [← htake, List.getElem?_take] at hj
   split at hj
   ·simpa using hj
   ·simp at hj
  have hr := run_appS_grow (P:=P) w t tt ty E inf z ht hu hi hz hsize hby ⟨g, 0, none⟩ m cap xs (by have := hown.1; omega) holds str (by omega) h47
  rw [hr]
  have hge := grownCap_ge w (m + str.size) cap E
  have hcm2 : grownCap w (m + str.size) cap E ≤ maxLen := grownCap_le_maxLen w (m + str.size) cap E c_19
  refine (h _ [⟨true, w.heap.size, .cells (xs.toArray ++ (h4c str).toArray ++ Builtin.zeroCells z.cells (grownCap w (m + str.size) cap E - (m + str.size))) E (0, 0)⟩] ⟨hlen, .inr ⟨w.heap.size, _, _, rfl, rfl, hge, hcm2, ?_, ?_⟩⟩).out _ _ (hf.put (some d) _ hd) (HL.drew.alloc _)
  ·have h9 := hown.1
   simp only [Array.size_append, List.size_toArray, size_zeroCells, hzs, h9, sBytes_len, Nat.mul_one]
   omega
  ·simp only [Array.toList_append, List.append_assoc]
   rw [← List.append_assoc, ← hlen]
   exact List.take_left
theorem K1_appendStrB {E : Nat} {t tt : TypeId} {inf : TypeInfo} {z : Value} {s y : Operand} {g m cp j : Nat} {cur : Array Value} {str : ByteArray}
  (hd : Nat.blt d n = true) (ht : P.underlying t = some (.slice E)) (hu : P.underlying tt = some .string) (hi : P.info? E = some inf) (hz : inf.zero = some z) (hsize : inf.size = 1) (hby : inf.bytes = 1) (hzs : z.cells.size = 1)
  (hs : ev l s = some (.slice (some ⟨g, 0, none⟩) m cp)) (hy : ev l y = some (.string str)) (hown : L[j]? = some ⟨true, g, .cells cur E (0, 0)⟩) (hmc : m ≤ cp) (hcp : cp ≤ maxLen) (hcs : cur.size = cp * 1) (hm : 0 < m) (h47 : m + str.size ≤ 140737488355328)
  {mm : Nat} {xn : List Value} (hmm : m + str.size = mm) (hxn : cur.toList.take (m * 1) ++ h4c str = xn)
  (h : ∀ v' e', Own E 1 v' mm xn e' → G n ((d, v') :: l) S w0 (e' ++ L.eraseIdx j) K) :
  G n l S w0 L (K1 P ops k ⟨some d, .call { callee := .builtin .append, args := #[s, y], argTypes := #[t, tt] }, ty, pos, af, none⟩ K) :=
 K1_appendStr hd ht hu hi hz hsize hby hzs hs hy (Own.of_block hmc hcp hcs) hm h47 (fun _ H => H.pick hown) hmm hxn h
end
section
variable {P : Program} {n : Nat} {l : List (Nat × Value)} {S : List Nat} {w0 : World} {L : List Blk} {K : Act → World → Prop} {k : Kont} {ops : Array Oper} {d : Tmp} {ty : TypeId} {pos : String} {af : Array Edge}
theorem run_appS_nil (w : World) (t u ty e : TypeId) (i : TypeInfo) (z : Value) (ht : P.underlying t = some (.slice e)) (hu : P.underlying u = some .string) (hi : P.info? e = some i) (hz : i.zero = some z) (h1 : i.size = 1) (hb1 : i.bytes = 1) (s : ByteArray)
  (hg : 0 < s.size) (h47 : s.size ≤ 140737488355328) :
  (Builtin.append_ #[t, u] ty #[.slice none 0 0, .string s]).run P w =
   .ok (.slice (some ⟨w.heap.size, 0, none⟩) s.size (grownCap w s.size 0 e))
    (w.drew.alloc (.cells ((h4c s).toArray ++ Builtin.zeroCells z.cells (grownCap w s.size 0 e - s.size)) e)) := by
 have hn : ¬ (s.size = 0) := by omega
 have h63' : ¬ (9223372036854775807 < (s.size : Int)) := by omega
 have hfit : Builtin.nextslicecap s.size 0 * 1 ≤ 281474976710656 := growslice_fits hg (by omega)
 have h48' : ¬ (281474976710656 < Builtin.nextslicecap s.size 0) := by omega
 have hf := firstCells_str (P:=P) s w.drew
 have hf0 : (Builtin.firstCells 1 0 (.slice none 0 0)).run P w.drew = .ok #[] w.drew := by
  simp [Builtin.firstCells, Sem.run_pure]
 simp [Builtin.append_, run_underlying ht, run_underlying hu, sizeOf, typeInfo, zeroValue, hi, hz, h1, hb1, Builtin.lenOf, hn, h63', h48', Question.forced, hf, hf0, newRow, grownCap]
theorem K1_appendStrN {E : Nat} {t tt : TypeId} {inf : TypeInfo} {z : Value} {s y : Operand} {str : ByteArray}
  (hd : Nat.blt d n = true) (ht : P.underlying t = some (.slice E)) (hu : P.underlying tt = some .string) (hi : P.info? E = some inf) (hz : inf.zero = some z) (hsize : inf.size = 1) (hby : inf.bytes = 1) (hzs : z.cells.size = 1)
  (hs : ev l s = some (.slice none 0 0)) (hy : ev l y = some (.string str)) (hm : 0 < str.size) (h47 : str.size ≤ 140737488355328)
  (h : ∀ v' e', Own E 1 v' str.size (h4c str) e' → G n ((d, v') :: l) S w0 (e' ++ L) K) :
  G n l S w0 L (K1 P ops k ⟨some d, .call { callee := .builtin .append, args := #[s, y], argTypes := #[t, tt] }, ty, pos, af, none⟩ K) := .mk fun a w hf H => h3m rfl <| by
 have hlen : (h4c str).length = str.size * 1 := by rw [sBytes_len, Nat.mul_one]
 unfold Oper.wp execOp
 simp only [resolve, invoke, builtin, Sem.run_bind, Sem.run_pure, Result.andThen_ok, List.map_toArray, List.map_cons, List.map_nil, hf.eval hs, hf.eval hy]
 have hr := run_appS_nil (P:=P) w t tt ty E inf z ht hu hi hz hsize hby str hm h47
 rw [hr]
 have hge := grownCap_ge w str.size 0 E
 have hcm2 : grownCap w str.size 0 E ≤ maxLen := grownCap_le_maxLen w str.size 0 E c_19
 refine (h _ [⟨true, w.heap.size, .cells ((h4c str).toArray ++ Builtin.zeroCells z.cells (grownCap w str.size 0 E - str.size)) E (0, 0)⟩] ⟨hlen, .inr ⟨w.heap.size, _, _, rfl, rfl, hge, hcm2, ?_, ?_⟩⟩).out _ _ (hf.put (some d) _ hd) (H.drew.alloc _)
 ·simp only [Array.size_append, List.size_toArray, size_zeroCells, hzs, sBytes_len, Nat.mul_one]
  omega
 ·simp only [Array.toList_append]
  rw [← hlen]
  exact List.take_left
end
abbrev bB (b : Nat) (p v : Value) : Blk := ⟨true, b, .cells #[p, v] 88 (0, 0)⟩
abbrev bP (b : Nat) : Value := .pointer (some ⟨b, 0, none⟩)
theorem ccheck_c {S w0 L} (b : Nat) (p v : Value) (hp : p = .pointer none ∨ p = bP b) : Fn Tryz.prog 53 #[bP b] S w0 (bB b p v :: L) fun r L' => r = h3u [] ∧ bB b (bP b) v :: L = L' := by
 rcases hp with rfl | rfl
 ·refine Fn1 Tryz.func53 Tryz.ntmps53 rfl rfl ?_
  repeat' (first | refine h2j ?_ | refine h0e ?_ | refine h0w ?_ | refine h1i ?_ | refine h1g ?_ | refine h1h ?_ | refine h0u ?_ | refine h0v ?_ | refine h1m ?_ | refine h1l ?_ | refine h1k ?_ | refine h1j rfl ?_ | refine h1d ?_ | refine h1u ?_ | refine h1v ?_ | refine h2k ?_ | refine h0x rfl ?_ | refine h0y rfl ?_ | (refine gR 0 ?_ <;> (try refine h0a ?_; (first | (refine q_k (h0b rfl) ?_))) <;> (try refine h0a ?_; (first | (refine q_k (h0h rfl) ?_))) <;> (try refine h0a ?_; (first | (refine q_k (by first | (exact q_f fo_88_0) | (exact q_g fo_88_0)) ?_))) <;> (try refine h0a ?_; (first | (refine q_k (by apply h0p (t:=86); exact rfl; (focus (repeat (first | exact fd0 | (with_reducible assumption) | apply fdA | apply fdS))); kernel_rfl; kernel_rfl; exact h2c) ?_))) <;> (try refine h0a ?_; (first | (refine q_k (by exact q_b (r:=by first | exact h2s Tryz.underlying86 | exact h2u Tryz.underlying86 | exact h2t Tryz.underlying86)) ?_))) <;> (try refine h0e ?_)) | (refine gR 1 ?_ <;> (try refine h0a ?_; (first | (refine q_k (h0b rfl) ?_))) <;> (try refine h0a ?_; (first | (refine q_k (h0b rfl) ?_))) <;> (try refine h0a ?_; (first | (refine q_k (by apply E_toUnsafe (t:=88) (m:=2); exact rfl; exact Tryz.underlying86; exact Tryz.underlying195; kernel_rfl; exact rfl; (focus (repeat (first | exact fd0 | (with_reducible assumption) | apply fdA | apply fdS))); exact c_7) ?_))) <;> (try refine h0a ?_; (first | (first | (refine K1_noEsc (F:=71) Tryz.func71 (by kernel_rfl) (by kernel_rfl) (by kernel_rfl) (by kernel_rfl) rfl rfl ?_)))) <;> (try refine h0a ?_; (first | (refine q_k (by apply E_fromUnsafe (u:=88) (m:=2); exact rfl; exact Tryz.underlying195; exact Tryz.underlying86; kernel_rfl; (focus (repeat (first | exact fd0 | (with_reducible assumption) | apply fdA | apply fdS))); kernel_rfl) ?_))) <;> (try refine h0a ?_; (first | (refine q_k (h0h rfl) ?_))) <;> (try refine h0a ?_; (first | (refine q_k (by first | (exact q_f fo_88_0) | (exact q_g fo_88_0)) ?_))) <;> (try refine h0a ?_; (first | (apply h2f (t:=86); exact rfl; exact rfl; (focus (repeat (first | exact fd0 | (with_reducible assumption) | apply fdA | apply fdS))); exact rfl; exact rfl; kernel_rfl; exact c_7; exact c_20; (try simp only [List.set_cons_succ]); (try simp only [List.set_cons_zero])))) <;> (try refine h0e ?_)) | (refine gR 2 ?_ <;> (try refine h0a ?_; (first | (refine q_k (h0b rfl) ?_))) <;> (try refine h0a ?_; (first | (refine q_k (h0h rfl) ?_))) <;> (try refine h0a ?_; (first | (refine q_k (by first | (exact q_f fo_88_0) | (exact q_g fo_88_0)) ?_))) <;> (try refine h0a ?_; (first | (refine q_k (by apply h0p (t:=86); exact rfl; (focus (repeat (first | exact fd0 | (with_reducible assumption) | apply fdA | apply fdS))); kernel_rfl; kernel_rfl; exact h2c) ?_))) <;> (try refine h0a ?_; (first | (refine q_k (h0b rfl) ?_))) <;> (try refine h0a ?_; (first | (refine q_k (by exact q_b (r:=by first | exact h4h Tryz.underlying86 | exact h4j Tryz.underlying86 | exact h4i Tryz.underlying86 | exact rb_pne_same (m:=2) Tryz.underlying86 (by kernel_rfl))) ?_))) <;> (try refine h0e ?_)) | ((first | (refine h0o rfl (fun hc => ?_) (fun hc => ?_)) | (refine h0z rfl (fun hc => ?_) (fun hc => ?_)) | (refine h1r rfl (fun hc => ?_) (fun hc => ?_))) <;> (try subst hc)))
  (first | refine h2o Tryz.results53 .nil ?_ | refine G_done_n Tryz.results53 .nil ?_)
  exact ⟨_, ⟨rfl, rfl⟩, fun _ H => H⟩
 ·refine Fn1 Tryz.func53 Tryz.ntmps53 rfl rfl ?_
  repeat' (first | refine h2j ?_ | refine h0e ?_ | refine h0w ?_ | refine h1i ?_ | refine h1g ?_ | refine h1h ?_ | refine h0u ?_ | refine h0v ?_ | refine h1m ?_ | refine h1l ?_ | refine h1k ?_ | refine h1j rfl ?_ | refine h1d ?_ | refine h1u ?_ | refine h1v ?_ | refine h2k ?_ | refine h0x rfl ?_ | refine h0y rfl ?_ | (refine gR 0 ?_ <;> (try refine h0a ?_; (first | (refine q_k (h0b rfl) ?_))) <;> (try refine h0a ?_; (first | (refine q_k (h0h rfl) ?_))) <;> (try refine h0a ?_; (first | (refine q_k (by first | (exact q_f fo_88_0) | (exact q_g fo_88_0)) ?_))) <;> (try refine h0a ?_; (first | (refine q_k (by apply h0p (t:=86); exact rfl; (focus (repeat (first | exact fd0 | (with_reducible assumption) | apply fdA | apply fdS))); kernel_rfl; kernel_rfl; exact h2c) ?_))) <;> (try refine h0a ?_; (first | (refine q_k (by exact q_b (r:=by first | exact h2s Tryz.underlying86 | exact h2u Tryz.underlying86 | exact h2t Tryz.underlying86)) ?_))) <;> (try refine h0e ?_)) | (refine gR 1 ?_ <;> (try refine h0a ?_; (first | (refine q_k (h0b rfl) ?_))) <;> (try refine h0a ?_; (first | (refine q_k (h0b rfl) ?_))) <;> (try refine h0a ?_; (first | (refine q_k (by apply E_toUnsafe (t:=88) (m:=2); exact rfl; exact Tryz.underlying86; exact Tryz.underlying195; kernel_rfl; exact rfl; (focus (repeat (first | exact fd0 | (with_reducible assumption) | apply fdA | apply fdS))); exact c_7) ?_))) <;> (try refine h0a ?_; (first | fail)) <;> (try refine h0a ?_; (first | (refine q_k (by apply E_fromUnsafe (u:=88) (m:=2); exact rfl; exact Tryz.underlying195; exact Tryz.underlying86; kernel_rfl; (focus (repeat (first | exact fd0 | (with_reducible assumption) | apply fdA | apply fdS))); kernel_rfl) ?_))) <;> (try refine h0a ?_; (first | (refine q_k (h0h rfl) ?_))) <;> (try refine h0a ?_; (first | (refine q_k (by first | (exact q_f fo_88_0) | (exact q_g fo_88_0)) ?_))) <;> (try refine h0a ?_; (first | (apply h2f (t:=86); exact rfl; exact rfl; (focus (repeat (first | exact fd0 | (with_reducible assumption) | apply fdA | apply fdS))); exact rfl; exact rfl; kernel_rfl; exact c_7; exact c_20; (try simp only [List.set_cons_succ]); (try simp only [List.set_cons_zero])))) <;> (try refine h0e ?_)) | (refine gR 2 ?_ <;> (try refine h0a ?_; (first | (refine q_k (h0b rfl) ?_))) <;> (try refine h0a ?_; (first | (refine q_k (h0h rfl) ?_))) <;> (try refine h0a ?_; (first | (refine q_k (by first | (exact q_f fo_88_0) | (exact q_g fo_88_0)) ?_))) <;> (try refine h0a ?_; (first | (refine q_k (by apply h0p (t:=86); exact rfl; (focus (repeat (first | exact fd0 | (with_reducible assumption) | apply fdA | apply fdS))); kernel_rfl; kernel_rfl; exact h2c) ?_))) <;> (try refine h0a ?_; (first | (refine q_k (h0b rfl) ?_))) <;> (try refine h0a ?_; (first | (refine q_k (by exact q_b (r:=by first | exact h4h Tryz.underlying86 | exact h4j Tryz.underlying86 | exact h4i Tryz.underlying86 | exact rb_pne_same (m:=2) Tryz.underlying86 (by kernel_rfl))) ?_))) <;> (try refine h0e ?_)) | ((first | (refine h0o rfl (fun hc => ?_) (fun hc => ?_)) | (refine h0z rfl (fun hc => ?_) (fun hc => ?_)) | (refine h1r rfl (fun hc => ?_) (fun hc => ?_))) <;> (try subst hc)))
  (first | refine h2o Tryz.results53 .nil ?_ | refine G_done_n Tryz.results53 .nil ?_)
  exact ⟨_, ⟨rfl, rfl⟩, fun _ H => H⟩
set_option maxHeartbeats 1000000 in
theorem bwrite_c {S w0 L} (b : Nat) (p v : Value) (hp : p = .pointer none ∨ p = bP b) (n : Nat) (bs : List Value) (e : List Blk) (hn : n ≤ 1000000) (hown : Own 5 1 v n bs e) (hv : v = .slice none 0 0 ∨ 0 < n) (s : ByteArray) (hs : s.size ≤ 1000000) (hs1 : 0 < s.size) :
  Fn Tryz.prog 24 #[bP b, .string s] S w0 (bB b p v :: (e ++ L)) fun r L' => r = h3u [.int .i64 s.size, .nilIface] ∧ ∃ v' e', Own 5 1 v' (n + s.size) (bs ++ h4c s) e' ∧ bB b (bP b) v' :: (e' ++ L) = L' := by
 have hcc := fun (L : List Blk) => ccheck_c (S:=S) (w0:=w0) (L:=L) b p v hp
 rcases own_cases hown with ⟨rfl, rfl, rfl, rfl⟩ | ⟨g, cap, cur, rfl, rfl, h1, h2, h3, h4⟩
 ·clear hown hv
  refine Fn2 Tryz.func24 Tryz.ntmps24 rfl rfl ?_
  simp only [List.nil_append]
  repeat' (first | refine h2j ?_ | refine h0e ?_ | refine h0w ?_ | refine h1i ?_ | refine h1g ?_ | refine h1h ?_ | refine h0u ?_ | refine h0v ?_ | refine h1m ?_ | refine h1l ?_ | refine h1k ?_ | refine h1j rfl ?_ | refine h1d ?_ | refine h1u ?_ | refine h1v ?_ | refine h2k ?_ | refine h0x rfl ?_ | refine h0y rfl ?_ | (refine gR 0 ?_ <;> (try refine h0a ?_; (first | (refine q_k (h0c rfl) ?_))) <;> (try refine h0a ?_; (first | (refine q_k (h0c rfl) ?_))) <;> (try refine h0e ?_)) | (refine gR 1 ?_ <;> (try refine h0a ?_; (first | (refine q_k (h0b rfl) ?_))) <;> (try refine h0a ?_; (first | (first | (refine h1x (F:=53) (by kernel_rfl) rfl rfl (hcc _) ?_; rintro _ _ ⟨rfl, rfl⟩)))) <;> (try refine h0e ?_)) | (refine gR 2 ?_ <;> (try refine h0a ?_; (first | (refine q_k (h0b rfl) ?_))) <;> (try refine h0a ?_; (first | (refine q_k (h0b rfl) ?_))) <;> (try refine h0a ?_; (first | (refine q_k (h0h rfl) ?_))) <;> (try refine h0a ?_; (first | (refine q_k (by first | (exact q_f h3h) | (exact q_g h3h)) ?_))) <;> (try refine h0a ?_; (first | (refine q_k (by apply h0p (t:=53); exact rfl; (focus (repeat (first | exact fd0 | (with_reducible assumption) | apply fdA | apply fdS))); kernel_rfl; kernel_rfl; exact h2c) ?_))) <;> (try refine h0a ?_; (first | (refine q_k (h0b rfl) ?_))) <;> (try refine h0a ?_; (first | (first | (apply K1_appendStrN; exact rfl; exact Tryz.underlying53; exact Tryz.underlying9; exact h1c; exact h1e; exact h1b; exact h1f; exact rfl; exact rfl; exact rfl; (omega); (omega); intro vA eA hownA; obtain ⟨gA, capA, curA, rfl, rfl, hA1, hA2, hA3, hA4⟩ := hownA.some (by omega)) | (first | (apply K1_appendStrB; exact rfl; exact Tryz.underlying53; exact Tryz.underlying9; exact h1c; exact h1e; exact h1b; exact h1f; exact rfl; exact rfl; exact rfl; (focus (repeat (first | exact fd0 | (with_reducible assumption) | apply fdA | apply fdS))); exact c_7; exact c_9; exact c_11; (omega); (omega); exact c_12; exact c_5; (try simp only [zzE, zzF]); intro vA eA hownA; obtain ⟨gA, capA, curA, rfl, rfl, hA1, hA2, hA3, hA4⟩ := hownA.some (by omega)) | (apply K1_appendStr; exact rfl; exact Tryz.underlying53; exact Tryz.underlying9; exact h1c; exact h1e; exact h1b; exact h1f; exact rfl; exact rfl; exact rfl; (focus (first | (with_reducible assumption) | exact Own.nil _ _ | exact Own.of_block (Nat.le_of_ble_eq_true rfl) (Nat.le_of_ble_eq_true rfl) rfl)); (omega); (omega); exact h0n; exact c_12; exact c_5; intro vA eA hownA; obtain ⟨gA, capA, curA, rfl, rfl, hA1, hA2, hA3, hA4⟩ := hownA.some (by omega)))))) <;> (try refine h0a ?_; (first | (refine q_k (h0h rfl) ?_))) <;> (try refine h0a ?_; (first | (refine q_k (by first | (exact q_f h3h) | (exact q_g h3h)) ?_))) <;> (try refine h0a ?_; (first | (apply h2f (t:=53); exact rfl; exact rfl; (focus (repeat (first | exact fd0 | (with_reducible assumption) | apply fdA | apply fdS))); exact rfl; exact rfl; kernel_rfl; exact c_7; exact c_20; (try simp only [List.set_cons_succ]); (try simp only [List.set_cons_zero])))) <;> (try refine h0e ?_)) | (refine gR 3 ?_ <;> (try refine h0a ?_; (first | (refine q_k (h0b rfl) ?_))) <;> (try refine h0a ?_; (first | (refine q_k (h1n rfl (fun _ => BigFrame.builtin_len ..) (h2a Tryz.underlying9)) ?_))) <;> (try refine h0a ?_; (first | (refine q_k (h0c rfl) ?_))) <;> (try refine h0a ?_; (first | (refine q_k (h0c rfl) ?_))) <;> (try refine h0e ?_)) | ((first | (refine h0o rfl (fun hc => ?_) (fun hc => ?_)) | (refine h0z rfl (fun hc => ?_) (fun hc => ?_)) | (refine h1r rfl (fun hc => ?_) (fun hc => ?_))) <;> (try subst hc)))
  (refine h2o Tryz.results24 (.tmp rfl (.tmp rfl .nil)) ?_)
  refine ⟨_, ⟨rfl, .slice (some ⟨gA, 0, none⟩) s.size capA, [⟨true, gA, .cells curA 5 (0, 0)⟩], ?_, rfl⟩, fun _ H => H.perm (.swap _ _ _)⟩
  rw [Nat.zero_add]; exact own_mk hA1 hA2 hA3 hA4
 ·have hn0 : 0 < n := by
   rcases hv with h | h
   ·cases h
   ·exact h
  unfold maxLen at h2
  clear hown hv
  simp only [List.cons_append, List.nil_append]
  refine Fn2 Tryz.func24 Tryz.ntmps24 rfl rfl ?_
  repeat' (first | refine h2j ?_ | refine h0e ?_ | refine h0w ?_ | refine h1i ?_ | refine h1g ?_ | refine h1h ?_ | refine h0u ?_ | refine h0v ?_ | refine h1m ?_ | refine h1l ?_ | refine h1k ?_ | refine h1j rfl ?_ | refine h1d ?_ | refine h1u ?_ | refine h1v ?_ | refine h2k ?_ | refine h0x rfl ?_ | refine h0y rfl ?_ | (refine gR 0 ?_ <;> (try refine h0a ?_; (first | (refine q_k (h0c rfl) ?_))) <;> (try refine h0a ?_; (first | (refine q_k (h0c rfl) ?_))) <;> (try refine h0e ?_)) | (refine gR 1 ?_ <;> (try refine h0a ?_; (first | (refine q_k (h0b rfl) ?_))) <;> (try refine h0a ?_; (first | (first | (refine h1x (F:=53) (by kernel_rfl) rfl rfl (hcc _) ?_; rintro _ _ ⟨rfl, rfl⟩)))) <;> (try refine h0e ?_)) | (refine gR 2 ?_ <;> (try refine h0a ?_; (first | (refine q_k (h0b rfl) ?_))) <;> (try refine h0a ?_; (first | (refine q_k (h0b rfl) ?_))) <;> (try refine h0a ?_; (first | (refine q_k (h0h rfl) ?_))) <;> (try refine h0a ?_; (first | (refine q_k (by first | (exact q_f h3h) | (exact q_g h3h)) ?_))) <;> (try refine h0a ?_; (first | (refine q_k (by apply h0p (t:=53); exact rfl; (focus (repeat (first | exact fd0 | (with_reducible assumption) | apply fdA | apply fdS))); kernel_rfl; kernel_rfl; exact h2c) ?_))) <;> (try refine h0a ?_; (first | (refine q_k (h0b rfl) ?_))) <;> (try refine h0a ?_; (first | (first | (apply K1_appendStrN; exact rfl; exact Tryz.underlying53; exact Tryz.underlying9; exact h1c; exact h1e; exact h1b; exact h1f; exact rfl; exact rfl; exact rfl; (omega); (omega); intro vA eA hownA; obtain ⟨gA, capA, curA, rfl, rfl, hA1, hA2, hA3, hA4⟩ := hownA.some (by omega)) | (first | (apply K1_appendStrB; exact rfl; exact Tryz.underlying53; exact Tryz.underlying9; exact h1c; exact h1e; exact h1b; exact h1f; exact rfl; exact rfl; exact rfl; (focus (repeat (first | exact fd0 | (with_reducible assumption) | apply fdA | apply fdS))); exact c_7; exact c_9; exact c_11; (omega); (omega); exact c_12; exact c_5; (try simp only [zzE, zzF]); intro vA eA hownA; obtain ⟨gA, capA, curA, rfl, rfl, hA1, hA2, hA3, hA4⟩ := hownA.some (by omega)) | (apply K1_appendStr; exact rfl; exact Tryz.underlying53; exact Tryz.underlying9; exact h1c; exact h1e; exact h1b; exact h1f; exact rfl; exact rfl; exact rfl; (focus (first | (with_reducible assumption) | exact Own.nil _ _ | exact Own.of_block (Nat.le_of_ble_eq_true rfl) (Nat.le_of_ble_eq_true rfl) rfl)); (omega); (omega); exact h0n; exact c_12; exact c_5; intro vA eA hownA; obtain ⟨gA, capA, curA, rfl, rfl, hA1, hA2, hA3, hA4⟩ := hownA.some (by omega)))))) <;> (try refine h0a ?_; (first | (refine q_k (h0h rfl) ?_))) <;> (try refine h0a ?_; (first | (refine q_k (by first | (exact q_f h3h) | (exact q_g h3h)) ?_))) <;> (try refine h0a ?_; (first | (apply h2f (t:=53); exact rfl; exact rfl; (focus (repeat (first | exact fd0 | (with_reducible assumption) | apply fdA | apply fdS))); exact rfl; exact rfl; kernel_rfl; exact c_7; exact c_20; (try simp only [List.set_cons_succ]); (try simp only [List.set_cons_zero])))) <;> (try refine h0e ?_)) | (refine gR 3 ?_ <;> (try refine h0a ?_; (first | (refine q_k (h0b rfl) ?_))) <;> (try refine h0a ?_; (first | (refine q_k (h1n rfl (fun _ => BigFrame.builtin_len ..) (h2a Tryz.underlying9)) ?_))) <;> (try refine h0a ?_; (first | (refine q_k (h0c rfl) ?_))) <;> (try refine h0a ?_; (first | (refine q_k (h0c rfl) ?_))) <;> (try refine h0e ?_)) | ((first | (refine h0o rfl (fun hc => ?_) (fun hc => ?_)) | (refine h0z rfl (fun hc => ?_) (fun hc => ?_)) | (refine h1r rfl (fun hc => ?_) (fun hc => ?_))) <;> (try subst hc)))
  (refine h2o Tryz.results24 (.tmp rfl (.tmp rfl .nil)) ?_)
  refine ⟨_, ⟨rfl, .slice (some ⟨gA, 0, none⟩) (n + s.size) capA, [⟨true, gA, .cells curA 5 (0, 0)⟩], ?_, rfl⟩, fun _ H => H.perm (.swap _ _ _)⟩
  rw [← h4]; exact own_mk hA1 hA2 hA3 hA4
set_option maxHeartbeats 1000000 in
theorem bstring_c {S w0 L} (b : Nat) (p v : Value) (z : List UInt8) (e : List Blk) (hz : 0 < z.length) (hl : z.length ≤ 1000000) (hown : Own 5 1 v z.length (Lib.byteCells z) e) :
  Fn Tryz.prog 33 #[bP b] S w0 (bB b p v :: (e ++ L)) fun r L' => r = .string (mB8 z) ∧ L = L' := by
 obtain ⟨g, cap, cur, rfl, rfl, h1, h2, h3, h4⟩ := hown.some hz
 unfold maxLen at h2
 have h4' : cur.toList.take z.length = Lib.byteCells z := by rw [Nat.mul_one] at h4; exact h4
 have hzz : z.length = z.length := rfl
 clear hown h4
 simp only [List.cons_append, List.nil_append]
 refine Fn1 Tryz.func33 Tryz.ntmps33 rfl rfl ?_
 repeat' (first | refine h2j ?_ | refine h0e ?_ | refine h0w ?_ | refine h1i ?_ | refine h1g ?_ | refine h1h ?_ | refine h0u ?_ | refine h0v ?_ | refine h1m ?_ | refine h1l ?_ | refine h1k ?_ | refine h1j rfl ?_ | refine h1d ?_ | refine h1u ?_ | refine h1v ?_ | refine h2k ?_ | refine h0x rfl ?_ | refine h0y rfl ?_ | (refine gR 0 ?_ <;> (try refine h0a ?_; (first | (refine q_k (h0c rfl) ?_))) <;> (try refine h0e ?_)) | ((apply G_regionHb (i:=1) (id:=1) (m:=12); exact c_8; kernel_rfl; exact rfl) <;> (try first | (refine q_t 0 (e:=c_0) (x:=by first | exact h0b rfl) (h:=?_)) | (refine h0d ?_)) <;> (try first | (refine q_t 1 (e:=c_0) (x:=by first | exact h0h rfl) (h:=?_)) | (refine h0d ?_)) <;> (try first | (refine q_t 2 (e:=c_0) (x:=by first | (first | (exact q_f h3h) | (exact q_g h3h))) (h:=?_)) | (refine h0d ?_)) <;> (try first | (refine q_t 3 (e:=c_0) (x:=by first | (apply h0p (t:=53); exact rfl; (focus (repeat (first | exact fd0 | (with_reducible assumption) | apply fdA | apply fdS))); kernel_rfl; kernel_rfl; exact h2c)) (h:=?_)) | (refine h0d ?_)) <;> (try first | (refine q_t 4 (e:=c_0) (x:=by first | (apply E_sliceData; exact rfl; (omega))) (h:=?_)) | (refine h0d ?_)) <;> (try first | (refine q_t 5 (e:=c_0) (x:=by first | exact h0b rfl) (h:=?_)) | (refine h0d ?_)) <;> (try first | (refine q_t 6 (e:=c_0) (x:=by first | exact h0h rfl) (h:=?_)) | (refine h0d ?_)) <;> (try first | (refine q_t 7 (e:=c_0) (x:=by first | (first | (exact q_f h3h) | (exact q_g h3h))) (h:=?_)) | (refine h0d ?_)) <;> (try first | (refine q_t 8 (e:=c_0) (x:=by first | (apply h0p (t:=53); exact rfl; (focus (repeat (first | exact fd0 | (with_reducible assumption) | apply fdA | apply fdS))); kernel_rfl; kernel_rfl; exact h2c)) (h:=?_)) | (refine h0d ?_)) <;> (try first | (refine q_t 9 (e:=c_0) (x:=by first | (apply h1n; exact rfl; exact (fun _ => BigFrame.builtin_len ..); apply h2e Tryz.underlying53; exact c_16)) (h:=?_)) | (refine h0d ?_)) <;> (try first | (refine q_r 10 ?_; (first | (apply K1_unsafeStr; exact rfl; exact rfl; exact rfl; (focus (repeat (first | exact fd0 | (with_reducible assumption) | apply fdA | apply fdS))); exact Tryz.underlying173; kernel_rfl; (with_reducible assumption); (omega); (omega); (omega); (with_reducible assumption); (try simp only [zzE, zzF]))); refine H_go c_0 ?_) | (refine h0d ?_)) <;> (try first | (refine q_t 11 (e:=c_0) (x:=by first | exact h0c rfl) (h:=?_)) | (refine h0d ?_)) <;> (try refine h4g (by kernel_rfl) ?_)) | ((first | (refine h0o rfl (fun hc => ?_) (fun hc => ?_)) | (refine h0z rfl (fun hc => ?_) (fun hc => ?_)) | (refine h1r rfl (fun hc => ?_) (fun hc => ?_))) <;> (try subst hc)))
 all_goals
  (refine h2o Tryz.results33 (.tmp rfl .nil) ?_)
  exact ⟨_, ⟨rfl, rfl⟩, by intro w H; refine H.sub ?_; (try simp only [zzC, zzN]); repeat (first | exact List.Sublist.refl _ | refine List.Sublist.cons_cons _ ?_ | refine List.Sublist.cons _ ?_ | refine List.sublist_append_of_sublist_right ?_)⟩
section
variable {P : Program} {n : Nat} {l : List (Nat × Value)} {S : List Nat} {w0 : World} {L : List Blk} {d : Tmp} {ty : TypeId} {pos : String} {af : Array Edge}
theorem E_sliceDataN {x : Operand} {ats : Array TypeId} (hx : ev l x = some (.slice none 0 0)) : ValOf P n l S w0 L ⟨some d, .call { callee := .builtin .unsafeSliceData, args := #[x], argTypes := ats }, ty, pos, af, none⟩ (.pointer none) :=
 h1n (xs:=[x]) (vs:=[.slice none 0 0]) (by simp [evs, hx]) (fun cs => BigFrame.builtin_unsafeSliceData ..) ⟨fun _ => rfl⟩
theorem E_unsafeStr0 {x y : Operand} {pt it : TypeId} {p : Option Addr} (hx : ev l x = some (.pointer p)) (hy : ev l y = some (.int .i64 0)) : ValOf P n l S w0 L ⟨some d, .call { callee := .builtin .unsafeString, args := #[x, y], argTypes := #[pt, it] }, ty, pos, af, none⟩ (.string .empty) :=
 h1n (xs:=[x, y]) (vs:=[.pointer p, .int .i64 0]) (by simp [evs, hx, hy]) (fun cs => BigFrame.builtin_unsafeString ..) ⟨fun w => Lib.run_unsafeString_none w pt it _ p⟩
end
set_option maxHeartbeats 1000000 in
theorem bstring0_c {S w0 L} (b : Nat) (p : Value) :
  Fn Tryz.prog 33 #[bP b] S w0 (bB b p (.slice none 0 0) :: L) fun r L' => r = .string .empty ∧ L = L' := by
 refine Fn1 Tryz.func33 Tryz.ntmps33 rfl rfl ?_
 repeat' (first | refine h2j ?_ | refine h0e ?_ | refine h0w ?_ | refine h1i ?_ | refine h1g ?_ | refine h1h ?_ | refine h0u ?_ | refine h0v ?_ | refine h1m ?_ | refine h1l ?_ | refine h1k ?_ | refine h1j rfl ?_ | refine h1d ?_ | refine h1u ?_ | refine h1v ?_ | refine h2k ?_ | refine h0x rfl ?_ | refine h0y rfl ?_ | (refine gR 0 ?_ <;> (try refine h0a ?_; (first | (refine q_k (h0c rfl) ?_))) <;> (try refine h0e ?_)) | ((refine h2z (id:=1) (m:=12) (by kernel_rfl) rfl ?_) <;> (try first | (refine q_t 0 (e:=h0n) (x:=by first | exact h0b rfl) (h:=?_)) | (refine h0d ?_)) <;> (try first | (refine q_t 1 (e:=h0n) (x:=by first | exact h0h rfl) (h:=?_)) | (refine h0d ?_)) <;> (try first | (refine q_t 2 (e:=h0n) (x:=by first | (first | (exact q_f h3h) | (exact q_g h3h))) (h:=?_)) | (refine h0d ?_)) <;> (try first | (refine q_t 3 (e:=h0n) (x:=by first | (apply h0p (t:=53); exact rfl; (focus (repeat (first | exact fd0 | (with_reducible assumption) | apply fdA | apply fdS))); kernel_rfl; kernel_rfl; exact h2c)) (h:=?_)) | (refine h0d ?_)) <;> (try first | (refine q_t 4 (e:=h0n) (x:=by first | (apply E_sliceDataN; exact rfl)) (h:=?_)) | (refine h0d ?_)) <;> (try first | (refine q_t 5 (e:=h0n) (x:=by first | exact h0b rfl) (h:=?_)) | (refine h0d ?_)) <;> (try first | (refine q_t 6 (e:=h0n) (x:=by first | exact h0h rfl) (h:=?_)) | (refine h0d ?_)) <;> (try first | (refine q_t 7 (e:=h0n) (x:=by first | (first | (exact q_f h3h) | (exact q_g h3h))) (h:=?_)) | (refine h0d ?_)) <;> (try first | (refine q_t 8 (e:=h0n) (x:=by first | (apply h0p (t:=53); exact rfl; (focus (repeat (first | exact fd0 | (with_reducible assumption) | apply fdA | apply fdS))); kernel_rfl; kernel_rfl; exact h2c)) (h:=?_)) | (refine h0d ?_)) <;> (try first | (refine q_t 9 (e:=h0n) (x:=by first | (apply h1n; exact rfl; exact (fun _ => BigFrame.builtin_len ..); apply h2e Tryz.underlying53; exact c_16)) (h:=?_)) | (refine h0d ?_)) <;> (try first | (refine q_t 10 (e:=h0n) (x:=by first | (apply E_unsafeStr0; exact rfl; exact rfl)) (h:=?_)) | (refine h0d ?_)) <;> (try first | (refine q_t 11 (e:=h0n) (x:=by first | exact h0c rfl) (h:=?_)) | (refine h0d ?_)) <;> (try refine h4g (by kernel_rfl) ?_)) | ((first | (refine h0o rfl (fun hc => ?_) (fun hc => ?_)) | (refine h0z rfl (fun hc => ?_) (fun hc => ?_)) | (refine h1r rfl (fun hc => ?_) (fun hc => ?_))) <;> (try subst hc)))
 all_goals
  (refine h2o Tryz.results33 (.tmp rfl .nil) ?_)
  exact ⟨_, ⟨rfl, rfl⟩, by intro w H; refine H.sub ?_; (try simp only [zzC, zzN]); repeat (first | exact List.Sublist.refl _ | refine List.Sublist.cons_cons _ ?_ | refine List.Sublist.cons _ ?_ | refine List.sublist_append_of_sublist_right ?_)⟩
set_option maxHeartbeats 1000000 in
theorem bwriteb_c {S w0 L} (b : Nat) (p v : Value) (hp : p = .pointer none ∨ p = bP b) (n : Nat) (bs : List Value) (e : List Blk) (hn : n ≤ 1000000) (hown : Own 5 1 v n bs e) (x : Int) :
  Fn Tryz.prog 66 #[bP b, .int .u8 x] S w0 (bB b p v :: (e ++ L)) fun r L' => r = .nilIface ∧ ∃ v' e', Own 5 1 v' (n + 1) (bs ++ [.int .u8 x]) e' ∧ bB b (bP b) v' :: (e' ++ L) = L' := by
 have hcc := fun (L : List Blk) => ccheck_c (S:=S) (w0:=w0) (L:=L) b p v hp
 rcases own_cases hown with ⟨rfl, rfl, rfl, rfl⟩ | ⟨g, cap, cur, rfl, rfl, h1, h2, h3, h4⟩
 ·clear hown
  refine Fn2 Tryz.func66 Tryz.ntmps66 rfl rfl ?_
  simp only [List.nil_append]
  repeat' (first | refine h2j ?_ | refine h0e ?_ | refine h0w ?_ | refine h1i ?_ | refine h1g ?_ | refine h1h ?_ | refine h0u ?_ | refine h0v ?_ | refine h1m ?_ | refine h1l ?_ | refine h1k ?_ | refine h1j rfl ?_ | refine h1d ?_ | refine h1u ?_ | refine h1v ?_ | refine h2k ?_ | refine h0x rfl ?_ | refine h0y rfl ?_ | (refine gR 0 ?_ <;> (try refine h0a ?_; (first | (refine q_k (h0c rfl) ?_))) <;> (try refine h0e ?_)) | (refine gR 1 ?_ <;> (try refine h0a ?_; (first | (refine q_k (h0b rfl) ?_))) <;> (try refine h0a ?_; (first | (first | (refine h1x (F:=53) (by kernel_rfl) rfl rfl (hcc _) ?_; rintro _ _ ⟨rfl, rfl⟩)))) <;> (try refine h0e ?_)) | (refine gR 2 ?_ <;> (try refine h0a ?_; (first | (refine q_k (h0b rfl) ?_))) <;> (try refine h0a ?_; (first | (refine q_k (h0b rfl) ?_))) <;> (try refine h0a ?_; (first | (refine q_k (h0h rfl) ?_))) <;> (try refine h0a ?_; (first | (refine q_k (by first | (exact q_f h3h) | (exact q_g h3h)) ?_))) <;> (try refine h0a ?_; (first | (refine q_k (by apply h0p (t:=53); exact rfl; (focus (repeat (first | exact fd0 | (with_reducible assumption) | apply fdA | apply fdS))); kernel_rfl; kernel_rfl; exact h2c) ?_))) <;> (try refine h0a ?_; (first | (refine q_k (h0b rfl) ?_))) <;> (try refine h0a ?_; (first | (refine h2b (t:=53) (m:=1) (e:=5) (fun vs => (match vs with | [(_, x0)] => [x0] | _ => [])) rfl rfl (fun w => by kernel_rfl) ?_; intro nb hnb; (try simp only [Value.cells]); (try simp only [zzC, zzN])))) <;> (try refine h0a ?_; (first | (first | (apply h4a; exact rfl; exact Tryz.underlying53; exact h1c; exact h1e; exact h1b; exact h1f; exact rfl; exact rfl; exact rfl; (focus (first | (with_reducible assumption) | exact Own.nil _ _ | exact Own.of_block (Nat.le_of_ble_eq_true rfl) (Nat.le_of_ble_eq_true rfl) rfl)); (focus (repeat (first | exact fd0 | (with_reducible assumption) | apply fdA | apply fdS))); exact c_7; exact c_4; (focus (first | (with_reducible assumption) | exact rfl | (simp; done) | (simp [h3q, h3g, h3w, h3x, oc_sl, h3y, *]; done))); exact c_19; (omega); exact h0n; exact rfl; exact c_12; exact c_5; intro vA eA hownA; obtain ⟨gA, capA, curA, rfl, rfl, hA1, hA2, hA3, hA4⟩ := hownA.some (by omega)) | (apply h3s; exact rfl; exact Tryz.underlying53; exact h1c; exact h1e; exact h1b; exact h1f; exact rfl; exact rfl; exact rfl; (focus (repeat (first | exact fd0 | (with_reducible assumption) | apply fdA | apply fdS))); exact c_7; exact c_9; exact c_11; (focus (repeat (first | exact fd0 | (with_reducible assumption) | apply fdA | apply fdS))); exact c_7; exact c_4; (focus (first | (with_reducible assumption) | exact rfl | (simp; done) | (simp [h3q, h3g, h3w, h3x, oc_sl, h3y, *]; done))); exact c_19; (omega); exact rfl; exact c_12; exact c_5; (try simp only [zzE, zzF]); intro vA eA hownA; obtain ⟨gA, capA, curA, rfl, rfl, hA1, hA2, hA3, hA4⟩ := hownA.some (by omega))))) <;> (try refine h0a ?_; (first | (refine q_k (h0h rfl) ?_))) <;> (try refine h0a ?_; (first | (refine q_k (by first | (exact q_f h3h) | (exact q_g h3h)) ?_))) <;> (try refine h0a ?_; (first | (apply h2f (t:=53); exact rfl; exact rfl; (focus (repeat (first | exact fd0 | (with_reducible assumption) | apply fdA | apply fdS))); exact rfl; exact rfl; kernel_rfl; exact c_7; exact c_20; (try simp only [List.set_cons_succ]); (try simp only [List.set_cons_zero])))) <;> (try refine h0e ?_)) | (refine gR 3 ?_ <;> (try refine h0a ?_; (first | (refine q_k (h0c rfl) ?_))) <;> (try refine h0e ?_)) | ((first | (refine h0o rfl (fun hc => ?_) (fun hc => ?_)) | (refine h0z rfl (fun hc => ?_) (fun hc => ?_)) | (refine h1r rfl (fun hc => ?_) (fun hc => ?_))) <;> (try subst hc)))
  (refine h2o Tryz.results66 (.tmp rfl .nil) ?_)
  refine ⟨_, ⟨rfl, .slice (some ⟨gA, 0, none⟩) 1 capA, [⟨true, gA, .cells curA 5 (0, 0)⟩], ?_, rfl⟩, fun w H => HP.perm (HP.sub (L:=⟨true, gA, .cells curA 5 (0, 0)⟩ :: ⟨true, nb, .cells #[.int .u8 x] 5 (0, 0)⟩ :: bB b (bP b) (.slice (some ⟨gA, 0, none⟩) 1 capA) :: L) H (.cons_cons _ (.cons _ (List.Sublist.refl _)))) (.swap _ _ _)⟩
  exact own_mk hA1 hA2 hA3 hA4
 ·unfold maxLen at h2
  clear hown
  simp only [List.cons_append, List.nil_append]
  refine Fn2 Tryz.func66 Tryz.ntmps66 rfl rfl ?_
  repeat' (first | refine h2j ?_ | refine h0e ?_ | refine h0w ?_ | refine h1i ?_ | refine h1g ?_ | refine h1h ?_ | refine h0u ?_ | refine h0v ?_ | refine h1m ?_ | refine h1l ?_ | refine h1k ?_ | refine h1j rfl ?_ | refine h1d ?_ | refine h1u ?_ | refine h1v ?_ | refine h2k ?_ | refine h0x rfl ?_ | refine h0y rfl ?_ | (refine gR 0 ?_ <;> (try refine h0a ?_; (first | (refine q_k (h0c rfl) ?_))) <;> (try refine h0e ?_)) | (refine gR 1 ?_ <;> (try refine h0a ?_; (first | (refine q_k (h0b rfl) ?_))) <;> (try refine h0a ?_; (first | (first | (refine h1x (F:=53) (by kernel_rfl) rfl rfl (hcc _) ?_; rintro _ _ ⟨rfl, rfl⟩)))) <;> (try refine h0e ?_)) | (refine gR 2 ?_ <;> (try refine h0a ?_; (first | (refine q_k (h0b rfl) ?_))) <;> (try refine h0a ?_; (first | (refine q_k (h0b rfl) ?_))) <;> (try refine h0a ?_; (first | (refine q_k (h0h rfl) ?_))) <;> (try refine h0a ?_; (first | (refine q_k (by first | (exact q_f h3h) | (exact q_g h3h)) ?_))) <;> (try refine h0a ?_; (first | (refine q_k (by apply h0p (t:=53); exact rfl; (focus (repeat (first | exact fd0 | (with_reducible assumption) | apply fdA | apply fdS))); kernel_rfl; kernel_rfl; exact h2c) ?_))) <;> (try refine h0a ?_; (first | (refine q_k (h0b rfl) ?_))) <;> (try refine h0a ?_; (first | (refine h2b (t:=53) (m:=1) (e:=5) (fun vs => (match vs with | [(_, x0)] => [x0] | _ => [])) rfl rfl (fun w => by kernel_rfl) ?_; intro nb hnb; (try simp only [Value.cells]); (try simp only [zzC, zzN])))) <;> (try refine h0a ?_; (first | (first | (apply h4a; exact rfl; exact Tryz.underlying53; exact h1c; exact h1e; exact h1b; exact h1f; exact rfl; exact rfl; exact rfl; (focus (first | (with_reducible assumption) | exact Own.nil _ _ | exact Own.of_block (Nat.le_of_ble_eq_true rfl) (Nat.le_of_ble_eq_true rfl) rfl)); (focus (repeat (first | exact fd0 | (with_reducible assumption) | apply fdA | apply fdS))); exact c_7; exact c_4; (focus (first | (with_reducible assumption) | exact rfl | (simp; done) | (simp [h3q, h3g, h3w, h3x, oc_sl, h3y, *]; done))); exact c_19; (omega); exact h0n; exact rfl; exact c_12; exact c_5; intro vA eA hownA; obtain ⟨gA, capA, curA, rfl, rfl, hA1, hA2, hA3, hA4⟩ := hownA.some (by omega)) | (apply h3s; exact rfl; exact Tryz.underlying53; exact h1c; exact h1e; exact h1b; exact h1f; exact rfl; exact rfl; exact rfl; (focus (repeat (first | exact fd0 | (with_reducible assumption) | apply fdA | apply fdS))); exact c_7; exact c_9; exact c_11; (focus (repeat (first | exact fd0 | (with_reducible assumption) | apply fdA | apply fdS))); exact c_7; exact c_4; (focus (first | (with_reducible assumption) | exact rfl | (simp; done) | (simp [h3q, h3g, h3w, h3x, oc_sl, h3y, *]; done))); exact c_19; (omega); exact rfl; exact c_12; exact c_5; (try simp only [zzE, zzF]); intro vA eA hownA; obtain ⟨gA, capA, curA, rfl, rfl, hA1, hA2, hA3, hA4⟩ := hownA.some (by omega))))) <;> (try refine h0a ?_; (first | (refine q_k (h0h rfl) ?_))) <;> (try refine h0a ?_; (first | (refine q_k (by first | (exact q_f h3h) | (exact q_g h3h)) ?_))) <;> (try refine h0a ?_; (first | (apply h2f (t:=53); exact rfl; exact rfl; (focus (repeat (first | exact fd0 | (with_reducible assumption) | apply fdA | apply fdS))); exact rfl; exact rfl; kernel_rfl; exact c_7; exact c_20; (try simp only [List.set_cons_succ]); (try simp only [List.set_cons_zero])))) <;> (try refine h0e ?_)) | (refine gR 3 ?_ <;> (try refine h0a ?_; (first | (refine q_k (h0c rfl) ?_))) <;> (try refine h0e ?_)) | ((first | (refine h0o rfl (fun hc => ?_) (fun hc => ?_)) | (refine h0z rfl (fun hc => ?_) (fun hc => ?_)) | (refine h1r rfl (fun hc => ?_) (fun hc => ?_))) <;> (try subst hc)))
  (refine h2o Tryz.results66 (.tmp rfl .nil) ?_)
  refine ⟨_, ⟨rfl, .slice (some ⟨gA, 0, none⟩) (n + 1) capA, [⟨true, gA, .cells curA 5 (0, 0)⟩], ?_, rfl⟩, fun w H => HP.perm (HP.sub (L:=⟨true, gA, .cells curA 5 (0, 0)⟩ :: ⟨true, nb, .cells #[.int .u8 x] 5 (0, 0)⟩ :: bB b (bP b) (.slice (some ⟨gA, 0, none⟩) (n + 1) capA) :: L) H (.cons_cons _ (.cons _ (List.Sublist.refl _)))) (.swap _ _ _)⟩
  rw [← h4]; exact own_mk hA1 hA2 hA3 hA4
def BldI (b : Nat) (z : List UInt8) (B : List Blk) : Prop := ∃ p v e, B = bB b p v :: e ∧ (p = .pointer none ∨ p = bP b) ∧ Own 5 1 v z.length (Lib.byteCells z) e ∧ (v = .slice none 0 0 ∨ 0 < z.length)
theorem bldi_0 (b : Nat) : BldI b [] [bB b (.pointer none) (.slice none 0 0)] := ⟨_, _, [], rfl, .inl rfl, Own.nil _ _, .inl rfl⟩
theorem bldi_w {S w0 L} {b : Nat} {z : List UInt8} {B : List Blk} (h : BldI b z B) (hz : z.length ≤ 1000000) {x : Int} {c : UInt8} (hx : (c.toNat : Int) = x) :
  Fn Tryz.prog 66 #[bP b, .int .u8 x] S w0 (B ++ L) fun r L' => r = .nilIface ∧ ∃ B', BldI b (z ++ [c]) B' ∧ B' ++ L = L' := by
 obtain ⟨p, v, e, rfl, hp, hown, -⟩ := h
 refine (bwriteb_c (S:=S) (w0:=w0) (L:=L) b p v hp _ _ e hz hown x).mono ?_
 rintro r L' ⟨rfl, v', e', h', rfl⟩
 refine ⟨_, ⟨rfl, bB b (bP b) v' :: e', ⟨_, v', e', rfl, .inr rfl, ?_, .inr ?_⟩, rfl⟩, fun _ H => H⟩
 ·have e1 : (z ++ [c]).length = z.length + 1 := by rw [List.length_append]; rfl
  have e2 : Lib.byteCells (z ++ [c]) = Lib.byteCells z ++ [.int .u8 x] := by
   unfold Lib.byteCells
   rw [List.map_append, ← hx]; rfl
  rw [e1, e2]; exact h'
 ·rw [List.length_append, List.length_singleton]; omega
theorem bldi_t {S w0 L} {b : Nat} {z : List UInt8} {B : List Blk} (h : BldI b z B) (hz : z.length ≤ 1000000) (s : ByteArray) (hs : s.size ≤ 1000000) (hs1 : 0 < s.size) :
  Fn Tryz.prog 24 #[bP b, .string s] S w0 (B ++ L) fun r L' => r = h3u [.int .i64 s.size, .nilIface] ∧ ∃ B', BldI b (z ++ lB s) B' ∧ B' ++ L = L' := by
 obtain ⟨p, v, e, rfl, hp, hown, hnn⟩ := h
 refine (bwrite_c (S:=S) (w0:=w0) (L:=L) b p v hp _ _ e hz hown hnn s hs hs1).mono ?_
 rintro r L' ⟨rfl, v', e', h', rfl⟩
 refine ⟨_, ⟨rfl, bB b (bP b) v' :: e', ⟨_, v', e', rfl, .inr rfl, ?_, .inr ?_⟩, rfl⟩, fun _ H => H⟩
 ·have e1 : (z ++ lB s).length = z.length + s.size := by rw [List.length_append, lB_len]
  have e2 : Lib.byteCells (z ++ lB s) = Lib.byteCells z ++ h4c s := by
   unfold Lib.byteCells
   rw [List.map_append]; rfl
  rw [e1, e2]; exact h'
 ·rw [List.length_append, lB_len]; omega
theorem bldi_s {S w0 L} {b : Nat} {z : List UInt8} {B : List Blk} (h : BldI b z B) (hz : z.length ≤ 1000000) :
  Fn Tryz.prog 33 #[bP b] S w0 (B ++ L) fun r L' => r = .string (mB8 z) ∧ L = L' := by
 obtain ⟨p, v, e, rfl, hp, hown, hnn⟩ := h
 by_cases h0 : 0 < z.length
 ·exact bstring_c b p v z e h0 hz hown
 ·have hv : v = .slice none 0 0 := by
   rcases hnn with h | h
   ·exact h
   ·exact absurd h h0
  subst hv
  have hz0 : z = [] := List.eq_nil_of_length_eq_zero (by omega)
  subst hz0
  exact .mk fun w H => (bstring0_c (S:=S) (w0:=w0) (L:=L) b p).out w (H.sub (.cons_cons _ (List.sublist_append_right _ _)))
end Go.Proofs.YtnpnjicaigdjjaaGreat
