/- Part 2 of what the last text of this claim leans on: rules of walks, contracts, plain facts. Conditions: those of each statement. -/
import Derived.Test.YtnpnjicaigdjjaaGreatQv1
set_option maxRecDepth 100000
namespace Go.Proofs.YtnpnjicaigdjjaaGreat
open Go Go.RowKit
theorem h5g (a b : List UInt8) : mB8 a ++ mB8 b = mB8 (a ++ b) := by
 rw [← mB8_lB (mB8 a ++ mB8 b)]; congr 1
theorem h3k (a : List UInt8) : (mB8 a).size = a.length := by rw [← lB_len, lB_mB8]
theorem lB_get (s : ByteArray) (i : Nat) : (lB s)[i]? = s[i]? := by
 cases s with
 | mk d =>
  show d.toList[i]? = _
  rw [Array.getElem?_toList]
  rfl
theorem lB_inj {a b : ByteArray} (h : lB a = lB b) : a = b := by rw [← mB8_lB a, h, mB8_lB]
def decF (n : Nat) : List UInt8 := if n < 10 then [UInt8.ofNat (48 + n)] else decF (n / 10) ++ [UInt8.ofNat (48 + n % 10)]
termination_by n
decreasing_by omega
theorem decF_lt {n : Nat} (h : n < 10) : decF n = [UInt8.ofNat (48 + n)] := by rw [decF, if_pos h]
theorem decF_ge {n : Nat} (h : ¬ n < 10) : decF n = decF (n / 10) ++ decF (n % 10) := by rw [decF, if_neg h, decF_lt (n:=n % 10) (by omega)]
theorem h6a (k n : Nat) (hk : 0 < k) (h : n < 10 ^ k) : (decF n).length ≤ k := by
 induction k generalizing n with
 | zero => omega
 | succ k ih =>
  by_cases hn : n < 10
  ·rw [decF_lt hn]; simp
  ·rw [decF_ge hn, List.length_append, decF_lt (n:=n % 10) (by omega), List.length_singleton]
   have hk0 : 0 < k := by
    rcases Nat.eq_zero_or_pos k with rfl | h0
    ·omega
    ·exact h0
   have := ih (n / 10) hk0 (by rw [Nat.pow_succ] at h; omega)
   omega
theorem son1 (n : Nat) (h : n < 10) : strOfNums [48 + (n : Int)] = mB8 (decF n) := by
 rw [decF_lt h]
 have : ∀ k : Fin 10, strOfNums [48 + ((k.val : Nat) : Int)] = mB8 [UInt8.ofNat (48 + k.val)] := by decide +kernel
 exact this ⟨n, h⟩
theorem printed_c (n : Nat) : n < 18446744073709551616 → ∀ S w0 L, Fn Tryz.prog 43 #[.int .u64 (n : Int)] S w0 L fun v L' => v = .string (mB8 (decF n)) ∧ L = L' := by
 induction n using Nat.strongRecOn with
 | _ n ih =>
  intro hn S w0 L
  by_cases h : n < 10
  ·rw [← son1 n h]
   refine Fn1 Tryz.func43 Tryz.ntmps43 rfl rfl ?_
   repeat' (first | refine h2m ?_ | refine h0d ?_ | refine h0u ?_ | refine h1h ?_ | refine h1f ?_ | refine h1g ?_ | refine h0s ?_ | refine h0t ?_ | refine h1l ?_ | refine h1k ?_ | refine h1j ?_ | refine h1i rfl ?_ | refine h1a ?_ | refine h1u ?_ | refine h1v ?_ | refine h2n ?_ | refine h0v rfl ?_ | refine h0w rfl ?_ | (refine gR 0 ?_ <;> (try refine h0a ?_; (first | (refine q_k (h0b rfl) ?_))) <;> (try refine h0d ?_)) | (refine gR 1 ?_ <;> (try refine h0a ?_; (first | (refine q_k (h0c rfl) ?_))) <;> (try refine h0a ?_; (first | (refine q_k (by exact q_b (r:=by first | (exact h2e q_o) | (exact h2f q_o) | exact h2y)) ?_))) <;> (try refine h0d ?_)) | (refine gR 2 ?_ <;> (try refine h0a ?_; (first | (refine q_k (h0c rfl) ?_))) <;> (try refine h0a ?_; (first | (refine q_k (by exact q_b (r:=by apply rb_quo; (omega); (omega); exact c_6; (focus (first | (refine IntWalk.i64_in _ ?_; omega) | (refine IntWalk.u8_in _ ?_; omega) | (refine IntWalk.u16_in _ ?_; omega) | (refine IntWalk.u32_in _ ?_; omega) | (refine IntWalk.u64_in _ ?_; omega) | (refine IntWalk.i32_in _ ?_; omega) | exact rfl)))) ?_))) <;> (try refine h0a ?_; (first | fail)) <;> (try refine h0a ?_; (first | (refine q_k (h0c rfl) ?_))) <;> (try refine h0a ?_; (first | (refine q_k (q_b (r:=by apply rb_rem; (omega); (omega); exact c_6)) ?_))) <;> (try refine h0a ?_; (first | fail)) <;> (try refine h0a ?_; (first | (refine q_k (q_b (r:=by apply h0j; exact rfl; exact c_15)) ?_))) <;> (try refine h0a ?_; (first | (refine q_k (h0b rfl) ?_))) <;> (try refine h0d ?_)) | (refine gR 3 ?_ <;> (try refine h0a ?_; (first | (refine q_k (h0c rfl) ?_))) <;> (try refine h0a ?_; (first | (refine q_k (by exact q_b (r:=by apply h3j; exact c_6; (focus (first | (refine IntWalk.i64_in _ ?_; omega) | (refine IntWalk.u8_in _ ?_; omega) | (refine IntWalk.u16_in _ ?_; omega) | (refine IntWalk.u32_in _ ?_; omega) | (refine IntWalk.u64_in _ ?_; omega) | (refine IntWalk.i32_in _ ?_; omega) | exact rfl)))) ?_))) <;> (try refine h0a ?_; (first | (refine q_k (by apply h4f; exact rfl; (focus (apply h4d Tryz.underlying59 Tryz.underlying5; first | (refine IntWalk.i64_in _ ?_; omega) | (refine IntWalk.u8_in _ ?_; omega) | (refine IntWalk.u16_in _ ?_; omega) | (refine IntWalk.u32_in _ ?_; omega) | (refine IntWalk.u64_in _ ?_; omega) | (refine IntWalk.i32_in _ ?_; omega) | exact rfl))) ?_))) <;> (try refine h0a ?_; (first | (refine h2r (t:=53) (m:=1) (e:=5) (fun vs => (match vs with | [(_, x0)] => [x0] | _ => [])) rfl rfl (fun w => by kernel_rfl) ?_; intro nb hnb; (try simp only [Value.cells]); (try simp only [zzC, zzN])))) <;> (try refine h0a ?_; (first | (refine q_k (by first | (apply E_byteStrI; exact rfl; exact Tryz.underlying53; exact Tryz.underlying5; exact Tryz.underlying9; (focus (repeat (first | exact fd0 | (with_reducible assumption) | apply fdA | apply fdS)))) | (apply h3p; exact rfl; exact Tryz.underlying53; exact Tryz.underlying5; exact Tryz.underlying9; exact h1q; exact h1q)) ?_))) <;> (try refine h0a ?_; (first | (refine q_k (h0b rfl) ?_))) <;> (try refine h0d ?_)) | ((first | (refine h0o rfl (fun hc => ?_) (fun hc => ?_)) | (refine h0x rfl (fun hc => ?_) (fun hc => ?_)) | (refine h1r rfl (fun hc => ?_) (fun hc => ?_))) <;> (try subst hc)))
   (refine h2q Tryz.results43 (.tmp rfl .nil) ?_)
   exact ⟨_, ⟨rfl, rfl⟩, by intro w H; refine H.sub ?_; (try simp only [zzC, zzN]); repeat (first | exact List.Sublist.refl _ | refine List.Sublist.cons_cons _ ?_ | refine List.Sublist.cons _ ?_ | refine List.sublist_append_of_sublist_right ?_)⟩
  ·have i1 := fun (L : List Blk) => ih (n / 10) (by omega) (by omega) S w0 L
   have i2 := fun (L : List Blk) => ih (n % 10) (by omega) (by omega) S w0 L
   have e1 : ((n / 10 : Nat) : Int) = (n : Int) / 10 := rfl
   have e2 : ((n % 10 : Nat) : Int) = (n : Int) % 10 := rfl
   simp only [e1] at i1
   simp only [e2] at i2
   have hl1 := h6a 20 (n / 10) (by omega) (by omega)
   have hl2 := h6a 20 (n % 10) (by omega) (by omega)
   rw [← h3k] at hl1 hl2
   rw [decF_ge h, ← h5g]
   clear ih
   generalize mB8 (decF (n / 10)) = x at *
   generalize mB8 (decF (n % 10)) = y at *
   refine Fn1 Tryz.func43 Tryz.ntmps43 rfl rfl ?_
   repeat' (first | refine h2m ?_ | refine h0d ?_ | refine h0u ?_ | refine h1h ?_ | refine h1f ?_ | refine h1g ?_ | refine h0s ?_ | refine h0t ?_ | refine h1l ?_ | refine h1k ?_ | refine h1j ?_ | refine h1i rfl ?_ | refine h1a ?_ | refine h1u ?_ | refine h1v ?_ | refine h2n ?_ | refine h0v rfl ?_ | refine h0w rfl ?_ | (refine gR 0 ?_ <;> (try refine h0a ?_; (first | (refine q_k (h0b rfl) ?_))) <;> (try refine h0d ?_)) | (refine gR 1 ?_ <;> (try refine h0a ?_; (first | (refine q_k (h0c rfl) ?_))) <;> (try refine h0a ?_; (first | (refine q_k (by exact q_b (r:=by first | (exact h2e q_o) | (exact h2f q_o) | exact h2y)) ?_))) <;> (try refine h0d ?_)) | (refine gR 2 ?_ <;> (try refine h0a ?_; (first | (refine q_k (h0c rfl) ?_))) <;> (try refine h0a ?_; (first | (refine q_k (by exact q_b (r:=by apply rb_quo; (omega); (omega); exact c_6; (focus (first | (refine IntWalk.i64_in _ ?_; omega) | (refine IntWalk.u8_in _ ?_; omega) | (refine IntWalk.u16_in _ ?_; omega) | (refine IntWalk.u32_in _ ?_; omega) | (refine IntWalk.u64_in _ ?_; omega) | (refine IntWalk.i32_in _ ?_; omega) | exact rfl)))) ?_))) <;> (try refine h0a ?_; (first | (first | (refine h2d (F:=43) (by kernel_rfl) rfl rfl (i1 _) ?_; rintro _ _ ⟨rfl, rfl⟩) | (refine h2d (F:=43) (by kernel_rfl) rfl rfl (i2 _) ?_; rintro _ _ ⟨rfl, rfl⟩)))) <;> (try refine h0a ?_; (first | (refine q_k (h0c rfl) ?_))) <;> (try refine h0a ?_; (first | (refine q_k (q_b (r:=by apply rb_rem; (omega); (omega); exact c_6)) ?_))) <;> (try refine h0a ?_; (first | (first | (refine h2d (F:=43) (by kernel_rfl) rfl rfl (i1 _) ?_; rintro _ _ ⟨rfl, rfl⟩) | (refine h2d (F:=43) (by kernel_rfl) rfl rfl (i2 _) ?_; rintro _ _ ⟨rfl, rfl⟩)))) <;> (try refine h0a ?_; (first | (refine q_k (q_b (r:=by apply h0j; exact rfl; exact c_15)) ?_))) <;> (try refine h0a ?_; (first | (refine q_k (h0b rfl) ?_))) <;> (try refine h0d ?_)) | (refine gR 3 ?_ <;> (try refine h0a ?_; (first | (refine q_k (h0c rfl) ?_))) <;> (try refine h0a ?_; (first | (refine q_k (by exact q_b (r:=by apply h3j; exact c_6; (focus (first | (refine IntWalk.i64_in _ ?_; omega) | (refine IntWalk.u8_in _ ?_; omega) | (refine IntWalk.u16_in _ ?_; omega) | (refine IntWalk.u32_in _ ?_; omega) | (refine IntWalk.u64_in _ ?_; omega) | (refine IntWalk.i32_in _ ?_; omega) | exact rfl)))) ?_))) <;> (try refine h0a ?_; (first | (refine q_k (by apply h4f; exact rfl; (focus (apply h4d Tryz.underlying59 Tryz.underlying5; first | (refine IntWalk.i64_in _ ?_; omega) | (refine IntWalk.u8_in _ ?_; omega) | (refine IntWalk.u16_in _ ?_; omega) | (refine IntWalk.u32_in _ ?_; omega) | (refine IntWalk.u64_in _ ?_; omega) | (refine IntWalk.i32_in _ ?_; omega) | exact rfl))) ?_))) <;> (try refine h0a ?_; (first | (refine h2r (t:=53) (m:=1) (e:=5) (fun vs => (match vs with | [(_, x0)] => [x0] | _ => [])) rfl rfl (fun w => by kernel_rfl) ?_; intro nb hnb; (try simp only [Value.cells]); (try simp only [zzC, zzN])))) <;> (try refine h0a ?_; (first | (refine q_k (by first | (apply E_byteStrI; exact rfl; exact Tryz.underlying53; exact Tryz.underlying5; exact Tryz.underlying9; (focus (repeat (first | exact fd0 | (with_reducible assumption) | apply fdA | apply fdS)))) | (apply h3p; exact rfl; exact Tryz.underlying53; exact Tryz.underlying5; exact Tryz.underlying9; exact h1q; exact h1q)) ?_))) <;> (try refine h0a ?_; (first | (refine q_k (h0b rfl) ?_))) <;> (try refine h0d ?_)) | ((first | (refine h0o rfl (fun hc => ?_) (fun hc => ?_)) | (refine h0x rfl (fun hc => ?_) (fun hc => ?_)) | (refine h1r rfl (fun hc => ?_) (fun hc => ?_))) <;> (try subst hc)))
   (refine h2q Tryz.results43 (.tmp rfl .nil) ?_)
   exact ⟨_, ⟨rfl, rfl⟩, by intro w H; refine H.sub ?_; (try simp only [zzC, zzN]); repeat (first | exact List.Sublist.refl _ | refine List.Sublist.cons_cons _ ?_ | refine List.Sublist.cons _ ?_ | refine List.sublist_append_of_sublist_right ?_)⟩
structure RpD (n : Nat) (g : Nat × List UInt8) : Prop where
 lt : g.1 ≤ n
 eq : decF n = decF g.1 ++ g.2
 len : g.2.length ≤ 20
 fst : g.1 = 0 → g.2 = []
theorem rprinted_c {S w0 L} (n : Nat) (hn : n < 18446744073709551616) : Fn Tryz.prog 14 #[.int .u64 (n : Int)] S w0 L fun v L' => v = .string (mB8 (decF n)) ∧ L = L' := by
 refine Fn1 Tryz.func14 Tryz.ntmps14 rfl rfl ?_
 repeat' (first | (refine h5e (id:=0) ?_) | refine h2m ?_ | refine h0d ?_ | refine h0u ?_ | refine h1h ?_ | refine h1f ?_ | refine h1g ?_ | refine h0s ?_ | refine h0t ?_ | refine h1l ?_ | refine h1k ?_ | refine h1j ?_ | refine h1i rfl ?_ | refine h1a ?_ | refine h1u ?_ | refine h1v ?_ | refine h2n ?_ | refine h0v rfl ?_ | refine h0w rfl ?_ | (refine gR 0 ?_ <;> (try refine h0a ?_; (first | (refine q_k (h0b rfl) ?_))) <;> (try refine h0d ?_)) | (refine gR 1 ?_ <;> (try refine h0a ?_; (first | (refine q_k (h0b rfl) ?_))) <;> (try refine h0d ?_)) | (refine gR 2 ?_ <;> (try refine h0a ?_; (first | (refine q_k (h0c rfl) ?_))) <;> (try refine h0a ?_; (first | (refine q_k (q_b (r:=by apply rb_rem; (omega); (omega); exact c_6)) ?_))) <;> (try refine h0a ?_; (first | (refine q_k (by exact q_b (r:=by apply h3j; exact c_6; (focus (first | (refine IntWalk.i64_in _ ?_; omega) | (refine IntWalk.u8_in _ ?_; omega) | (refine IntWalk.u16_in _ ?_; omega) | (refine IntWalk.u32_in _ ?_; omega) | (refine IntWalk.u64_in _ ?_; omega) | (refine IntWalk.i32_in _ ?_; omega) | exact rfl)))) ?_))) <;> (try refine h0a ?_; (first | (refine q_k (by apply h4f; exact rfl; (focus (apply h4d Tryz.underlying59 Tryz.underlying5; first | (refine IntWalk.i64_in _ ?_; omega) | (refine IntWalk.u8_in _ ?_; omega) | (refine IntWalk.u16_in _ ?_; omega) | (refine IntWalk.u32_in _ ?_; omega) | (refine IntWalk.u64_in _ ?_; omega) | (refine IntWalk.i32_in _ ?_; omega) | exact rfl))) ?_))) <;> (try refine h0a ?_; (first | (refine h2r (t:=53) (m:=1) (e:=5) (fun vs => (match vs with | [(_, x0)] => [x0] | _ => [])) rfl rfl (fun w => by kernel_rfl) ?_; intro nb hnb; (try simp only [Value.cells]); (try simp only [zzC, zzN])))) <;> (try refine h0a ?_; (first | (refine q_k (by first | (apply E_byteStrI; exact rfl; exact Tryz.underlying53; exact Tryz.underlying5; exact Tryz.underlying9; (focus (repeat (first | exact fd0 | (with_reducible assumption) | apply fdA | apply fdS)))) | (apply h3p; exact rfl; exact Tryz.underlying53; exact Tryz.underlying5; exact Tryz.underlying9; exact h1q; exact h1q)) ?_))) <;> (try refine h0a ?_; (first | (refine q_k (h0c rfl) ?_))) <;> (try refine h0a ?_; (first | (refine q_k (q_b (r:=by apply h0j; exact rfl; exact c_15)) ?_))) <;> (try refine h0a ?_; (first | (refine q_k (h0b rfl) ?_))) <;> (try refine h0d ?_)) | (refine gR 3 ?_ <;> (try refine h0a ?_; (first | (refine q_k (h0c rfl) ?_))) <;> (try refine h0a ?_; (first | (refine q_k (by exact q_b (r:=by apply rb_quo; (omega); (omega); exact c_6; (focus (first | (refine IntWalk.i64_in _ ?_; omega) | (refine IntWalk.u8_in _ ?_; omega) | (refine IntWalk.u16_in _ ?_; omega) | (refine IntWalk.u32_in _ ?_; omega) | (refine IntWalk.u64_in _ ?_; omega) | (refine IntWalk.i32_in _ ?_; omega) | exact rfl)))) ?_))) <;> (try refine h0a ?_; (first | (refine q_k (h0b rfl) ?_))) <;> (try refine h0d ?_)) | (refine gR 4 ?_ <;> (try refine h0a ?_; (first | (refine q_k (h0c rfl) ?_))) <;> (try refine h0a ?_; (first | (refine q_k (by exact q_b (r:=by first | (refine h0r ?_; first | rfl | (with_reducible assumption) | (decide; done) | omega) | (exact h1e q_o) | exact h2h)) ?_))) <;> (try refine h0d ?_)) | (refine gR 5 ?_ <;> (try refine h0a ?_; (first | (refine q_k (h0c rfl) ?_))) <;> (try refine h0a ?_; (first | (refine q_k (h0b rfl) ?_))) <;> (try refine h0d ?_)) | ((first | (refine h0o rfl (fun hc => ?_) (fun hc => ?_)) | (refine h0x rfl (fun hc => ?_) (fun hc => ?_)) | (refine h1r rfl (fun hc => ?_) (fun hc => ?_))) <;> (try subst hc)))
 refine ⟨?_⟩
 refine h1a ?_
 refine G_loopk (γ:=Nat × List UInt8) (RpD n) (fun g => g.1) (fun g => [(0, .int .u64 (g.1 : Nat)), (3, .string (mB8 g.2))]) []
  (fun _ => L) (n, []) .nil ⟨Nat.le_refl _, (List.append_nil _).symm, Nat.zero_le _, fun _ => rfl⟩ (by (focus (repeat (first | exact Sub.nil | refine Sub.cons rfl ?_ | (refine Sub.cons (congrArg some ?_) ?_; (focus go_num)))))) c_3 ?_
 rintro ⟨m, u⟩ hI
 have hlt := hI.lt
 have hln := hI.len
 have hdl := h6a 20 n (by omega) (by omega)
 have heq := hI.eq
 dsimp only at hlt hln heq ⊢
 rw [heq, List.length_append] at hdl
 have hd : strOfNums [48 + ((m % 10 : Nat) : Int)] = mB8 (decF (m % 10)) := son1 _ (by omega)
 have hd2 : (decF (m % 10)).length = 1 := by rw [decF_lt (by omega)]; rfl
 have e2 : ((m % 10 : Nat) : Int) = (m : Int) % 10 := rfl
 rw [e2] at hd
 have hsz : (mB8 u).size = u.length := h3k u
 have hsd : (mB8 (decF (m % 10))).size = 1 := by rw [h3k, hd2]
 rw [← hd] at hsd
 have hcat : strOfNums [48 + (m : Int) % 10] ++ mB8 u = mB8 (decF (m % 10) ++ u) := by rw [hd, h5g]
 have e10 : (m : Int) / 10 = ((m / 10 : Nat) : Int) := rfl
 have hcat' := Lib.hid hcat
 have heq' := Lib.hid heq
 have hd2' := Lib.hid hd2
 have e10' := Lib.hid e10
 clear hI hd e2 hcat heq hd2 e10
 by_cases h0 : m / 10 = 0
 ·repeat' (first | refine h2m ?_ | refine h0d ?_ | refine h0u ?_ | refine h1h ?_ | refine h1f ?_ | refine h1g ?_ | refine h0s ?_ | refine h0t ?_ | refine h1l ?_ | refine h1k ?_ | refine h1j ?_ | refine h1i rfl ?_ | refine h1a ?_ | refine h1u ?_ | refine h1v ?_ | refine h2n ?_ | refine h0v rfl ?_ | refine h0w rfl ?_ | (refine gR 0 ?_ <;> (try refine h0a ?_; (first | (refine q_k (h0b rfl) ?_))) <;> (try refine h0d ?_)) | (refine gR 1 ?_ <;> (try refine h0a ?_; (first | (refine q_k (h0b rfl) ?_))) <;> (try refine h0d ?_)) | (refine gR 2 ?_ <;> (try refine h0a ?_; (first | (refine q_k (h0c rfl) ?_))) <;> (try refine h0a ?_; (first | (refine q_k (q_b (r:=by apply rb_rem; (omega); (omega); exact c_6)) ?_))) <;> (try refine h0a ?_; (first | (refine q_k (by exact q_b (r:=by apply h3j; exact c_6; (focus (first | (refine IntWalk.i64_in _ ?_; omega) | (refine IntWalk.u8_in _ ?_; omega) | (refine IntWalk.u16_in _ ?_; omega) | (refine IntWalk.u32_in _ ?_; omega) | (refine IntWalk.u64_in _ ?_; omega) | (refine IntWalk.i32_in _ ?_; omega) | exact rfl)))) ?_))) <;> (try refine h0a ?_; (first | (refine q_k (by apply h4f; exact rfl; (focus (apply h4d Tryz.underlying59 Tryz.underlying5; first | (refine IntWalk.i64_in _ ?_; omega) | (refine IntWalk.u8_in _ ?_; omega) | (refine IntWalk.u16_in _ ?_; omega) | (refine IntWalk.u32_in _ ?_; omega) | (refine IntWalk.u64_in _ ?_; omega) | (refine IntWalk.i32_in _ ?_; omega) | exact rfl))) ?_))) <;> (try refine h0a ?_; (first | (refine h2r (t:=53) (m:=1) (e:=5) (fun vs => (match vs with | [(_, x0)] => [x0] | _ => [])) rfl rfl (fun w => by kernel_rfl) ?_; intro nb hnb; (try simp only [Value.cells]); (try simp only [zzC, zzN])))) <;> (try refine h0a ?_; (first | (refine q_k (by first | (apply E_byteStrI; exact rfl; exact Tryz.underlying53; exact Tryz.underlying5; exact Tryz.underlying9; (focus (repeat (first | exact fd0 | (with_reducible assumption) | apply fdA | apply fdS)))) | (apply h3p; exact rfl; exact Tryz.underlying53; exact Tryz.underlying5; exact Tryz.underlying9; exact h1q; exact h1q)) ?_))) <;> (try refine h0a ?_; (first | (refine q_k (h0c rfl) ?_))) <;> (try refine h0a ?_; (first | (refine q_k (q_b (r:=by apply h0j; exact rfl; exact c_15)) ?_))) <;> (try refine h0a ?_; (first | (refine q_k (h0b rfl) ?_))) <;> (try refine h0d ?_)) | (refine gR 3 ?_ <;> (try refine h0a ?_; (first | (refine q_k (h0c rfl) ?_))) <;> (try refine h0a ?_; (first | (refine q_k (by exact q_b (r:=by apply rb_quo; (omega); (omega); exact c_6; (focus (first | (refine IntWalk.i64_in _ ?_; omega) | (refine IntWalk.u8_in _ ?_; omega) | (refine IntWalk.u16_in _ ?_; omega) | (refine IntWalk.u32_in _ ?_; omega) | (refine IntWalk.u64_in _ ?_; omega) | (refine IntWalk.i32_in _ ?_; omega) | exact rfl)))) ?_))) <;> (try refine h0a ?_; (first | (refine q_k (h0b rfl) ?_))) <;> (try refine h0d ?_)) | (refine gR 4 ?_ <;> (try refine h0a ?_; (first | (refine q_k (h0c rfl) ?_))) <;> (try refine h0a ?_; (first | (refine q_k (by exact q_b (r:=by first | (refine h0r ?_; first | rfl | (with_reducible assumption) | (decide; done) | omega) | (exact h1e q_o) | exact h2h)) ?_))) <;> (try refine h0d ?_)) | (refine gR 5 ?_ <;> (try refine h0a ?_; (first | (refine q_k (h0c rfl) ?_))) <;> (try refine h0a ?_; (first | (refine q_k (h0b rfl) ?_))) <;> (try refine h0d ?_)) | ((first | (refine h0o rfl (fun hc => ?_) (fun hc => ?_)) | (refine h0x rfl (fun hc => ?_) (fun hc => ?_)) | (refine h1r rfl (fun hc => ?_) (fun hc => ?_))) <;> (try subst hc)))
  (refine h2q Tryz.results14 (.tmp rfl .nil) ?_)
  refine ⟨_, ⟨?_, rfl⟩, by intro w H; refine H.sub ?_; (try simp only [zzC, zzN]); repeat (first | exact List.Sublist.refl _ | refine List.Sublist.cons_cons _ ?_ | refine List.Sublist.cons _ ?_ | refine List.sublist_append_of_sublist_right ?_)⟩
  show Value.string _ = _
  rw [hcat'.out, heq'.out, show m % 10 = m by omega]
 ·repeat' (first | refine h2m ?_ | refine h0d ?_ | refine h0u ?_ | refine h1h ?_ | refine h1f ?_ | refine h1g ?_ | refine h0s ?_ | refine h0t ?_ | refine h1l ?_ | refine h1k ?_ | refine h1j ?_ | refine h1i rfl ?_ | refine h1a ?_ | refine h1u ?_ | refine h1v ?_ | refine h2n ?_ | refine h0v rfl ?_ | refine h0w rfl ?_ | (refine gR 0 ?_ <;> (try refine h0a ?_; (first | (refine q_k (h0b rfl) ?_))) <;> (try refine h0d ?_)) | (refine gR 1 ?_ <;> (try refine h0a ?_; (first | (refine q_k (h0b rfl) ?_))) <;> (try refine h0d ?_)) | (refine gR 2 ?_ <;> (try refine h0a ?_; (first | (refine q_k (h0c rfl) ?_))) <;> (try refine h0a ?_; (first | (refine q_k (q_b (r:=by apply rb_rem; (omega); (omega); exact c_6)) ?_))) <;> (try refine h0a ?_; (first | (refine q_k (by exact q_b (r:=by apply h3j; exact c_6; (focus (first | (refine IntWalk.i64_in _ ?_; omega) | (refine IntWalk.u8_in _ ?_; omega) | (refine IntWalk.u16_in _ ?_; omega) | (refine IntWalk.u32_in _ ?_; omega) | (refine IntWalk.u64_in _ ?_; omega) | (refine IntWalk.i32_in _ ?_; omega) | exact rfl)))) ?_))) <;> (try refine h0a ?_; (first | (refine q_k (by apply h4f; exact rfl; (focus (apply h4d Tryz.underlying59 Tryz.underlying5; first | (refine IntWalk.i64_in _ ?_; omega) | (refine IntWalk.u8_in _ ?_; omega) | (refine IntWalk.u16_in _ ?_; omega) | (refine IntWalk.u32_in _ ?_; omega) | (refine IntWalk.u64_in _ ?_; omega) | (refine IntWalk.i32_in _ ?_; omega) | exact rfl))) ?_))) <;> (try refine h0a ?_; (first | (refine h2r (t:=53) (m:=1) (e:=5) (fun vs => (match vs with | [(_, x0)] => [x0] | _ => [])) rfl rfl (fun w => by kernel_rfl) ?_; intro nb hnb; (try simp only [Value.cells]); (try simp only [zzC, zzN])))) <;> (try refine h0a ?_; (first | (refine q_k (by first | (apply E_byteStrI; exact rfl; exact Tryz.underlying53; exact Tryz.underlying5; exact Tryz.underlying9; (focus (repeat (first | exact fd0 | (with_reducible assumption) | apply fdA | apply fdS)))) | (apply h3p; exact rfl; exact Tryz.underlying53; exact Tryz.underlying5; exact Tryz.underlying9; exact h1q; exact h1q)) ?_))) <;> (try refine h0a ?_; (first | (refine q_k (h0c rfl) ?_))) <;> (try refine h0a ?_; (first | (refine q_k (q_b (r:=by apply h0j; exact rfl; exact c_15)) ?_))) <;> (try refine h0a ?_; (first | (refine q_k (h0b rfl) ?_))) <;> (try refine h0d ?_)) | (refine gR 3 ?_ <;> (try refine h0a ?_; (first | (refine q_k (h0c rfl) ?_))) <;> (try refine h0a ?_; (first | (refine q_k (by exact q_b (r:=by apply rb_quo; (omega); (omega); exact c_6; (focus (first | (refine IntWalk.i64_in _ ?_; omega) | (refine IntWalk.u8_in _ ?_; omega) | (refine IntWalk.u16_in _ ?_; omega) | (refine IntWalk.u32_in _ ?_; omega) | (refine IntWalk.u64_in _ ?_; omega) | (refine IntWalk.i32_in _ ?_; omega) | exact rfl)))) ?_))) <;> (try refine h0a ?_; (first | (refine q_k (h0b rfl) ?_))) <;> (try refine h0d ?_)) | (refine gR 4 ?_ <;> (try refine h0a ?_; (first | (refine q_k (h0c rfl) ?_))) <;> (try refine h0a ?_; (first | (refine q_k (by exact q_b (r:=by first | (refine h0r ?_; first | rfl | (with_reducible assumption) | (decide; done) | omega) | (exact h1e q_o) | exact h2h)) ?_))) <;> (try refine h0d ?_)) | (refine gR 5 ?_ <;> (try refine h0a ?_; (first | (refine q_k (h0c rfl) ?_))) <;> (try refine h0a ?_; (first | (refine q_k (h0b rfl) ?_))) <;> (try refine h0d ?_)) | ((first | (refine h0o rfl (fun hc => ?_) (fun hc => ?_)) | (refine h0x rfl (fun hc => ?_) (fun hc => ?_)) | (refine h1r rfl (fun hc => ?_) (fun hc => ?_))) <;> (try subst hc)))
  simp only [hcat'.out, e10'.out]
  refine h6b (m / 10, decF (m % 10) ++ u) ⟨⟨by dsimp only; omega, ?_, ?_, fun h => absurd h h0⟩, by dsimp only; omega⟩ (by (focus (repeat (first | exact Sub.nil | refine Sub.cons rfl ?_ | (refine Sub.cons (congrArg some ?_) ?_; (focus go_num)))))) c_3
  ·dsimp only
   rw [heq'.out, decF_ge (n:=m) (by omega), List.append_assoc]
  ·dsimp only
   rw [List.length_append, hd2'.out]
   have h1 : (decF (m / 10)).length ≥ 1 := by
    rw [decF]; split
    ·exact Nat.le_refl _
    ·rw [List.length_append]; simp
   have h2 : (decF m).length = (decF (m / 10)).length + 1 := by rw [decF_ge (n:=m) (by omega), List.length_append, hd2'.out]
   omega
def D16 : ByteArray := ⟨#[48, 49, 50, 51, 52, 53, 54, 55, 56, 57, 97, 98, 99, 100, 101, 102]⟩
theorem fin_u8 {p : UInt8 → Prop} (h : ∀ k : Fin 256, p (UInt8.ofNat k.val)) (c : UInt8) : p c := by
 have := h ⟨c.toNat, c.toNat_lt⟩
 simpa using this
theorem ba_at {s : ByteArray} {k : Nat} (h : k < s.size) : ∃ x : UInt8, s[k]? = some x ∧ (lB s).drop k = x :: (lB s).drop (k + 1) := by
 have hl : k < (lB s).length := by rw [lB_len]; exact h
 refine ⟨(lB s)[k], ?_, List.drop_eq_getElem_cons hl⟩
 rw [← lB_get, List.getElem?_eq_getElem hl]
def PlainKey : TypeDesc → Value → Prop
 | .int k, .int k' _ => k' = k
 | .string, .string _ => True
 | _, _ => False
section
variable {P : Program} {o : Oper} {a : Act} {w w0 : World} {K : Act → World → Prop} {Q : Exit → Act → World → Prop} {S : List Nat} {L : List Blk} {ops : Array Oper} {rest : List Oper}
theorem h5v {e : Bool} {key : TypeId} {d : TypeDesc} {v : Value} (hk : P.underlying key = some d) (hp : PlainKey d v) (w : World) : (Instr.checkKey e 10000 key v).run P w = .ok () w := by
 show (Instr.checkKey e (9999 + 1) key v).run P w = .ok () w
 unfold Instr.checkKey
 rw [Sem.run_bind, run_underlying hk w]
 cases d <;> cases v <;> simp_all [PlainKey]
theorem run_findKey {key : TypeId} {d : TypeDesc} {v : Value} {es : List MapEntry} {r : Option (Nat × Value)} (hk : P.underlying key = some d) (hf : Instr.findNow d v es 0 = some r) (w : World) :
  (Instr.findKey key v es).run P w = .ok r w := by
 unfold Instr.findKey
 rw [Sem.run_bind, run_underlying hk w]
 simp [hf]
theorem h5l {b : Nat} {es : Array MapEntry} {c : Nat} (h : w.heap[b]? = some (.map es c)) : (getObj b).run P w = .ok (.map es c) w := by
 simp only [getObj, Sem.run, h]
def found (r : Option (Nat × Value)) (z : Value) : Value := match r with | some (_, v) => v | none => z
theorem run_lookup (H : HP S w0 w L) (i : Nat) {t key elem : TypeId} {d : TypeDesc} {q : Bool} {b : Nat} {es : Array MapEntry} {c : Nat} {kv z : Value} {r : Option (Nat × Value)} {ok : Bool}
  (ht : P.underlying t = some (.map key elem)) (hk : P.underlying key = some d) (hp : PlainKey d kv) (hz : ∀ w, (zeroValue elem).run P w = .ok z w)
  (hi : L[i]? = some ⟨q, b, .map es c⟩) (hf : Instr.findNow d kv es.toList 0 = some r) :
  (Instr.lookup t (.map (some b)) kv ok).run P w = .ok (if ok then .tuple #[found r z, .bool r.isSome] else found r z) w := by
 unfold Instr.lookup
 simp only [Sem.run_bind, run_underlying ht, Result.andThen_ok, h5l (H.at_ i hi), Sem.run_pure, h5v hk hp, run_findKey hk hf]
 cases r with
 | none => cases ok <;> simp [found, hz]
 | some p => cases ok <;> simp [found]
end
def mkE : List (Value × Value) → Nat → List MapEntry
 | [], _ => []
 | p :: r, i => { key := p.1, val := p.2, born := i } :: mkE r (i + 1)
abbrev h5m (b : Nat) (kvs : List (Value × Value)) : Blk := ⟨true, b, .map (mkE kvs 0).toArray kvs.length⟩
def fd (d : TypeDesc) (k : Value) : List (Value × Value) → Nat → Option (Option (Nat × Value))
 | [], _ => some none
 | p :: r, i => match Instr.sameNow d k p.1 with
  | some true => some (some (i, p.2))
  | some false => fd d k r (i + 1)
  | none => none
theorem fd_eq (d : TypeDesc) (k : Value) (kvs : List (Value × Value)) (i j : Nat) : Instr.findNow d k (mkE kvs j) i = fd d k kvs i := by
 induction kvs generalizing i j with
 | nil => rfl
 | cons p r ih =>
  simp only [mkE, Instr.findNow, fd]
  cases h : Instr.sameNow d k p.1 with
  | none => rfl
  | some q => cases q with
   | true => rfl
   | false => exact ih _ _
theorem mkE_len (kvs : List (Value × Value)) (i : Nat) : (mkE kvs i).length = kvs.length := by
 induction kvs generalizing i with
 | nil => rfl
 | cons p r ih => simp [mkE, ih]
theorem mkE_app (kvs : List (Value × Value)) (p : Value × Value) (i : Nat) : mkE (kvs ++ [p]) i = mkE kvs i ++ [{ key := p.1, val := p.2, born := i + kvs.length }] := by
 induction kvs generalizing i with
 | nil => simp [mkE]
 | cons q r ih => simp only [List.cons_append, mkE, ih, List.length_cons]; rw [show i + 1 + r.length = i + (r.length + 1) by omega]
theorem mkE_get (kvs : List (Value × Value)) (i j : Nat) (p : Value × Value) (h : kvs[j]? = some p) : (mkE kvs i)[j]? = some { key := p.1, val := p.2, born := i + j } := by
 induction kvs generalizing i j with
 | nil => simp at h
 | cons q r ih =>
  cases j with
  | zero => simp at h; subst h; simp [mkE]
  | succ j =>
   simp only [List.getElem?_cons_succ] at h
   simp only [mkE, List.getElem?_cons_succ, ih (i + 1) j h]
   congr 2; omega
theorem mkE_set (kvs : List (Value × Value)) (i j : Nat) (p : Value × Value) (f : MapEntry → MapEntry) (hf : ∀ q, kvs[j]? = some q → f { key := q.1, val := q.2, born := i + j } = { key := p.1, val := p.2, born := i + j }) : (mkE kvs i).modify j f = mkE (kvs.set j p) i := by
 induction kvs generalizing i j with
 | nil => cases j <;> rfl
 | cons q r ih =>
  cases j with
  | zero => simp only [mkE, List.modify_zero_cons, List.set_cons_zero]; have := hf q (by simp); simp only [Nat.add_zero] at this; rw [this]
  | succ j =>
   simp only [mkE, List.modify_succ_cons, List.set_cons_succ]
   rw [ih (i + 1) j (fun q hq => by have := hf q (by simpa using hq); rw [show i + 1 + j = i + (j + 1) by omega]; exact this)]
theorem fd_get {d : TypeDesc} {k : Value} {kvs : List (Value × Value)} {i j : Nat} {v : Value} (h : fd d k kvs i = some (some (j, v))) : i ≤ j ∧ ∃ p, kvs[j - i]? = some p ∧ p.2 = v ∧ Instr.sameNow d k p.1 = some true := by
 induction kvs generalizing i with
 | nil => simp [fd] at h
 | cons q r ih =>
  simp only [fd] at h
  split at h
  ·rename_i hs
   simp only [Option.some.injEq, Prod.mk.injEq] at h
   obtain ⟨rfl, rfl⟩ := h
   exact ⟨Nat.le_refl _, q, by simp, rfl, hs⟩
  ·obtain ⟨h1, p, h2, h3⟩ := ih h
   refine ⟨by omega, p, ?_, h3⟩
   rw [show j - i = (j - (i + 1)) + 1 by omega, List.getElem?_cons_succ]; exact h2
  ·simp at h
theorem ba_beq (x y : ByteArray) : (x == y) = decide (x = y) := by
 show (x.data == y.data) = _
 cases x with | mk a => cases y with | mk b =>
 by_cases h : a = b
 ·subst h; simp
 ·have h2 : ¬ (ByteArray.mk a = ByteArray.mk b) := fun e => h (by injection e)
  simp [h2]; exact fun e => h e
theorem same_plain {d : TypeDesc} {k k' : Value} (hp : PlainKey d k) (h : Instr.sameNow d k k' = some true) : Instr.sameBits 10000 k' k = true ∧ k' = k := by
 cases d <;> cases k <;> simp [PlainKey] at hp <;> cases k' <;> simp_all [Instr.sameNow, Instr.sameBits, ba_beq]
section
variable {P : Program} {n : Nat} {l : List (Nat × Value)} {S : List Nat} {w0 : World} {L : List Blk} {K : Act → World → Prop} {kt : Kont} {ops : Array Oper} {d : Tmp} {ty : TypeId} {pos : String} {af : Array Edge}
theorem h4r {t : TypeId} (hd : Nat.blt d n = true) (h : ∀ nb, w0.heap.size ≤ nb → G n ((d, .map (some nb)) :: l) S w0 (h5m nb [] :: L) K) :
  G n l S w0 L (K1 P ops kt ⟨some d, .makeMap t none, ty, pos, af, none⟩ K) := .mk fun a w hf H => h4g rfl <| by
 unfold Oper.wp execOp
 simp only [Option.map_none, Instr.makeMap, Sem.run_bind, Sem.run_pure, Result.andThen_ok, run_newObj]
 exact (h _ H.size).out _ _ (hf.put (some d) _ hd) (H.alloc _)
theorem E_lookup {t key elem : TypeId} {dd : TypeDesc} {x ix : Operand} {i b : Nat} {kvs : List (Value × Value)} {kv z : Value} {r : Option (Nat × Value)} (hx : ev l x = some (.map (some b))) (hk : ev l ix = some kv) (hi : L[i]? = some (h5m b kvs))
  (ht : P.underlying t = some (.map key elem)) (hkt : P.underlying key = some dd) (hp : PlainKey dd kv) (hz : ∀ w, (zeroValue elem).run P w = .ok z w) (hf : fd dd kv kvs 0 = some r) {fv : Value} {fb : Bool} (hfv : found r z = fv) (hfb : r.isSome = fb) :
  ValOf P n l S w0 L ⟨some d, .lookup t x ix true, ty, pos, af, none⟩ (h3y [fv, .bool fb]) :=
 ⟨fun a w hF H => by
  subst hfv
  subst hfb
  unfold execOp
  simp only [hF.eval hx, hF.eval hk, Sem.run_bind, run_lookup H i ht hkt hp hz hi (by simpa [fd_eq] using hf), Result.andThen_ok, Sem.run_pure]
  rfl⟩
theorem E_lookup1 {t key elem : TypeId} {dd : TypeDesc} {x ix : Operand} {i b : Nat} {kvs : List (Value × Value)} {kv z : Value} {r : Option (Nat × Value)} (hx : ev l x = some (.map (some b))) (hk : ev l ix = some kv) (hi : L[i]? = some (h5m b kvs))
  (ht : P.underlying t = some (.map key elem)) (hkt : P.underlying key = some dd) (hp : PlainKey dd kv) (hz : ∀ w, (zeroValue elem).run P w = .ok z w) (hf : fd dd kv kvs 0 = some r) {fv : Value} (hfv : found r z = fv) :
  ValOf P n l S w0 L ⟨some d, .lookup t x ix false, ty, pos, af, none⟩ fv :=
 ⟨fun a w hF H => by
  subst hfv
  unfold execOp
  simp only [hF.eval hx, hF.eval hk, Sem.run_bind, run_lookup H i ht hkt hp hz hi (by simpa [fd_eq] using hf), Result.andThen_ok, Sem.run_pure]
  rfl⟩
theorem E_makeFunc {fn : Go.Fn} {xs ys : List Operand} {vs us : List Value} (hx : evs l xs = some vs) (hy : evs l ys = some us) :
  ValOf P n l S w0 L ⟨some d, .makeFunc fn xs.toArray ys.toArray, ty, pos, af, none⟩ (.func fn vs.toArray us.toArray) :=
 ⟨fun a w hF H => by
  unfold execOp
  simp only [List.map_toArray, hF.evals hx, hF.evals hy, Instr.makeFunc, Sem.run_bind, Sem.run_pure, Result.andThen_ok]⟩
theorem HP.setMap {w : World} {i b : Nat} {es : Array MapEntry} {c : Nat} (H : HP S w0 w L) (hi : L[i]? = some ⟨true, b, .map es c⟩) (o' : Obj) : HP S w0 { w with heap := w.heap.setIfInBounds b o' } (L.set i ⟨true, b, o'⟩) := by
 have hb : b < w.heap.size := H.lt i hi
 exact H.turn i hi _ o' rfl rfl rfl (by simp) (by simp [hb]) (fun k hk => by rw [Array.getElem?_setIfInBounds, if_neg (fun e => hk (Eq.symm e))])
theorem run_setMap {w : World} {b : Nat} {es : Array MapEntry} {c : Nat} (hat : w.heap[b]? = some (.map es c)) (o' : Obj) : (setObj b o').run P w = .ok () { w with heap := w.heap.setIfInBounds b o' } := by
 simp only [setObj, Sem.run, hat]
def updE (kvs : List (Value × Value)) (kv v : Value) (r : Option (Nat × Value)) : List (Value × Value) :=
 match r with
 | some (i, _) => kvs.set i (kv, v)
 | none => kvs ++ [(kv, v)]
theorem h5d {t key elem : TypeId} {dd : TypeDesc} {x ix y : Operand} {i b : Nat} {kvs : List (Value × Value)} {kv v : Value} {r : Option (Nat × Value)} (hx : ev l x = some (.map (some b))) (hk : ev l ix = some kv) (hy : ev l y = some v) (hi : L[i]? = some (h5m b kvs))
  (ht : P.underlying t = some (.map key elem)) (hkt : P.underlying key = some dd) (hp : PlainKey dd kv) (hf : fd dd kv kvs 0 = some r)
  (h : G n l S w0 (L.set i (h5m b (updE kvs kv v r))) K) : G n l S w0 L (K1 P ops kt ⟨none, .mapUpdate t x ix y, ty, pos, af, none⟩ K) := .mk fun a w hF H => h4g rfl <| by
 have hat := H.at_ i hi
 have hfn : Instr.findNow dd kv (mkE kvs 0) 0 = some r := by rw [fd_eq]; exact hf
 have hr : (Instr.mapUpdate t (.map (some b)) kv v).run P w = .ok () { w with heap := w.heap.setIfInBounds b (h5m b (updE kvs kv v r)).o } := by
  unfold Instr.mapUpdate
  simp only [Sem.run_bind, run_underlying ht, Result.andThen_ok, h5l hat, h5v hkt hp, run_findKey hkt hfn]
  cases r with
  | none =>
   simp only [updE, run_setMap hat]
   simp [mkE_app]
  | some p =>
   obtain ⟨j, u⟩ := p
   obtain ⟨_, q, hq, _, hsn⟩ := fd_get hf
   simp only [Nat.sub_zero] at hq
   obtain ⟨hsb, hqe⟩ := same_plain hp hsn
   have hg := mkE_get kvs 0 j q hq
   have e1 : (mkE kvs 0).modify j (fun e => { key := kv, val := v, born := e.born }) = mkE (kvs.set j (kv, v)) 0 := mkE_set kvs 0 j (kv, v) _ (fun _ _ => rfl)
   simp only [List.getElem?_toArray, hg, Option.map_some, Option.getD_some, Instr.keyThatStays, hsb, if_true, Sem.run_pure, Result.andThen_ok, updE, Sem.run_bind, run_setMap hat]
   congr 1
   simp [e1]
 have hgo : (execOp a.eval (⟨none, .mapUpdate t x ix y, ty, pos, af, none⟩ : Oper)).run P w = .ok .skip { w with heap := w.heap.setIfInBounds b (h5m b (updE kvs kv v r)).o } := by
  unfold execOp
  simp only [hF.eval hx, hF.eval hk, hF.eval hy, Sem.run_bind, hr, Result.andThen_ok, Sem.run_pure]
 unfold Oper.wp
 rw [hgo]
 exact h.out _ _ hF (H.setMap hi _)
theorem K1_mapEntry {t key elem : TypeId} {dd : TypeDesc} {x ix : Operand} {i b : Nat} {kvs : List (Value × Value)} {kv z : Value} (hd : Nat.blt d n = true) (hx : ev l x = some (.map (some b))) (hk : ev l ix = some kv) (hi : L[i]? = some (h5m b kvs))
  (ht : P.underlying t = some (.map key elem)) (hkt : P.underlying key = some dd) (hp : PlainKey dd kv) (hz : ∀ w, (zeroValue elem).run P w = .ok z w) (hf : fd dd kv kvs 0 = some none)
  (h : G n ((d, h3y [z, .int .i64 kvs.length]) :: l) S w0 (L.set i (h5m b (kvs ++ [(kv, z)]))) K) : G n l S w0 L (K1 P ops kt ⟨some d, .mapEntry t x ix, ty, pos, af, none⟩ K) := .mk fun a w hF H => h4g rfl <| by
 have hat := H.at_ i hi
 have hfn : Instr.findNow dd kv (mkE kvs 0) 0 = some none := by rw [fd_eq]; exact hf
 have hr : (Instr.mapEntry t (.map (some b)) kv).run P w = .ok (h3y [z, .int .i64 kvs.length]) { w with heap := w.heap.setIfInBounds b (h5m b (kvs ++ [(kv, z)])).o } := by
  unfold Instr.mapEntry
  simp only [Sem.run_bind, run_underlying ht, Result.andThen_ok, h5l hat, h5v hkt hp, run_findKey hkt hfn, hz, run_setMap hat, Sem.run_pure]
  simp [mkE_app, h3y, goInt]
 have hgo : (execOp a.eval (⟨some d, .mapEntry t x ix, ty, pos, af, none⟩ : Oper)).run P w = .ok (.value (h3y [z, .int .i64 kvs.length])) { w with heap := w.heap.setIfInBounds b (h5m b (kvs ++ [(kv, z)])).o } := by
  unfold execOp
  simp only [hF.eval hx, hF.eval hk, Sem.run_bind, hr, Result.andThen_ok, Sem.run_pure]
 unfold Oper.wp
 rw [hgo]
 exact h.out _ _ (hF.put (some d) _ hd) (H.setMap hi _)
theorem find_born (kvs : List (Value × Value)) (i j : Nat) (hj : j < kvs.length) : (mkE kvs i).findIdx? (fun e => (e.born : Int) == ((i + j : Nat) : Int)) = some j := by
 induction kvs generalizing i j with
 | nil => simp at hj
 | cons p r ih =>
  cases j with
  | zero => simp [mkE, List.findIdx?_cons]
  | succ j =>
   have hne : ((i : Int) == ((i + (j + 1) : Nat) : Int)) = false := by simp; omega
   rw [mkE, List.findIdx?_cons]
   simp only [hne]
   have := ih (i + 1) j (by simpa using hj)
   rw [show i + 1 + j = i + (j + 1) by omega] at this
   rw [if_neg (by simp)]
   simpa using this
theorem h4v {t : TypeId} {x s y : Operand} {i b j : Nat} {kvs : List (Value × Value)} {k0 u v : Value} {st : Int} (hx : ev l x = some (.map (some b))) (hs : ev l s = some (.int .i64 st)) (hy : ev l y = some v) (hi : L[i]? = some (h5m b kvs)) (hj : kvs[j]? = some (k0, u)) (hst : st = (j : Nat))
  (h : G n l S w0 (L.set i (h5m b (kvs.set j (k0, v)))) K) : G n l S w0 L (K1 P ops kt ⟨none, .entryStore t x s y, ty, pos, af, none⟩ K) := .mk fun a w hF H => h4g rfl <| by
 subst hst
 have hat := H.at_ i hi
 have hlt : j < kvs.length := by
  rcases Nat.lt_or_ge j kvs.length with h | h
  ·exact h
  ·simp [List.getElem?_eq_none h] at hj
 have hfb := find_born kvs 0 j hlt
 rw [Nat.zero_add] at hfb
 have e1 : (mkE kvs 0).modify j (fun e => { key := e.key, val := v, born := e.born }) = mkE (kvs.set j (k0, v)) 0 := mkE_set kvs 0 j (k0, v) _ (fun q hq => by rw [hj] at hq; obtain rfl := Option.some.inj hq; rfl)
 have hr : (Instr.entryStore t (.map (some b)) (.int .i64 (j : Nat)) v).run P w = .ok () { w with heap := w.heap.setIfInBounds b (h5m b (kvs.set j (k0, v))).o } := by
  unfold Instr.entryStore
  simp only [Sem.run_bind, h5l hat, Result.andThen_ok, asInt, asIntOf, Sem.run_pure, List.findIdx?_toArray, hfb, run_setMap hat]
  congr 1
  simp [e1]
 have hgo : (execOp a.eval (⟨none, .entryStore t x s y, ty, pos, af, none⟩ : Oper)).run P w = .ok .skip { w with heap := w.heap.setIfInBounds b (h5m b (kvs.set j (k0, v))).o } := by
  unfold execOp
  simp only [hF.eval hx, hF.eval hs, hF.eval hy, Sem.run_bind, hr, Result.andThen_ok, Sem.run_pure]
 unfold Oper.wp
 rw [hgo]
 exact h.out _ _ hF (H.setMap hi _)
theorem h5b {t : TypeId} {x s y : Operand} {i b : Nat} {kvs : List (Value × Value)} {k0 u v : Value} (hx : ev l x = some (.map (some b))) (hs : ev l s = some (.int .i64 kvs.length)) (hy : ev l y = some v) (hi : L[i]? = some (h5m b (kvs ++ [(k0, u)])))
  (h : G n l S w0 (L.set i (h5m b (kvs ++ [(k0, v)]))) K) : G n l S w0 L (K1 P ops kt ⟨none, .entryStore t x s y, ty, pos, af, none⟩ K) :=
 h4v (j:=kvs.length) (k0:=k0) (u:=u) hx hs hy hi (by simp) rfl (by rw [List.set_append_right _ _ (Nat.le_refl _), Nat.sub_self, List.set_cons_zero]; exact h)
theorem G_regionHc {i j id m : Nat} {os : List Oper} {Lb : List Blk} (hb : (L.eraseIdx i).eraseIdx j = Lb) (hm : P.follows .mixedOrders = true) (hl : os.length = m) (h : G n l S w0 L (KH P S w0 Lb os.toArray kt m (Array.replicate m false))) : G n l S w0 L (KC P (.region id os.toArray true) kt) := .mk fun a w hf H => by
 subst hl
 have _ := hb
 exact ⟨wp_region_held hm (by simpa using (h.out a _ hf H.drew).out)⟩
end
abbrev mapG (b : Nat) (es : List MapEntry) (c : Nat) : Blk := ⟨true, b, .map es.toArray c⟩
section
variable {P : Program} {n : Nat} {l : List (Nat × Value)} {S : List Nat} {w0 : World} {L : List Blk} {K : Act → World → Prop} {kt : Kont} {ops : Array Oper} {d : Tmp} {ty : TypeId} {pos : String} {af : Array Edge}
theorem E_lenG {t key elem : TypeId} {x : Operand} {i b c : Nat} {es : List MapEntry} (hx : ev l x = some (.map (some b))) (hi : L[i]? = some (mapG b es c)) (ht : P.underlying t = some (.map key elem)) :
  ValOf P n l S w0 L ⟨some d, .call { callee := .builtin .len, args := #[x], argTypes := #[t] }, ty, pos, af, none⟩ (.int .i64 es.length) :=
 ⟨fun a w hF H => by
  have hr : (Builtin.len_ #[t] ty #[.map (some b)]).run P w = .ok (.int .i64 es.length) w := by
   unfold Builtin.len_
   simp only [List.getElem?_toArray, List.getElem?_cons_zero, Sem.run_bind, run_underlying ht, Result.andThen_ok, h5l (H.at_ i hi), Sem.run_pure]
   rfl
  rw [BigFrame.execOp_builtin]
  simp only [List.map_toArray, List.map_cons, List.map_nil, hF.eval hx, builtin, Sem.run_bind, hr, Result.andThen_ok, Sem.run_pure]⟩
end
section
variable {P : Program} {n : Nat} {l : List (Nat × Value)} {S : List Nat} {w0 : World} {L : List Blk} {K : Act → World → Prop} {k : Kont} {ops : Array Oper} {d : Tmp} {ty : TypeId} {pos : String} {af : Array Edge}
theorem E_lenB {t key elem : TypeId} {x : Operand} {i b : Nat} {kvs : List (Value × Value)} (hx : ev l x = some (.map (some b))) (hi : L[i]? = some (h5m b kvs)) (ht : P.underlying t = some (.map key elem)) :
  ValOf P n l S w0 L ⟨some d, .call { callee := .builtin .len, args := #[x], argTypes := #[t] }, ty, pos, af, none⟩ (.int .i64 kvs.length) := by
 have h := E_lenG (P:=P) (n:=n) (S:=S) (w0:=w0) (d:=d) (ty:=ty) (pos:=pos) (af:=af) (es:=mkE kvs 0) (c:=kvs.length) hx hi ht
 rwa [mkE_len] at h
end
theorem own_cases {E size : Nat} {v : Value} {n : Nat} {xs : List Value} {e : List Blk} (h : Own E size v n xs e) :
  (v = .slice none 0 0 ∧ n = 0 ∧ xs = [] ∧ e = []) ∨ ∃ g cap cur, v = .slice (some ⟨g, 0, none⟩) n cap ∧ e = [⟨true, g, .cells cur E (0, 0)⟩] ∧ n ≤ cap ∧ cap ≤ maxLen ∧ cur.size = cap * size ∧ cur.toList.take (n * size) = xs := by
 obtain ⟨h1, h | h⟩ := h
 ·obtain ⟨a, b, c⟩ := h
  subst b
  rw [Nat.zero_mul] at h1
  exact .inl ⟨a, rfl, List.eq_nil_of_length_eq_zero h1, c⟩
 ·exact .inr h
theorem own_mk {E size n g cap : Nat} {cur : Array Value} {xs : List Value} (h1 : n ≤ cap) (h2 : cap ≤ maxLen) (h3 : cur.size = cap * size) (h4 : cur.toList.take (n * size) = xs) :
  Own E size (.slice (some ⟨g, 0, none⟩) n cap) n xs [⟨true, g, .cells cur E (0, 0)⟩] := by subst h4; exact Own.of_block h1 h2 h3
theorem disable (w : World) : (callFunc 150 #[]).run Tryz.prog w = .ok (.value (.tuple #[])) w := run_call_mark0 Tryz.func150 (by kernel_rfl) (by kernel_rfl) (by kernel_rfl) .disable (by kernel_rfl) w
theorem enable (w : World) : (callFunc 152 #[]).run Tryz.prog w = .ok (.value (.tuple #[])) w := run_call_mark0 Tryz.func152 (by kernel_rfl) (by kernel_rfl) (by kernel_rfl) .enable (by kernel_rfl) w
theorem acquire (a : Addr) (w : World) : (callFunc 153 #[.pointer (some a)]).run Tryz.prog w = .ok (.value (.tuple #[])) w := run_call_marked Tryz.func153 (by kernel_rfl) (by kernel_rfl) (by kernel_rfl) .acquire (by kernel_rfl) a w
theorem releaseMerge (a : Addr) (w : World) : (callFunc 155 #[.pointer (some a)]).run Tryz.prog w = .ok (.value (.tuple #[])) w := run_call_marked Tryz.func155 (by kernel_rfl) (by kernel_rfl) (by kernel_rfl) .releaseMerge (by kernel_rfl) a w
theorem store_deferred (a : Addr) (x : Value) (u : FrameMode) (w : World) (hc : w.cell? a = some x) (hz : w.frozen? a = false) :
  CallsD Tryz.prog 114 #[.pointer (some a), .bool true] u w fun e u' w' => u' = u ∧ (e = .returned (.tuple #[]) ∧ w' = w.drew.setCell a (.int .u32 1)) := by
 have hc' : w.drew.cell? a = some x := by go_simp
 have hz' : w.drew.frozen? a = false := by go_simp
 have hst := run_call_store (P:=Tryz.prog) Tryz.func141 (by kernel_rfl) (by kernel_rfl) (by kernel_rfl) (by kernel_rfl) (k:=.u32) (y:=1) hc' hz'
 go_enter_d Tryz.func114, Tryz.ntmps114
 go_wp2
 go_region_calls
 all_goals (go_end0; exact ⟨rfl, rfl⟩)
theorem unlock_deferred (a : Addr) (u : FrameMode) (w : World) (hc : w.cell? a = some (.int .i32 1)) (hz : w.frozen? a = false) :
  CallsD Tryz.prog 113 #[.pointer (some a)] u w fun e u' w' => u' = u ∧ (e = .returned (.tuple #[]) ∧ w' = w.setCell a (.int .i32 0)) := by
 have hd := disable
 have he := enable
 have hr := releaseMerge
 have hadd := run_call_add (P:=Tryz.prog) Tryz.func156 (by kernel_rfl) (by kernel_rfl) (by kernel_rfl) .i32 (by kernel_rfl) (y:=-1) (s:=0) hc hz (by simp [go_sem]; rfl)
 have hcv := run_convert_to_unsafe (P:=Tryz.prog) (src:=262) (dst:=195) Tryz.underlying262 Tryz.underlying195 (by kernel_rfl) hc
 go_enter_d Tryz.func113, Tryz.ntmps113
 go_wp2
 go_end0
 go_wp2
 go_end0
 exact ⟨rfl, rfl⟩
theorem lock_free (a : Addr) (w : World) (hc : w.cell? a = some (.int .i32 0)) (hz : w.frozen? a = false) :
  Calls Tryz.prog 112 #[.pointer (some a)] w fun e w' => e = .returned (.tuple #[]) ∧ w' = w.setCell a (.int .i32 1) := by
 have hd := disable
 have he := enable
 have ha := acquire
 have hcas := run_call_cas_hit (P:=Tryz.prog) Tryz.func151 (by kernel_rfl) (by kernel_rfl) (by kernel_rfl) .i32 (by kernel_rfl) (y:=1) hc hz
 have hc' : (w.setCell a (.int .i32 1)).cell? a = some (.int .i32 1) := World.cell?_setCell_same w a _ hc
 have hcv := run_convert_to_unsafe (P:=Tryz.prog) (src:=262) (dst:=195) Tryz.underlying262 Tryz.underlying195 (by kernel_rfl) hc'
 go_enter Tryz.func112, Tryz.ntmps112
 go_wp2
 first | go_end0 | (simp only [Exit.inBlock, Exit.then]; refine bodyPost_ret (results_none rfl _ _ _) rfl ?_) | refine bodyPost_ret (results_none rfl _ _ _) rfl ?_
 go_wp2
 go_end0
 exact ⟨rfl, rfl⟩
theorem HP.setc {S : List Nat} {w0 w : World} {L : List Blk} {b off : Nat} {cs : List Value} {T : TypeId} (H : HP S w0 w (⟨true, b, .cells cs.toArray T (0, 0)⟩ :: L)) (v : Value) : HP S w0 (w.setCell ⟨b, off, none⟩ v) (⟨true, b, .cells (cs.set off v).toArray T (0, 0)⟩ :: L) := by
 have := H.turn 0 rfl (w.setCell ⟨b, off, none⟩ v) (.cells (cs.toArray.setIfInBounds off v) T (0, 0)) rfl rfl rfl (by simp)
  (by rw [heap_setCell_same w b off _ T _ (H.at_ 0 rfl)]) (fun q hq => heap_setCell_other w _ q _ hq)
 simpa using this
theorem HP.cellc {S : List Nat} {w0 w : World} {L : List Blk} {b off : Nat} {cs : List Value} {T : TypeId} {v : Value} (H : HP S w0 w (⟨true, b, .cells cs.toArray T (0, 0)⟩ :: L)) (hv : cs[off]? = some v) : w.cell? ⟨b, off, none⟩ = some v := by
 rw [cell_at H 0 rfl]; simpa using hv
theorem HP.frz {S : List Nat} {w0 w : World} {L : List Blk} {b off : Nat} {cs : List Value} {T : TypeId} (H : HP S w0 w (⟨true, b, .cells cs.toArray T (0, 0)⟩ :: L)) : w.frozen? ⟨b, off, none⟩ = false := by
 simp [frozen_at H 0 rfl]
def OnceR (T : TypeId) (b off : Nat) (Q : List Value → List Blk → Prop) (v : Value) (L' : List Blk) : Prop :=
 v = .tuple #[] ∧ ∃ cs L2, Q cs L2 ∧ cs[off]? = some (.int .u32 0) ∧ cs[off + 1]? = some (.int .i32 1) ∧ ⟨true, b, .cells cs.toArray T (0, 0)⟩ :: L2 = L'
def OnceD (T : TypeId) (b off : Nat) (Q : List Value → List Blk → Prop) (v : Value) (L' : List Blk) : Prop :=
 v = .tuple #[] ∧ ∃ cs L2, Q cs L2 ∧ ⟨true, b, .cells ((cs.set off (.int .u32 1)).set (off + 1) (.int .i32 0)).toArray T (0, 0)⟩ :: L2 = L'
set_option maxHeartbeats 1600000 in
theorem slow_c {S w0 L} {T : TypeId} {b off : Nat} {cs : List Value} {Q : List Value → List Blk → Prop} {fv : Value} (h0 : cs[off]? = some (.int .u32 0)) (h1 : cs[off + 1]? = some (.int .i32 0))
  (hf : Fn Tryz.prog 61 #[fv] S w0 (⟨true, b, .cells (cs.set (off + 1) (.int .i32 1)).toArray T (0, 0)⟩ :: L) (OnceR T b off Q)) :
  Fn Tryz.prog 77 #[.pointer (some ⟨b, off, none⟩), .func (.func 61) #[fv] #[]] S w0 (⟨true, b, .cells cs.toArray T (0, 0)⟩ :: L) (OnceD T b off Q) := .mk fun w H => by
 have a0 := H.cellc h0
 have a1 := H.cellc h1
 have f0 : w.frozen? ⟨b, off, none⟩ = false := H.frz
 have f1 : w.frozen? ⟨b, off + 1, none⟩ = false := H.frz
 have hl := run_call_load (P:=Tryz.prog) Tryz.func111 (by kernel_rfl) (by kernel_rfl) (by kernel_rfl) .u32 (by kernel_rfl) (w:=w.setCell ⟨b, off + 1, none⟩ (.int .i32 1)) (a:=⟨b, off, none⟩) (x:=0) ((World.cell?_setCell_other _ ⟨b, off + 1, none⟩ ⟨b, off, none⟩ _ (by simp)).trans a0)
 have hnot : ∀ (x : Bool) (w : World), (Op.unary .not (.bool x)).run Tryz.prog w = .ok (.bool (!x)) w := fun _ _ => rfl
 have H1 := H.setc (off:=off + 1) (.int .i32 1)
 have hcall := hf.out _ H1
 go_enter_defers Tryz.func77, Tryz.ntmps77
 have H2c : ∀ (e : Ending) (w' : World), (∃ v L', e = .returned v ∧ OnceR T b off Q v L' ∧ HP S w0 w' L') → ∃ cs' L2, e = .returned (.tuple #[]) ∧ Q cs' L2 ∧ cs'[off]? = some (.int .u32 0) ∧ cs'[off + 1]? = some (.int .i32 1) ∧ HP S w0 w' (⟨true, b, .cells cs'.toArray T (0, 0)⟩ :: L2) := by
  rintro e w' ⟨_, _, rfl, ⟨rfl, cs', L2, hQ, hc0, hc1, rfl⟩, H2⟩
  exact ⟨cs', L2, rfl, hQ, hc0, hc1, H2⟩
 have hcall2 := hcall.mono H2c
 clear hcall H2c hf H1
 go_wp2_with (first | (go_at_call 112; refine (lock_free ⟨b, off + 1, none⟩ _ (by go_simp) (by go_simp)).mono ?_; rintro e w' ⟨rfl, rfl⟩) | (go_at_call 61; refine hcall2.mono ?_; rintro e w' ⟨cs', L2, rfl, hQ, hc0, hc1, H2⟩) | (go_at_call 76; go_in))
 refine leaves_cons (f:=114) (args:=#[.pointer (some ⟨b, off, none⟩), .bool true]) (by simp) (by simp [go_sem]) ?_
 refine (store_deferred ⟨b, off, none⟩ (.int .u32 0) .returning _ (H2.cellc hc0) H2.frz).mono ?_
 rintro e u' w'' ⟨rfl, rfl, rfl⟩
 have H3 := (H2.drew).setc (off:=off) (.int .u32 1)
 have hc1' : (cs'.set off (.int .u32 1))[off + 1]? = some (.int .i32 1) := by rw [List.getElem?_set_ne (by omega)]; exact hc1
 refine leaves_cons (f:=113) (args:=#[.pointer (some ⟨b, off + 1, none⟩)]) (by simp [settle]) (by simp [go_sem]) ?_
 refine (unlock_deferred ⟨b, off + 1, none⟩ _ _ (H3.cellc hc1') H3.frz).mono ?_
 rintro e u' w'' ⟨rfl, rfl, rfl⟩
 have H4 := H3.setc (off:=off + 1) (.int .i32 0)
 show Leaves _ _ _ _ [] .returning _
 exact ⟨.tuple #[], results_none rfl _ _ _, _, _, rfl, ⟨rfl, cs', L2, hQ, rfl⟩, H4⟩
theorem do_first {S w0 L} {T : TypeId} {b off : Nat} {cs : List Value} {Q : List Value → List Blk → Prop} {fv : Value} (h0 : cs[off]? = some (.int .u32 0)) (h1 : cs[off + 1]? = some (.int .i32 0))
  (hf : Fn Tryz.prog 61 #[fv] S w0 (⟨true, b, .cells (cs.set (off + 1) (.int .i32 1)).toArray T (0, 0)⟩ :: L) (OnceR T b off Q)) :
  Fn Tryz.prog 60 #[.pointer (some ⟨b, off, none⟩), .func (.func 61) #[fv] #[]] S w0 (⟨true, b, .cells cs.toArray T (0, 0)⟩ :: L) (OnceD T b off Q) := .mk fun w H => by
 have hl := run_call_load (P:=Tryz.prog) Tryz.func111 (by kernel_rfl) (by kernel_rfl) (by kernel_rfl) .u32 (by kernel_rfl) (H.cellc h0)
 have hnot : ∀ (x : Bool) (w : World), (Op.unary .not (.bool x)).run Tryz.prog w = .ok (.bool (!x)) w := fun _ _ => rfl
 have hs := (slow_c h0 h1 hf).out w H
 clear hf
 go_enter Tryz.func60, Tryz.ntmps60
 go_wp2_with (first | (go_at_call 77; refine hs.mono ?_; rintro e w' ⟨v, L', rfl, hD, H2⟩) | (go_at_call 76; go_in))
 go_end0
 obtain ⟨rfl, hD⟩ := hD
 exact ⟨_, _, rfl, ⟨rfl, hD⟩, H2⟩
theorem do_done {S w0 L} {T : TypeId} {b off : Nat} {cs : List Value} {fv : Value} (h0 : cs[off]? = some (.int .u32 1)) :
  Fn Tryz.prog 60 #[.pointer (some ⟨b, off, none⟩), fv] S w0 (⟨true, b, .cells cs.toArray T (0, 0)⟩ :: L) fun v L' => v = .tuple #[] ∧ ⟨true, b, .cells cs.toArray T (0, 0)⟩ :: L = L' := .mk fun w H => by
 have hl := run_call_load (P:=Tryz.prog) Tryz.func111 (by kernel_rfl) (by kernel_rfl) (by kernel_rfl) .u32 (by kernel_rfl) (H.cellc h0)
 have hnot : ∀ (x : Bool) (w : World), (Op.unary .not (.bool x)).run Tryz.prog w = .ok (.bool (!x)) w := fun _ _ => rfl
 go_enter Tryz.func60, Tryz.ntmps60
 go_wp2
 go_end0
 exact ⟨_, _, rfl, ⟨rfl, rfl⟩, H⟩
section
variable {P : Program} {n : Nat} {l : List (Nat × Value)} {S : List Nat} {w0 : World} {L : List Blk} {d : Tmp} {ty : TypeId} {pos : String} {af : Array Edge}
theorem K1_aadd {ops : Array Oper} {kt : Kont} {K : Act → World → Prop} {F : FuncId} {fn : Func} {k : IntKind} {x y : Operand} {ats : Array TypeId} {i b off : Nat} {cs : Array Value} {T : TypeId} {u v : Int}
  (hf0 : P.funcs[F]? = some fn) (hname : (fn.name == "runtime.NumGoroutine") = false) (hb : fn.body.isNone = true) (hn : Extern.findNext fn = none) (he : Extern.find fn = some (Extern.Atomic.update (Op.intArith .add) k true)) (hd : Nat.blt d n = true)
  (hx : ev l x = some (.pointer (some ⟨b, off, none⟩))) (hy : ev l y = some (.int k v)) (hi : L[i]? = some ⟨true, b, .cells cs T (0, 0)⟩) (hv : cs.toList[off]? = some (.int k u))
  (h : G n ((d, .int k (k.wrap (u + v))) :: l) S w0 (L.set i ⟨true, b, .cells (cs.setIfInBounds off (.int k (k.wrap (u + v)))) T (0, 0)⟩) K) :
  G n l S w0 L (K1 P ops kt ⟨some d, .call { callee := .value (.func F), args := [x, y].toArray, argTypes := ats }, ty, pos, af, none⟩ K) := .mk fun a w hf H => h4g rfl <| by
 unfold Oper.wp
 rw [execOp_call_go, List.map_toArray]
 have e : [x, y].map a.eval = [.pointer (some ⟨b, off, none⟩), .int k v] := by simp [hf.eval hx, hf.eval hy]
 rw [e]
 have : (#[] ++ [Value.pointer (some ⟨b, off, none⟩), Value.int k v].toArray ++ #[] : Array Value) = #[.pointer (some ⟨b, off, none⟩), .int k v] := by simp
 rw [this, run_call_add hf0 hname hb hn k he ((cell_at H i hi).trans (by simpa using hv)) (by simp [frozen_at H i hi]) (s:=k.wrap (u + v)) (by simp [Op.intArith])]
 have H1 := H.turn i hi (w.setCell ⟨b, off, none⟩ (.int k (k.wrap (u + v)))) (.cells (cs.setIfInBounds off (.int k (k.wrap (u + v)))) T (0, 0)) rfl rfl rfl (by simp)
  (by rw [heap_setCell_same w b off cs T _ (H.at_ i hi)]) (fun q hq => heap_setCell_other w _ q _ hq)
 exact h.out _ _ (hf.put (some d) _ hd) H1
end
theorem aadd_c {S w0 L} (b off T : Nat) (cs : List Value) (u v : Int) (hv : cs.toArray.toList[off]? = some (.int .i64 u)) : Fn Tryz.prog 50 #[.pointer (some ⟨b, off, none⟩), .int .i64 v] S w0 (⟨true, b, .cells cs.toArray T (0, 0)⟩ :: L) fun r L' => r = .int .i64 (IntKind.i64.wrap (u + v)) ∧ ⟨true, b, .cells (cs.set off (.int .i64 (IntKind.i64.wrap (u + v)))).toArray T (0, 0)⟩ :: L = L' := by
 refine Fn2 Tryz.func50 Tryz.ntmps50 rfl rfl ?_
 repeat' (first | refine h2m ?_ | refine h0d ?_ | refine h0u ?_ | refine h1h ?_ | refine h1f ?_ | refine h1g ?_ | refine h0s ?_ | refine h0t ?_ | refine h1l ?_ | refine h1k ?_ | refine h1j ?_ | refine h1i rfl ?_ | refine h1a ?_ | refine h1u ?_ | refine h1v ?_ | refine h2n ?_ | refine h0v rfl ?_ | refine h0w rfl ?_ | (refine gR 0 ?_ <;> (try refine h0a ?_; (first | (refine q_k (h0b rfl) ?_))) <;> (try refine h0d ?_)) | (refine gR 1 ?_ <;> (try refine h0a ?_; (first | (refine q_k (h0c rfl) ?_))) <;> (try refine h0a ?_; (first | (refine q_k (h0l rfl) ?_))) <;> (try refine h0a ?_; (first | (refine q_k (by first | (exact q_f fo_133_2) | (exact q_g fo_133_2)) ?_))) <;> (try refine h0a ?_; (first | (refine q_k (h0c rfl) ?_))) <;> (try refine h0a ?_; (first | (first | (refine K1_aadd (i:=0) Tryz.func69 (by kernel_rfl) (by kernel_rfl) (by kernel_rfl) (by kernel_rfl) rfl rfl rfl rfl hv ?_; (try simp only [List.set_cons_zero]); (try simp only [List.setIfInBounds_toArray]))))) <;> (try refine h0a ?_; (first | (refine q_k (h0b rfl) ?_))) <;> (try refine h0d ?_)) | ((first | (refine h0o rfl (fun hc => ?_) (fun hc => ?_)) | (refine h0x rfl (fun hc => ?_) (fun hc => ?_)) | (refine h1r rfl (fun hc => ?_) (fun hc => ?_))) <;> (try subst hc)))
 (refine h2q Tryz.results50 (.tmp rfl .nil) ?_)
 exact ⟨_, ⟨rfl, rfl⟩, fun _ H => H⟩
structure Cll where
 num : Int
 name : ByteArray
 args : Int
def Cll.cells (c : Cll) : List Value := [.int .u32 c.num, .string c.name, .int .i64 c.args]
def Cll.v (c : Cll) : Value := .agg #[.int .u32 c.num, .string c.name, .int .i64 c.args]
def clls : List Cll := [
 ⟨0, ⟨#[114, 101, 97, 100]⟩, 2⟩,
 ⟨1, ⟨#[119, 114, 105, 116, 101]⟩, 2⟩,
 ⟨2, ⟨#[111, 112, 101, 110]⟩, 2⟩,
 ⟨3, ⟨#[99, 108, 111, 115, 101]⟩, 1⟩,
 ⟨4, ⟨#[115, 116, 97, 116]⟩, 1⟩,
 ⟨8, ⟨#[115, 101, 101, 107]⟩, 2⟩,
 ⟨32, ⟨#[100, 117, 112]⟩, 1⟩,
 ⟨39, ⟨#[112, 105, 100]⟩, 0⟩,
 ⟨41, ⟨#[115, 111, 99, 107, 101, 116]⟩, 0⟩,
 ⟨42, ⟨#[99, 111, 110, 110, 101, 99, 116]⟩, 2⟩,
 ⟨49, ⟨#[98, 105, 110, 100]⟩, 2⟩,
 ⟨50, ⟨#[108, 105, 115, 116, 101, 110]⟩, 1⟩,
 ⟨57, ⟨#[102, 111, 114, 107]⟩, 0⟩,
 ⟨60, ⟨#[101, 120, 105, 116]⟩, 1⟩,
 ⟨77, ⟨#[116, 114, 117, 110, 99, 97, 116, 101]⟩, 2⟩,
 ⟨78, ⟨#[114, 101, 97, 100, 100, 105, 114]⟩, 1⟩,
 ⟨79, ⟨#[99, 119, 100]⟩, 0⟩,
 ⟨80, ⟨#[99, 104, 100, 105, 114]⟩, 1⟩,
 ⟨82, ⟨#[114, 101, 110, 97, 109, 101]⟩, 2⟩,
 ⟨83, ⟨#[109, 107, 100, 105, 114]⟩, 1⟩,
 ⟨84, ⟨#[114, 109, 100, 105, 114]⟩, 1⟩,
 ⟨86, ⟨#[108, 105, 110, 107]⟩, 2⟩,
 ⟨87, ⟨#[117, 110, 108, 105, 110, 107]⟩, 1⟩,
 ⟨88, ⟨#[115, 121, 109, 108, 105, 110, 107]⟩, 2⟩,
 ⟨89, ⟨#[114, 101, 97, 100, 108, 105, 110, 107]⟩, 1⟩,
 ⟨157, ⟨#[112, 114, 99, 116, 108]⟩, 1⟩,
 ⟨165, ⟨#[109, 111, 117, 110, 116]⟩, 2⟩,
 ⟨166, ⟨#[117, 109, 111, 117, 110, 116]⟩, 1⟩,
 ⟨317, ⟨#[115, 101, 99, 99, 111, 109, 112]⟩, 1⟩,
 ⟨446, ⟨#[114, 101, 115, 116, 114, 105, 99, 116]⟩, 1⟩]
theorem h4n : clls.length = 30 := rfl
def flatN (l : List Cll) : List Value := l.flatMap Cll.cells
theorem flatN_len (l : List Cll) : (flatN l).length = l.length * 3 := by
 induction l with
 | nil => rfl
 | cons i l ih => simp only [flatN, List.flatMap_cons, List.length_append, List.length_cons] at ih ⊢; rw [ih]; simp only [Cll.cells, List.length_cons, List.length_nil]; omega
theorem flatN_at (l : List Cll) (k : Nat) (h : k < l.length) : ((flatN l).drop (k * 3)).take 3 = (l[k]).cells := by
 induction l generalizing k with
 | nil => simp at h
 | cons i l ih =>
  cases k with
  | zero => simp [flatN, Cll.cells]
  | succ k =>
   have := ih k (by simpa using h)
   rw [show (k + 1) * 3 = k * 3 + 3 by omega]
   simpa [flatN, Cll.cells] using this
def byName (l : List Cll) : List (Value × Value) := l.map fun c => (.string c.name, c.v)
def byNum (l : List Cll) : List (Value × Value) := l.map fun c => (.int .u32 c.num, c.v)
abbrev tbl0 (b : Nat) (a m : Int) : Blk := ⟨true, b, .cells [.int .u32 0, .int .i32 0, .int .u32 0, .map none, .map none, .int .i64 a, .int .i64 m].toArray 135 (0, 0)⟩
abbrev tbl1 (b m1 m2 : Nat) (a m : Int) : Blk := ⟨true, b, .cells [.int .u32 1, .int .i32 0, .int .u32 0, .map (some m1), .map (some m2), .int .i64 a, .int .i64 m].toArray 135 (0, 0)⟩
theorem new_c {S w0 L} : Fn Tryz.prog 11 #[] S w0 L fun v L' => ∃ b, v = .pointer (some ⟨b, 0, none⟩) ∧ tbl0 b 0 0 :: L = L' := by
 refine Fn0 Tryz.func11 Tryz.ntmps11 rfl ?_
 repeat' (first | refine h2m ?_ | refine h0d ?_ | refine h0u ?_ | refine h1h ?_ | refine h1f ?_ | refine h1g ?_ | refine h0s ?_ | refine h0t ?_ | refine h1l ?_ | refine h1k ?_ | refine h1j ?_ | refine h1i rfl ?_ | refine h1a ?_ | refine h1u ?_ | refine h1v ?_ | refine h2n ?_ | refine h0v rfl ?_ | refine h0w rfl ?_ | (refine gR 0 ?_ <;> (try refine h0a ?_; (first | (refine q_k (h0b rfl) ?_))) <;> (try refine h0d ?_)) | (refine gR 1 ?_ <;> (try refine h0a ?_; (first | (refine q_k (by exact h2o (t:=135) (fun vs => (match vs with | [] => [Value.int .u32 0, Value.int .i32 0, Value.int .u32 0, Value.map none, Value.map none, Value.int .i64 0, Value.int .i64 0] | _ => [])) rfl (fun w => by kernel_rfl)) ?_; (try simp only [Value.cells]); (try simp only [zzC, zzN])))) <;> (try refine h0a ?_; (first | (refine h4z (t:=135) rfl rfl ?_; intro nb hnb; (try simp only [Value.cells])))) <;> (try refine h0a ?_; (first | (refine q_k (h0b rfl) ?_))) <;> (try refine h0d ?_)) | ((first | (refine h0o rfl (fun hc => ?_) (fun hc => ?_)) | (refine h0x rfl (fun hc => ?_) (fun hc => ?_)) | (refine h1r rfl (fun hc => ?_) (fun hc => ?_))) <;> (try subst hc)))
 (refine h2q Tryz.results11 (.tmp rfl .nil) ?_)
 exact ⟨_, ⟨_, rfl, rfl⟩, fun _ H => H⟩
set_option maxHeartbeats 2000000 in
theorem all_c {S w0 L} : Fn Tryz.prog 78 #[] S w0 L fun v L' => ∃ b, v = .slice (some ⟨b, 0, none⟩) 30 30 ∧ ⟨true, b, .cells (flatN clls).toArray 69 (0, 0)⟩ :: L = L' := by
 refine Fn0 Tryz.func78 Tryz.ntmps78 rfl ?_
 repeat' (first | refine h2m ?_ | refine h0d ?_ | refine h0u ?_ | refine h1h ?_ | refine h1f ?_ | refine h1g ?_ | refine h0s ?_ | refine h0t ?_ | refine h1l ?_ | refine h1k ?_ | refine h1j ?_ | refine h1i rfl ?_ | refine h1a ?_ | refine h1u ?_ | refine h1v ?_ | refine h2n ?_ | refine h0v rfl ?_ | refine h0w rfl ?_ | (refine gR 0 ?_ <;> (try refine h0a ?_; (first | (refine q_k (h0b rfl) ?_))) <;> (try refine h0d ?_)) | (refine gR 1 ?_ <;> (try refine h0a ?_; (first | (refine q_k (by exact h2o (t:=69) (fun vs => (match vs with | [(_, x0), (_, x1), (_, x2)] => [x0, x1, x2] | _ => [])) rfl (fun w => by kernel_rfl)) ?_; (try simp only [Value.cells]); (try simp only [zzC, zzN])))) <;> (try refine h0a ?_; (first | (refine q_k (by exact h2o (t:=69) (fun vs => (match vs with | [(_, x0), (_, x1), (_, x2)] => [x0, x1, x2] | _ => [])) rfl (fun w => by kernel_rfl)) ?_; (try simp only [Value.cells]); (try simp only [zzC, zzN])))) <;> (try refine h0a ?_; (first | (refine q_k (by exact h2o (t:=69) (fun vs => (match vs with | [(_, x0), (_, x1), (_, x2)] => [x0, x1, x2] | _ => [])) rfl (fun w => by kernel_rfl)) ?_; (try simp only [Value.cells]); (try simp only [zzC, zzN])))) <;> (try refine h0a ?_; (first | (refine q_k (by exact h2o (t:=69) (fun vs => (match vs with | [(_, x0), (_, x1), (_, x2)] => [x0, x1, x2] | _ => [])) rfl (fun w => by kernel_rfl)) ?_; (try simp only [Value.cells]); (try simp only [zzC, zzN])))) <;> (try refine h0a ?_; (first | (refine q_k (by exact h2o (t:=69) (fun vs => (match vs with | [(_, x0), (_, x1), (_, x2)] => [x0, x1, x2] | _ => [])) rfl (fun w => by kernel_rfl)) ?_; (try simp only [Value.cells]); (try simp only [zzC, zzN])))) <;> (try refine h0a ?_; (first | (refine q_k (by exact h2o (t:=69) (fun vs => (match vs with | [(_, x0), (_, x1), (_, x2)] => [x0, x1, x2] | _ => [])) rfl (fun w => by kernel_rfl)) ?_; (try simp only [Value.cells]); (try simp only [zzC, zzN])))) <;> (try refine h0a ?_; (first | (refine q_k (by exact h2o (t:=69) (fun vs => (match vs with | [(_, x0), (_, x1), (_, x2)] => [x0, x1, x2] | _ => [])) rfl (fun w => by kernel_rfl)) ?_; (try simp only [Value.cells]); (try simp only [zzC, zzN])))) <;> (try refine h0a ?_; (first | (refine q_k (by exact h2o (t:=69) (fun vs => (match vs with | [(_, x0), (_, x1), (_, x2)] => [x0, x1, x2] | _ => [])) rfl (fun w => by kernel_rfl)) ?_; (try simp only [Value.cells]); (try simp only [zzC, zzN])))) <;> (try refine h0a ?_; (first | (refine q_k (by exact h2o (t:=69) (fun vs => (match vs with | [(_, x0), (_, x1), (_, x2)] => [x0, x1, x2] | _ => [])) rfl (fun w => by kernel_rfl)) ?_; (try simp only [Value.cells]); (try simp only [zzC, zzN])))) <;> (try refine h0a ?_; (first | (refine q_k (by exact h2o (t:=69) (fun vs => (match vs with | [(_, x0), (_, x1), (_, x2)] => [x0, x1, x2] | _ => [])) rfl (fun w => by kernel_rfl)) ?_; (try simp only [Value.cells]); (try simp only [zzC, zzN])))) <;> (try refine h0a ?_; (first | (refine q_k (by exact h2o (t:=69) (fun vs => (match vs with | [(_, x0), (_, x1), (_, x2)] => [x0, x1, x2] | _ => [])) rfl (fun w => by kernel_rfl)) ?_; (try simp only [Value.cells]); (try simp only [zzC, zzN])))) <;> (try refine h0a ?_; (first | (refine q_k (by exact h2o (t:=69) (fun vs => (match vs with | [(_, x0), (_, x1), (_, x2)] => [x0, x1, x2] | _ => [])) rfl (fun w => by kernel_rfl)) ?_; (try simp only [Value.cells]); (try simp only [zzC, zzN])))) <;> (try refine h0a ?_; (first | (refine q_k (by exact h2o (t:=69) (fun vs => (match vs with | [(_, x0), (_, x1), (_, x2)] => [x0, x1, x2] | _ => [])) rfl (fun w => by kernel_rfl)) ?_; (try simp only [Value.cells]); (try simp only [zzC, zzN])))) <;> (try refine h0a ?_; (first | (refine q_k (by exact h2o (t:=69) (fun vs => (match vs with | [(_, x0), (_, x1), (_, x2)] => [x0, x1, x2] | _ => [])) rfl (fun w => by kernel_rfl)) ?_; (try simp only [Value.cells]); (try simp only [zzC, zzN])))) <;> (try refine h0a ?_; (first | (refine q_k (by exact h2o (t:=69) (fun vs => (match vs with | [(_, x0), (_, x1), (_, x2)] => [x0, x1, x2] | _ => [])) rfl (fun w => by kernel_rfl)) ?_; (try simp only [Value.cells]); (try simp only [zzC, zzN])))) <;> (try refine h0a ?_; (first | (refine q_k (by exact h2o (t:=69) (fun vs => (match vs with | [(_, x0), (_, x1), (_, x2)] => [x0, x1, x2] | _ => [])) rfl (fun w => by kernel_rfl)) ?_; (try simp only [Value.cells]); (try simp only [zzC, zzN])))) <;> (try refine h0a ?_; (first | (refine q_k (by exact h2o (t:=69) (fun vs => (match vs with | [(_, x0), (_, x1), (_, x2)] => [x0, x1, x2] | _ => [])) rfl (fun w => by kernel_rfl)) ?_; (try simp only [Value.cells]); (try simp only [zzC, zzN])))) <;> (try refine h0a ?_; (first | (refine q_k (by exact h2o (t:=69) (fun vs => (match vs with | [(_, x0), (_, x1), (_, x2)] => [x0, x1, x2] | _ => [])) rfl (fun w => by kernel_rfl)) ?_; (try simp only [Value.cells]); (try simp only [zzC, zzN])))) <;> (try refine h0a ?_; (first | (refine q_k (by exact h2o (t:=69) (fun vs => (match vs with | [(_, x0), (_, x1), (_, x2)] => [x0, x1, x2] | _ => [])) rfl (fun w => by kernel_rfl)) ?_; (try simp only [Value.cells]); (try simp only [zzC, zzN])))) <;> (try refine h0a ?_; (first | (refine q_k (by exact h2o (t:=69) (fun vs => (match vs with | [(_, x0), (_, x1), (_, x2)] => [x0, x1, x2] | _ => [])) rfl (fun w => by kernel_rfl)) ?_; (try simp only [Value.cells]); (try simp only [zzC, zzN])))) <;> (try refine h0a ?_; (first | (refine q_k (by exact h2o (t:=69) (fun vs => (match vs with | [(_, x0), (_, x1), (_, x2)] => [x0, x1, x2] | _ => [])) rfl (fun w => by kernel_rfl)) ?_; (try simp only [Value.cells]); (try simp only [zzC, zzN])))) <;> (try refine h0a ?_; (first | (refine q_k (by exact h2o (t:=69) (fun vs => (match vs with | [(_, x0), (_, x1), (_, x2)] => [x0, x1, x2] | _ => [])) rfl (fun w => by kernel_rfl)) ?_; (try simp only [Value.cells]); (try simp only [zzC, zzN])))) <;> (try refine h0a ?_; (first | (refine q_k (by exact h2o (t:=69) (fun vs => (match vs with | [(_, x0), (_, x1), (_, x2)] => [x0, x1, x2] | _ => [])) rfl (fun w => by kernel_rfl)) ?_; (try simp only [Value.cells]); (try simp only [zzC, zzN])))) <;> (try refine h0a ?_; (first | (refine q_k (by exact h2o (t:=69) (fun vs => (match vs with | [(_, x0), (_, x1), (_, x2)] => [x0, x1, x2] | _ => [])) rfl (fun w => by kernel_rfl)) ?_; (try simp only [Value.cells]); (try simp only [zzC, zzN])))) <;> (try refine h0a ?_; (first | (refine q_k (by exact h2o (t:=69) (fun vs => (match vs with | [(_, x0), (_, x1), (_, x2)] => [x0, x1, x2] | _ => [])) rfl (fun w => by kernel_rfl)) ?_; (try simp only [Value.cells]); (try simp only [zzC, zzN])))) <;> (try refine h0a ?_; (first | (refine q_k (by exact h2o (t:=69) (fun vs => (match vs with | [(_, x0), (_, x1), (_, x2)] => [x0, x1, x2] | _ => [])) rfl (fun w => by kernel_rfl)) ?_; (try simp only [Value.cells]); (try simp only [zzC, zzN])))) <;> (try refine h0a ?_; (first | (refine q_k (by exact h2o (t:=69) (fun vs => (match vs with | [(_, x0), (_, x1), (_, x2)] => [x0, x1, x2] | _ => [])) rfl (fun w => by kernel_rfl)) ?_; (try simp only [Value.cells]); (try simp only [zzC, zzN])))) <;> (try refine h0a ?_; (first | (refine q_k (by exact h2o (t:=69) (fun vs => (match vs with | [(_, x0), (_, x1), (_, x2)] => [x0, x1, x2] | _ => [])) rfl (fun w => by kernel_rfl)) ?_; (try simp only [Value.cells]); (try simp only [zzC, zzN])))) <;> (try refine h0a ?_; (first | (refine q_k (by exact h2o (t:=69) (fun vs => (match vs with | [(_, x0), (_, x1), (_, x2)] => [x0, x1, x2] | _ => [])) rfl (fun w => by kernel_rfl)) ?_; (try simp only [Value.cells]); (try simp only [zzC, zzN])))) <;> (try refine h0a ?_; (first | (refine q_k (by exact h2o (t:=69) (fun vs => (match vs with | [(_, x0), (_, x1), (_, x2)] => [x0, x1, x2] | _ => [])) rfl (fun w => by kernel_rfl)) ?_; (try simp only [Value.cells]); (try simp only [zzC, zzN])))) <;> (try refine h0a ?_; (first | (refine h2r (t:=56) (m:=30) (e:=69) (fun vs => (match vs with | [(_, x0), (_, x1), (_, x2), (_, x3), (_, x4), (_, x5), (_, x6), (_, x7), (_, x8), (_, x9), (_, x10), (_, x11), (_, x12), (_, x13), (_, x14), (_, x15), (_, x16), (_, x17), (_, x18), (_, x19), (_, x20), (_, x21), (_, x22), (_, x23), (_, x24), (_, x25), (_, x26), (_, x27), (_, x28), (_, x29)] => x0.cells.toList ++ (x1.cells.toList ++ (x2.cells.toList ++ (x3.cells.toList ++ (x4.cells.toList ++ (x5.cells.toList ++ (x6.cells.toList ++ (x7.cells.toList ++ (x8.cells.toList ++ (x9.cells.toList ++ (x10.cells.toList ++ (x11.cells.toList ++ (x12.cells.toList ++ (x13.cells.toList ++ (x14.cells.toList ++ (x15.cells.toList ++ (x16.cells.toList ++ (x17.cells.toList ++ (x18.cells.toList ++ (x19.cells.toList ++ (x20.cells.toList ++ (x21.cells.toList ++ (x22.cells.toList ++ (x23.cells.toList ++ (x24.cells.toList ++ (x25.cells.toList ++ (x26.cells.toList ++ (x27.cells.toList ++ (x28.cells.toList ++ x29.cells.toList)))))))))))))))))))))))))))) | _ => [])) rfl rfl (fun w => by kernel_rfl) ?_; intro nb hnb; (try simp only [Value.cells]); (try simp only [zzC, zzN])))) <;> (try refine h0a ?_; (first | (refine q_k (h0b rfl) ?_))) <;> (try refine h0d ?_)) | ((first | (refine h0o rfl (fun hc => ?_) (fun hc => ?_)) | (refine h0x rfl (fun hc => ?_) (fun hc => ?_)) | (refine h1r rfl (fun hc => ?_) (fun hc => ?_))) <;> (try subst hc)))
 (refine h2q Tryz.results78 (.tmp rfl .nil) ?_)
 exact ⟨_, ⟨_, rfl, rfl⟩, fun _ H => H⟩
theorem fd_app_none {d : TypeDesc} {k : Value} {a : List (Value × Value)} {i : Nat} (h : ∀ p ∈ a, Instr.sameNow d k p.1 = some false) : fd d k a i = some none := by
 induction a generalizing i with
 | nil => rfl
 | cons p r ih =>
  simp only [fd, h p (by simp)]
  exact ih (fun q hq => h q (by simp [hq]))
theorem names_new : ∀ k : Fin 30, ∀ c ∈ clls.take k.val, (clls[k.val]'(by have := k.isLt; rw [h4n]; exact this)).name ≠ c.name ∧ (clls[k.val]'(by have := k.isLt; rw [h4n]; exact this)).num ≠ c.num := by decide +kernel
theorem fd_name {l : List Cll} {s : ByteArray} (h : ∀ c ∈ l, s ≠ c.name) : fd .string (.string s) (byName l) 0 = some none := by
 apply fd_app_none
 intro p hp
 obtain ⟨c, hc, rfl⟩ := List.mem_map.1 hp
 simp [Instr.sameNow, ba_beq, h c hc]
theorem fd_num {l : List Cll} {s : Int} (h : ∀ c ∈ l, s ≠ c.num) : fd (.int .u32) (.int .u32 s) (byNum l) 0 = some none := by
 apply fd_app_none
 intro p hp
 obtain ⟨c, hc, rfl⟩ := List.mem_map.1 hp
 simp [Instr.sameNow, h c hc]
set_option maxHeartbeats 1000000 in
theorem fill_c {S w0 L} (b : Nat) (sm a m : Int) (hm : 0 ≤ m ∧ m < 4000000000000000000) : Fn Tryz.prog 61 #[.pointer (some ⟨b, 0, none⟩)] S w0 (⟨true, b, .cells [.int .u32 0, .int .i32 1, .int .u32 sm, .map none, .map none, .int .i64 a, .int .i64 m].toArray 135 (0, 0)⟩ :: L)
  (OnceR 135 b 0 fun cs L2 => ∃ m1 m2, cs = [.int .u32 0, .int .i32 1, .int .u32 sm, .map (some m1), .map (some m2), .int .i64 a, .int .i64 (m + 1)] ∧ L2 = h5m m1 (byName clls) :: h5m m2 (byNum clls) :: L) := by
 have e1 : IntKind.i64.wrap (m + 1) = m + 1 := IntWalk.i64_in _ (by omega)
 refine Fn1 Tryz.func61 Tryz.ntmps61 rfl rfl ?_
 repeat' (first | (refine h5e (id:=0) ?_) | refine h2m ?_ | refine h0d ?_ | refine h0u ?_ | refine h1h ?_ | refine h1f ?_ | refine h1g ?_ | refine h0s ?_ | refine h0t ?_ | refine h1l ?_ | refine h1k ?_ | refine h1j ?_ | refine h1i rfl ?_ | refine h1a ?_ | refine h1u ?_ | refine h1v ?_ | refine h2n ?_ | refine h0v rfl ?_ | refine h0w rfl ?_ | (refine gR 0 ?_ <;> (try refine h0a ?_; (first | (refine q_k (h0c rfl) ?_))) <;> (try refine h0a ?_; (first | (refine q_k (h0c rfl) ?_))) <;> (try refine h0a ?_; (first | (refine h4r rfl ?_; intro nb hnb))) <;> (try refine h0a ?_; (first | (refine h4r rfl ?_; intro nb hnb))) <;> (try refine h0a ?_; (first | (refine q_k (h0l rfl) ?_))) <;> (try refine h0a ?_; (first | (refine q_k (by first | (exact q_f h5o) | (exact q_g h5o)) ?_))) <;> (try refine h0a ?_; (first | (apply h3a (t:=129); exact rfl; exact rfl; (focus (repeat (first | exact fd0 | (with_reducible assumption) | apply fdA | apply fdS))); exact rfl; exact rfl; kernel_rfl; exact c_8; exact c_22; (try simp only [List.set_cons_succ]); (try simp only [List.set_cons_zero])))) <;> (try refine h0a ?_; (first | (refine q_k (h0l rfl) ?_))) <;> (try refine h0a ?_; (first | (refine q_k (by first | (exact q_f h3r) | (exact q_g h3r)) ?_))) <;> (try refine h0a ?_; (first | (apply h3a (t:=130); exact rfl; exact rfl; (focus (repeat (first | exact fd0 | (with_reducible assumption) | apply fdA | apply fdS))); exact rfl; exact rfl; kernel_rfl; exact c_8; exact c_22; (try simp only [List.set_cons_succ]); (try simp only [List.set_cons_zero])))) <;> (try refine h0d ?_)) | (refine gR 1 ?_ <;> (try refine h0a ?_; (first | (first | (refine q_c 78 (c:=by apply all_c) (h:=?_); rintro _ _ ⟨bs, rfl, rfl⟩; (try simp only [zzE, zzF]))))) <;> (try refine h0a ?_; (first | (refine q_k (by apply h1d; exact rfl; exact (fun _ => BigFrame.builtin_len ..); apply h1n Tryz.underlying56; exact c_17) ?_))) <;> (try refine h0a ?_; (first | (refine q_k (h0c rfl) ?_))) <;> (try refine h0d ?_)) | (refine gR 2 ?_ <;> (try refine h0a ?_; (first | (refine q_k (by exact q_b (r:=by first | (exact h1y q_o) | (exact h1z q_o) | exact h2v)) ?_))) <;> (try refine h0d ?_)) | (refine gR 3 ?_ <;> (try refine h0a ?_; (first | (refine q_k (by apply h0y; exact rfl; exact rfl; (focus (apply h4p Tryz.underlying56 h4k; (omega); (omega); exact c_2))) ?_))) <;> (try refine h0a ?_; (first | (refine q_k (by apply h3i (t:=69); exact rfl; (focus (repeat (first | exact fd0 | (with_reducible assumption) | apply fdA | apply fdS))); kernel_rfl; kernel_rfl; exact h4k; exact c_8; exact c_4) ?_))) <;> (try refine h0a ?_; (first | (refine h2u (t:=69) rfl Tryz.zeroValue69 ?_; intro nb hnb; (try simp only [Value.cells])))) <;> (try refine h0a ?_; (first | (first | (apply h2j (t:=69); exact rfl; exact rfl; (focus (repeat (first | exact fd0 | (with_reducible assumption) | apply fdA | apply fdS))); kernel_rfl; exact c_12; (focus (first | (with_reducible assumption) | exact rfl | (simp; done) | (simp [h1w, h1m, h1x, h2a, h2p, h2b, *]; done))); (try simp only [List.set_cons_succ]); (try simp only [List.set_cons_zero])) | (apply h2k (t:=69); exact rfl; exact rfl; (focus (repeat (first | exact fd0 | (with_reducible assumption) | apply fdA | apply fdS))); exact h4k; exact h1q; (focus (first | (with_reducible assumption) | (focus (first | (with_reducible assumption) | exact rfl | (simp; done) | (simp [h1w, h1m, h1x, h2a, h2p, h2b, *]; done))))); exact c_8; (try simp only [List.set_cons_succ]); (try simp only [List.set_cons_zero]))))) <;> (try refine h0d ?_)) | ((refine h3x (id:=4) (m:=20) (by kernel_rfl) rfl ?_) <;> (try first | (refine q_t 0 (e:=h1b) (x:=by first | exact h0c rfl) (h:=?_)) | (refine h0e ?_)) <;> (try first | (refine q_t 1 (e:=h1b) (x:=by first | exact h0l rfl) (h:=?_)) | (refine h0e ?_)) <;> (try first | (refine q_t 2 (e:=h1b) (x:=by first | (first | (exact q_f h5o) | (exact q_g h5o))) (h:=?_)) | (refine h0e ?_)) <;> (try first | (refine q_t 3 (e:=h1b) (x:=by first | (apply h0i (t:=129); exact rfl; (focus (repeat (first | exact fd0 | (with_reducible assumption) | apply fdA | apply fdS))); kernel_rfl; kernel_rfl; exact h1q)) (h:=?_)) | (refine h0e ?_)) <;> (try first | (refine q_t 4 (e:=h1b) (x:=by first | (first | (exact q_f h4q) | (exact q_g h4q))) (h:=?_)) | (refine h0e ?_)) <;> (try first | (refine q_t 5 (e:=h1b) (x:=by first | (apply h0i (t:=9); exact rfl; (focus (repeat (first | exact fd0 | (with_reducible assumption) | apply fdA | apply fdS))); kernel_rfl; kernel_rfl; exact h1q)) (h:=?_)) | (refine h0e ?_)) <;> (try first | (refine q_t 6 (e:=h1b) (x:=by first | exact h0c rfl) (h:=?_)) | (refine h0e ?_)) <;> (try first | (refine q_t 7 (e:=h1b) (x:=by first | exact h0l rfl) (h:=?_)) | (refine h0e ?_)) <;> (try first | (refine q_t 8 (e:=h1b) (x:=by first | (first | (exact q_f h3r) | (exact q_g h3r))) (h:=?_)) | (refine h0e ?_)) <;> (try first | (refine q_t 9 (e:=h1b) (x:=by first | (apply h0i (t:=130); exact rfl; (focus (repeat (first | exact fd0 | (with_reducible assumption) | apply fdA | apply fdS))); kernel_rfl; kernel_rfl; exact h1q)) (h:=?_)) | (refine h0e ?_)) <;> (try first | (refine q_t 10 (e:=h1b) (x:=by first | (first | (exact q_f fo_69_0) | (exact q_g fo_69_0))) (h:=?_)) | (refine h0e ?_)) <;> (try first | (refine q_t 11 (e:=h1b) (x:=by first | (apply h0i (t:=58); exact rfl; (focus (repeat (first | exact fd0 | (with_reducible assumption) | apply fdA | apply fdS))); kernel_rfl; kernel_rfl; exact h1q)) (h:=?_)) | (refine h0e ?_)) <;> (try first | (refine q_t 12 (e:=h1b) (x:=by first | (apply h3i (t:=69); exact rfl; (focus (repeat (first | exact fd0 | (with_reducible assumption) | apply fdA | apply fdS))); kernel_rfl; kernel_rfl; exact h4k; exact c_8; exact c_4)) (h:=?_)) | (refine h0e ?_)) <;> (try first | (refine q_t 13 (e:=h1b) (x:=by first | (apply h3i (t:=69); exact rfl; (focus (repeat (first | exact fd0 | (with_reducible assumption) | apply fdA | apply fdS))); kernel_rfl; kernel_rfl; exact h4k; exact c_8; exact c_4)) (h:=?_)) | (refine h0e ?_)) <;> (try first | (refine q_r 14 ?_; (first | (apply K1_mapEntry; exact rfl; exact rfl; exact rfl; (focus (repeat (first | exact fd0 | (with_reducible assumption) | apply fdA | apply fdS))); exact Tryz.underlying129; exact Tryz.underlying9; exact c_19; exact Tryz.zeroValue69; exact h1q; (try simp only [List.set_cons_succ]); (try simp only [List.set_cons_zero]))); refine H_go h1b ?_) | (refine h0e ?_)) <;> (try first | (refine q_t 15 (e:=h1b) (x:=by first | (first | exact h0m rfl rfl | exact h0q rfl rfl)) (h:=?_)) | (refine h0e ?_)) <;> (try first | (refine q_r 16 ?_; (first | (first | (apply h5b; exact rfl; exact rfl; exact rfl; (focus (repeat (first | exact fd0 | (with_reducible assumption) | apply fdA | apply fdS))); (try simp only [List.set_cons_succ]); (try simp only [List.set_cons_zero])) | (apply h4v; exact rfl; exact rfl; exact rfl; (focus (repeat (first | exact fd0 | (with_reducible assumption) | apply fdA | apply fdS))); exact h1q; (focus (first | exact rfl | omega)); (try simp only [List.set_cons_succ]); (try simp only [List.set_cons_zero])))); refine H_go h1b ?_) | (refine h0e ?_)) <;> (try first | (refine q_r 17 ?_; (first | (apply K1_mapEntry; exact rfl; exact rfl; exact rfl; (focus (repeat (first | exact fd0 | (with_reducible assumption) | apply fdA | apply fdS))); exact Tryz.underlying130; exact Tryz.underlying58; exact c_19; exact Tryz.zeroValue69; exact h1q; (try simp only [List.set_cons_succ]); (try simp only [List.set_cons_zero]))); refine H_go h1b ?_) | (refine h0e ?_)) <;> (try first | (refine q_t 18 (e:=h1b) (x:=by first | (first | exact h0m rfl rfl | exact h0q rfl rfl)) (h:=?_)) | (refine h0e ?_)) <;> (try first | (refine q_r 19 ?_; (first | (first | (apply h5b; exact rfl; exact rfl; exact rfl; (focus (repeat (first | exact fd0 | (with_reducible assumption) | apply fdA | apply fdS))); (try simp only [List.set_cons_succ]); (try simp only [List.set_cons_zero])) | (apply h4v; exact rfl; exact rfl; exact rfl; (focus (repeat (first | exact fd0 | (with_reducible assumption) | apply fdA | apply fdS))); exact h1q; (focus (first | exact rfl | omega)); (try simp only [List.set_cons_succ]); (try simp only [List.set_cons_zero])))); refine H_go h1b ?_) | (refine h0e ?_)) <;> (try refine h5f (by kernel_rfl) ?_)) | (refine gR 5 ?_ <;> (try refine h0a ?_; (first | (refine q_k (by exact q_b (r:=by apply h3j; exact c_6; (focus (first | (refine IntWalk.i64_in _ ?_; omega) | (refine IntWalk.u8_in _ ?_; omega) | (refine IntWalk.u16_in _ ?_; omega) | (refine IntWalk.u32_in _ ?_; omega) | (refine IntWalk.u64_in _ ?_; omega) | (refine IntWalk.i32_in _ ?_; omega) | exact rfl)))) ?_))) <;> (try refine h0a ?_; (first | (refine q_k (h0c rfl) ?_))) <;> (try refine h0d ?_)) | (refine gR 6 ?_ <;> (try refine h0a ?_; (first | (refine q_k (h0c rfl) ?_))) <;> (try refine h0a ?_; (first | (refine q_k (h0l rfl) ?_))) <;> (try refine h0a ?_; (first | (refine q_k (by first | (exact q_f fo_135_4) | (exact q_g fo_135_4)) ?_))) <;> (try refine h0a ?_; (first | fail)) <;> (try refine h0d ?_)) | ((first | (refine h0o rfl (fun hc => ?_) (fun hc => ?_)) | (refine h0x rfl (fun hc => ?_) (fun hc => ?_)) | (refine h1r rfl (fun hc => ?_) (fun hc => ?_))) <;> (try subst hc)))
 refine ⟨?_⟩
 obtain ⟨m2, rfl⟩ : ∃ x, x = nb := ⟨_, rfl⟩
 obtain ⟨m1, rfl⟩ : ∃ x, x = nb := ⟨_, rfl⟩
 refine h1a ?_
 refine G_loopk (γ:=Nat) (fun k => k ≤ 30) (fun k => 30 - k) (fun k => [(14, .int .i64 (k : Nat))]) [(0, _), (12, _), (13, _)]
  (fun k => ⟨true, b, .cells [.int .u32 0, .int .i32 1, .int .u32 sm, .map (some m1), .map (some m2), .int .i64 a, .int .i64 m].toArray 135 (0, 0)⟩ :: h5m m1 (byName (clls.take k)) :: h5m m2 (byNum (clls.take k)) :: ⟨true, bs, .cells (flatN clls).toArray 69 (0, 0)⟩ :: L)
  0 (.cons rfl (.cons rfl (.cons rfl .nil))) (Nat.zero_le _) (by (focus (repeat (first | exact Sub.nil | refine Sub.cons rfl ?_ | (refine Sub.cons (congrArg some ?_) ?_; (focus go_num)))))) ?_ ?_
 ·intro w H
  exact (((H.pick (i:=3) rfl).perm (.cons _ (.cons _ (.swap _ _ _)))).perm (.cons _ (.swap _ _ _))).perm (.cons _ (.cons _ (.swap _ _ _)))
 intro k (hk : k ≤ 30)
 simp only [List.cons_append, List.nil_append]
 by_cases hlt : k < 30
 ·have hx := flatN_at clls k hlt
  have hsz : k * 3 + 3 ≤ (flatN clls).toArray.size := by rw [List.size_toArray, flatN_len, h4n]; omega
  have hnn := names_new ⟨k, hlt⟩
  have hs1 : clls.take (k + 1) = clls.take k ++ [clls[k]'(by rw [h4n]; exact hlt)] := by rw [List.take_add_one, List.getElem?_eq_getElem]; rfl
  dsimp only at hnn
  generalize hc : clls[k]'(by rw [h4n]; exact hlt) = c at *
  have hf1 := fd_name (l:=clls.take k) (s:=c.name) (fun q hq => (hnn q hq).1)
  have hf2 := fd_num (l:=clls.take k) (s:=c.num) (fun q hq => (hnn q hq).2)
  obtain ⟨num, name, args⟩ := c
  simp only [Cll.cells] at hx hf1 hf2
  have hs1' := Lib.hid hs1
  clear hs1 hnn hc
  repeat' (first | refine h2m ?_ | refine h0d ?_ | refine h0u ?_ | refine h1h ?_ | refine h1f ?_ | refine h1g ?_ | refine h0s ?_ | refine h0t ?_ | refine h1l ?_ | refine h1k ?_ | refine h1j ?_ | refine h1i rfl ?_ | refine h1a ?_ | refine h1u ?_ | refine h1v ?_ | refine h2n ?_ | refine h0v rfl ?_ | refine h0w rfl ?_ | (refine gR 0 ?_ <;> (try refine h0a ?_; (first | (refine q_k (h0c rfl) ?_))) <;> (try refine h0a ?_; (first | (refine q_k (h0c rfl) ?_))) <;> (try refine h0a ?_; (first | (refine h4r rfl ?_; intro nb hnb))) <;> (try refine h0a ?_; (first | (refine h4r rfl ?_; intro nb hnb))) <;> (try refine h0a ?_; (first | (refine q_k (h0l rfl) ?_))) <;> (try refine h0a ?_; (first | (refine q_k (by first | (exact q_f h5o) | (exact q_g h5o)) ?_))) <;> (try refine h0a ?_; (first | (apply h3a (t:=129); exact rfl; exact rfl; (focus (repeat (first | exact fd0 | (with_reducible assumption) | apply fdA | apply fdS))); exact rfl; exact rfl; kernel_rfl; exact c_8; exact c_22; (try simp only [List.set_cons_succ]); (try simp only [List.set_cons_zero])))) <;> (try refine h0a ?_; (first | (refine q_k (h0l rfl) ?_))) <;> (try refine h0a ?_; (first | (refine q_k (by first | (exact q_f h3r) | (exact q_g h3r)) ?_))) <;> (try refine h0a ?_; (first | (apply h3a (t:=130); exact rfl; exact rfl; (focus (repeat (first | exact fd0 | (with_reducible assumption) | apply fdA | apply fdS))); exact rfl; exact rfl; kernel_rfl; exact c_8; exact c_22; (try simp only [List.set_cons_succ]); (try simp only [List.set_cons_zero])))) <;> (try refine h0d ?_)) | (refine gR 1 ?_ <;> (try refine h0a ?_; (first | fail)) <;> (try refine h0a ?_; (first | (refine q_k (by apply h1d; exact rfl; exact (fun _ => BigFrame.builtin_len ..); apply h1n Tryz.underlying56; exact c_17) ?_))) <;> (try refine h0a ?_; (first | (refine q_k (h0c rfl) ?_))) <;> (try refine h0d ?_)) | (refine gR 2 ?_ <;> (try refine h0a ?_; (first | (refine q_k (by exact q_b (r:=by first | (exact h1y q_o) | (exact h1z q_o) | exact h2v)) ?_))) <;> (try refine h0d ?_)) | (refine gR 3 ?_ <;> (try refine h0a ?_; (first | (refine q_k (by apply h0y; exact rfl; exact rfl; (focus (apply h4p Tryz.underlying56 h4k; (omega); (omega); exact c_2))) ?_))) <;> (try refine h0a ?_; (first | (refine q_k (by apply h3i (t:=69); exact rfl; (focus (repeat (first | exact fd0 | (with_reducible assumption) | apply fdA | apply fdS))); kernel_rfl; kernel_rfl; exact h4k; exact c_8; exact c_4) ?_))) <;> (try refine h0a ?_; (first | (refine h2u (t:=69) rfl Tryz.zeroValue69 ?_; intro nb hnb; (try simp only [Value.cells])))) <;> (try refine h0a ?_; (first | (first | (apply h2j (t:=69); exact rfl; exact rfl; (focus (repeat (first | exact fd0 | (with_reducible assumption) | apply fdA | apply fdS))); kernel_rfl; exact c_12; (focus (first | (with_reducible assumption) | exact rfl | (simp; done) | (simp [h1w, h1m, h1x, h2a, h2p, h2b, *]; done))); (try simp only [List.set_cons_succ]); (try simp only [List.set_cons_zero])) | (apply h2k (t:=69); exact rfl; exact rfl; (focus (repeat (first | exact fd0 | (with_reducible assumption) | apply fdA | apply fdS))); exact h4k; exact h1q; (focus (first | (with_reducible assumption) | (focus (first | (with_reducible assumption) | exact rfl | (simp; done) | (simp [h1w, h1m, h1x, h2a, h2p, h2b, *]; done))))); exact c_8; (try simp only [List.set_cons_succ]); (try simp only [List.set_cons_zero]))))) <;> (try refine h0d ?_)) | ((apply G_regionHc (i:=2) (j:=2) (id:=4) (m:=20); exact c_9; kernel_rfl; exact rfl) <;> (try first | (refine q_t 0 (e:=c_3) (x:=by first | exact h0c rfl) (h:=?_)) | (refine h0e ?_)) <;> (try first | (refine q_t 1 (e:=c_3) (x:=by first | exact h0l rfl) (h:=?_)) | (refine h0e ?_)) <;> (try first | (refine q_t 2 (e:=c_3) (x:=by first | (first | (exact q_f h5o) | (exact q_g h5o))) (h:=?_)) | (refine h0e ?_)) <;> (try first | (refine q_t 3 (e:=c_3) (x:=by first | (apply h0i (t:=129); exact rfl; (focus (repeat (first | exact fd0 | (with_reducible assumption) | apply fdA | apply fdS))); kernel_rfl; kernel_rfl; exact h1q)) (h:=?_)) | (refine h0e ?_)) <;> (try first | (refine q_t 4 (e:=c_3) (x:=by first | (first | (exact q_f h4q) | (exact q_g h4q))) (h:=?_)) | (refine h0e ?_)) <;> (try first | (refine q_t 5 (e:=c_3) (x:=by first | (apply h0i (t:=9); exact rfl; (focus (repeat (first | exact fd0 | (with_reducible assumption) | apply fdA | apply fdS))); kernel_rfl; kernel_rfl; exact h1q)) (h:=?_)) | (refine h0e ?_)) <;> (try first | (refine q_t 6 (e:=c_3) (x:=by first | exact h0c rfl) (h:=?_)) | (refine h0e ?_)) <;> (try first | (refine q_t 7 (e:=c_3) (x:=by first | exact h0l rfl) (h:=?_)) | (refine h0e ?_)) <;> (try first | (refine q_t 8 (e:=c_3) (x:=by first | (first | (exact q_f h3r) | (exact q_g h3r))) (h:=?_)) | (refine h0e ?_)) <;> (try first | (refine q_t 9 (e:=c_3) (x:=by first | (apply h0i (t:=130); exact rfl; (focus (repeat (first | exact fd0 | (with_reducible assumption) | apply fdA | apply fdS))); kernel_rfl; kernel_rfl; exact h1q)) (h:=?_)) | (refine h0e ?_)) <;> (try first | (refine q_t 10 (e:=c_3) (x:=by first | (first | (exact q_f fo_69_0) | (exact q_g fo_69_0))) (h:=?_)) | (refine h0e ?_)) <;> (try first | (refine q_t 11 (e:=c_3) (x:=by first | (apply h0i (t:=58); exact rfl; (focus (repeat (first | exact fd0 | (with_reducible assumption) | apply fdA | apply fdS))); kernel_rfl; kernel_rfl; exact h1q)) (h:=?_)) | (refine h0e ?_)) <;> (try first | (refine q_t 12 (e:=c_3) (x:=by first | (apply h3i (t:=69); exact rfl; (focus (repeat (first | exact fd0 | (with_reducible assumption) | apply fdA | apply fdS))); kernel_rfl; kernel_rfl; exact h4k; exact c_8; exact c_4)) (h:=?_)) | (refine h0e ?_)) <;> (try first | (refine q_t 13 (e:=c_3) (x:=by first | (apply h3i (t:=69); exact rfl; (focus (repeat (first | exact fd0 | (with_reducible assumption) | apply fdA | apply fdS))); kernel_rfl; kernel_rfl; exact h4k; exact c_8; exact c_4)) (h:=?_)) | (refine h0e ?_)) <;> (try first | (refine q_r 14 ?_; (first | (apply K1_mapEntry; exact rfl; exact rfl; exact rfl; (focus (repeat (first | exact fd0 | (with_reducible assumption) | apply fdA | apply fdS))); exact Tryz.underlying129; exact Tryz.underlying9; exact c_19; exact Tryz.zeroValue69; exact h1q; (try simp only [List.set_cons_succ]); (try simp only [List.set_cons_zero]))); refine H_go c_3 ?_) | (refine h0e ?_)) <;> (try first | (refine q_t 15 (e:=c_3) (x:=by first | (first | exact h0m rfl rfl | exact h0q rfl rfl)) (h:=?_)) | (refine h0e ?_)) <;> (try first | (refine q_r 16 ?_; (first | (first | (apply h5b; exact rfl; exact rfl; exact rfl; (focus (repeat (first | exact fd0 | (with_reducible assumption) | apply fdA | apply fdS))); (try simp only [List.set_cons_succ]); (try simp only [List.set_cons_zero])) | (apply h4v; exact rfl; exact rfl; exact rfl; (focus (repeat (first | exact fd0 | (with_reducible assumption) | apply fdA | apply fdS))); exact h1q; (focus (first | exact rfl | omega)); (try simp only [List.set_cons_succ]); (try simp only [List.set_cons_zero])))); refine H_go c_3 ?_) | (refine h0e ?_)) <;> (try first | (refine q_r 17 ?_; (first | (apply K1_mapEntry; exact rfl; exact rfl; exact rfl; (focus (repeat (first | exact fd0 | (with_reducible assumption) | apply fdA | apply fdS))); exact Tryz.underlying130; exact Tryz.underlying58; exact c_19; exact Tryz.zeroValue69; exact h1q; (try simp only [List.set_cons_succ]); (try simp only [List.set_cons_zero]))); refine H_go c_3 ?_) | (refine h0e ?_)) <;> (try first | (refine q_t 18 (e:=c_3) (x:=by first | (first | exact h0m rfl rfl | exact h0q rfl rfl)) (h:=?_)) | (refine h0e ?_)) <;> (try first | (refine q_r 19 ?_; (first | (first | (apply h5b; exact rfl; exact rfl; exact rfl; (focus (repeat (first | exact fd0 | (with_reducible assumption) | apply fdA | apply fdS))); (try simp only [List.set_cons_succ]); (try simp only [List.set_cons_zero])) | (apply h4v; exact rfl; exact rfl; exact rfl; (focus (repeat (first | exact fd0 | (with_reducible assumption) | apply fdA | apply fdS))); exact h1q; (focus (first | exact rfl | omega)); (try simp only [List.set_cons_succ]); (try simp only [List.set_cons_zero])))); refine H_go c_3 ?_) | (refine h0e ?_)) <;> (try refine h5f (by kernel_rfl) ?_)) | (refine gR 5 ?_ <;> (try refine h0a ?_; (first | (refine q_k (by exact q_b (r:=by apply h3j; exact c_6; (focus (first | (refine IntWalk.i64_in _ ?_; omega) | (refine IntWalk.u8_in _ ?_; omega) | (refine IntWalk.u16_in _ ?_; omega) | (refine IntWalk.u32_in _ ?_; omega) | (refine IntWalk.u64_in _ ?_; omega) | (refine IntWalk.i32_in _ ?_; omega) | exact rfl)))) ?_))) <;> (try refine h0a ?_; (first | (refine q_k (h0c rfl) ?_))) <;> (try refine h0d ?_)) | (refine gR 6 ?_ <;> (try refine h0a ?_; (first | (refine q_k (h0c rfl) ?_))) <;> (try refine h0a ?_; (first | (refine q_k (h0l rfl) ?_))) <;> (try refine h0a ?_; (first | (refine q_k (by first | (exact q_f fo_135_4) | (exact q_g fo_135_4)) ?_))) <;> (try refine h0a ?_; (first | fail)) <;> (try refine h0d ?_)) | ((first | (refine h0o rfl (fun hc => ?_) (fun hc => ?_)) | (refine h0x rfl (fun hc => ?_) (fun hc => ?_)) | (refine h1r rfl (fun hc => ?_) (fun hc => ?_))) <;> (try subst hc)))
  refine h6b (k + 1) ⟨by omega, by omega⟩ (by (focus (repeat (first | exact Sub.nil | refine Sub.cons rfl ?_ | (refine Sub.cons (congrArg some ?_) ?_; (focus go_num)))))) ?_
  have eb : byName (clls.take (k + 1)) = byName (clls.take k) ++ [(Value.string name, Value.agg #[.int .u32 num, .string name, .int .i64 args])] := by rw [hs1'.out, byName, List.map_append]; rfl
  have en : byNum (clls.take (k + 1)) = byNum (clls.take k) ++ [(Value.int .u32 num, Value.agg #[.int .u32 num, .string name, .int .i64 args])] := by rw [hs1'.out, byNum, List.map_append]; rfl
  rw [eb, en]
  exact fun _ H => H.tail
 ·obtain rfl : k = 30 := by omega
  have ha1 := fun (L : List Blk) => aadd_c (S:=S) (w0:=w0) (L:=L) b 6 135 [.int .u32 0, .int .i32 1, .int .u32 sm, .map (some m1), .map (some m2), .int .i64 a, .int .i64 m] m 1 rfl
  simp only [e1, List.set_cons_succ, List.set_cons_zero] at ha1
  rw [show clls.take 30 = clls from List.take_of_length_le (Nat.le_refl _)]
  repeat' (first | refine h2m ?_ | refine h0d ?_ | refine h0u ?_ | refine h1h ?_ | refine h1f ?_ | refine h1g ?_ | refine h0s ?_ | refine h0t ?_ | refine h1l ?_ | refine h1k ?_ | refine h1j ?_ | refine h1i rfl ?_ | refine h1a ?_ | refine h1u ?_ | refine h1v ?_ | refine h2n ?_ | refine h0v rfl ?_ | refine h0w rfl ?_ | (refine gR 0 ?_ <;> (try refine h0a ?_; (first | (refine q_k (h0c rfl) ?_))) <;> (try refine h0a ?_; (first | (refine q_k (h0c rfl) ?_))) <;> (try refine h0a ?_; (first | (refine h4r rfl ?_; intro nb hnb))) <;> (try refine h0a ?_; (first | (refine h4r rfl ?_; intro nb hnb))) <;> (try refine h0a ?_; (first | (refine q_k (h0l rfl) ?_))) <;> (try refine h0a ?_; (first | (refine q_k (by first | (exact q_f h5o) | (exact q_g h5o)) ?_))) <;> (try refine h0a ?_; (first | (apply h3a (t:=129); exact rfl; exact rfl; (focus (repeat (first | exact fd0 | (with_reducible assumption) | apply fdA | apply fdS))); exact rfl; exact rfl; kernel_rfl; exact c_8; exact c_22; (try simp only [List.set_cons_succ]); (try simp only [List.set_cons_zero])))) <;> (try refine h0a ?_; (first | (refine q_k (h0l rfl) ?_))) <;> (try refine h0a ?_; (first | (refine q_k (by first | (exact q_f h3r) | (exact q_g h3r)) ?_))) <;> (try refine h0a ?_; (first | (apply h3a (t:=130); exact rfl; exact rfl; (focus (repeat (first | exact fd0 | (with_reducible assumption) | apply fdA | apply fdS))); exact rfl; exact rfl; kernel_rfl; exact c_8; exact c_22; (try simp only [List.set_cons_succ]); (try simp only [List.set_cons_zero])))) <;> (try refine h0d ?_)) | (refine gR 1 ?_ <;> (try refine h0a ?_; (first | fail)) <;> (try refine h0a ?_; (first | (refine q_k (by apply h1d; exact rfl; exact (fun _ => BigFrame.builtin_len ..); apply h1n Tryz.underlying56; exact c_17) ?_))) <;> (try refine h0a ?_; (first | (refine q_k (h0c rfl) ?_))) <;> (try refine h0d ?_)) | (refine gR 2 ?_ <;> (try refine h0a ?_; (first | (refine q_k (by exact q_b (r:=by first | (exact h1y q_o) | (exact h1z q_o) | exact h2v)) ?_))) <;> (try refine h0d ?_)) | (refine gR 3 ?_ <;> (try refine h0a ?_; (first | (refine q_k (by apply h0y; exact rfl; exact rfl; (focus (apply h4p Tryz.underlying56 h4k; (omega); (omega); exact c_2))) ?_))) <;> (try refine h0a ?_; (first | (refine q_k (by apply h3i (t:=69); exact rfl; (focus (repeat (first | exact fd0 | (with_reducible assumption) | apply fdA | apply fdS))); kernel_rfl; kernel_rfl; exact h4k; exact c_8; exact c_4) ?_))) <;> (try refine h0a ?_; (first | (refine h2u (t:=69) rfl Tryz.zeroValue69 ?_; intro nb hnb; (try simp only [Value.cells])))) <;> (try refine h0a ?_; (first | (first | (apply h2j (t:=69); exact rfl; exact rfl; (focus (repeat (first | exact fd0 | (with_reducible assumption) | apply fdA | apply fdS))); kernel_rfl; exact c_12; (focus (first | (with_reducible assumption) | exact rfl | (simp; done) | (simp [h1w, h1m, h1x, h2a, h2p, h2b, *]; done))); (try simp only [List.set_cons_succ]); (try simp only [List.set_cons_zero])) | (apply h2k (t:=69); exact rfl; exact rfl; (focus (repeat (first | exact fd0 | (with_reducible assumption) | apply fdA | apply fdS))); exact h4k; exact h1q; (focus (first | (with_reducible assumption) | (focus (first | (with_reducible assumption) | exact rfl | (simp; done) | (simp [h1w, h1m, h1x, h2a, h2p, h2b, *]; done))))); exact c_8; (try simp only [List.set_cons_succ]); (try simp only [List.set_cons_zero]))))) <;> (try refine h0d ?_)) | ((refine h3x (id:=4) (m:=20) (by kernel_rfl) rfl ?_) <;> (try first | (refine q_t 0 (e:=h1b) (x:=by first | exact h0c rfl) (h:=?_)) | (refine h0e ?_)) <;> (try first | (refine q_t 1 (e:=h1b) (x:=by first | exact h0l rfl) (h:=?_)) | (refine h0e ?_)) <;> (try first | (refine q_t 2 (e:=h1b) (x:=by first | (first | (exact q_f h5o) | (exact q_g h5o))) (h:=?_)) | (refine h0e ?_)) <;> (try first | (refine q_t 3 (e:=h1b) (x:=by first | (apply h0i (t:=129); exact rfl; (focus (repeat (first | exact fd0 | (with_reducible assumption) | apply fdA | apply fdS))); kernel_rfl; kernel_rfl; exact h1q)) (h:=?_)) | (refine h0e ?_)) <;> (try first | (refine q_t 4 (e:=h1b) (x:=by first | (first | (exact q_f h4q) | (exact q_g h4q))) (h:=?_)) | (refine h0e ?_)) <;> (try first | (refine q_t 5 (e:=h1b) (x:=by first | (apply h0i (t:=9); exact rfl; (focus (repeat (first | exact fd0 | (with_reducible assumption) | apply fdA | apply fdS))); kernel_rfl; kernel_rfl; exact h1q)) (h:=?_)) | (refine h0e ?_)) <;> (try first | (refine q_t 6 (e:=h1b) (x:=by first | exact h0c rfl) (h:=?_)) | (refine h0e ?_)) <;> (try first | (refine q_t 7 (e:=h1b) (x:=by first | exact h0l rfl) (h:=?_)) | (refine h0e ?_)) <;> (try first | (refine q_t 8 (e:=h1b) (x:=by first | (first | (exact q_f h3r) | (exact q_g h3r))) (h:=?_)) | (refine h0e ?_)) <;> (try first | (refine q_t 9 (e:=h1b) (x:=by first | (apply h0i (t:=130); exact rfl; (focus (repeat (first | exact fd0 | (with_reducible assumption) | apply fdA | apply fdS))); kernel_rfl; kernel_rfl; exact h1q)) (h:=?_)) | (refine h0e ?_)) <;> (try first | (refine q_t 10 (e:=h1b) (x:=by first | (first | (exact q_f fo_69_0) | (exact q_g fo_69_0))) (h:=?_)) | (refine h0e ?_)) <;> (try first | (refine q_t 11 (e:=h1b) (x:=by first | (apply h0i (t:=58); exact rfl; (focus (repeat (first | exact fd0 | (with_reducible assumption) | apply fdA | apply fdS))); kernel_rfl; kernel_rfl; exact h1q)) (h:=?_)) | (refine h0e ?_)) <;> (try first | (refine q_t 12 (e:=h1b) (x:=by first | (apply h3i (t:=69); exact rfl; (focus (repeat (first | exact fd0 | (with_reducible assumption) | apply fdA | apply fdS))); kernel_rfl; kernel_rfl; exact h4k; exact c_8; exact c_4)) (h:=?_)) | (refine h0e ?_)) <;> (try first | (refine q_t 13 (e:=h1b) (x:=by first | (apply h3i (t:=69); exact rfl; (focus (repeat (first | exact fd0 | (with_reducible assumption) | apply fdA | apply fdS))); kernel_rfl; kernel_rfl; exact h4k; exact c_8; exact c_4)) (h:=?_)) | (refine h0e ?_)) <;> (try first | (refine q_r 14 ?_; (first | (apply K1_mapEntry; exact rfl; exact rfl; exact rfl; (focus (repeat (first | exact fd0 | (with_reducible assumption) | apply fdA | apply fdS))); exact Tryz.underlying129; exact Tryz.underlying9; exact c_19; exact Tryz.zeroValue69; exact h1q; (try simp only [List.set_cons_succ]); (try simp only [List.set_cons_zero]))); refine H_go h1b ?_) | (refine h0e ?_)) <;> (try first | (refine q_t 15 (e:=h1b) (x:=by first | (first | exact h0m rfl rfl | exact h0q rfl rfl)) (h:=?_)) | (refine h0e ?_)) <;> (try first | (refine q_r 16 ?_; (first | (first | (apply h5b; exact rfl; exact rfl; exact rfl; (focus (repeat (first | exact fd0 | (with_reducible assumption) | apply fdA | apply fdS))); (try simp only [List.set_cons_succ]); (try simp only [List.set_cons_zero])) | (apply h4v; exact rfl; exact rfl; exact rfl; (focus (repeat (first | exact fd0 | (with_reducible assumption) | apply fdA | apply fdS))); exact h1q; (focus (first | exact rfl | omega)); (try simp only [List.set_cons_succ]); (try simp only [List.set_cons_zero])))); refine H_go h1b ?_) | (refine h0e ?_)) <;> (try first | (refine q_r 17 ?_; (first | (apply K1_mapEntry; exact rfl; exact rfl; exact rfl; (focus (repeat (first | exact fd0 | (with_reducible assumption) | apply fdA | apply fdS))); exact Tryz.underlying130; exact Tryz.underlying58; exact c_19; exact Tryz.zeroValue69; exact h1q; (try simp only [List.set_cons_succ]); (try simp only [List.set_cons_zero]))); refine H_go h1b ?_) | (refine h0e ?_)) <;> (try first | (refine q_t 18 (e:=h1b) (x:=by first | (first | exact h0m rfl rfl | exact h0q rfl rfl)) (h:=?_)) | (refine h0e ?_)) <;> (try first | (refine q_r 19 ?_; (first | (first | (apply h5b; exact rfl; exact rfl; exact rfl; (focus (repeat (first | exact fd0 | (with_reducible assumption) | apply fdA | apply fdS))); (try simp only [List.set_cons_succ]); (try simp only [List.set_cons_zero])) | (apply h4v; exact rfl; exact rfl; exact rfl; (focus (repeat (first | exact fd0 | (with_reducible assumption) | apply fdA | apply fdS))); exact h1q; (focus (first | exact rfl | omega)); (try simp only [List.set_cons_succ]); (try simp only [List.set_cons_zero])))); refine H_go h1b ?_) | (refine h0e ?_)) <;> (try refine h5f (by kernel_rfl) ?_)) | (refine gR 5 ?_ <;> (try refine h0a ?_; (first | (refine q_k (by exact q_b (r:=by apply h3j; exact c_6; (focus (first | (refine IntWalk.i64_in _ ?_; omega) | (refine IntWalk.u8_in _ ?_; omega) | (refine IntWalk.u16_in _ ?_; omega) | (refine IntWalk.u32_in _ ?_; omega) | (refine IntWalk.u64_in _ ?_; omega) | (refine IntWalk.i32_in _ ?_; omega) | exact rfl)))) ?_))) <;> (try refine h0a ?_; (first | (refine q_k (h0c rfl) ?_))) <;> (try refine h0d ?_)) | (refine gR 6 ?_ <;> (try refine h0a ?_; (first | (refine q_k (h0c rfl) ?_))) <;> (try refine h0a ?_; (first | (refine q_k (h0l rfl) ?_))) <;> (try refine h0a ?_; (first | (refine q_k (by first | (exact q_f fo_135_4) | (exact q_g fo_135_4)) ?_))) <;> (try refine h0a ?_; (first | (first | (refine h2d (F:=50) (by kernel_rfl) rfl rfl (ha1 _) ?_; rintro _ _ ⟨rfl, rfl⟩)))) <;> (try refine h0d ?_)) | ((first | (refine h0o rfl (fun hc => ?_) (fun hc => ?_)) | (refine h0x rfl (fun hc => ?_) (fun hc => ?_)) | (refine h1r rfl (fun hc => ?_) (fun hc => ?_))) <;> (try subst hc)))
  (first | refine h2q Tryz.results61 .nil ?_ | refine G_done_n Tryz.results61 .nil ?_)
  refine ⟨_, ⟨rfl, _, h5m m1 (byName clls) :: h5m m2 (byNum clls) :: L, ⟨m1, m2, rfl, rfl⟩, rfl, rfl, rfl⟩, by intro w H; refine H.sub ?_; (try simp only [zzC, zzN]); repeat (first | exact List.Sublist.refl _ | refine List.Sublist.cons_cons _ ?_ | refine List.Sublist.cons _ ?_ | refine List.sublist_append_of_sublist_right ?_)⟩
theorem ask0_c {S w0 L} (b : Nat) (a m : Int) (ha : 0 ≤ a ∧ a < 4000000000000000000) (hm : 0 ≤ m ∧ m < 4000000000000000000) : Fn Tryz.prog 39 #[.pointer (some ⟨b, 0, none⟩)] S w0 (tbl0 b a m :: L) fun v L' => ∃ m1 m2, v = .bool true ∧ tbl1 b m1 m2 (a + 1) (m + 1) :: h5m m1 (byName clls) :: h5m m2 (byNum clls) :: L = L' := by
 have e1 : IntKind.i64.wrap (a + 1) = a + 1 := IntWalk.i64_in _ (by omega)
 have hdo := do_first (S:=S) (w0:=w0) (L:=L) (T:=135) (b:=b) (off:=0) (cs:=[.int .u32 0, .int .i32 0, .int .u32 0, .map none, .map none, .int .i64 a, .int .i64 m]) rfl rfl (fill_c (L:=L) b 0 a m hm)
 have ha1 := fun (L : List Blk) (m1 m2 : Nat) => aadd_c (S:=S) (w0:=w0) (L:=L) b 5 135 [.int .u32 1, .int .i32 0, .int .u32 0, .map (some m1), .map (some m2), .int .i64 a, .int .i64 (m + 1)] a 1 rfl
 simp only [e1, List.set_cons_succ, List.set_cons_zero] at ha1
 refine Fn1 Tryz.func39 Tryz.ntmps39 rfl rfl ?_
 repeat' (first | refine h2m ?_ | refine h0d ?_ | refine h0u ?_ | refine h1h ?_ | refine h1f ?_ | refine h1g ?_ | refine h0s ?_ | refine h0t ?_ | refine h1l ?_ | refine h1k ?_ | refine h1j ?_ | refine h1i rfl ?_ | refine h1a ?_ | refine h1u ?_ | refine h1v ?_ | refine h2n ?_ | refine h0v rfl ?_ | refine h0w rfl ?_ | (refine gR 0 ?_ <;> (try refine h0a ?_; (first | (refine q_k (h0b rfl) ?_))) <;> (try refine h0d ?_)) | (refine gR 1 ?_ <;> (try refine h0a ?_; (first | (refine q_k (h0c rfl) ?_))) <;> (try refine h0a ?_; (first | (refine q_k (by exact q_b (r:=by first | exact h4w Tryz.underlying54 | exact h4y Tryz.underlying54 | exact h4x Tryz.underlying54)) ?_))) <;> (try refine h0d ?_)) | (refine gR 2 ?_ <;> (try refine h0a ?_; (first | (refine q_k (h0b rfl) ?_))) <;> (try refine h0d ?_)) | (refine gR 3 ?_ <;> (try refine h0a ?_; (first | (refine q_k (h0c rfl) ?_))) <;> (try refine h0a ?_; (first | (refine q_k (h0l rfl) ?_))) <;> (try refine h0a ?_; (first | (refine q_k (by first | (exact q_f fo_135_0) | (exact q_g fo_135_0)) ?_))) <;> (try refine h0a ?_; (first | (refine q_k (h0c rfl) ?_))) <;> (try refine h0a ?_; (first | (refine q_k (by apply E_makeFunc; exact rfl; exact rfl) ?_))) <;> (try refine h0a ?_; (first | (first | (refine h2d (F:=60) (by kernel_rfl) rfl rfl hdo ?_; rintro _ _ ⟨rfl, cs', L2, ⟨m1, m2, rfl, rfl⟩, rfl⟩; simp only [List.set_cons_zero, List.set_cons_succ, Nat.zero_add])))) <;> (try refine h0d ?_)) | (refine gR 4 ?_ <;> (try refine h0a ?_; (first | (refine q_k (h0c rfl) ?_))) <;> (try refine h0a ?_; (first | (refine q_k (h0l rfl) ?_))) <;> (try refine h0a ?_; (first | (refine q_k (by first | (exact q_f fo_135_3) | (exact q_g fo_135_3)) ?_))) <;> (try refine h0a ?_; (first | (first | (refine h2d (F:=50) (by kernel_rfl) rfl rfl (ha1 _ _ _) ?_; rintro _ _ ⟨rfl, rfl⟩)))) <;> (try refine h0d ?_)) | (refine gR 5 ?_ <;> (try refine h0a ?_; (first | (refine q_k (h0b rfl) ?_))) <;> (try refine h0d ?_)) | ((first | (refine h0o rfl (fun hc => ?_) (fun hc => ?_)) | (refine h0x rfl (fun hc => ?_) (fun hc => ?_)) | (refine h1r rfl (fun hc => ?_) (fun hc => ?_))) <;> (try subst hc)))
 (refine h2q Tryz.results39 (.tmp rfl .nil) ?_)
 exact ⟨_, ⟨m1, m2, rfl, rfl⟩, fun _ H => H⟩
theorem ask1_c {S w0 L} (b m1 m2 : Nat) (a m : Int) (ha : 0 ≤ a ∧ a < 4000000000000000000) : Fn Tryz.prog 39 #[.pointer (some ⟨b, 0, none⟩)] S w0 (tbl1 b m1 m2 a m :: L) fun v L' => v = .bool true ∧ tbl1 b m1 m2 (a + 1) m :: L = L' := by
 have e1 : IntKind.i64.wrap (a + 1) = a + 1 := IntWalk.i64_in _ (by omega)
 have hdo := fun fv => do_done (S:=S) (w0:=w0) (L:=L) (T:=135) (b:=b) (off:=0) (cs:=[.int .u32 1, .int .i32 0, .int .u32 0, .map (some m1), .map (some m2), .int .i64 a, .int .i64 m]) (fv:=fv) rfl
 have ha1 := fun (L : List Blk) => aadd_c (S:=S) (w0:=w0) (L:=L) b 5 135 [.int .u32 1, .int .i32 0, .int .u32 0, .map (some m1), .map (some m2), .int .i64 a, .int .i64 m] a 1 rfl
 simp only [e1, List.set_cons_succ, List.set_cons_zero] at ha1
 refine Fn1 Tryz.func39 Tryz.ntmps39 rfl rfl ?_
 repeat' (first | refine h2m ?_ | refine h0d ?_ | refine h0u ?_ | refine h1h ?_ | refine h1f ?_ | refine h1g ?_ | refine h0s ?_ | refine h0t ?_ | refine h1l ?_ | refine h1k ?_ | refine h1j ?_ | refine h1i rfl ?_ | refine h1a ?_ | refine h1u ?_ | refine h1v ?_ | refine h2n ?_ | refine h0v rfl ?_ | refine h0w rfl ?_ | (refine gR 0 ?_ <;> (try refine h0a ?_; (first | (refine q_k (h0b rfl) ?_))) <;> (try refine h0d ?_)) | (refine gR 1 ?_ <;> (try refine h0a ?_; (first | (refine q_k (h0c rfl) ?_))) <;> (try refine h0a ?_; (first | (refine q_k (by exact q_b (r:=by first | exact h4w Tryz.underlying54 | exact h4y Tryz.underlying54 | exact h4x Tryz.underlying54)) ?_))) <;> (try refine h0d ?_)) | (refine gR 2 ?_ <;> (try refine h0a ?_; (first | (refine q_k (h0b rfl) ?_))) <;> (try refine h0d ?_)) | (refine gR 3 ?_ <;> (try refine h0a ?_; (first | (refine q_k (h0c rfl) ?_))) <;> (try refine h0a ?_; (first | (refine q_k (h0l rfl) ?_))) <;> (try refine h0a ?_; (first | (refine q_k (by first | (exact q_f fo_135_0) | (exact q_g fo_135_0)) ?_))) <;> (try refine h0a ?_; (first | (refine q_k (h0c rfl) ?_))) <;> (try refine h0a ?_; (first | (refine q_k (by apply E_makeFunc; exact rfl; exact rfl) ?_))) <;> (try refine h0a ?_; (first | (first | (refine h2d (F:=60) (by kernel_rfl) rfl rfl (hdo _) ?_; rintro _ _ ⟨rfl, rfl⟩)))) <;> (try refine h0d ?_)) | (refine gR 4 ?_ <;> (try refine h0a ?_; (first | (refine q_k (h0c rfl) ?_))) <;> (try refine h0a ?_; (first | (refine q_k (h0l rfl) ?_))) <;> (try refine h0a ?_; (first | (refine q_k (by first | (exact q_f fo_135_3) | (exact q_g fo_135_3)) ?_))) <;> (try refine h0a ?_; (first | (first | (refine h2d (F:=50) (by kernel_rfl) rfl rfl (ha1 _) ?_; rintro _ _ ⟨rfl, rfl⟩)))) <;> (try refine h0d ?_)) | (refine gR 5 ?_ <;> (try refine h0a ?_; (first | (refine q_k (h0b rfl) ?_))) <;> (try refine h0d ?_)) | ((first | (refine h0o rfl (fun hc => ?_) (fun hc => ?_)) | (refine h0x rfl (fun hc => ?_) (fun hc => ?_)) | (refine h1r rfl (fun hc => ?_) (fun hc => ?_))) <;> (try subst hc)))
 (refine h2q Tryz.results39 (.tmp rfl .nil) ?_)
 exact ⟨_, ⟨rfl, rfl⟩, fun _ H => H⟩
def cllV : Option Cll → Value
 | some c => .agg #[.int .u32 c.num, .string c.name, .int .i64 c.args]
 | none => .agg #[.int .u32 0, .string ⟨#[]⟩, .int .i64 0]
def cnumF (n : Int) : List Cll → Option Cll
 | [] => none
 | c :: r => if n = c.num then some c else cnumF n r
def zC : Value := .agg #[.int .u32 0, .string ⟨#[]⟩, .int .i64 0]
theorem fd_byNum (s : Int) (l : List Cll) (i : Nat) : ∃ r, fd (.int .u32) (.int .u32 s) (byNum l) i = some r ∧ found r zC = cllV (cnumF s l) ∧ r.isSome = (cnumF s l).isSome := by
 induction l generalizing i with
 | nil => exact ⟨none, rfl, rfl, rfl⟩
 | cons c r ih =>
  by_cases h : s = c.num
  ·exact ⟨some (i, c.v), by simp [byNum, fd, Instr.sameNow, h], by simp [cnumF, h, found, cllV, Cll.v], by simp [cnumF, h]⟩
  ·obtain ⟨q, h1, h2, h3⟩ := ih (i + 1)
   exact ⟨q, by
    have e : (s == c.num) = false := by simpa using h
    simpa [byNum, fd, Instr.sameNow, e] using h1, by simpa [cnumF, h] using h2, by simpa [cnumF, h] using h3⟩
theorem cllV_agg (o : Option Cll) : ∃ n s a, cllV o = .agg #[.int .u32 n, .string s, .int .i64 a] := by
 cases o with
 | none => exact ⟨_, _, _, rfl⟩
 | some c => exact ⟨_, _, _, rfl⟩
def gotV (o : Option Cll) : Value := h3y [cllV o, .bool o.isSome]
theorem numbered1_c {S w0 L} (b m1 m2 : Nat) (a m : Int) (ha : 0 ≤ a ∧ a < 4000000000000000000) (s : Int) : Fn Tryz.prog 42 #[.pointer (some ⟨b, 0, none⟩), .int .u32 s] S w0 (tbl1 b m1 m2 a m :: h5m m1 (byName clls) :: h5m m2 (byNum clls) :: L) fun v L' => v = gotV (cnumF s clls) ∧ tbl1 b m1 m2 (a + 1) m :: h5m m1 (byName clls) :: h5m m2 (byNum clls) :: L = L' := by
 have hk := fun (L : List Blk) => ask1_c (S:=S) (w0:=w0) (L:=L) b m1 m2 a m ha
 obtain ⟨r, hr, hv, hb⟩ := fd_byNum s clls 0
 have hg : gotV (cnumF s clls) = h3y [cllV (cnumF s clls), .bool (cnumF s clls).isSome] := rfl
 obtain ⟨cn, cs, ca, hc⟩ := cllV_agg (cnumF s clls)
 rw [hg, hc]
 rw [hc] at hv
 generalize clls = cl at *
 generalize (cnumF s cl).isSome = fb at *
 clear hg hc
 unfold zC at hv
 refine Fn2 Tryz.func42 Tryz.ntmps42 rfl rfl ?_
 repeat' (first | refine h2m ?_ | refine h0d ?_ | refine h0u ?_ | refine h1h ?_ | refine h1f ?_ | refine h1g ?_ | refine h0s ?_ | refine h0t ?_ | refine h1l ?_ | refine h1k ?_ | refine h1j ?_ | refine h1i rfl ?_ | refine h1a ?_ | refine h1u ?_ | refine h1v ?_ | refine h2n ?_ | refine h0v rfl ?_ | refine h0w rfl ?_ | (refine gR 0 ?_ <;> (try refine h0a ?_; (first | (refine h2u (t:=69) rfl Tryz.zeroValue69 ?_; intro nb hnb; (try simp only [Value.cells])))) <;> (try refine h0a ?_; (first | (refine q_k (h0b rfl) ?_))) <;> (try refine h0d ?_)) | (refine gR 1 ?_ <;> (try refine h0a ?_; (first | (refine q_k (h0c rfl) ?_))) <;> (try refine h0a ?_; (first | (first | (refine h2d (F:=39) (by kernel_rfl) rfl rfl ((hk _).swp) ?_; rintro _ _ ⟨rfl, rfl⟩)))) <;> (try refine h0a ?_; (first | (refine q_k (by apply E_un; exact rfl; (focus (first | exact h3l | exact h3m | exact h3n | exact h4t))) ?_))) <;> (try refine h0d ?_)) | (refine gR 2 ?_ <;> (try refine h0a ?_; (first | (refine q_k (by exact h2o (t:=69) (fun vs => (match vs with | [] => [Value.int .u32 0, Value.string ⟨#[]⟩, Value.int .i64 0] | _ => [])) rfl (fun w => by kernel_rfl)) ?_; (try simp only [Value.cells]); (try simp only [zzC, zzN])))) <;> (try refine h0a ?_; (first | (first | (apply h2j (t:=69); exact rfl; exact rfl; (focus (repeat (first | exact fd0 | (with_reducible assumption) | apply fdA | apply fdS))); kernel_rfl; exact c_12; (focus (first | (with_reducible assumption) | exact rfl | (simp; done) | (simp [h1w, h1m, h1x, h2a, h2p, h2b, *]; done))); (try simp only [List.set_cons_succ]); (try simp only [List.set_cons_zero])) | (apply h2k (t:=69); exact rfl; exact rfl; (focus (repeat (first | exact fd0 | (with_reducible assumption) | apply fdA | apply fdS))); exact h4k; exact h1q; (focus (first | (with_reducible assumption) | (focus (first | (with_reducible assumption) | exact rfl | (simp; done) | (simp [h1w, h1m, h1x, h2a, h2p, h2b, *]; done))))); exact c_8; (try simp only [List.set_cons_succ]); (try simp only [List.set_cons_zero]))))) <;> (try refine h0a ?_; (first | (refine q_k (h0b rfl) ?_))) <;> (try refine h0d ?_)) | (refine gR 3 ?_ <;> (try refine h0a ?_; (first | (refine q_k (h0c rfl) ?_))) <;> (try refine h0a ?_; (first | (refine q_k (h0l rfl) ?_))) <;> (try refine h0a ?_; (first | (refine q_k (by first | (exact q_f h3r) | (exact q_g h3r)) ?_))) <;> (try refine h0a ?_; (first | (refine q_k (by apply h0i (t:=130); exact rfl; (focus (repeat (first | exact fd0 | (with_reducible assumption) | apply fdA | apply fdS))); kernel_rfl; kernel_rfl; exact h1q) ?_))) <;> (try refine h0a ?_; (first | (refine q_k (h0c rfl) ?_))) <;> (try refine h0a ?_; (first | (refine q_k (by apply E_lookup; exact rfl; exact rfl; (focus (repeat (first | exact fd0 | (with_reducible assumption) | apply fdA | apply fdS))); exact Tryz.underlying130; exact Tryz.underlying58; exact c_19; exact Tryz.zeroValue69; exact h1q; exact h1q; exact h1q) ?_))) <;> (try refine h0a ?_; (first | (refine q_k (h0c rfl) ?_))) <;> (try refine h0a ?_; (first | (refine q_k (by first | exact h0m rfl rfl | exact h0q rfl rfl) ?_))) <;> (try refine h0a ?_; (first | (refine q_k (by first | exact h0m rfl rfl | exact h0q rfl rfl) ?_))) <;> (try refine h0a ?_; (first | (refine h2u (t:=69) rfl Tryz.zeroValue69 ?_; intro nb hnb; (try simp only [Value.cells])))) <;> (try refine h0a ?_; (first | (first | (apply h2j (t:=69); exact rfl; exact rfl; (focus (repeat (first | exact fd0 | (with_reducible assumption) | apply fdA | apply fdS))); kernel_rfl; exact c_12; (focus (first | (with_reducible assumption) | exact rfl | (simp; done) | (simp [h1w, h1m, h1x, h2a, h2p, h2b, *]; done))); (try simp only [List.set_cons_succ]); (try simp only [List.set_cons_zero])) | (apply h2k (t:=69); exact rfl; exact rfl; (focus (repeat (first | exact fd0 | (with_reducible assumption) | apply fdA | apply fdS))); exact h4k; exact h1q; (focus (first | (with_reducible assumption) | (focus (first | (with_reducible assumption) | exact rfl | (simp; done) | (simp [h1w, h1m, h1x, h2a, h2p, h2b, *]; done))))); exact c_8; (try simp only [List.set_cons_succ]); (try simp only [List.set_cons_zero]))))) <;> (try refine h0a ?_; (first | (refine q_k (h0b rfl) ?_))) <;> (try refine h0d ?_)) | (refine gR 4 ?_ <;> (try refine h0a ?_; (first | (refine q_k (by apply h3i (t:=69); exact rfl; (focus (repeat (first | exact fd0 | (with_reducible assumption) | apply fdA | apply fdS))); kernel_rfl; kernel_rfl; exact h4k; exact c_8; exact c_4) ?_))) <;> (try refine h0a ?_; (first | (refine q_k (h0c rfl) ?_))) <;> (try refine h0a ?_; (first | (first | (apply h2j (t:=69); exact rfl; exact rfl; (focus (repeat (first | exact fd0 | (with_reducible assumption) | apply fdA | apply fdS))); kernel_rfl; exact c_12; (focus (first | (with_reducible assumption) | exact rfl | (simp; done) | (simp [h1w, h1m, h1x, h2a, h2p, h2b, *]; done))); (try simp only [List.set_cons_succ]); (try simp only [List.set_cons_zero])) | (apply h2k (t:=69); exact rfl; exact rfl; (focus (repeat (first | exact fd0 | (with_reducible assumption) | apply fdA | apply fdS))); exact h4k; exact h1q; (focus (first | (with_reducible assumption) | (focus (first | (with_reducible assumption) | exact rfl | (simp; done) | (simp [h1w, h1m, h1x, h2a, h2p, h2b, *]; done))))); exact c_8; (try simp only [List.set_cons_succ]); (try simp only [List.set_cons_zero]))))) <;> (try refine h0a ?_; (first | (refine q_k (h0b rfl) ?_))) <;> (try refine h0d ?_)) | ((first | (refine h0o rfl (fun hc => ?_) (fun hc => ?_)) | (refine h0x rfl (fun hc => ?_) (fun hc => ?_)) | (refine h1r rfl (fun hc => ?_) (fun hc => ?_))) <;> (try subst hc)))
 (apply h2q Tryz.results42; (focus (apply Res.agg; exact rfl; (focus (repeat (first | exact fd0 | (with_reducible assumption) | apply fdA | apply fdS))); kernel_rfl; kernel_rfl; exact c_14; exact h4k; apply Res.tmp; exact rfl; exact Res.nil)))
 exact ⟨_, ⟨rfl, rfl⟩, by intro w H; refine H.sub ?_; (try simp only [zzC, zzN]); repeat (first | exact List.Sublist.refl _ | refine List.Sublist.cons_cons _ ?_ | refine List.Sublist.cons _ ?_ | refine List.sublist_append_of_sublist_right ?_)⟩
theorem numbered0_c {S w0 L} (b : Nat) (a m : Int) (ha : 0 ≤ a ∧ a < 4000000000000000000) (hm : 0 ≤ m ∧ m < 4000000000000000000) (s : Int) : Fn Tryz.prog 42 #[.pointer (some ⟨b, 0, none⟩), .int .u32 s] S w0 (tbl0 b a m :: L) fun v L' => ∃ m1 m2, v = gotV (cnumF s clls) ∧ tbl1 b m1 m2 (a + 1) (m + 1) :: h5m m1 (byName clls) :: h5m m2 (byNum clls) :: L = L' := by
 have hk := fun (L : List Blk) (i : Nat) (h1 : L[i]? = some (tbl0 b a m)) => Fn.at1 h1 (ask0_c (S:=S) (w0:=w0) (L:=L.eraseIdx i) b a m ha hm)
 obtain ⟨r, hr, hv, hb⟩ := fd_byNum s clls 0
 have hg : gotV (cnumF s clls) = h3y [cllV (cnumF s clls), .bool (cnumF s clls).isSome] := rfl
 obtain ⟨cn, cs, ca, hc⟩ := cllV_agg (cnumF s clls)
 rw [hg, hc]
 rw [hc] at hv
 generalize clls = cl at *
 generalize (cnumF s cl).isSome = fb at *
 clear hg hc
 unfold zC at hv
 refine Fn2 Tryz.func42 Tryz.ntmps42 rfl rfl ?_
 repeat' (first | refine h2m ?_ | refine h0d ?_ | refine h0u ?_ | refine h1h ?_ | refine h1f ?_ | refine h1g ?_ | refine h0s ?_ | refine h0t ?_ | refine h1l ?_ | refine h1k ?_ | refine h1j ?_ | refine h1i rfl ?_ | refine h1a ?_ | refine h1u ?_ | refine h1v ?_ | refine h2n ?_ | refine h0v rfl ?_ | refine h0w rfl ?_ | (refine gR 0 ?_ <;> (try refine h0a ?_; (first | (refine h2u (t:=69) rfl Tryz.zeroValue69 ?_; intro nb hnb; (try simp only [Value.cells])))) <;> (try refine h0a ?_; (first | (refine q_k (h0b rfl) ?_))) <;> (try refine h0d ?_)) | (refine gR 1 ?_ <;> (try refine h0a ?_; (first | (refine q_k (h0c rfl) ?_))) <;> (try refine h0a ?_; (first | (first | (refine q_c 39 (c:=by apply hk; (focus ((try simp only [zzE, zzF]); (focus (repeat (first | exact fd0 | (with_reducible assumption) | apply fdA | apply fdS)))))) (h:=?_); rintro _ _ ⟨m1, m2, rfl, rfl⟩; (try simp only [zzE, zzF]))))) <;> (try refine h0a ?_; (first | (refine q_k (by apply E_un; exact rfl; (focus (first | exact h3l | exact h3m | exact h3n | exact h4t))) ?_))) <;> (try refine h0d ?_)) | (refine gR 2 ?_ <;> (try refine h0a ?_; (first | (refine q_k (by exact h2o (t:=69) (fun vs => (match vs with | [] => [Value.int .u32 0, Value.string ⟨#[]⟩, Value.int .i64 0] | _ => [])) rfl (fun w => by kernel_rfl)) ?_; (try simp only [Value.cells]); (try simp only [zzC, zzN])))) <;> (try refine h0a ?_; (first | (first | (apply h2j (t:=69); exact rfl; exact rfl; (focus (repeat (first | exact fd0 | (with_reducible assumption) | apply fdA | apply fdS))); kernel_rfl; exact c_12; (focus (first | (with_reducible assumption) | exact rfl | (simp; done) | (simp [h1w, h1m, h1x, h2a, h2p, h2b, *]; done))); (try simp only [List.set_cons_succ]); (try simp only [List.set_cons_zero])) | (apply h2k (t:=69); exact rfl; exact rfl; (focus (repeat (first | exact fd0 | (with_reducible assumption) | apply fdA | apply fdS))); exact h4k; exact h1q; (focus (first | (with_reducible assumption) | (focus (first | (with_reducible assumption) | exact rfl | (simp; done) | (simp [h1w, h1m, h1x, h2a, h2p, h2b, *]; done))))); exact c_8; (try simp only [List.set_cons_succ]); (try simp only [List.set_cons_zero]))))) <;> (try refine h0a ?_; (first | (refine q_k (h0b rfl) ?_))) <;> (try refine h0d ?_)) | (refine gR 3 ?_ <;> (try refine h0a ?_; (first | (refine q_k (h0c rfl) ?_))) <;> (try refine h0a ?_; (first | (refine q_k (h0l rfl) ?_))) <;> (try refine h0a ?_; (first | (refine q_k (by first | (exact q_f h3r) | (exact q_g h3r)) ?_))) <;> (try refine h0a ?_; (first | (refine q_k (by apply h0i (t:=130); exact rfl; (focus (repeat (first | exact fd0 | (with_reducible assumption) | apply fdA | apply fdS))); kernel_rfl; kernel_rfl; exact h1q) ?_))) <;> (try refine h0a ?_; (first | (refine q_k (h0c rfl) ?_))) <;> (try refine h0a ?_; (first | (refine q_k (by apply E_lookup; exact rfl; exact rfl; (focus (repeat (first | exact fd0 | (with_reducible assumption) | apply fdA | apply fdS))); exact Tryz.underlying130; exact Tryz.underlying58; exact c_19; exact Tryz.zeroValue69; exact h1q; exact h1q; exact h1q) ?_))) <;> (try refine h0a ?_; (first | (refine q_k (h0c rfl) ?_))) <;> (try refine h0a ?_; (first | (refine q_k (by first | exact h0m rfl rfl | exact h0q rfl rfl) ?_))) <;> (try refine h0a ?_; (first | (refine q_k (by first | exact h0m rfl rfl | exact h0q rfl rfl) ?_))) <;> (try refine h0a ?_; (first | (refine h2u (t:=69) rfl Tryz.zeroValue69 ?_; intro nb hnb; (try simp only [Value.cells])))) <;> (try refine h0a ?_; (first | (first | (apply h2j (t:=69); exact rfl; exact rfl; (focus (repeat (first | exact fd0 | (with_reducible assumption) | apply fdA | apply fdS))); kernel_rfl; exact c_12; (focus (first | (with_reducible assumption) | exact rfl | (simp; done) | (simp [h1w, h1m, h1x, h2a, h2p, h2b, *]; done))); (try simp only [List.set_cons_succ]); (try simp only [List.set_cons_zero])) | (apply h2k (t:=69); exact rfl; exact rfl; (focus (repeat (first | exact fd0 | (with_reducible assumption) | apply fdA | apply fdS))); exact h4k; exact h1q; (focus (first | (with_reducible assumption) | (focus (first | (with_reducible assumption) | exact rfl | (simp; done) | (simp [h1w, h1m, h1x, h2a, h2p, h2b, *]; done))))); exact c_8; (try simp only [List.set_cons_succ]); (try simp only [List.set_cons_zero]))))) <;> (try refine h0a ?_; (first | (refine q_k (h0b rfl) ?_))) <;> (try refine h0d ?_)) | (refine gR 4 ?_ <;> (try refine h0a ?_; (first | (refine q_k (by apply h3i (t:=69); exact rfl; (focus (repeat (first | exact fd0 | (with_reducible assumption) | apply fdA | apply fdS))); kernel_rfl; kernel_rfl; exact h4k; exact c_8; exact c_4) ?_))) <;> (try refine h0a ?_; (first | (refine q_k (h0c rfl) ?_))) <;> (try refine h0a ?_; (first | (first | (apply h2j (t:=69); exact rfl; exact rfl; (focus (repeat (first | exact fd0 | (with_reducible assumption) | apply fdA | apply fdS))); kernel_rfl; exact c_12; (focus (first | (with_reducible assumption) | exact rfl | (simp; done) | (simp [h1w, h1m, h1x, h2a, h2p, h2b, *]; done))); (try simp only [List.set_cons_succ]); (try simp only [List.set_cons_zero])) | (apply h2k (t:=69); exact rfl; exact rfl; (focus (repeat (first | exact fd0 | (with_reducible assumption) | apply fdA | apply fdS))); exact h4k; exact h1q; (focus (first | (with_reducible assumption) | (focus (first | (with_reducible assumption) | exact rfl | (simp; done) | (simp [h1w, h1m, h1x, h2a, h2p, h2b, *]; done))))); exact c_8; (try simp only [List.set_cons_succ]); (try simp only [List.set_cons_zero]))))) <;> (try refine h0a ?_; (first | (refine q_k (h0b rfl) ?_))) <;> (try refine h0d ?_)) | ((first | (refine h0o rfl (fun hc => ?_) (fun hc => ?_)) | (refine h0x rfl (fun hc => ?_) (fun hc => ?_)) | (refine h1r rfl (fun hc => ?_) (fun hc => ?_))) <;> (try subst hc)))
 (apply h2q Tryz.results42; (focus (apply Res.agg; exact rfl; (focus (repeat (first | exact fd0 | (with_reducible assumption) | apply fdA | apply fdS))); kernel_rfl; kernel_rfl; exact c_14; exact h4k; apply Res.tmp; exact rfl; exact Res.nil)))
 exact ⟨_, ⟨m1, m2, rfl, rfl⟩, by intro w H; refine H.sub ?_; (try simp only [zzC, zzN]); repeat (first | exact List.Sublist.refl _ | refine List.Sublist.cons_cons _ ?_ | refine List.Sublist.cons _ ?_ | refine List.sublist_append_of_sublist_right ?_)⟩
def Cll.rcells (c : Cll) : List Value := [.int .i64 c.num, .string c.name, .int .i64 c.args]
theorem clls_rng : ∀ c ∈ clls, 0 ≤ c.num ∧ c.num < 500 ∧ 0 ≤ c.args ∧ c.args ≤ 2 := by decide +kernel
theorem cnumF_mem {n : Int} {l : List Cll} {c : Cll} (h : cnumF n l = some c) : c ∈ l ∧ c.num = n := by
 induction l with
 | nil => simp [cnumF] at h
 | cons d r ih =>
  unfold cnumF at h
  split at h
  ·rename_i e; obtain rfl := Option.some.inj h; exact ⟨by simp, e.symm⟩
  ·have := ih h; exact ⟨by simp [this.1], this.2⟩
end Go.Proofs.YtnpnjicaigdjjaaGreat
