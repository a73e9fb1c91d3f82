/- Digits as numbers, and back. Plain. -/
import Derived.Test.YtmicafpfkpnalaaDoorAsm1
namespace Go.Proofs.YtmicafpfkpnalaaDoor
open Go Go.RowKit
theorem numGo_app (b n : Nat) (l r : List UInt8) : numGo b n (l ++ r) = (numGo b n l).bind fun m => numGo b m r := by
  induction l generalizing n with
  | nil => rfl
  | cons c l ih =>
    rw [List.cons_append, numGo, numGo]
    split
    · exact ih _
    · rfl
theorem numGo_one {b n d : Nat} {c : UInt8} (hb : 0 < b) (hd : dgt c = d) (h : d < b) (hn : n * b + d ≤ 18446744073709551615) : numGo b n [c] = some (n * b + d) := by
  rw [numGo, if_pos]
  · rw [hd]; rfl
  · rw [hd]
    exact ⟨h, (Nat.le_div_iff_mul_le hb).2 (by omega)⟩
theorem dgt_dec : ∀ k : Fin 10, dgt (UInt8.ofNat (48 + k.val)) = k.val := by decide +kernel
theorem numGo_decF (n : Nat) : n ≤ 18446744073709551615 → numGo 10 0 (decF n) = some n := by
  induction n using Nat.strongRecOn with
  | _ n ih =>
    intro hn
    by_cases h : n < 10
    · rw [decF_lt h, numGo_one (by omega) (dgt_dec ⟨n, h⟩) h (by omega)]
      simp
    · rw [decF_ge h, numGo_app, ih (n / 10) (by omega) (by omega), decF_lt (n := n % 10) (by omega)]
      show numGo 10 (n / 10) _ = _
      rw [numGo_one (by omega) (dgt_dec ⟨n % 10, by omega⟩) (by dsimp only; omega) (by dsimp only; omega)]
      congr 1
      dsimp only; omega
theorem decF_ne (n : Nat) : decF n ≠ [] := by
  rw [decF]; split <;> simp
theorem decF_zero (n : Nat) (h : (decF n)[0]? = some 48) : n = 0 := by
  induction n using Nat.strongRecOn with
  | _ n ih =>
    by_cases hn : n < 10
    · rw [decF_lt hn] at h
      have : ∀ k : Fin 10, [UInt8.ofNat (48 + k.val)][0]? = some 48 → k.val = 0 := by decide +kernel
      exact this ⟨n, hn⟩ h
    · rw [decF_ge hn, List.getElem?_append_left (List.length_pos_iff.2 (decF_ne _))] at h
      have := ih (n / 10) (by omega) h
      omega
theorem pre_get {l : List UInt8} (h : [48, 120].isPrefixOf l = true) : l[0]? = some 48 ∧ l[1]? = some 120 := by
  obtain ⟨t, rfl⟩ := List.isPrefixOf_iff_prefix.1 h
  exact ⟨rfl, rfl⟩
theorem numF_decF (n : Nat) (hn : n ≤ 18446744073709551615) : numF (decF n) = some n := by
  unfold numF
  have hp : ¬ ([48, 120].isPrefixOf (decF n) = true) := by
    intro h
    obtain ⟨h1, h2⟩ := pre_get h
    obtain rfl := decF_zero n h1
    rw [decF_lt (by omega)] at h2
    simp at h2
  rw [if_neg hp]
  unfold numD
  have hl := decF_len 20 n (by omega) (by omega)
  have hne := List.length_pos_iff.2 (decF_ne n)
  rw [if_neg, numGo_decF n hn]
  rintro (h | h | ⟨h1, h2⟩)
  · omega
  · omega
  · obtain rfl := decF_zero n h2
    rw [decF_lt (by omega)] at h1
    simp at h1
def hd16 (n : Nat) : UInt8 := if n < 10 then UInt8.ofNat (48 + n) else UInt8.ofNat (87 + n)
/-- the digits of a number, in base sixteen -/
def hexF (n : Nat) : List UInt8 := if n < 16 then [hd16 n] else hexF (n / 16) ++ [hd16 (n % 16)]
termination_by n
decreasing_by omega
theorem hexF_lt {n : Nat} (h : n < 16) : hexF n = [hd16 n] := by rw [hexF, if_pos h]
theorem hexF_ge {n : Nat} (h : ¬ n < 16) : hexF n = hexF (n / 16) ++ [hd16 (n % 16)] := by rw [hexF, if_neg h]
theorem dgt_hex : ∀ k : Fin 16, dgt (hd16 k.val) = k.val := by decide +kernel
theorem numGo_hexF (n : Nat) : n ≤ 18446744073709551615 → numGo 16 0 (hexF n) = some n := by
  induction n using Nat.strongRecOn with
  | _ n ih =>
    intro hn
    by_cases h : n < 16
    · rw [hexF_lt h, numGo_one (by omega) (dgt_hex ⟨n, h⟩) h (by omega)]
      simp
    · rw [hexF_ge h, numGo_app, ih (n / 16) (by omega) (by omega)]
      show numGo 16 (n / 16) _ = _
      rw [numGo_one (by omega) (dgt_hex ⟨n % 16, by omega⟩) (by dsimp only; omega) (by dsimp only; omega)]
      congr 1
      dsimp only; omega
theorem hexF_ne (n : Nat) : hexF n ≠ [] := by
  rw [hexF]; split <;> simp
theorem hexF_zero (n : Nat) (h : (hexF n)[0]? = some 48) : n = 0 := by
  induction n using Nat.strongRecOn with
  | _ n ih =>
    by_cases hn : n < 16
    · rw [hexF_lt hn] at h
      have : ∀ k : Fin 16, [hd16 k.val][0]? = some 48 → k.val = 0 := by decide +kernel
      exact this ⟨n, hn⟩ h
    · rw [hexF_ge hn, List.getElem?_append_left (List.length_pos_iff.2 (hexF_ne _))] at h
      have := ih (n / 16) (by omega) h
      omega
theorem hexF_len (k n : Nat) (hk : 0 < k) (h : n < 16 ^ k) : (hexF n).length ≤ k := by
  induction k generalizing n with
  | zero => omega
  | succ k ih =>
    by_cases hn : n < 16
    · rw [hexF_lt hn]; simp
    · rw [hexF_ge hn, List.length_append, List.length_singleton]
      rcases Nat.eq_zero_or_pos k with rfl | hk
      · simp at h; omega
      · have := ih (n / 16) hk (by rw [Nat.pow_succ] at h; omega)
        omega
theorem numF_hexF (n : Nat) (hn : n ≤ 18446744073709551615) : numF (48 :: 120 :: hexF n) = some n := by
  unfold numF
  rw [if_pos (by rfl)]
  show numD 16 (hexF n) = _
  unfold numD
  have hl := hexF_len 16 n (by omega) (by omega)
  have hne := List.length_pos_iff.2 (hexF_ne n)
  rw [if_neg, numGo_hexF n hn]
  rintro (h | h | ⟨h1, h2⟩)
  · omega
  · omega
  · obtain rfl := hexF_zero n h2
    rw [hexF_lt (by omega)] at h1
    simp at h1
end Go.Proofs.YtmicafpfkpnalaaDoor
