/- A run by the document's own reckoning. Plain laws. A record's words in the document's way. Plain laws. -/
import Derived.Test.YtcimcihhpkedfaaMSim
namespace Go.Proofs.Ytcimcihhpkedfaa
open Go Go.RowKit
def oth (m : Mch) (i : Ins) : Int := if i.code / 8 % 2 = 1 then m.x else i.k
theorem iand8v (c : Int) (h : 0 ≤ c) : iand c 8 = c / 8 % 2 * 8 := by
  obtain ⟨x, rfl⟩ : ∃ x : Nat, c = x := ⟨c.toNat, by omega⟩
  have h0 : ∀ y : Nat, y < 16 → y &&& 8 = y / 8 * 8 := by decide
  have h1 : x &&& 15 = x % 16 := Nat.and_two_pow_sub_one_eq_mod x 4
  have h15 : (15 &&& 8 : Nat) = 8 := by decide
  have h2 : x &&& 8 = (x &&& 15) &&& 8 := by rw [Nat.and_assoc, h15]
  have h3 := h0 (x % 16) (Nat.mod_lt _ (by omega))
  have e : iand (x : Int) 8 = ((x &&& 8 : Nat) : Int) := by unfold iand; rfl
  rw [e, h2, h1, h3]
  omega
theorem iand8 (c : Int) (h : 0 ≤ c) : iand c 8 ≠ 0 ↔ c / 8 % 2 = 1 := by
  rw [iand8v c h]; omega
theorem oth_eq {m : Mch} {i : Ins} (hi : i.ok) : other m i = oth m i := by
  unfold other oth
  have h := iand8 i.code hi.c.1
  by_cases h1 : i.code / 8 % 2 = 1
  · rw [if_pos (h.2 h1), if_pos h1]
  · rw [if_neg (fun q => h1 (h.1 q)), if_neg h1]
theorem n15 {c : Int} (h : 0 ≤ c) : iandn c 15 = c - c % 16 := iandn_mask c 4 h
theorem n7 {c : Int} (h : 0 ≤ c) : iandn c 7 = c - c % 8 := iandn_mask c 3 h
theorem opOf_eq {c : Int} (h : 0 ≤ c) : opOf c = c - c % 16 := by
  unfold opOf
  rw [iand8v c h]
  rcases (show c / 8 % 2 = 0 ∨ c / 8 % 2 = 1 by omega) with h1 | h1
  · rw [h1]
    have e : ior (0 * 8) 7 = 7 := by decide
    rw [e, n7 h]; omega
  · rw [h1]
    have e : ior (1 * 8) 7 = 15 := by decide
    rw [e, n15 h]
/-- reckoned in the document's way -/
def rck (o a b : Int) : Int :=
  if o = 0 then (a + b) % 4294967296 else if o = 1 then (a - b) % 4294967296 else if o = 2 then (a * b) % 4294967296 else if o = 3 then a / b
  else if o = 4 then ior a b else if o = 5 then iand a b else if o = 6 then (a * 2 ^ (b % 32).toNat) % 4294967296 else if o = 7 then a / 2 ^ (b % 32).toNat
  else if o = 8 then (0 - a) % 4294967296 else ixor a b
theorem opOf_red {c : Int} (h : 0 ≤ c) (hk : known c = true) (h4 : c % 8 = 4) : c / 16 = 0 ∨ c / 16 = 1 ∨ c / 16 = 2 ∨ c / 16 = 3 ∨ c / 16 = 4 ∨ c / 16 = 5 ∨ c / 16 = 6 ∨ c / 16 = 7 ∨ c / 16 = 8 ∨ c / 16 = 10 := by
  simp only [known, opOf_eq h, Bool.or_eq_true, Bool.and_eq_true, decide_eq_true_eq] at hk
  omega
theorem red_eq {m : Mch} {i : Ins} (hi : i.ok) (hk : known i.code = true) (h4 : i.code % 8 = 4) : red m i = if i.code / 16 = 3 ∧ oth m i = 0 then { m with en := true } else { m with a := rck (i.code / 16) m.a (oth m i) } := by
  have hc := hi.c.1
  have ho := opOf_red hc hk h4
  unfold red
  dsimp only
  rw [n15 hc, oth_eq hi]
  generalize oth m i = b
  generalize hcc : i.code = c at *
  have e : c - c % 16 = c / 16 * 16 := by omega
  rw [e]
  generalize c / 16 = o at *
  rcases ho with rfl | rfl | rfl | rfl | rfl | rfl | rfl | rfl | rfl | rfl
  all_goals simp [rck]
/-- how far a jump goes, in the document's way -/
def rjmp (m : Mch) (i : Ins) : Int :=
  if i.code / 16 = 0 then i.k
  else if (if i.code / 16 = 1 then decide (m.a = oth m i) else if i.code / 16 = 2 then decide (m.a > oth m i) else if i.code / 16 = 3 then decide (m.a ≥ oth m i) else decide (iand m.a (oth m i) ≠ 0)) = true then i.jt else i.jf
theorem opOf_jmp {c : Int} (h : 0 ≤ c) (hk : known c = true) (h4 : c % 8 = 5) : c / 16 = 0 ∨ c / 16 = 1 ∨ c / 16 = 2 ∨ c / 16 = 3 ∨ c / 16 = 4 := by
  simp only [known, opOf_eq h, Bool.or_eq_true, Bool.and_eq_true, decide_eq_true_eq] at hk
  omega
theorem jmp_eq {m : Mch} {i : Ins} (hi : i.ok) (hk : known i.code = true) (h4 : i.code % 8 = 5) : jmp m i = { m with pos := m.pos + rjmp m i } := by
  have hc := hi.c.1
  have ho := opOf_jmp hc hk h4
  unfold jmp holds rjmp
  dsimp only
  rw [n15 hc, oth_eq hi]
  generalize oth m i = b
  generalize hcc : i.code = c at *
  have e : c - c % 16 = c / 16 * 16 := by omega
  rw [e]
  generalize c / 16 = o at *
  rcases ho with rfl | rfl | rfl | rfl | rfl
  · simp
  all_goals
    simp
    split <;> rfl
def ofF (r : Rec) : List Int := [r.num, r.arch, r.at_ % 4294967296, r.at_ / 4294967296] ++ r.args.flatMap fun a => [a % 4294967296, a / 4294967296]
def rld (m : Mch) (i : Ins) : Int :=
  if i.code / 32 = 1 then (ofF m.rc).getD (i.k / 4 % 16).toNat 0 else if i.code / 32 = 3 then m.sc.getD (i.k % 16).toNat 0 else if i.code / 32 = 4 then 64 else i.k
theorem codes_ld {c : Int} (h : 0 ≤ c) (hk : known c = true) (h4 : c % 8 = 0 ∨ c % 8 = 1) : c = 32 ∨ c = 0 ∨ c = 96 ∨ c = 128 ∨ c = 1 ∨ c = 97 ∨ c = 129 := by
  simp only [known, opOf_eq h, Bool.or_eq_true, Bool.and_eq_true, decide_eq_true_eq] at hk
  omega
theorem ld_eq {m : Mch} {i : Ins} (hi : i.ok) (hk : known i.code = true) (h4 : i.code % 8 = 0 ∨ i.code % 8 = 1) (hw : i.code = 32 → word m.rc i.k = (ofF m.rc).getD (i.k / 4 % 16).toNat 0) : ld m i = rld m i := by
  have hc := hi.c.1
  have ho := codes_ld hc hk h4
  unfold ld rld
  rw [n7 hc]
  generalize i.code = c at *
  rcases ho with rfl | rfl | rfl | rfl | rfl | rfl | rfl
  · simpa using hw rfl
  all_goals simp
end Go.Proofs.Ytcimcihhpkedfaa
namespace Go.Proofs.Ytcimcihhpkedfaa
open Go Go.RowKit
theorem ior_add {a b : Int} (m : Nat) (ha : 0 ≤ a) (h1 : a.toNat < 2 ^ m) (hb : 0 ≤ b) : ior a (b * ((2 ^ m : Nat) : Int)) = a + b * ((2 ^ m : Nat) : Int) := by
  obtain ⟨x, rfl⟩ : ∃ x : Nat, a = x := ⟨a.toNat, by omega⟩
  obtain ⟨y, rfl⟩ : ∃ y : Nat, b = y := ⟨b.toNat, by omega⟩
  have h := Nat.two_pow_add_eq_or_of_lt (b := x) (i := m) (by simpa using h1) y
  have e : ((y : Int) * ((2 ^ m : Nat) : Int)) = ((2 ^ m * y : Nat) : Int) := by rw [Nat.mul_comm]; exact (Int.natCast_mul _ _).symm
  rw [e]
  unfold ior
  simp only [Int.toNat_natCast]
  rw [Nat.or_comm, ← h]
  omega
theorem take4 {cs : List Int} {b0 b1 b2 b3 : Int} (h0 : cs.getD 0 0 = b0) (h1 : cs.getD 1 0 = b1) (h2 : cs.getD 2 0 = b2) (h3 : cs.getD 3 0 = b3)
    (r0 : 0 ≤ b0 ∧ b0 < 256) (r1 : 0 ≤ b1 ∧ b1 < 256) (r2 : 0 ≤ b2 ∧ b2 < 256) (r3 : 0 ≤ b3 ∧ b3 < 256) :
    takeK cs 4 = b0 + b1 * 256 + b2 * 65536 + b3 * 16777216 := by
  have w0 : IntKind.u64.wrap (b0 * 2 ^ (min (8 * ((0 : Nat) : Int)).toNat 64)) = b0 * ((2 ^ 0 : Nat) : Int) := by
    have : (2 : Int) ^ (min (8 * ((0 : Nat) : Int)).toNat 64) = 1 := by decide
    rw [this]; refine (IntWalk.u64_in _ ?_).trans (by simp); omega
  have w1 : IntKind.u64.wrap (b1 * 2 ^ (min (8 * ((1 : Nat) : Int)).toNat 64)) = b1 * ((2 ^ 8 : Nat) : Int) := by
    have : (2 : Int) ^ (min (8 * ((1 : Nat) : Int)).toNat 64) = 256 := by decide
    rw [this]; refine (IntWalk.u64_in _ ?_).trans (by simp); omega
  have w2 : IntKind.u64.wrap (b2 * 2 ^ (min (8 * ((2 : Nat) : Int)).toNat 64)) = b2 * ((2 ^ 16 : Nat) : Int) := by
    have : (2 : Int) ^ (min (8 * ((2 : Nat) : Int)).toNat 64) = 65536 := by decide
    rw [this]; refine (IntWalk.u64_in _ ?_).trans (by simp); omega
  have w3 : IntKind.u64.wrap (b3 * 2 ^ (min (8 * ((3 : Nat) : Int)).toNat 64)) = b3 * ((2 ^ 24 : Nat) : Int) := by
    have : (2 : Int) ^ (min (8 * ((3 : Nat) : Int)).toNat 64) = 16777216 := by decide
    rw [this]; refine (IntWalk.u64_in _ ?_).trans (by simp); omega
  have e : takeK cs 4 = ior (ior (ior (ior 0 (IntKind.u64.wrap (b0 * 2 ^ (min (8 * ((0 : Nat) : Int)).toNat 64)))) (IntKind.u64.wrap (b1 * 2 ^ (min (8 * ((1 : Nat) : Int)).toNat 64)))) (IntKind.u64.wrap (b2 * 2 ^ (min (8 * ((2 : Nat) : Int)).toNat 64)))) (IntKind.u64.wrap (b3 * 2 ^ (min (8 * ((3 : Nat) : Int)).toNat 64))) := by
    subst h0 h1 h2 h3; rfl
  rw [e, w0, w1, w2, w3]
  rw [ior_add 0 (by omega) (by simp) r0.1]
  rw [ior_add 8 (by simp; omega) (by simp; omega) r1.1]
  rw [ior_add 16 (by simp; omega) (by simp; omega) r2.1]
  rw [ior_add 24 (by simp; omega) (by simp; omega) r3.1]
  simp
theorem byteOf_eq {n : Int} (hn : 0 ≤ n) : byteOf n 0 = n % 256 ∧ byteOf n 1 = n / 256 % 256 ∧ byteOf n 2 = n / 65536 % 256 ∧ byteOf n 3 = n / 16777216 % 256 ∧ byteOf n 4 = n / 4294967296 % 256 ∧ byteOf n 5 = n / 1099511627776 % 256 ∧ byteOf n 6 = n / 281474976710656 % 256 ∧ byteOf n 7 = n / 72057594037927936 % 256 := by
  have h : ∀ (k : Nat) (d : Int), (2 : Int) ^ (min (8 * (k : Int)).toNat IntKind.u64.bits) = d → 0 ≤ d → byteOf n k = n / d % 256 := by
    intro k d h1 h2
    unfold byteOf
    rw [h1, Int.fdiv_eq_ediv_of_nonneg _ h2]
    rfl
  exact ⟨by have := h 0 1 (by decide) (by decide); simpa using this, h 1 _ (by decide) (by decide), h 2 _ (by decide) (by decide), h 3 _ (by decide) (by decide), h 4 _ (by decide) (by decide), h 5 _ (by decide) (by decide), h 6 _ (by decide) (by decide), h 7 _ (by decide) (by decide)⟩
theorem lo4 {cs : List Int} {n : Int} (hn : 0 ≤ n) (h : cs.getD 0 0 = byteOf n 0 ∧ cs.getD 1 0 = byteOf n 1 ∧ cs.getD 2 0 = byteOf n 2 ∧ cs.getD 3 0 = byteOf n 3) : takeK cs 4 % 4294967296 = n % 4294967296 := by
  obtain ⟨e0, e1, e2, e3, _⟩ := byteOf_eq hn
  rw [take4 h.1 h.2.1 h.2.2.1 h.2.2.2 (byteOf_rng _ _) (byteOf_rng _ _) (byteOf_rng _ _) (byteOf_rng _ _), e0, e1, e2, e3]
  omega
theorem hi4 {cs : List Int} {n : Int} (hn : 0 ≤ n ∧ n < 18446744073709551616) (h : cs.getD 0 0 = byteOf n 4 ∧ cs.getD 1 0 = byteOf n 5 ∧ cs.getD 2 0 = byteOf n 6 ∧ cs.getD 3 0 = byteOf n 7) : takeK cs 4 % 4294967296 = n / 4294967296 := by
  obtain ⟨_, _, _, _, e0, e1, e2, e3⟩ := byteOf_eq hn.1
  rw [take4 h.1 h.2.1 h.2.2.1 h.2.2.2 (byteOf_rng _ _) (byteOf_rng _ _) (byteOf_rng _ _) (byteOf_rng _ _), e0, e1, e2, e3]
  omega
set_option maxRecDepth 100000 in
set_option maxHeartbeats 1000000 in
theorem word_eq {r : Rec} (hr : r.ok) {k : Int} (hk : 0 ≤ k) (h4 : k % 4 = 0) (h60 : k ≤ 60) : word r k = (ofF r).getD (k / 4 % 16).toNat 0 := by
  unfold word
  rw [if_pos ⟨h4, h60⟩]
  have h1 := hr.num
  have h2 := hr.arch
  have h3 := hr.at_
  have hargs := hr.args
  obtain ⟨num, arch, at_, args⟩ := r
  obtain ⟨b0, b1, b2, b3, b4, b5, rfl⟩ : ∃ b0 b1 b2 b3 b4 b5, args = [b0, b1, b2, b3, b4, b5] := by
    match args, hr.len with
    | [_, _, _, _, _, _], _ => exact ⟨_, _, _, _, _, _, rfl⟩
  dsimp only at h1 h2 h3 hargs
  have g0 := hargs b0 (by simp)
  have g1 := hargs b1 (by simp)
  have g2 := hargs b2 (by simp)
  have g3 := hargs b3 (by simp)
  have g4 := hargs b4 (by simp)
  have g5 := hargs b5 (by simp)
  obtain ⟨j, rfl⟩ : ∃ j : Nat, k = (4 * j : Nat) := ⟨(k / 4).toNat, by omega⟩
  have hj : j < 16 := by omega
  have ej : ((4 * j : Nat) : Int) / 4 % 16 = (j : Int) := by omega
  rw [ej, Int.toNat_natCast, Int.toNat_natCast]
  match j, hj with
  | 0, _ => exact (lo4 h1.1 ⟨by kernel_rfl, by kernel_rfl, by kernel_rfl, by kernel_rfl⟩).trans (by show num % 4294967296 = num; omega)
  | 1, _ => exact (lo4 h2.1 ⟨by kernel_rfl, by kernel_rfl, by kernel_rfl, by kernel_rfl⟩).trans (by show arch % 4294967296 = arch; omega)
  | 2, _ => exact lo4 h3.1 ⟨by kernel_rfl, by kernel_rfl, by kernel_rfl, by kernel_rfl⟩
  | 3, _ => exact hi4 h3 ⟨by kernel_rfl, by kernel_rfl, by kernel_rfl, by kernel_rfl⟩
  | 4, _ => exact lo4 g0.1 ⟨by kernel_rfl, by kernel_rfl, by kernel_rfl, by kernel_rfl⟩
  | 5, _ => exact hi4 g0 ⟨by kernel_rfl, by kernel_rfl, by kernel_rfl, by kernel_rfl⟩
  | 6, _ => exact lo4 g1.1 ⟨by kernel_rfl, by kernel_rfl, by kernel_rfl, by kernel_rfl⟩
  | 7, _ => exact hi4 g1 ⟨by kernel_rfl, by kernel_rfl, by kernel_rfl, by kernel_rfl⟩
  | 8, _ => exact lo4 g2.1 ⟨by kernel_rfl, by kernel_rfl, by kernel_rfl, by kernel_rfl⟩
  | 9, _ => exact hi4 g2 ⟨by kernel_rfl, by kernel_rfl, by kernel_rfl, by kernel_rfl⟩
  | 10, _ => exact lo4 g3.1 ⟨by kernel_rfl, by kernel_rfl, by kernel_rfl, by kernel_rfl⟩
  | 11, _ => exact hi4 g3 ⟨by kernel_rfl, by kernel_rfl, by kernel_rfl, by kernel_rfl⟩
  | 12, _ => exact lo4 g4.1 ⟨by kernel_rfl, by kernel_rfl, by kernel_rfl, by kernel_rfl⟩
  | 13, _ => exact hi4 g4 ⟨by kernel_rfl, by kernel_rfl, by kernel_rfl, by kernel_rfl⟩
  | 14, _ => exact lo4 g5.1 ⟨by kernel_rfl, by kernel_rfl, by kernel_rfl, by kernel_rfl⟩
  | 15, _ => exact hi4 g5 ⟨by kernel_rfl, by kernel_rfl, by kernel_rfl, by kernel_rfl⟩
end Go.Proofs.Ytcimcihhpkedfaa
