/- Words of listings; what a line's words are, what a text is. Plain. -/
import Derived.Test.YtmicafpfkpnalaaDoorCut1
import Derived.Test.YtmicafpfkpnalaaDoorChkS
import Derived.Test.YtmicafpfkpnalaaDoorGm
import Derived.Lib.Fields
namespace Go.Proofs.YtmicafpfkpnalaaDoor
open Go Go.RowKit
structure Wd where
  code : Nat
  text : List UInt8
  form : Nat
  deriving DecidableEq
def Wd.cells (w : Wd) : List Value := [.int .u16 (w.code : Nat), .string (mB8 w.text), .int .u8 (w.form : Nat)]
def Wd.v (w : Wd) : Value := .agg #[.int .u16 (w.code : Nat), .string (mB8 w.text), .int .u8 (w.form : Nat)]
def flatW (l : List Wd) : List Value := l.flatMap Wd.cells
def wds : List Wd := [
  ⟨0, [108, 100], 1⟩,
  ⟨32, [108, 100, 97, 98, 115], 1⟩,
  ⟨96, [108, 100, 109, 101, 109], 1⟩,
  ⟨128, [108, 100, 108, 101, 110], 0⟩,
  ⟨1, [108, 100, 120], 1⟩,
  ⟨97, [108, 100, 120, 109, 101, 109], 1⟩,
  ⟨129, [108, 100, 120, 108, 101, 110], 0⟩,
  ⟨2, [115, 116], 1⟩,
  ⟨3, [115, 116, 120], 1⟩,
  ⟨6, [114, 101, 116], 1⟩,
  ⟨22, [114, 101, 116, 97], 0⟩,
  ⟨7, [116, 97, 120], 0⟩,
  ⟨135, [116, 120, 97], 0⟩,
  ⟨5, [106, 97], 1⟩,
  ⟨132, [110, 101, 103], 0⟩,
  ⟨4, [97, 100, 100], 1⟩,
  ⟨12, [97, 100, 100, 120], 0⟩,
  ⟨20, [115, 117, 98], 1⟩,
  ⟨28, [115, 117, 98, 120], 0⟩,
  ⟨36, [109, 117, 108], 1⟩,
  ⟨44, [109, 117, 108, 120], 0⟩,
  ⟨52, [100, 105, 118], 1⟩,
  ⟨60, [100, 105, 118, 120], 0⟩,
  ⟨68, [111, 114], 1⟩,
  ⟨76, [111, 114, 120], 0⟩,
  ⟨84, [97, 110, 100], 1⟩,
  ⟨92, [97, 110, 100, 120], 0⟩,
  ⟨100, [108, 115, 104], 1⟩,
  ⟨108, [108, 115, 104, 120], 0⟩,
  ⟨116, [114, 115, 104], 1⟩,
  ⟨124, [114, 115, 104, 120], 0⟩,
  ⟨164, [120, 111, 114], 1⟩,
  ⟨172, [120, 111, 114, 120], 0⟩,
  ⟨21, [106, 101, 113], 3⟩,
  ⟨29, [106, 101, 113, 120], 2⟩,
  ⟨37, [106, 103, 116], 3⟩,
  ⟨45, [106, 103, 116, 120], 2⟩,
  ⟨53, [106, 103, 101], 3⟩,
  ⟨61, [106, 103, 101, 120], 2⟩,
  ⟨69, [106, 115, 101, 116], 3⟩,
  ⟨77, [106, 115, 101, 116, 120], 2⟩]
theorem wds_len : wds.length = 41 := rfl
theorem flatW_len (l : List Wd) : (flatW l).length = l.length * 3 := by
  induction l with
  | nil => rfl
  | cons x r ih => rw [flatW, List.flatMap_cons, List.length_append]; rw [flatW] at ih; rw [ih, List.length_cons]; simp only [Wd.cells, List.length_cons, List.length_nil]; omega
theorem flatW_at (l : List Wd) (k : Nat) (h : k < l.length) : ((flatW l).drop (k * 3)).take 3 = (l[k]).cells := by
  induction l generalizing k with
  | nil => simp at h
  | cons x r ih =>
    cases k with
    | zero => simp [flatW, Wd.cells]
    | succ k =>
      have hx : x.cells.length = 3 := rfl
      have ih' := ih k (by simpa using h)
      rw [flatW] at ih' ⊢
      rw [List.flatMap_cons, List.drop_append, List.drop_eq_nil_of_le (by rw [hx]; omega), List.nil_append, hx, show (k + 1) * 3 - 3 = k * 3 by omega, ih']
      rfl
theorem flatW_app (a b : List Wd) : flatW (a ++ b) = flatW a ++ flatW b := by simp [flatW]
theorem flatW_one (l : List Wd) : ∀ u ∈ flatW l, u.oneCell' = true := by
  intro u hu
  obtain ⟨t, -, ht⟩ := List.mem_flatMap.1 hu
  simp only [Wd.cells, List.mem_cons, List.not_mem_nil, or_false] at ht
  rcases ht with rfl | rfl | rfl <;> rfl
/-- the words by their texts, by their codes, as maps have them -/
def byText (l : List Wd) : List (Value × Value) := l.map fun w => (.string (mB8 w.text), w.v)
def byCode (l : List Wd) : List (Value × Value) := l.map fun w => (.int .u16 (w.code : Nat), w.v)
def wdOf (s : List UInt8) : List Wd → Option Wd
  | [] => none
  | w :: r => if s = w.text then some w else wdOf s r
def wdAt (c : Nat) : List Wd → Option Wd
  | [] => none
  | w :: r => if c = w.code then some w else wdAt c r
def wdV : Option Wd → Value
  | some w => w.v
  | none => .agg #[.int .u16 0, .string ⟨#[]⟩, .int .u8 0]
def zW : Value := .agg #[.int .u16 0, .string ⟨#[]⟩, .int .u8 0]
theorem mB8_inj {a b : List UInt8} (h : mB8 a = mB8 b) : a = b := by rw [← lB_mB8 a, h, lB_mB8]
theorem fd_byText (s : List UInt8) (l : List Wd) (i : Nat) : ∃ r, fd .string (.string (mB8 s)) (byText l) i = some r ∧ found r zW = wdV (wdOf s l) ∧ r.isSome = (wdOf s l).isSome := by
  induction l generalizing i with
  | nil => exact ⟨none, rfl, rfl, rfl⟩
  | cons c r ih =>
    by_cases h : s = c.text
    · exact ⟨some (i, c.v), by simp [byText, fd, Instr.sameNow, ba_beq, h], by simp [wdOf, h, found, wdV], by simp [wdOf, h]⟩
    · obtain ⟨q, h1, h2, h3⟩ := ih (i + 1)
      have h' : ¬ mB8 s = mB8 c.text := fun e => h (mB8_inj e)
      exact ⟨q, by simpa [byText, fd, Instr.sameNow, ba_beq, h'] using h1, by simpa [wdOf, h] using h2, by simpa [wdOf, h] using h3⟩
theorem fd_byCode (s : Nat) (l : List Wd) (i : Nat) : ∃ r, fd (.int .u16) (.int .u16 (s : Nat)) (byCode l) i = some r ∧ found r zW = wdV (wdAt s l) ∧ r.isSome = (wdAt s l).isSome := by
  induction l generalizing i with
  | nil => exact ⟨none, rfl, rfl, rfl⟩
  | cons c r ih =>
    by_cases h : s = c.code
    · exact ⟨some (i, c.v), by simp [byCode, fd, Instr.sameNow, h], by simp [wdAt, h, found, wdV], by simp [wdAt, h]⟩
    · obtain ⟨q, h1, h2, h3⟩ := ih (i + 1)
      exact ⟨q, by
        have e : ((s : Int) == (c.code : Int)) = false := by rw [beq_eq_false_iff_ne]; omega
        simpa [byCode, fd, Instr.sameNow, e] using h1, by simpa [wdAt, h] using h2, by simpa [wdAt, h] using h3⟩
theorem fd_app_none' {d : TypeDesc} {k : Value} {a : List (Value × Value)} {i : Nat} (h : ∀ p ∈ a, Instr.sameNow d k p.1 = some false) : fd d k a i = some none := by
  induction a generalizing i with
  | nil => rfl
  | cons p r ih =>
    simp only [fd, h p (by simp)]
    exact ih (fun q hq => h q (by simp [hq]))
theorem wds_new : ∀ k : Fin 41, ∀ c ∈ wds.take k.val, (wds[k.val]'(by have := k.isLt; rw [wds_len]; exact this)).text ≠ c.text ∧ (wds[k.val]'(by have := k.isLt; rw [wds_len]; exact this)).code ≠ c.code := by decide +kernel
theorem fd_newText {l : List Wd} {s : List UInt8} (h : ∀ c ∈ l, s ≠ c.text) : fd .string (.string (mB8 s)) (byText l) 0 = some none := by
  apply fd_app_none'
  intro p hp
  obtain ⟨c, hc, rfl⟩ := List.mem_map.1 hp
  have h' : ¬ mB8 s = mB8 c.text := fun e => h c hc (mB8_inj e)
  simp [Instr.sameNow, ba_beq, h']
theorem fd_newCode {l : List Wd} {s : Nat} (h : ∀ c ∈ l, s ≠ c.code) : fd (.int .u16) (.int .u16 (s : Nat)) (byCode l) 0 = some none := by
  apply fd_app_none'
  intro p hp
  obtain ⟨c, hc, rfl⟩ := List.mem_map.1 hp
  have h' := h c hc
  have e : ((s : Int) == (c.code : Int)) = false := by rw [beq_eq_false_iff_ne]; omega
  simp [Instr.sameNow, e]
theorem wds_rng : ∀ w ∈ wds, w.code < 65536 ∧ w.form < 4 ∧ w.text.length ≤ 6 := by decide +kernel
theorem wdOf_mem {s : List UInt8} {l : List Wd} {w : Wd} (h : wdOf s l = some w) : w ∈ l := by
  induction l with
  | nil => cases h
  | cons c r ih =>
    rw [wdOf] at h
    split at h
    · cases h; exact List.mem_cons_self ..
    · exact List.mem_cons_of_mem _ (ih h)
theorem wdAt_mem {s : Nat} {l : List Wd} {w : Wd} (h : wdAt s l = some w) : w ∈ l := by
  induction l with
  | nil => cases h
  | cons c r ih =>
    rw [wdAt] at h
    split at h
    · cases h; exact List.mem_cons_self ..
    · exact List.mem_cons_of_mem _ (ih h)
/-- the greatest numbers behind a word -/
def limF : Nat → List Nat
  | 1 => [4294967295]
  | 2 => [255, 255]
  | 3 => [4294967295, 255, 255]
  | _ => []
def rawM : List Nat := [65535, 255, 255, 4294967295]
def rawT : List UInt8 := [114, 97, 119]
/-- numbers read: what is wrong, and the numbers so far -/
def numsGo : List Nat → List (List UInt8) → List Nat → Nat × List Nat
  | m :: ms, x :: xs, out => match numF x with
    | none => (202, out)
    | some v => if v > m then (204, out) else numsGo ms xs (out ++ [v])
  | _, _, out => (0, out)
def insOf (is : Bool) (c f : Nat) (n : List Nat) : Ins :=
  if is = false then ⟨n.getD 0 0, n.getD 1 0, n.getD 2 0, n.getD 3 0⟩
  else if f = 2 then ⟨c, n.getD 0 0, n.getD 1 0, 0⟩
  else ⟨c, n.getD 1 0, n.getD 2 0, n.getD 0 0⟩
def zIns : Ins := ⟨0, 0, 0, 0⟩
def numbered (is : Bool) (c f : Nat) (ms : List Nat) (l : List (List UInt8)) : Ins × Nat :=
  if l.length ≠ ms.length + 1 then (zIns, 203) else match numsGo ms l.tail [] with
  | (0, n) => (insOf is c f n, 0)
  | (e + 1, _) => (zIns, e + 1)
/-- a line's words as an instruction -/
def parsedF (l : List (List UInt8)) : Ins × Nat := match wdOf (l.headD []) wds with
  | some w => numbered true w.code w.form (limF w.form) l
  | none => if l.headD [] = rawT then numbered false 0 0 rawM l else (zIns, 202)
/-- lines as instructions -/
def parseGo : Nat → List (List UInt8) → List Ins → List Ins × Nat × Nat
  | _, [], out => (out, 0, 0)
  | n, p :: ps, out => match Lib.fields (headF 35 p) with
    | [] => parseGo (n + 1) ps out
    | x :: xs => if (parsedF (x :: xs)).2 ≠ 0 then ([], n + 1, (parsedF (x :: xs)).2) else if out.length = 4096 then ([], n + 1, 205) else parseGo (n + 1) ps (out ++ [(parsedF (x :: xs)).1])
/-- a text as instructions -/
def parseF (l : List UInt8) : List Ins × Nat × Nat := if l.length > 65536 then ([], 0, 36) else parseGo 0 (splitC 10 l) []
end Go.Proofs.YtmicafpfkpnalaaDoor
