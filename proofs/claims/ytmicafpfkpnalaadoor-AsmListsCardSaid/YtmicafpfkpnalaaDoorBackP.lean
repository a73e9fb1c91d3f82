/- A line that the program prints is read as the same instruction. Plain. -/
import Derived.Test.YtmicafpfkpnalaaDoorTxt2
import Derived.Test.YtmicafpfkpnalaaDoorLinP
import Derived.Test.YtmicafpfkpnalaaDoorNumP
namespace Go.Proofs.YtmicafpfkpnalaaDoor
open Go Go.RowKit
/-- bytes that words may have -/
def okB (b : UInt8) : Prop := (48 ≤ b.toNat ∧ b.toNat ≤ 57) ∨ (97 ≤ b.toNat ∧ b.toNat ≤ 122)
instance : DecidablePred okB := fun b => by unfold okB; infer_instance
theorem okB_is {b : UInt8} (h : okB b) : Lib.isSp b = false ∧ b ≠ 10 ∧ b ≠ 35 ∧ b ≠ 32 ∧ b.toNat < 128 := by
  have : ∀ k : Fin 256, okB (UInt8.ofNat k.val) → (Lib.isSp (UInt8.ofNat k.val) = false ∧ UInt8.ofNat k.val ≠ 10 ∧ UInt8.ofNat k.val ≠ 35 ∧ UInt8.ofNat k.val ≠ 32 ∧ (UInt8.ofNat k.val).toNat < 128) := by decide +kernel
  have h2 := this ⟨b.toNat, b.toNat_lt⟩
  dsimp only at h2
  rw [UInt8.ofNat_toNat] at h2
  exact h2 h
theorem decF_okB (n : Nat) : ∀ b ∈ decF n, okB b := by
  induction n using Nat.strongRecOn with
  | _ n ih =>
    intro b hb
    have hd : ∀ k : Fin 10, okB (UInt8.ofNat (48 + k.val)) := by decide +kernel
    by_cases h : n < 10
    · rw [decF_lt h] at hb
      rw [List.mem_singleton.1 hb]
      exact hd ⟨n, h⟩
    · rw [decF_ge h] at hb
      rcases List.mem_append.1 hb with hb | hb
      · exact ih (n / 10) (by omega) b hb
      · exact ih (n % 10) (by omega) b hb
/-- words with a blank between -/
def spc (x : List UInt8) (xs : List (List UInt8)) : List UInt8 := x ++ xs.flatMap fun y => 32 :: y
theorem fieldsGo_word (w cur r : List UInt8) (h : ∀ b ∈ w, Lib.isSp b = false) : Lib.fieldsGo cur (w ++ r) = Lib.fieldsGo (cur ++ w) r := by
  induction w generalizing cur with
  | nil => rw [List.nil_append, List.append_nil]
  | cons b w ih =>
    rw [List.cons_append, Lib.fieldsGo_more cur b _ (h b (List.mem_cons_self ..)), ih _ (fun c hc => h c (List.mem_cons_of_mem _ hc)), List.append_assoc]; rfl
def okW (w : List UInt8) : Prop := w ≠ [] ∧ ∀ b ∈ w, okB b
theorem fieldsGo_spc (cur : List UInt8) (hc : cur ≠ []) (xs : List (List UInt8)) (hx : ∀ y ∈ xs, okW y) : Lib.fieldsGo cur (xs.flatMap fun y => 32 :: y) = cur :: xs := by
  induction xs generalizing cur with
  | nil =>
    rw [List.flatMap_nil, Lib.fieldsGo, if_neg (by simpa using hc)]
  | cons y r ih =>
    have hy := hx y (List.mem_cons_self ..)
    rw [List.flatMap_cons, List.cons_append, Lib.fieldsGo_end cur 32 _ (by decide) hc, fieldsGo_word y [] _ (fun b hb => (okB_is (hy.2 b hb)).1), List.nil_append, ih y hy.1 (fun z hz => hx z (List.mem_cons_of_mem _ hz))]
theorem fields_spc {x : List UInt8} {xs : List (List UInt8)} (hx : okW x) (hxs : ∀ y ∈ xs, okW y) : Lib.fields (spc x xs) = x :: xs := by
  unfold Lib.fields spc
  rw [fieldsGo_word x [] _ (fun b hb => (okB_is (hx.2 b hb)).1), List.nil_append, fieldsGo_spc x hx.1 xs hxs]
theorem spc_mem {x : List UInt8} {xs : List (List UInt8)} (hx : okW x) (hxs : ∀ y ∈ xs, okW y) {b : UInt8} (hb : b ∈ spc x xs) : b ≠ 10 ∧ b ≠ 35 ∧ b.toNat < 128 := by
  have h1 : okB b → b ≠ 10 ∧ b ≠ 35 ∧ b.toNat < 128 := fun h => by have := okB_is h; exact ⟨this.2.1, this.2.2.1, this.2.2.2.2⟩
  unfold spc at hb
  rcases List.mem_append.1 hb with hb | hb
  · exact h1 (hx.2 b hb)
  · obtain ⟨y, hy, hb⟩ := List.mem_flatMap.1 hb
    rcases List.mem_cons.1 hb with rfl | hb
    · decide
    · exact h1 ((hxs y hy).2 b hb)
theorem okW_dec (x : Int) : okW (dI x) := ⟨decF_ne _, decF_okB _⟩
theorem wds_ok : ∀ w ∈ wds, w.text ≠ [] ∧ (∀ b ∈ w.text, okB b) ∧ wdOf w.text wds = some w ∧ (w.form < 4) := by decide +kernel
theorem raw_ok : okW rawT ∧ wdOf rawT wds = none := ⟨⟨by decide, by decide⟩, by decide +kernel⟩
theorem wdAt_code {c : Nat} {l : List Wd} {w : Wd} (h : wdAt c l = some w) : w.code = c := by
  induction l with
  | nil => cases h
  | cons a r ih =>
    rw [wdAt] at h
    split at h
    · rename_i hc; cases h; exact hc.symm
    · exact ih h
theorem numsGo_step {m v : Nat} {ms : List Nat} {xs : List (List UInt8)} {out : List Nat} (h : v ≤ m) (hm : m ≤ 18446744073709551615) : numsGo (m :: ms) (decF v :: xs) out = numsGo ms xs (out ++ [v]) := by
  rw [numsGo, numF_decF v (by omega)]
  dsimp only
  rw [if_neg (by omega)]
/-- a line is read as its instruction -/
structure LnOk (t : List UInt8) (i : Ins) : Prop where
  line : lineF t = some (i, 0)
  ten : (10 : UInt8) ∉ t
  asc : ∀ b ∈ t, b.toNat < 128
theorem ln_of {x : List UInt8} {xs : List (List UInt8)} {i : Ins} (hx : okW x) (hxs : ∀ y ∈ xs, okW y) (hp : parsedF (x :: xs) = (i, 0)) : LnOk (spc x xs) i := by
  have hm := fun {b} => spc_mem (b := b) hx hxs
  refine ⟨?_, fun h => (hm h).1 rfl, fun b h => (hm h).2.2⟩
  have hh : headF 35 (spc x xs) = spc x xs := by
    unfold headF
    rw [ix_none (List.count_eq_zero.2 fun h => (hm h).2.1 rfl)]; rfl
  unfold lineF
  rw [hh, fields_spc hx hxs]
  dsimp only
  rw [hp]
theorem rawLn_ok (i : Ins) (hi : i.ok) : LnOk (rawLn i) i := by
  have e : rawLn i = spc rawT [dI i.code, dI i.jt, dI i.jf, dI i.k] := by
    unfold rawLn spc rawT
    simp
  rw [e]
  obtain ⟨h1, h2, h3, h4⟩ := hi
  refine ln_of raw_ok.1 (fun y hy => ?_) ?_
  · simp only [List.mem_cons, List.not_mem_nil, or_false] at hy
    rcases hy with rfl | rfl | rfl | rfl <;> exact okW_dec _
  · unfold parsedF
    rw [List.headD_cons, raw_ok.2]
    dsimp only
    rw [if_pos rfl]
    refine (numbered_ok (ns := [i.code.toNat, i.jt.toNat, i.jf.toNat, i.k.toNat]) rfl ?_).trans ?_
    · unfold dI rawM
      rw [List.tail_cons, numsGo_step (by omega) (by omega), numsGo_step (by omega) (by omega), numsGo_step (by omega) (by omega), numsGo_step (by omega) (by omega)]
      rfl
    · unfold insOf
      rw [if_pos rfl]
      obtain ⟨ic, it, ijf, ik⟩ := i
      dsimp only at h1 h2 h3 h4
      simp only [List.getD_cons_zero, List.getD_cons_succ, Int.toNat_of_nonneg h1.1, Int.toNat_of_nonneg h2.1, Int.toNat_of_nonneg h3.1, Int.toNat_of_nonneg h4.1]
theorem lineT_ok (i : Ins) (hi : i.ok) : LnOk (lineT i) i := by
  have hraw := rawLn_ok i hi
  unfold lineT
  cases hq : wdAt i.code.toNat wds with
  | none => exact hraw
  | some w =>
    obtain ⟨w1, w2, w3, w4⟩ := wds_ok w (wdAt_mem hq)
    have hc := wdAt_code hq
    have hcw : (w.code : Int) = i.code := by rw [hc, Int.toNat_of_nonneg hi.1.1]
    have hok : okW w.text := ⟨w1, w2⟩
    obtain ⟨h1, h2, h3, h4⟩ := hi
    dsimp only
    have key : ∀ (xs : List (List UInt8)) (ns : List Nat), (∀ y ∈ xs, okW y) → (w.text :: xs).length = (limF w.form).length + 1 → numsGo (limF w.form) xs [] = (0, ns) → insOf true w.code w.form ns = i → LnOk (spc w.text xs) i := by
      intro xs ns k1 k2 k3 k4
      refine ln_of hok k1 ?_
      unfold parsedF
      rw [List.headD_cons, w3]
      dsimp only
      rw [numbered_ok k2 (by rw [List.tail_cons]; exact k3), k4]
    by_cases f0 : w.form = 0
    · rw [if_pos f0]
      split
      · rename_i hz
        have e : w.text = spc w.text [] := by unfold spc; simp
        rw [e]
        refine key [] [] (fun y hy => by cases hy) (by rw [f0]; rfl) (by rw [f0]; rfl) ?_
        unfold insOf
        rw [if_neg (by decide), if_neg (by omega), hcw]
        obtain ⟨ic, it, ijf, ik⟩ := i
        dsimp only at hz ⊢
        rw [hz.1, hz.2.1, hz.2.2]; rfl
      · exact hraw
    rw [if_neg f0]
    by_cases f1 : w.form = 1
    · rw [if_pos f1]
      split
      · rename_i hz
        have e : w.text ++ [32] ++ dI i.k = spc w.text [dI i.k] := by unfold spc; simp
        rw [e]
        refine key _ [i.k.toNat] (fun y hy => by rw [List.mem_singleton.1 hy]; exact okW_dec _) (by rw [f1]; rfl) ?_ ?_
        · rw [f1, show limF 1 = [4294967295] from rfl]
          unfold dI
          rw [numsGo_step (by omega) (by omega)]; rfl
        · unfold insOf
          rw [if_neg (by decide), if_neg (by omega), hcw]
          obtain ⟨ic, it, ijf, ik⟩ := i
          dsimp only at hz h4 ⊢
          simp only [List.getD_cons_zero, List.getD_cons_succ, List.getD_nil, Int.toNat_of_nonneg h4.1]
          rw [hz.1, hz.2]; rfl
      · exact hraw
    rw [if_neg f1]
    by_cases f2 : w.form = 2
    · rw [if_pos f2]
      split
      · rename_i hz
        have e : w.text ++ [32] ++ dI i.jt ++ [32] ++ dI i.jf = spc w.text [dI i.jt, dI i.jf] := by unfold spc; simp
        rw [e]
        refine key _ [i.jt.toNat, i.jf.toNat] (fun y hy => ?_) (by rw [f2]; rfl) ?_ ?_
        · simp only [List.mem_cons, List.not_mem_nil, or_false] at hy
          rcases hy with rfl | rfl <;> exact okW_dec _
        · rw [f2, show limF 2 = [255, 255] from rfl]
          unfold dI
          rw [numsGo_step (by omega) (by omega), numsGo_step (by omega) (by omega)]; rfl
        · unfold insOf
          rw [if_neg (by decide), if_pos f2, hcw]
          obtain ⟨ic, it, ijf, ik⟩ := i
          dsimp only at hz h2 h3 ⊢
          simp only [List.getD_cons_zero, List.getD_cons_succ, Int.toNat_of_nonneg h2.1, Int.toNat_of_nonneg h3.1]
          rw [hz]
      · exact hraw
    rw [if_neg f2]
    have f3 : w.form = 3 := by omega
    have e : w.text ++ [32] ++ dI i.k ++ [32] ++ dI i.jt ++ [32] ++ dI i.jf = spc w.text [dI i.k, dI i.jt, dI i.jf] := by unfold spc; simp
    rw [e]
    refine key _ [i.k.toNat, i.jt.toNat, i.jf.toNat] (fun y hy => ?_) (by rw [f3]; rfl) ?_ ?_
    · simp only [List.mem_cons, List.not_mem_nil, or_false] at hy
      rcases hy with rfl | rfl | rfl <;> exact okW_dec _
    · rw [f3, show limF 3 = [4294967295, 255, 255] from rfl]
      unfold dI
      rw [numsGo_step (by omega) (by omega), numsGo_step (by omega) (by omega), numsGo_step (by omega) (by omega)]; rfl
    · unfold insOf
      rw [if_neg (by decide), if_neg f2, hcw]
      obtain ⟨ic, it, ijf, ik⟩ := i
      dsimp only at h2 h3 h4 ⊢
      simp only [List.getD_cons_zero, List.getD_cons_succ, Int.toNat_of_nonneg h2.1, Int.toNat_of_nonneg h3.1, Int.toNat_of_nonneg h4.1]
theorem textF_split (l : List Ins) (hl : ∀ i ∈ l, i.ok) : splitC 10 (textF l) = l.map lineT ++ [[]] := by
  have e : textF l = (l.map lineT).flatMap (fun t => t ++ [10]) ++ [] := by
    rw [List.append_nil, List.flatMap_map]; rfl
  rw [e, splitC_lines _ (fun t ht => by
    obtain ⟨i, hi, rfl⟩ := List.mem_map.1 ht
    exact (lineT_ok i (hl i hi)).ten)]; rfl
theorem textF_asc (l : List Ins) (hl : ∀ i ∈ l, i.ok) : ∀ b ∈ textF l, b.toNat < 128 := by
  intro b hb
  obtain ⟨i, hi, hb⟩ := List.mem_flatMap.1 hb
  rcases List.mem_append.1 hb with hb | hb
  · exact (lineT_ok i (hl i hi)).asc b hb
  · rw [List.mem_singleton.1 hb]; decide
theorem parse_lines (l : List Ins) (hl : ∀ i ∈ l, i.ok) (n : Nat) (rest : List (List UInt8)) (out : List Ins) (hlen : out.length + l.length ≤ 4096) : parseGo n (l.map lineT ++ rest) out = parseGo (n + l.length) rest (out ++ l) := by
  have h := parseGo_good (l.map fun i => (lineT i, i)) (fun p hp => by
    obtain ⟨i, hi, rfl⟩ := List.mem_map.1 hp
    exact (lineT_ok i (hl i hi)).line) n rest out (by rw [List.length_map]; exact hlen)
  rw [List.map_map, List.map_map, List.length_map] at h
  have e1 : ((fun p : List UInt8 × Ins => p.1) ∘ fun i => (lineT i, i)) = lineT := rfl
  have e2 : ((fun p : List UInt8 × Ins => p.2) ∘ fun i => (lineT i, i)) = id := rfl
  rw [e1, e2, List.map_id] at h
  exact h
theorem text_parse (l : List Ins) (hl : ∀ i ∈ l, i.ok) (hlen : l.length ≤ 4096) (h65 : (textF l).length ≤ 65536) : parseF (textF l) = (l, 0, 0) := by
  unfold parseF
  rw [if_neg (by omega), textF_split l hl, parse_lines l hl 0 [[]] [] (by simp; exact hlen), parseGo_cons, hdr_no.1]
  dsimp only
  rw [parseGo, List.nil_append]
theorem text_many (l : List Ins) (hl : ∀ i ∈ l, i.ok) (hlen : 4096 < l.length) (h65 : (textF l).length ≤ 65536) : parseF (textF l) = ([], 4097, 205) := by
  unfold parseF
  have hsp : l = l.take 4096 ++ l[4096] :: l.drop 4097 := by rw [List.getElem_cons_drop, List.take_append_drop]
  rw [if_neg (by omega), textF_split l hl]
  have e : l.map lineT ++ [[]] = (l.take 4096).map lineT ++ (lineT l[4096] :: ((l.drop 4097).map lineT ++ [[]])) := by
    have h := congrArg (fun z => z.map lineT ++ [[]]) hsp
    rw [h, List.map_append, List.map_cons, List.append_assoc]; rfl
  have hk : (l.take 4096).length = 4096 := by rw [List.length_take]; omega
  rw [e, parse_lines (l.take 4096) (fun i hi => hl i (List.mem_of_mem_take hi)) 0 _ [] (by rw [hk]; simp), parseGo_cons, (lineT_ok _ (hl _ (List.getElem_mem hlen))).line]
  dsimp only
  rw [if_neg (fun h => h rfl), List.nil_append, if_pos hk, hk]
end Go.Proofs.YtmicafpfkpnalaaDoor
