/- A line that the program prints of a call is read as the same call. Plain. -/
import Derived.Test.YtpdnigifoaoflaaDoorAsm1
import Derived.Test.YtpdnigifoaoflaaDoorScrW
import Derived.Test.YtpdnigifoaoflaaDoorBar1
namespace Go.Proofs.YtpdnigifoaoflaaDoor
open Go Go.RowKit
theorem numGo_app (b n : Nat) (l r : List UInt8) : numGo b n (l ++ r) = (numGo b n l).bind fun m => numGo b m r := by
  induction l generalizing n with
  | nil => rfl
  | cons c l ih =>
    rw [List.cons_append, numGo, numGo]
    split
    · exact ih _
    · rfl
theorem numGo_one {b n d : Nat} {c : UInt8} (hb : 0 < b) (hd : dgt c = d) (h : d < b) (hn : n * b + d ≤ 18446744073709551615) : numGo b n [c] = some (n * b + d) := by
  rw [numGo, if_pos]
  · rw [hd]; rfl
  · rw [hd]
    exact ⟨h, (Nat.le_div_iff_mul_le hb).2 (by omega)⟩
theorem dgt_dec : ∀ k : Fin 10, dgt (UInt8.ofNat (48 + k.val)) = k.val := by decide +kernel
theorem numGo_decF (n : Nat) : n ≤ 18446744073709551615 → numGo 10 0 (decF n) = some n := by
  induction n using Nat.strongRecOn with
  | _ n ih =>
    intro hn
    by_cases h : n < 10
    · rw [decF_lt h, numGo_one (by omega) (dgt_dec ⟨n, h⟩) h (by omega)]
      simp
    · rw [decF_ge h, numGo_app, ih (n / 10) (by omega) (by omega), decF_lt (n := n % 10) (by omega)]
      show numGo 10 (n / 10) _ = _
      rw [numGo_one (by omega) (dgt_dec ⟨n % 10, by omega⟩) (by dsimp only; omega) (by dsimp only; omega)]
      congr 1
      dsimp only; omega
theorem decF_ne (n : Nat) : decF n ≠ [] := by
  rw [decF]; split <;> simp
theorem decF_zero (n : Nat) (h : (decF n)[0]? = some 48) : n = 0 := by
  induction n using Nat.strongRecOn with
  | _ n ih =>
    by_cases hn : n < 10
    · rw [decF_lt hn] at h
      have : ∀ k : Fin 10, [UInt8.ofNat (48 + k.val)][0]? = some 48 → k.val = 0 := by decide +kernel
      exact this ⟨n, hn⟩ h
    · rw [decF_ge hn, List.getElem?_append_left (List.length_pos_iff.2 (decF_ne _))] at h
      have := ih (n / 10) (by omega) h
      omega
theorem pre_get {l : List UInt8} (h : [48, 120].isPrefixOf l = true) : l[0]? = some 48 ∧ l[1]? = some 120 := by
  obtain ⟨t, rfl⟩ := List.isPrefixOf_iff_prefix.1 h
  exact ⟨rfl, rfl⟩
theorem numF_decF (n : Nat) (hn : n ≤ 18446744073709551615) : numF (decF n) = some n := by
  unfold numF
  have hp : ¬ ([48, 120].isPrefixOf (decF n) = true) := by
    intro h
    obtain ⟨h1, h2⟩ := pre_get h
    obtain rfl := decF_zero n h1
    rw [decF_lt (by omega)] at h2
    simp at h2
  rw [if_neg hp]
  unfold numD
  have hl := decF_len 20 n (by omega) (by omega)
  have hne := List.length_pos_iff.2 (decF_ne n)
  rw [if_neg, numGo_decF n hn]
  rintro (h | h | ⟨h1, h2⟩)
  · omega
  · omega
  · obtain rfl := decF_zero n h2
    rw [decF_lt (by omega)] at h1
    simp at h1
def hd16 (n : Nat) : UInt8 := if n < 10 then UInt8.ofNat (48 + n) else UInt8.ofNat (87 + n)
/-- the digits of a number, in base sixteen -/
def hexF (n : Nat) : List UInt8 := if n < 16 then [hd16 n] else hexF (n / 16) ++ [hd16 (n % 16)]
termination_by n
decreasing_by omega
theorem hexF_lt {n : Nat} (h : n < 16) : hexF n = [hd16 n] := by rw [hexF, if_pos h]
theorem hexF_ge {n : Nat} (h : ¬ n < 16) : hexF n = hexF (n / 16) ++ [hd16 (n % 16)] := by rw [hexF, if_neg h]
theorem dgt_hex : ∀ k : Fin 16, dgt (hd16 k.val) = k.val := by decide +kernel
theorem numGo_hexF (n : Nat) : n ≤ 18446744073709551615 → numGo 16 0 (hexF n) = some n := by
  induction n using Nat.strongRecOn with
  | _ n ih =>
    intro hn
    by_cases h : n < 16
    · rw [hexF_lt h, numGo_one (by omega) (dgt_hex ⟨n, h⟩) h (by omega)]
      simp
    · rw [hexF_ge h, numGo_app, ih (n / 16) (by omega) (by omega)]
      show numGo 16 (n / 16) _ = _
      rw [numGo_one (by omega) (dgt_hex ⟨n % 16, by omega⟩) (by dsimp only; omega) (by dsimp only; omega)]
      congr 1
      dsimp only; omega
theorem hexF_ne (n : Nat) : hexF n ≠ [] := by
  rw [hexF]; split <;> simp
theorem hexF_zero (n : Nat) (h : (hexF n)[0]? = some 48) : n = 0 := by
  induction n using Nat.strongRecOn with
  | _ n ih =>
    by_cases hn : n < 16
    · rw [hexF_lt hn] at h
      have : ∀ k : Fin 16, [hd16 k.val][0]? = some 48 → k.val = 0 := by decide +kernel
      exact this ⟨n, hn⟩ h
    · rw [hexF_ge hn, List.getElem?_append_left (List.length_pos_iff.2 (hexF_ne _))] at h
      have := ih (n / 16) (by omega) h
      omega
theorem hexF_len (k n : Nat) (hk : 0 < k) (h : n < 16 ^ k) : (hexF n).length ≤ k := by
  induction k generalizing n with
  | zero => omega
  | succ k ih =>
    by_cases hn : n < 16
    · rw [hexF_lt hn]; simp
    · rw [hexF_ge hn, List.length_append, List.length_singleton]
      rcases Nat.eq_zero_or_pos k with rfl | hk
      · simp at h; omega
      · have := ih (n / 16) hk (by rw [Nat.pow_succ] at h; omega)
        omega
theorem numF_hexF (n : Nat) (hn : n ≤ 18446744073709551615) : numF (48 :: 120 :: hexF n) = some n := by
  unfold numF
  rw [if_pos (by rfl)]
  show numD 16 (hexF n) = _
  unfold numD
  have hl := hexF_len 16 n (by omega) (by omega)
  have hne := List.length_pos_iff.2 (hexF_ne n)
  rw [if_neg, numGo_hexF n hn]
  rintro (h | h | ⟨h1, h2⟩)
  · omega
  · omega
  · obtain rfl := hexF_zero n h2
    rw [hexF_lt (by omega)] at h1
    simp at h1
theorem qB_back (c : UInt8) (r out : List UInt8) : unqGo (qB c ++ r) out = unqGo r (out ++ [c]) := by
  unfold qB
  cases hp : plB c
  · have key : ∀ c : UInt8, (37 : UInt8).toNat = 37 ∧ dgt (hxB (c.toNat / 16)) < 16 ∧ dgt (hxB (c.toNat % 16)) < 16 ∧ UInt8.ofNat (16 * dgt (hxB (c.toNat / 16)) + dgt (hxB (c.toNat % 16))) = c :=
      fin_u8 (p := fun c => (37 : UInt8).toNat = 37 ∧ dgt (hxB (c.toNat / 16)) < 16 ∧ dgt (hxB (c.toNat % 16)) < 16 ∧ UInt8.ofNat (16 * dgt (hxB (c.toNat / 16)) + dgt (hxB (c.toNat % 16))) = c) (by decide +kernel)
    obtain ⟨h37, h1, h2, h3⟩ := key c
    rw [if_neg (by decide)]
    show unqGo (37 :: hxB (c.toNat / 16) :: hxB (c.toNat % 16) :: r) out = _
    rw [unq_p _ _ _ _ _ h37, if_pos ⟨h1, h2⟩, h3]
  · rw [if_pos rfl]
    show unqGo (c :: r) out = _
    have h37 : ¬ c.toNat = 37 := by
      intro h
      unfold plB at hp
      rw [h] at hp
      simp at hp
    rw [unq_o _ _ _ h37, if_pos hp]
theorem qB_all (l out : List UInt8) : unqGo (l.flatMap qB) out = (out ++ l, 0) := by
  induction l generalizing out with
  | nil => simp [unqGo]
  | cons c r ih => rw [List.flatMap_cons, qB_back, ih, List.append_assoc]; rfl
theorem qB_ne (c : UInt8) : qB c ≠ [] := by unfold qB; split <;> simp
theorem quote_back (l : List UInt8) : unqF (quoteF l) = (l, 0) := by
  unfold quoteF
  by_cases h0 : l = []
  · rw [if_pos h0, h0]; rfl
  · rw [if_neg h0]
    by_cases h1 : l = [45]
    · rw [if_pos h1, h1]; decide +kernel
    · rw [if_neg h1]
      unfold unqF
      rw [if_neg ?_, qB_all]; rfl
      intro h
      cases l with
      | nil => exact h0 rfl
      | cons c r =>
        rw [List.flatMap_cons] at h
        cases hp : plB c
        · have hq : qB c = [37, hxB (c.toNat / 16), hxB (c.toNat % 16)] := by unfold qB; rw [hp]; rfl
          rw [hq] at h; simp at h
        · have hq : qB c = [c] := by unfold qB; rw [hp]; rfl
          rw [hq] at h
          injection h with h2 h3
          subst h2
          cases r with
          | nil => exact h1 rfl
          | cons d r =>
            have h4 : (d :: r).flatMap qB = [] := h3
            rw [List.flatMap_cons] at h4
            exact qB_ne d (List.append_eq_nil_iff.1 h4).1
/-- a line's call, and what is wrong with it -/
def lineS (p : List UInt8) : Option (CallD × Nat) := match Lib.fields (headF 35 p) with
  | [] => none
  | x :: xs => some (wdsF x xs)
theorem scrGo_cons (n : Nat) (p : List UInt8) (ps : List (List UInt8)) (out : List CallD) : scrGo n (p :: ps) out = match lineS p with
    | none => scrGo (n + 1) ps out
    | some (i, e) => if e ≠ 0 then ([], n + 1, e) else if out.length = 1024 then ([], n + 1, 205) else scrGo (n + 1) ps (out ++ [i]) := by
  rw [scrGo]
  unfold lineS
  cases Lib.fields (headF 35 p) <;> rfl
/-- bytes that words may have -/
def okB (b : UInt8) : Prop := 32 < b.toNat ∧ b.toNat < 127 ∧ b.toNat ≠ 35
instance : DecidablePred okB := fun b => by unfold okB; infer_instance
theorem okB_is {b : UInt8} (h : okB b) : Lib.isSp b = false ∧ b ≠ 10 ∧ b ≠ 35 ∧ b ≠ 32 ∧ b.toNat < 128 := by
  have : ∀ k : Fin 256, okB (UInt8.ofNat k.val) → (Lib.isSp (UInt8.ofNat k.val) = false ∧ UInt8.ofNat k.val ≠ 10 ∧ UInt8.ofNat k.val ≠ 35 ∧ UInt8.ofNat k.val ≠ 32 ∧ (UInt8.ofNat k.val).toNat < 128) := by decide +kernel
  have h2 := this ⟨b.toNat, b.toNat_lt⟩
  dsimp only at h2
  rw [UInt8.ofNat_toNat] at h2
  exact h2 h
theorem decF_okB (n : Nat) : ∀ b ∈ decF n, okB b ∧ b ≠ 33 := by
  induction n using Nat.strongRecOn with
  | _ n ih =>
    intro b hb
    have hd : ∀ k : Fin 10, okB (UInt8.ofNat (48 + k.val)) ∧ UInt8.ofNat (48 + k.val) ≠ 33 := by decide +kernel
    by_cases h : n < 10
    · rw [decF_lt h] at hb
      rw [List.mem_singleton.1 hb]
      exact hd ⟨n, h⟩
    · rw [decF_ge h] at hb
      rcases List.mem_append.1 hb with hb | hb
      · exact ih (n / 10) (by omega) b hb
      · exact ih (n % 10) (by omega) b hb
theorem qB_okB (c : UInt8) : ∀ b ∈ qB c, okB b := by
  have key : ∀ c : UInt8, ((qB c).all fun b => decide (okB b)) = true := fin_u8 (p := fun c => ((qB c).all fun b => decide (okB b)) = true) (by decide +kernel)
  intro b hb
  exact of_decide_eq_true (List.all_eq_true.1 (key c) b hb)
def okW (w : List UInt8) : Prop := w ≠ [] ∧ ∀ b ∈ w, okB b
theorem okW_dec (n : Nat) : okW (decF n) := ⟨decF_ne _, fun b hb => (decF_okB n b hb).1⟩
theorem okW_quote (l : List UInt8) : okW (quoteF l) := by
  unfold quoteF
  split
  · exact ⟨by simp, by decide +kernel⟩
  · split
    · exact ⟨by simp, by decide +kernel⟩
    · rename_i h0 h1
      refine ⟨?_, fun b hb => ?_⟩
      · cases l with
        | nil => exact absurd rfl h0
        | cons c r =>
          rw [List.flatMap_cons]
          intro h
          exact qB_ne c (List.append_eq_nil_iff.1 h).1
      · obtain ⟨c, _, hb⟩ := List.mem_flatMap.1 hb
        exact qB_okB c b hb
/-- words with a blank between -/
def spc (x : List UInt8) (xs : List (List UInt8)) : List UInt8 := x ++ xs.flatMap fun y => 32 :: y
theorem fieldsGo_spc (cur : List UInt8) (hc : cur ≠ []) (xs : List (List UInt8)) (hx : ∀ y ∈ xs, okW y) : Lib.fieldsGo cur (xs.flatMap fun y => 32 :: y) = cur :: xs := by
  induction xs generalizing cur with
  | nil =>
    rw [List.flatMap_nil, Lib.fieldsGo, if_neg (by simpa using hc)]
  | cons y r ih =>
    have hy := hx y (List.mem_cons_self ..)
    rw [List.flatMap_cons, List.cons_append, Lib.fieldsGo_end cur 32 _ (by decide) hc, fieldsGo_word y [] _ (fun b hb => (okB_is (hy.2 b hb)).1), List.nil_append, ih y hy.1 (fun z hz => hx z (List.mem_cons_of_mem _ hz))]
theorem fields_spc {x : List UInt8} {xs : List (List UInt8)} (hx : okW x) (hxs : ∀ y ∈ xs, okW y) : Lib.fields (spc x xs) = x :: xs := by
  unfold Lib.fields spc
  rw [fieldsGo_word x [] _ (fun b hb => (okB_is (hx.2 b hb)).1), List.nil_append, fieldsGo_spc x hx.1 xs hxs]
theorem spc_mem {x : List UInt8} {xs : List (List UInt8)} (hx : okW x) (hxs : ∀ y ∈ xs, okW y) {b : UInt8} (hb : b ∈ spc x xs) : b ≠ 10 ∧ b ≠ 35 ∧ b.toNat < 128 := by
  have h1 : okB b → b ≠ 10 ∧ b ≠ 35 ∧ b.toNat < 128 := fun h => by have := okB_is h; exact ⟨this.2.1, this.2.2.1, this.2.2.2.2⟩
  unfold spc at hb
  rcases List.mem_append.1 hb with hb | hb
  · exact h1 (hx.2 b hb)
  · obtain ⟨y, hy, hb⟩ := List.mem_flatMap.1 hb
    rcases List.mem_cons.1 hb with rfl | hb
    · decide
    · exact h1 ((hxs y hy).2 b hb)
/-- a line is read as its call -/
structure LnOk (t : List UInt8) (i : CallD) : Prop where
  line : lineS t = some (i, 0)
  ten : (10 : UInt8) ∉ t
  asc : ∀ b ∈ t, b.toNat < 128
theorem ln_of {x : List UInt8} {xs : List (List UInt8)} {i : CallD} (hx : okW x) (hxs : ∀ y ∈ xs, okW y) (hp : wdsF x xs = (i, 0)) : LnOk (spc x xs) i := by
  have hm := fun {b} => spc_mem (b := b) hx hxs
  refine ⟨?_, fun h => (hm h).1 rfl, fun b h => (hm h).2.2⟩
  have hh : headF 35 (spc x xs) = spc x xs := by
    unfold headF
    rw [ix_none (List.count_eq_zero.2 fun h => (hm h).2.1 rfl)]; rfl
  unfold lineS
  rw [hh, fields_spc hx hxs]
  dsimp only
  rw [hp]
/-- whose it is -/
def whoF (w : Nat) (f : Bool) : List UInt8 := decF w ++ if f = true then [33] else []
theorem who_ok (w : Nat) (f : Bool) : okW (whoF w f) := by
  refine ⟨fun h => decF_ne w (List.append_eq_nil_iff.1 h).1, fun b hb => ?_⟩
  rcases List.mem_append.1 hb with hb | hb
  · exact (decF_okB w b hb).1
  · cases f
    · cases hb
    · rw [List.mem_singleton.1 hb]; decide
theorem who_bang (w : Nat) (f : Bool) : bangF (whoF w f) = f := by
  unfold bangF whoF
  cases f
  · rw [if_neg (by decide), List.append_nil]
    cases h : (decF w).getLast? with
    | none => rfl
    | some b =>
      have := (decF_okB w b (List.mem_of_getLast? h)).2
      simp [this]
  · rw [if_pos rfl, List.getLast?_append]; rfl
theorem who_trim (w : Nat) (f : Bool) : trimF (whoF w f) = decF w := by
  unfold trimF
  rw [who_bang]
  unfold whoF
  cases f
  · rw [if_neg (by decide), if_neg (by decide), List.append_nil]
  · rw [if_pos rfl, if_pos rfl, List.dropLast_append_of_ne_nil (by simp)]; simp
theorem names_ok : clls.map (fun m => nameF (mB8 (lB m.name)) clls) = clls.map some := by kernel_rfl
theorem names_w : (clls.all fun m => !(lB m.name).isEmpty && (lB m.name).all (fun b => decide (okB b)) && decide ((lB m.name).length ≤ 14)) = true := by kernel_rfl
theorem name_w {m : Cll} (h : m ∈ clls) : okW (lB m.name) ∧ (lB m.name).length ≤ 14 := by
  have h2 := List.all_eq_true.1 names_w m h
  simp only [Bool.and_eq_true, Bool.not_eq_true', List.all_eq_true, decide_eq_true_eq] at h2
  exact ⟨⟨fun e => by rw [e] at h2; exact absurd h2.1.1 (by decide), h2.1.2⟩, h2.2⟩
def CallD.txt (c : CallD) (i : Nat) : ByteArray := if i = 0 then c.t0 else c.t1
def CallD.nm (c : CallD) (i : Nat) : Nat := (if i = 0 then c.n0 else c.n1).toNat
def argT (c : CallD) (i : Nat) : List UInt8 := if tsel (clsT c.num) i = true then quoteF (lB (c.txt i)) else decF (c.nm i)
def argsT (c : CallD) (k : Nat) : List (List UInt8) := (List.range k).map (argT c)
theorem argT_ok (c : CallD) (i : Nat) : okW (argT c i) := by
  unfold argT
  split
  · exact okW_quote _
  · exact okW_dec _
theorem argsT_ok (c : CallD) (k : Nat) : ∀ y ∈ argsT c k, okW y := by
  intro y hy
  obtain ⟨i, _, rfl⟩ := List.mem_map.1 hy
  exact argT_ok c i
def lineC (c : CallD) (m : Cll) : List UInt8 := spc (whoF c.task.toNat c.frn) (lB m.name :: argsT c m.args.toNat)
/-- a call with what its bytes say alone -/
structure BareC (c : CallD) (m : Cll) : Prop where
  nu : cnumF c.num clls = some m
  task : 0 ≤ c.task ∧ c.task ≤ 127
  n0 : 0 ≤ c.n0 ∧ c.n0 < 18446744073709551616
  n1 : 0 ≤ c.n1 ∧ c.n1 < 18446744073709551616
  t0 : c.t0.size ≤ 128
  t1 : c.t1.size ≤ 128
  z0 : (tsel (clsT c.num) (0 : Nat) = true ∨ m.args.toNat = 0) → c.n0 = 0
  z1 : (tsel (clsT c.num) (1 : Nat) = true ∨ m.args.toNat ≤ 1) → c.n1 = 0
  y0 : (tsel (clsT c.num) (0 : Nat) = false ∨ m.args.toNat = 0) → c.t0 = ⟨#[]⟩
  y1 : (tsel (clsT c.num) (1 : Nat) = false ∨ m.args.toNat ≤ 1) → c.t1 = ⟨#[]⟩
theorem argF_txt {d : CallD} {i : Nat} {t : ByteArray} (h : tsel (clsT d.num) i = true) (hs : t.size ≤ 128) : argF d i (quoteF (lB t)) = (d.setT i t, 0) := by
  unfold argF
  rw [if_pos h, quote_back]
  dsimp only
  rw [if_neg (fun h => h rfl), if_neg (by rw [lB_len]; omega), mB8_lB]
theorem argF_num2 {d : CallD} {i n : Nat} (h : tsel (clsT d.num) i = false) (hs : n ≤ 18446744073709551615) : argF d i (decF n) = (d.setN i n, 0) := by
  unfold argF
  rw [h, if_neg (by decide), numF_decF n hs]
theorem args_step {d d' : CallD} {i : Nat} {t : List UInt8} {r : List (List UInt8)} (h : argF d i t = (d', 0)) : argsGo d i (t :: r) = argsGo d' (i + 1) r := by
  rw [argsGo, h]
  exact if_neg (fun h => h rfl)
theorem argT_txt {c : CallD} {i : Nat} {t : ByteArray} (h : tsel (clsT c.num) i = true) (ht : c.txt i = t) : argT c i = quoteF (lB t) := by rw [← ht]; exact if_pos h
theorem argT_num {c : CallD} {i n : Nat} (h : tsel (clsT c.num) i = false) (hn : c.nm i = n) : argT c i = decF n := by rw [← hn]; exact if_neg (by rw [h]; decide)
theorem args_ok (c : CallD) (m : Cll) (hc : BareC c m) : argsGo ⟨c.task, c.frn, c.num, 0, 0, ⟨#[]⟩, ⟨#[]⟩⟩ 0 (argsT c m.args.toNat) = (c, 0) := by
  obtain ⟨nu, _, n0, n1, t0, t1, z0, z1, y0, y1⟩ := hc
  have hr := (clls_rng m (cnumF_mem nu).1)
  have hA : m.args.toNat = 0 ∨ m.args.toNat = 1 ∨ m.args.toNat = 2 := by omega
  clear nu
  obtain ⟨ct, cf, cn, c0, c1, u0, u1⟩ := c
  dsimp only at n0 n1 t0 t1 z0 z1 y0 y1 ⊢
  have e0 : ((c0.toNat : Nat) : Int) = c0 := Int.toNat_of_nonneg n0.1
  have e1 : ((c1.toNat : Nat) : Int) = c1 := Int.toNat_of_nonneg n1.1
  rcases hA with hA | hA | hA
  · rw [hA]
    obtain rfl := z0 (.inr hA)
    obtain rfl := z1 (.inr (by omega))
    obtain rfl := y0 (.inr hA)
    obtain rfl := y1 (.inr (by omega))
    rfl
  · rw [hA]
    obtain rfl := z1 (.inr (by omega))
    obtain rfl := y1 (.inr (by omega))
    show argsGo _ 0 [argT _ 0] = _
    cases hb : tsel (clsT cn) (0 : Nat)
    · obtain rfl := y0 (.inl hb)
      rw [argT_num (n := c0.toNat) hb rfl, args_step (argF_num2 hb (by omega))]
      show (CallD.mk ct cf cn ((c0.toNat : Nat) : Int) 0 ⟨#[]⟩ ⟨#[]⟩, 0) = _
      rw [e0]
    · obtain rfl := z0 (.inl hb)
      rw [argT_txt (t := u0) hb rfl, args_step (argF_txt hb t0)]; rfl
  · rw [hA]
    show argsGo _ 0 [argT _ 0, argT _ 1] = _
    cases hb : tsel (clsT cn) (0 : Nat)
    · obtain rfl := y0 (.inl hb)
      rw [argT_num (n := c0.toNat) hb rfl, args_step (argF_num2 hb (by omega))]
      show argsGo (CallD.mk ct cf cn ((c0.toNat : Nat) : Int) 0 ⟨#[]⟩ ⟨#[]⟩) 1 _ = _
      rw [e0]
      cases hb1 : tsel (clsT cn) (1 : Nat)
      · obtain rfl := y1 (.inl hb1)
        rw [argT_num (n := c1.toNat) hb1 rfl, args_step (argF_num2 hb1 (by omega))]
        show (CallD.mk ct cf cn c0 ((c1.toNat : Nat) : Int) ⟨#[]⟩ ⟨#[]⟩, 0) = _
        rw [e1]
      · obtain rfl := z1 (.inl hb1)
        rw [argT_txt (t := u1) hb1 rfl, args_step (argF_txt hb1 t1)]; rfl
    · obtain rfl := z0 (.inl hb)
      rw [argT_txt (t := u0) hb rfl, args_step (argF_txt hb t0)]
      show argsGo (CallD.mk ct cf cn 0 0 u0 ⟨#[]⟩) 1 _ = _
      cases hb1 : tsel (clsT cn) (1 : Nat)
      · obtain rfl := y1 (.inl hb1)
        rw [argT_num (n := c1.toNat) hb1 rfl, args_step (argF_num2 hb1 (by omega))]
        show (CallD.mk ct cf cn 0 ((c1.toNat : Nat) : Int) u0 ⟨#[]⟩, 0) = _
        rw [e1]
      · obtain rfl := z1 (.inl hb1)
        rw [argT_txt (t := u1) hb1 rfl, args_step (argF_txt hb1 t1)]; rfl
theorem lineC_ok (c : CallD) (m : Cll) (hc : BareC c m) : LnOk (lineC c m) c := by
  have hmm := cnumF_mem hc.nu
  have hr := clls_rng m hmm.1
  refine ln_of (who_ok _ _) (fun y hy => ?_) ?_
  · rcases List.mem_cons.1 hy with rfl | hy
    · exact (name_w hmm.1).1
    · exact argsT_ok c _ y hy
  · unfold wdsF
    rw [who_trim, numF_decF _ (by have := hc.task; omega)]
    dsimp only
    have h127 : ¬ 127 < c.task.toNat := by have := hc.task; omega
    have hnm : nameF (mB8 (lB m.name)) clls = some m := map_at (f := fun m => nameF (mB8 (lB m.name)) clls) (g := some) names_ok hmm.1
    rw [if_neg h127, hnm]
    dsimp only
    have hlen : ((argsT c m.args.toNat).length : Int) = m.args := by
      unfold argsT
      rw [List.length_map, List.length_range]
      exact Int.toNat_of_nonneg hr.2.2.1
    rw [if_neg (fun h => h hlen), who_bang, hmm.2, Int.toNat_of_nonneg hc.task.1]
    exact args_ok c m hc
/-- a call's line; none: there is no such call -/
def lnO (c : CallD) : Option (List UInt8) := (cnumF c.num clls).map (lineC c)
def textC (l : List CallD) : List UInt8 := (l.filterMap lnO).flatMap fun t => t ++ [10]
/-- calls that are bare -/
def OkC (c : CallD) : Prop := ∀ m, cnumF c.num clls = some m → BareC c m
def isC (c : CallD) : Bool := (cnumF c.num clls).isSome
theorem lnO_is (c : CallD) : (lnO c).isSome = isC c := by unfold lnO isC; rw [Option.isSome_map]
def lnX : Option (List UInt8) → List UInt8
  | none => []
  | some t => t ++ [10]
theorem textC_snoc (l : List CallD) (c : CallD) : textC (l ++ [c]) = textC l ++ lnX (lnO c) := by
  unfold textC
  rw [List.filterMap_append, List.flatMap_append]
  cases h : lnO c with
  | none => simp [h, lnX]
  | some t => simp [h, lnX]
theorem textC_want (l : List CallD) : textC (l.filter isC) = textC l := by
  unfold textC
  congr 1
  induction l with
  | nil => rfl
  | cons c r ih =>
    rw [List.filter_cons]
    cases h : isC c
    · have : lnO c = none := by rw [← Option.not_isSome_iff_eq_none, lnO_is, h]; decide
      rw [if_neg (by decide), ih, List.filterMap_cons_none this]
    · rw [if_pos rfl, List.filterMap_cons, List.filterMap_cons, ih]
theorem text_ok (l : List CallD) (hl : ∀ c ∈ l, OkC c) : ∀ t ∈ l.filterMap lnO, (10 : UInt8) ∉ t ∧ ∀ b ∈ t, b.toNat < 128 := by
  intro t ht
  obtain ⟨c, hc, h⟩ := List.mem_filterMap.1 ht
  unfold lnO at h
  obtain ⟨m, hm, rfl⟩ := Option.map_eq_some_iff.1 h
  have := lineC_ok c m (hl c hc m hm)
  exact ⟨this.ten, this.asc⟩
theorem textC_asc (l : List CallD) (hl : ∀ c ∈ l, OkC c) : ∀ b ∈ textC l, b.toNat < 128 := by
  intro b hb
  obtain ⟨t, ht, hb⟩ := List.mem_flatMap.1 hb
  rcases List.mem_append.1 hb with hb | hb
  · exact (text_ok l hl t ht).2 b hb
  · rw [List.mem_singleton.1 hb]; decide
theorem scr_lines (l : List CallD) (hl : ∀ c ∈ l, OkC c) (n : Nat) (rest : List (List UInt8)) (out : List CallD) (hlen : out.length + l.length ≤ 1024) : scrGo n (l.filterMap lnO ++ rest) out = scrGo (n + (l.filter isC).length) rest (out ++ l.filter isC) := by
  induction l generalizing n out with
  | nil => simp
  | cons c r ih =>
    have hr := fun d hd => hl d (List.mem_cons_of_mem c hd)
    rw [List.length_cons] at hlen
    cases hm : cnumF c.num clls with
    | none =>
      have h1 : lnO c = none := by unfold lnO; rw [hm]; rfl
      have h2 : isC c = false := by unfold isC; rw [hm]; rfl
      rw [List.filterMap_cons_none h1, List.filter_cons, h2, if_neg (by decide), ih hr _ _ (by omega)]
    | some m =>
      have h1 : lnO c = some (lineC c m) := by unfold lnO; rw [hm]; rfl
      have h2 : isC c = true := by unfold isC; rw [hm]; rfl
      rw [List.filterMap_cons_some h1, List.filter_cons, h2, if_pos rfl, List.cons_append, scrGo_cons, (lineC_ok c m (hl c (List.mem_cons_self ..) m hm)).line]
      dsimp only
      rw [if_neg (fun h => h rfl), if_neg (by omega), ih hr _ _ (by rw [List.length_append, List.length_singleton]; omega), List.length_cons, List.append_assoc, show n + 1 + (r.filter isC).length = n + ((r.filter isC).length + 1) by omega]; rfl
theorem text_scr (l : List CallD) (hl : ∀ c ∈ l, OkC c) (hlen : l.length ≤ 1024) : scrF (textC l) = (l.filter isC, 0, 0) := by
  unfold scrF
  have h := splitC_lines (l.filterMap lnO) (fun t ht => (text_ok l hl t ht).1) []
  rw [List.append_nil] at h
  show scrGo 0 (splitC 10 (textC l)) [] = _
  rw [show textC l = (l.filterMap lnO).flatMap (fun t => t ++ [10]) from rfl, h, scr_lines l hl 0 _ [] (by simp; exact hlen), List.nil_append]
  have hno : lineS [] = none := by kernel_rfl
  rw [show splitC 10 [] = [[]] from rfl, scrGo_cons, hno]
  dsimp only
  rw [scrGo]
theorem argT_len (c : CallD) (m : Cll) (hc : BareC c m) (i : Nat) : (argT c i).length ≤ 385 := by
  unfold argT
  split
  · have := quoteF_len (lB (c.txt i))
    have hl := lB_len (c.txt i)
    have : (c.txt i).size ≤ 128 := by unfold CallD.txt; split; exact hc.t0; exact hc.t1
    omega
  · have : c.nm i < 10 ^ 20 := by
      unfold CallD.nm
      have := hc.n0
      have := hc.n1
      split <;> omega
    have := decF_len 20 (c.nm i) (by omega) this
    omega
theorem lineC_len (c : CallD) (m : Cll) (hc : BareC c m) : (lineC c m).length ≤ 800 := by
  have hr := clls_rng m (cnumF_mem hc.nu).1
  have hn := (name_w (cnumF_mem hc.nu).1).2
  have ha := argT_len c m hc
  have ht : (whoF c.task.toNat c.frn).length ≤ 4 := by
    unfold whoF
    have := decF_len 3 c.task.toNat (by omega) (by have := hc.task; omega)
    rw [List.length_append]
    split <;> simp <;> omega
  unfold lineC spc argsT
  have hA : m.args.toNat = 0 ∨ m.args.toNat = 1 ∨ m.args.toNat = 2 := by omega
  have h0 := ha 0
  have h1 := ha 1
  rcases hA with hA | hA | hA
  all_goals
    rw [hA]
    simp only [List.range_zero, List.range_succ, List.map_nil, List.map_cons, List.nil_append, List.cons_append, List.flatMap_cons, List.flatMap_nil, List.length_append, List.length_cons, List.length_nil]
    omega
theorem textC_len (l : List CallD) (hl : ∀ c ∈ l, OkC c) : (textC l).length ≤ 801 * l.length := by
  induction l with
  | nil => exact Nat.le_refl _
  | cons c r ih =>
    have hr := ih fun d hd => hl d (List.mem_cons_of_mem c hd)
    have e : textC (c :: r) = textC [c] ++ textC r := by unfold textC; rw [← List.flatMap_append, ← List.filterMap_append]; rfl
    have e2 := textC_snoc [] c
    rw [List.nil_append] at e2
    rw [e, List.length_append, List.length_cons, e2]
    have h0 : textC [] = [] := rfl
    rw [h0, List.nil_append]
    cases hm : cnumF c.num clls with
    | none =>
      have h1 : lnO c = none := by unfold lnO; rw [hm]; rfl
      rw [h1]
      simp only [lnX, List.length_nil]
      omega
    | some m =>
      have h1 : lnO c = some (lineC c m) := by unfold lnO; rw [hm]; rfl
      have := lineC_len c m (hl c (List.mem_cons_self ..) m hm)
      rw [h1]
      simp only [lnX, List.length_append, List.length_singleton]
      omega
end Go.Proofs.YtpdnigifoaoflaaDoor
