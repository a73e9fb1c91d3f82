/- Raw calls: what bytes say, read back. Plain. -/
import Derived.Test.YtlfoiemjjalnlaaEncP
import Derived.Test.YtlfoiemjjalnlaaBarN
namespace Go.Proofs.Ytlfoiemjjalnlaa
open Go Go.RowKit
def CallD.setN (c : CallD) (i : Nat) (v : Int) : CallD := if i = 0 then ⟨c.task, c.frn, c.num, v, c.n1, c.t0, c.t1⟩ else ⟨c.task, c.frn, c.num, c.n0, v, c.t0, c.t1⟩
def CallD.setT (c : CallD) (i : Nat) (v : ByteArray) : CallD := if i = 0 then ⟨c.task, c.frn, c.num, c.n0, c.n1, v, c.t1⟩ else ⟨c.task, c.frn, c.num, c.n0, c.n1, c.t0, v⟩
/-- an argument out of bytes; how many they are -/
def nxtArg (cl i : Nat) (c : CallD) (r : List Int) : Option (CallD × Nat) :=
  if tsel cl i = true then
    (match r with
     | [] => none
     | y :: r' => if 128 < y ∨ (r'.length : Int) < y then none else some (c.setT i (strOfNums (r'.take y.toNat)), 1 + y.toNat))
  else if r.length < 8 then none else some (c.setN i (leN (r.take 8)), 8)
def nxtGo (cl : Nat) : Nat → Nat → List Int → CallD → Nat → Option (CallD × Nat)
  | 0, _, _, c, o => some (c, o)
  | k + 1, i, r, c, o => match nxtArg cl i c r with
    | none => none
    | some (c', n) => nxtGo cl k (i + 1) (r.drop n) c' (o + n)
def nxt0 (bs : List Int) : CallD := ⟨iand (bs.getD 0 0) 127, decide (127 < bs.getD 0 0), leN ((bs.drop 1).take 4), 0, 0, ⟨#[]⟩, ⟨#[]⟩⟩
/-- the first call of some bytes; how many they are -/
def nextF (bs : List Int) : Option (CallD × Nat) :=
  if bs.length < 5 then none else match numF (nxt0 bs).num clls with
    | none => some (nxt0 bs, 5)
    | some m => nxtGo (clsT (nxt0 bs).num) m.args.toNat 0 (bs.drop 5) (nxt0 bs) 5
theorem nxtArg_pos {cl i : Nat} {c c' : CallD} {r : List Int} {n : Nat} (h : nxtArg cl i c r = some (c', n)) : 1 ≤ n := by
  unfold nxtArg at h
  split at h
  · split at h
    · cases h
    · split at h
      · cases h
      · injection h with h; injection h with h1 h2; omega
  · split at h
    · cases h
    · injection h with h; injection h with h1 h2; omega
theorem nxtGo_ge {cl k i : Nat} {r : List Int} {c c' : CallD} {o n : Nat} (h : nxtGo cl k i r c o = some (c', n)) : o ≤ n := by
  induction k generalizing i r c o with
  | zero => injection h with h; injection h with h1 h2; omega
  | succ k ih =>
    rw [nxtGo] at h
    split at h
    · cases h
    · rename_i c2 n2 h2
      have := ih h
      omega
theorem nextF_ge {bs : List Int} {c : CallD} {n : Nat} (h : nextF bs = some (c, n)) : 5 ≤ n := by
  unfold nextF at h
  split at h
  · cases h
  · split at h
    · injection h with h; injection h with h1 h2; omega
    · exact nxtGo_ge h
/-- bytes as calls, up to the first that is none -/
def scrB : Nat → List Int → List CallD × Bool
  | 0, bs => ([], bs.isEmpty)
  | f + 1, bs => if bs = [] then ([], true) else match nextF bs with
    | none => ([], false)
    | some (c, n) => (c :: (scrB f (bs.drop n)).1, (scrB f (bs.drop n)).2)
theorem scrB_nil (f : Nat) : scrB f [] = ([], true) := by cases f <;> rfl
def txtA (c : CallD) (i : Nat) : ByteArray := if i = 0 then c.t0 else c.t1
def numA (c : CallD) (i : Nat) : Int := if i = 0 then c.n0 else c.n1
theorem son_bI (s : ByteArray) : strOfNums (bI s) = s := by
  cases s with
  | mk d =>
    unfold strOfNums bI
    congr 1
    apply Array.ext'
    simp [Function.comp_def]
theorem leN_leB (k : Nat) (n : Int) (h : 0 ≤ n ∧ n < 256 ^ k) : leN (leB k n) = n := by
  induction k generalizing n with
  | zero => simp at h; simp [leB, leN]; omega
  | succ k ih =>
    rw [leB, leN, ih (n / 256) (by rw [Int.pow_succ] at h; omega)]
    omega
theorem arg_enc (cl i : Nat) (c d : CallD) (rest : List Int) (hn : 0 ≤ numA d i ∧ numA d i < 18446744073709551616) (ht : tsel cl i = true → (txtA d i).size ≤ 128) :
    nxtArg cl i c (encArg cl d i ++ rest) = some (if tsel cl i = true then c.setT i (txtA d i) else c.setN i (numA d i), (encArg cl d i).length) := by
  unfold nxtArg encArg
  by_cases hs : tsel cl i = true
  · have hz := ht hs
    rw [if_pos hs, if_pos hs, if_pos hs]
    show (if 128 < ((txtA d i).size : Int) ∨ ((bI (txtA d i) ++ rest).length : Int) < ((txtA d i).size : Int) then none else some (c.setT i (strOfNums ((bI (txtA d i) ++ rest).take ((txtA d i).size : Int).toNat)), 1 + ((txtA d i).size : Int).toNat)) = some (c.setT i (txtA d i), (((txtA d i).size : Int) :: bI (txtA d i)).length)
    have hl := bI_len (txtA d i)
    rw [if_neg (by rw [List.length_append, hl]; omega), Int.toNat_natCast, ← hl, List.take_left, son_bI, List.length_cons, Nat.add_comm]
  · rw [if_neg hs, if_neg hs, if_neg hs]
    show (if (leB 8 (numA d i) ++ rest).length < 8 then none else some (c.setN i (leN ((leB 8 (numA d i) ++ rest).take 8)), 8)) = some (c.setN i (numA d i), (leB 8 (numA d i)).length)
    have h8 := leB_len 8 (numA d i)
    have e8 : (leB 8 (numA d i) ++ rest).take 8 = leB 8 (numA d i) := by
      have h9 := List.take_left (l₁ := leB 8 (numA d i)) (l₂ := rest)
      rwa [h8] at h9
    rw [if_neg (by rw [List.length_append]; omega), e8, leN_leB 8 _ (by simpa using hn), h8]
theorem arg_cut (cl i : Nat) (c d : CallD) (k : Nat) (hk : k < (encArg cl d i).length) : nxtArg cl i c ((encArg cl d i).take k) = none := by
  unfold nxtArg
  by_cases hs : tsel cl i = true
  · have e : encArg cl d i = ((txtA d i).size : Int) :: bI (txtA d i) := by unfold encArg; rw [if_pos hs]; rfl
    rw [e] at hk ⊢
    rw [if_pos hs]
    cases k with
    | zero => rfl
    | succ k =>
      rw [List.take_succ_cons]
      dsimp only
      rw [List.length_cons, bI_len] at hk
      rw [if_pos]
      right
      rw [List.length_take, bI_len]
      omega
  · have e : encArg cl d i = leB 8 (numA d i) := by unfold encArg; rw [if_neg hs]; rfl
    rw [e] at hk ⊢
    rw [leB_len] at hk
    rw [if_neg hs, if_pos (by rw [List.length_take]; omega)]
theorem next_hdr (d : CallD) (R : List Int) (h : 0 ≤ d.task ∧ d.task ≤ 127) (hn : 0 ≤ d.num ∧ d.num < 65536) : nxt0 (hdr d ++ R) = ⟨d.task, d.frn, d.num, 0, 0, ⟨#[]⟩, ⟨#[]⟩⟩ ∧ ¬ (hdr d ++ R).length < 5 ∧ (hdr d ++ R).drop 5 = R := by
  have key : ∀ k : Fin 128, iand (k.val : Int) 127 = k.val ∧ iand ((k.val : Int) + 128) 127 = k.val := by decide +kernel
  have hk := key ⟨d.task.toNat, by omega⟩
  rw [show ((d.task.toNat : Nat) : Int) = d.task by omega] at hk
  refine ⟨?_, by simp [hdr], by simp [hdr]⟩
  unfold nxt0 hdr
  simp only [List.cons_append, List.nil_append, List.getD_cons_zero, List.drop_succ_cons, List.drop_zero, List.take_succ_cons, List.take_zero, leN]
  have e : d.num % 256 + 256 * (d.num / 256 + 256 * (0 + 256 * (0 + 256 * 0))) = d.num := by omega
  rw [e]
  cases hf : d.frn
  · simp only [Bool.false_eq_true, if_false, Int.add_zero]
    rw [hk.1, decide_eq_false (by omega)]
  · simp only [if_true]
    rw [hk.2, decide_eq_true (by omega)]
/-- a call's bytes -/
def encF (c : CallD) : List Int := match numF c.num clls with
  | none => []
  | some m => hdr c ++ encA (clsT c.num) c m.args.toNat
def badT (c : CallD) (A : Nat) : Bool := (decide (0 < A) && (tsel (clsT c.num) (0 : Nat) && decide (128 < c.t0.size))) || (decide (1 < A) && (tsel (clsT c.num) (1 : Nat) && decide (128 < c.t1.size)))
/-- a call's bytes; what is wrong -/
def entF (c : CallD) : List Int × Int := match numF c.num clls with
  | none => ([], 38)
  | some m => if 127 < c.task then ([], 204) else if badT c m.args.toNat = true then ([], 36) else (encF c, 0)
structure GoodE (c : CallD) (m : Cll) : Prop where
  nu : numF c.num clls = some m
  task : 0 ≤ c.task ∧ c.task ≤ 127
  n0 : 0 ≤ c.n0 ∧ c.n0 < 18446744073709551616
  n1 : 0 ≤ c.n1 ∧ c.n1 < 18446744073709551616
  t0 : 0 < m.args.toNat → tsel (clsT c.num) (0 : Nat) = true → c.t0.size ≤ 128
  t1 : 1 < m.args.toNat → tsel (clsT c.num) (1 : Nat) = true → c.t1.size ≤ 128
theorem good_of (c : CallD) (hc : c.ok) (h : (entF c).2 = 0) : ∃ m, GoodE c m ∧ (entF c).1 = encF c := by
  unfold entF at h ⊢
  cases hm : numF c.num clls with
  | none => rw [hm] at h; simp at h
  | some m =>
    rw [hm] at h
    dsimp only at h ⊢
    by_cases ht : 127 < c.task
    · rw [if_pos ht] at h; simp at h
    rw [if_neg ht] at h ⊢
    by_cases hb : badT c m.args.toNat = true
    · rw [if_pos hb] at h; simp at h
    rw [if_neg hb]
    refine ⟨m, ⟨hm, ⟨hc.task.1, by omega⟩, hc.n0, hc.n1, fun h1 h2 => ?_, fun h1 h2 => ?_⟩, rfl⟩
    · unfold badT at hb
      simp only [Bool.or_eq_true, Bool.and_eq_true, decide_eq_true_eq, not_or, not_and] at hb
      have := hb.1 h1 h2
      omega
    · unfold badT at hb
      simp only [Bool.or_eq_true, Bool.and_eq_true, decide_eq_true_eq, not_or, not_and] at hb
      have := hb.2 h1 h2
      omega
theorem iand_low (x : Int) (h : 0 ≤ x ∧ x ≤ 127) : iand x 127 = x := by
  have key : ∀ k : Fin 128, iand (k.val : Int) 127 = k.val := by decide +kernel
  have hk := key ⟨x.toNat, by omega⟩
  rw [show ((x.toNat : Nat) : Int) = x by omega] at hk
  exact hk
theorem t128_id (s : ByteArray) (h : s.size ≤ 128) : t128 s = s := by
  unfold t128
  have e : (min (s.size : Int) 128).toNat = s.size := by omega
  rw [e, ByteArray.extract_zero_size]
theorem encF_eq {c : CallD} {m : Cll} (h : numF c.num clls = some m) : encF c = hdr c ++ encA (clsT c.num) c m.args.toNat := by unfold encF; rw [h]
theorem bareF_eq {c : CallD} {m : Cll} (h : GoodE c m) (hA : m.args.toNat ≤ 2) : bareF c = (match m.args.toNat with
    | 0 => ⟨c.task, c.frn, c.num, 0, 0, ⟨#[]⟩, ⟨#[]⟩⟩
    | 1 => if tsel (clsT c.num) (0 : Nat) = true then (CallD.mk c.task c.frn c.num 0 0 ⟨#[]⟩ ⟨#[]⟩).setT 0 (txtA c 0) else (CallD.mk c.task c.frn c.num 0 0 ⟨#[]⟩ ⟨#[]⟩).setN 0 (numA c 0)
    | _ => if tsel (clsT c.num) (1 : Nat) = true then (if tsel (clsT c.num) (0 : Nat) = true then (CallD.mk c.task c.frn c.num 0 0 ⟨#[]⟩ ⟨#[]⟩).setT 0 (txtA c 0) else (CallD.mk c.task c.frn c.num 0 0 ⟨#[]⟩ ⟨#[]⟩).setN 0 (numA c 0)).setT 1 (txtA c 1)
        else (if tsel (clsT c.num) (0 : Nat) = true then (CallD.mk c.task c.frn c.num 0 0 ⟨#[]⟩ ⟨#[]⟩).setT 0 (txtA c 0) else (CallD.mk c.task c.frn c.num 0 0 ⟨#[]⟩ ⟨#[]⟩).setN 0 (numA c 0)).setN 1 (numA c 1)) := by
  obtain ⟨nu, tk, _, _, s0, s1⟩ := h
  unfold bareF
  rw [nu]
  dsimp only
  obtain ⟨ct, cf, cn, c0, c1, t0, t1⟩ := c
  dsimp only at tk s0 s1 ⊢
  unfold bareP
  dsimp only
  rw [iand_low ct tk]
  generalize hb0 : tsel (clsT cn) (0 : Nat) = b0 at *
  generalize hb1 : tsel (clsT cn) (1 : Nat) = b1 at *
  have hA3 : m.args.toNat = 0 ∨ m.args.toNat = 1 ∨ m.args.toNat = 2 := by omega
  rcases hA3 with e | e | e
  · rw [e]; simp
  · rw [e] at s0 ⊢
    cases b0
    · simp [CallD.setN, numA]
    · simp [CallD.setT, txtA, t128_id t0 (s0 (by omega) rfl)]
  · rw [e] at s0 s1 ⊢
    cases b0 <;> cases b1
    · simp [CallD.setN, numA]
    · simp [CallD.setN, CallD.setT, numA, txtA, t128_id t1 (s1 (by omega) rfl)]
    · simp [CallD.setN, CallD.setT, numA, txtA, t128_id t0 (s0 (by omega) rfl)]
    · simp [CallD.setT, txtA, t128_id t0 (s0 (by omega) rfl), t128_id t1 (s1 (by omega) rfl)]
theorem next_enc {c : CallD} {m : Cll} (h : GoodE c m) (rest : List Int) : nextF (encF c ++ rest) = some (bareF c, (encF c).length) := by
  have hr := clls_rng m (numF_mem h.nu).1
  have hnm := (numF_mem h.nu).2
  have hA3 : m.args.toNat = 0 ∨ m.args.toNat = 1 ∨ m.args.toNat = 2 := by omega
  rw [bareF_eq h (by omega), encF_eq h.nu, List.append_assoc]
  obtain ⟨h0, h5, hd⟩ := next_hdr c (encA (clsT c.num) c m.args.toNat ++ rest) h.task (by omega)
  unfold nextF
  rw [if_neg h5, h0, hd]
  dsimp only
  rw [h.nu]
  dsimp only
  have a0 := fun c' r ht => arg_enc (clsT c.num) 0 c' c r h.n0 ht
  have a1 := fun c' r ht => arg_enc (clsT c.num) 1 c' c r h.n1 ht
  have hl5 : (hdr c).length = 5 := rfl
  rcases hA3 with e | e | e
  · rw [e]
    show some (_, 5) = _
    simp [encA, hl5]
  · have t0 := h.t0 (by omega)
    rw [e]
    show nxtGo _ 1 0 (([] ++ encArg (clsT c.num) c 0) ++ rest) _ 5 = _
    rw [List.nil_append, nxtGo, a0 _ _ t0]
    dsimp only
    rw [nxtGo]
    simp [encA, hl5]
  · have t0 := h.t0 (by omega)
    have t1 := h.t1 (by omega)
    rw [e]
    show nxtGo _ 2 0 ((([] ++ encArg (clsT c.num) c 0) ++ encArg (clsT c.num) c 1) ++ rest) _ 5 = _
    rw [List.nil_append, List.append_assoc, nxtGo, a0 _ _ t0]
    dsimp only
    rw [List.drop_left, nxtGo, a1 _ _ t1]
    dsimp only
    rw [nxtGo]
    simp [encA, hl5, Nat.add_assoc]
theorem next_cut {c : CallD} {m : Cll} (h : GoodE c m) (k : Nat) (hk : k < (encF c).length) : nextF ((encF c).take k) = none := by
  have hr := clls_rng m (numF_mem h.nu).1
  have hnm := (numF_mem h.nu).2
  have hA3 : m.args.toNat = 0 ∨ m.args.toNat = 1 ∨ m.args.toNat = 2 := by omega
  rw [encF_eq h.nu] at hk ⊢
  have hl5 : (hdr c).length = 5 := rfl
  by_cases h5 : k < 5
  · unfold nextF
    rw [if_pos (by rw [List.length_take]; omega)]
  obtain ⟨j, rfl⟩ : ∃ j, k = 5 + j := ⟨k - 5, by omega⟩
  rw [List.length_append, hl5] at hk
  rw [← hl5, List.take_length_add_append]
  obtain ⟨h0, h5, hd⟩ := next_hdr c ((encA (clsT c.num) c m.args.toNat).take j) h.task (by omega)
  unfold nextF
  rw [if_neg h5, h0, hd]
  dsimp only
  rw [h.nu]
  dsimp only
  have a0 := fun c' r ht => arg_enc (clsT c.num) 0 c' c r h.n0 ht
  rcases hA3 with e | e | e
  · rw [e] at hk
    have e0 : encA (clsT c.num) c 0 = [] := rfl
    rw [e0, List.length_nil] at hk
    omega
  · rw [e] at hk ⊢
    have e1 : encA (clsT c.num) c 1 = encArg (clsT c.num) c 0 := by simp [encA]
    rw [e1] at hk ⊢
    rw [nxtGo, arg_cut _ _ _ _ j (by omega)]
  · have t0 := h.t0 (by omega)
    rw [e] at hk ⊢
    have e1 : encA (clsT c.num) c 2 = encArg (clsT c.num) c 0 ++ encArg (clsT c.num) c 1 := by simp [encA]
    rw [e1] at hk ⊢
    rw [List.length_append] at hk
    by_cases hj : j < (encArg (clsT c.num) c 0).length
    · rw [List.take_append_of_le_length (by omega), nxtGo, arg_cut _ _ _ _ j hj]
    · obtain ⟨i, rfl⟩ : ∃ i, j = (encArg (clsT c.num) c 0).length + i := ⟨j - (encArg (clsT c.num) c 0).length, by omega⟩
      rw [List.take_length_add_append, nxtGo, a0 _ _ t0]
      dsimp only
      rw [List.drop_left, nxtGo, arg_cut _ _ _ _ i (show i < (encArg (clsT c.num) c 1).length by omega)]
theorem encF_ne {c : CallD} {m : Cll} (h : GoodE c m) : encF c ≠ [] := by
  rw [encF_eq h.nu]; simp [hdr]
theorem scr_all (l : List CallD) (hl : ∀ c ∈ l, ∃ m, GoodE c m) (more : List Int) (hm : more.length ≤ 4) (f : Nat) (hf : (l.flatMap encF ++ more).length ≤ f) :
    scrB f (l.flatMap encF ++ more) = (l.map bareF, decide (more = [])) := by
  induction l generalizing f with
  | nil =>
    rw [List.flatMap_nil, List.nil_append] at hf ⊢
    cases more with
    | nil => rw [scrB_nil]; rfl
    | cons y r =>
      cases f with
      | zero => simp at hf
      | succ f =>
        rw [scrB, if_neg (by simp)]
        have : nextF (y :: r) = none := by unfold nextF; rw [if_pos (by omega)]
        rw [this]; rfl
  | cons c r ih =>
    obtain ⟨m, hg⟩ := hl c (List.mem_cons_self ..)
    have hne := encF_ne hg
    have hlp := List.length_pos_iff.2 hne
    rw [List.flatMap_cons, List.append_assoc] at hf ⊢
    rw [List.length_append] at hf
    cases f with
    | zero => omega
    | succ f =>
      rw [scrB, if_neg (by simp [hne]), next_enc hg]
      dsimp only
      rw [List.drop_left, ih (fun d hd => hl d (List.mem_cons_of_mem _ hd)) f (by omega)]; rfl
/-- where calls end -/
def endsF (o : Nat) : List CallD → List Nat
  | [] => []
  | c :: r => (o + (encF c).length) :: endsF (o + (encF c).length) r
theorem endsF_ge (o : Nat) (l : List CallD) : ∀ x ∈ endsF o l, o ≤ x := by
  induction l generalizing o with
  | nil => intro x hx; cases hx
  | cons c r ih =>
    intro x hx
    rcases List.mem_cons.1 hx with rfl | hx
    · omega
    · have := ih _ x hx; omega
theorem scr_cut (l : List CallD) (hl : ∀ c ∈ l, ∃ m, GoodE c m) (o k f : Nat) (hf : k ≤ f) (hk : k ≤ (l.flatMap encF).length) :
    scrB f ((l.flatMap encF).take k) = ((l.map bareF).take ((endsF o l).countP (fun x => decide (x ≤ o + k))), decide (k = 0) || (endsF o l).any (fun x => decide (x = o + k))) := by
  induction l generalizing o k f with
  | nil =>
    rw [List.flatMap_nil, List.length_nil] at hk
    obtain rfl : k = 0 := by omega
    rw [List.flatMap_nil, List.take_nil, scrB_nil]; rfl
  | cons c r ih =>
    obtain ⟨m, hg⟩ := hl c (List.mem_cons_self ..)
    have hne := encF_ne hg
    have hlp := List.length_pos_iff.2 hne
    have hr := fun d hd => hl d (List.mem_cons_of_mem c hd)
    rw [List.flatMap_cons, List.length_append] at hk
    rw [List.flatMap_cons]
    by_cases h0 : k = 0
    · subst h0
      have hc0 : (endsF o (c :: r)).countP (fun x => decide (x ≤ o + 0)) = 0 := by
        rw [List.countP_eq_zero]
        intro x hx
        rw [decide_eq_true_eq]
        rcases List.mem_cons.1 hx with rfl | hx
        · omega
        · have := endsF_ge _ _ x hx; omega
      rw [List.take_zero, scrB_nil, hc0]; rfl
    · cases f with
      | zero => omega
      | succ f =>
        by_cases hlt : k < (encF c).length
        · have hc0 : (endsF o (c :: r)).countP (fun x => decide (x ≤ o + k)) = 0 := by
            rw [List.countP_eq_zero]
            intro x hx
            rw [decide_eq_true_eq]
            rcases List.mem_cons.1 hx with rfl | hx
            · omega
            · have := endsF_ge _ _ x hx; omega
          have ha : (endsF o (c :: r)).any (fun x => decide (x = o + k)) = false := by
            rw [List.any_eq_false]
            intro x hx
            rw [decide_eq_true_eq]
            rcases List.mem_cons.1 hx with rfl | hx
            · omega
            · have := endsF_ge _ _ x hx; omega
          have hne2 : (encF c).take k ≠ [] := by
            intro h
            have := congrArg List.length h
            rw [List.length_take, List.length_nil] at this
            omega
          rw [List.take_append_of_le_length (by omega), scrB, if_neg hne2, next_cut hg k hlt, hc0, ha, decide_eq_false h0]; rfl
        · obtain ⟨j, rfl⟩ : ∃ j, k = (encF c).length + j := ⟨k - (encF c).length, by omega⟩
          have hi := ih hr (o + (encF c).length) j f (by omega) (by omega)
          rw [List.take_length_add_append, scrB, if_neg (by simp [hne]), next_enc hg]
          dsimp only
          rw [List.drop_left, hi, endsF, List.countP_cons_of_pos (by rw [decide_eq_true_eq]; omega), List.any_cons, decide_eq_false h0, List.map_cons, List.take_succ_cons, Nat.add_assoc]
          have e1 : decide ((encF c).length + o = o + ((encF c).length + j)) = decide (j = 0) := by
            rcases Nat.eq_zero_or_pos j with rfl | hj
            · simp [Nat.add_comm]
            · rw [decide_eq_false (by omega), decide_eq_false (by omega)]
          have e2 : decide (o + (encF c).length = o + ((encF c).length + j)) = decide (j = 0) := by rw [← e1, Nat.add_comm]
          rw [e2]; rfl
end Go.Proofs.Ytlfoiemjjalnlaa
