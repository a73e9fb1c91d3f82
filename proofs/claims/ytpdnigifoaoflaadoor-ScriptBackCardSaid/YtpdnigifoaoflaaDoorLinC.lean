/- A call as a line: script.Line computes lnO. -/
import Derived.Test.YtpdnigifoaoflaaDoorBakS
namespace Go.Proofs.YtpdnigifoaoflaaDoor
open Go Go.RowKit
def lnV (o : Option (List UInt8)) : Value := tupleOf [.string (mB8 (o.getD [])), .bool o.isSome]
theorem cnumX_c {S w0 L} (X : Blk) (b m1 m2 n : Nat) (hn : n ≤ 100000) (s : Int) : Fn Tryd.prog 32 #[.pointer (some ⟨b, 0, none⟩), .int .u32 s] S w0 (X :: (tbS b m1 m2 n ++ L)) fun v L' => ∃ m1' m2', v = gotV (cnumF s clls) ∧ X :: (tbS b m1' m2' (n + 1) ++ L) = L' :=
  .mk fun w H => ((cnumS_c (S := S) (w0 := w0) (L := X :: L) b m1 m2 n hn s).out w (HP.swapA (e := [X]) (tbS b m1 m2 n) H)).mono fun e w' ⟨v, L', he, ⟨k1, k2, hv, hL⟩, H'⟩ => ⟨v, _, he, ⟨k1, k2, hv, rfl⟩, HP.swapA (e := tbS b k1 k2 (n + 1)) [X] (hL ▸ H')⟩
theorem sp_add (z q : List UInt8) : mB8 z ++ ((⟨#[32]⟩ : ByteArray) ++ mB8 q) = mB8 (z ++ 32 :: q) := by
  rw [show (⟨#[32]⟩ : ByteArray) = mB8 [32] from rfl, mB8_add, mB8_add]; rfl
theorem argsT_succ (c : CallD) (k : Nat) : argsT c (k + 1) = argsT c k ++ [argT c k] := by unfold argsT; rw [List.range_succ, List.map_append]; rfl
theorem argT_len2 (c : CallD) (h0 : 0 ≤ c.n0 ∧ c.n0 < 18446744073709551616) (h1 : 0 ≤ c.n1 ∧ c.n1 < 18446744073709551616) (h2 : c.t0.size ≤ 300) (h3 : c.t1.size ≤ 300) (i : Nat) : (argT c i).length ≤ 901 := by
  unfold argT
  split
  · have := quoteF_len (lB (c.txt i))
    have hl := lB_len (c.txt i)
    have : (c.txt i).size ≤ 300 := by unfold CallD.txt; split; exact h2; exact h3
    omega
  · have : c.nm i < 10 ^ 20 := by
      unfold CallD.nm
      split <;> omega
    have := decF_len 20 (c.nm i) (by omega) this
    omega
set_option maxRecDepth 100000 in
set_option maxHeartbeats 4000000 in
theorem scline_c {S w0 L} (tb m1 m2 n : Nat) (hn : n ≤ 100000) (c : CallD) (hc : c.ok) (hl0 : c.t0.size ≤ 300) (hl1 : c.t1.size ≤ 300) :
    Fn Tryd.prog 19 #[.agg c.cells.toArray, .pointer (some ⟨tb, 0, none⟩)] S w0 (tbS tb m1 m2 n ++ L) fun v L' => ∃ m1' m2', v = lnV (lnO c) ∧ tbS tb m1' m2' (n + 1) ++ L = L' := by
  have hnx := fun (X : Blk) (L : List Blk) => cnumX_c (S := S) (w0 := w0) (L := L) X tb m1 m2 n hn c.num
  have hal := argT_len2 c hc.n0 hc.n1 hl0 hl1
  unfold lnO
  cases hm : cnumF c.num clls with
  | none =>
    rw [hm] at hnx
    simp only [gotV, cllV, Option.isSome_none] at hnx
    obtain ⟨ct, cf, cn, c0, c1, t0, t1⟩ := c
    dsimp only [CallD.cells] at hnx ⊢
    clear hm hc hal hl0 hl1
    refine Fn2 Tryd.func19 Tryd.ntmps19 rfl rfl ?_
    repeat' (first | refine G_seq ?_ | refine G_then_n ?_ | refine G_then_r ?_ | refine G_ret ?_ | refine G_cond_t rfl ?_ | ((refine G_region (id := 0) ?_ <;> (try (refine G_op1 ?_; ((refine K1_box (t := 52) rfl rfl ?_; intro nb hnb; (try simp only [Value.cells]))))) <;> (try (refine G_op1 ?_; ((apply K1_ev; exact rfl; ((focus (exact E_assign rfl))))))) <;> (try (refine G_op1 ?_; ((apply K1_ev; exact rfl; ((focus (exact E_assign rfl))))))) <;> (try (refine G_nil ?_)))) | ((refine G_region (id := 1) ?_ <;> (try (refine G_op1 ?_; ((apply K1_ev; exact rfl; ((focus (exact E_move rfl))))))) <;> (try (refine G_op1 ?_; ((apply K1_ev; exact rfl; ((focus ((apply E_fieldAddr; exact rfl; ((focus (apply r_fieldAt fo_52_2; (try simp only [Int.toNat_natCast]); (try simp only [Int.reduceToNat]); (try simp only [Nat.mul_one]); (try simp only [Nat.zero_mul]); (try simp only [Nat.reduceMul]); (try simp only [Nat.zero_add]); (try simp only [Nat.add_zero]); (try simp only [Nat.reduceAdd]); exact rfl))))))))))) <;> (try (refine G_op1 ?_; ((apply K1_ev; exact rfl; ((focus ((apply E_load1 (t := 47); exact rfl; (((focus (repeat (exact fd0))))); kernel_rfl; kernel_rfl; (((focus (exact rfl)))))))))))) <;> (try (refine G_op1 ?_; (((refine K1_call (F := 32) (by kernel_rfl) rfl rfl (hnx _ _) ?_; rintro _ _ ⟨k1, k2, rfl, rfl⟩))))) <;> (try (refine G_op1 ?_; ((apply K1_ev; exact rfl; ((focus (exact E_move rfl))))))) <;> (try (refine G_op1 ?_; ((apply K1_ev; exact rfl; ((focus (exact E_extractL rfl rfl))))))) <;> (try (refine G_op1 ?_; ((apply K1_ev; exact rfl; ((focus (exact E_extractL rfl rfl))))))) <;> (try (refine G_op1 ?_; ((refine K1_alloc (t := 105) rfl Tryd.zeroValue105 ?_; intro nb hnb; (try simp only [Value.cells]))))) <;> (try (refine G_op1 ?_; (((apply K1_storeW (t := 105); exact rfl; exact rfl; (((focus (repeat (exact fd0))))); kernel_rfl; (((focus (exact rfl)))); (((focus (exact rfl)))); (try simp only [List.set_cons_succ]); (try simp only [List.set_cons_zero])))))) <;> (try (refine G_op1 ?_; ((apply K1_ev; exact rfl; ((focus (exact E_assign rfl))))))) <;> (try (refine G_nil ?_)))) | ((refine G_region (id := 2) ?_ <;> (try (refine G_op1 ?_; ((apply K1_ev; exact rfl; ((focus (exact E_move rfl))))))) <;> (try (refine G_op1 ?_; ((apply K1_ev; exact rfl; ((focus ((apply E_un; exact rfl; ((focus (exact ru_not_f))))))))))) <;> (try (refine G_nil ?_)))) | ((refine G_region (id := 3) ?_ <;> (try (refine G_op1 ?_; ((apply K1_ev; exact rfl; ((focus (exact E_assign rfl))))))) <;> (try (refine G_op1 ?_; ((apply K1_ev; exact rfl; ((focus (exact E_assign rfl))))))) <;> (try (refine G_nil ?_)))))
    (refine G_done Tryd.results19 (.tmp rfl (.tmp rfl .nil)) ?_)
    exact ⟨_, ⟨k1, k2, rfl, rfl⟩, by intro w H; refine H.sub ?_; (try simp only [List.cons_append, List.nil_append]); repeat (first | exact List.Sublist.refl _ | refine List.Sublist.cons_cons _ ?_ | refine List.Sublist.cons _ ?_ | refine List.sublist_append_of_sublist_right ?_)⟩
  | some m =>
    have hmm := cnumF_mem hm
    have hrg := clls_rng m hmm.1
    have hnw := (name_w hmm.1).2
    rw [hm] at hnx
    simp only [gotV, cllV, Option.isSome_some] at hnx
    rw [Option.map_some]
    have hnm : mB8 (lB m.name) = m.name := mB8_lB _
    have hlc : ∀ k, spc (whoF c.task.toNat c.frn) (lB m.name :: argsT c (k + 1)) = spc (whoF c.task.toNat c.frn) (lB m.name :: argsT c k) ++ 32 :: argT c k := fun k => by
      unfold spc
      rw [argsT_succ]
      simp
    have hspl : ∀ k, k ≤ 2 → (spc (whoF c.task.toNat c.frn) (lB m.name :: argsT c k)).length ≤ 4000 := by
      have hw : (whoF c.task.toNat c.frn).length ≤ 4 := by
        unfold whoF
        have := decF_len 3 c.task.toNat (by omega) (by have := hc.task; omega)
        rw [List.length_append]
        split <;> simp <;> omega
      have h0 : (spc (whoF c.task.toNat c.frn) (lB m.name :: argsT c 0)).length ≤ 20 := by
        unfold spc argsT
        simp only [List.range_zero, List.map_nil, List.flatMap_cons, List.flatMap_nil, List.length_append, List.length_cons, List.length_nil]
        omega
      have h1 : (spc (whoF c.task.toNat c.frn) (lB m.name :: argsT c 1)).length = _ := congrArg List.length (hlc 0)
      have h2 : (spc (whoF c.task.toNat c.frn) (lB m.name :: argsT c 2)).length = _ := congrArg List.length (hlc 1)
      rw [List.length_append, List.length_cons] at h1 h2
      have a0 := hal 0
      have a1 := hal 1
      intro k hk
      have : k = 0 ∨ k = 1 ∨ k = 2 := by omega
      rcases this with rfl | rfl | rfl <;> omega
    have hst : mB8 (spc (whoF c.task.toNat c.frn) (lB m.name :: argsT c 0)) = mB8 (whoF c.task.toNat c.frn) ++ ((⟨#[32]⟩ : ByteArray) ++ m.name) := by
      have h := sp_add (whoF c.task.toNat c.frn) (lB m.name)
      rw [hnm] at h
      rw [h]
      unfold spc argsT
      simp
    have hns : m.name.size ≤ 14 := by rw [← lB_len]; exact hnw
    have hwt : mB8 (whoF c.task.toNat c.frn) = if c.frn = true then mB8 (decF c.task.toNat) ++ (⟨#[33]⟩ : ByteArray) else mB8 (decF c.task.toNat) := by
      unfold whoF
      cases c.frn
      · rw [if_neg (by decide), if_neg (by decide), List.append_nil]
      · rw [if_pos rfl, if_pos rfl, ← mB8_add]; rfl
    have hds : (mB8 (decF c.task.toNat)).size ≤ 3 := by
      rw [mB8_size]
      exact decF_len 3 c.task.toNat (by omega) (by have := hc.task; omega)
    have hpt := fun (L : List Blk) => printed_c c.task.toNat (by have := hc.task; omega) S w0 L
    have hp0 := fun (L : List Blk) => printed_c c.n0.toNat (by have := hc.n0; omega) S w0 L
    have hp1 := fun (L : List Blk) => printed_c c.n1.toNat (by have := hc.n1; omega) S w0 L
    rw [Int.toNat_of_nonneg hc.task.1] at hpt
    rw [Int.toNat_of_nonneg hc.n0.1] at hp0
    rw [Int.toNat_of_nonneg hc.n1.1] at hp1
    have hq0 := fun (L : List Blk) => quote_c (S := S) (w0 := w0) (L := L) c.t0 (by omega)
    have hq1 := fun (L : List Blk) => quote_c (S := S) (w0 := w0) (L := L) c.t1 (by omega)
    have htx := fun (L : List Blk) (i : Int) => textual_c (S := S) (w0 := w0) (L := L) c.num hc.num i
    have hat0 : argT c 0 = if tsel (clsT c.num) (0 : Nat) = true then quoteF (lB c.t0) else decF c.n0.toNat := rfl
    have hat1 : argT c 1 = if tsel (clsT c.num) (1 : Nat) = true then quoteF (lB c.t1) else decF c.n1.toNat := rfl
    have htk := hc.task
    have ha0 := hal 0
    have ha1 := hal 1
    have hlc0 := hlc 0
    have hlc1 := hlc 1
    unfold lnV lineC
    clear hm hc hal hl0 hl1 hlc hnw
    have hnum := hmm.2
    clear hmm
    generalize hSP : (fun k => spc (whoF c.task.toNat c.frn) (lB m.name :: argsT c k)) = SP
    have hSPk : ∀ k, spc (whoF c.task.toNat c.frn) (lB m.name :: argsT c k) = SP k := fun k => by rw [← hSP]
    simp only [hSPk] at *
    clear hSP hSPk hnm
    generalize mB8 (whoF c.task.toNat c.frn) = WH at *
    generalize argT c 0 = A0 at *
    generalize argT c 1 = A1 at *
    obtain ⟨mn, ms, ma⟩ := m
    obtain ⟨ct, cf, cn, c0, c1, t0, t1⟩ := c
    dsimp only [CallD.cells] at *
    subst hnum
    obtain ⟨A, hA⟩ : ∃ A : Nat, ma = (A : Int) := ⟨ma.toNat, by omega⟩
    subst hA
    rw [Int.toNat_natCast]
    have hA2 : A ≤ 2 := by omega
    have ht0 := fun (L : List Blk) => htx L ((0 : Nat) : Int)
    have ht1 := fun (L : List Blk) => htx L ((1 : Nat) : Int)
    generalize tsel (clsT mn) ((0 : Nat) : Int) = b0 at *
    generalize tsel (clsT mn) ((1 : Nat) : Int) = b1 at *
    clear htx
    have hat0' := Lib.hid hat0
    have hat1' := Lib.hid hat1
    have hlc0' := Lib.hid hlc0
    have hlc1' := Lib.hid hlc1
    have hst' := Lib.hid hst
    clear hat0 hat1 hlc0 hlc1 hst
    have h32 : (⟨#[32]⟩ : ByteArray).size = 1 := rfl
    have h33 : (⟨#[33]⟩ : ByteArray).size = 1 := rfl
    have h3s : ((⟨#[32]⟩ : ByteArray) ++ ms).size = (⟨#[32]⟩ : ByteArray).size + ms.size := ByteArray.size_append
    have hsl : ∀ k, k ≤ 2 → (mB8 (SP k)).size ≤ 4000 := fun k hk => by rw [mB8_size]; exact hspl k hk
    generalize mB8 (decF ct.toNat) = D at *
    have h3d : (D ++ (⟨#[33]⟩ : ByteArray)).size = D.size + (⟨#[33]⟩ : ByteArray).size := ByteArray.size_append
    cases cf
    all_goals
      simp only [if_true, if_false, Bool.false_eq_true] at hwt
      have hwt' := Lib.hid hwt.symm
      clear hwt
      refine Fn2 Tryd.func19 Tryd.ntmps19 rfl rfl ?_
      repeat' (first | ((refine G_markb (id := 0) ?_)) | refine G_seq ?_ | refine G_then_n ?_ | refine G_skip ?_ | refine G_cond_t rfl ?_ | refine G_cond_f rfl ?_ | ((refine G_region (id := 0) ?_ <;> (try (refine G_op1 ?_; ((refine K1_box (t := 52) rfl rfl ?_; intro nb hnb; (try simp only [Value.cells]))))) <;> (try (refine G_op1 ?_; ((apply K1_ev; exact rfl; ((focus (exact E_assign rfl))))))) <;> (try (refine G_op1 ?_; ((apply K1_ev; exact rfl; ((focus (exact E_assign rfl))))))) <;> (try (refine G_nil ?_)))) | ((refine G_region (id := 1) ?_ <;> (try (refine G_op1 ?_; ((apply K1_ev; exact rfl; ((focus (exact E_move rfl))))))) <;> (try (refine G_op1 ?_; ((apply K1_ev; exact rfl; ((focus ((apply E_fieldAddr; exact rfl; ((focus (apply r_fieldAt fo_52_2; (try simp only [Int.toNat_natCast]); (try simp only [Int.reduceToNat]); (try simp only [Nat.mul_one]); (try simp only [Nat.zero_mul]); (try simp only [Nat.reduceMul]); (try simp only [Nat.zero_add]); (try simp only [Nat.add_zero]); (try simp only [Nat.reduceAdd]); exact rfl))))))))))) <;> (try (refine G_op1 ?_; ((apply K1_ev; exact rfl; ((focus ((apply E_load1 (t := 47); exact rfl; (((focus (repeat (exact fd0))))); kernel_rfl; kernel_rfl; (((focus (exact rfl)))))))))))) <;> (try (refine G_op1 ?_; (((refine K1_call (F := 32) (by kernel_rfl) rfl rfl (hnx _ _) ?_; rintro _ _ ⟨k1, k2, rfl, rfl⟩))))) <;> (try (refine G_op1 ?_; ((apply K1_ev; exact rfl; ((focus (exact E_move rfl))))))) <;> (try (refine G_op1 ?_; ((apply K1_ev; exact rfl; ((focus (exact E_extractL rfl rfl))))))) <;> (try (refine G_op1 ?_; ((apply K1_ev; exact rfl; ((focus (exact E_extractL rfl rfl))))))) <;> (try (refine G_op1 ?_; ((refine K1_alloc (t := 105) rfl Tryd.zeroValue105 ?_; intro nb hnb; (try simp only [Value.cells]))))) <;> (try (refine G_op1 ?_; (((apply K1_storeW (t := 105); exact rfl; exact rfl; (((focus (repeat (exact fd0))))); kernel_rfl; (((focus (exact rfl)))); (((focus (exact rfl)))); (try simp only [List.set_cons_succ]); (try simp only [List.set_cons_zero])))))) <;> (try (refine G_op1 ?_; ((apply K1_ev; exact rfl; ((focus (exact E_assign rfl))))))) <;> (try (refine G_nil ?_)))) | ((refine G_region (id := 2) ?_ <;> (try (refine G_op1 ?_; ((apply K1_ev; exact rfl; ((focus (exact E_move rfl))))))) <;> (try (refine G_op1 ?_; ((apply K1_ev; exact rfl; ((focus ((apply E_un; exact rfl; ((focus (exact ru_not_t))))))))))) <;> (try (refine G_nil ?_)))) | ((refine G_region (id := 4) ?_ <;> (try (refine G_op1 ?_; ((apply K1_ev; exact rfl; ((focus ((apply E_fieldAddr; exact rfl; ((focus (apply r_fieldAt fo_52_0; (try simp only [Int.toNat_natCast]); (try simp only [Int.reduceToNat]); (try simp only [Nat.mul_one]); (try simp only [Nat.zero_mul]); (try simp only [Nat.reduceMul]); (try simp only [Nat.zero_add]); (try simp only [Nat.add_zero]); (try simp only [Nat.reduceAdd]); exact rfl))))))))))) <;> (try (refine G_op1 ?_; ((apply K1_ev; exact rfl; ((focus ((apply E_load1 (t := 46); exact rfl; (((focus (repeat (first | exact fd0 | apply fdS))))); kernel_rfl; kernel_rfl; (((focus (exact rfl)))))))))))) <;> (try (refine G_op1 ?_; ((apply K1_ev; exact rfl; ((focus ((apply E_conv; exact rfl; ((focus (apply r_conv Tryd.underlying46 Tryd.underlying48; first | (refine IntWalk.i64_in _ ?_; omega) | (refine IntWalk.u8_in _ ?_; omega) | (refine IntWalk.u16_in _ ?_; omega) | (refine IntWalk.u32_in _ ?_; omega) | (refine IntWalk.u64_in _ ?_; omega) | (refine IntWalk.i32_in _ ?_; omega) | exact rfl))))))))))) <;> (try (refine G_op1 ?_; (((refine K1_call (F := 33) (by kernel_rfl) rfl rfl (hpt _) ?_; rintro _ _ ⟨rfl, rfl⟩))))) <;> (try (refine G_op1 ?_; ((apply K1_ev; exact rfl; ((focus (exact E_assign rfl))))))) <;> (try (refine G_nil ?_)))) | ((refine G_region (id := 5) ?_ <;> (try (refine G_op1 ?_; ((apply K1_ev; exact rfl; ((focus ((apply E_fieldAddr; exact rfl; ((focus (apply r_fieldAt fo_52_1; (try simp only [Int.toNat_natCast]); (try simp only [Int.reduceToNat]); (try simp only [Nat.mul_one]); (try simp only [Nat.zero_mul]); (try simp only [Nat.reduceMul]); (try simp only [Nat.zero_add]); (try simp only [Nat.add_zero]); (try simp only [Nat.reduceAdd]); exact rfl))))))))))) <;> (try (refine G_op1 ?_; ((apply K1_ev; exact rfl; ((focus ((apply E_load1 (t := 4); exact rfl; (((focus (repeat (first | exact fd0 | apply fdS))))); kernel_rfl; kernel_rfl; (((focus (exact rfl)))))))))))) <;> (try (refine G_nil ?_)))) | ((refine G_region (id := 6) ?_ <;> (try (refine G_op1 ?_; ((apply K1_ev; exact rfl; ((focus (exact E_move rfl))))))) <;> (try (refine G_op1 ?_; ((apply K1_ev; exact rfl; ((focus ((apply E_bin (op := .add) (t := 9); exact rfl; exact rfl; exact rfl; ((focus (apply rb_stradd; ((focus (exact rfl))); (focus omega)))))))))))) <;> (try (refine G_op1 ?_; ((apply K1_ev; exact rfl; ((focus (exact E_assign rfl))))))) <;> (try (refine G_nil ?_)))) | ((refine G_region (id := 7) ?_ <;> (try (refine G_op1 ?_; ((apply K1_ev; exact rfl; ((focus (exact E_move rfl))))))) <;> (try (refine G_op1 ?_; ((apply K1_ev; exact rfl; ((focus ((apply E_fieldAddr; exact rfl; ((focus (apply r_fieldAt fo_105_1; (try simp only [Int.toNat_natCast]); (try simp only [Int.reduceToNat]); (try simp only [Nat.mul_one]); (try simp only [Nat.zero_mul]); (try simp only [Nat.reduceMul]); (try simp only [Nat.zero_add]); (try simp only [Nat.add_zero]); (try simp only [Nat.reduceAdd]); exact rfl))))))))))) <;> (try (refine G_op1 ?_; ((apply K1_ev; exact rfl; ((focus ((apply E_load1 (t := 9); exact rfl; (((focus (repeat (exact fd0))))); kernel_rfl; kernel_rfl; (((focus (exact rfl)))))))))))) <;> (try (refine G_op1 ?_; ((apply K1_ev; exact rfl; ((focus ((apply E_bin (op := .add) (t := 9); exact rfl; exact rfl; exact rfl; ((focus (apply rb_stradd; ((focus (exact rfl))); (focus omega)))))))))))) <;> (try (refine G_op1 ?_; ((apply K1_ev; exact rfl; ((focus ((apply E_bin (op := .add) (t := 9); exact rfl; exact rfl; exact rfl; ((focus (apply rb_stradd; ((focus (exact rfl))); (focus omega)))))))))))) <;> (try (refine G_op1 ?_; ((apply K1_ev; exact rfl; ((focus (exact E_assign rfl))))))) <;> (try (refine G_nil ?_)))) | ((refine G_region (id := 8) ?_ <;> (try (refine G_op1 ?_; ((apply K1_ev; exact rfl; ((focus ((apply E_fieldAddr; exact rfl; ((focus (apply r_fieldAt fo_105_2; (try simp only [Int.toNat_natCast]); (try simp only [Int.reduceToNat]); (try simp only [Nat.mul_one]); (try simp only [Nat.zero_mul]); (try simp only [Nat.reduceMul]); (try simp only [Nat.zero_add]); (try simp only [Nat.add_zero]); (try simp only [Nat.reduceAdd]); exact rfl))))))))))) <;> (try (refine G_op1 ?_; ((apply K1_ev; exact rfl; ((focus ((apply E_load1 (t := 3); exact rfl; (((focus (repeat (exact fd0))))); kernel_rfl; kernel_rfl; (((focus (exact rfl)))))))))))) <;> (try (refine G_op1 ?_; ((apply K1_ev; exact rfl; ((focus (exact E_move rfl))))))) <;> (try (refine G_nil ?_)))))
      refine ⟨?_⟩
      obtain ⟨nbM, rfl⟩ : ∃ x, x = nb := ⟨_, rfl⟩
      obtain ⟨nbC, rfl⟩ : ∃ x, x = nb := ⟨_, rfl⟩
      simp only [hwt'.out, ← hst'.out]
      refine G_block ?_
      refine G_loopk (γ := Nat) (fun k => k ≤ A) (fun k => A - k) (fun k => [(8, .string (mB8 (SP k))), (34, .int .i64 (k : Nat))]) [(2, _), (33, _)]
        (fun _ => ⟨true, nbM, .cells #[.int .u32 mn, .string ms, .int .i64 (A : Nat)] 105 (0, 0)⟩ :: ⟨true, nbC, .cells #[.int .u8 ct, .bool _, .int .u32 mn, .int .u64 c0, .int .u64 c1, .string t0, .string t1] 52 (0, 0)⟩ :: (tbS tb k1 k2 (n + 1) ++ L))
        0 (.cons rfl (.cons rfl .nil)) (Nat.zero_le _) (by ((focus (repeat (first | exact Sub.nil | refine Sub.cons rfl ?_ | (refine Sub.cons (congrArg some ?_) ?_; (focus go_num))))))) (fun _ H => H) ?_
      intro k (hk : k ≤ A)
      simp only [List.cons_append, List.nil_append]
      by_cases hlt : k < A
      case neg =>
        obtain rfl : k = A := by omega
        repeat' (first | refine G_seq ?_ | refine G_then_n ?_ | refine G_cut_x ?_ | refine G_then_x ?_ | refine G_blk_x ?_ | refine G_exit ?_ | refine G_ret ?_ | refine G_cond_f rfl ?_ | ((refine G_region (id := 9) ?_ <;> (try (refine G_op1 ?_; ((apply K1_ev; exact rfl; ((focus ((apply E_bin (op := .lss) (t := 3); exact rfl; exact rfl; exact rfl; ((focus ((refine rb_lss_f ?_; first | (with_reducible assumption) | (decide; done) | omega)))))))))))) <;> (try (refine G_nil ?_)))) | ((refine G_region (id := 15) ?_ <;> (try (refine G_op1 ?_; ((apply K1_ev; exact rfl; ((focus (exact E_move rfl))))))) <;> (try (refine G_op1 ?_; ((apply K1_ev; exact rfl; ((focus (exact E_assign rfl))))))) <;> (try (refine G_op1 ?_; ((apply K1_ev; exact rfl; ((focus (exact E_assign rfl))))))) <;> (try (refine G_nil ?_)))))
        (refine G_done Tryd.results19 (.tmp rfl (.tmp rfl .nil)) ?_)
        exact ⟨_, ⟨k1, k2, rfl, rfl⟩, by intro w H; refine H.sub ?_; (try simp only [List.cons_append, List.nil_append]); repeat (first | exact List.Sublist.refl _ | refine List.Sublist.cons_cons _ ?_ | refine List.Sublist.cons _ ?_ | refine List.sublist_append_of_sublist_right ?_)⟩
      have hk2 : k = 0 ∨ k = 1 := by omega
      have hsk := hsl k (by omega)
      rcases hk2 with rfl | rfl
      · have hcat : mB8 (SP 0) ++ ((⟨#[32]⟩ : ByteArray) ++ mB8 A0) = mB8 (SP (0 + 1)) := by
          rw [hlc0'.out, sp_add]
        have hcat' := Lib.hid hcat
        have hA0s : (mB8 A0).size ≤ 901 := by rw [mB8_size]; exact ha0
        have hA0t : ((⟨#[32]⟩ : ByteArray) ++ mB8 A0).size = (⟨#[32]⟩ : ByteArray).size + (mB8 A0).size := ByteArray.size_append
        have hA0 := hat0'.out
        clear hcat
        generalize mB8 (SP 0) = X at *
        cases b0
        · simp only [if_false, Bool.false_eq_true] at hA0
          rw [← hA0] at hp0
          generalize mB8 A0 = Y at *
          clear hA0 hat0' hlc0'
          repeat' (first | refine G_seq ?_ | refine G_then_n ?_ | refine G_cut_n ?_ | refine G_blk_n ?_ | refine G_block ?_ | refine G_skip ?_ | refine G_cond_t rfl ?_ | refine G_cond_f rfl ?_ | ((refine G_region (id := 9) ?_ <;> (try (refine G_op1 ?_; ((apply K1_ev; exact rfl; ((focus ((apply E_bin (op := .lss) (t := 3); exact rfl; exact rfl; exact rfl; ((focus ((refine rb_lss_t ?_; first | (with_reducible assumption) | (decide; done) | omega)))))))))))) <;> (try (refine G_nil ?_)))) | ((refine G_region (id := 10) ?_ <;> (try (refine G_op1 ?_; ((apply K1_ev; exact rfl; ((focus (exact E_move rfl))))))) <;> (try (refine G_op1 ?_; ((apply K1_ev; exact rfl; ((focus (exact E_assign rfl))))))) <;> (try (refine G_nil ?_)))) | ((refine G_region (id := 11) ?_ <;> (try (refine G_op1 ?_; ((apply K1_ev; exact rfl; ((focus ((apply E_fieldAddr; exact rfl; ((focus (apply r_fieldAt fo_52_2; (try simp only [Int.toNat_natCast]); (try simp only [Int.reduceToNat]); (try simp only [Nat.mul_one]); (try simp only [Nat.zero_mul]); (try simp only [Nat.reduceMul]); (try simp only [Nat.zero_add]); (try simp only [Nat.add_zero]); (try simp only [Nat.reduceAdd]); exact rfl))))))))))) <;> (try (refine G_op1 ?_; ((apply K1_ev; exact rfl; ((focus ((apply E_load1 (t := 47); exact rfl; (((focus (repeat (first | exact fd0 | apply fdS))))); kernel_rfl; kernel_rfl; (((focus (exact rfl)))))))))))) <;> (try (refine G_op1 ?_; ((apply K1_ev; exact rfl; ((focus (exact E_move rfl))))))) <;> (try (refine G_op1 ?_; (((refine K1_call (F := 34) (by kernel_rfl) rfl rfl (ht0 _) ?_; rintro _ _ ⟨rfl, rfl⟩))))) <;> (try (refine G_nil ?_)))) | ((refine G_region (id := 13) ?_ <;> (try (refine G_op1 ?_; ((apply K1_ev; exact rfl; ((focus (exact E_move rfl))))))) <;> (try (refine G_op1 ?_; ((apply K1_ev; exact rfl; ((focus (exact E_move rfl))))))) <;> (try (refine G_op1 ?_; ((apply K1_ev; exact rfl; ((focus ((apply E_fieldAddr; exact rfl; ((focus (apply r_fieldAt fo_52_3; (try simp only [Int.toNat_natCast]); (try simp only [Int.reduceToNat]); (try simp only [Nat.mul_one]); (try simp only [Nat.zero_mul]); (try simp only [Nat.reduceMul]); (try simp only [Nat.zero_add]); (try simp only [Nat.add_zero]); (try simp only [Nat.reduceAdd]); exact rfl))))))))))) <;> (try (refine G_op1 ?_; ((apply K1_ev; exact rfl; ((focus ((apply E_indexAddr; exact rfl; exact rfl; ((focus (apply r_ixa Tryd.underlying49 sz_48; (focus omega); (focus omega); ((focus ((try simp only [Int.toNat_natCast]); (try simp only [Int.reduceToNat]); (try simp only [Nat.mul_one]); (try simp only [Nat.zero_mul]); (try simp only [Nat.reduceMul]); (try simp only [Nat.zero_add]); (try simp only [Nat.add_zero]); (try simp only [Nat.reduceAdd]); exact rfl)))))))))))))) <;> (try (refine G_op1 ?_; ((apply K1_ev; exact rfl; ((focus ((apply E_load1 (t := 48); exact rfl; (((focus (repeat (first | exact fd0 | apply fdS))))); kernel_rfl; kernel_rfl; (((focus (exact rfl)))))))))))) <;> (try (refine G_op1 ?_; (((refine K1_call (F := 33) (by kernel_rfl) rfl rfl (hp0 _) ?_; rintro _ _ ⟨rfl, rfl⟩))))) <;> (try (refine G_op1 ?_; ((apply K1_ev; exact rfl; ((focus ((apply E_bin (op := .add) (t := 9); exact rfl; exact rfl; exact rfl; ((focus (apply rb_stradd; ((focus (exact rfl))); (focus omega)))))))))))) <;> (try (refine G_op1 ?_; ((apply K1_ev; exact rfl; ((focus ((apply E_bin (op := .add) (t := 9); exact rfl; exact rfl; exact rfl; ((focus (apply rb_stradd; ((focus (exact rfl))); (focus omega)))))))))))) <;> (try (refine G_op1 ?_; ((apply K1_ev; exact rfl; ((focus (exact E_assign rfl))))))) <;> (try (refine G_nil ?_)))) | ((refine G_region (id := 14) ?_ <;> (try (refine G_op1 ?_; ((apply K1_ev; exact rfl; ((focus ((apply E_bin (op := .add) (t := 3); exact rfl; exact rfl; exact rfl; ((focus ((apply rb_add; (((focus ((try simp only [Int.reduceAdd]); (try simp only [Int.reduceSub]); (try simp only [Int.reduceMul]); (try simp only [Int.reduceMod]); (try simp only [Int.reduceDiv]); exact rfl)))); (((focus (refine IntWalk.i64_in _ ?_; omega)))))))))))))))) <;> (try (refine G_op1 ?_; ((apply K1_ev; exact rfl; ((focus (exact E_move rfl))))))) <;> (try (refine G_nil ?_)))))
          simp only [hcat'.out]
          refine G_meet (0 + 1) ⟨by omega, by omega⟩ (by ((focus (repeat (first | exact Sub.nil | refine Sub.cons rfl ?_ | (refine Sub.cons (congrArg some ?_) ?_; (focus go_num))))))) (fun _ H => H)
        · simp only [if_true] at hA0
          rw [← hA0] at hq0
          generalize mB8 A0 = Y at *
          clear hA0 hat0' hlc0'
          repeat' (first | refine G_seq ?_ | refine G_then_n ?_ | refine G_cut_n ?_ | refine G_blk_n ?_ | refine G_block ?_ | refine G_skip ?_ | refine G_cond_t rfl ?_ | ((refine G_region (id := 9) ?_ <;> (try (refine G_op1 ?_; ((apply K1_ev; exact rfl; ((focus ((apply E_bin (op := .lss) (t := 3); exact rfl; exact rfl; exact rfl; ((focus ((refine rb_lss_t ?_; first | (with_reducible assumption) | (decide; done) | omega)))))))))))) <;> (try (refine G_nil ?_)))) | ((refine G_region (id := 10) ?_ <;> (try (refine G_op1 ?_; ((apply K1_ev; exact rfl; ((focus (exact E_move rfl))))))) <;> (try (refine G_op1 ?_; ((apply K1_ev; exact rfl; ((focus (exact E_assign rfl))))))) <;> (try (refine G_nil ?_)))) | ((refine G_region (id := 11) ?_ <;> (try (refine G_op1 ?_; ((apply K1_ev; exact rfl; ((focus ((apply E_fieldAddr; exact rfl; ((focus (apply r_fieldAt fo_52_2; (try simp only [Int.toNat_natCast]); (try simp only [Int.reduceToNat]); (try simp only [Nat.mul_one]); (try simp only [Nat.zero_mul]); (try simp only [Nat.reduceMul]); (try simp only [Nat.zero_add]); (try simp only [Nat.add_zero]); (try simp only [Nat.reduceAdd]); exact rfl))))))))))) <;> (try (refine G_op1 ?_; ((apply K1_ev; exact rfl; ((focus ((apply E_load1 (t := 47); exact rfl; (((focus (repeat (first | exact fd0 | apply fdS))))); kernel_rfl; kernel_rfl; (((focus (exact rfl)))))))))))) <;> (try (refine G_op1 ?_; ((apply K1_ev; exact rfl; ((focus (exact E_move rfl))))))) <;> (try (refine G_op1 ?_; (((refine K1_call (F := 34) (by kernel_rfl) rfl rfl (ht0 _) ?_; rintro _ _ ⟨rfl, rfl⟩))))) <;> (try (refine G_nil ?_)))) | ((refine G_region (id := 12) ?_ <;> (try (refine G_op1 ?_; ((apply K1_ev; exact rfl; ((focus (exact E_move rfl))))))) <;> (try (refine G_op1 ?_; ((apply K1_ev; exact rfl; ((focus (exact E_move rfl))))))) <;> (try (refine G_op1 ?_; ((apply K1_ev; exact rfl; ((focus ((apply E_fieldAddr; exact rfl; ((focus (apply r_fieldAt fo_52_4; (try simp only [Int.toNat_natCast]); (try simp only [Int.reduceToNat]); (try simp only [Nat.mul_one]); (try simp only [Nat.zero_mul]); (try simp only [Nat.reduceMul]); (try simp only [Nat.zero_add]); (try simp only [Nat.add_zero]); (try simp only [Nat.reduceAdd]); exact rfl))))))))))) <;> (try (refine G_op1 ?_; ((apply K1_ev; exact rfl; ((focus ((apply E_indexAddr; exact rfl; exact rfl; ((focus (apply r_ixa Tryd.underlying50 sz_9; (focus omega); (focus omega); ((focus ((try simp only [Int.toNat_natCast]); (try simp only [Int.reduceToNat]); (try simp only [Nat.mul_one]); (try simp only [Nat.zero_mul]); (try simp only [Nat.reduceMul]); (try simp only [Nat.zero_add]); (try simp only [Nat.add_zero]); (try simp only [Nat.reduceAdd]); exact rfl)))))))))))))) <;> (try (refine G_op1 ?_; ((apply K1_ev; exact rfl; ((focus ((apply E_load1 (t := 9); exact rfl; (((focus (repeat (first | exact fd0 | apply fdS))))); kernel_rfl; kernel_rfl; (((focus (exact rfl)))))))))))) <;> (try (refine G_op1 ?_; (((refine K1_call (F := 11) (by kernel_rfl) rfl rfl (hq0 _) ?_; rintro _ _ ⟨rfl, rfl⟩))))) <;> (try (refine G_op1 ?_; ((apply K1_ev; exact rfl; ((focus ((apply E_bin (op := .add) (t := 9); exact rfl; exact rfl; exact rfl; ((focus (apply rb_stradd; ((focus (exact rfl))); (focus omega)))))))))))) <;> (try (refine G_op1 ?_; ((apply K1_ev; exact rfl; ((focus ((apply E_bin (op := .add) (t := 9); exact rfl; exact rfl; exact rfl; ((focus (apply rb_stradd; ((focus (exact rfl))); (focus omega)))))))))))) <;> (try (refine G_op1 ?_; ((apply K1_ev; exact rfl; ((focus (exact E_assign rfl))))))) <;> (try (refine G_nil ?_)))) | ((refine G_region (id := 14) ?_ <;> (try (refine G_op1 ?_; ((apply K1_ev; exact rfl; ((focus ((apply E_bin (op := .add) (t := 3); exact rfl; exact rfl; exact rfl; ((focus ((apply rb_add; (((focus ((try simp only [Int.reduceAdd]); (try simp only [Int.reduceSub]); (try simp only [Int.reduceMul]); (try simp only [Int.reduceMod]); (try simp only [Int.reduceDiv]); exact rfl)))); (((focus (refine IntWalk.i64_in _ ?_; omega)))))))))))))))) <;> (try (refine G_op1 ?_; ((apply K1_ev; exact rfl; ((focus (exact E_move rfl))))))) <;> (try (refine G_nil ?_)))))
          simp only [hcat'.out]
          refine G_meet (0 + 1) ⟨by omega, by omega⟩ (by ((focus (repeat (first | exact Sub.nil | refine Sub.cons rfl ?_ | (refine Sub.cons (congrArg some ?_) ?_; (focus go_num))))))) (fun _ H => H)
      · have hcat : mB8 (SP 1) ++ ((⟨#[32]⟩ : ByteArray) ++ mB8 A1) = mB8 (SP (1 + 1)) := by
          rw [hlc1'.out, sp_add]
        have hcat' := Lib.hid hcat
        have hA1s : (mB8 A1).size ≤ 901 := by rw [mB8_size]; exact ha1
        have hA1t : ((⟨#[32]⟩ : ByteArray) ++ mB8 A1).size = (⟨#[32]⟩ : ByteArray).size + (mB8 A1).size := ByteArray.size_append
        have hA1 := hat1'.out
        clear hcat
        generalize mB8 (SP 1) = X at *
        cases b1
        · simp only [if_false, Bool.false_eq_true] at hA1
          rw [← hA1] at hp1
          generalize mB8 A1 = Y at *
          clear hA1 hat1' hlc1'
          repeat' (first | refine G_seq ?_ | refine G_then_n ?_ | refine G_cut_n ?_ | refine G_blk_n ?_ | refine G_block ?_ | refine G_skip ?_ | refine G_cond_t rfl ?_ | refine G_cond_f rfl ?_ | ((refine G_region (id := 9) ?_ <;> (try (refine G_op1 ?_; ((apply K1_ev; exact rfl; ((focus ((apply E_bin (op := .lss) (t := 3); exact rfl; exact rfl; exact rfl; ((focus ((refine rb_lss_t ?_; first | (with_reducible assumption) | (decide; done) | omega)))))))))))) <;> (try (refine G_nil ?_)))) | ((refine G_region (id := 10) ?_ <;> (try (refine G_op1 ?_; ((apply K1_ev; exact rfl; ((focus (exact E_move rfl))))))) <;> (try (refine G_op1 ?_; ((apply K1_ev; exact rfl; ((focus (exact E_assign rfl))))))) <;> (try (refine G_nil ?_)))) | ((refine G_region (id := 11) ?_ <;> (try (refine G_op1 ?_; ((apply K1_ev; exact rfl; ((focus ((apply E_fieldAddr; exact rfl; ((focus (apply r_fieldAt fo_52_2; (try simp only [Int.toNat_natCast]); (try simp only [Int.reduceToNat]); (try simp only [Nat.mul_one]); (try simp only [Nat.zero_mul]); (try simp only [Nat.reduceMul]); (try simp only [Nat.zero_add]); (try simp only [Nat.add_zero]); (try simp only [Nat.reduceAdd]); exact rfl))))))))))) <;> (try (refine G_op1 ?_; ((apply K1_ev; exact rfl; ((focus ((apply E_load1 (t := 47); exact rfl; (((focus (repeat (first | exact fd0 | apply fdS))))); kernel_rfl; kernel_rfl; (((focus (exact rfl)))))))))))) <;> (try (refine G_op1 ?_; ((apply K1_ev; exact rfl; ((focus (exact E_move rfl))))))) <;> (try (refine G_op1 ?_; (((refine K1_call (F := 34) (by kernel_rfl) rfl rfl (ht1 _) ?_; rintro _ _ ⟨rfl, rfl⟩))))) <;> (try (refine G_nil ?_)))) | ((refine G_region (id := 13) ?_ <;> (try (refine G_op1 ?_; ((apply K1_ev; exact rfl; ((focus (exact E_move rfl))))))) <;> (try (refine G_op1 ?_; ((apply K1_ev; exact rfl; ((focus (exact E_move rfl))))))) <;> (try (refine G_op1 ?_; ((apply K1_ev; exact rfl; ((focus ((apply E_fieldAddr; exact rfl; ((focus (apply r_fieldAt fo_52_3; (try simp only [Int.toNat_natCast]); (try simp only [Int.reduceToNat]); (try simp only [Nat.mul_one]); (try simp only [Nat.zero_mul]); (try simp only [Nat.reduceMul]); (try simp only [Nat.zero_add]); (try simp only [Nat.add_zero]); (try simp only [Nat.reduceAdd]); exact rfl))))))))))) <;> (try (refine G_op1 ?_; ((apply K1_ev; exact rfl; ((focus ((apply E_indexAddr; exact rfl; exact rfl; ((focus (apply r_ixa Tryd.underlying49 sz_48; (focus omega); (focus omega); ((focus ((try simp only [Int.toNat_natCast]); (try simp only [Int.reduceToNat]); (try simp only [Nat.mul_one]); (try simp only [Nat.zero_mul]); (try simp only [Nat.reduceMul]); (try simp only [Nat.zero_add]); (try simp only [Nat.add_zero]); (try simp only [Nat.reduceAdd]); exact rfl)))))))))))))) <;> (try (refine G_op1 ?_; ((apply K1_ev; exact rfl; ((focus ((apply E_load1 (t := 48); exact rfl; (((focus (repeat (first | exact fd0 | apply fdS))))); kernel_rfl; kernel_rfl; (((focus (exact rfl)))))))))))) <;> (try (refine G_op1 ?_; (((refine K1_call (F := 33) (by kernel_rfl) rfl rfl (hp1 _) ?_; rintro _ _ ⟨rfl, rfl⟩))))) <;> (try (refine G_op1 ?_; ((apply K1_ev; exact rfl; ((focus ((apply E_bin (op := .add) (t := 9); exact rfl; exact rfl; exact rfl; ((focus (apply rb_stradd; ((focus (exact rfl))); (focus omega)))))))))))) <;> (try (refine G_op1 ?_; ((apply K1_ev; exact rfl; ((focus ((apply E_bin (op := .add) (t := 9); exact rfl; exact rfl; exact rfl; ((focus (apply rb_stradd; ((focus (exact rfl))); (focus omega)))))))))))) <;> (try (refine G_op1 ?_; ((apply K1_ev; exact rfl; ((focus (exact E_assign rfl))))))) <;> (try (refine G_nil ?_)))) | ((refine G_region (id := 14) ?_ <;> (try (refine G_op1 ?_; ((apply K1_ev; exact rfl; ((focus ((apply E_bin (op := .add) (t := 3); exact rfl; exact rfl; exact rfl; ((focus ((apply rb_add; (((focus ((try simp only [Int.reduceAdd]); (try simp only [Int.reduceSub]); (try simp only [Int.reduceMul]); (try simp only [Int.reduceMod]); (try simp only [Int.reduceDiv]); exact rfl)))); (((focus (refine IntWalk.i64_in _ ?_; omega)))))))))))))))) <;> (try (refine G_op1 ?_; ((apply K1_ev; exact rfl; ((focus (exact E_move rfl))))))) <;> (try (refine G_nil ?_)))))
          simp only [hcat'.out]
          refine G_meet (1 + 1) ⟨by omega, by omega⟩ (by ((focus (repeat (first | exact Sub.nil | refine Sub.cons rfl ?_ | (refine Sub.cons (congrArg some ?_) ?_; (focus go_num))))))) (fun _ H => H)
        · simp only [if_true] at hA1
          rw [← hA1] at hq1
          generalize mB8 A1 = Y at *
          clear hA1 hat1' hlc1'
          repeat' (first | refine G_seq ?_ | refine G_then_n ?_ | refine G_cut_n ?_ | refine G_blk_n ?_ | refine G_block ?_ | refine G_skip ?_ | refine G_cond_t rfl ?_ | ((refine G_region (id := 9) ?_ <;> (try (refine G_op1 ?_; ((apply K1_ev; exact rfl; ((focus ((apply E_bin (op := .lss) (t := 3); exact rfl; exact rfl; exact rfl; ((focus ((refine rb_lss_t ?_; first | (with_reducible assumption) | (decide; done) | omega)))))))))))) <;> (try (refine G_nil ?_)))) | ((refine G_region (id := 10) ?_ <;> (try (refine G_op1 ?_; ((apply K1_ev; exact rfl; ((focus (exact E_move rfl))))))) <;> (try (refine G_op1 ?_; ((apply K1_ev; exact rfl; ((focus (exact E_assign rfl))))))) <;> (try (refine G_nil ?_)))) | ((refine G_region (id := 11) ?_ <;> (try (refine G_op1 ?_; ((apply K1_ev; exact rfl; ((focus ((apply E_fieldAddr; exact rfl; ((focus (apply r_fieldAt fo_52_2; (try simp only [Int.toNat_natCast]); (try simp only [Int.reduceToNat]); (try simp only [Nat.mul_one]); (try simp only [Nat.zero_mul]); (try simp only [Nat.reduceMul]); (try simp only [Nat.zero_add]); (try simp only [Nat.add_zero]); (try simp only [Nat.reduceAdd]); exact rfl))))))))))) <;> (try (refine G_op1 ?_; ((apply K1_ev; exact rfl; ((focus ((apply E_load1 (t := 47); exact rfl; (((focus (repeat (first | exact fd0 | apply fdS))))); kernel_rfl; kernel_rfl; (((focus (exact rfl)))))))))))) <;> (try (refine G_op1 ?_; ((apply K1_ev; exact rfl; ((focus (exact E_move rfl))))))) <;> (try (refine G_op1 ?_; (((refine K1_call (F := 34) (by kernel_rfl) rfl rfl (ht1 _) ?_; rintro _ _ ⟨rfl, rfl⟩))))) <;> (try (refine G_nil ?_)))) | ((refine G_region (id := 12) ?_ <;> (try (refine G_op1 ?_; ((apply K1_ev; exact rfl; ((focus (exact E_move rfl))))))) <;> (try (refine G_op1 ?_; ((apply K1_ev; exact rfl; ((focus (exact E_move rfl))))))) <;> (try (refine G_op1 ?_; ((apply K1_ev; exact rfl; ((focus ((apply E_fieldAddr; exact rfl; ((focus (apply r_fieldAt fo_52_4; (try simp only [Int.toNat_natCast]); (try simp only [Int.reduceToNat]); (try simp only [Nat.mul_one]); (try simp only [Nat.zero_mul]); (try simp only [Nat.reduceMul]); (try simp only [Nat.zero_add]); (try simp only [Nat.add_zero]); (try simp only [Nat.reduceAdd]); exact rfl))))))))))) <;> (try (refine G_op1 ?_; ((apply K1_ev; exact rfl; ((focus ((apply E_indexAddr; exact rfl; exact rfl; ((focus (apply r_ixa Tryd.underlying50 sz_9; (focus omega); (focus omega); ((focus ((try simp only [Int.toNat_natCast]); (try simp only [Int.reduceToNat]); (try simp only [Nat.mul_one]); (try simp only [Nat.zero_mul]); (try simp only [Nat.reduceMul]); (try simp only [Nat.zero_add]); (try simp only [Nat.add_zero]); (try simp only [Nat.reduceAdd]); exact rfl)))))))))))))) <;> (try (refine G_op1 ?_; ((apply K1_ev; exact rfl; ((focus ((apply E_load1 (t := 9); exact rfl; (((focus (repeat (first | exact fd0 | apply fdS))))); kernel_rfl; kernel_rfl; (((focus (exact rfl)))))))))))) <;> (try (refine G_op1 ?_; (((refine K1_call (F := 11) (by kernel_rfl) rfl rfl (hq1 _) ?_; rintro _ _ ⟨rfl, rfl⟩))))) <;> (try (refine G_op1 ?_; ((apply K1_ev; exact rfl; ((focus ((apply E_bin (op := .add) (t := 9); exact rfl; exact rfl; exact rfl; ((focus (apply rb_stradd; ((focus (exact rfl))); (focus omega)))))))))))) <;> (try (refine G_op1 ?_; ((apply K1_ev; exact rfl; ((focus ((apply E_bin (op := .add) (t := 9); exact rfl; exact rfl; exact rfl; ((focus (apply rb_stradd; ((focus (exact rfl))); (focus omega)))))))))))) <;> (try (refine G_op1 ?_; ((apply K1_ev; exact rfl; ((focus (exact E_assign rfl))))))) <;> (try (refine G_nil ?_)))) | ((refine G_region (id := 14) ?_ <;> (try (refine G_op1 ?_; ((apply K1_ev; exact rfl; ((focus ((apply E_bin (op := .add) (t := 3); exact rfl; exact rfl; exact rfl; ((focus ((apply rb_add; (((focus ((try simp only [Int.reduceAdd]); (try simp only [Int.reduceSub]); (try simp only [Int.reduceMul]); (try simp only [Int.reduceMod]); (try simp only [Int.reduceDiv]); exact rfl)))); (((focus (refine IntWalk.i64_in _ ?_; omega)))))))))))))))) <;> (try (refine G_op1 ?_; ((apply K1_ev; exact rfl; ((focus (exact E_move rfl))))))) <;> (try (refine G_nil ?_)))))
          simp only [hcat'.out]
          refine G_meet (1 + 1) ⟨by omega, by omega⟩ (by ((focus (repeat (first | exact Sub.nil | refine Sub.cons rfl ?_ | (refine Sub.cons (congrArg some ?_) ?_; (focus go_num))))))) (fun _ H => H)
end Go.Proofs.YtpdnigifoaoflaaDoor
