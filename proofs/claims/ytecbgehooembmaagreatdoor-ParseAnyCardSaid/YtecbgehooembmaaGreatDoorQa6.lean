/- The law ParseAny returns true at every input and leaves its arguments as they were. No condition. -/
import Derived.WalkKit
import Derived.Deep.QuietTactic
import Derived.OrdersHeld
import Derived.Lib.Hide
import Derived.Laws.Strings
import Derived.Laws.BytesArg
import Derived.Test.YtecbgehooembmaaGreatDoorRows
import Derived.Shelf.Strings.OnBuilder
import Derived.Shelf.Small.Strs
import Derived.Shelf.Strings.Search1
import Derived.Shelf.Strings.Search2
import Derived.Shelf.Strings.Search3
import Derived.Shelf.Strings.Count
import Derived.Test.YtecbgehooembmaaGreatDoorProg
import Derived.MapKept
import Derived.Tactics
import Derived.Tactics2
import Derived.Defers
import Derived.Laws.Pointers
import Derived.Laws.LoneSync
import Derived.Laws.NewBlocks
import Derived.RegionTactic
import Derived.RegionCalls
import Derived.ChangeAlike
import Derived.Laws.RangeString
import Derived.Laws.RangeAny
import Derived.Lib.Builder
import Derived.Lib.UnsafeStr
import Derived.Laws.Externs
import Derived.ProofKit
import Derived.OpenShut
import Derived.ShutString
import Derived.ChangeOld
import Derived.Test.YtecbgehooembmaaGreatDoorCards
import Derived.Test.YtecbgehooembmaaGreatDoorTie
import Derived.SevenTiedAt
import Derived.Lay
import Derived.LaidOnce
import Derived.Test.YtecbgehooembmaaGreatDoorQa5
namespace Go.Proofs.YtecbgehooembmaaGreatDoor
open Go Go.RowKit
theorem clls_num : (clls.all fun m => decide (0 ≤ m.num ∧ m.num < 4294967296)) = true := by decide +kernel
theorem act_rng {a : Int} (h0 : 0 ≤ a) (h : actOk a = true) : 0 ≤ a ∧ a < 4294967296 := by
  unfold actOk at h
  have h := of_decide_eq_true h
  refine ⟨h0, ?_⟩
  rcases h with rfl | rfl | rfl | ⟨h1, h2, h3⟩
  · decide
  · decide
  · decide
  · unfold kndA at h1
    have h4 := and_split a h0
    split at h1
    · omega
    · cases h1
theorem pol_gok {P : Pol} (h : PolOk P) (hr : PolRn P) : P.g.ok := by
  refine ⟨?_, act_rng h.df0 h.df, ?_, ?_, ?_, ?_⟩
  · have h1 := h.nm
    unfold Wd.wordF at h1
    rw [Bool.and_eq_true] at h1
    have h2 := of_decide_eq_true h1.2
    rw [mB8_size] at h2
    show P.nm.length ≤ _
    omega
  · intro r hr'
    obtain ⟨q, hq, rfl⟩ := List.mem_map.1 hr'
    have hq2 := h.rules q hq
    refine ⟨?_, act_rng hq2.act0 hq2.act, ?_⟩
    · have hn := hq2.num
      cases hc : cnumF q.num clls with
      | none => rw [hc] at hn; cases hn
      | some m =>
        obtain ⟨hm, he⟩ := cnumF_mem hc
        have h3 := of_decide_eq_true (List.all_eq_true.1 clls_num m hm)
        show 0 ≤ q.num ∧ q.num < 4294967296
        rw [← he]
        exact h3
    · intro c hc
      obtain ⟨d, hd, rfl⟩ := List.mem_map.1 hc
      have h4 := hq2.conds d hd
      have h5 := hr.c q hq d hd
      have h6 := h4.arg
      have h7 := h4.op2
      exact ⟨⟨by show (-9223372036854775808 : Int) ≤ ((d.arg : Nat) : Int); omega, by show ((d.arg : Nat) : Int) < 9223372036854775808; omega⟩, by show d.op < 256; omega, by show d.mask < _; omega, by show d.val < _; omega⟩
  · have h1 := h.hd
    have h2 := Nat.and_le_right (n := P.hd) (m := 51199)
    show P.hd < 65536
    omega
  · intro p hp
    have h1 := (h.paths p hp).1
    have h2 := (wP_ok h1).2
    have h3 := (h.paths p hp).2.2.2
    have h4 := Nat.and_le_right (n := p.2) (m := 2047)
    exact ⟨by omega, by omega⟩
  · intro p hp
    have h1 := h.ports p hp
    have h4 := Nat.and_le_right (n := p.2) (m := 49152)
    exact ⟨h1.1, by omega⟩
theorem pol_check {P : Pol} (h : PolOk P) : chkG P.g = 0 := (chkG_z h.df0 (fun r hr => (h.rules r hr).act0) fun p hp => (h.ports p hp).1).2 h
theorem pol_cl {P : Pol} (h : PolOk P) : ∀ r ∈ P.rules, r.conds.length ≤ maxLen := by
  intro r hr
  have := (h.rules r hr).len
  unfold maxLen; omega
theorem polF_cases (l : List UInt8) : (∃ P, polF l = (P, (0, 0, 0)) ∧ PolOk P ∧ PolRn P) ∨ ∃ a b c, polF l = (zPol, (a, b, c)) ∧ c ≠ 0 := by
  rcases polF_ok l with ⟨h1, h2⟩ | ⟨h1, h2⟩
  · exact Or.inl ⟨_, Prod.ext rfl h1, h2⟩
  · exact Or.inr ⟨_, _, _, Prod.ext h2 rfl, h1⟩
theorem check_g {S w0} {pb ct rb : Nat} {L0 : List Blk} (P : Pol) (hP : PolOk P) (hR : PolRn P) (n : Nat) (M L B E E2 : List Blk) (r1 p1 q1 : Option Addr) (r3 p3 q3 : Nat) (hM : PrE pb ct rb n L0 M) (hS : PolS E P.g (.slice r1 P.rules.length r3) (.slice p1 P.paths.length p3) (.slice q1 P.ports.length q3)) (hn : n ≤ 90000) (hL : Tl L B (E ++ (E2 ++ M))) :
    Fn Tryz.prog 17 #[.agg #[.string (mB8 P.nm), .int .u32 P.df, .slice r1 P.rules.length r3, .int .u16 (P.hd : Nat), .slice p1 P.paths.length p3, .slice q1 P.ports.length q3], .pointer (some ⟨ct, 0, none⟩)] S w0 L fun v L' => ∃ n' M', v = .int .i64 0 ∧ n' ≤ n + 64 ∧ PrE pb ct rb n' L0 M' ∧ B ++ (E ++ (E2 ++ M')) = L' := by
  have e : P.g.rules.length = P.rules.length := List.length_map ..
  have h6 := hP.l1
  refine (check_t (S := S) (w0 := w0) P.g (pol_gok hP hR) (by omega) hM hS hn hL).mono ?_
  rintro v L' ⟨n', M', rfl, hn', hM', rfl⟩
  exact ⟨_, ⟨n', M', by rw [pol_check hP]; rfl, by omega, hM', rfl⟩, fun _ H => H⟩
theorem same_g {S w0} {L B E1 E2 R : List Blk} (P : Pol) {r1 p1 q1 r2 p2 q2 : Option Addr} {r3 p3 q3 r4 p4 q4 : Nat} (h1 : PolS E1 P.g (.slice r1 P.rules.length r3) (.slice p1 P.paths.length p3) (.slice q1 P.ports.length q3)) (h2 : PolS E2 P.g (.slice r2 P.rules.length r4) (.slice p2 P.paths.length p4) (.slice q2 P.ports.length q4)) (hL : Tl L B (E1 ++ (E2 ++ R))) :
    Fn Tryz.prog 14 #[.agg #[.string (mB8 P.nm), .int .u32 P.df, .slice r1 P.rules.length r3, .int .u16 (P.hd : Nat), .slice p1 P.paths.length p3, .slice q1 P.ports.length q3], .agg #[.string (mB8 P.nm), .int .u32 P.df, .slice r2 P.rules.length r4, .int .u16 (P.hd : Nat), .slice p2 P.paths.length p4, .slice q2 P.ports.length q4]] S w0 L fun v L' => v = .bool true ∧ L = L' :=
  same_t (S := S) (w0 := w0) P.g h1 h2 hL
end Go.Proofs.YtecbgehooembmaaGreatDoor
namespace Go.Proofs.YtecbgehooembmaaGreatDoor
open Go Go.RowKit
def wdsA : List Value := [.string ⟨#[112, 111, 108, 105, 99, 121]⟩, .string ⟨#[100, 101, 102, 97, 117, 108, 116]⟩, .string ⟨#[99, 97, 108, 108]⟩, .string ⟨#[104, 97, 110, 100, 108, 101]⟩, .string ⟨#[98, 101, 110, 101, 97, 116, 104]⟩, .string ⟨#[112, 111, 114, 116]⟩, .string ⟨#[105, 102]⟩, .string ⟨#[97, 110, 100]⟩, .string ⟨#[97, 114, 103, 48]⟩, .string ⟨#[97, 114, 103, 54]⟩, .string ⟨#[61, 61]⟩, .string ⟨#[38]⟩, .string ⟨#[49]⟩, .string ⟨#[55, 48, 48, 48, 48]⟩, .string ⟨#[47, 97]⟩, .string ⟨#[114, 101, 97, 100]⟩, .string ⟨#[114, 101, 97, 100, 44, 119, 114, 105, 116, 101]⟩, .string ⟨#[111, 112, 101, 110]⟩, .string ⟨#[97, 108, 108, 111, 119]⟩, .string ⟨#[107, 105, 108, 108]⟩, .string ⟨#[101, 114, 114, 110, 111]⟩, .string ⟨#[10]⟩, .string ⟨#[10]⟩, .string ⟨#[112]⟩]
theorem wdsA_all : (wdsA.all fun v => match v with | .string s => decide (s.size ≤ 10) | _ => false) = true := by decide +kernel
theorem wdsA_at (k : Nat) (h : k < 24) : ∃ z, wdsA.toArray.toList[k]? = some (.string z) ∧ z.size ≤ 10 := by
  have hl : k < wdsA.length := h
  have h1 := List.all_eq_true.1 wdsA_all _ (List.getElem_mem hl)
  have h2 : wdsA.toArray.toList[k]? = some (wdsA[k]'hl) := List.getElem?_eq_getElem hl
  rw [h2]
  generalize wdsA[k]'hl = v at *
  cases v
  all_goals (first | (exact ⟨_, rfl, of_decide_eq_true h1⟩) | (cases h1))
section
variable {n : Nat} {l : List (Nat × Value)} {S : List Nat} {w0 : World} {L : List Blk}
abbrev GpA := Nat × Nat × Nat × (List Blk × List Blk) × (Option Addr × Nat) × (Option Addr × Nat) × (Option Addr × Nat)
theorem G_meetPA {R : GpA → Prop} {l' : GpA → List (Nat × Value)} {L' : GpA → List Blk} {a b c : Nat} {d e : List Blk} {r1 p1 q1 : Option Addr} {r3 p3 q3 : Nat} (hR : R (a, b, c, (d, e), (r1, r3), (p1, p3), (q1, q3))) (hs : Sub l (l' (a, b, c, (d, e), (r1, r3), (p1, p3), (q1, q3)))) (hL : ∀ w, HP S w0 w L → HP S w0 w (L' (a, b, c, (d, e), (r1, r3), (p1, p3), (q1, q3)))) :
    G n l S w0 L (At n S w0 R l' L') := G_meet _ hR hs hL
end
set_option maxRecDepth 100000 in
set_option maxHeartbeats 2000000 in
theorem parseAny_c {S w0 L} (s : ByteArray) (hs : s.size ≤ maxLen) (l : List Int) (hl : ∀ c ∈ l, 0 ≤ c ∧ c < 256) (hm : l.length ≤ maxLen) (a : Option Addr) (cap : Nat) (hsl : Sli L a l.length 1 (u8l l)) :
    Fn Tryz.prog 7 #[.string s, .slice a l.length cap] S w0 L fun v L' => v = .bool true ∧ L = L' := by
  unfold maxLen at hs hm
  refine Fn2 Tryz.func7 Tryz.ntmps7 rfl rfl ?_
  by_cases h300 : s.size > 300
  · repeat' (first | refine G_seq ?_ | refine G_then_n ?_ | refine G_then_r ?_ | refine G_skip ?_ | refine G_ret ?_ | refine G_cond_t rfl ?_ | refine G_cond_f rfl ?_ | (refine G_region (id := 0) ?_ <;> (try refine q_a ?_) <;> (try refine G_nil ?_)) | (refine G_region (id := 1) ?_ <;> (try refine G_op1 ?_; (refine q_c 8 (c := by apply awake10_c) (h := ?_); rintro _ _ ⟨rfl, rfl⟩; (try simp only [List.eraseIdx_cons_succ]); (try simp only [List.eraseIdx_cons_zero]))) <;> (try refine q_e (by apply E_un; exact rfl; exact ru_not_t) ?_) <;> (try refine G_nil ?_)) | (refine G_region (id := 3) ?_ <;> (try refine q_m ?_) <;> (try refine q_e (E_builtin rfl (fun _ => BigFrame.builtin_len ..) (r_len_string Tryz.underlying9)) ?_) <;> (try refine q_e (q_b (r := by exact rb_gtr_t q_o)) ?_) <;> (try refine G_nil ?_)) | (refine G_region (id := 4) ?_ <;> (try refine q_a ?_) <;> (try refine G_nil ?_)))
    (refine G_done Tryz.results7 (.tmp rfl .nil) ?_)
    exact ⟨_, ⟨rfl, rfl⟩, by intro w H; refine H.sub ?_; (try simp only [List.cons_append, List.nil_append]); repeat (exact List.Sublist.refl _)⟩
  repeat' (first | (refine G_markb (id := 0) ?_) | refine G_seq ?_ | refine G_then_n ?_ | refine G_skip ?_ | refine G_cond_f rfl ?_ | (refine G_region (id := 0) ?_ <;> (try refine q_a ?_) <;> (try refine G_nil ?_)) | (refine G_region (id := 1) ?_ <;> (try refine G_op1 ?_; (refine q_c 8 (c := by apply awake10_c) (h := ?_); rintro _ _ ⟨rfl, rfl⟩; (try simp only [List.eraseIdx_cons_succ]); (try simp only [List.eraseIdx_cons_zero]))) <;> (try refine q_e (by apply E_un; exact rfl; exact ru_not_t) ?_) <;> (try refine G_nil ?_)) | (refine G_region (id := 3) ?_ <;> (try refine q_m ?_) <;> (try refine q_e (E_builtin rfl (fun _ => BigFrame.builtin_len ..) (r_len_string Tryz.underlying9)) ?_) <;> (try refine q_e (q_b (r := by exact rb_gtr_f q_o)) ?_) <;> (try refine G_nil ?_)) | (refine G_region (id := 5) ?_ <;> (try refine G_op1 ?_; (refine K1_buildSlice (t := 56) (m := 24) (e := 9) (fun vs => (match vs with | [(_, x0), (_, x1), (_, x2), (_, x3), (_, x4), (_, x5), (_, x6), (_, x7), (_, x8), (_, x9), (_, x10), (_, x11), (_, x12), (_, x13), (_, x14), (_, x15), (_, x16), (_, x17), (_, x18), (_, x19), (_, x20), (_, x21), (_, x22), (_, x23)] => [x0, x1, x2, x3, x4, x5, x6, x7, x8, x9, x10, x11, x12, x13, x14, x15, x16, x17, x18, x19, x20, x21, x22, x23] | _ => [])) rfl rfl (fun w => by kernel_rfl) ?_; intro nb hnb; (try simp only [Value.cells]); (try simp only [List.cons_append]); (try simp only [List.nil_append]))) <;> (try refine q_a ?_) <;> (try refine G_nil ?_)) | (refine G_region (id := 6) ?_ <;> (try refine q_a ?_) <;> (try refine G_nil ?_)) | (refine G_region (id := 7) ?_ <;> (try refine q_m ?_) <;> (try refine q_e (by apply E_builtin; exact rfl; exact (fun _ => BigFrame.builtin_len ..); apply r_len_slice_e Tryz.underlying45; exact c_19) ?_) <;> (try refine q_m ?_) <;> (try refine G_nil ?_)))
  refine ⟨?_⟩
  obtain ⟨nbW, rfl⟩ : ∃ x, x = nb := ⟨_, rfl⟩
  refine G_meetk (γ := ByteArray) (fun t => t.size ≤ 660) (fun t => [(6, .string t)]) [(0, _)] (fun _ => ⟨true, nbW, .cells wdsA.toArray 9 (0, 0)⟩ :: L) (.cons rfl .nil) ?_ ?_
  · refine G_block ?_
    refine G_loopk (γ := Nat × ByteArray) (fun g => g.1 ≤ l.length ∧ g.2.size ≤ 11 * min g.1 60) (fun g => l.length - g.1) (fun g => [(6, .string g.2), (24, .int .i64 (g.1 : Nat))]) [(0, _), (5, _), (22, _), (23, _)]
      (fun _ => ⟨true, nbW, .cells wdsA.toArray 9 (0, 0)⟩ :: L) (0, ⟨#[]⟩) (.cons rfl (.cons rfl (.cons rfl (.cons rfl .nil)))) ⟨Nat.zero_le _, by decide⟩ (by (focus (repeat (first | exact Sub.nil | refine Sub.cons rfl ?_)))) (fun _ H => H) ?_
    rintro ⟨k, p⟩ ⟨hk, hp⟩
    dsimp only at hk hp ⊢
    by_cases hlt : k < l.length
    · obtain ⟨i0, q, b, off, cs, T, fr, rfl, hi0, hsz, hx⟩ := (hsl.up ⟨true, nbW, .cells wdsA.toArray 9 (0, 0)⟩).elem1 hlt
      obtain ⟨x, hxe⟩ : ∃ x, x = l[k] := ⟨_, rfl⟩
      have hxr : 0 ≤ x ∧ x < 256 := hxe ▸ hl _ (List.getElem_mem hlt)
      rw [u8l, List.getElem?_map, List.getElem?_eq_getElem hlt, Option.map_some, ← hxe] at hx
      clear hxe
      have hx10 : (x % 24).toNat < 24 := by omega
      obtain ⟨z, hz, hzs⟩ := wdsA_at (x % 24).toNat hx10
      have hpl9 : wdsA.toArray.size = 24 := rfl
      generalize wdsA = ps at *
      by_cases h30 : k < 60
      · have d1 : (⟨#[32]⟩ : ByteArray).size = 1 := rfl
        repeat' (first | refine G_seq ?_ | refine G_then_n ?_ | refine G_cut_n ?_ | refine G_blk_n ?_ | refine G_block ?_ | refine G_skip ?_ | refine G_cond_t rfl ?_ | (refine G_region (id := 8) ?_ <;> (try refine q_e (q_b (r := by exact rb_lss_t q_o)) ?_) <;> (try refine G_nil ?_)) | (refine G_region (id := 9) ?_ <;> (try refine q_m ?_) <;> (try refine q_e (by apply E_indexAddr; exact rfl; exact rfl; (focus (apply r_ixs Tryz.underlying45 sz_5; omega; omega; exact c_1))) ?_) <;> (try refine q_e (by apply E_load1 (t := 5); exact rfl; exact c_20; kernel_rfl; kernel_rfl; (with_reducible assumption)) ?_) <;> (try refine q_a ?_) <;> (try refine q_a ?_) <;> (try refine G_nil ?_)) | (refine G_region (id := 10) ?_ <;> (try refine q_m ?_) <;> (try refine q_e (q_b (r := by exact rb_lss_t q_o)) ?_) <;> (try refine G_nil ?_)) | (refine G_region (id := 11) ?_ <;> (try refine q_m ?_) <;> (try refine q_m ?_) <;> (try refine q_m ?_) <;> (try refine q_e (by apply E_conv; exact rfl; (focus (apply r_conv Tryz.underlying5 Tryz.underlying3; first | (refine IntWalk.i64_in _ ?_; omega) | (refine IntWalk.u8_in _ ?_; omega) | (refine IntWalk.u16_in _ ?_; omega) | (refine IntWalk.u32_in _ ?_; omega) | (refine IntWalk.u64_in _ ?_; omega) | (refine IntWalk.i32_in _ ?_; omega) | exact rfl))) ?_) <;> (try refine q_m ?_) <;> (try refine q_e (by apply E_builtin; exact rfl; exact (fun _ => BigFrame.builtin_len ..); apply r_len_slice_e Tryz.underlying56; exact c_19) ?_) <;> (try refine q_e (q_b (r := by apply rb_rem; omega; omega; exact c_5)) ?_) <;> (try refine q_e (by apply E_indexAddr; exact rfl; exact rfl; (focus (apply r_ixs Tryz.underlying56 sz_9; omega; omega; exact c_1))) ?_) <;> (try refine q_e (by apply E_load1 (t := 9); exact rfl; exact fd0; kernel_rfl; kernel_rfl; (with_reducible assumption)) ?_) <;> (try refine q_e (q_b (r := by apply rb_stradd; exact rfl; (focus (omega)))) ?_) <;> (try refine q_e (q_b (r := by apply rb_stradd; exact rfl; (focus (simp only [ByteArray.size_append]; omega)))) ?_) <;> (try refine q_a ?_) <;> (try refine G_nil ?_)) | (refine G_region (id := 12) ?_ <;> (try refine q_e (q_b (r := by apply rb_add; exact c_5; (focus (refine IntWalk.i64_in _ ?_; omega)))) ?_) <;> (try refine q_m ?_) <;> (try refine G_nil ?_)))
        refine G_meet (k + 1, p ++ (z ++ ⟨#[32]⟩)) ⟨⟨by show k + 1 ≤ _; omega, by simp only [ByteArray.size_append]; omega⟩, by show _ - (k + 1) < _ - k; omega⟩ (by (focus (repeat (first | exact Sub.nil | refine Sub.cons rfl ?_)))) (fun _ H => H)
      · repeat' (first | refine G_seq ?_ | refine G_then_n ?_ | refine G_cut_n ?_ | refine G_blk_n ?_ | refine G_block ?_ | refine G_skip ?_ | refine G_cond_t rfl ?_ | refine G_cond_f rfl ?_ | (refine G_region (id := 8) ?_ <;> (try refine q_e (q_b (r := by exact rb_lss_t q_o)) ?_) <;> (try refine G_nil ?_)) | (refine G_region (id := 9) ?_ <;> (try refine q_m ?_) <;> (try refine q_e (by apply E_indexAddr; exact rfl; exact rfl; (focus (apply r_ixs Tryz.underlying45 sz_5; omega; omega; exact c_1))) ?_) <;> (try refine q_e (by apply E_load1 (t := 5); exact rfl; exact c_20; kernel_rfl; kernel_rfl; (with_reducible assumption)) ?_) <;> (try refine q_a ?_) <;> (try refine q_a ?_) <;> (try refine G_nil ?_)) | (refine G_region (id := 10) ?_ <;> (try refine q_m ?_) <;> (try refine q_e (q_b (r := by exact rb_lss_f q_o)) ?_) <;> (try refine G_nil ?_)) | (refine G_region (id := 12) ?_ <;> (try refine q_e (q_b (r := by apply rb_add; exact c_5; (focus (refine IntWalk.i64_in _ ?_; omega)))) ?_) <;> (try refine q_m ?_) <;> (try refine G_nil ?_)))
        refine G_meet (k + 1, p) ⟨⟨by show k + 1 ≤ _; omega, by dsimp only; omega⟩, by show _ - (k + 1) < _ - k; omega⟩ (by (focus (repeat (first | exact Sub.nil | refine Sub.cons rfl ?_)))) (fun _ H => H)
    · repeat' (first | refine G_seq ?_ | refine G_then_n ?_ | refine G_cut_n ?_ | refine G_cut_x ?_ | refine G_then_x ?_ | refine G_blk_x ?_ | refine G_exit ?_ | refine G_cond_f rfl ?_ | (refine G_region (id := 8) ?_ <;> (try refine q_e (q_b (r := by exact rb_lss_f q_o)) ?_) <;> (try refine G_nil ?_)))
      exact G_meet p (by omega) (by (focus (repeat (first | exact Sub.nil | refine Sub.cons rfl ?_)))) (fun _ H => H)
  rintro tx htx
  have d2 : (⟨#[112, 111, 108, 105, 99, 121, 32, 112, 10, 100, 101, 102, 97, 117, 108, 116, 32, 97, 108, 108, 111, 119, 10]⟩ : ByteArray).size = 23 := rfl
  have d3 : (⟨#[112, 111, 108, 105, 99, 121, 32, 112, 10, 100, 101, 102, 97, 117, 108, 116, 32, 108, 111, 103, 10, 104, 97, 110, 100, 108, 101, 32, 114, 101, 97, 100, 44, 119, 114, 105, 116, 101, 44, 98, 105, 110, 100, 10]⟩ : ByteArray).size = 44 := rfl
  have d4 : (⟨#[112, 111, 108, 105, 99, 121, 32, 112, 10, 100, 101, 102, 97, 117, 108, 116, 32, 108, 111, 103, 10, 104, 97, 110, 100, 108, 101, 32, 114, 101, 97, 100, 44, 119, 114, 105, 116, 101, 44, 98, 105, 110, 100, 10]⟩ : ByteArray).size + tx.size ≤ maxLen := by rw [d3]; unfold maxLen; omega
  repeat' (first | (refine G_markb (id := 2) ?_) | refine G_seq ?_ | refine G_then_n ?_ | (refine G_region (id := 13) ?_ <;> (try refine G_op1 ?_; (refine q_c 9 (c := by apply new_x) (h := ?_); rintro _ _ ⟨pb, ct, rb, rfl, hM⟩; (try simp only [List.eraseIdx_cons_succ]); (try simp only [List.eraseIdx_cons_zero]))) <;> (try refine q_a ?_) <;> (try refine G_nil ?_)) | (refine G_region (id := 14) ?_ <;> (try refine q_m ?_) <;> (try refine q_m ?_) <;> (try refine q_m ?_) <;> (try refine q_e (q_b (r := by apply rb_stradd; exact rfl; (focus (omega)))) ?_) <;> (try refine q_m ?_) <;> (try refine q_e (q_b (r := by apply rb_stradd; exact rfl; (focus (assumption)))) ?_) <;> (try refine G_op1 ?_; (refine K1_buildSlice (t := 56) (m := 4) (e := 9) (fun vs => (match vs with | [(_, x0), (_, x1), (_, x2), (_, x3)] => [x0, x1, x2, x3] | _ => [])) rfl rfl (fun w => by kernel_rfl) ?_; intro nb hnb; (try simp only [Value.cells]); (try simp only [List.cons_append]); (try simp only [List.nil_append]))) <;> (try refine q_e (by apply E_builtin; exact rfl; exact (fun _ => BigFrame.builtin_len ..); apply r_len_slice_e Tryz.underlying56; exact c_19) ?_) <;> (try refine q_m ?_) <;> (try refine G_nil ?_)))
  refine ⟨?_⟩
  obtain ⟨nbS, rfl⟩ : ∃ x, x = nb := ⟨_, rfl⟩
  obtain ⟨cs4, hcs⟩ : ∃ c : Array Value, c = #[.string s, .string tx, .string ((⟨#[112, 111, 108, 105, 99, 121, 32, 112, 10, 100, 101, 102, 97, 117, 108, 116, 32, 97, 108, 108, 111, 119, 10]⟩ : ByteArray) ++ tx), .string ((⟨#[112, 111, 108, 105, 99, 121, 32, 112, 10, 100, 101, 102, 97, 117, 108, 116, 32, 108, 111, 103, 10, 104, 97, 110, 100, 108, 101, 32, 114, 101, 97, 100, 44, 119, 114, 105, 116, 101, 44, 98, 105, 110, 100, 10]⟩ : ByteArray) ++ tx)] := ⟨_, rfl⟩
  have h4 : cs4.size = 4 ∧ ∀ k, k < 4 → ∃ t, cs4.toList[k]? = some (.string t) ∧ t.size ≤ 2000 := by
    rw [hcs]
    refine ⟨rfl, fun k hk => ?_⟩
    match k, hk with
    | 0, _ => exact ⟨_, rfl, by omega⟩
    | 1, _ => exact ⟨_, rfl, by omega⟩
    | 2, _ => exact ⟨_, rfl, by rw [ByteArray.size_append, d2]; omega⟩
    | 3, _ => exact ⟨_, rfl, by rw [ByteArray.size_append, d3]; omega⟩
  obtain ⟨hz4, h4⟩ := h4
  clear d2 d3 d4 htx hsl hl hm
  refine G_block ?_
  refine G_loopk (γ := Nat × Nat × List Blk) (fun g => g.1 ≤ 4 ∧ g.2.1 ≤ 300 * g.1 ∧ PrE pb ct rb g.2.1 (⟨true, nbW, .cells wdsA.toArray 9 (0, 0)⟩ :: L) g.2.2) (fun g => 4 - g.1) (fun g => [(52, .int .i64 (g.1 : Nat))]) [(9, _), (50, _), (51, _)]
    (fun g => ⟨true, nbS, .cells cs4 9 (0, 0)⟩ :: g.2.2) (0, 0, _) (.cons rfl (.cons rfl (.cons rfl .nil))) ⟨Nat.zero_le _, Nat.zero_le _, hM⟩ (by (focus (repeat (first | exact Sub.nil | refine Sub.cons rfl ?_)))) (by intro w H; rw [hcs]; exact H) ?_
  clear hM hcs
  generalize hL0 : (⟨true, nbW, .cells wdsA.toArray 9 (0, 0)⟩ :: L : List Blk) = L0
  rintro ⟨k, n, M⟩ ⟨hk, hn, hM⟩
  dsimp only at hk hn hM ⊢
  by_cases hlt : k < 4
  case neg =>
    repeat' (first | refine G_seq ?_ | refine G_then_n ?_ | refine G_cut_x ?_ | refine G_then_x ?_ | refine G_blk_x ?_ | refine G_exit ?_ | refine G_ret ?_ | refine G_cond_f rfl ?_ | (refine G_region (id := 15) ?_ <;> (try refine q_e (q_b (r := by exact rb_lss_f q_o)) ?_) <;> (try refine G_nil ?_)) | (refine G_region (id := 25) ?_ <;> (try refine q_a ?_) <;> (try refine G_nil ?_)))
    (refine G_done Tryz.results7 (.tmp rfl .nil) ?_)
    exact ⟨_, ⟨rfl, rfl⟩, fun w H => (H.sub (((hL0 ▸ List.sublist_cons_self _ _ : L.Sublist L0).trans hM.sub).trans (List.sublist_cons_self _ _)))⟩
  obtain ⟨t, ht, hts⟩ := h4 k hlt
  rcases polF_cases (lB t) with ⟨P, hP, hok, hrn⟩ | ⟨a, b, c, hP, hc⟩
  · have hb := (polL_ok P hok hrn).2
    have hP2 : polF (lB (mB8 (polT P))) = (P, (0, 0, 0)) := by rw [lB_mB8]; exact pol_back P hok hrn
    have hz2 : (mB8 (polT P)).size ≤ 55000 := by rw [mB8_size]; exact hb
    have hp1 := fun (n : Nat) (M L B : List Blk) => parse_t (S := S) (w0 := w0) (pb := pb) (ct := ct) (rb := rb) (n := n) (L0 := L0) (M := M) (L := L) (B := B) t (by omega) P 0 0 0 hP (pol_cl hok)
    have hp2 := fun (n : Nat) (M L B : List Blk) => parse_t (S := S) (w0 := w0) (pb := pb) (ct := ct) (rb := rb) (n := n) (L0 := L0) (M := M) (L := L) (B := B) (mB8 (polT P)) (by omega) P 0 0 0 hP2 (pol_cl hok)
    have hxt := fun (n : Nat) (M L B E : List Blk) (r1 p1 q1 : Option Addr) (r3 p3 q3 : Nat) => text_t (S := S) (w0 := w0) (pb := pb) (ct := ct) (rb := rb) (n := n) (L0 := L0) (M := M) (L := L) (B := B) (E := E) P hok hrn (r1 := r1) (p1 := p1) (q1 := q1) (r3 := r3) (p3 := p3) (q3 := q3)
    have hck := check_g (S := S) (w0 := w0) (pb := pb) (ct := ct) (rb := rb) (L0 := L0) P hok hrn
    have hsm := fun (L B E1 E2 R : List Blk) (r1 p1 q1 r2 p2 q2 : Option Addr) (r3 p3 q3 r4 p4 q4 : Nat) => same_g (S := S) (w0 := w0) (L := L) (B := B) (E1 := E1) (E2 := E2) (R := R) P (r1 := r1) (p1 := p1) (q1 := q1) (r2 := r2) (p2 := p2) (q2 := q2) (r3 := r3) (p3 := p3) (q3 := q3) (r4 := r4) (p4 := p4) (q4 := q4)
    have hcl := fun (n : Nat) (M L B : List Blk) => calls_t (S := S) (w0 := w0) (pb := pb) (ct := ct) (rb := rb) (n := n) (L0 := L0) (M := M) (L := L) (B := B)
    have hlr := hok.l1
    have hq0 : RBin Tryz.prog .neq 25 (.agg #[.int .i64 0, .int .i64 0, .int .i64 0]) (.agg #[.int .i64 0, .int .i64 0, .int .i64 0]) (.bool false) := by
      have := wr_ne 0 0 0
      rw [decide_eq_true (rfl : ((0, 0, 0) : Wr) = (0, 0, 0))] at this
      exact this
    have z0 : ((0 : Nat) : Int) = 0 := rfl
    simp only [z0] at hp1 hp2
    clear z0 hP hP2 hb hok hrn
    generalize mB8 (polT P) = bt at *
    generalize mB8 P.nm = nm at *
    generalize P.g = G at *
    generalize P.rules.length = lr at *
    generalize P.paths.length = lp at *
    generalize P.ports.length = lq at *
    generalize P.df = df at *
    generalize P.hd = hd at *
    clear P
    repeat' (first | (refine G_markr (id := 21) ?_) | refine G_seq ?_ | refine G_then_n ?_ | refine G_block ?_ | refine G_skip ?_ | refine G_cond_t rfl ?_ | refine G_cond_f rfl ?_ | (refine G_region (id := 15) ?_ <;> (try refine q_e (q_b (r := by exact rb_lss_t q_o)) ?_) <;> (try refine G_nil ?_)) | (refine G_region (id := 16) ?_ <;> (try refine q_e (by apply E_indexAddr; exact rfl; exact rfl; (focus (apply r_ixs Tryz.underlying56 sz_9; omega; omega; exact c_1))) ?_) <;> (try refine q_e (by apply E_load1 (t := 9); exact rfl; exact fd0; kernel_rfl; kernel_rfl; (with_reducible assumption)) ?_) <;> (try refine q_a ?_) <;> (try refine G_nil ?_)) | (refine G_region (id := 17) ?_ <;> (try refine q_m ?_) <;> (try refine q_m ?_) <;> (try refine G_op1 ?_; ((refine q_c 10 (c := by apply hp1; (with_reducible assumption); (focus (omega)); (focus ((try simp only [List.cons_append]); (try simp only [List.nil_append]); (repeat' (first | (with_reducible exact Tl.nil _) | (with_reducible apply Tl.cons)))))) (h := ?_); rintro _ _ ⟨r1, p1, q1, r3, p3, q3, E, n1, M1, rfl, hS, hn1, hM1, rfl⟩; (try simp only [List.eraseIdx_cons_succ]); (try simp only [List.eraseIdx_cons_zero])); (try simp only [List.cons_append]); (try simp only [List.nil_append]))) <;> (try refine q_m ?_) <;> (try refine q_x ?_) <;> (try refine q_x ?_) <;> (try refine G_op1 ?_; (refine K1_alloc (t := 36) rfl Tryz.zeroValue36 ?_; intro nb hnb; (try simp only [Value.cells]))) <;> (try refine G_op1 ?_; (refine K1_alloc (t := 25) rfl Tryz.zeroValue25 ?_; intro nb hnb; (try simp only [Value.cells]))) <;> (try refine G_op1 ?_; (refine q_W ?_)) <;> (try refine G_op1 ?_; (refine q_W ?_)) <;> (try refine G_nil ?_)) | (refine G_region (id := 18) ?_ <;> (try refine q_e (q_L sz_25) ?_) <;> (try refine q_e (by exact E_build (t := 25) (fun vs => (match vs with | [] => [Value.int .i64 0, Value.int .i64 0, Value.int .i64 0] | _ => [])) rfl (fun w => by kernel_rfl)) ?_; (try simp only [Value.cells]); (try simp only [List.cons_append]); (try simp only [List.nil_append])) <;> (try refine q_e (by apply E_bin_agg (op := .neq) (t := 25); exact rfl; exact rfl; kernel_rfl; (with_reducible assumption)) ?_) <;> (try refine G_nil ?_)))
    refine ⟨?_⟩
    rename_i n12 h12
    obtain ⟨n13, rfl⟩ : ∃ x, x = nb := ⟨_, rfl⟩
    refine G_meetk (γ := GpA)
      (fun g => g.2.2.1 ≤ n + 230 ∧ PrE pb ct rb g.2.2.1 L0 g.2.2.2.1.2 ∧ PolS g.2.2.2.1.1 G (.slice g.2.2.2.2.1.1 lr g.2.2.2.2.1.2) (.slice g.2.2.2.2.2.1.1 lp g.2.2.2.2.2.1.2) (.slice g.2.2.2.2.2.2.1 lq g.2.2.2.2.2.2.2))
      (fun g => [(14, .pointer (some ⟨g.1, 0, none⟩)), (15, .pointer (some ⟨g.2.1, 0, none⟩))]) [(9, _), (12, _), (50, _), (51, _), (52, _)]
      (fun g => ⟨true, g.2.1, .cells #[.int .i64 0, .int .i64 0, .int .i64 0] 25 (0, 0)⟩ :: ⟨true, g.1, .cells #[.string nm, .int .u32 df, .slice g.2.2.2.2.1.1 lr g.2.2.2.2.1.2, .int .u16 (hd : Nat), .slice g.2.2.2.2.2.1.1 lp g.2.2.2.2.2.1.2, .slice g.2.2.2.2.2.2.1 lq g.2.2.2.2.2.2.2] 36 (0, 0)⟩ :: ⟨true, n13, .cells #[.int .i64 0, .int .i64 0, .int .i64 0] 25 (0, 0)⟩ :: ⟨true, n12, .cells #[.string nm, .int .u32 df, .slice r1 lr r3, .int .u16 (hd : Nat), .slice p1 lp p3, .slice q1 lq q3] 36 (0, 0)⟩ :: ⟨true, nbS, .cells cs4 9 (0, 0)⟩ :: (E ++ (g.2.2.2.1.1 ++ g.2.2.2.1.2))) (.cons rfl (.cons rfl (.cons rfl (.cons rfl (.cons rfl .nil))))) ?_ ?_
    · clear hp1 hck hsm
      repeat' (first | refine G_cut_n ?_ | ((refine G_regionHp (pre := [_, _, _]) (id := 21) (m := 13) rfl (by kernel_rfl) rfl ?_) <;> (try refine q_t 0 (e := c_10) (x := by exact E_move rfl) (h := ?_)) <;> (try refine q_t 1 (e := c_10) (x := by exact q_L sz_36) (h := ?_)) <;> (try refine q_t 2 (e := c_10) (x := by exact E_move rfl) (h := ?_)) <;> (try refine H_run3t (i := 3) (j := 9) (m := 10) rfl rfl rfl (by kernel_rfl) ?_ ?_ ?_ <;> (first | (refine TagA.mk ?_; (((refine q_c 11 (c := by apply hcl; (with_reducible assumption); (focus ((try simp only [List.cons_append]); (try simp only [List.nil_append]); (repeat' (first | (with_reducible exact Tl.one _ _) | (with_reducible apply Tl.cons)))))) (h := ?_); rintro _ _ ⟨rfl, rfl⟩; (try simp only [List.eraseIdx_cons_succ]); (try simp only [List.eraseIdx_cons_zero])); refine H_go c_10 ?_) <;> (try refine H_run3t (i := 4) (j := 9) (m := 10) rfl rfl rfl (by kernel_rfl) ?_ ?_ ?_ <;> (first | (refine TagA.mk ?_; ((((refine q_c 13 (c := by apply hxt; (with_reducible assumption); (with_reducible assumption); (focus (omega)); (focus ((try simp only [List.cons_append]); (try simp only [List.nil_append]); (repeat' (first | (with_reducible exact Tl.nil _) | (with_reducible apply Tl.cons)))))) (h := ?_); rintro _ _ ⟨M2, rfl, hM2, rfl⟩; (try simp only [List.eraseIdx_cons_succ]); (try simp only [List.eraseIdx_cons_zero])); (try simp only [List.cons_append]); (try simp only [List.nil_append])); refine H_go c_10 ?_) <;> (try refine H_run3t (i := 5) (j := 9) (m := 10) rfl rfl rfl (by kernel_rfl) ?_ ?_ ?_ <;> (first | (refine TagA.mk ?_; ((((refine q_c 10 (c := by apply hp2; (with_reducible assumption); (focus (omega)); (focus ((try simp only [List.cons_append]); (try simp only [List.nil_append]); (repeat' (first | (with_reducible exact Tl.one _ _) | (with_reducible apply Tl.cons)))))) (h := ?_); rintro _ _ ⟨r2, p2, q2, r4, p4, q4, E2, n3, M3, rfl, hS2, hn3, hM3, rfl⟩; (try simp only [List.eraseIdx_cons_succ]); (try simp only [List.eraseIdx_cons_zero])); (try simp only [List.cons_append]); (try simp only [List.nil_append])); refine H_go c_10 ?_) <;> (try refine q_t 6 (e := c_10) (x := by exact E_move rfl) (h := ?_)) <;> (try refine q_t 7 (e := c_10) (x := by exact E_extractL rfl rfl) (h := ?_)) <;> (try refine q_t 8 (e := c_10) (x := by exact E_extractL rfl rfl) (h := ?_)) <;> (try refine H_run2t (i := 9) (j := 10) rfl rfl (by kernel_rfl) ?_ ?_ <;> (first | (refine TagA.mk ?_; (((refine K1_alloc (t := 36) rfl Tryz.zeroValue36 ?_; intro nb hnb; (try simp only [Value.cells])); refine H_go c_8 ?_) <;> (try refine q_r 10 ?_; (refine K1_alloc (t := 25) rfl Tryz.zeroValue25 ?_; intro nb hnb; (try simp only [Value.cells])); refine H_go c_8 ?_) <;> (try refine q_r 11 ?_; (refine q_W ?_); refine H_go c_8 ?_) <;> (try refine q_r 12 ?_; (refine q_W ?_); refine H_go c_8 ?_) <;> (try refine H_done (by kernel_rfl) ?_))) | (refine TagB.mk ?_; (((refine K1_alloc (t := 25) rfl Tryz.zeroValue25 ?_; intro nb hnb; (try simp only [Value.cells])); refine H_go c_8 ?_) <;> (try refine q_r 9 ?_; (refine K1_alloc (t := 36) rfl Tryz.zeroValue36 ?_; intro nb hnb; (try simp only [Value.cells])); refine H_go c_8 ?_) <;> (try refine q_r 11 ?_; (refine q_W ?_); refine H_go c_8 ?_) <;> (try refine q_r 12 ?_; (refine q_W ?_); refine H_go c_8 ?_) <;> (try refine H_done (by kernel_rfl) ?_))))))) | (refine TagB.mk ?_; (((refine K1_alloc (t := 36) rfl Tryz.zeroValue36 ?_; intro nb hnb; (try simp only [Value.cells])); refine H_go c_8 ?_) <;> (try refine H_run2t (i := 5) (j := 10) rfl rfl (by kernel_rfl) ?_ ?_ <;> (first | (refine TagA.mk ?_; ((((refine q_c 10 (c := by apply hp2; (with_reducible assumption); (focus (omega)); (focus ((try simp only [List.cons_append]); (try simp only [List.nil_append]); (repeat' (first | (with_reducible exact Tl.one _ _) | (with_reducible apply Tl.cons)))))) (h := ?_); rintro _ _ ⟨r2, p2, q2, r4, p4, q4, E2, n3, M3, rfl, hS2, hn3, hM3, rfl⟩; (try simp only [List.eraseIdx_cons_succ]); (try simp only [List.eraseIdx_cons_zero])); (try simp only [List.cons_append]); (try simp only [List.nil_append])); refine H_go c_8 ?_) <;> (try refine q_t 6 (e := c_8) (x := by exact E_move rfl) (h := ?_)) <;> (try refine q_t 7 (e := c_8) (x := by exact E_extractL rfl rfl) (h := ?_)) <;> (try refine q_t 8 (e := c_8) (x := by exact E_extractL rfl rfl) (h := ?_)) <;> (try refine q_r 10 ?_; (refine K1_alloc (t := 25) rfl Tryz.zeroValue25 ?_; intro nb hnb; (try simp only [Value.cells])); refine H_go c_8 ?_) <;> (try refine q_r 11 ?_; (refine q_W ?_); refine H_go c_8 ?_) <;> (try refine q_r 12 ?_; (refine q_W ?_); refine H_go c_8 ?_) <;> (try refine H_done (by kernel_rfl) ?_))) | (refine TagB.mk ?_; (((refine K1_alloc (t := 25) rfl Tryz.zeroValue25 ?_; intro nb hnb; (try simp only [Value.cells])); refine H_go c_8 ?_) <;> (try refine q_r 5 ?_; ((refine q_c 10 (c := by apply hp2; (with_reducible assumption); (focus (omega)); (focus ((try simp only [List.cons_append]); (try simp only [List.nil_append]); (repeat' (first | (with_reducible exact Tl.one _ _) | (with_reducible apply Tl.cons)))))) (h := ?_); rintro _ _ ⟨r2, p2, q2, r4, p4, q4, E2, n3, M3, rfl, hS2, hn3, hM3, rfl⟩; (try simp only [List.eraseIdx_cons_succ]); (try simp only [List.eraseIdx_cons_zero])); (try simp only [List.cons_append]); (try simp only [List.nil_append])); refine H_go c_8 ?_) <;> (try refine q_t 6 (e := c_8) (x := by exact E_move rfl) (h := ?_)) <;> (try refine q_t 7 (e := c_8) (x := by exact E_extractL rfl rfl) (h := ?_)) <;> (try refine q_t 8 (e := c_8) (x := by exact E_extractL rfl rfl) (h := ?_)) <;> (try refine q_r 11 ?_; (refine q_W ?_); refine H_go c_8 ?_) <;> (try refine q_r 12 ?_; (refine q_W ?_); refine H_go c_8 ?_) <;> (try refine H_done (by kernel_rfl) ?_))))))) | (refine TagC.mk ?_; (((refine K1_alloc (t := 25) rfl Tryz.zeroValue25 ?_; intro nb hnb; (try simp only [Value.cells])); refine H_go c_8 ?_) <;> (try refine H_run2t (i := 5) (j := 9) rfl rfl (by kernel_rfl) ?_ ?_ <;> (first | (refine TagA.mk ?_; ((((refine q_c 10 (c := by apply hp2; (with_reducible assumption); (focus (omega)); (focus ((try simp only [List.cons_append]); (try simp only [List.nil_append]); (repeat' (first | (with_reducible exact Tl.one _ _) | (with_reducible apply Tl.cons)))))) (h := ?_); rintro _ _ ⟨r2, p2, q2, r4, p4, q4, E2, n3, M3, rfl, hS2, hn3, hM3, rfl⟩; (try simp only [List.eraseIdx_cons_succ]); (try simp only [List.eraseIdx_cons_zero])); (try simp only [List.cons_append]); (try simp only [List.nil_append])); refine H_go c_8 ?_) <;> (try refine q_t 6 (e := c_8) (x := by exact E_move rfl) (h := ?_)) <;> (try refine q_t 7 (e := c_8) (x := by exact E_extractL rfl rfl) (h := ?_)) <;> (try refine q_t 8 (e := c_8) (x := by exact E_extractL rfl rfl) (h := ?_)) <;> (try refine q_r 9 ?_; (refine K1_alloc (t := 36) rfl Tryz.zeroValue36 ?_; intro nb hnb; (try simp only [Value.cells])); refine H_go c_8 ?_) <;> (try refine q_r 11 ?_; (refine q_W ?_); refine H_go c_8 ?_) <;> (try refine q_r 12 ?_; (refine q_W ?_); refine H_go c_8 ?_) <;> (try refine H_done (by kernel_rfl) ?_))) | (refine TagB.mk ?_; (((refine K1_alloc (t := 36) rfl Tryz.zeroValue36 ?_; intro nb hnb; (try simp only [Value.cells])); refine H_go c_8 ?_) <;> (try refine q_r 5 ?_; ((refine q_c 10 (c := by apply hp2; (with_reducible assumption); (focus (omega)); (focus ((try simp only [List.cons_append]); (try simp only [List.nil_append]); (repeat' (first | (with_reducible exact Tl.one _ _) | (with_reducible apply Tl.cons)))))) (h := ?_); rintro _ _ ⟨r2, p2, q2, r4, p4, q4, E2, n3, M3, rfl, hS2, hn3, hM3, rfl⟩; (try simp only [List.eraseIdx_cons_succ]); (try simp only [List.eraseIdx_cons_zero])); (try simp only [List.cons_append]); (try simp only [List.nil_append])); refine H_go c_8 ?_) <;> (try refine q_t 6 (e := c_8) (x := by exact E_move rfl) (h := ?_)) <;> (try refine q_t 7 (e := c_8) (x := by exact E_extractL rfl rfl) (h := ?_)) <;> (try refine q_t 8 (e := c_8) (x := by exact E_extractL rfl rfl) (h := ?_)) <;> (try refine q_r 11 ?_; (refine q_W ?_); refine H_go c_8 ?_) <;> (try refine q_r 12 ?_; (refine q_W ?_); refine H_go c_8 ?_) <;> (try refine H_done (by kernel_rfl) ?_))))))))))) | (refine TagB.mk ?_; (((refine K1_alloc (t := 36) rfl Tryz.zeroValue36 ?_; intro nb hnb; (try simp only [Value.cells])); refine H_go c_8 ?_) <;> (try refine H_run2t (i := 4) (j := 10) rfl rfl (by kernel_rfl) ?_ ?_ <;> (first | (refine TagA.mk ?_; ((((refine q_c 13 (c := by apply hxt; (with_reducible assumption); (with_reducible assumption); (focus (omega)); (focus ((try simp only [List.cons_append]); (try simp only [List.nil_append]); (repeat' (first | (with_reducible exact Tl.nil _) | (with_reducible apply Tl.cons)))))) (h := ?_); rintro _ _ ⟨M2, rfl, hM2, rfl⟩; (try simp only [List.eraseIdx_cons_succ]); (try simp only [List.eraseIdx_cons_zero])); (try simp only [List.cons_append]); (try simp only [List.nil_append])); refine H_go c_8 ?_) <;> (try refine H_run2t (i := 5) (j := 10) rfl rfl (by kernel_rfl) ?_ ?_ <;> (first | (refine TagA.mk ?_; ((((refine q_c 10 (c := by apply hp2; (with_reducible assumption); (focus (omega)); (focus ((try simp only [List.cons_append]); (try simp only [List.nil_append]); (repeat' (first | (with_reducible exact Tl.one _ _) | (with_reducible apply Tl.cons)))))) (h := ?_); rintro _ _ ⟨r2, p2, q2, r4, p4, q4, E2, n3, M3, rfl, hS2, hn3, hM3, rfl⟩; (try simp only [List.eraseIdx_cons_succ]); (try simp only [List.eraseIdx_cons_zero])); (try simp only [List.cons_append]); (try simp only [List.nil_append])); refine H_go c_8 ?_) <;> (try refine q_t 6 (e := c_8) (x := by exact E_move rfl) (h := ?_)) <;> (try refine q_t 7 (e := c_8) (x := by exact E_extractL rfl rfl) (h := ?_)) <;> (try refine q_t 8 (e := c_8) (x := by exact E_extractL rfl rfl) (h := ?_)) <;> (try refine q_r 10 ?_; (refine K1_alloc (t := 25) rfl Tryz.zeroValue25 ?_; intro nb hnb; (try simp only [Value.cells])); refine H_go c_8 ?_) <;> (try refine q_r 11 ?_; (refine q_W ?_); refine H_go c_8 ?_) <;> (try refine q_r 12 ?_; (refine q_W ?_); refine H_go c_8 ?_) <;> (try refine H_done (by kernel_rfl) ?_))) | (refine TagB.mk ?_; (((refine K1_alloc (t := 25) rfl Tryz.zeroValue25 ?_; intro nb hnb; (try simp only [Value.cells])); refine H_go c_8 ?_) <;> (try refine q_r 5 ?_; ((refine q_c 10 (c := by apply hp2; (with_reducible assumption); (focus (omega)); (focus ((try simp only [List.cons_append]); (try simp only [List.nil_append]); (repeat' (first | (with_reducible exact Tl.one _ _) | (with_reducible apply Tl.cons)))))) (h := ?_); rintro _ _ ⟨r2, p2, q2, r4, p4, q4, E2, n3, M3, rfl, hS2, hn3, hM3, rfl⟩; (try simp only [List.eraseIdx_cons_succ]); (try simp only [List.eraseIdx_cons_zero])); (try simp only [List.cons_append]); (try simp only [List.nil_append])); refine H_go c_8 ?_) <;> (try refine q_t 6 (e := c_8) (x := by exact E_move rfl) (h := ?_)) <;> (try refine q_t 7 (e := c_8) (x := by exact E_extractL rfl rfl) (h := ?_)) <;> (try refine q_t 8 (e := c_8) (x := by exact E_extractL rfl rfl) (h := ?_)) <;> (try refine q_r 11 ?_; (refine q_W ?_); refine H_go c_8 ?_) <;> (try refine q_r 12 ?_; (refine q_W ?_); refine H_go c_8 ?_) <;> (try refine H_done (by kernel_rfl) ?_))))))) | (refine TagB.mk ?_; (((refine K1_alloc (t := 25) rfl Tryz.zeroValue25 ?_; intro nb hnb; (try simp only [Value.cells])); refine H_go c_8 ?_) <;> (try refine q_r 4 ?_; ((refine q_c 13 (c := by apply hxt; (with_reducible assumption); (with_reducible assumption); (focus (omega)); (focus ((try simp only [List.cons_append]); (try simp only [List.nil_append]); (repeat' (first | (with_reducible exact Tl.nil _) | (with_reducible apply Tl.cons)))))) (h := ?_); rintro _ _ ⟨M2, rfl, hM2, rfl⟩; (try simp only [List.eraseIdx_cons_succ]); (try simp only [List.eraseIdx_cons_zero])); (try simp only [List.cons_append]); (try simp only [List.nil_append])); refine H_go c_8 ?_) <;> (try refine q_r 5 ?_; ((refine q_c 10 (c := by apply hp2; (with_reducible assumption); (focus (omega)); (focus ((try simp only [List.cons_append]); (try simp only [List.nil_append]); (repeat' (first | (with_reducible exact Tl.one _ _) | (with_reducible apply Tl.cons)))))) (h := ?_); rintro _ _ ⟨r2, p2, q2, r4, p4, q4, E2, n3, M3, rfl, hS2, hn3, hM3, rfl⟩; (try simp only [List.eraseIdx_cons_succ]); (try simp only [List.eraseIdx_cons_zero])); (try simp only [List.cons_append]); (try simp only [List.nil_append])); refine H_go c_8 ?_) <;> (try refine q_t 6 (e := c_8) (x := by exact E_move rfl) (h := ?_)) <;> (try refine q_t 7 (e := c_8) (x := by exact E_extractL rfl rfl) (h := ?_)) <;> (try refine q_t 8 (e := c_8) (x := by exact E_extractL rfl rfl) (h := ?_)) <;> (try refine q_r 11 ?_; (refine q_W ?_); refine H_go c_8 ?_) <;> (try refine q_r 12 ?_; (refine q_W ?_); refine H_go c_8 ?_) <;> (try refine H_done (by kernel_rfl) ?_))))))) | (refine TagC.mk ?_; (((refine K1_alloc (t := 25) rfl Tryz.zeroValue25 ?_; intro nb hnb; (try simp only [Value.cells])); refine H_go c_8 ?_) <;> (try refine H_run2t (i := 4) (j := 9) rfl rfl (by kernel_rfl) ?_ ?_ <;> (first | (refine TagA.mk ?_; ((((refine q_c 13 (c := by apply hxt; (with_reducible assumption); (with_reducible assumption); (focus (omega)); (focus ((try simp only [List.cons_append]); (try simp only [List.nil_append]); (repeat' (first | (with_reducible exact Tl.nil _) | (with_reducible apply Tl.cons)))))) (h := ?_); rintro _ _ ⟨M2, rfl, hM2, rfl⟩; (try simp only [List.eraseIdx_cons_succ]); (try simp only [List.eraseIdx_cons_zero])); (try simp only [List.cons_append]); (try simp only [List.nil_append])); refine H_go c_8 ?_) <;> (try refine H_run2t (i := 5) (j := 9) rfl rfl (by kernel_rfl) ?_ ?_ <;> (first | (refine TagA.mk ?_; ((((refine q_c 10 (c := by apply hp2; (with_reducible assumption); (focus (omega)); (focus ((try simp only [List.cons_append]); (try simp only [List.nil_append]); (repeat' (first | (with_reducible exact Tl.one _ _) | (with_reducible apply Tl.cons)))))) (h := ?_); rintro _ _ ⟨r2, p2, q2, r4, p4, q4, E2, n3, M3, rfl, hS2, hn3, hM3, rfl⟩; (try simp only [List.eraseIdx_cons_succ]); (try simp only [List.eraseIdx_cons_zero])); (try simp only [List.cons_append]); (try simp only [List.nil_append])); refine H_go c_8 ?_) <;> (try refine q_t 6 (e := c_8) (x := by exact E_move rfl) (h := ?_)) <;> (try refine q_t 7 (e := c_8) (x := by exact E_extractL rfl rfl) (h := ?_)) <;> (try refine q_t 8 (e := c_8) (x := by exact E_extractL rfl rfl) (h := ?_)) <;> (try refine q_r 9 ?_; (refine K1_alloc (t := 36) rfl Tryz.zeroValue36 ?_; intro nb hnb; (try simp only [Value.cells])); refine H_go c_8 ?_) <;> (try refine q_r 11 ?_; (refine q_W ?_); refine H_go c_8 ?_) <;> (try refine q_r 12 ?_; (refine q_W ?_); refine H_go c_8 ?_) <;> (try refine H_done (by kernel_rfl) ?_))) | (refine TagB.mk ?_; (((refine K1_alloc (t := 36) rfl Tryz.zeroValue36 ?_; intro nb hnb; (try simp only [Value.cells])); refine H_go c_8 ?_) <;> (try refine q_r 5 ?_; ((refine q_c 10 (c := by apply hp2; (with_reducible assumption); (focus (omega)); (focus ((try simp only [List.cons_append]); (try simp only [List.nil_append]); (repeat' (first | (with_reducible exact Tl.one _ _) | (with_reducible apply Tl.cons)))))) (h := ?_); rintro _ _ ⟨r2, p2, q2, r4, p4, q4, E2, n3, M3, rfl, hS2, hn3, hM3, rfl⟩; (try simp only [List.eraseIdx_cons_succ]); (try simp only [List.eraseIdx_cons_zero])); (try simp only [List.cons_append]); (try simp only [List.nil_append])); refine H_go c_8 ?_) <;> (try refine q_t 6 (e := c_8) (x := by exact E_move rfl) (h := ?_)) <;> (try refine q_t 7 (e := c_8) (x := by exact E_extractL rfl rfl) (h := ?_)) <;> (try refine q_t 8 (e := c_8) (x := by exact E_extractL rfl rfl) (h := ?_)) <;> (try refine q_r 11 ?_; (refine q_W ?_); refine H_go c_8 ?_) <;> (try refine q_r 12 ?_; (refine q_W ?_); refine H_go c_8 ?_) <;> (try refine H_done (by kernel_rfl) ?_))))))) | (refine TagB.mk ?_; (((refine K1_alloc (t := 36) rfl Tryz.zeroValue36 ?_; intro nb hnb; (try simp only [Value.cells])); refine H_go c_8 ?_) <;> (try refine q_r 4 ?_; ((refine q_c 13 (c := by apply hxt; (with_reducible assumption); (with_reducible assumption); (focus (omega)); (focus ((try simp only [List.cons_append]); (try simp only [List.nil_append]); (repeat' (first | (with_reducible exact Tl.nil _) | (with_reducible apply Tl.cons)))))) (h := ?_); rintro _ _ ⟨M2, rfl, hM2, rfl⟩; (try simp only [List.eraseIdx_cons_succ]); (try simp only [List.eraseIdx_cons_zero])); (try simp only [List.cons_append]); (try simp only [List.nil_append])); refine H_go c_8 ?_) <;> (try refine q_r 5 ?_; ((refine q_c 10 (c := by apply hp2; (with_reducible assumption); (focus (omega)); (focus ((try simp only [List.cons_append]); (try simp only [List.nil_append]); (repeat' (first | (with_reducible exact Tl.one _ _) | (with_reducible apply Tl.cons)))))) (h := ?_); rintro _ _ ⟨r2, p2, q2, r4, p4, q4, E2, n3, M3, rfl, hS2, hn3, hM3, rfl⟩; (try simp only [List.eraseIdx_cons_succ]); (try simp only [List.eraseIdx_cons_zero])); (try simp only [List.cons_append]); (try simp only [List.nil_append])); refine H_go c_8 ?_) <;> (try refine q_t 6 (e := c_8) (x := by exact E_move rfl) (h := ?_)) <;> (try refine q_t 7 (e := c_8) (x := by exact E_extractL rfl rfl) (h := ?_)) <;> (try refine q_t 8 (e := c_8) (x := by exact E_extractL rfl rfl) (h := ?_)) <;> (try refine q_r 11 ?_; (refine q_W ?_); refine H_go c_8 ?_) <;> (try refine q_r 12 ?_; (refine q_W ?_); refine H_go c_8 ?_) <;> (try refine H_done (by kernel_rfl) ?_))))))))))) | (refine TagB.mk ?_; (((refine K1_alloc (t := 36) rfl Tryz.zeroValue36 ?_; intro nb hnb; (try simp only [Value.cells])); refine H_go c_8 ?_) <;> (try refine H_run2t (i := 3) (j := 10) rfl rfl (by kernel_rfl) ?_ ?_ <;> (first | (refine TagA.mk ?_; (((refine q_c 11 (c := by apply hcl; (with_reducible assumption); (focus ((try simp only [List.cons_append]); (try simp only [List.nil_append]); (repeat' (first | (with_reducible exact Tl.one _ _) | (with_reducible apply Tl.cons)))))) (h := ?_); rintro _ _ ⟨rfl, rfl⟩; (try simp only [List.eraseIdx_cons_succ]); (try simp only [List.eraseIdx_cons_zero])); refine H_go c_8 ?_) <;> (try refine H_run2t (i := 4) (j := 10) rfl rfl (by kernel_rfl) ?_ ?_ <;> (first | (refine TagA.mk ?_; ((((refine q_c 13 (c := by apply hxt; (with_reducible assumption); (with_reducible assumption); (focus (omega)); (focus ((try simp only [List.cons_append]); (try simp only [List.nil_append]); (repeat' (first | (with_reducible exact Tl.nil _) | (with_reducible apply Tl.cons)))))) (h := ?_); rintro _ _ ⟨M2, rfl, hM2, rfl⟩; (try simp only [List.eraseIdx_cons_succ]); (try simp only [List.eraseIdx_cons_zero])); (try simp only [List.cons_append]); (try simp only [List.nil_append])); refine H_go c_8 ?_) <;> (try refine H_run2t (i := 5) (j := 10) rfl rfl (by kernel_rfl) ?_ ?_ <;> (first | (refine TagA.mk ?_; ((((refine q_c 10 (c := by apply hp2; (with_reducible assumption); (focus (omega)); (focus ((try simp only [List.cons_append]); (try simp only [List.nil_append]); (repeat' (first | (with_reducible exact Tl.one _ _) | (with_reducible apply Tl.cons)))))) (h := ?_); rintro _ _ ⟨r2, p2, q2, r4, p4, q4, E2, n3, M3, rfl, hS2, hn3, hM3, rfl⟩; (try simp only [List.eraseIdx_cons_succ]); (try simp only [List.eraseIdx_cons_zero])); (try simp only [List.cons_append]); (try simp only [List.nil_append])); refine H_go c_8 ?_) <;> (try refine q_t 6 (e := c_8) (x := by exact E_move rfl) (h := ?_)) <;> (try refine q_t 7 (e := c_8) (x := by exact E_extractL rfl rfl) (h := ?_)) <;> (try refine q_t 8 (e := c_8) (x := by exact E_extractL rfl rfl) (h := ?_)) <;> (try refine q_r 10 ?_; (refine K1_alloc (t := 25) rfl Tryz.zeroValue25 ?_; intro nb hnb; (try simp only [Value.cells])); refine H_go c_8 ?_) <;> (try refine q_r 11 ?_; (refine q_W ?_); refine H_go c_8 ?_) <;> (try refine q_r 12 ?_; (refine q_W ?_); refine H_go c_8 ?_) <;> (try refine H_done (by kernel_rfl) ?_))) | (refine TagB.mk ?_; (((refine K1_alloc (t := 25) rfl Tryz.zeroValue25 ?_; intro nb hnb; (try simp only [Value.cells])); refine H_go c_8 ?_) <;> (try refine q_r 5 ?_; ((refine q_c 10 (c := by apply hp2; (with_reducible assumption); (focus (omega)); (focus ((try simp only [List.cons_append]); (try simp only [List.nil_append]); (repeat' (first | (with_reducible exact Tl.one _ _) | (with_reducible apply Tl.cons)))))) (h := ?_); rintro _ _ ⟨r2, p2, q2, r4, p4, q4, E2, n3, M3, rfl, hS2, hn3, hM3, rfl⟩; (try simp only [List.eraseIdx_cons_succ]); (try simp only [List.eraseIdx_cons_zero])); (try simp only [List.cons_append]); (try simp only [List.nil_append])); refine H_go c_8 ?_) <;> (try refine q_t 6 (e := c_8) (x := by exact E_move rfl) (h := ?_)) <;> (try refine q_t 7 (e := c_8) (x := by exact E_extractL rfl rfl) (h := ?_)) <;> (try refine q_t 8 (e := c_8) (x := by exact E_extractL rfl rfl) (h := ?_)) <;> (try refine q_r 11 ?_; (refine q_W ?_); refine H_go c_8 ?_) <;> (try refine q_r 12 ?_; (refine q_W ?_); refine H_go c_8 ?_) <;> (try refine H_done (by kernel_rfl) ?_))))))) | (refine TagB.mk ?_; (((refine K1_alloc (t := 25) rfl Tryz.zeroValue25 ?_; intro nb hnb; (try simp only [Value.cells])); refine H_go c_8 ?_) <;> (try refine q_r 4 ?_; ((refine q_c 13 (c := by apply hxt; (with_reducible assumption); (with_reducible assumption); (focus (omega)); (focus ((try simp only [List.cons_append]); (try simp only [List.nil_append]); (repeat' (first | (with_reducible exact Tl.nil _) | (with_reducible apply Tl.cons)))))) (h := ?_); rintro _ _ ⟨M2, rfl, hM2, rfl⟩; (try simp only [List.eraseIdx_cons_succ]); (try simp only [List.eraseIdx_cons_zero])); (try simp only [List.cons_append]); (try simp only [List.nil_append])); refine H_go c_8 ?_) <;> (try refine q_r 5 ?_; ((refine q_c 10 (c := by apply hp2; (with_reducible assumption); (focus (omega)); (focus ((try simp only [List.cons_append]); (try simp only [List.nil_append]); (repeat' (first | (with_reducible exact Tl.one _ _) | (with_reducible apply Tl.cons)))))) (h := ?_); rintro _ _ ⟨r2, p2, q2, r4, p4, q4, E2, n3, M3, rfl, hS2, hn3, hM3, rfl⟩; (try simp only [List.eraseIdx_cons_succ]); (try simp only [List.eraseIdx_cons_zero])); (try simp only [List.cons_append]); (try simp only [List.nil_append])); refine H_go c_8 ?_) <;> (try refine q_t 6 (e := c_8) (x := by exact E_move rfl) (h := ?_)) <;> (try refine q_t 7 (e := c_8) (x := by exact E_extractL rfl rfl) (h := ?_)) <;> (try refine q_t 8 (e := c_8) (x := by exact E_extractL rfl rfl) (h := ?_)) <;> (try refine q_r 11 ?_; (refine q_W ?_); refine H_go c_8 ?_) <;> (try refine q_r 12 ?_; (refine q_W ?_); refine H_go c_8 ?_) <;> (try refine H_done (by kernel_rfl) ?_))))))) | (refine TagB.mk ?_; (((refine K1_alloc (t := 25) rfl Tryz.zeroValue25 ?_; intro nb hnb; (try simp only [Value.cells])); refine H_go c_8 ?_) <;> (try refine q_r 3 ?_; (refine q_c 11 (c := by apply hcl; (with_reducible assumption); (focus ((try simp only [List.cons_append]); (try simp only [List.nil_append]); (repeat' (first | (with_reducible exact Tl.one _ _) | (with_reducible apply Tl.cons)))))) (h := ?_); rintro _ _ ⟨rfl, rfl⟩; (try simp only [List.eraseIdx_cons_succ]); (try simp only [List.eraseIdx_cons_zero])); refine H_go c_8 ?_) <;> (try refine q_r 4 ?_; ((refine q_c 13 (c := by apply hxt; (with_reducible assumption); (with_reducible assumption); (focus (omega)); (focus ((try simp only [List.cons_append]); (try simp only [List.nil_append]); (repeat' (first | (with_reducible exact Tl.nil _) | (with_reducible apply Tl.cons)))))) (h := ?_); rintro _ _ ⟨M2, rfl, hM2, rfl⟩; (try simp only [List.eraseIdx_cons_succ]); (try simp only [List.eraseIdx_cons_zero])); (try simp only [List.cons_append]); (try simp only [List.nil_append])); refine H_go c_8 ?_) <;> (try refine q_r 5 ?_; ((refine q_c 10 (c := by apply hp2; (with_reducible assumption); (focus (omega)); (focus ((try simp only [List.cons_append]); (try simp only [List.nil_append]); (repeat' (first | (with_reducible exact Tl.one _ _) | (with_reducible apply Tl.cons)))))) (h := ?_); rintro _ _ ⟨r2, p2, q2, r4, p4, q4, E2, n3, M3, rfl, hS2, hn3, hM3, rfl⟩; (try simp only [List.eraseIdx_cons_succ]); (try simp only [List.eraseIdx_cons_zero])); (try simp only [List.cons_append]); (try simp only [List.nil_append])); refine H_go c_8 ?_) <;> (try refine q_t 6 (e := c_8) (x := by exact E_move rfl) (h := ?_)) <;> (try refine q_t 7 (e := c_8) (x := by exact E_extractL rfl rfl) (h := ?_)) <;> (try refine q_t 8 (e := c_8) (x := by exact E_extractL rfl rfl) (h := ?_)) <;> (try refine q_r 11 ?_; (refine q_W ?_); refine H_go c_8 ?_) <;> (try refine q_r 12 ?_; (refine q_W ?_); refine H_go c_8 ?_) <;> (try refine H_done (by kernel_rfl) ?_))))))) | (refine TagC.mk ?_; (((refine K1_alloc (t := 25) rfl Tryz.zeroValue25 ?_; intro nb hnb; (try simp only [Value.cells])); refine H_go c_8 ?_) <;> (try refine H_run2t (i := 3) (j := 9) rfl rfl (by kernel_rfl) ?_ ?_ <;> (first | (refine TagA.mk ?_; (((refine q_c 11 (c := by apply hcl; (with_reducible assumption); (focus ((try simp only [List.cons_append]); (try simp only [List.nil_append]); (repeat' (first | (with_reducible exact Tl.one _ _) | (with_reducible apply Tl.cons)))))) (h := ?_); rintro _ _ ⟨rfl, rfl⟩; (try simp only [List.eraseIdx_cons_succ]); (try simp only [List.eraseIdx_cons_zero])); refine H_go c_8 ?_) <;> (try refine H_run2t (i := 4) (j := 9) rfl rfl (by kernel_rfl) ?_ ?_ <;> (first | (refine TagA.mk ?_; ((((refine q_c 13 (c := by apply hxt; (with_reducible assumption); (with_reducible assumption); (focus (omega)); (focus ((try simp only [List.cons_append]); (try simp only [List.nil_append]); (repeat' (first | (with_reducible exact Tl.nil _) | (with_reducible apply Tl.cons)))))) (h := ?_); rintro _ _ ⟨M2, rfl, hM2, rfl⟩; (try simp only [List.eraseIdx_cons_succ]); (try simp only [List.eraseIdx_cons_zero])); (try simp only [List.cons_append]); (try simp only [List.nil_append])); refine H_go c_8 ?_) <;> (try refine H_run2t (i := 5) (j := 9) rfl rfl (by kernel_rfl) ?_ ?_ <;> (first | (refine TagA.mk ?_; ((((refine q_c 10 (c := by apply hp2; (with_reducible assumption); (focus (omega)); (focus ((try simp only [List.cons_append]); (try simp only [List.nil_append]); (repeat' (first | (with_reducible exact Tl.one _ _) | (with_reducible apply Tl.cons)))))) (h := ?_); rintro _ _ ⟨r2, p2, q2, r4, p4, q4, E2, n3, M3, rfl, hS2, hn3, hM3, rfl⟩; (try simp only [List.eraseIdx_cons_succ]); (try simp only [List.eraseIdx_cons_zero])); (try simp only [List.cons_append]); (try simp only [List.nil_append])); refine H_go c_8 ?_) <;> (try refine q_t 6 (e := c_8) (x := by exact E_move rfl) (h := ?_)) <;> (try refine q_t 7 (e := c_8) (x := by exact E_extractL rfl rfl) (h := ?_)) <;> (try refine q_t 8 (e := c_8) (x := by exact E_extractL rfl rfl) (h := ?_)) <;> (try refine q_r 9 ?_; (refine K1_alloc (t := 36) rfl Tryz.zeroValue36 ?_; intro nb hnb; (try simp only [Value.cells])); refine H_go c_8 ?_) <;> (try refine q_r 11 ?_; (refine q_W ?_); refine H_go c_8 ?_) <;> (try refine q_r 12 ?_; (refine q_W ?_); refine H_go c_8 ?_) <;> (try refine H_done (by kernel_rfl) ?_))) | (refine TagB.mk ?_; (((refine K1_alloc (t := 36) rfl Tryz.zeroValue36 ?_; intro nb hnb; (try simp only [Value.cells])); refine H_go c_8 ?_) <;> (try refine q_r 5 ?_; ((refine q_c 10 (c := by apply hp2; (with_reducible assumption); (focus (omega)); (focus ((try simp only [List.cons_append]); (try simp only [List.nil_append]); (repeat' (first | (with_reducible exact Tl.one _ _) | (with_reducible apply Tl.cons)))))) (h := ?_); rintro _ _ ⟨r2, p2, q2, r4, p4, q4, E2, n3, M3, rfl, hS2, hn3, hM3, rfl⟩; (try simp only [List.eraseIdx_cons_succ]); (try simp only [List.eraseIdx_cons_zero])); (try simp only [List.cons_append]); (try simp only [List.nil_append])); refine H_go c_8 ?_) <;> (try refine q_t 6 (e := c_8) (x := by exact E_move rfl) (h := ?_)) <;> (try refine q_t 7 (e := c_8) (x := by exact E_extractL rfl rfl) (h := ?_)) <;> (try refine q_t 8 (e := c_8) (x := by exact E_extractL rfl rfl) (h := ?_)) <;> (try refine q_r 11 ?_; (refine q_W ?_); refine H_go c_8 ?_) <;> (try refine q_r 12 ?_; (refine q_W ?_); refine H_go c_8 ?_) <;> (try refine H_done (by kernel_rfl) ?_))))))) | (refine TagB.mk ?_; (((refine K1_alloc (t := 36) rfl Tryz.zeroValue36 ?_; intro nb hnb; (try simp only [Value.cells])); refine H_go c_8 ?_) <;> (try refine q_r 4 ?_; ((refine q_c 13 (c := by apply hxt; (with_reducible assumption); (with_reducible assumption); (focus (omega)); (focus ((try simp only [List.cons_append]); (try simp only [List.nil_append]); (repeat' (first | (with_reducible exact Tl.nil _) | (with_reducible apply Tl.cons)))))) (h := ?_); rintro _ _ ⟨M2, rfl, hM2, rfl⟩; (try simp only [List.eraseIdx_cons_succ]); (try simp only [List.eraseIdx_cons_zero])); (try simp only [List.cons_append]); (try simp only [List.nil_append])); refine H_go c_8 ?_) <;> (try refine q_r 5 ?_; ((refine q_c 10 (c := by apply hp2; (with_reducible assumption); (focus (omega)); (focus ((try simp only [List.cons_append]); (try simp only [List.nil_append]); (repeat' (first | (with_reducible exact Tl.one _ _) | (with_reducible apply Tl.cons)))))) (h := ?_); rintro _ _ ⟨r2, p2, q2, r4, p4, q4, E2, n3, M3, rfl, hS2, hn3, hM3, rfl⟩; (try simp only [List.eraseIdx_cons_succ]); (try simp only [List.eraseIdx_cons_zero])); (try simp only [List.cons_append]); (try simp only [List.nil_append])); refine H_go c_8 ?_) <;> (try refine q_t 6 (e := c_8) (x := by exact E_move rfl) (h := ?_)) <;> (try refine q_t 7 (e := c_8) (x := by exact E_extractL rfl rfl) (h := ?_)) <;> (try refine q_t 8 (e := c_8) (x := by exact E_extractL rfl rfl) (h := ?_)) <;> (try refine q_r 11 ?_; (refine q_W ?_); refine H_go c_8 ?_) <;> (try refine q_r 12 ?_; (refine q_W ?_); refine H_go c_8 ?_) <;> (try refine H_done (by kernel_rfl) ?_))))))) | (refine TagB.mk ?_; (((refine K1_alloc (t := 36) rfl Tryz.zeroValue36 ?_; intro nb hnb; (try simp only [Value.cells])); refine H_go c_8 ?_) <;> (try refine q_r 3 ?_; (refine q_c 11 (c := by apply hcl; (with_reducible assumption); (focus ((try simp only [List.cons_append]); (try simp only [List.nil_append]); (repeat' (first | (with_reducible exact Tl.one _ _) | (with_reducible apply Tl.cons)))))) (h := ?_); rintro _ _ ⟨rfl, rfl⟩; (try simp only [List.eraseIdx_cons_succ]); (try simp only [List.eraseIdx_cons_zero])); refine H_go c_8 ?_) <;> (try refine q_r 4 ?_; ((refine q_c 13 (c := by apply hxt; (with_reducible assumption); (with_reducible assumption); (focus (omega)); (focus ((try simp only [List.cons_append]); (try simp only [List.nil_append]); (repeat' (first | (with_reducible exact Tl.nil _) | (with_reducible apply Tl.cons)))))) (h := ?_); rintro _ _ ⟨M2, rfl, hM2, rfl⟩; (try simp only [List.eraseIdx_cons_succ]); (try simp only [List.eraseIdx_cons_zero])); (try simp only [List.cons_append]); (try simp only [List.nil_append])); refine H_go c_8 ?_) <;> (try refine q_r 5 ?_; ((refine q_c 10 (c := by apply hp2; (with_reducible assumption); (focus (omega)); (focus ((try simp only [List.cons_append]); (try simp only [List.nil_append]); (repeat' (first | (with_reducible exact Tl.one _ _) | (with_reducible apply Tl.cons)))))) (h := ?_); rintro _ _ ⟨r2, p2, q2, r4, p4, q4, E2, n3, M3, rfl, hS2, hn3, hM3, rfl⟩; (try simp only [List.eraseIdx_cons_succ]); (try simp only [List.eraseIdx_cons_zero])); (try simp only [List.cons_append]); (try simp only [List.nil_append])); refine H_go c_8 ?_) <;> (try refine q_t 6 (e := c_8) (x := by exact E_move rfl) (h := ?_)) <;> (try refine q_t 7 (e := c_8) (x := by exact E_extractL rfl rfl) (h := ?_)) <;> (try refine q_t 8 (e := c_8) (x := by exact E_extractL rfl rfl) (h := ?_)) <;> (try refine q_r 11 ?_; (refine q_W ?_); refine H_go c_8 ?_) <;> (try refine q_r 12 ?_; (refine q_W ?_); refine H_go c_8 ?_) <;> (try refine H_done (by kernel_rfl) ?_)))))))))))
      all_goals (apply G_meetPA; (focus (refine ⟨?_, hM3, hS2⟩; dsimp only; omega)); (focus (focus (repeat (first | exact Sub.nil | refine Sub.cons rfl ?_)))); exact c_24)
    clear hp1 hp2 hxt hM hM1
    rintro ⟨n14, n15, n3, ⟨E2, M3⟩, ⟨r2, r4⟩, ⟨p2, p4⟩, ⟨q2, q4⟩⟩ ⟨hn3, hM3, hS2⟩
    dsimp only at hn3 hM3 hS2 ⊢
    repeat' (first | refine G_seq ?_ | refine G_then_n ?_ | refine G_cut_n ?_ | refine G_blk_n ?_ | refine G_skip ?_ | refine G_cond_f rfl ?_ | ((refine G_regionHp (pre := [_, _, _, _, _]) (id := 22) (m := 16) rfl (by kernel_rfl) rfl ?_) <;> (try refine q_t 0 (e := c_10) (x := by exact q_L sz_36) (h := ?_)) <;> (try refine q_t 1 (e := c_10) (x := by exact E_move rfl) (h := ?_)) <;> (try refine q_r 2 ?_; (refine q_c 11 (c := by apply hcl; (with_reducible assumption); (focus ((try simp only [List.cons_append]); (try simp only [List.nil_append]); (repeat' (first | (with_reducible exact Tl.one _ _) | (with_reducible apply Tl.cons) | (with_reducible apply Tl.app)))))) (h := ?_); rintro _ _ ⟨rfl, rfl⟩; (try simp only [List.eraseIdx_cons_succ]); (try simp only [List.eraseIdx_cons_zero])); refine H_go c_10 ?_) <;> (try refine q_r 3 ?_; ((refine q_c 17 (c := by apply hck; (with_reducible assumption); (with_reducible assumption); (focus (omega)); (focus ((try simp only [List.cons_append]); (try simp only [List.nil_append]); (repeat' (first | (with_reducible exact Tl.nil _) | (with_reducible apply Tl.cons)))))) (h := ?_); rintro _ _ ⟨n4, M4, rfl, hn4, hM4, rfl⟩; (try simp only [List.eraseIdx_cons_succ]); (try simp only [List.eraseIdx_cons_zero])); (try simp only [List.cons_append]); (try simp only [List.nil_append])); refine H_go c_10 ?_) <;> (try refine q_t 4 (e := c_10) (x := by exact q_b (r := by refine rb_neq_f ?_; first | rfl | (with_reducible assumption) | (decide; done) | omega)) (h := ?_)) <;> (try refine q_t 5 (e := c_10) (x := by exact E_move rfl) (h := ?_)) <;> (try refine q_T 6 (e := c_10) (x := by exact q_L sz_25) (h := ?_)) <;> (try refine q_T 7 (e := c_10) (x := by exact E_build (t := 25) (fun vs => (match vs with | [] => [Value.int .i64 0, Value.int .i64 0, Value.int .i64 0] | _ => [])) rfl (fun w => by kernel_rfl)) (h := ?_); (try simp only [Value.cells]); (try simp only [List.cons_append]); (try simp only [List.nil_append])) <;> (try refine q_T 8 (e := c_10) (x := by apply E_bin_agg (op := .neq) (t := 25); exact rfl; exact rfl; kernel_rfl; (with_reducible assumption)) (h := ?_)) <;> (try refine q_t 9 (e := c_10) (x := by exact E_pick rfl rfl) (h := ?_)) <;> (try refine q_t 10 (e := c_10) (x := by exact E_move rfl) (h := ?_)) <;> (try refine q_T 11 (e := c_10) (x := by exact q_L sz_36) (h := ?_)) <;> (try refine q_T 12 (e := c_10) (x := by exact q_L sz_36) (h := ?_)) <;> (try refine q_r 13 ?_; (refine K1_yes rfl rfl rfl ?_; (refine q_c 14 (c := by apply hsm; (with_reducible assumption); (with_reducible assumption); (focus ((try simp only [List.cons_append]); (try simp only [List.nil_append]); (repeat' (first | (with_reducible exact Tl.nil _) | (with_reducible apply Tl.cons)))))) (h := ?_); rintro _ _ ⟨rfl, rfl⟩; (try simp only [List.eraseIdx_cons_succ]); (try simp only [List.eraseIdx_cons_zero]))); refine H_go c_10 ?_) <;> (try refine q_T 14 (e := c_10) (x := by apply E_un; exact rfl; exact ru_not_t) (h := ?_)) <;> (try refine q_t 15 (e := c_10) (x := by exact E_pick rfl rfl) (h := ?_)) <;> (try refine H_done (by kernel_rfl) ?_)) | (refine G_region (id := 24) ?_ <;> (try refine q_e (q_b (r := by apply rb_add; exact c_5; (focus (refine IntWalk.i64_in _ ?_; omega)))) ?_) <;> (try refine q_m ?_) <;> (try refine G_nil ?_)))
    exact G_meet (k + 1, n4, M4) ⟨⟨by show k + 1 ≤ 4; omega, by dsimp only; omega, hM4⟩, by show 4 - (k + 1) < 4 - k; omega⟩ (by (focus (repeat (first | exact Sub.nil | refine Sub.cons rfl ?_)))) c_22
  · have hp1 := fun (n : Nat) (M L B : List Blk) => parse_t (S := S) (w0 := w0) (pb := pb) (ct := ct) (rb := rb) (n := n) (L0 := L0) (M := M) (L := L) (B := B) t (by omega) zPol a b c hP (fun r h => by cases h)
    have emp : mB8 ([] : List UInt8) = ⟨#[]⟩ := rfl
    have z0 : ((0 : Nat) : Int) = 0 := rfl
    dsimp only [zPol, Pol.g] at hp1
    simp only [emp, z0, List.length_nil] at hp1
    have hzz := fun (L : List Blk) (r1 p1 q1 : Option Addr) (r3 p3 q3 : Nat) => psame_z (S := S) (w0 := w0) (L := L) r1 p1 q1 r3 p3 q3
    have hq := wr_ne a b c
    rw [decide_eq_false (fun h => by injection h with _ h; injection h with _ h; exact hc h)] at hq
    have hc' : ¬ ((c : Nat) : Int) = 0 := by omega
    clear emp z0 hP
    repeat' (first | refine G_seq ?_ | refine G_then_n ?_ | refine G_cut_n ?_ | refine G_then_x ?_ | refine G_blk_x ?_ | refine G_block ?_ | refine G_skip ?_ | refine G_exit ?_ | refine G_cond_t rfl ?_ | refine G_cond_f rfl ?_ | (refine G_region (id := 15) ?_ <;> (try refine q_e (q_b (r := by exact rb_lss_t q_o)) ?_) <;> (try refine G_nil ?_)) | (refine G_region (id := 16) ?_ <;> (try refine q_e (by apply E_indexAddr; exact rfl; exact rfl; (focus (apply r_ixs Tryz.underlying56 sz_9; omega; omega; exact c_1))) ?_) <;> (try refine q_e (by apply E_load1 (t := 9); exact rfl; exact fd0; kernel_rfl; kernel_rfl; (with_reducible assumption)) ?_) <;> (try refine q_a ?_) <;> (try refine G_nil ?_)) | (refine G_region (id := 17) ?_ <;> (try refine q_m ?_) <;> (try refine q_m ?_) <;> (try refine G_op1 ?_; ((refine q_c 10 (c := by apply hp1; (with_reducible assumption); (focus (omega)); (focus ((try simp only [List.cons_append]); (try simp only [List.nil_append]); (repeat' (first | (with_reducible exact Tl.nil _) | (with_reducible apply Tl.cons)))))) (h := ?_); rintro _ _ ⟨r1, p1, q1, r3, p3, q3, E, n1, M1, rfl, hS, hn1, hM1, rfl⟩; (try simp only [List.eraseIdx_cons_succ]); (try simp only [List.eraseIdx_cons_zero])); (try simp only [List.cons_append]); (try simp only [List.nil_append]))) <;> (try refine q_m ?_) <;> (try refine q_x ?_) <;> (try refine q_x ?_) <;> (try refine G_op1 ?_; (refine K1_alloc (t := 36) rfl Tryz.zeroValue36 ?_; intro nb hnb; (try simp only [Value.cells]))) <;> (try refine G_op1 ?_; (refine K1_alloc (t := 25) rfl Tryz.zeroValue25 ?_; intro nb hnb; (try simp only [Value.cells]))) <;> (try refine G_op1 ?_; (refine q_W ?_)) <;> (try refine G_op1 ?_; (refine q_W ?_)) <;> (try refine G_nil ?_)) | (refine G_region (id := 18) ?_ <;> (try refine q_e (q_L sz_25) ?_) <;> (try refine q_e (by exact E_build (t := 25) (fun vs => (match vs with | [] => [Value.int .i64 0, Value.int .i64 0, Value.int .i64 0] | _ => [])) rfl (fun w => by kernel_rfl)) ?_; (try simp only [Value.cells]); (try simp only [List.cons_append]); (try simp only [List.nil_append])) <;> (try refine q_e (by apply E_bin_agg (op := .neq) (t := 25); exact rfl; exact rfl; kernel_rfl; (with_reducible assumption)) ?_) <;> (try refine G_nil ?_)) | (refine G_region (id := 19) ?_ <;> (try refine q_e (q_L sz_36) ?_) <;> (try refine q_e (by exact E_build (t := 36) (fun vs => (match vs with | [] => [Value.string ⟨#[]⟩, Value.int .u32 0, Value.slice none 0 0, Value.int .u16 0, Value.slice none 0 0, Value.slice none 0 0] | _ => [])) rfl (fun w => by kernel_rfl)) ?_; (try simp only [Value.cells]); (try simp only [List.cons_append]); (try simp only [List.nil_append])) <;> (try refine G_op1 ?_; (refine q_c 14 (c := by apply hzz) (h := ?_); rintro _ _ ⟨rfl, rfl⟩; (try simp only [List.eraseIdx_cons_succ]); (try simp only [List.eraseIdx_cons_zero]))) <;> (try refine q_e (by apply E_un; exact rfl; exact ru_not_t) ?_) <;> (try refine q_m ?_) <;> (try refine q_y (q_f fo_25_2) ?_) <;> (try refine q_y q_l ?_) <;> (try refine q_y (q_b (r := by exact rb_eql_f q_o)) ?_) <;> (try refine q_p ?_) <;> (try refine G_nil ?_)) | (refine G_region (id := 24) ?_ <;> (try refine q_e (q_b (r := by apply rb_add; exact c_5; (focus (refine IntWalk.i64_in _ ?_; omega)))) ?_) <;> (try refine q_m ?_) <;> (try refine G_nil ?_)))
    exact G_meet (k + 1, n1, M1) ⟨⟨by show k + 1 ≤ 4; omega, by dsimp only; omega, hM1⟩, by show 4 - (k + 1) < 4 - k; omega⟩ (by (focus (repeat (first | exact Sub.nil | refine Sub.cons rfl ?_)))) c_22
end Go.Proofs.YtecbgehooembmaaGreatDoor
namespace Go.Proofs.YtecbgehooembmaaGreatDoor
open Go Go.RowKit
theorem wf_u8 {a : Int} (h : (Lit.int .u8 a).wf = true) : 0 ≤ a ∧ a < 256 := by
  simp [Lit.wf, IntKind.min, IntKind.max, IntKind.signed, IntKind.bits] at h; omega
theorem HP.read {w : World} {L : List Blk} (h : ∀ p ∈ L, p.wr = false ∧ w.heap[p.b]? = some p.o) : HP [] w w L :=
  ⟨rfl, rfl, rfl, Nat.le_refl _, fun _ _ _ => rfl, fun p hp => (h p hp).2, fun p hp hw => by simp [(h p hp).1] at hw,
    List.pairwise_of_forall_mem_list fun p hp q hq hw => by rcases hw with hw | hw <;> simp [(h p hp).1, (h q hq).1] at hw⟩
end Go.Proofs.YtecbgehooembmaaGreatDoor
namespace Go.Proofs.YtecbgehooembmaaGreatDoor
open Go Go.RowKit
theorem mapM_some {α β : Type} {f : α → Option β} : ∀ {l : List α} {ys : List β}, l.mapM f = some ys → ∀ (i : Nat) (x : α), l[i]? = some x → ∃ y, f x = some y ∧ ys[i]? = some y
  | [], _, _, i, x, hx => by simp at hx
  | a :: l, ys, h, i, x, hx => by
    simp only [List.mapM_cons, Option.pure_def, Option.bind_eq_bind, Option.bind_eq_some_iff] at h
    obtain ⟨y, hy, ys', hys, e⟩ := h
    obtain rfl := Option.some.inj e
    cases i with
    | zero => simp at hx; subst hx; exact ⟨y, hy, by simp⟩
    | succ i => simp at hx; simpa using mapM_some hys i x hx
theorem mapM_len {α β : Type} {f : α → Option β} : ∀ {l : List α} {ys : List β}, l.mapM f = some ys → ys.length = l.length
  | [], ys, h => by simp at h; simp [h]
  | a :: l, ys, h => by
    simp only [List.mapM_cons, Option.pure_def, Option.bind_eq_bind, Option.bind_eq_some_iff] at h
    obtain ⟨y, hy, ys', hys, e⟩ := h
    obtain rfl := Option.some.inj e
    simp [mapM_len hys]
section
variable {H : Type} {enc : TypeId × Value → H} {P : Program} {w : World} {base : Nat} {spare : Nat → Bool} {held : Bool}
theorem trod_slice {t e : TypeId} {fuel : Nat} {a : Option Addr} {len cap : Nat} {x : DataW H × List MemPlace} (ht : P.underlying t = some (.slice e))
    (h : DataW.trod enc P w base spare held fuel t [.slice a len cap] = some x) :
    (a = none ∧ len = 0 ∧ cap = 0) ∨
    ∃ p n, a = some p ∧ fuel = n + 1 ∧ len ≤ cap ∧ cap ≤ maxLen ∧ ∀ i, i < len → ∃ cs y, w.cells? base (p.add (i * P.cellsOf e)) (P.cellsOf e) = some cs ∧ DataW.trod enc P w base spare held n e cs = some y := by
  cases fuel with
  | zero => simp [DataW.trod] at h
  | succ n =>
    cases a with
    | none =>
      left
      unfold DataW.trod at h
      simp only [ht] at h
      cases len <;> cases cap <;> simp_all
    | some p =>
      right
      unfold DataW.trod at h
      simp only [ht] at h
      split at h
      · rename_i hc
        simp only [Option.bind_eq_some_iff] at h
        obtain ⟨elems, hel, _⟩ := h
        refine ⟨p, n, rfl, rfl, hc.2.1, hc.2.2, fun i hi => ?_⟩
        obtain ⟨y, hy, _⟩ := mapM_some hel i i (by simp [hi])
        simp only [Option.bind_eq_some_iff] at hy
        obtain ⟨cs, hcs, hy⟩ := hy
        exact ⟨cs, y, hcs, hy⟩
      · simp at h
theorem cells?_get {a : Addr} {n : Nat} {cs : List Value} (h : w.cells? base a n = some cs) : base ≤ a.block ∧ cs.length = n ∧ ∀ j, j < n → w.cell? (a.add j) = cs[j]? := by
  unfold World.cells? at h
  split at h
  · rename_i hb
    refine ⟨hb, by simpa using mapM_len h, fun j hj => ?_⟩
    obtain ⟨y, hy, hy'⟩ := mapM_some h j j (by simp [hj])
    rw [hy, hy']
  · simp at h
theorem trod_int_cell {t : TypeId} {k : IntKind} {fuel : Nat} {c : Value} {y : DataW H × List MemPlace} (ht : P.underlying t = some (.int k)) (h : DataW.trod enc P w base spare held fuel t [c] = some y) :
    ∃ n, c = .int k n ∧ (Lit.int k n).wf = true := by
  cases fuel with
  | zero => simp [DataW.trod] at h
  | succ f =>
    unfold DataW.trod at h
    rw [ht] at h
    cases c <;> simp_all
theorem add_none (b off n : Nat) : (⟨b, off, none⟩ : Addr).add n = ⟨b, off + n, none⟩ := by unfold Addr.add; split <;> simp_all
theorem slice_block {t e : TypeId} {fuel : Nat} {a : Option Addr} {len cap : Nat} {x : DataW H × List MemPlace} (ht : P.underlying t = some (.slice e)) {sz : Nat} (hsz : P.cellsOf e = sz) (h0 : 0 < sz)
    (h : DataW.trod enc P w base spare held fuel t [.slice a len cap] = some x) (hlen : 0 < len) :
    ∃ b off acs T fr n, a = some ⟨b, off, none⟩ ∧ w.heap[b]? = some (.cells acs T fr) ∧ len ≤ cap ∧ cap ≤ maxLen ∧
      ∀ i, i < len → ∃ cs y, cs.length = sz ∧ DataW.trod enc P w base spare held n e cs = some y ∧ off + i * sz + sz ≤ acs.size ∧ acs.extract (off + i * sz) (off + i * sz + sz) = cs.toArray := by
  rcases trod_slice ht h with ⟨_, h1, _⟩ | ⟨p, n, rfl, _, hlc, hcm, hel⟩
  · omega
  · rw [hsz] at hel
    obtain ⟨cs0, y0, hc0, _⟩ := hel 0 hlen
    obtain ⟨_, hl0, hg0⟩ := cells?_get hc0
    obtain ⟨v, hv⟩ : ∃ v, cs0[0]? = some v := ⟨_, List.getElem?_eq_getElem (by omega)⟩
    have hcell := hg0 0 h0
    rw [hv] at hcell
    obtain ⟨b, off, spot⟩ := p
    have hsp : spot = none := by simpa [Addr.add] using World.cell?_spot hcell
    subst hsp
    simp only [add_none, Nat.zero_mul, Nat.add_zero] at hcell
    obtain ⟨acs, T, fr, hb⟩ : ∃ acs T fr, w.heap[b]? = some (.cells acs T fr) := by
      unfold World.cell? at hcell
      cases hq : w.heap[b]? with
      | none => simp [hq] at hcell
      | some ob =>
        cases ob with
        | cells acs T fr => exact ⟨acs, T, fr, rfl⟩
        | _ => simp [hq] at hcell
    refine ⟨b, off, acs, T, fr, n, rfl, hb, hlc, hcm, fun i hi => ?_⟩
    obtain ⟨cs, y, hcs, hy⟩ := hel i hi
    obtain ⟨_, hl, hg⟩ := cells?_get hcs
    have hget : ∀ j, j < sz → acs[off + i * sz + j]? = cs[j]? := by
      intro j hj
      have := hg j hj
      simp only [add_none] at this
      rw [cell_of_row w b _ acs T fr hb] at this
      exact this
    have hsize : off + i * sz + sz ≤ acs.size := by
      have := hget (sz - 1) (by omega)
      rw [List.getElem?_eq_getElem (by omega)] at this
      have h3 := Array.getElem?_eq_some_iff.1 this
      obtain ⟨h3, _⟩ := h3
      omega
    refine ⟨cs, y, hl, hy, hsize, ?_⟩
    apply Array.ext_getElem?
    intro j
    by_cases hj : j < sz
    · rw [Array.getElem?_extract, if_pos (by omega), hget j hj]
      simp
    · rw [Array.getElem?_extract, if_neg (by omega)]
      simp; omega
end
end Go.Proofs.YtecbgehooembmaaGreatDoor
namespace Go.Proofs.YtecbgehooembmaaGreatDoor
open Go Go.RowKit
section
variable {H : Type} {enc : TypeId × Value → H} {P : Program} {w : World} {base : Nat} {spare : Nat → Bool} {held : Bool}
theorem trod_int_any {t : TypeId} {k : IntKind} {fuel : Nat} {cs : List Value} {y : DataW H × List MemPlace} (ht : P.underlying t = some (.int k)) (h : DataW.trod enc P w base spare held fuel t cs = some y) : ∃ n, cs = [.int k n] ∧ (Lit.int k n).wf = true := by
  have hc : ∃ c, cs = [c] := by
    cases fuel with
    | zero => simp [DataW.trod] at h
    | succ f =>
      unfold DataW.trod at h
      rw [ht] at h
      match cs, h with
      | [c], _ => exact ⟨c, rfl⟩
      | [], h => simp at h
      | _ :: _ :: _, h => simp at h
  obtain ⟨c, rfl⟩ := hc
  obtain ⟨n, rfl, hw⟩ := trod_int_cell ht h
  exact ⟨n, rfl, hw⟩
def ROnly (w : World) (B : List Blk) : Prop := ∀ p ∈ B, p.wr = false ∧ w.heap[p.b]? = some p.o
theorem ROnly.nil {w : World} : ROnly w [] := by simp [ROnly]
theorem ROnly.app {w : World} {B C : List Blk} (h : ROnly w B) (h2 : ROnly w C) : ROnly w (B ++ C) := fun p hp => by
  rcases List.mem_append.1 hp with hp | hp
  · exact h p hp
  · exact h2 p hp
theorem HP.ro {w : World} {B : List Blk} (h : ROnly w B) : HP [] w w B := HP.read h
theorem Sli.app {L M : List Blk} {a : Option Addr} {len size : Nat} {cells : List Value} (h : Sli L a len size cells) : Sli (L ++ M) a len size cells := h.left
theorem slice_list {X : Type} {cells : X → List Value} {ok : X → Prop} {t e : TypeId} {sz fuel : Nat} {a : Option Addr} {len cap : Nat} {x : DataW H × List MemPlace} (ht : P.underlying t = some (.slice e)) (hsz : P.cellsOf e = sz) (h0 : 0 < sz)
    (hcl : ∀ x, ok x → (cells x).length = sz) (hel : ∀ n cs y, DataW.trod enc P w base spare held n e cs = some y → ∃ x, cs = cells x ∧ ok x) (h : DataW.trod enc P w base spare held fuel t [.slice a len cap] = some x) :
    ∃ (l : List X) (B : List Blk), l.length = len ∧ (∀ x ∈ l, ok x) ∧ Sli B a len sz (l.flatMap cells) ∧ ROnly w B ∧ len ≤ maxLen ∧ len ≤ cap ∧ cap ≤ maxLen := by
  by_cases hl : 0 < len
  · obtain ⟨b, off, acs, T, fr, n, rfl, hb, h1, h2, hall⟩ := slice_block ht hsz h0 h hl
    have key : ∀ m, m ≤ len → ∃ l : List X, l.length = m ∧ (∀ x ∈ l, ok x) ∧ (acs.toList.drop off).take (m * sz) = l.flatMap cells := by
      intro m
      induction m with
      | zero => intro _; exact ⟨[], rfl, by simp, by simp⟩
      | succ m ih =>
        intro hm
        obtain ⟨l, e1, e2, e3⟩ := ih (by omega)
        obtain ⟨cs, y, hc1, hc2, hc3, hc4⟩ := hall m (by omega)
        obtain ⟨x, rfl, hx⟩ := hel _ _ _ hc2
        refine ⟨l ++ [x], by simp [e1], ?_, ?_⟩
        · intro z hz
          rcases List.mem_append.1 hz with hz | hz
          · exact e2 z hz
          · rw [List.mem_singleton.1 hz]; exact hx
        · rw [List.flatMap_append, ← e3, Nat.add_mul, Nat.one_mul, List.take_add, List.drop_drop]
          congr 1
          have := congrArg Array.toList hc4
          simp only [Array.toList_extract, List.extract_eq_take_drop] at this
          rw [Nat.add_sub_cancel_left] at this
          simpa using this
    obtain ⟨l, e1, e2, e3⟩ := key len (Nat.le_refl _)
    obtain ⟨_, _, _, _, hc3, _⟩ := hall (len - 1) (by omega)
    have hmul : (len - 1) * sz + sz = len * sz := by
      obtain ⟨q, rfl⟩ : ∃ q, len = q + 1 := ⟨len - 1, by omega⟩
      rw [Nat.add_sub_cancel, Nat.add_mul, Nat.one_mul]
    refine ⟨l, [⟨false, b, .cells acs T fr⟩], e1, e2, Sli.of (i := 0) rfl (by omega) e3, ?_, by omega, by omega, by omega⟩
    intro p hp
    rw [List.mem_singleton.1 hp]
    exact ⟨rfl, hb⟩
  · rcases trod_slice ht h with ⟨rfl, rfl, rfl⟩ | ⟨p, n, rfl, _, h2, h3, _⟩
    · exact ⟨[], [], rfl, by simp, ⟨by simp, .inl rfl⟩, ROnly.nil, by omega, by omega, by omega⟩
    · obtain rfl : len = 0 := by omega
      exact ⟨[], [], rfl, by simp, ⟨by simp, .inl rfl⟩, ROnly.nil, by omega, by omega, by omega⟩
end
end Go.Proofs.YtecbgehooembmaaGreatDoor
namespace Go.Proofs.YtecbgehooembmaaGreatDoor
open Go Go.RowKit
def u8ok (n : Int) : Prop := 0 ≤ n ∧ n < 256
def u8v (n : Int) : List Value := [.int .u8 n]
theorem u8v_flat (l : List Int) : l.flatMap u8v = u8l l := by induction l with | nil => rfl | cons n r ih => simpa [u8v, u8l] using ih
theorem u8_open {H : Type} {enc : TypeId × Value → H} {w : World} {base : Nat} {spare : Nat → Bool} {held : Bool} {fuel : Nat} {cs : List Value} {x : DataW H × List MemPlace} (h : DataW.trod enc Tryz.prog w base spare held fuel 5 cs = some x) : ∃ n : Int, cs = u8v n ∧ (0 ≤ n ∧ n < 256) := by
  obtain ⟨n, rfl, hw⟩ := trod_int_any Tryz.underlying5 h
  exact ⟨n, rfl, wf_u8 hw⟩
end Go.Proofs.YtecbgehooembmaaGreatDoor
namespace Go.Proofs.YtecbgehooembmaaGreatDoor
open Go.ChangeShapes Go.WideShapes Go.ChangeAt Go.RowKit
theorem ownParseAny : ownKnob Tryz.prog.godebug = none := by kernel_rfl
theorem laidParseAny : laidOutB Tryz.prog = true := by kernel_rfl
set_option maxRecDepth 100000 in
theorem parseAny_lifted (os : Os) (started : os.Started) (H : Type) (enc : TypeId × Value → H) :
    ReturnsInHanded {} Tryz.checked os 7 .any (fun w args => (Rows.parseAnySpec.pre enc Tryz.prog Tryz.f7 [] false w args ∧ laidMetH Tryz.prog Rows.parseAnyRow.laid w) ∧ sizedMet enc Tryz.prog Tryz.f7 (OpenSpec.ofChange Rows.parseAnySpec) false w args)
      (Rows.parseAnySpec.post enc Tryz.prog Tryz.f7 false true false false) := by
  refine returnsInHanded_of_change_and (C := Tryz.checked) (X := fun w _ => laidMetH Tryz.prog Rows.parseAnyRow.laid w) (fun _ _ _ hh h => h.of_heap hh) ownParseAny started (by kernel_rfl) Tryz.func7
    (ChangeSpec.witness_shaped (enc := enc) (C := Tryz.checked) (os := os) (X := fun w _ => laidMetH Tryz.prog Rows.parseAnyRow.laid w) false (World.laidAll Tryz.prog os Rows.parseAnyRow.laid) #[.string ⟨#[]⟩, .slice none 0 0] 8 (World.laidAll_os _ _ _)
      (World.shaped_of_ZipB (by kernel_rfl) (by kernel_rfl)) (by kernel_rfl) (by kernel_rfl) (by kernel_rfl)
      (by rw [MakeChecks.laidMetH_plain _ _ _ (by kernel_rfl)]; exact laidMet_laidAll _ (by kernel_rfl) (by kernel_rfl))) ?_
  intro W base args ds gs before hval0 hW _ _ _ _
  have hval : ∀ (j : Nat) t v, Tryz.f7.params[j]? = some t → args[j]? = some v → Value.okWide Tryz.prog W .any base t v := hval0
  have hW' := hW
  obtain ⟨p, q, hA0, hV, rfl, hfz, hnd⟩ := hW
  have hA : DataW.TrodAll enc Tryz.prog W 0 (fun _ => true) true Tryz.f7.params.toList args.toList ds p := hA0
  rw [Tryz.params7] at hA hval
  obtain ⟨v0, vs0, d0, ds0, p0, q0, hargs, rfl, rfl, h0, r0⟩ := trodAll_cons hA
  obtain ⟨v1, vs1, d1, ds1, p1, q1, rfl, rfl, rfl, h1, r1⟩ := trodAll_cons r0
  obtain ⟨rfl, rfl, rfl⟩ := trodAll_nil r1
  obtain rfl : args = #[v0, v1] := by cases args; simp_all
  obtain ⟨rfl, rfl⟩ := trodVars_none hV
  have k0 := h0
  have lt0 : ∀ x ∈ p0, x.block < W.heap.size := by obtain ⟨m, hm⟩ := k0; exact DataW.trod_lt m _ _ _ hm
  have k1 := h1
  have lt1 : ∀ x ∈ p1, x.block < W.heap.size := by obtain ⟨m, hm⟩ := k1; exact DataW.trod_lt m _ _ _ hm
  obtain ⟨a0, rfl, rfl, rfl, b0⟩ := Go.ChangeMaps.open_string Tryz.underlying9 (hval 0 9 v0 rfl rfl) h0
  obtain ⟨A1, len1, C1, rfl⟩ := okWide_slice Tryz.underlying45 (hval 1 45 v1 rfl rfl)
  obtain ⟨f1, hf1⟩ := h1
  obtain ⟨a1, B1, rfl, b1, s1, ro1, m1, q1⟩ := slice_list (cells := u8v) (ok := u8ok) Tryz.underlying45 (sz := 1) (by kernel_rfl) (by omega) (fun _ _ => rfl) (fun _ _ _ h => u8_open h) (by simpa [Value.cells] using hf1)
  have S1 := s1
  clear hA0 hval0
  refine ((parseAny_c (S := []) (w0 := W) (L := B1) a0 b0 a1 b1 m1 A1 C1 (by rw [← u8v_flat]; exact S1)).out W (HP.ro ro1)).mono fun e W' ⟨v, L', he, ⟨hv, _⟩, H'⟩ => ?_
  subst he hv
  have bel := H'.below
  exact ⟨_, rfl, _, _, _, [], _, [], hW', trodAll_mk1 (shut_bool Tryz.underlying4 _), (trodAll_cons_mk (Below.trod laidParseAny (by kernel_rfl) (of_decide_eq_true (by kernel_rfl)) k0 bel lt0) (trodAll_cons_mk (Below.trod laidParseAny (by kernel_rfl) (of_decide_eq_true (by kernel_rfl)) k1 bel lt1) trodAll_mk0)), rfl, bel.frame _, fun h => by cases h⟩
theorem parseAny_said : Rows.ParseAnySaid :=
  OpenClaim.holds_of_wide 7 Tryz.f7 rfl rfl rfl rfl rfl rfl rfl ⟨rfl, rfl, rfl, rfl, rfl⟩ rfl rfl rfl rfl rfl (by kernel_rfl) Tryz.func7 (by kernel_rfl)
    (of_decide_eq_true (by kernel_rfl)) (by unfold Func.isWrapper; first | (rw [if_pos (by decide +kernel)]; kernel_rfl) | (rw [if_neg (by decide +kernel)]; exact ⟨rfl, rfl⟩))
    (fun os started H enc _ => parseAny_lifted os started H enc)
theorem parseAny_plain (f : FuncId) (fn : Func) (hf : Tryz.pinned.checked.prog.funcNamed "pinfold/pinfoldlaw10.ParseAny" = some f) (hfn : Tryz.pinned.checked.prog.funcs[f]? = some fn) :
    false = Tryz.pinned.checked.prog.looks [] ∧ ∀ (j : Nat) t, fn.params[j]? = some t → Tryz.pinned.checked.prog.wantsStandIn t = false := by
  obtain rfl : f = 7 := Option.some.inj ((show Tryz.prog.funcNamed "pinfold/pinfoldlaw10.ParseAny" = some 7 by kernel_rfl).symm.trans hf) |>.symm
  obtain rfl : fn = Tryz.f7 := (Option.some.inj (Tryz.func7.symm.trans hfn)).symm
  refine ⟨by kernel_rfl, fun j t ht => ?_⟩
  rw [Tryz.params7] at ht
  have hm : t ∈ [9, 45] := by simpa using Array.mem_of_getElem? ht
  have hall : ([9, 45].all fun u => !Tryz.prog.wantsStandIn u) = true := by kernel_rfl
  exact (show Tryz.prog.wantsStandIn t = false by simpa using List.all_eq_true.1 hall t hm)
theorem parseAny_holds : Rows.ParseAnyCardSaid :=
  Claim7.holds_tied_plain_at .later [] _ _ _ _ parseAny_said (fun _ h => by cases h) (by kernel_rfl) (fun _ h => by cases h) parseAny_row_tie rfl ⟨rfl, rfl⟩ (by kernel_rfl) rfl parseAny_plain (by kernel_rfl)
#print axioms parseAny_holds
end Go.Proofs.YtecbgehooembmaaGreatDoor
