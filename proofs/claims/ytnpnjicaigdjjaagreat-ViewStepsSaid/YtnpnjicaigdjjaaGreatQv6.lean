/- Part 6 of what the last text of this claim leans on: rules of walks, contracts, plain facts. Conditions: those of each statement. -/
import Derived.Test.YtnpnjicaigdjjaaGreatQv5
set_option maxRecDepth 100000
namespace Go.Proofs.YtnpnjicaigdjjaaGreat
open Go Go.RowKit
structure GoodS (B : List Blk) (x : StD) : Prop where
 ok : x.ok B
 s0 : x.c.t0.size ≤ 300
 s1 : x.c.t1.size ≤ 300
 s2 : x.xs.length ≤ 300
def trT (l : List StD) : List UInt8 := l.flatMap fun x => stT x ++ [10]
theorem trT_snoc (l : List StD) (x : StD) : trT (l ++ [x]) = trT l ++ (stT x ++ [10]) := by simp [trT]
theorem GoodS.len {B : List Blk} {x : StD} (h : GoodS B x) : (stT x).length ≤ 5000 := stT_len x h.ok.c h.s0 h.s1 h.ok.val.2 h.ok.err.2 h.s2
theorem trT_len {B : List Blk} (l : List StD) (h : ∀ x ∈ l, GoodS B x) : (trT l).length ≤ 5001 * l.length := by
 induction l with
 | nil => simp [trT]
 | cons x r ih =>
  have h1 := (h x (List.mem_cons_self ..)).len
  have h2 := ih (fun y hy => h y (List.mem_cons_of_mem _ hy))
  show ((stT x ++ [10]) ++ trT r).length ≤ _
  rw [List.length_append, List.length_append]
  show _ + 1 + _ ≤ 5001 * (r.length + 1)
  omega
theorem vstep_x {S w0 L} (x : Blk) (B : List Blk) (tb m1 m2 n : Nat) (hn : n ≤ 90000) (c : StD) (hc : GoodS L c) :
  Fn Tryz.prog 16 #[.agg c.cells.toArray, .pointer (some ⟨tb, 0, none⟩)] S w0 (x :: (B ++ (tbS tb m1 m2 n ++ L))) fun v L' => ∃ m1' m2', v = .string (mB8 (stT c)) ∧ x :: (B ++ (tbS tb m1' m2' (n + 1) ++ L)) = L' :=
 .mk fun w H => ((vstep_c (S:=S) (w0:=w0) (L:=(x :: B) ++ L) tb m1 m2 n hn c hc.ok.c hc.s0 hc.s1 hc.ok.val hc.ok.err hc.s2 (hc.ok.sl.upA (x :: B))).out w (HP.swapA (e:=x :: B) (tbS tb m1 m2 n) H)).mono fun e w' ⟨v, L', he, ⟨k1, k2, hv, hL⟩, H'⟩ => ⟨v, _, he, ⟨k1, k2, hv, rfl⟩, HP.swapA (e:=tbS tb k1 k2 (n + 1)) (x :: B) (hL ▸ H')⟩
structure TrI (l : List StD) (b : Nat) (g : Nat × Nat × Nat × List Blk) : Prop where
 le : g.1 ≤ l.length
 bld : BldI b (trT (l.take g.1)) g.2.2.2
set_option maxHeartbeats 4000000 in
theorem vtrace_c {S w0 L} (tb m1 m2 n : Nat) (hn : n ≤ 80000) (l : List StD) (hl : ∀ c ∈ l, GoodS L c) (hlen : l.length ≤ 20) (a : Option Addr) (cap : Nat) (hs : Sli L a l.length 11 (l.flatMap StD.cells)) :
  Fn Tryz.prog 18 #[.slice a l.length cap, .pointer (some ⟨tb, 0, none⟩)] S w0 (tbS tb m1 m2 n ++ L) fun v L' => ∃ m1' m2', v = .string (mB8 (trT l)) ∧ tbS tb m1' m2' (n + l.length) ++ L = L' := by
 have hl' := Lib.hid hl
 clear hl
 refine Fn2 Tryz.func18 Tryz.ntmps18 rfl rfl ?_
 repeat' (first | (refine h5e (id:=0) ?_) | refine h2m ?_ | refine h0d ?_ | refine h0u ?_ | refine h1h ?_ | refine h1f ?_ | refine h1g ?_ | refine h0s ?_ | refine h0t ?_ | refine h1l ?_ | refine h1k ?_ | refine h1j ?_ | refine h1i rfl ?_ | refine h1a ?_ | refine h1u ?_ | refine h1v ?_ | refine h2n ?_ | refine h0v rfl ?_ | refine h0w rfl ?_ | (refine gR 0 ?_ <;> (try refine h0a ?_; (first | (refine q_k (h0b rfl) ?_))) <;> (try refine h0d ?_)) | (refine gR 1 ?_ <;> (try refine h0a ?_; (first | (refine h2u (t:=88) rfl Tryz.zeroValue88 ?_; intro nb hnb; (try simp only [Value.cells])))) <;> (try refine h0d ?_)) | (refine gR 2 ?_ <;> (try refine h0a ?_; (first | (refine q_k (h0c rfl) ?_))) <;> (try refine h0a ?_; (first | (refine q_k (by apply h1d; exact rfl; exact (fun _ => BigFrame.builtin_len ..); apply h1n Tryz.underlying52; exact c_17) ?_))) <;> (try refine h0a ?_; (first | (refine q_k (h0c rfl) ?_))) <;> (try refine h0d ?_)) | (refine gR 3 ?_ <;> (try refine h0a ?_; (first | (refine q_k (by exact q_b (r:=by first | (exact h1y q_o) | (exact h1z q_o) | exact h2v)) ?_))) <;> (try refine h0d ?_)) | (refine gR 4 ?_ <;> (try refine h0a ?_; (first | (refine q_k (by apply h0y; exact rfl; exact rfl; (focus (apply h4p Tryz.underlying52 sz_67; (omega); (omega); exact c_2))) ?_))) <;> (try refine h0a ?_; (first | (refine q_k (by apply h3i (t:=67); exact rfl; (focus (repeat (first | exact fd0 | (with_reducible assumption) | apply fdA | apply fdS))); kernel_rfl; kernel_rfl; exact sz_67; exact c_8; exact c_4) ?_))) <;> (try refine h0a ?_; (first | (refine h2u (t:=67) rfl Tryz.zeroValue67 ?_; intro nb hnb; (try simp only [Value.cells])))) <;> (try refine h0a ?_; (first | (first | (apply h2j (t:=67); exact rfl; exact rfl; (focus (repeat (first | exact fd0 | (with_reducible assumption) | apply fdA | apply fdS))); kernel_rfl; exact c_12; (focus (first | (with_reducible assumption) | exact rfl | (simp; done) | (simp [h1w, h1m, h1x, h2a, h2p, h2b, *]; done))); (try simp only [List.set_cons_succ]); (try simp only [List.set_cons_zero])) | (apply h2k (t:=67); exact rfl; exact rfl; (focus (repeat (first | exact fd0 | (with_reducible assumption) | apply fdA | apply fdS))); exact sz_67; exact h1q; (focus (first | (with_reducible assumption) | (focus (first | (with_reducible assumption) | exact rfl | (simp; done) | (simp [h1w, h1m, h1x, h2a, h2p, h2b, *]; done))))); exact c_8; (try simp only [List.set_cons_succ]); (try simp only [List.set_cons_zero]))))) <;> (try refine h0d ?_)) | (refine gR 5 ?_ <;> (try refine h0a ?_; (first | (refine q_k (by apply h3i (t:=67); exact rfl; (focus (repeat (first | exact fd0 | (with_reducible assumption) | apply fdA | apply fdS))); kernel_rfl; kernel_rfl; exact sz_67; exact c_8; exact c_4) ?_))) <;> (try refine h0a ?_; (first | (refine q_k (h0c rfl) ?_))) <;> (try refine h0a ?_; (first | fail)) <;> (try refine h0a ?_; (first | (refine q_k (by exact q_b (r:=by apply h0j; exact rfl; (focus (first | omega | (simp only [ByteArray.size_append]; omega) | assumption)))) ?_))) <;> (try refine h0a ?_; (first | fail)) <;> (try refine h0d ?_)) | (refine gR 6 ?_ <;> (try refine h0a ?_; (first | (refine q_k (by exact q_b (r:=by apply h3j; exact c_6; (focus (first | (refine IntWalk.i64_in _ ?_; omega) | (refine IntWalk.u8_in _ ?_; omega) | (refine IntWalk.u16_in _ ?_; omega) | (refine IntWalk.u32_in _ ?_; omega) | (refine IntWalk.u64_in _ ?_; omega) | (refine IntWalk.i32_in _ ?_; omega) | exact rfl)))) ?_))) <;> (try refine h0a ?_; (first | (refine q_k (h0c rfl) ?_))) <;> (try refine h0d ?_)) | (refine gR 7 ?_ <;> (try refine h0a ?_; (first | fail)) <;> (try refine h0a ?_; (first | (refine q_k (h0b rfl) ?_))) <;> (try refine h0d ?_)) | ((first | (refine h0o rfl (fun hc => ?_) (fun hc => ?_)) | (refine h0x rfl (fun hc => ?_) (fun hc => ?_)) | (refine h1r rfl (fun hc => ?_) (fun hc => ?_))) <;> (try subst hc)))
 refine ⟨?_⟩
 obtain ⟨nbO, rfl⟩ : ∃ x, x = nb := ⟨_, rfl⟩
 refine h1a ?_
 refine G_loopk (γ:=Nat × Nat × Nat × List Blk) (TrI l nbO) (fun g => l.length - g.1) (fun g => [(10, .int .i64 (g.1 : Nat))]) [(1, _), (5, _), (8, _), (9, _)]
  (fun g => g.2.2.2 ++ (tbS tb g.2.1 g.2.2.1 (n + g.1) ++ L)) (0, m1, m2, [bB nbO (.pointer none) (.slice none 0 0)]) (.cons rfl (.cons rfl (.cons rfl (.cons rfl .nil)))) ⟨Nat.zero_le _, bldi_0 _⟩ (by (focus (repeat (first | exact Sub.nil | refine Sub.cons rfl ?_ | (refine Sub.cons (congrArg some ?_) ?_; (focus go_num)))))) (fun _ H => H) ?_
 rintro ⟨k, k1, k2, B⟩ ⟨hk, hB⟩
 dsimp only at hk hB ⊢
 simp only [List.cons_append, List.nil_append]
 have htl := trT_len (l.take k) (fun c hc => hl'.out c (List.mem_of_mem_take hc))
 have hkl : (l.take k).length = k := by rw [List.length_take]; omega
 rw [hkl] at htl
 by_cases hlt : k < l.length
 case neg =>
  obtain rfl : k = l.length := by omega
  rw [List.take_of_length_le (Nat.le_refl _)] at hB htl
  have hst := bldi_s (S:=S) (w0:=w0) (L:=tbS tb k1 k2 (n + l.length) ++ L) hB (by omega)
  repeat' (first | refine h2m ?_ | refine h0d ?_ | refine h0u ?_ | refine h1h ?_ | refine h1f ?_ | refine h1g ?_ | refine h0s ?_ | refine h0t ?_ | refine h1l ?_ | refine h1k ?_ | refine h1j ?_ | refine h1i rfl ?_ | refine h1a ?_ | refine h1u ?_ | refine h1v ?_ | refine h2n ?_ | refine h0v rfl ?_ | refine h0w rfl ?_ | (refine gR 0 ?_ <;> (try refine h0a ?_; (first | (refine q_k (h0b rfl) ?_))) <;> (try refine h0d ?_)) | (refine gR 1 ?_ <;> (try refine h0a ?_; (first | (refine h2u (t:=88) rfl Tryz.zeroValue88 ?_; intro nb hnb; (try simp only [Value.cells])))) <;> (try refine h0d ?_)) | (refine gR 2 ?_ <;> (try refine h0a ?_; (first | (refine q_k (h0c rfl) ?_))) <;> (try refine h0a ?_; (first | (refine q_k (by apply h1d; exact rfl; exact (fun _ => BigFrame.builtin_len ..); apply h1n Tryz.underlying52; exact c_17) ?_))) <;> (try refine h0a ?_; (first | (refine q_k (h0c rfl) ?_))) <;> (try refine h0d ?_)) | (refine gR 3 ?_ <;> (try refine h0a ?_; (first | (refine q_k (by exact q_b (r:=by first | (exact h1y q_o) | (exact h1z q_o) | exact h2v)) ?_))) <;> (try refine h0d ?_)) | (refine gR 4 ?_ <;> (try refine h0a ?_; (first | (refine q_k (by apply h0y; exact rfl; exact rfl; (focus (apply h4p Tryz.underlying52 sz_67; (omega); (omega); exact c_2))) ?_))) <;> (try refine h0a ?_; (first | (refine q_k (by apply h3i (t:=67); exact rfl; (focus (repeat (first | exact fd0 | (with_reducible assumption) | apply fdA | apply fdS))); kernel_rfl; kernel_rfl; exact sz_67; exact c_8; exact c_4) ?_))) <;> (try refine h0a ?_; (first | (refine h2u (t:=67) rfl Tryz.zeroValue67 ?_; intro nb hnb; (try simp only [Value.cells])))) <;> (try refine h0a ?_; (first | (first | (apply h2j (t:=67); exact rfl; exact rfl; (focus (repeat (first | exact fd0 | (with_reducible assumption) | apply fdA | apply fdS))); kernel_rfl; exact c_12; (focus (first | (with_reducible assumption) | exact rfl | (simp; done) | (simp [h1w, h1m, h1x, h2a, h2p, h2b, *]; done))); (try simp only [List.set_cons_succ]); (try simp only [List.set_cons_zero])) | (apply h2k (t:=67); exact rfl; exact rfl; (focus (repeat (first | exact fd0 | (with_reducible assumption) | apply fdA | apply fdS))); exact sz_67; exact h1q; (focus (first | (with_reducible assumption) | (focus (first | (with_reducible assumption) | exact rfl | (simp; done) | (simp [h1w, h1m, h1x, h2a, h2p, h2b, *]; done))))); exact c_8; (try simp only [List.set_cons_succ]); (try simp only [List.set_cons_zero]))))) <;> (try refine h0d ?_)) | (refine gR 5 ?_ <;> (try refine h0a ?_; (first | (refine q_k (by apply h3i (t:=67); exact rfl; (focus (repeat (first | exact fd0 | (with_reducible assumption) | apply fdA | apply fdS))); kernel_rfl; kernel_rfl; exact sz_67; exact c_8; exact c_4) ?_))) <;> (try refine h0a ?_; (first | (refine q_k (h0c rfl) ?_))) <;> (try refine h0a ?_; (first | fail)) <;> (try refine h0a ?_; (first | (refine q_k (by exact q_b (r:=by apply h0j; exact rfl; (focus (first | omega | (simp only [ByteArray.size_append]; omega) | assumption)))) ?_))) <;> (try refine h0a ?_; (first | fail)) <;> (try refine h0d ?_)) | (refine gR 6 ?_ <;> (try refine h0a ?_; (first | (refine q_k (by exact q_b (r:=by apply h3j; exact c_6; (focus (first | (refine IntWalk.i64_in _ ?_; omega) | (refine IntWalk.u8_in _ ?_; omega) | (refine IntWalk.u16_in _ ?_; omega) | (refine IntWalk.u32_in _ ?_; omega) | (refine IntWalk.u64_in _ ?_; omega) | (refine IntWalk.i32_in _ ?_; omega) | exact rfl)))) ?_))) <;> (try refine h0a ?_; (first | (refine q_k (h0c rfl) ?_))) <;> (try refine h0d ?_)) | (refine gR 7 ?_ <;> (try refine h0a ?_; (first | (first | (refine h2d (F:=33) (by kernel_rfl) rfl rfl hst ?_; rintro _ _ ⟨rfl, rfl⟩)))) <;> (try refine h0a ?_; (first | (refine q_k (h0b rfl) ?_))) <;> (try refine h0d ?_)) | ((first | (refine h0o rfl (fun hc => ?_) (fun hc => ?_)) | (refine h0x rfl (fun hc => ?_) (fun hc => ?_)) | (refine h1r rfl (fun hc => ?_) (fun hc => ?_))) <;> (try subst hc)))
  (refine h2q Tryz.results18 (.tmp rfl .nil) ?_)
  exact ⟨_, ⟨k1, k2, rfl, rfl⟩, by intro w H; refine H.sub ?_; (try simp only [zzC, zzN]); repeat (first | exact List.Sublist.refl _ | refine List.Sublist.cons_cons _ ?_ | refine List.Sublist.cons _ ?_ | refine List.sublist_append_of_sublist_right ?_)⟩
 obtain ⟨j, q, b, off, cs, T, fr, rfl, hj, hsz, hx⟩ := ((hs.upA (tbS tb k1 k2 (n + k))).upA B).elem hlt
 rw [flatG_at (cells:=StD.cells) (m:=11) (fun _ => rfl) l k hlt] at hx
 have hok := hl'.out _ (List.getElem_mem hlt)
 have htk : trT (l.take (k + 1)) = trT (l.take k) ++ (stT l[k] ++ [10]) := by rw [List.take_succ_eq_append_getElem hlt, trT_snoc]
 have hlc := fun x => vstep_x (S:=S) (w0:=w0) (L:=L) x B tb k1 k2 (n + k) (by omega) l[k] hok
 have hsl := hok.len
 generalize l[k] = c at *
 obtain ⟨⟨ct, cf, cn, c0, c1, t0, t1⟩, val, xs, ba, bc, err, kl⟩ := c
 simp only [StD.cells, StD.rcells, CallD.cells, List.cons_append, List.nil_append] at hx
 simp only [StD.cells, StD.rcells, CallD.cells, List.cons_append, List.nil_append] at hlc
 clear hok hkl
 generalize stT _ = t at *
 have h10 : (⟨#[10]⟩ : ByteArray) = mB8 [10] := rfl
 have hcat : mB8 t ++ (⟨#[10]⟩ : ByteArray) = mB8 (t ++ [10]) := by rw [h10, h5g]
 have hsz2 : (mB8 t ++ (⟨#[10]⟩ : ByteArray)).size = t.length + 1 := by rw [hcat, h3k, List.length_append]; rfl
 have hbw := fun x M => (bldi_t (S:=S) (w0:=w0) (L:=M) hB (by omega) (mB8 t ++ (⟨#[10]⟩ : ByteArray)) (by omega) (by omega)).weak (L1:=x :: (B ++ M)) (fun _ H => H.tail)
 rw [hcat, lB_mB8, ← htk, ← hcat] at hbw
 have hst : (mB8 t).size + (⟨#[10]⟩ : ByteArray).size ≤ 9223372036854775807 := by rw [h3k]; show _ + 1 ≤ _; omega
 clear h10 hcat htk hB hsz2
 repeat' (first | refine h2m ?_ | refine h0d ?_ | refine h0u ?_ | refine h1h ?_ | refine h1f ?_ | refine h1g ?_ | refine h0s ?_ | refine h0t ?_ | refine h1l ?_ | refine h1k ?_ | refine h1j ?_ | refine h1i rfl ?_ | refine h1a ?_ | refine h1u ?_ | refine h1v ?_ | refine h2n ?_ | refine h0v rfl ?_ | refine h0w rfl ?_ | (refine gR 0 ?_ <;> (try refine h0a ?_; (first | (refine q_k (h0b rfl) ?_))) <;> (try refine h0d ?_)) | (refine gR 1 ?_ <;> (try refine h0a ?_; (first | (refine h2u (t:=88) rfl Tryz.zeroValue88 ?_; intro nb hnb; (try simp only [Value.cells])))) <;> (try refine h0d ?_)) | (refine gR 2 ?_ <;> (try refine h0a ?_; (first | (refine q_k (h0c rfl) ?_))) <;> (try refine h0a ?_; (first | (refine q_k (by apply h1d; exact rfl; exact (fun _ => BigFrame.builtin_len ..); apply h1n Tryz.underlying52; exact c_17) ?_))) <;> (try refine h0a ?_; (first | (refine q_k (h0c rfl) ?_))) <;> (try refine h0d ?_)) | (refine gR 3 ?_ <;> (try refine h0a ?_; (first | (refine q_k (by exact q_b (r:=by first | (exact h1y q_o) | (exact h1z q_o) | exact h2v)) ?_))) <;> (try refine h0d ?_)) | (refine gR 4 ?_ <;> (try refine h0a ?_; (first | (refine q_k (by apply h0y; exact rfl; exact rfl; (focus (apply h4p Tryz.underlying52 sz_67; (omega); (omega); exact c_2))) ?_))) <;> (try refine h0a ?_; (first | (refine q_k (by apply h3i (t:=67); exact rfl; (focus (repeat (first | exact fd0 | (with_reducible assumption) | apply fdA | apply fdS))); kernel_rfl; kernel_rfl; exact sz_67; exact c_8; exact c_4) ?_))) <;> (try refine h0a ?_; (first | (refine h2u (t:=67) rfl Tryz.zeroValue67 ?_; intro nb hnb; (try simp only [Value.cells])))) <;> (try refine h0a ?_; (first | (first | (apply h2j (t:=67); exact rfl; exact rfl; (focus (repeat (first | exact fd0 | (with_reducible assumption) | apply fdA | apply fdS))); kernel_rfl; exact c_12; (focus (first | (with_reducible assumption) | exact rfl | (simp; done) | (simp [h1w, h1m, h1x, h2a, h2p, h2b, *]; done))); (try simp only [List.set_cons_succ]); (try simp only [List.set_cons_zero])) | (apply h2k (t:=67); exact rfl; exact rfl; (focus (repeat (first | exact fd0 | (with_reducible assumption) | apply fdA | apply fdS))); exact sz_67; exact h1q; (focus (first | (with_reducible assumption) | (focus (first | (with_reducible assumption) | exact rfl | (simp; done) | (simp [h1w, h1m, h1x, h2a, h2p, h2b, *]; done))))); exact c_8; (try simp only [List.set_cons_succ]); (try simp only [List.set_cons_zero]))))) <;> (try refine h0d ?_)) | (refine gR 5 ?_ <;> (try refine h0a ?_; (first | (refine q_k (by apply h3i (t:=67); exact rfl; (focus (repeat (first | exact fd0 | (with_reducible assumption) | apply fdA | apply fdS))); kernel_rfl; kernel_rfl; exact sz_67; exact c_8; exact c_4) ?_))) <;> (try refine h0a ?_; (first | (refine q_k (h0c rfl) ?_))) <;> (try refine h0a ?_; (first | (first | (refine h2d (F:=16) (by kernel_rfl) rfl rfl (hlc _) ?_; rintro _ _ ⟨j1, j2, rfl, rfl⟩)))) <;> (try refine h0a ?_; (first | (refine q_k (by exact q_b (r:=by apply h0j; exact rfl; (focus (first | omega | (simp only [ByteArray.size_append]; omega) | assumption)))) ?_))) <;> (try refine h0a ?_; (first | (first | (refine h2d (F:=24) (by kernel_rfl) rfl rfl (hbw _ _) ?_; rintro _ _ ⟨rfl, B2, hB2, rfl⟩)))) <;> (try refine h0d ?_)) | (refine gR 6 ?_ <;> (try refine h0a ?_; (first | (refine q_k (by exact q_b (r:=by apply h3j; exact c_6; (focus (first | (refine IntWalk.i64_in _ ?_; omega) | (refine IntWalk.u8_in _ ?_; omega) | (refine IntWalk.u16_in _ ?_; omega) | (refine IntWalk.u32_in _ ?_; omega) | (refine IntWalk.u64_in _ ?_; omega) | (refine IntWalk.i32_in _ ?_; omega) | exact rfl)))) ?_))) <;> (try refine h0a ?_; (first | (refine q_k (h0c rfl) ?_))) <;> (try refine h0d ?_)) | (refine gR 7 ?_ <;> (try refine h0a ?_; (first | fail)) <;> (try refine h0a ?_; (first | (refine q_k (h0b rfl) ?_))) <;> (try refine h0d ?_)) | ((first | (refine h0o rfl (fun hc => ?_) (fun hc => ?_)) | (refine h0x rfl (fun hc => ?_) (fun hc => ?_)) | (refine h1r rfl (fun hc => ?_) (fun hc => ?_))) <;> (try subst hc)))
 exact h6b (k + 1, j1, j2, B2) ⟨⟨by dsimp only; omega, hB2⟩, by dsimp only; omega⟩ (by (focus (repeat (first | exact Sub.nil | refine Sub.cons rfl ?_ | (refine Sub.cons (congrArg some ?_) ?_; (focus go_num)))))) (fun _ H => H)
end Go.Proofs.YtnpnjicaigdjjaaGreat
namespace Go.Proofs.YtnpnjicaigdjjaaGreat
open Go Go.RowKit Go.ChangeMaps
abbrev mitB (r b n : Nat) (seen : List Nat) : Blk := ⟨true, r, .mapIter (some b) n seen.toArray n⟩
theorem mkE_mem {kvs : List (Value × Value)} {e : MapEntry} {i : Nat} (h : e ∈ mkE kvs i) : ∃ q p, kvs[q]? = some p ∧ e = { key := p.1, val := p.2, born := i + q } := by
 induction kvs generalizing i with
 | nil => simp [mkE] at h
 | cons p r ih =>
  simp only [mkE, List.mem_cons] at h
  rcases h with rfl | h
  ·exact ⟨0, p, rfl, rfl⟩
  ·obtain ⟨q, p', h1, h2⟩ := ih h
   exact ⟨q + 1, p', h1, by rw [h2]; congr 1; omega⟩
theorem mkE_of {kvs : List (Value × Value)} {q : Nat} {p : Value × Value} (h : kvs[q]? = some p) (i : Nat) : ({ key := p.1, val := p.2, born := i + q } : MapEntry) ∈ mkE kvs i := List.mem_of_getElem? (mkE_get kvs i q p h)
theorem mkE_born (kvs : List (Value × Value)) (i : Nat) : (mkE kvs i).map (·.born) = List.range' i kvs.length := by
 induction kvs generalizing i with
 | nil => rfl
 | cons p r ih => simp only [mkE, List.map_cons, List.length_cons, List.range'_succ, ih]
theorem mkE_nodup (kvs : List (Value × Value)) (i : Nat) : ((mkE kvs i).map (·.born)).Nodup := by rw [mkE_born]; exact List.nodup_range'
theorem set_app {α : Type} (e L : List α) (k : Nat) (x : α) : (e ++ L).set (e.length + k) x = e ++ L.set k x := by
 rw [List.set_append_right _ _ (by omega), Nat.add_sub_cancel_left]
section
variable {P : Program} {n : Nat} {l : List (Nat × Value)} {S : List Nat} {w0 : World} {L : List Blk} {K : Act → World → Prop} {kt : Kont} {ops : Array Oper} {d : Tmp} {ty : TypeId} {pos : String} {af : Array Edge}
theorem h5c {t k e : TypeId} {x : Operand} {i b : Nat} {kvs : List (Value × Value)} (hd : Nat.blt d n = true) (hx : ev l x = some (.map (some b))) (hi : L[i]? = some (h5m b kvs)) (ht : P.underlying t = some (.map k e))
  (h : ∀ nb, w0.heap.size ≤ nb → G n ((d, .pointer (some ⟨nb, 0, none⟩)) :: l) S w0 (mitB nb b kvs.length [] :: L) K) : G n l S w0 L (K1 P ops kt ⟨some d, .range t x, ty, pos, af, none⟩ K) := .mk fun a w hf H => h4g rfl <| by
 have hat := H.at_ i hi
 unfold Oper.wp execOp
 simp only [hf.eval hx, Sem.run_bind, run_range_map w t k e b _ _ ht hat, Result.andThen_ok, Sem.run_pure]
 exact (h _ H.size).out _ _ (hf.put (some d) _ hd) (H.alloc _)
theorem h5t {x : Operand} {i j r b : Nat} {kvs : List (Value × Value)} {seen : List Nat} (hd : Nat.blt d n = true) (hx : ev l x = some (.pointer (some ⟨r, 0, none⟩))) (hi : L[i]? = some (mitB r b kvs.length seen)) (hj : L[j]? = some (h5m b kvs))
  (hDone : (∀ q, q < kvs.length → q ∈ seen) → G n ((d, .tuple #[.bool false]) :: l) S w0 L K)
  (hMore : ∀ q p, kvs[q]? = some p → q ∉ seen → G n ((d, .tuple #[.bool true, p.1, p.2]) :: l) S w0 (L.set i (mitB r b kvs.length (seen ++ [q]))) K) :
  G n l S w0 L (K1 P ops kt ⟨some d, .next x false, ty, pos, af, none⟩ K) := .mk fun a w hf H => h4g rfl <| by
 have hr := H.at_ i hi
 have hb := H.at_ j hj
 have hlt : r < w.heap.size := H.lt i hi
 have hold : ∀ x ∈ (mkE kvs 0).toArray.toList, x.born < kvs.length := by
  intro x hx
  obtain ⟨q, p, h1, rfl⟩ := mkE_mem hx
  have := (List.getElem?_eq_some_iff.1 h1).1
  dsimp only; omega
 rcases run_next_at (P:=P) w ty r b kvs.length kvs.length seen.toArray (mkE kvs 0).toArray kvs.length hr hb hold (Nat.le_refl _) with ⟨h0, hrun⟩ | ⟨e, he, w1, hal, hrun⟩
 ·unfold Oper.wp execOp
  simp only [hf.eval hx, Sem.run_bind, hrun, Result.andThen_ok, Sem.run_pure]
  refine (hDone ?_).out _ _ (hf.put (some d) _ hd) H
  intro q hq
  by_cases hs : q ∈ seen
  ·exact hs
  ·exfalso
   have hp : kvs[q]? = some kvs[q] := List.getElem?_eq_getElem hq
   have hm := mkE_of hp 0
   rw [Nat.zero_add] at hm
   have : ({ key := kvs[q].1, val := kvs[q].2, born := q } : MapEntry) ∈ (leftOf (mkE kvs 0).toArray seen.toArray).toList := by
    unfold leftOf
    simp [hm, hs]
   have h1 := List.length_pos_of_mem this
   rw [Array.length_toList] at h1
   omega
 ·have he2 : e ∈ mkE kvs 0 ∧ e.born ∉ seen := by
   unfold leftOf at he
   simp at he
   exact he
  obtain ⟨q, p, h1, rfl⟩ := mkE_mem he2.1
  rw [Nat.zero_add] at hrun he2
  have H1 : HP S w0 w1 L := by rcases hal with rfl | rfl; exact H; exact H.drew
  have hlt1 : r < w1.heap.size := H1.lt i hi
  have H2 := H1.turn i hi (setBlock w1 r (.mapIter (some b) kvs.length ((seen.toArray).push q) kvs.length)) (.mapIter (some b) kvs.length (seen ++ [q]).toArray kvs.length) rfl rfl rfl (by simp [setBlock]) (by simp [setBlock, hlt1])
   (fun k hk => by simp only [setBlock]; rw [Array.getElem?_setIfInBounds, if_neg (fun e => hk e.symm)])
  unfold Oper.wp execOp
  simp only [hf.eval hx, Sem.run_bind, hrun, Result.andThen_ok, Sem.run_pure]
  exact (hMore q p h1 he2.2).out _ _ (hf.put (some d) _ hd) H2
theorem h5u {x : Operand} {i j r b q : Nat} {kvs : List (Value × Value)} {seen : List Nat} {p : Value × Value} (hx : ev l x = some (.pointer (some ⟨r, 0, none⟩))) (hi : L[i]? = some (mitB r b kvs.length (seen ++ [q]))) (hj : L[j]? = some (h5m b kvs)) (hq : kvs[q]? = some p) :
  ValOf P n l S w0 L ⟨some d, .entry x, ty, pos, af, none⟩ (.tuple #[p.1, p.2]) :=
 ⟨fun a w hF H => by
  have hr := H.at_ i hi
  have hb := H.at_ j hj
  have hm := mkE_of hq 0
  have hn : ((mkE kvs 0).toArray.toList.map (·.born)).Nodup := mkE_nodup kvs 0
  have hr' : w.heap[r]? = some (.mapIter (some b) kvs.length (seen.toArray.push ({ key := p.1, val := p.2, born := 0 + q } : MapEntry).born) kvs.length) := by rw [hr]; simp
  have := run_entry_at (P:=P) w r b kvs.length seen.toArray (mkE kvs 0).toArray kvs.length _ hr' hb hm hn
  unfold execOp
  simp only [hF.eval hx, Sem.run_bind, this, Result.andThen_ok, Sem.run_pure]⟩
end
end Go.Proofs.YtnpnjicaigdjjaaGreat
namespace Go.Proofs.YtnpnjicaigdjjaaGreat
open Go Go.RowKit
section
variable {P : Program} {n : Nat} {l : List (Nat × Value)} {S : List Nat} {w0 : World} {L : List Blk} {K : Act → World → Prop} {kt : Kont} {ops : Array Oper} {d : Tmp} {ty : TypeId} {pos : String} {af : Array Edge}
abbrev iterB (b : Nat) (s : ByteArray) (p : Nat) : Blk := ⟨true, b, .stringIter s p⟩
theorem K1_rangeStr {t : TypeId} {x : Operand} {s : ByteArray} (hd : Nat.blt d n = true) (hx : ev l x = some (.string s)) (ht : P.underlying t = some .string)
  (h : ∀ nb, w0.heap.size ≤ nb → G n ((d, .pointer (some ⟨nb, 0, none⟩)) :: l) S w0 (iterB nb s 0 :: L) K) : G n l S w0 L (K1 P ops kt ⟨some d, .range t x, ty, pos, af, none⟩ K) := .mk fun a w hf H => h4g rfl <| by
 unfold Oper.wp execOp
 simp only [hf.eval hx, Instr.range, Sem.run_bind, run_underlying ht, Sem.run_pure, Result.andThen_ok, run_newObj]
 exact (h _ H.size).out _ _ (hf.put (some d) _ hd) (H.alloc _)
theorem K1_nextStr {x : Operand} {i b p : Nat} {s : ByteArray} (hd : Nat.blt d n = true) (hx : ev l x = some (.pointer (some ⟨b, 0, none⟩))) (hi : L[i]? = some (iterB b s p)) (hp : p < s.size)
  (h : G n ((d, .tuple [.bool true, .int .i64 p, .int .i32 (Utf8.decode s p).1].toArray) :: l) S w0 (L.set i (iterB b s (p + (Utf8.decode s p).2))) K) : G n l S w0 L (K1 P ops kt ⟨some d, .next x true, ty, pos, af, none⟩ K) := .mk fun a w hf H => h4g rfl <| by
 have hat := H.at_ i hi
 have hb : b < w.heap.size := H.lt i hi
 have hset : (setObj b (.stringIter s (p + (Utf8.decode s p).2))).run P w = .ok () { w with heap := w.heap.setIfInBounds b (.stringIter s (p + (Utf8.decode s p).2)) } := by
  simp only [setObj, Sem.run, hat]
 have H1 := H.turn i hi { w with heap := w.heap.setIfInBounds b (.stringIter s (p + (Utf8.decode s p).2)) } (.stringIter s (p + (Utf8.decode s p).2)) rfl rfl rfl (by simp) (by simp [hb]) (fun k hk => by rw [Array.getElem?_setIfInBounds, if_neg (fun e => hk (Eq.symm e))])
 have hr : (Instr.next (.pointer (some ⟨b, 0, none⟩)) true ty).run P w = .ok (.tuple [.bool true, .int .i64 p, .int .i32 (Utf8.decode s p).1].toArray) { w with heap := w.heap.setIfInBounds b (.stringIter s (p + (Utf8.decode s p).2)) } := by
  unfold Instr.next
  simp only [Sem.run_bind, getObj, Sem.run, hat, Result.andThen_ok, hp, if_true]
  simp only [Sem.run_bind, hset, Result.andThen_ok, Sem.run_pure, goInt]
 unfold Oper.wp execOp
 simp only [hf.eval hx, Sem.run_bind, hr, Result.andThen_ok, Sem.run_pure]
 exact h.out _ _ (hf.put (some d) _ hd) H1
theorem K1_nextOver {x : Operand} {i b p : Nat} {s : ByteArray} (hd : Nat.blt d n = true) (hx : ev l x = some (.pointer (some ⟨b, 0, none⟩))) (hi : L[i]? = some (iterB b s p)) (hp : ¬ p < s.size)
  (h : G n ((d, .tuple [.bool false].toArray) :: l) S w0 L K) : G n l S w0 L (K1 P ops kt ⟨some d, .next x true, ty, pos, af, none⟩ K) := .mk fun a w hf H => h4g rfl <| by
 have hat := H.at_ i hi
 have hr : (Instr.next (.pointer (some ⟨b, 0, none⟩)) true ty).run P w = .ok (.tuple [.bool false].toArray) w := by
  unfold Instr.next
  simp only [Sem.run_bind, getObj, Sem.run, hat, Result.andThen_ok, hp, if_false, Sem.run_pure]
 unfold Oper.wp execOp
 simp only [hf.eval hx, Sem.run_bind, hr, Result.andThen_ok, Sem.run_pure]
 exact h.out _ _ (hf.put (some d) _ hd) H
end
section
variable {P : Program} {n : Nat} {l : List (Nat × Value)} {S : List Nat} {w0 : World} {L : List Blk} {K : Act → World → Prop} {k : Kont} {ops : Array Oper} {d : Tmp} {ty : TypeId} {pos : String} {af : Array Edge}
theorem K1_callv {F : FuncId} {t : Tmp} {first captured : Array Value} {xs : List Operand} {vs : List Value} {ats : Array TypeId} {R : Value → List Blk → Prop} (hfn : (P.funcs[F]?).map (fun fn => (fn.name == "runtime.NumGoroutine", fn.body.isNone)) = some (false, false)) (hd : Nat.blt d n = true)
  (ht : lk l t = some (.func (.func F) first captured)) (hx : evs l xs = some vs) (hc : Fn P F (first ++ vs.toArray ++ captured) S w0 L R) (h : ∀ v L', R v L' → G n ((d, v) :: l) S w0 L' K) :
  G n l S w0 L (K1 P ops k ⟨some d, .call { callee := .value (.tmp t), args := xs.toArray, argTypes := ats }, ty, pos, af, none⟩ K) := .mk fun a w hf H => h4g rfl <| by
  unfold Oper.wp
  have e1 : a.eval (.tmp t) = .func (.func F) first captured := hf.eval (x:=.tmp t) ht
  have e : execOp a.eval ⟨some d, .call { callee := .value (.tmp t), args := xs.toArray, argTypes := ats }, ty, pos, af, none⟩ = callFunc F (first ++ (xs.toArray.map a.eval) ++ captured) := by
   show (do let d ← Deferred.ofValue (a.eval (.tmp t)) (xs.toArray.map a.eval); invoke d.target d.args) = _
   rw [e1]; rfl
  rw [e, List.map_toArray, hf.evals hx, run_callFunc hfn]
  refine (hc.out w H).mono fun e w' ⟨v, L', he, hR, H'⟩ => ?_
  subst he
  exact ((h v L' hR).out _ _ (hf.put (some d) v hd) H')
theorem K1_callv0 {F : FuncId} {t : Tmp} {xs : List Operand} {vs : List Value} {ats : Array TypeId} {R : Value → List Blk → Prop} (hfn : (P.funcs[F]?).map (fun fn => (fn.name == "runtime.NumGoroutine", fn.body.isNone)) = some (false, false)) (hd : Nat.blt d n = true)
  (ht : lk l t = some (.func (.func F) #[] #[])) (hx : evs l xs = some vs) (hc : Fn P F vs.toArray S w0 L R) (h : ∀ v L', R v L' → G n ((d, v) :: l) S w0 L' K) :
  G n l S w0 L (K1 P ops k ⟨some d, .call { callee := .value (.tmp t), args := xs.toArray, argTypes := ats }, ty, pos, af, none⟩ K) :=
 K1_callv hfn hd ht hx (by simpa using hc) h
end
section
variable {P : Program} {n : Nat} {l : List (Nat × Value)} {S : List Nat} {w0 : World} {L : List Blk} {K : Act → World → Prop} {k : Kont} {ops : Array Oper} {d : Tmp} {ty : TypeId} {pos : String} {af : Array Edge}
theorem K1_copy {E : Nat} {t tt : TypeId} {inf : TypeInfo} {x y : Operand} {g o dl dc b2 o2 sl sc i j : Nat} {q : Bool} {cur cs : Array Value} {T : TypeId} {fr : Nat × Nat} {news : List Value} {xa : Option Addr}
  (hd : Nat.blt d n = true) (ht : P.underlying t = some (.slice E)) (hi : P.info? E = some inf) (hsize : inf.size = 1)
  (hx : ev l x = some (.slice xa dl dc)) (hxa : xa = some ⟨g, o, none⟩) (hy : ev l y = some (.slice (some ⟨b2, o2, none⟩) sl sc)) (hown : L[j]? = some ⟨true, g, .cells cur E (0, 0)⟩) (hb : L[i]? = some ⟨q, b2, .cells cs T fr⟩)
  (hle : sl ≤ dl) (hfit : o + sl ≤ cur.size) (hcs : o2 + sl ≤ cs.size) (hnews : (cs.toList.drop o2).take sl = news) (hone : news.all (·.oneCell') = true)
  (h : ∀ cur2 : Array Value, cur2.toList = cur.toList.take o ++ news ++ cur.toList.drop (o + sl) → G n ((d, .int .i64 (sl : Nat)) :: l) S w0 (L.set j ⟨true, g, .cells cur2 E (0, 0)⟩) K) :
  G n l S w0 L (K1 P ops k ⟨some d, .call { callee := .builtin .copy, args := #[x, y], argTypes := #[t, tt] }, ty, pos, af, none⟩ K) := .mk fun a w hf H => h4g rfl <| by
 subst hxa
 have hl : news.length = sl := by subst hnews; simp; omega
 have hgw : w.heap[g]? = some (.cells cur E (0, 0)) := H.at_ j hown
 have hc : ∀ j u, news[j]? = some u → w.cell? ((⟨b2, o2, none⟩ : Addr).add j) = some u := by
  intro j u hj
  have hadd : (⟨b2, o2, none⟩ : Addr).add j = ⟨b2, o2 + j, none⟩ := by unfold Addr.add; split <;> simp_all
  rw [hadd, cell_at H i hb]
  subst hnews
  rw [List.getElem?_take] at hj
  split at hj
  ·simpa using hj
  ·simp at hj
 have hf1 := run_firstCells_some (P:=P) w 1 sl ⟨b2, o2, none⟩ sl sc news (by omega) hc
 have hst := run_storeCells_at P g o E news 0 cur w hgw (by omega) (List.all_eq_true.1 hone)
 simp only [Nat.add_zero, hl] at hst
 have hmin : Nat.min sl dl = sl := Nat.min_eq_left hle
 have hr : (Builtin.copy_ #[t, tt] ty #[.slice (some ⟨g, o, none⟩) dl dc, .slice (some ⟨b2, o2, none⟩) sl sc]).run P w = .ok (.int .i64 (sl : Nat)) (w.setRow g (cur.toList.take o ++ news ++ cur.toList.drop (o + sl)).toArray) := by
  simp [Builtin.copy_, run_underlying ht, sizeOf, typeInfo, hi, hsize, Builtin.lenOf, hmin, hf1, hst, goInt]
 unfold Oper.wp execOp
 simp only [resolve, invoke, builtin, Sem.run_bind, Sem.run_pure, Result.andThen_ok, List.map_toArray, List.map_cons, List.map_nil, hf.eval hx, hf.eval hy, hr]
 have HT := H.turn j (o:=.cells cur E (0, 0)) hown (w.setRow g (cur.toList.take o ++ news ++ cur.toList.drop (o + sl)).toArray) _ rfl rfl rfl (size_setRow w g _)
  (setRow_heap w g cur _ E _ hgw) (fun k hk => setRow_other w g k _ hk)
 exact (h _ rfl).out _ _ (hf.put (some d) _ hd) HT
theorem K1_copy0 {E : Nat} {t tt : TypeId} {inf : TypeInfo} {x y : Operand} {dl dc : Nat} {xa : Option Addr}
  (hd : Nat.blt d n = true) (ht : P.underlying t = some (.slice E)) (hi : P.info? E = some inf) (hsize : inf.size = 1)
  (hx : ev l x = some (.slice xa dl dc)) (hy : ev l y = some (.slice none 0 0))
  (h : G n ((d, .int .i64 0) :: l) S w0 L K) :
  G n l S w0 L (K1 P ops k ⟨some d, .call { callee := .builtin .copy, args := #[x, y], argTypes := #[t, tt] }, ty, pos, af, none⟩ K) := .mk fun a w hf H => h4g rfl <| by
 have hmin : Nat.min 0 dl = 0 := Nat.min_eq_left (Nat.zero_le _)
 have hr : (Builtin.copy_ #[t, tt] ty #[.slice xa dl dc, .slice none 0 0]).run P w = .ok (.int .i64 0) w := by
  cases xa <;> simp [Builtin.copy_, run_underlying ht, sizeOf, typeInfo, hi, hsize, Builtin.lenOf, hmin, Builtin.firstCells, storeCells, goInt]
 unfold Oper.wp execOp
 simp only [resolve, invoke, builtin, Sem.run_bind, Sem.run_pure, Result.andThen_ok, List.map_toArray, List.map_cons, List.map_nil, hf.eval hx, hf.eval hy, hr]
 exact h.out _ _ (hf.put (some d) _ hd) H
theorem modify_at {a : Array Obj} {b : Nat} {o : Obj} (f : Obj → Obj) (h : a[b]? = some o) : a.modify b f = a.setIfInBounds b (f o) := by
 apply Array.ext_getElem?
 intro j
 rw [Array.getElem?_modify, Array.getElem?_setIfInBounds]
 by_cases e : b = j
 ·subst e
  have hlt := (Array.getElem?_eq_some_iff.1 h).1
  simp [h, hlt]
  rw [(Array.getElem?_eq_some_iff.1 h).2]
 ·simp [e]
theorem K1_convBytes {E t : TypeId} {x : Operand} {b o m c i : Nat} {cs : Array Value} (hd : Nat.blt d n = true) (ht : P.underlying t = some (.slice E)) (he : P.underlying E = some (.int .u8))
  (hx : ev l x = some (.slice (some ⟨b, o, none⟩) m c)) (hi : L[i]? = some ⟨true, b, .cells cs E (0, 0)⟩) (h : G n ((d, .slice (some ⟨b, o, none⟩) m c) :: l) S w0 (L.set i ⟨true, b, .cells cs E (cs.size, cs.size + 1)⟩) K) :
  G n l S w0 L (K1 P ops k ⟨some d, .convert t t x, ty, pos, af, none⟩ K) := .mk fun a w hf H => h4g rfl <| by
 have hat := H.at_ i hi
 have hb : b < w.heap.size := H.lt i hi
 have H1 := H.turn i hi { w with heap := w.heap.setIfInBounds b (.cells cs E (cs.size, cs.size + 1)) } (.cells cs E (cs.size, cs.size + 1)) rfl rfl rfl (by simp) (by simp [hb]) (fun k hk => by rw [Array.getElem?_setIfInBounds, if_neg (fun e => hk (Eq.symm e))])
 have hsh : w.shape? b = some (E, cs.size) := by unfold World.shape?; rw [hat]
 have hfr : w.freeze ⟨b, cs.size, none⟩ 1 = { w with heap := w.heap.setIfInBounds b (.cells cs E (cs.size, cs.size + 1)) } := by
  unfold World.freeze
  rw [if_neg (by decide), modify_at _ hat]
  rfl
 have hr : (convert t t (.slice (some ⟨b, o, none⟩) m c)).run P w = .ok (.slice (some ⟨b, o, none⟩) m c) { w with heap := w.heap.setIfInBounds b (.cells cs E (cs.size, cs.size + 1)) } := by
  simp [convert, run_underlying ht, run_underlying he, markStringish, hsh, hfr]
 unfold Oper.wp execOp
 simp only [hf.eval hx, Sem.run_bind, hr, Result.andThen_ok, Sem.run_pure]
 exact h.out _ _ (hf.put (some d) _ hd) H1
end
section
variable {P : Program} {n : Nat} {l : List (Nat × Value)} {S : List Nat} {w0 : World} {L : List Blk} {K : Act → World → Prop} {kt : Kont} {ops : Array Oper} {d : Tmp} {ty : TypeId} {pos : String} {af : Array Edge}
theorem h3g {t : TypeId} {x i : Operand} {bs : ByteArray} {k : IntKind} {a : Int} (hd : Nat.blt d n = true) (hx : ev l x = some (.string bs)) (hi : ev l i = some (.int k a)) (ht : P.underlying t = some .string) (h0 : 0 ≤ a) (hk : a.toNat < bs.size)
  (h : ∀ c : UInt8, bs[a.toNat]? = some c → G n ((d, .int .u8 c.toNat) :: l) S w0 L K) : G n l S w0 L (K1 P ops kt ⟨some d, .index t x i, ty, pos, af, none⟩ K) := by
 have hc : bs[a.toNat]? = some (bs[a.toNat]'hk) := by simp [hk]
 exact K1_ev hd (h4a hx hi (h4o ht h0 hc)) (h _ hc)
end
theorem len64_c {S w0 L} (x : Int) (h : 0 ≤ x ∧ x < 256) : Fn Tryz.prog 88 #[.int .u64 x] S w0 L fun v L' => (∃ k : Nat, v = .int .i64 (k : Nat) ∧ k ≤ 255) ∧ L = L' := by
 have hw : IntKind.u8.wrap x = x := IntWalk.u8_in _ (by omega)
 refine Fn1 Tryz.func88 Tryz.ntmps88 rfl rfl ?_
 repeat' (first | refine h2m ?_ | refine h0d ?_ | refine h0u ?_ | refine h1h ?_ | refine h1f ?_ | refine h1g ?_ | refine h0s ?_ | refine h0t ?_ | refine h1l ?_ | refine h1k ?_ | refine h1j ?_ | refine h1i rfl ?_ | refine h1a ?_ | refine h1u ?_ | refine h1v ?_ | refine h2n ?_ | refine h0v rfl ?_ | refine h0w rfl ?_ | (refine gR 0 ?_ <;> (try refine h0a ?_; (first | (refine h3g rfl rfl rfl Tryz.underlying9 ?_ ?_ ?_; (omega); exact Nat.lt_of_lt_of_le (m:=256) (by omega) (Nat.le_of_ble_eq_true (by kernel_rfl)); intro c hc; have hcl := c.toNat_lt; clear hc) | (refine q_k (h0b rfl) ?_))) <;> (try refine h0d ?_)) | (refine gR 1 ?_ <;> (try refine h0a ?_; (first | (refine h3g rfl rfl rfl Tryz.underlying9 ?_ ?_ ?_; (omega); exact Nat.lt_of_lt_of_le (m:=256) (by omega) (Nat.le_of_ble_eq_true (by kernel_rfl)); intro c hc; have hcl := c.toNat_lt; clear hc) | (refine q_k (h0c rfl) ?_))) <;> (try refine h0a ?_; (first | (refine h3g rfl rfl rfl Tryz.underlying9 ?_ ?_ ?_; (omega); exact Nat.lt_of_lt_of_le (m:=256) (by omega) (Nat.le_of_ble_eq_true (by kernel_rfl)); intro c hc; have hcl := c.toNat_lt; clear hc) | (refine q_k (by exact q_b (r:=by first | (exact h4b q_o) | (exact h4c q_o) | exact h5r)) ?_))) <;> (try refine h0d ?_)) | (refine gR 2 ?_ <;> (try refine h0a ?_; (first | (refine h3g rfl rfl rfl Tryz.underlying9 ?_ ?_ ?_; (omega); exact Nat.lt_of_lt_of_le (m:=256) (by omega) (Nat.le_of_ble_eq_true (by kernel_rfl)); intro c hc; have hcl := c.toNat_lt; clear hc) | (refine q_k (h0c rfl) ?_))) <;> (try refine h0a ?_; (first | (refine h3g rfl rfl rfl Tryz.underlying9 ?_ ?_ ?_; (omega); exact Nat.lt_of_lt_of_le (m:=256) (by omega) (Nat.le_of_ble_eq_true (by kernel_rfl)); intro c hc; have hcl := c.toNat_lt; clear hc) | (refine q_k (by exact q_b (r:=by apply rb_shr; (omega); (focus (first | (simp only [IntKind.bits]; exact rfl) | exact rfl)))) ?_))) <;> (try refine h0a ?_; (first | (refine h3g rfl rfl rfl Tryz.underlying9 ?_ ?_ ?_; (omega); exact Nat.lt_of_lt_of_le (m:=256) (by omega) (Nat.le_of_ble_eq_true (by kernel_rfl)); intro c hc; have hcl := c.toNat_lt; clear hc) | (refine q_k (h0b rfl) ?_))) <;> (try refine h0d ?_)) | (refine gR 3 ?_ <;> (try refine h0a ?_; (first | (refine h3g rfl rfl rfl Tryz.underlying9 ?_ ?_ ?_; (omega); exact Nat.lt_of_lt_of_le (m:=256) (by omega) (Nat.le_of_ble_eq_true (by kernel_rfl)); intro c hc; have hcl := c.toNat_lt; clear hc) | (refine q_k (h0b rfl) ?_))) <;> (try refine h0d ?_)) | (refine gR 4 ?_ <;> (try refine h0a ?_; (first | (refine h3g rfl rfl rfl Tryz.underlying9 ?_ ?_ ?_; (omega); exact Nat.lt_of_lt_of_le (m:=256) (by omega) (Nat.le_of_ble_eq_true (by kernel_rfl)); intro c hc; have hcl := c.toNat_lt; clear hc) | (refine q_k (h0c rfl) ?_))) <;> (try refine h0a ?_; (first | (refine h3g rfl rfl rfl Tryz.underlying9 ?_ ?_ ?_; (omega); exact Nat.lt_of_lt_of_le (m:=256) (by omega) (Nat.le_of_ble_eq_true (by kernel_rfl)); intro c hc; have hcl := c.toNat_lt; clear hc) | (refine q_k (by exact q_b (r:=by first | (exact h4b q_o) | (exact h4c q_o) | exact h5r)) ?_))) <;> (try refine h0d ?_)) | (refine gR 5 ?_ <;> (try refine h0a ?_; (first | (refine h3g rfl rfl rfl Tryz.underlying9 ?_ ?_ ?_; (omega); exact Nat.lt_of_lt_of_le (m:=256) (by omega) (Nat.le_of_ble_eq_true (by kernel_rfl)); intro c hc; have hcl := c.toNat_lt; clear hc) | (refine q_k (h0c rfl) ?_))) <;> (try refine h0a ?_; (first | (refine h3g rfl rfl rfl Tryz.underlying9 ?_ ?_ ?_; (omega); exact Nat.lt_of_lt_of_le (m:=256) (by omega) (Nat.le_of_ble_eq_true (by kernel_rfl)); intro c hc; have hcl := c.toNat_lt; clear hc) | (refine q_k (by exact q_b (r:=by apply rb_shr; (omega); (focus (first | (simp only [IntKind.bits]; exact rfl) | exact rfl)))) ?_))) <;> (try refine h0a ?_; (first | (refine h3g rfl rfl rfl Tryz.underlying9 ?_ ?_ ?_; (omega); exact Nat.lt_of_lt_of_le (m:=256) (by omega) (Nat.le_of_ble_eq_true (by kernel_rfl)); intro c hc; have hcl := c.toNat_lt; clear hc) | (refine q_k (h0b rfl) ?_))) <;> (try refine h0d ?_)) | (refine gR 6 ?_ <;> (try refine h0a ?_; (first | (refine h3g rfl rfl rfl Tryz.underlying9 ?_ ?_ ?_; (omega); exact Nat.lt_of_lt_of_le (m:=256) (by omega) (Nat.le_of_ble_eq_true (by kernel_rfl)); intro c hc; have hcl := c.toNat_lt; clear hc) | (refine q_k (h0c rfl) ?_))) <;> (try refine h0a ?_; (first | (refine h3g rfl rfl rfl Tryz.underlying9 ?_ ?_ ?_; (omega); exact Nat.lt_of_lt_of_le (m:=256) (by omega) (Nat.le_of_ble_eq_true (by kernel_rfl)); intro c hc; have hcl := c.toNat_lt; clear hc) | (refine q_k (by exact q_b (r:=by apply h3j; exact c_6; (focus (first | (refine IntWalk.i64_in _ ?_; omega) | (refine IntWalk.u8_in _ ?_; omega) | (refine IntWalk.u16_in _ ?_; omega) | (refine IntWalk.u32_in _ ?_; omega) | (refine IntWalk.u64_in _ ?_; omega) | (refine IntWalk.i32_in _ ?_; omega) | exact rfl)))) ?_))) <;> (try refine h0a ?_; (first | (refine h3g rfl rfl rfl Tryz.underlying9 ?_ ?_ ?_; (omega); exact Nat.lt_of_lt_of_le (m:=256) (by omega) (Nat.le_of_ble_eq_true (by kernel_rfl)); intro c hc; have hcl := c.toNat_lt; clear hc) | (refine q_k (h0b rfl) ?_))) <;> (try refine h0d ?_)) | (refine gR 7 ?_ <;> (try refine h0a ?_; (first | (refine h3g rfl rfl rfl Tryz.underlying9 ?_ ?_ ?_; (omega); exact Nat.lt_of_lt_of_le (m:=256) (by omega) (Nat.le_of_ble_eq_true (by kernel_rfl)); intro c hc; have hcl := c.toNat_lt; clear hc) | (refine q_k (h0c rfl) ?_))) <;> (try refine h0a ?_; (first | (refine h3g rfl rfl rfl Tryz.underlying9 ?_ ?_ ?_; (omega); exact Nat.lt_of_lt_of_le (m:=256) (by omega) (Nat.le_of_ble_eq_true (by kernel_rfl)); intro c hc; have hcl := c.toNat_lt; clear hc) | (refine q_k (by exact q_b (r:=by first | (exact h4b q_o) | (exact h4c q_o) | exact h5r)) ?_))) <;> (try refine h0d ?_)) | (refine gR 8 ?_ <;> (try refine h0a ?_; (first | (refine h3g rfl rfl rfl Tryz.underlying9 ?_ ?_ ?_; (omega); exact Nat.lt_of_lt_of_le (m:=256) (by omega) (Nat.le_of_ble_eq_true (by kernel_rfl)); intro c hc; have hcl := c.toNat_lt; clear hc) | (refine q_k (h0c rfl) ?_))) <;> (try refine h0a ?_; (first | (refine h3g rfl rfl rfl Tryz.underlying9 ?_ ?_ ?_; (omega); exact Nat.lt_of_lt_of_le (m:=256) (by omega) (Nat.le_of_ble_eq_true (by kernel_rfl)); intro c hc; have hcl := c.toNat_lt; clear hc) | (refine q_k (by exact q_b (r:=by apply rb_shr; (omega); (focus (first | (simp only [IntKind.bits]; exact rfl) | exact rfl)))) ?_))) <;> (try refine h0a ?_; (first | (refine h3g rfl rfl rfl Tryz.underlying9 ?_ ?_ ?_; (omega); exact Nat.lt_of_lt_of_le (m:=256) (by omega) (Nat.le_of_ble_eq_true (by kernel_rfl)); intro c hc; have hcl := c.toNat_lt; clear hc) | (refine q_k (h0b rfl) ?_))) <;> (try refine h0d ?_)) | (refine gR 9 ?_ <;> (try refine h0a ?_; (first | (refine h3g rfl rfl rfl Tryz.underlying9 ?_ ?_ ?_; (omega); exact Nat.lt_of_lt_of_le (m:=256) (by omega) (Nat.le_of_ble_eq_true (by kernel_rfl)); intro c hc; have hcl := c.toNat_lt; clear hc) | (refine q_k (h0c rfl) ?_))) <;> (try refine h0a ?_; (first | (refine h3g rfl rfl rfl Tryz.underlying9 ?_ ?_ ?_; (omega); exact Nat.lt_of_lt_of_le (m:=256) (by omega) (Nat.le_of_ble_eq_true (by kernel_rfl)); intro c hc; have hcl := c.toNat_lt; clear hc) | (refine q_k (by exact q_b (r:=by apply h3j; exact c_6; (focus (first | (refine IntWalk.i64_in _ ?_; omega) | (refine IntWalk.u8_in _ ?_; omega) | (refine IntWalk.u16_in _ ?_; omega) | (refine IntWalk.u32_in _ ?_; omega) | (refine IntWalk.u64_in _ ?_; omega) | (refine IntWalk.i32_in _ ?_; omega) | exact rfl)))) ?_))) <;> (try refine h0a ?_; (first | (refine h3g rfl rfl rfl Tryz.underlying9 ?_ ?_ ?_; (omega); exact Nat.lt_of_lt_of_le (m:=256) (by omega) (Nat.le_of_ble_eq_true (by kernel_rfl)); intro c hc; have hcl := c.toNat_lt; clear hc) | (refine q_k (h0b rfl) ?_))) <;> (try refine h0d ?_)) | (refine gR 10 ?_ <;> (try refine h0a ?_; (first | (refine h3g rfl rfl rfl Tryz.underlying9 ?_ ?_ ?_; (omega); exact Nat.lt_of_lt_of_le (m:=256) (by omega) (Nat.le_of_ble_eq_true (by kernel_rfl)); intro c hc; have hcl := c.toNat_lt; clear hc) | (refine q_k (h0c rfl) ?_))) <;> (try refine h0a ?_; (first | (refine h3g rfl rfl rfl Tryz.underlying9 ?_ ?_ ?_; (omega); exact Nat.lt_of_lt_of_le (m:=256) (by omega) (Nat.le_of_ble_eq_true (by kernel_rfl)); intro c hc; have hcl := c.toNat_lt; clear hc) | (refine q_k (h0c rfl) ?_))) <;> (try refine h0a ?_; (first | (refine h3g rfl rfl rfl Tryz.underlying9 ?_ ?_ ?_; (omega); exact Nat.lt_of_lt_of_le (m:=256) (by omega) (Nat.le_of_ble_eq_true (by kernel_rfl)); intro c hc; have hcl := c.toNat_lt; clear hc) | (refine q_k (by apply h4f; exact rfl; (focus (apply h4d Tryz.underlying59 Tryz.underlying5; first | (refine IntWalk.i64_in _ ?_; omega) | (refine IntWalk.u8_in _ ?_; omega) | (refine IntWalk.u16_in _ ?_; omega) | (refine IntWalk.u32_in _ ?_; omega) | (refine IntWalk.u64_in _ ?_; omega) | (refine IntWalk.i32_in _ ?_; omega) | exact rfl))) ?_))) <;> (try refine h0a ?_; (first | (refine h3g rfl rfl rfl Tryz.underlying9 ?_ ?_ ?_; (omega); exact Nat.lt_of_lt_of_le (m:=256) (by omega) (Nat.le_of_ble_eq_true (by kernel_rfl)); intro c hc; have hcl := c.toNat_lt; clear hc) | (refine q_k (by apply h4a; exact rfl; exact rfl; (focus (apply h4o Tryz.underlying9; (omega); exact h1q))) ?_))) <;> (try refine h0a ?_; (first | (refine h3g rfl rfl rfl Tryz.underlying9 ?_ ?_ ?_; (omega); exact Nat.lt_of_lt_of_le (m:=256) (by omega) (Nat.le_of_ble_eq_true (by kernel_rfl)); intro c hc; have hcl := c.toNat_lt; clear hc) | (refine q_k (by apply h4f; exact rfl; (focus (apply h4d Tryz.underlying5 Tryz.underlying3; first | (refine IntWalk.i64_in _ ?_; omega) | (refine IntWalk.u8_in _ ?_; omega) | (refine IntWalk.u16_in _ ?_; omega) | (refine IntWalk.u32_in _ ?_; omega) | (refine IntWalk.u64_in _ ?_; omega) | (refine IntWalk.i32_in _ ?_; omega) | exact rfl))) ?_))) <;> (try refine h0a ?_; (first | (refine h3g rfl rfl rfl Tryz.underlying9 ?_ ?_ ?_; (omega); exact Nat.lt_of_lt_of_le (m:=256) (by omega) (Nat.le_of_ble_eq_true (by kernel_rfl)); intro c hc; have hcl := c.toNat_lt; clear hc) | (refine q_k (by exact q_b (r:=by apply h3j; exact c_6; (focus (first | (refine IntWalk.i64_in _ ?_; omega) | (refine IntWalk.u8_in _ ?_; omega) | (refine IntWalk.u16_in _ ?_; omega) | (refine IntWalk.u32_in _ ?_; omega) | (refine IntWalk.u64_in _ ?_; omega) | (refine IntWalk.i32_in _ ?_; omega) | exact rfl)))) ?_))) <;> (try refine h0a ?_; (first | (refine h3g rfl rfl rfl Tryz.underlying9 ?_ ?_ ?_; (omega); exact Nat.lt_of_lt_of_le (m:=256) (by omega) (Nat.le_of_ble_eq_true (by kernel_rfl)); intro c hc; have hcl := c.toNat_lt; clear hc) | (refine q_k (h0b rfl) ?_))) <;> (try refine h0d ?_)) | ((first | (refine h0o rfl (fun hc => ?_) (fun hc => ?_)) | (refine h0x rfl (fun hc => ?_) (fun hc => ?_)) | (refine h1r rfl (fun hc => ?_) (fun hc => ?_))) <;> (try subst hc)))
 (refine h2q Tryz.results88 (.tmp rfl .nil) ?_)
 exact ⟨_, ⟨⟨c.toNat, by rw [Int.zero_add]; rfl, by omega⟩, rfl⟩, by intro w H; refine H.sub ?_; (try simp only [zzC, zzN]); repeat (first | exact List.Sublist.refl _ | refine List.Sublist.cons_cons _ ?_ | refine List.Sublist.cons _ ?_ | refine List.sublist_append_of_sublist_right ?_)⟩
theorem len_c {S w0 L} (x : Int) (h : 0 ≤ x ∧ x < 256) : Fn Tryz.prog 63 #[.int .u64 x] S w0 L fun v L' => (∃ k : Nat, v = .int .i64 (k : Nat) ∧ k ≤ 255) ∧ L = L' := by
 have hb := len64_c (S:=S) (w0:=w0) (L:=L) x h
 refine Fn1 Tryz.func63 Tryz.ntmps63 rfl rfl ?_
 repeat' (first | refine h2m ?_ | refine h0d ?_ | refine h0u ?_ | refine h1h ?_ | refine h1f ?_ | refine h1g ?_ | refine h0s ?_ | refine h0t ?_ | refine h1l ?_ | refine h1k ?_ | refine h1j ?_ | refine h1i rfl ?_ | refine h1a ?_ | refine h1u ?_ | refine h1v ?_ | refine h2n ?_ | refine h0v rfl ?_ | refine h0w rfl ?_ | (refine gR 0 ?_ <;> (try refine h0a ?_; (first | (refine q_k (h0b rfl) ?_))) <;> (try refine h0d ?_)) | (refine gR 1 ?_ <;> (try refine h0a ?_; (first | (refine q_k (h0c rfl) ?_))) <;> (try refine h0a ?_; (first | (refine q_k (by apply h4f; exact rfl; (focus (apply h4d Tryz.underlying183 Tryz.underlying58; first | (refine IntWalk.i64_in _ ?_; omega) | (refine IntWalk.u8_in _ ?_; omega) | (refine IntWalk.u16_in _ ?_; omega) | (refine IntWalk.u32_in _ ?_; omega) | (refine IntWalk.u64_in _ ?_; omega) | (refine IntWalk.i32_in _ ?_; omega) | exact rfl))) ?_))) <;> (try refine h0a ?_; (first | fail)) <;> (try refine h0a ?_; (first | (refine q_k (h0b rfl) ?_))) <;> (try refine h0d ?_)) | (refine gR 2 ?_ <;> (try refine h0a ?_; (first | (refine q_k (h0c rfl) ?_))) <;> (try refine h0a ?_; (first | (first | (refine q_c 88 (c:=by apply hb) (h:=?_); rintro _ _ ⟨⟨k, rfl, hk⟩, rfl⟩; (try simp only [zzE, zzF]))))) <;> (try refine h0a ?_; (first | (refine q_k (h0b rfl) ?_))) <;> (try refine h0d ?_)) | ((first | (refine h0o rfl (fun hc => ?_) (fun hc => ?_)) | (refine h0x rfl (fun hc => ?_) (fun hc => ?_)) | (refine h1r rfl (fun hc => ?_) (fun hc => ?_))) <;> (try subst hc)))
 (refine h2q Tryz.results63 (.tmp rfl .nil) ?_)
 exact ⟨_, ⟨⟨k, rfl, hk⟩, rfl⟩, by intro w H; refine H.sub ?_; (try simp only [zzC, zzN]); repeat (first | exact List.Sublist.refl _ | refine List.Sublist.cons_cons _ ?_ | refine List.Sublist.cons _ ?_ | refine List.sublist_append_of_sublist_right ?_)⟩
end Go.Proofs.YtnpnjicaigdjjaaGreat
