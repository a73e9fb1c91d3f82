/- Part 8 of what the last text of this claim leans on: rules of walks, contracts, plain facts. Conditions: those of each statement. -/
import Derived.Test.YtpbpgbkpciffgaaQj7
set_option maxRecDepth 100000
namespace Go.Proofs.Ytpbpgbkpciffgaa
open Go Go.RowKit
theorem stp_pos {m : Mch} {i : Ins} (hi : i.ok) : m.pos ≤ (stp m i).pos ∧ (stp m i).pos ≤ m.pos + 4294967296 := by
 have h2 := hi.k
 have h3 := hi.t
 have h4 := hi.f
 have hr : (red m i).pos = m.pos := by
  unfold red
  dsimp only
  repeat' split
  all_goals rfl
 unfold stp
 repeat' split
 all_goals first
  | (dsimp only; omega)
  | (rw [hr]; omega)
  | skip
 unfold jmp
 dsimp only
 split
 ·omega
 ·split <;> omega
abbrev flB (n : Nat) (sv : Value) (a b : Int) : Blk := ⟨true, n, .cells [sv, .int .i64 a, .int .i64 b].toArray 116 (0, 0)⟩
abbrev srB (g : Nat) (cur : List Value) : Blk := ⟨true, g, .cells cur.toArray 43 (0, 0)⟩
structure IsSrc (cur : List Value) (l : List Ins) (cap : Nat) : Prop where
 len : l.length * 4 ≤ cur.length
 sz : cur.length = cap * 4
 le : l.length ≤ cap
 take : cur.take (l.length * 4) = flat l
 capl : cap ≤ maxLen
theorem IsSrc.at_ {cur : List Value} {l : List Ins} {cap : Nat} (h : IsSrc cur l cap) {k : Nat} (hk : k < l.length) : (cur.toArray.toList.drop (0 + k * 4)).take 4 = (l[k]).cells := by
 have := flat_at l k hk
 rw [← h.take, List.drop_take, List.take_take, Nat.min_eq_left (by omega)] at this
 simpa using this
def m0 (r : Rec) : Mch := ⟨0, 0, List.replicate 16 0, 0, r, 0, false⟩
theorem m0_ok {r : Rec} (h : r.ok) : (m0 r).ok := by
 refine ⟨by simp [m0], by simp [m0], by simp [m0], ?_, h, by simp [m0], by simp [m0]⟩
 intro s hs
 have := List.eq_of_mem_replicate hs
 omega
def runF (l : List Ins) (r : Rec) : Int × Nat :=
 let q := h5u l l.length (m0 r) 0
 (if q.1.en then q.1.act else 2147483648, q.2)
structure RunI (l : List Ins) (q : Mch × Nat) (g : Mch × Nat) : Prop where
 ok : g.1.ok
 lo : (g.2 : Int) ≤ g.1.pos
 hi : g.1.pos ≤ g.2 * 5000000000
 le : g.2 ≤ l.length
 go : q = h5u l (l.length - g.2) g.1 g.2
theorem RunI.next {l : List Ins} {q : Mch × Nat} {m : Mch} {n : Nat} (h : RunI l q (m, n)) (hl : ∀ i ∈ l, i.ok) (h2 : l.length ≤ 4096) (he : m.en = false) (hp : m.pos.toNat < l.length) :
  RunI l q (stp { m with pos := m.pos + 1 } l[m.pos.toNat], n + 1) := by
 obtain ⟨h1, h3, h4, h5, h6⟩ := h
 dsimp only at *
 have hp0 := h1.pos
 have hi := hl _ (List.getElem_mem hp)
 have hm1 : Mch.ok { m with pos := m.pos + 1 } := ⟨h1.a, h1.x, h1.sc, h1.scr, h1.rc, ⟨by show 0 ≤ m.pos + 1; omega, by show m.pos + 1 < 9000000000000000000; omega⟩, h1.act⟩
 have hps := stp_pos (m:={ m with pos := m.pos + 1 }) hi
 dsimp only at hps
 refine ⟨stp_ok hm1 hi (by show m.pos + 1 + 5000000000 < 9000000000000000000; omega), ?_, ?_, ?_, ?_⟩
 ·dsimp only; omega
 ·dsimp only; omega
 ·dsimp only; omega
 ·dsimp only
  rw [h6]
  obtain ⟨f, hf⟩ : ∃ f, l.length - n = f + 1 := ⟨l.length - n - 1, by omega⟩
  have hf2 : l.length - (n + 1) = f := by omega
  rw [hf, hf2, h5u, if_neg]
  ·rw [List.getD_eq_getElem?_getD, List.getElem?_eq_getElem hp]; rfl
  ·rw [he]
   rintro (h | h)
   ·simp at h
   ·omega
theorem RunI.end_ {l : List Ins} {q : Mch × Nat} {m : Mch} {n : Nat} (h : RunI l q (m, n)) (he : m.en = true ∨ (l.length : Int) ≤ m.pos) : q = (m, n) := by
 rw [h.go]
 dsimp only
 cases l.length - n with
 | zero => rfl
 | succ f => rw [h5u, if_pos he]
theorem m0_cells (r : Rec) : (m0 r).cells = [Value.int .u32 0, .int .u32 0, .int .u32 0, .int .u32 0, .int .u32 0, .int .u32 0, .int .u32 0, .int .u32 0, .int .u32 0, .int .u32 0, .int .u32 0, .int .u32 0, .int .u32 0, .int .u32 0, .int .u32 0, .int .u32 0, .int .u32 0, .int .u32 0, .int .i64 0] ++ (r.cells ++ [.int .u32 0, .bool false]) := by
 simp [m0, Mch.cells, List.replicate_succ]
set_option maxHeartbeats 1000000 in
theorem run_c {S w0 L} (n g cap : Nat) (a b : Int) (cur : List Value) (l : List Ins) (r : Rec) (hl : ∀ i ∈ l, i.ok) (h2 : l.length ≤ 4096) (hs : IsSrc cur l cap) (hr : r.ok) (ha : 0 ≤ a ∧ a < 4000000000000000000) (hb : 0 ≤ b ∧ b < 4000000000000000000) :
    Fn Try.prog 26 #[.pointer (some ⟨n, 0, none⟩), .agg r.cells.toArray] S w0 (flB n (.slice (some ⟨g, 0, none⟩) l.length cap) a b :: srB g cur :: L) fun v L' =>
      v = h5a [.int .u32 (runF l r).1, .int .i64 ((runF l r).2 : Nat)] ∧ flB n (.slice (some ⟨g, 0, none⟩) l.length cap) (a + 1) (b + ((runF l r).2 : Nat)) :: srB g cur :: L = L' := by
  obtain ⟨num, arch, at_, args⟩ := r
  obtain ⟨a0, a1, a2, a3, a4, a5, rfl⟩ : ∃ a0 a1 a2 a3 a4 a5, args = [a0, a1, a2, a3, a4, a5] := by
    match args, hr.len with
    | [_, _, _, _, _, _], _ => exact ⟨_, _, _, _, _, _, rfl⟩
  have hcl : Rec.cells ⟨num, arch, at_, [a0, a1, a2, a3, a4, a5]⟩ = [.int .u32 num, .int .u32 arch, .int .u64 at_, .int .u64 a0, .int .u64 a1, .int .u64 a2, .int .u64 a3, .int .u64 a4, .int .u64 a5] := rfl
  rw [hcl]
  generalize hrr : (⟨num, arch, at_, [a0, a1, a2, a3, a4, a5]⟩ : Rec) = r at *
  refine Fn2 Try.func26 Try.ntmps26 rfl rfl ?_
  repeat' (first | (refine h4s (id := 4) ?_) | refine h1k ?_ | refine h0b ?_ | refine h0k ?_ | refine h1g ?_ | refine h1y ?_ | refine h2o ?_ | refine h1m ?_ | refine h1n ?_ | refine h0y ?_ | refine h1u ?_ | refine h1t ?_ | refine h2r rfl ?_ | refine h0q ?_ | refine h1j ?_ | refine h2p ?_ | refine h2v ?_ | refine h0o rfl ?_ | refine h0n rfl ?_ | (refine gR 0 ?_ <;> (try refine h0a ?_; (first | (refine h3e (t := 26) rfl rfl ?_; intro nb hnb; (try simp only [Value.cells])))) <;> (try refine h0a ?_; (first | (refine q_k (h0d rfl) ?_))) <;> (try refine h0a ?_; (first | (refine q_k (h0d rfl) ?_))) <;> (try refine h0b ?_)) | (refine gR 1 ?_ <;> (try refine h0a ?_; (first | (refine q_k (h0c rfl) ?_))) <;> (try refine h0a ?_; (first | (refine q_k (by exact q_b (r := by first | exact rb_peq_sn Try.underlying36 | exact rb_peq_nn Try.underlying36 | exact rb_peq_ns Try.underlying36)) ?_))) <;> (try refine h0b ?_)) | (refine gR 2 ?_ <;> (try refine h0a ?_; (first | (refine q_k (h0d rfl) ?_))) <;> (try refine h0a ?_; (first | (refine q_k (h0d rfl) ?_))) <;> (try refine h0b ?_)) | (refine gR 3 ?_ <;> (try refine h0a ?_; (first | (refine q_k (by apply h0x (t := 26); exact rfl; (focus (repeat (first | exact fd0 | (with_reducible assumption) | apply fdA | apply fdS))); kernel_rfl; kernel_rfl; exact sz_26; exact h2s; exact c_4) ?_))) <;> (try refine h0a ?_; (first | (refine q_k (by exact h1s (t := 138) (fun vs => (match vs with | [(_, x0)] => [Value.int .u32 0, Value.int .u32 0, Value.int .u32 0, Value.int .u32 0, Value.int .u32 0, Value.int .u32 0, Value.int .u32 0, Value.int .u32 0, Value.int .u32 0, Value.int .u32 0, Value.int .u32 0, Value.int .u32 0, Value.int .u32 0, Value.int .u32 0, Value.int .u32 0, Value.int .u32 0, Value.int .u32 0, Value.int .u32 0, Value.int .i64 0] ++ (x0.cells.toList ++ [Value.int .u32 0, Value.bool false]) | _ => [])) rfl (fun w => by kernel_rfl)) ?_; (try simp only [Value.cells]); (try simp only [zzC, zzN])))) <;> (try refine h0a ?_; (first | (refine h0u (t := 138) rfl Try.zeroValue138 ?_; intro nb hnb; (try simp only [Value.cells])))) <;> (try refine h0a ?_; (first | (first | (apply h1a (t := 138); exact rfl; exact rfl; (focus (repeat (first | exact fd0 | (with_reducible assumption) | apply fdA | apply fdS))); kernel_rfl; exact h5m; (focus (first | (with_reducible assumption) | exact rfl | (simp; done) | (simp [h0z, h0s, h1c, h1d, h1v, h1e, *]; done))); (try simp only [List.set_cons_succ]); (try simp only [List.set_cons_zero])) | (apply h1f (t := 138); exact rfl; exact rfl; (focus (repeat (first | exact fd0 | (with_reducible assumption) | apply fdA | apply fdS))); exact sz_138; exact h2a; (focus (first | (with_reducible assumption) | (focus (first | (with_reducible assumption) | exact rfl | (simp; done) | (simp [h0z, h0s, h1c, h1d, h1v, h1e, *]; done))))); exact h2s; (try simp only [List.set_cons_succ]); (try simp only [List.set_cons_zero]))))) <;> (try refine h0b ?_)) | (refine gR 4 ?_ <;> (try refine h0a ?_; (first | (refine q_k (h0d rfl) ?_))) <;> (try refine h0b ?_)) | ((refine h2g (id := 5) (m := 13) (by kernel_rfl) rfl ?_) <;> (try first | (refine q_t 0 (e := h1h) (x := by first | (first | (exact q_f h3p) | (exact q_g h3p))) (h := ?_)) | (refine h0h ?_)) <;> (try first | (refine q_t 1 (e := h1h) (x := by first | (apply h0l (t := 4); exact rfl; (focus (repeat (first | exact fd0 | (with_reducible assumption) | apply fdA | apply fdS))); kernel_rfl; kernel_rfl; exact h2a)) (h := ?_)) | (refine h0h ?_)) <;> (try first | (refine q_t 2 (e := h1h) (x := by first | (apply E_un; exact rfl; (focus (first | exact h4b | exact h4i | exact h5f | exact ru_not)))) (h := ?_)) | (refine h0h ?_)) <;> (try first | (refine q_t 3 (e := h1h) (x := by first | exact h0c rfl) (h := ?_)) | (refine h0h ?_)) <;> (try first | (first | (first | (apply h0v (i := 4); exact rfl; kernel_rfl; kernel_rfl; kernel_rfl; exact rfl; exact h1h; exact h4r rfl rfl rfl) | (apply h0v (i := 4); exact rfl; kernel_rfl; kernel_rfl; kernel_rfl; exact rfl; exact h1h; exact h3f rfl rfl) | (refine q_T 4 (e := h1h) (x := by first | (first | (exact q_f h2h) | (exact q_g h2h))) (h := ?_))) | ((first | (refine h2c (dj := 15) rfl (fun hc => ?_) (fun hc => ?_)) | (refine h2m (dj := 15) rfl (fun hc => ?_) (fun hc => ?_)) | (refine h3b (dj := 15) rfl (fun hc => ?_) (fun hc => ?_))) <;> (try subst hc) <;> (first | (apply h0v (i := 4); exact rfl; kernel_rfl; kernel_rfl; kernel_rfl; exact rfl; exact h1h; exact h4r rfl rfl rfl) | (apply h0v (i := 4); exact rfl; kernel_rfl; kernel_rfl; kernel_rfl; exact rfl; exact h1h; exact h3f rfl rfl) | (refine q_T 4 (e := h1h) (x := by first | (first | (exact q_f h2h) | (exact q_g h2h))) (h := ?_))))) | (refine h0h ?_)) <;> (try first | (first | (first | (apply h0v (i := 5); exact rfl; kernel_rfl; kernel_rfl; kernel_rfl; exact rfl; exact h1h; exact h4r rfl rfl rfl) | (apply h0v (i := 5); exact rfl; kernel_rfl; kernel_rfl; kernel_rfl; exact rfl; exact h1h; exact h3f rfl rfl) | (refine q_T 5 (e := h1h) (x := by first | (apply h0l (t := 3); exact rfl; (focus (repeat (first | exact fd0 | (with_reducible assumption) | apply fdA | apply fdS))); kernel_rfl; kernel_rfl; exact h2a)) (h := ?_))) | ((first | (refine h2c (dj := 15) rfl (fun hc => ?_) (fun hc => ?_)) | (refine h2m (dj := 15) rfl (fun hc => ?_) (fun hc => ?_)) | (refine h3b (dj := 15) rfl (fun hc => ?_) (fun hc => ?_))) <;> (try subst hc) <;> (first | (apply h0v (i := 5); exact rfl; kernel_rfl; kernel_rfl; kernel_rfl; exact rfl; exact h1h; exact h4r rfl rfl rfl) | (apply h0v (i := 5); exact rfl; kernel_rfl; kernel_rfl; kernel_rfl; exact rfl; exact h1h; exact h3f rfl rfl) | (refine q_T 5 (e := h1h) (x := by first | (apply h0l (t := 3); exact rfl; (focus (repeat (first | exact fd0 | (with_reducible assumption) | apply fdA | apply fdS))); kernel_rfl; kernel_rfl; exact h2a)) (h := ?_))))) | (refine h0h ?_)) <;> (try first | (first | (first | (apply h0v (i := 6); exact rfl; kernel_rfl; kernel_rfl; kernel_rfl; exact rfl; exact h1h; exact h4r rfl rfl rfl) | (apply h0v (i := 6); exact rfl; kernel_rfl; kernel_rfl; kernel_rfl; exact rfl; exact h1h; exact h3f rfl rfl) | (refine q_T 6 (e := h1h) (x := by first | exact h0c rfl) (h := ?_))) | ((first | (refine h2c (dj := 15) rfl (fun hc => ?_) (fun hc => ?_)) | (refine h2m (dj := 15) rfl (fun hc => ?_) (fun hc => ?_)) | (refine h3b (dj := 15) rfl (fun hc => ?_) (fun hc => ?_))) <;> (try subst hc) <;> (first | (apply h0v (i := 6); exact rfl; kernel_rfl; kernel_rfl; kernel_rfl; exact rfl; exact h1h; exact h4r rfl rfl rfl) | (apply h0v (i := 6); exact rfl; kernel_rfl; kernel_rfl; kernel_rfl; exact rfl; exact h1h; exact h3f rfl rfl) | (refine q_T 6 (e := h1h) (x := by first | exact h0c rfl) (h := ?_))))) | (refine h0h ?_)) <;> (try first | (first | (first | (apply h0v (i := 7); exact rfl; kernel_rfl; kernel_rfl; kernel_rfl; exact rfl; exact h1h; exact h4r rfl rfl rfl) | (apply h0v (i := 7); exact rfl; kernel_rfl; kernel_rfl; kernel_rfl; exact rfl; exact h1h; exact h3f rfl rfl) | (refine q_T 7 (e := h1h) (x := by first | exact h0j rfl) (h := ?_))) | ((first | (refine h2c (dj := 15) rfl (fun hc => ?_) (fun hc => ?_)) | (refine h2m (dj := 15) rfl (fun hc => ?_) (fun hc => ?_)) | (refine h3b (dj := 15) rfl (fun hc => ?_) (fun hc => ?_))) <;> (try subst hc) <;> (first | (apply h0v (i := 7); exact rfl; kernel_rfl; kernel_rfl; kernel_rfl; exact rfl; exact h1h; exact h4r rfl rfl rfl) | (apply h0v (i := 7); exact rfl; kernel_rfl; kernel_rfl; kernel_rfl; exact rfl; exact h1h; exact h3f rfl rfl) | (refine q_T 7 (e := h1h) (x := by first | exact h0j rfl) (h := ?_))))) | (refine h0h ?_)) <;> (try first | (first | (first | (apply h0v (i := 8); exact rfl; kernel_rfl; kernel_rfl; kernel_rfl; exact rfl; exact h1h; exact h4r rfl rfl rfl) | (apply h0v (i := 8); exact rfl; kernel_rfl; kernel_rfl; kernel_rfl; exact rfl; exact h1h; exact h3f rfl rfl) | (refine q_T 8 (e := h1h) (x := by first | (first | (exact q_f h3n) | (exact q_g h3n))) (h := ?_))) | ((first | (refine h2c (dj := 15) rfl (fun hc => ?_) (fun hc => ?_)) | (refine h2m (dj := 15) rfl (fun hc => ?_) (fun hc => ?_)) | (refine h3b (dj := 15) rfl (fun hc => ?_) (fun hc => ?_))) <;> (try subst hc) <;> (first | (apply h0v (i := 8); exact rfl; kernel_rfl; kernel_rfl; kernel_rfl; exact rfl; exact h1h; exact h4r rfl rfl rfl) | (apply h0v (i := 8); exact rfl; kernel_rfl; kernel_rfl; kernel_rfl; exact rfl; exact h1h; exact h3f rfl rfl) | (refine q_T 8 (e := h1h) (x := by first | (first | (exact q_f h3n) | (exact q_g h3n))) (h := ?_))))) | (refine h0h ?_)) <;> (try first | (first | (first | (apply h0v (i := 9); exact rfl; kernel_rfl; kernel_rfl; kernel_rfl; exact rfl; exact h1h; exact h4r rfl rfl rfl) | (apply h0v (i := 9); exact rfl; kernel_rfl; kernel_rfl; kernel_rfl; exact rfl; exact h1h; exact h3f rfl rfl) | (refine q_T 9 (e := h1h) (x := by first | (apply h0l (t := 45); exact rfl; (focus (repeat (first | exact fd0 | (with_reducible assumption) | apply fdA | apply fdS))); kernel_rfl; kernel_rfl; exact h2a)) (h := ?_))) | ((first | (refine h2c (dj := 15) rfl (fun hc => ?_) (fun hc => ?_)) | (refine h2m (dj := 15) rfl (fun hc => ?_) (fun hc => ?_)) | (refine h3b (dj := 15) rfl (fun hc => ?_) (fun hc => ?_))) <;> (try subst hc) <;> (first | (apply h0v (i := 9); exact rfl; kernel_rfl; kernel_rfl; kernel_rfl; exact rfl; exact h1h; exact h4r rfl rfl rfl) | (apply h0v (i := 9); exact rfl; kernel_rfl; kernel_rfl; kernel_rfl; exact rfl; exact h1h; exact h3f rfl rfl) | (refine q_T 9 (e := h1h) (x := by first | (apply h0l (t := 45); exact rfl; (focus (repeat (first | exact fd0 | (with_reducible assumption) | apply fdA | apply fdS))); kernel_rfl; kernel_rfl; exact h2a)) (h := ?_))))) | (refine h0h ?_)) <;> (try first | (first | (first | (apply h0v (i := 10); exact rfl; kernel_rfl; kernel_rfl; kernel_rfl; exact rfl; exact h1h; exact h4r rfl rfl rfl) | (apply h0v (i := 10); exact rfl; kernel_rfl; kernel_rfl; kernel_rfl; exact rfl; exact h1h; exact h3f rfl rfl) | (refine q_T 10 (e := h1h) (x := by first | (apply h0m; exact rfl; exact (fun _ => BigFrame.builtin_len ..); apply h0i Try.underlying45; exact h4a)) (h := ?_))) | ((first | (refine h2c (dj := 15) rfl (fun hc => ?_) (fun hc => ?_)) | (refine h2m (dj := 15) rfl (fun hc => ?_) (fun hc => ?_)) | (refine h3b (dj := 15) rfl (fun hc => ?_) (fun hc => ?_))) <;> (try subst hc) <;> (first | (apply h0v (i := 10); exact rfl; kernel_rfl; kernel_rfl; kernel_rfl; exact rfl; exact h1h; exact h4r rfl rfl rfl) | (apply h0v (i := 10); exact rfl; kernel_rfl; kernel_rfl; kernel_rfl; exact rfl; exact h1h; exact h3f rfl rfl) | (refine q_T 10 (e := h1h) (x := by first | (apply h0m; exact rfl; exact (fun _ => BigFrame.builtin_len ..); apply h0i Try.underlying45; exact h4a)) (h := ?_))))) | (refine h0h ?_)) <;> (try first | (first | (first | (apply h0v (i := 11); exact rfl; kernel_rfl; kernel_rfl; kernel_rfl; exact rfl; exact h1h; exact h4r rfl rfl rfl) | (apply h0v (i := 11); exact rfl; kernel_rfl; kernel_rfl; kernel_rfl; exact rfl; exact h1h; exact h3f rfl rfl) | (refine q_T 11 (e := h1h) (x := by first | (exact q_b (r := by first | (exact h0t q_o) | (exact h1q q_o) | exact h3h))) (h := ?_))) | ((first | (refine h2c (dj := 15) rfl (fun hc => ?_) (fun hc => ?_)) | (refine h2m (dj := 15) rfl (fun hc => ?_) (fun hc => ?_)) | (refine h3b (dj := 15) rfl (fun hc => ?_) (fun hc => ?_))) <;> (try subst hc) <;> (first | (apply h0v (i := 11); exact rfl; kernel_rfl; kernel_rfl; kernel_rfl; exact rfl; exact h1h; exact h4r rfl rfl rfl) | (apply h0v (i := 11); exact rfl; kernel_rfl; kernel_rfl; kernel_rfl; exact rfl; exact h1h; exact h3f rfl rfl) | (refine q_T 11 (e := h1h) (x := by first | (exact q_b (r := by first | (exact h0t q_o) | (exact h1q q_o) | exact h3h))) (h := ?_))))) | (refine h0h ?_)) <;> (try first | (refine q_t 12 (e := h1h) (x := by first | exact h5l rfl rfl) (h := ?_)) | (refine h0h ?_)) <;> (try refine h2d (by kernel_rfl) ?_)) | ((refine h2g (id := 6) (m := 9) (by kernel_rfl) rfl ?_) <;> (try first | (refine q_t 0 (e := h1h) (x := by first | exact h0c rfl) (h := ?_)) | (refine h0h ?_)) <;> (try first | (refine q_t 1 (e := h1h) (x := by first | exact h0j rfl) (h := ?_)) | (refine h0h ?_)) <;> (try first | (refine q_t 2 (e := h1h) (x := by first | (first | (exact q_f h3n) | (exact q_g h3n))) (h := ?_)) | (refine h0h ?_)) <;> (try first | (refine q_t 3 (e := h1h) (x := by first | (apply h0l (t := 45); exact rfl; (focus (repeat (first | exact fd0 | (with_reducible assumption) | apply fdA | apply fdS))); kernel_rfl; kernel_rfl; exact h2a)) (h := ?_)) | (refine h0h ?_)) <;> (try first | (refine q_t 4 (e := h1h) (x := by first | (first | (exact q_f h2h) | (exact q_g h2h))) (h := ?_)) | (refine h0h ?_)) <;> (try first | (refine q_t 5 (e := h1h) (x := by first | (apply h0l (t := 3); exact rfl; (focus (repeat (first | exact fd0 | (with_reducible assumption) | apply fdA | apply fdS))); kernel_rfl; kernel_rfl; exact h2a)) (h := ?_)) | (refine h0h ?_)) <;> (try first | (refine q_t 6 (e := h1h) (x := by first | (apply h0f; exact rfl; exact rfl; (focus (apply h1z Try.underlying45 h2n; (omega); (omega); exact c_2)))) (h := ?_)) | (refine h0h ?_)) <;> (try first | (refine q_t 7 (e := h1h) (x := by first | (apply h0x (t := 43); exact rfl; (focus (repeat (first | exact fd0 | (with_reducible assumption) | apply fdA | apply fdS))); kernel_rfl; kernel_rfl; exact h2n; exact h2s; exact c_4)) (h := ?_)) | (refine h0h ?_)) <;> (try first | (refine q_r 8 ?_; (first | fail); refine h2y h1h ?_) | (refine h0h ?_)) <;> (try refine h2d (by kernel_rfl) ?_)) | (refine gR 7 ?_ <;> (try refine h0a ?_; (first | (refine q_k (h0c rfl) ?_))) <;> (try refine h0a ?_; (first | (refine q_k (by exact q_b (r := by apply h0w; exact c_9; (focus (first | (refine IntWalk.i64_in _ ?_; omega) | (refine IntWalk.u8_in _ ?_; omega) | (refine IntWalk.u16_in _ ?_; omega) | (refine IntWalk.u32_in _ ?_; omega) | (refine IntWalk.u64_in _ ?_; omega) | (refine IntWalk.i32_in _ ?_; omega) | exact rfl)))) ?_))) <;> (try refine h0a ?_; (first | (refine q_k (h0d rfl) ?_))) <;> (try refine h0b ?_)) | (refine gR 8 ?_ <;> (try refine h0a ?_; (first | (refine q_k (h0c rfl) ?_))) <;> (try refine h0a ?_; (first | (refine q_k (h0j rfl) ?_))) <;> (try refine h0a ?_; (first | (refine q_k (by first | (exact q_f fo_116_1) | (exact q_g fo_116_1)) ?_))) <;> (try refine h0a ?_; (first | fail)) <;> (try refine h0b ?_)) | (refine gR 9 ?_ <;> (try refine h0a ?_; (first | (refine q_k (h0c rfl) ?_))) <;> (try refine h0a ?_; (first | (refine q_k (h0j rfl) ?_))) <;> (try refine h0a ?_; (first | (refine q_k (by first | (exact q_f fo_116_2) | (exact q_g fo_116_2)) ?_))) <;> (try refine h0a ?_; (first | (refine q_k (h0c rfl) ?_))) <;> (try refine h0a ?_; (first | fail)) <;> (try refine h0b ?_)) | (refine gR 10 ?_ <;> (try refine h0a ?_; (first | (refine q_k (by first | (exact q_f h3p) | (exact q_g h3p)) ?_))) <;> (try refine h0a ?_; (first | (refine q_k (by apply h0l (t := 4); exact rfl; (focus (repeat (first | exact fd0 | (with_reducible assumption) | apply fdA | apply fdS))); kernel_rfl; kernel_rfl; exact h2a) ?_))) <;> (try refine h0a ?_; (first | (refine q_k (by apply E_un; exact rfl; (focus (first | exact h4b | exact h4i | exact h5f | exact ru_not))) ?_))) <;> (try refine h0b ?_)) | (refine gR 11 ?_ <;> (try refine h0a ?_; (first | (refine q_k (h0c rfl) ?_))) <;> (try refine h0a ?_; (first | (refine q_k (h0d rfl) ?_))) <;> (try refine h0a ?_; (first | (refine q_k (h0d rfl) ?_))) <;> (try refine h0b ?_)) | (refine gR 12 ?_ <;> (try refine h0a ?_; (first | (refine q_k (by first | (exact q_f h4h) | (exact q_g h4h)) ?_))) <;> (try refine h0a ?_; (first | (refine q_k (by apply h0l (t := 53); exact rfl; (focus (repeat (first | exact fd0 | (with_reducible assumption) | apply fdA | apply fdS))); kernel_rfl; kernel_rfl; exact h2a) ?_))) <;> (try refine h0a ?_; (first | (refine q_k (h0c rfl) ?_))) <;> (try refine h0a ?_; (first | (refine q_k (h0d rfl) ?_))) <;> (try refine h0a ?_; (first | (refine q_k (h0d rfl) ?_))) <;> (try refine h0b ?_)) | ((first | (refine h1w rfl (fun hc => ?_) (fun hc => ?_)) | (refine h2e rfl (fun hc => ?_) (fun hc => ?_)) | (refine h3i rfl (fun hc => ?_) (fun hc => ?_))) <;> (try subst hc)))
  refine ⟨?_⟩
  obtain ⟨nbM, rfl⟩ : ∃ x, x = nb := ⟨_, rfl⟩
  refine G_blocks (L' := mB nbM (m0 r) :: flB n (.slice (some ⟨g, 0, none⟩) l.length cap) a b :: srB g cur :: L) ?_ ?_
  · intro w H
    have h := H.drop1
    show HP _ _ _ (⟨true, nbM, .cells (m0 r).cells.toArray _ (0, 0)⟩ :: _)
    rw [m0_cells, hcl]; exact h
  repeat' (first | refine h1k ?_ | refine h0b ?_ | refine h0k ?_ | refine h1g ?_ | refine h1y ?_ | refine h2o ?_ | refine h1m ?_ | refine h1n ?_ | refine h0y ?_ | refine h1u ?_ | refine h1t ?_ | refine h2r rfl ?_ | refine h0q ?_ | refine h1j ?_ | refine h2p ?_ | refine h2v ?_ | refine h0o rfl ?_ | refine h0n rfl ?_ | (refine gR 0 ?_ <;> (try refine h0a ?_; (first | (refine h3e (t := 26) rfl rfl ?_; intro nb hnb; (try simp only [Value.cells])))) <;> (try refine h0a ?_; (first | (refine q_k (h0d rfl) ?_))) <;> (try refine h0a ?_; (first | (refine q_k (h0d rfl) ?_))) <;> (try refine h0b ?_)) | (refine gR 1 ?_ <;> (try refine h0a ?_; (first | (refine q_k (h0c rfl) ?_))) <;> (try refine h0a ?_; (first | (refine q_k (by exact q_b (r := by first | exact rb_peq_sn Try.underlying36 | exact rb_peq_nn Try.underlying36 | exact rb_peq_ns Try.underlying36)) ?_))) <;> (try refine h0b ?_)) | (refine gR 2 ?_ <;> (try refine h0a ?_; (first | (refine q_k (h0d rfl) ?_))) <;> (try refine h0a ?_; (first | (refine q_k (h0d rfl) ?_))) <;> (try refine h0b ?_)) | (refine gR 3 ?_ <;> (try refine h0a ?_; (first | (refine q_k (by apply h0x (t := 26); exact rfl; (focus (repeat (first | exact fd0 | (with_reducible assumption) | apply fdA | apply fdS))); kernel_rfl; kernel_rfl; exact sz_26; exact h2s; exact c_4) ?_))) <;> (try refine h0a ?_; (first | (refine q_k (by exact h1s (t := 138) (fun vs => (match vs with | [(_, x0)] => [Value.int .u32 0, Value.int .u32 0, Value.int .u32 0, Value.int .u32 0, Value.int .u32 0, Value.int .u32 0, Value.int .u32 0, Value.int .u32 0, Value.int .u32 0, Value.int .u32 0, Value.int .u32 0, Value.int .u32 0, Value.int .u32 0, Value.int .u32 0, Value.int .u32 0, Value.int .u32 0, Value.int .u32 0, Value.int .u32 0, Value.int .i64 0] ++ (x0.cells.toList ++ [Value.int .u32 0, Value.bool false]) | _ => [])) rfl (fun w => by kernel_rfl)) ?_; (try simp only [Value.cells]); (try simp only [zzC, zzN])))) <;> (try refine h0a ?_; (first | (refine h0u (t := 138) rfl Try.zeroValue138 ?_; intro nb hnb; (try simp only [Value.cells])))) <;> (try refine h0a ?_; (first | (first | (apply h1a (t := 138); exact rfl; exact rfl; (focus (repeat (first | exact fd0 | (with_reducible assumption) | apply fdA | apply fdS))); kernel_rfl; exact h5m; (focus (first | (with_reducible assumption) | exact rfl | (simp; done) | (simp [h0z, h0s, h1c, h1d, h1v, h1e, *]; done))); (try simp only [List.set_cons_succ]); (try simp only [List.set_cons_zero])) | (apply h1f (t := 138); exact rfl; exact rfl; (focus (repeat (first | exact fd0 | (with_reducible assumption) | apply fdA | apply fdS))); exact sz_138; exact h2a; (focus (first | (with_reducible assumption) | (focus (first | (with_reducible assumption) | exact rfl | (simp; done) | (simp [h0z, h0s, h1c, h1d, h1v, h1e, *]; done))))); exact h2s; (try simp only [List.set_cons_succ]); (try simp only [List.set_cons_zero]))))) <;> (try refine h0b ?_)) | (refine gR 4 ?_ <;> (try refine h0a ?_; (first | (refine q_k (h0d rfl) ?_))) <;> (try refine h0b ?_)) | ((refine h2g (id := 5) (m := 13) (by kernel_rfl) rfl ?_) <;> (try first | (refine q_t 0 (e := h1h) (x := by first | (first | (exact q_f h3p) | (exact q_g h3p))) (h := ?_)) | (refine h0h ?_)) <;> (try first | (refine q_t 1 (e := h1h) (x := by first | (apply h0l (t := 4); exact rfl; (focus (repeat (first | exact fd0 | (with_reducible assumption) | apply fdA | apply fdS))); kernel_rfl; kernel_rfl; exact h2a)) (h := ?_)) | (refine h0h ?_)) <;> (try first | (refine q_t 2 (e := h1h) (x := by first | (apply E_un; exact rfl; (focus (first | exact h4b | exact h4i | exact h5f | exact ru_not)))) (h := ?_)) | (refine h0h ?_)) <;> (try first | (refine q_t 3 (e := h1h) (x := by first | exact h0c rfl) (h := ?_)) | (refine h0h ?_)) <;> (try first | (first | (first | (apply h0v (i := 4); exact rfl; kernel_rfl; kernel_rfl; kernel_rfl; exact rfl; exact h1h; exact h4r rfl rfl rfl) | (apply h0v (i := 4); exact rfl; kernel_rfl; kernel_rfl; kernel_rfl; exact rfl; exact h1h; exact h3f rfl rfl) | (refine q_T 4 (e := h1h) (x := by first | (first | (exact q_f h2h) | (exact q_g h2h))) (h := ?_))) | ((first | (refine h2c (dj := 15) rfl (fun hc => ?_) (fun hc => ?_)) | (refine h2m (dj := 15) rfl (fun hc => ?_) (fun hc => ?_)) | (refine h3b (dj := 15) rfl (fun hc => ?_) (fun hc => ?_))) <;> (try subst hc) <;> (first | (apply h0v (i := 4); exact rfl; kernel_rfl; kernel_rfl; kernel_rfl; exact rfl; exact h1h; exact h4r rfl rfl rfl) | (apply h0v (i := 4); exact rfl; kernel_rfl; kernel_rfl; kernel_rfl; exact rfl; exact h1h; exact h3f rfl rfl) | (refine q_T 4 (e := h1h) (x := by first | (first | (exact q_f h2h) | (exact q_g h2h))) (h := ?_))))) | (refine h0h ?_)) <;> (try first | (first | (first | (apply h0v (i := 5); exact rfl; kernel_rfl; kernel_rfl; kernel_rfl; exact rfl; exact h1h; exact h4r rfl rfl rfl) | (apply h0v (i := 5); exact rfl; kernel_rfl; kernel_rfl; kernel_rfl; exact rfl; exact h1h; exact h3f rfl rfl) | (refine q_T 5 (e := h1h) (x := by first | (apply h0l (t := 3); exact rfl; (focus (repeat (first | exact fd0 | (with_reducible assumption) | apply fdA | apply fdS))); kernel_rfl; kernel_rfl; exact h2a)) (h := ?_))) | ((first | (refine h2c (dj := 15) rfl (fun hc => ?_) (fun hc => ?_)) | (refine h2m (dj := 15) rfl (fun hc => ?_) (fun hc => ?_)) | (refine h3b (dj := 15) rfl (fun hc => ?_) (fun hc => ?_))) <;> (try subst hc) <;> (first | (apply h0v (i := 5); exact rfl; kernel_rfl; kernel_rfl; kernel_rfl; exact rfl; exact h1h; exact h4r rfl rfl rfl) | (apply h0v (i := 5); exact rfl; kernel_rfl; kernel_rfl; kernel_rfl; exact rfl; exact h1h; exact h3f rfl rfl) | (refine q_T 5 (e := h1h) (x := by first | (apply h0l (t := 3); exact rfl; (focus (repeat (first | exact fd0 | (with_reducible assumption) | apply fdA | apply fdS))); kernel_rfl; kernel_rfl; exact h2a)) (h := ?_))))) | (refine h0h ?_)) <;> (try first | (first | (first | (apply h0v (i := 6); exact rfl; kernel_rfl; kernel_rfl; kernel_rfl; exact rfl; exact h1h; exact h4r rfl rfl rfl) | (apply h0v (i := 6); exact rfl; kernel_rfl; kernel_rfl; kernel_rfl; exact rfl; exact h1h; exact h3f rfl rfl) | (refine q_T 6 (e := h1h) (x := by first | exact h0c rfl) (h := ?_))) | ((first | (refine h2c (dj := 15) rfl (fun hc => ?_) (fun hc => ?_)) | (refine h2m (dj := 15) rfl (fun hc => ?_) (fun hc => ?_)) | (refine h3b (dj := 15) rfl (fun hc => ?_) (fun hc => ?_))) <;> (try subst hc) <;> (first | (apply h0v (i := 6); exact rfl; kernel_rfl; kernel_rfl; kernel_rfl; exact rfl; exact h1h; exact h4r rfl rfl rfl) | (apply h0v (i := 6); exact rfl; kernel_rfl; kernel_rfl; kernel_rfl; exact rfl; exact h1h; exact h3f rfl rfl) | (refine q_T 6 (e := h1h) (x := by first | exact h0c rfl) (h := ?_))))) | (refine h0h ?_)) <;> (try first | (first | (first | (apply h0v (i := 7); exact rfl; kernel_rfl; kernel_rfl; kernel_rfl; exact rfl; exact h1h; exact h4r rfl rfl rfl) | (apply h0v (i := 7); exact rfl; kernel_rfl; kernel_rfl; kernel_rfl; exact rfl; exact h1h; exact h3f rfl rfl) | (refine q_T 7 (e := h1h) (x := by first | exact h0j rfl) (h := ?_))) | ((first | (refine h2c (dj := 15) rfl (fun hc => ?_) (fun hc => ?_)) | (refine h2m (dj := 15) rfl (fun hc => ?_) (fun hc => ?_)) | (refine h3b (dj := 15) rfl (fun hc => ?_) (fun hc => ?_))) <;> (try subst hc) <;> (first | (apply h0v (i := 7); exact rfl; kernel_rfl; kernel_rfl; kernel_rfl; exact rfl; exact h1h; exact h4r rfl rfl rfl) | (apply h0v (i := 7); exact rfl; kernel_rfl; kernel_rfl; kernel_rfl; exact rfl; exact h1h; exact h3f rfl rfl) | (refine q_T 7 (e := h1h) (x := by first | exact h0j rfl) (h := ?_))))) | (refine h0h ?_)) <;> (try first | (first | (first | (apply h0v (i := 8); exact rfl; kernel_rfl; kernel_rfl; kernel_rfl; exact rfl; exact h1h; exact h4r rfl rfl rfl) | (apply h0v (i := 8); exact rfl; kernel_rfl; kernel_rfl; kernel_rfl; exact rfl; exact h1h; exact h3f rfl rfl) | (refine q_T 8 (e := h1h) (x := by first | (first | (exact q_f h3n) | (exact q_g h3n))) (h := ?_))) | ((first | (refine h2c (dj := 15) rfl (fun hc => ?_) (fun hc => ?_)) | (refine h2m (dj := 15) rfl (fun hc => ?_) (fun hc => ?_)) | (refine h3b (dj := 15) rfl (fun hc => ?_) (fun hc => ?_))) <;> (try subst hc) <;> (first | (apply h0v (i := 8); exact rfl; kernel_rfl; kernel_rfl; kernel_rfl; exact rfl; exact h1h; exact h4r rfl rfl rfl) | (apply h0v (i := 8); exact rfl; kernel_rfl; kernel_rfl; kernel_rfl; exact rfl; exact h1h; exact h3f rfl rfl) | (refine q_T 8 (e := h1h) (x := by first | (first | (exact q_f h3n) | (exact q_g h3n))) (h := ?_))))) | (refine h0h ?_)) <;> (try first | (first | (first | (apply h0v (i := 9); exact rfl; kernel_rfl; kernel_rfl; kernel_rfl; exact rfl; exact h1h; exact h4r rfl rfl rfl) | (apply h0v (i := 9); exact rfl; kernel_rfl; kernel_rfl; kernel_rfl; exact rfl; exact h1h; exact h3f rfl rfl) | (refine q_T 9 (e := h1h) (x := by first | (apply h0l (t := 45); exact rfl; (focus (repeat (first | exact fd0 | (with_reducible assumption) | apply fdA | apply fdS))); kernel_rfl; kernel_rfl; exact h2a)) (h := ?_))) | ((first | (refine h2c (dj := 15) rfl (fun hc => ?_) (fun hc => ?_)) | (refine h2m (dj := 15) rfl (fun hc => ?_) (fun hc => ?_)) | (refine h3b (dj := 15) rfl (fun hc => ?_) (fun hc => ?_))) <;> (try subst hc) <;> (first | (apply h0v (i := 9); exact rfl; kernel_rfl; kernel_rfl; kernel_rfl; exact rfl; exact h1h; exact h4r rfl rfl rfl) | (apply h0v (i := 9); exact rfl; kernel_rfl; kernel_rfl; kernel_rfl; exact rfl; exact h1h; exact h3f rfl rfl) | (refine q_T 9 (e := h1h) (x := by first | (apply h0l (t := 45); exact rfl; (focus (repeat (first | exact fd0 | (with_reducible assumption) | apply fdA | apply fdS))); kernel_rfl; kernel_rfl; exact h2a)) (h := ?_))))) | (refine h0h ?_)) <;> (try first | (first | (first | (apply h0v (i := 10); exact rfl; kernel_rfl; kernel_rfl; kernel_rfl; exact rfl; exact h1h; exact h4r rfl rfl rfl) | (apply h0v (i := 10); exact rfl; kernel_rfl; kernel_rfl; kernel_rfl; exact rfl; exact h1h; exact h3f rfl rfl) | (refine q_T 10 (e := h1h) (x := by first | (apply h0m; exact rfl; exact (fun _ => BigFrame.builtin_len ..); apply h0i Try.underlying45; exact h4a)) (h := ?_))) | ((first | (refine h2c (dj := 15) rfl (fun hc => ?_) (fun hc => ?_)) | (refine h2m (dj := 15) rfl (fun hc => ?_) (fun hc => ?_)) | (refine h3b (dj := 15) rfl (fun hc => ?_) (fun hc => ?_))) <;> (try subst hc) <;> (first | (apply h0v (i := 10); exact rfl; kernel_rfl; kernel_rfl; kernel_rfl; exact rfl; exact h1h; exact h4r rfl rfl rfl) | (apply h0v (i := 10); exact rfl; kernel_rfl; kernel_rfl; kernel_rfl; exact rfl; exact h1h; exact h3f rfl rfl) | (refine q_T 10 (e := h1h) (x := by first | (apply h0m; exact rfl; exact (fun _ => BigFrame.builtin_len ..); apply h0i Try.underlying45; exact h4a)) (h := ?_))))) | (refine h0h ?_)) <;> (try first | (first | (first | (apply h0v (i := 11); exact rfl; kernel_rfl; kernel_rfl; kernel_rfl; exact rfl; exact h1h; exact h4r rfl rfl rfl) | (apply h0v (i := 11); exact rfl; kernel_rfl; kernel_rfl; kernel_rfl; exact rfl; exact h1h; exact h3f rfl rfl) | (refine q_T 11 (e := h1h) (x := by first | (exact q_b (r := by first | (exact h0t q_o) | (exact h1q q_o) | exact h3h))) (h := ?_))) | ((first | (refine h2c (dj := 15) rfl (fun hc => ?_) (fun hc => ?_)) | (refine h2m (dj := 15) rfl (fun hc => ?_) (fun hc => ?_)) | (refine h3b (dj := 15) rfl (fun hc => ?_) (fun hc => ?_))) <;> (try subst hc) <;> (first | (apply h0v (i := 11); exact rfl; kernel_rfl; kernel_rfl; kernel_rfl; exact rfl; exact h1h; exact h4r rfl rfl rfl) | (apply h0v (i := 11); exact rfl; kernel_rfl; kernel_rfl; kernel_rfl; exact rfl; exact h1h; exact h3f rfl rfl) | (refine q_T 11 (e := h1h) (x := by first | (exact q_b (r := by first | (exact h0t q_o) | (exact h1q q_o) | exact h3h))) (h := ?_))))) | (refine h0h ?_)) <;> (try first | (refine q_t 12 (e := h1h) (x := by first | exact h5l rfl rfl) (h := ?_)) | (refine h0h ?_)) <;> (try refine h2d (by kernel_rfl) ?_)) | ((refine h2g (id := 6) (m := 9) (by kernel_rfl) rfl ?_) <;> (try first | (refine q_t 0 (e := h1h) (x := by first | exact h0c rfl) (h := ?_)) | (refine h0h ?_)) <;> (try first | (refine q_t 1 (e := h1h) (x := by first | exact h0j rfl) (h := ?_)) | (refine h0h ?_)) <;> (try first | (refine q_t 2 (e := h1h) (x := by first | (first | (exact q_f h3n) | (exact q_g h3n))) (h := ?_)) | (refine h0h ?_)) <;> (try first | (refine q_t 3 (e := h1h) (x := by first | (apply h0l (t := 45); exact rfl; (focus (repeat (first | exact fd0 | (with_reducible assumption) | apply fdA | apply fdS))); kernel_rfl; kernel_rfl; exact h2a)) (h := ?_)) | (refine h0h ?_)) <;> (try first | (refine q_t 4 (e := h1h) (x := by first | (first | (exact q_f h2h) | (exact q_g h2h))) (h := ?_)) | (refine h0h ?_)) <;> (try first | (refine q_t 5 (e := h1h) (x := by first | (apply h0l (t := 3); exact rfl; (focus (repeat (first | exact fd0 | (with_reducible assumption) | apply fdA | apply fdS))); kernel_rfl; kernel_rfl; exact h2a)) (h := ?_)) | (refine h0h ?_)) <;> (try first | (refine q_t 6 (e := h1h) (x := by first | (apply h0f; exact rfl; exact rfl; (focus (apply h1z Try.underlying45 h2n; (omega); (omega); exact c_2)))) (h := ?_)) | (refine h0h ?_)) <;> (try first | (refine q_t 7 (e := h1h) (x := by first | (apply h0x (t := 43); exact rfl; (focus (repeat (first | exact fd0 | (with_reducible assumption) | apply fdA | apply fdS))); kernel_rfl; kernel_rfl; exact h2n; exact h2s; exact c_4)) (h := ?_)) | (refine h0h ?_)) <;> (try first | (refine q_r 8 ?_; (first | fail); refine h2y h1h ?_) | (refine h0h ?_)) <;> (try refine h2d (by kernel_rfl) ?_)) | (refine gR 7 ?_ <;> (try refine h0a ?_; (first | (refine q_k (h0c rfl) ?_))) <;> (try refine h0a ?_; (first | (refine q_k (by exact q_b (r := by apply h0w; exact c_9; (focus (first | (refine IntWalk.i64_in _ ?_; omega) | (refine IntWalk.u8_in _ ?_; omega) | (refine IntWalk.u16_in _ ?_; omega) | (refine IntWalk.u32_in _ ?_; omega) | (refine IntWalk.u64_in _ ?_; omega) | (refine IntWalk.i32_in _ ?_; omega) | exact rfl)))) ?_))) <;> (try refine h0a ?_; (first | (refine q_k (h0d rfl) ?_))) <;> (try refine h0b ?_)) | (refine gR 8 ?_ <;> (try refine h0a ?_; (first | (refine q_k (h0c rfl) ?_))) <;> (try refine h0a ?_; (first | (refine q_k (h0j rfl) ?_))) <;> (try refine h0a ?_; (first | (refine q_k (by first | (exact q_f fo_116_1) | (exact q_g fo_116_1)) ?_))) <;> (try refine h0a ?_; (first | fail)) <;> (try refine h0b ?_)) | (refine gR 9 ?_ <;> (try refine h0a ?_; (first | (refine q_k (h0c rfl) ?_))) <;> (try refine h0a ?_; (first | (refine q_k (h0j rfl) ?_))) <;> (try refine h0a ?_; (first | (refine q_k (by first | (exact q_f fo_116_2) | (exact q_g fo_116_2)) ?_))) <;> (try refine h0a ?_; (first | (refine q_k (h0c rfl) ?_))) <;> (try refine h0a ?_; (first | fail)) <;> (try refine h0b ?_)) | (refine gR 10 ?_ <;> (try refine h0a ?_; (first | (refine q_k (by first | (exact q_f h3p) | (exact q_g h3p)) ?_))) <;> (try refine h0a ?_; (first | (refine q_k (by apply h0l (t := 4); exact rfl; (focus (repeat (first | exact fd0 | (with_reducible assumption) | apply fdA | apply fdS))); kernel_rfl; kernel_rfl; exact h2a) ?_))) <;> (try refine h0a ?_; (first | (refine q_k (by apply E_un; exact rfl; (focus (first | exact h4b | exact h4i | exact h5f | exact ru_not))) ?_))) <;> (try refine h0b ?_)) | (refine gR 11 ?_ <;> (try refine h0a ?_; (first | (refine q_k (h0c rfl) ?_))) <;> (try refine h0a ?_; (first | (refine q_k (h0d rfl) ?_))) <;> (try refine h0a ?_; (first | (refine q_k (h0d rfl) ?_))) <;> (try refine h0b ?_)) | (refine gR 12 ?_ <;> (try refine h0a ?_; (first | (refine q_k (by first | (exact q_f h4h) | (exact q_g h4h)) ?_))) <;> (try refine h0a ?_; (first | (refine q_k (by apply h0l (t := 53); exact rfl; (focus (repeat (first | exact fd0 | (with_reducible assumption) | apply fdA | apply fdS))); kernel_rfl; kernel_rfl; exact h2a) ?_))) <;> (try refine h0a ?_; (first | (refine q_k (h0c rfl) ?_))) <;> (try refine h0a ?_; (first | (refine q_k (h0d rfl) ?_))) <;> (try refine h0a ?_; (first | (refine q_k (h0d rfl) ?_))) <;> (try refine h0b ?_)) | ((first | (refine h1w rfl (fun hc => ?_) (fun hc => ?_)) | (refine h2e rfl (fun hc => ?_) (fun hc => ?_)) | (refine h3i rfl (fun hc => ?_) (fun hc => ?_))) <;> (try subst hc)))
  refine h4g (γ := Mch × Nat) (RunI l (h5u l l.length (m0 r) 0)) (fun g => l.length - g.2) (fun g => [(7, .int .i64 (g.2 : Nat))]) [(0, _), (6, _)]
    (fun q => mB nbM q.1 :: flB n (.slice (some ⟨g, 0, none⟩) l.length cap) a b :: srB g cur :: L)
    (m0 r, 0) (.cons rfl (.cons rfl .nil)) ⟨m0_ok hr, by simp [m0], by simp [m0], Nat.zero_le _, rfl⟩ (by (focus (repeat (first | exact Sub.nil | refine Sub.cons rfl ?_ | (refine Sub.cons (congrArg some ?_) ?_; (focus go_num)))))) (fun _ H => H) ?_
  rintro ⟨m, k⟩ hI
  simp only [List.cons_append, List.nil_append]
  have hok := hI.ok
  dsimp only at hok
  have g18 := Mch.g18 hok
  have g29 := Mch.g29 hok
  have g28 := Mch.g28 hok
  have hpos := hok.pos
  have hlo : (k : Int) ≤ m.pos := hI.lo
  have hhi : m.pos ≤ k * 5000000000 := hI.hi
  have hkl : k ≤ l.length := hI.le
  by_cases hgo : m.en = false ∧ m.pos.toNat < l.length
  · obtain ⟨he, hp⟩ := hgo
    rw [he] at g29
    have hx := hs.at_ hp
    have hio := hl _ (List.getElem_mem hp)
    have hnx := hI.next hl h2 he hp
    have hsz : m.pos.toNat * 4 + 4 ≤ cur.toArray.size := by have := hs.len; simp; omega
    rw [Nat.zero_add] at hx
    generalize l[m.pos.toNat] = i at *
    obtain ⟨c, jt, jf, kk⟩ := i
    have hst := fun (L : List Blk) => step_c (S := S) (w0 := w0) (L := L) nbM m hok (by have := h2; omega) ⟨c, jt, jf, kk⟩ hio
    simp only [Ins.cells, Ins.v] at hx hst
    have hnx' := Lib.hid hnx
    clear hnx g28
    repeat' (first | refine h1k ?_ | refine h0b ?_ | refine h0k ?_ | refine h1g ?_ | refine h1y ?_ | refine h2o ?_ | refine h1m ?_ | refine h1n ?_ | refine h0y ?_ | refine h1u ?_ | refine h1t ?_ | refine h2r rfl ?_ | refine h0q ?_ | refine h1j ?_ | refine h2p ?_ | refine h2v ?_ | refine h0o rfl ?_ | refine h0n rfl ?_ | (refine gR 0 ?_ <;> (try refine h0a ?_; (first | (refine h3e (t := 26) rfl rfl ?_; intro nb hnb; (try simp only [Value.cells])))) <;> (try refine h0a ?_; (first | (refine q_k (h0d rfl) ?_))) <;> (try refine h0a ?_; (first | (refine q_k (h0d rfl) ?_))) <;> (try refine h0b ?_)) | (refine gR 1 ?_ <;> (try refine h0a ?_; (first | (refine q_k (h0c rfl) ?_))) <;> (try refine h0a ?_; (first | (refine q_k (by exact q_b (r := by first | exact rb_peq_sn Try.underlying36 | exact rb_peq_nn Try.underlying36 | exact rb_peq_ns Try.underlying36)) ?_))) <;> (try refine h0b ?_)) | (refine gR 2 ?_ <;> (try refine h0a ?_; (first | (refine q_k (h0d rfl) ?_))) <;> (try refine h0a ?_; (first | (refine q_k (h0d rfl) ?_))) <;> (try refine h0b ?_)) | (refine gR 3 ?_ <;> (try refine h0a ?_; (first | (refine q_k (by apply h0x (t := 26); exact rfl; (focus (repeat (first | exact fd0 | (with_reducible assumption) | apply fdA | apply fdS))); kernel_rfl; kernel_rfl; exact sz_26; exact h2s; exact c_4) ?_))) <;> (try refine h0a ?_; (first | (refine q_k (by exact h1s (t := 138) (fun vs => (match vs with | [(_, x0)] => [Value.int .u32 0, Value.int .u32 0, Value.int .u32 0, Value.int .u32 0, Value.int .u32 0, Value.int .u32 0, Value.int .u32 0, Value.int .u32 0, Value.int .u32 0, Value.int .u32 0, Value.int .u32 0, Value.int .u32 0, Value.int .u32 0, Value.int .u32 0, Value.int .u32 0, Value.int .u32 0, Value.int .u32 0, Value.int .u32 0, Value.int .i64 0] ++ (x0.cells.toList ++ [Value.int .u32 0, Value.bool false]) | _ => [])) rfl (fun w => by kernel_rfl)) ?_; (try simp only [Value.cells]); (try simp only [zzC, zzN])))) <;> (try refine h0a ?_; (first | (refine h0u (t := 138) rfl Try.zeroValue138 ?_; intro nb hnb; (try simp only [Value.cells])))) <;> (try refine h0a ?_; (first | (first | (apply h1a (t := 138); exact rfl; exact rfl; (focus (repeat (first | exact fd0 | (with_reducible assumption) | apply fdA | apply fdS))); kernel_rfl; exact h5m; (focus (first | (with_reducible assumption) | exact rfl | (simp; done) | (simp [h0z, h0s, h1c, h1d, h1v, h1e, *]; done))); (try simp only [List.set_cons_succ]); (try simp only [List.set_cons_zero])) | (apply h1f (t := 138); exact rfl; exact rfl; (focus (repeat (first | exact fd0 | (with_reducible assumption) | apply fdA | apply fdS))); exact sz_138; exact h2a; (focus (first | (with_reducible assumption) | (focus (first | (with_reducible assumption) | exact rfl | (simp; done) | (simp [h0z, h0s, h1c, h1d, h1v, h1e, *]; done))))); exact h2s; (try simp only [List.set_cons_succ]); (try simp only [List.set_cons_zero]))))) <;> (try refine h0b ?_)) | (refine gR 4 ?_ <;> (try refine h0a ?_; (first | (refine q_k (h0d rfl) ?_))) <;> (try refine h0b ?_)) | ((refine h2g (id := 5) (m := 13) (by kernel_rfl) rfl ?_) <;> (try first | (refine q_t 0 (e := h1h) (x := by first | (first | (exact q_f h3p) | (exact q_g h3p))) (h := ?_)) | (refine h0h ?_)) <;> (try first | (refine q_t 1 (e := h1h) (x := by first | (apply h0l (t := 4); exact rfl; (focus (repeat (first | exact fd0 | (with_reducible assumption) | apply fdA | apply fdS))); kernel_rfl; kernel_rfl; exact h2a)) (h := ?_)) | (refine h0h ?_)) <;> (try first | (refine q_t 2 (e := h1h) (x := by first | (apply E_un; exact rfl; (focus (first | exact h4b | exact h4i | exact h5f | exact ru_not)))) (h := ?_)) | (refine h0h ?_)) <;> (try first | (refine q_t 3 (e := h1h) (x := by first | exact h0c rfl) (h := ?_)) | (refine h0h ?_)) <;> (try first | (first | (first | (apply h0v (i := 4); exact rfl; kernel_rfl; kernel_rfl; kernel_rfl; exact rfl; exact h1h; exact h4r rfl rfl rfl) | (apply h0v (i := 4); exact rfl; kernel_rfl; kernel_rfl; kernel_rfl; exact rfl; exact h1h; exact h3f rfl rfl) | (refine q_T 4 (e := h1h) (x := by first | (first | (exact q_f h2h) | (exact q_g h2h))) (h := ?_))) | ((first | (refine h2c (dj := 15) rfl (fun hc => ?_) (fun hc => ?_)) | (refine h2m (dj := 15) rfl (fun hc => ?_) (fun hc => ?_)) | (refine h3b (dj := 15) rfl (fun hc => ?_) (fun hc => ?_))) <;> (try subst hc) <;> (first | (apply h0v (i := 4); exact rfl; kernel_rfl; kernel_rfl; kernel_rfl; exact rfl; exact h1h; exact h4r rfl rfl rfl) | (apply h0v (i := 4); exact rfl; kernel_rfl; kernel_rfl; kernel_rfl; exact rfl; exact h1h; exact h3f rfl rfl) | (refine q_T 4 (e := h1h) (x := by first | (first | (exact q_f h2h) | (exact q_g h2h))) (h := ?_))))) | (refine h0h ?_)) <;> (try first | (first | (first | (apply h0v (i := 5); exact rfl; kernel_rfl; kernel_rfl; kernel_rfl; exact rfl; exact h1h; exact h4r rfl rfl rfl) | (apply h0v (i := 5); exact rfl; kernel_rfl; kernel_rfl; kernel_rfl; exact rfl; exact h1h; exact h3f rfl rfl) | (refine q_T 5 (e := h1h) (x := by first | (apply h0l (t := 3); exact rfl; (focus (repeat (first | exact fd0 | (with_reducible assumption) | apply fdA | apply fdS))); kernel_rfl; kernel_rfl; exact h2a)) (h := ?_))) | ((first | (refine h2c (dj := 15) rfl (fun hc => ?_) (fun hc => ?_)) | (refine h2m (dj := 15) rfl (fun hc => ?_) (fun hc => ?_)) | (refine h3b (dj := 15) rfl (fun hc => ?_) (fun hc => ?_))) <;> (try subst hc) <;> (first | (apply h0v (i := 5); exact rfl; kernel_rfl; kernel_rfl; kernel_rfl; exact rfl; exact h1h; exact h4r rfl rfl rfl) | (apply h0v (i := 5); exact rfl; kernel_rfl; kernel_rfl; kernel_rfl; exact rfl; exact h1h; exact h3f rfl rfl) | (refine q_T 5 (e := h1h) (x := by first | (apply h0l (t := 3); exact rfl; (focus (repeat (first | exact fd0 | (with_reducible assumption) | apply fdA | apply fdS))); kernel_rfl; kernel_rfl; exact h2a)) (h := ?_))))) | (refine h0h ?_)) <;> (try first | (first | (first | (apply h0v (i := 6); exact rfl; kernel_rfl; kernel_rfl; kernel_rfl; exact rfl; exact h1h; exact h4r rfl rfl rfl) | (apply h0v (i := 6); exact rfl; kernel_rfl; kernel_rfl; kernel_rfl; exact rfl; exact h1h; exact h3f rfl rfl) | (refine q_T 6 (e := h1h) (x := by first | exact h0c rfl) (h := ?_))) | ((first | (refine h2c (dj := 15) rfl (fun hc => ?_) (fun hc => ?_)) | (refine h2m (dj := 15) rfl (fun hc => ?_) (fun hc => ?_)) | (refine h3b (dj := 15) rfl (fun hc => ?_) (fun hc => ?_))) <;> (try subst hc) <;> (first | (apply h0v (i := 6); exact rfl; kernel_rfl; kernel_rfl; kernel_rfl; exact rfl; exact h1h; exact h4r rfl rfl rfl) | (apply h0v (i := 6); exact rfl; kernel_rfl; kernel_rfl; kernel_rfl; exact rfl; exact h1h; exact h3f rfl rfl) | (refine q_T 6 (e := h1h) (x := by first | exact h0c rfl) (h := ?_))))) | (refine h0h ?_)) <;> (try first | (first | (first | (apply h0v (i := 7); exact rfl; kernel_rfl; kernel_rfl; kernel_rfl; exact rfl; exact h1h; exact h4r rfl rfl rfl) | (apply h0v (i := 7); exact rfl; kernel_rfl; kernel_rfl; kernel_rfl; exact rfl; exact h1h; exact h3f rfl rfl) | (refine q_T 7 (e := h1h) (x := by first | exact h0j rfl) (h := ?_))) | ((first | (refine h2c (dj := 15) rfl (fun hc => ?_) (fun hc => ?_)) | (refine h2m (dj := 15) rfl (fun hc => ?_) (fun hc => ?_)) | (refine h3b (dj := 15) rfl (fun hc => ?_) (fun hc => ?_))) <;> (try subst hc) <;> (first | (apply h0v (i := 7); exact rfl; kernel_rfl; kernel_rfl; kernel_rfl; exact rfl; exact h1h; exact h4r rfl rfl rfl) | (apply h0v (i := 7); exact rfl; kernel_rfl; kernel_rfl; kernel_rfl; exact rfl; exact h1h; exact h3f rfl rfl) | (refine q_T 7 (e := h1h) (x := by first | exact h0j rfl) (h := ?_))))) | (refine h0h ?_)) <;> (try first | (first | (first | (apply h0v (i := 8); exact rfl; kernel_rfl; kernel_rfl; kernel_rfl; exact rfl; exact h1h; exact h4r rfl rfl rfl) | (apply h0v (i := 8); exact rfl; kernel_rfl; kernel_rfl; kernel_rfl; exact rfl; exact h1h; exact h3f rfl rfl) | (refine q_T 8 (e := h1h) (x := by first | (first | (exact q_f h3n) | (exact q_g h3n))) (h := ?_))) | ((first | (refine h2c (dj := 15) rfl (fun hc => ?_) (fun hc => ?_)) | (refine h2m (dj := 15) rfl (fun hc => ?_) (fun hc => ?_)) | (refine h3b (dj := 15) rfl (fun hc => ?_) (fun hc => ?_))) <;> (try subst hc) <;> (first | (apply h0v (i := 8); exact rfl; kernel_rfl; kernel_rfl; kernel_rfl; exact rfl; exact h1h; exact h4r rfl rfl rfl) | (apply h0v (i := 8); exact rfl; kernel_rfl; kernel_rfl; kernel_rfl; exact rfl; exact h1h; exact h3f rfl rfl) | (refine q_T 8 (e := h1h) (x := by first | (first | (exact q_f h3n) | (exact q_g h3n))) (h := ?_))))) | (refine h0h ?_)) <;> (try first | (first | (first | (apply h0v (i := 9); exact rfl; kernel_rfl; kernel_rfl; kernel_rfl; exact rfl; exact h1h; exact h4r rfl rfl rfl) | (apply h0v (i := 9); exact rfl; kernel_rfl; kernel_rfl; kernel_rfl; exact rfl; exact h1h; exact h3f rfl rfl) | (refine q_T 9 (e := h1h) (x := by first | (apply h0l (t := 45); exact rfl; (focus (repeat (first | exact fd0 | (with_reducible assumption) | apply fdA | apply fdS))); kernel_rfl; kernel_rfl; exact h2a)) (h := ?_))) | ((first | (refine h2c (dj := 15) rfl (fun hc => ?_) (fun hc => ?_)) | (refine h2m (dj := 15) rfl (fun hc => ?_) (fun hc => ?_)) | (refine h3b (dj := 15) rfl (fun hc => ?_) (fun hc => ?_))) <;> (try subst hc) <;> (first | (apply h0v (i := 9); exact rfl; kernel_rfl; kernel_rfl; kernel_rfl; exact rfl; exact h1h; exact h4r rfl rfl rfl) | (apply h0v (i := 9); exact rfl; kernel_rfl; kernel_rfl; kernel_rfl; exact rfl; exact h1h; exact h3f rfl rfl) | (refine q_T 9 (e := h1h) (x := by first | (apply h0l (t := 45); exact rfl; (focus (repeat (first | exact fd0 | (with_reducible assumption) | apply fdA | apply fdS))); kernel_rfl; kernel_rfl; exact h2a)) (h := ?_))))) | (refine h0h ?_)) <;> (try first | (first | (first | (apply h0v (i := 10); exact rfl; kernel_rfl; kernel_rfl; kernel_rfl; exact rfl; exact h1h; exact h4r rfl rfl rfl) | (apply h0v (i := 10); exact rfl; kernel_rfl; kernel_rfl; kernel_rfl; exact rfl; exact h1h; exact h3f rfl rfl) | (refine q_T 10 (e := h1h) (x := by first | (apply h0m; exact rfl; exact (fun _ => BigFrame.builtin_len ..); apply h0i Try.underlying45; exact h4a)) (h := ?_))) | ((first | (refine h2c (dj := 15) rfl (fun hc => ?_) (fun hc => ?_)) | (refine h2m (dj := 15) rfl (fun hc => ?_) (fun hc => ?_)) | (refine h3b (dj := 15) rfl (fun hc => ?_) (fun hc => ?_))) <;> (try subst hc) <;> (first | (apply h0v (i := 10); exact rfl; kernel_rfl; kernel_rfl; kernel_rfl; exact rfl; exact h1h; exact h4r rfl rfl rfl) | (apply h0v (i := 10); exact rfl; kernel_rfl; kernel_rfl; kernel_rfl; exact rfl; exact h1h; exact h3f rfl rfl) | (refine q_T 10 (e := h1h) (x := by first | (apply h0m; exact rfl; exact (fun _ => BigFrame.builtin_len ..); apply h0i Try.underlying45; exact h4a)) (h := ?_))))) | (refine h0h ?_)) <;> (try first | (first | (first | (apply h0v (i := 11); exact rfl; kernel_rfl; kernel_rfl; kernel_rfl; exact rfl; exact h1h; exact h4r rfl rfl rfl) | (apply h0v (i := 11); exact rfl; kernel_rfl; kernel_rfl; kernel_rfl; exact rfl; exact h1h; exact h3f rfl rfl) | (refine q_T 11 (e := h1h) (x := by first | (exact q_b (r := by first | (exact h0t q_o) | (exact h1q q_o) | exact h3h))) (h := ?_))) | ((first | (refine h2c (dj := 15) rfl (fun hc => ?_) (fun hc => ?_)) | (refine h2m (dj := 15) rfl (fun hc => ?_) (fun hc => ?_)) | (refine h3b (dj := 15) rfl (fun hc => ?_) (fun hc => ?_))) <;> (try subst hc) <;> (first | (apply h0v (i := 11); exact rfl; kernel_rfl; kernel_rfl; kernel_rfl; exact rfl; exact h1h; exact h4r rfl rfl rfl) | (apply h0v (i := 11); exact rfl; kernel_rfl; kernel_rfl; kernel_rfl; exact rfl; exact h1h; exact h3f rfl rfl) | (refine q_T 11 (e := h1h) (x := by first | (exact q_b (r := by first | (exact h0t q_o) | (exact h1q q_o) | exact h3h))) (h := ?_))))) | (refine h0h ?_)) <;> (try first | (refine q_t 12 (e := h1h) (x := by first | exact h5l rfl rfl) (h := ?_)) | (refine h0h ?_)) <;> (try refine h2d (by kernel_rfl) ?_)) | ((apply h3c (i := 0) (id := 6) (m := 9); exact c_14; kernel_rfl; exact rfl) <;> (try first | (refine q_t 0 (e := c_0) (x := by first | exact h0c rfl) (h := ?_)) | (refine h0h ?_)) <;> (try first | (refine q_t 1 (e := c_0) (x := by first | exact h0j rfl) (h := ?_)) | (refine h0h ?_)) <;> (try first | (refine q_t 2 (e := c_0) (x := by first | (first | (exact q_f h3n) | (exact q_g h3n))) (h := ?_)) | (refine h0h ?_)) <;> (try first | (refine q_t 3 (e := c_0) (x := by first | (apply h0l (t := 45); exact rfl; (focus (repeat (first | exact fd0 | (with_reducible assumption) | apply fdA | apply fdS))); kernel_rfl; kernel_rfl; exact h2a)) (h := ?_)) | (refine h0h ?_)) <;> (try first | (refine q_t 4 (e := c_0) (x := by first | (first | (exact q_f h2h) | (exact q_g h2h))) (h := ?_)) | (refine h0h ?_)) <;> (try first | (refine q_r 5 ?_; (first | (refine q_k (by apply h0l (t := 3); exact rfl; (focus (repeat (first | exact fd0 | (with_reducible assumption) | apply fdA | apply fdS))); kernel_rfl; kernel_rfl; exact h2a) ?_)); refine h2y c_0 ?_) | (refine h0h ?_)) <;> (try first | (refine q_t 6 (e := c_0) (x := by first | (apply h0f; exact rfl; exact rfl; (focus (apply h1z Try.underlying45 h2n; (omega); (omega); exact c_2)))) (h := ?_)) | (refine h0h ?_)) <;> (try first | (refine q_t 7 (e := c_0) (x := by first | (apply h0x (t := 43); exact rfl; (focus (repeat (first | exact fd0 | (with_reducible assumption) | apply fdA | apply fdS))); kernel_rfl; kernel_rfl; exact h2n; exact h2s; exact c_4)) (h := ?_)) | (refine h0h ?_)) <;> (try first | (refine q_r 8 ?_; (first | (first | (refine h1i (F := 44) (by kernel_rfl) rfl rfl (hst _) ?_; rintro _ _ ⟨rfl, rfl⟩))); refine h2y c_0 ?_) | (refine h0h ?_)) <;> (try refine h2d (by kernel_rfl) ?_)) | (refine gR 7 ?_ <;> (try refine h0a ?_; (first | (refine q_k (h0c rfl) ?_))) <;> (try refine h0a ?_; (first | (refine q_k (by exact q_b (r := by apply h0w; exact c_9; (focus (first | (refine IntWalk.i64_in _ ?_; omega) | (refine IntWalk.u8_in _ ?_; omega) | (refine IntWalk.u16_in _ ?_; omega) | (refine IntWalk.u32_in _ ?_; omega) | (refine IntWalk.u64_in _ ?_; omega) | (refine IntWalk.i32_in _ ?_; omega) | exact rfl)))) ?_))) <;> (try refine h0a ?_; (first | (refine q_k (h0d rfl) ?_))) <;> (try refine h0b ?_)) | (refine gR 8 ?_ <;> (try refine h0a ?_; (first | (refine q_k (h0c rfl) ?_))) <;> (try refine h0a ?_; (first | (refine q_k (h0j rfl) ?_))) <;> (try refine h0a ?_; (first | (refine q_k (by first | (exact q_f fo_116_1) | (exact q_g fo_116_1)) ?_))) <;> (try refine h0a ?_; (first | fail)) <;> (try refine h0b ?_)) | (refine gR 9 ?_ <;> (try refine h0a ?_; (first | (refine q_k (h0c rfl) ?_))) <;> (try refine h0a ?_; (first | (refine q_k (h0j rfl) ?_))) <;> (try refine h0a ?_; (first | (refine q_k (by first | (exact q_f fo_116_2) | (exact q_g fo_116_2)) ?_))) <;> (try refine h0a ?_; (first | (refine q_k (h0c rfl) ?_))) <;> (try refine h0a ?_; (first | fail)) <;> (try refine h0b ?_)) | (refine gR 10 ?_ <;> (try refine h0a ?_; (first | (refine q_k (by first | (exact q_f h3p) | (exact q_g h3p)) ?_))) <;> (try refine h0a ?_; (first | (refine q_k (by apply h0l (t := 4); exact rfl; (focus (repeat (first | exact fd0 | (with_reducible assumption) | apply fdA | apply fdS))); kernel_rfl; kernel_rfl; exact h2a) ?_))) <;> (try refine h0a ?_; (first | (refine q_k (by apply E_un; exact rfl; (focus (first | exact h4b | exact h4i | exact h5f | exact ru_not))) ?_))) <;> (try refine h0b ?_)) | (refine gR 11 ?_ <;> (try refine h0a ?_; (first | (refine q_k (h0c rfl) ?_))) <;> (try refine h0a ?_; (first | (refine q_k (h0d rfl) ?_))) <;> (try refine h0a ?_; (first | (refine q_k (h0d rfl) ?_))) <;> (try refine h0b ?_)) | (refine gR 12 ?_ <;> (try refine h0a ?_; (first | (refine q_k (by first | (exact q_f h4h) | (exact q_g h4h)) ?_))) <;> (try refine h0a ?_; (first | (refine q_k (by apply h0l (t := 53); exact rfl; (focus (repeat (first | exact fd0 | (with_reducible assumption) | apply fdA | apply fdS))); kernel_rfl; kernel_rfl; exact h2a) ?_))) <;> (try refine h0a ?_; (first | (refine q_k (h0c rfl) ?_))) <;> (try refine h0a ?_; (first | (refine q_k (h0d rfl) ?_))) <;> (try refine h0a ?_; (first | (refine q_k (h0d rfl) ?_))) <;> (try refine h0b ?_)) | ((first | (refine h1w rfl (fun hc => ?_) (fun hc => ?_)) | (refine h2e rfl (fun hc => ?_) (fun hc => ?_)) | (refine h3i rfl (fun hc => ?_) (fun hc => ?_))) <;> (try subst hc)))
    refine h2u (_, k + 1) ⟨hnx'.out, by show _ - (k + 1) < _ - k; omega⟩ (by (focus (repeat (first | exact Sub.nil | refine Sub.cons rfl ?_ | (refine Sub.cons (congrArg some ?_) ?_; (focus go_num)))))) (fun _ H => H)
  · have hE : m.en = true ∨ (l.length : Int) ≤ m.pos := by
      cases he : m.en with
      | true => exact .inl rfl
      | false =>
        refine .inr ?_
        rcases Int.lt_or_le m.pos l.length with h | h
        · exact absurd ⟨he, by omega⟩ hgo
        · exact h
    have hq := hI.end_ hE
    have hrun : runF l r = (if m.en then m.act else 2147483648, k) := by rw [runF, hq]
    have hrun' := Lib.hid hrun
    have e1 : IntKind.i64.wrap (a + 1) = a + 1 := IntWalk.i64_in _ (by omega)
    have e2 : IntKind.i64.wrap (b + (k : Nat)) = b + (k : Nat) := IntWalk.i64_in _ (by have := h2; omega)
    have ha1 := fun (L : List Blk) => aadd_c (S := S) (w0 := w0) (L := L) n 1 116 [.slice (some ⟨g, 0, none⟩) l.length cap, .int .i64 a, .int .i64 b] a 1 rfl
    have ha2 := fun (L : List Blk) => aadd_c (S := S) (w0 := w0) (L := L) n 2 116 [.slice (some ⟨g, 0, none⟩) l.length cap, .int .i64 (a + 1), .int .i64 b] b (k : Nat) rfl
    simp only [e1, List.set_cons_succ, List.set_cons_zero] at ha1
    simp only [e2, List.set_cons_succ, List.set_cons_zero] at ha2
    have hE' := Lib.hid hE
    clear hrun hq hI hgo e1 e2 hE
    cases he : m.en with
    | true =>
      rw [he] at g29
      repeat' (first | refine h1k ?_ | refine h0b ?_ | refine h0k ?_ | refine h1g ?_ | refine h1y ?_ | refine h2o ?_ | refine h1m ?_ | refine h1n ?_ | refine h0y ?_ | refine h1u ?_ | refine h1t ?_ | refine h2r rfl ?_ | refine h0q ?_ | refine h1j ?_ | refine h2p ?_ | refine h2v ?_ | refine h0o rfl ?_ | refine h0n rfl ?_ | (refine gR 0 ?_ <;> (try refine h0a ?_; (first | (refine h3e (t := 26) rfl rfl ?_; intro nb hnb; (try simp only [Value.cells])))) <;> (try refine h0a ?_; (first | (refine q_k (h0d rfl) ?_))) <;> (try refine h0a ?_; (first | (refine q_k (h0d rfl) ?_))) <;> (try refine h0b ?_)) | (refine gR 1 ?_ <;> (try refine h0a ?_; (first | (refine q_k (h0c rfl) ?_))) <;> (try refine h0a ?_; (first | (refine q_k (by exact q_b (r := by first | exact rb_peq_sn Try.underlying36 | exact rb_peq_nn Try.underlying36 | exact rb_peq_ns Try.underlying36)) ?_))) <;> (try refine h0b ?_)) | (refine gR 2 ?_ <;> (try refine h0a ?_; (first | (refine q_k (h0d rfl) ?_))) <;> (try refine h0a ?_; (first | (refine q_k (h0d rfl) ?_))) <;> (try refine h0b ?_)) | (refine gR 3 ?_ <;> (try refine h0a ?_; (first | (refine q_k (by apply h0x (t := 26); exact rfl; (focus (repeat (first | exact fd0 | (with_reducible assumption) | apply fdA | apply fdS))); kernel_rfl; kernel_rfl; exact sz_26; exact h2s; exact c_4) ?_))) <;> (try refine h0a ?_; (first | (refine q_k (by exact h1s (t := 138) (fun vs => (match vs with | [(_, x0)] => [Value.int .u32 0, Value.int .u32 0, Value.int .u32 0, Value.int .u32 0, Value.int .u32 0, Value.int .u32 0, Value.int .u32 0, Value.int .u32 0, Value.int .u32 0, Value.int .u32 0, Value.int .u32 0, Value.int .u32 0, Value.int .u32 0, Value.int .u32 0, Value.int .u32 0, Value.int .u32 0, Value.int .u32 0, Value.int .u32 0, Value.int .i64 0] ++ (x0.cells.toList ++ [Value.int .u32 0, Value.bool false]) | _ => [])) rfl (fun w => by kernel_rfl)) ?_; (try simp only [Value.cells]); (try simp only [zzC, zzN])))) <;> (try refine h0a ?_; (first | (refine h0u (t := 138) rfl Try.zeroValue138 ?_; intro nb hnb; (try simp only [Value.cells])))) <;> (try refine h0a ?_; (first | (first | (apply h1a (t := 138); exact rfl; exact rfl; (focus (repeat (first | exact fd0 | (with_reducible assumption) | apply fdA | apply fdS))); kernel_rfl; exact h5m; (focus (first | (with_reducible assumption) | exact rfl | (simp; done) | (simp [h0z, h0s, h1c, h1d, h1v, h1e, *]; done))); (try simp only [List.set_cons_succ]); (try simp only [List.set_cons_zero])) | (apply h1f (t := 138); exact rfl; exact rfl; (focus (repeat (first | exact fd0 | (with_reducible assumption) | apply fdA | apply fdS))); exact sz_138; exact h2a; (focus (first | (with_reducible assumption) | (focus (first | (with_reducible assumption) | exact rfl | (simp; done) | (simp [h0z, h0s, h1c, h1d, h1v, h1e, *]; done))))); exact h2s; (try simp only [List.set_cons_succ]); (try simp only [List.set_cons_zero]))))) <;> (try refine h0b ?_)) | (refine gR 4 ?_ <;> (try refine h0a ?_; (first | (refine q_k (h0d rfl) ?_))) <;> (try refine h0b ?_)) | ((refine h2g (id := 5) (m := 13) (by kernel_rfl) rfl ?_) <;> (try first | (refine q_t 0 (e := h1h) (x := by first | (first | (exact q_f h3p) | (exact q_g h3p))) (h := ?_)) | (refine h0h ?_)) <;> (try first | (refine q_t 1 (e := h1h) (x := by first | (apply h0l (t := 4); exact rfl; (focus (repeat (first | exact fd0 | (with_reducible assumption) | apply fdA | apply fdS))); kernel_rfl; kernel_rfl; exact h2a)) (h := ?_)) | (refine h0h ?_)) <;> (try first | (refine q_t 2 (e := h1h) (x := by first | (apply E_un; exact rfl; (focus (first | exact h4b | exact h4i | exact h5f | exact ru_not)))) (h := ?_)) | (refine h0h ?_)) <;> (try first | (refine q_t 3 (e := h1h) (x := by first | exact h0c rfl) (h := ?_)) | (refine h0h ?_)) <;> (try first | (first | (first | (apply h0v (i := 4); exact rfl; kernel_rfl; kernel_rfl; kernel_rfl; exact rfl; exact h1h; exact h4r rfl rfl rfl) | (apply h0v (i := 4); exact rfl; kernel_rfl; kernel_rfl; kernel_rfl; exact rfl; exact h1h; exact h3f rfl rfl) | (refine q_T 4 (e := h1h) (x := by first | (first | (exact q_f h2h) | (exact q_g h2h))) (h := ?_))) | ((first | (refine h2c (dj := 15) rfl (fun hc => ?_) (fun hc => ?_)) | (refine h2m (dj := 15) rfl (fun hc => ?_) (fun hc => ?_)) | (refine h3b (dj := 15) rfl (fun hc => ?_) (fun hc => ?_))) <;> (try subst hc) <;> (first | (apply h0v (i := 4); exact rfl; kernel_rfl; kernel_rfl; kernel_rfl; exact rfl; exact h1h; exact h4r rfl rfl rfl) | (apply h0v (i := 4); exact rfl; kernel_rfl; kernel_rfl; kernel_rfl; exact rfl; exact h1h; exact h3f rfl rfl) | (refine q_T 4 (e := h1h) (x := by first | (first | (exact q_f h2h) | (exact q_g h2h))) (h := ?_))))) | (refine h0h ?_)) <;> (try first | (first | (first | (apply h0v (i := 5); exact rfl; kernel_rfl; kernel_rfl; kernel_rfl; exact rfl; exact h1h; exact h4r rfl rfl rfl) | (apply h0v (i := 5); exact rfl; kernel_rfl; kernel_rfl; kernel_rfl; exact rfl; exact h1h; exact h3f rfl rfl) | (refine q_T 5 (e := h1h) (x := by first | (apply h0l (t := 3); exact rfl; (focus (repeat (first | exact fd0 | (with_reducible assumption) | apply fdA | apply fdS))); kernel_rfl; kernel_rfl; exact h2a)) (h := ?_))) | ((first | (refine h2c (dj := 15) rfl (fun hc => ?_) (fun hc => ?_)) | (refine h2m (dj := 15) rfl (fun hc => ?_) (fun hc => ?_)) | (refine h3b (dj := 15) rfl (fun hc => ?_) (fun hc => ?_))) <;> (try subst hc) <;> (first | (apply h0v (i := 5); exact rfl; kernel_rfl; kernel_rfl; kernel_rfl; exact rfl; exact h1h; exact h4r rfl rfl rfl) | (apply h0v (i := 5); exact rfl; kernel_rfl; kernel_rfl; kernel_rfl; exact rfl; exact h1h; exact h3f rfl rfl) | (refine q_T 5 (e := h1h) (x := by first | (apply h0l (t := 3); exact rfl; (focus (repeat (first | exact fd0 | (with_reducible assumption) | apply fdA | apply fdS))); kernel_rfl; kernel_rfl; exact h2a)) (h := ?_))))) | (refine h0h ?_)) <;> (try first | (first | (first | (apply h0v (i := 6); exact rfl; kernel_rfl; kernel_rfl; kernel_rfl; exact rfl; exact h1h; exact h4r rfl rfl rfl) | (apply h0v (i := 6); exact rfl; kernel_rfl; kernel_rfl; kernel_rfl; exact rfl; exact h1h; exact h3f rfl rfl) | (refine q_T 6 (e := h1h) (x := by first | exact h0c rfl) (h := ?_))) | ((first | (refine h2c (dj := 15) rfl (fun hc => ?_) (fun hc => ?_)) | (refine h2m (dj := 15) rfl (fun hc => ?_) (fun hc => ?_)) | (refine h3b (dj := 15) rfl (fun hc => ?_) (fun hc => ?_))) <;> (try subst hc) <;> (first | (apply h0v (i := 6); exact rfl; kernel_rfl; kernel_rfl; kernel_rfl; exact rfl; exact h1h; exact h4r rfl rfl rfl) | (apply h0v (i := 6); exact rfl; kernel_rfl; kernel_rfl; kernel_rfl; exact rfl; exact h1h; exact h3f rfl rfl) | (refine q_T 6 (e := h1h) (x := by first | exact h0c rfl) (h := ?_))))) | (refine h0h ?_)) <;> (try first | (first | (first | (apply h0v (i := 7); exact rfl; kernel_rfl; kernel_rfl; kernel_rfl; exact rfl; exact h1h; exact h4r rfl rfl rfl) | (apply h0v (i := 7); exact rfl; kernel_rfl; kernel_rfl; kernel_rfl; exact rfl; exact h1h; exact h3f rfl rfl) | (refine q_T 7 (e := h1h) (x := by first | exact h0j rfl) (h := ?_))) | ((first | (refine h2c (dj := 15) rfl (fun hc => ?_) (fun hc => ?_)) | (refine h2m (dj := 15) rfl (fun hc => ?_) (fun hc => ?_)) | (refine h3b (dj := 15) rfl (fun hc => ?_) (fun hc => ?_))) <;> (try subst hc) <;> (first | (apply h0v (i := 7); exact rfl; kernel_rfl; kernel_rfl; kernel_rfl; exact rfl; exact h1h; exact h4r rfl rfl rfl) | (apply h0v (i := 7); exact rfl; kernel_rfl; kernel_rfl; kernel_rfl; exact rfl; exact h1h; exact h3f rfl rfl) | (refine q_T 7 (e := h1h) (x := by first | exact h0j rfl) (h := ?_))))) | (refine h0h ?_)) <;> (try first | (first | (first | (apply h0v (i := 8); exact rfl; kernel_rfl; kernel_rfl; kernel_rfl; exact rfl; exact h1h; exact h4r rfl rfl rfl) | (apply h0v (i := 8); exact rfl; kernel_rfl; kernel_rfl; kernel_rfl; exact rfl; exact h1h; exact h3f rfl rfl) | (refine q_T 8 (e := h1h) (x := by first | (first | (exact q_f h3n) | (exact q_g h3n))) (h := ?_))) | ((first | (refine h2c (dj := 15) rfl (fun hc => ?_) (fun hc => ?_)) | (refine h2m (dj := 15) rfl (fun hc => ?_) (fun hc => ?_)) | (refine h3b (dj := 15) rfl (fun hc => ?_) (fun hc => ?_))) <;> (try subst hc) <;> (first | (apply h0v (i := 8); exact rfl; kernel_rfl; kernel_rfl; kernel_rfl; exact rfl; exact h1h; exact h4r rfl rfl rfl) | (apply h0v (i := 8); exact rfl; kernel_rfl; kernel_rfl; kernel_rfl; exact rfl; exact h1h; exact h3f rfl rfl) | (refine q_T 8 (e := h1h) (x := by first | (first | (exact q_f h3n) | (exact q_g h3n))) (h := ?_))))) | (refine h0h ?_)) <;> (try first | (first | (first | (apply h0v (i := 9); exact rfl; kernel_rfl; kernel_rfl; kernel_rfl; exact rfl; exact h1h; exact h4r rfl rfl rfl) | (apply h0v (i := 9); exact rfl; kernel_rfl; kernel_rfl; kernel_rfl; exact rfl; exact h1h; exact h3f rfl rfl) | (refine q_T 9 (e := h1h) (x := by first | (apply h0l (t := 45); exact rfl; (focus (repeat (first | exact fd0 | (with_reducible assumption) | apply fdA | apply fdS))); kernel_rfl; kernel_rfl; exact h2a)) (h := ?_))) | ((first | (refine h2c (dj := 15) rfl (fun hc => ?_) (fun hc => ?_)) | (refine h2m (dj := 15) rfl (fun hc => ?_) (fun hc => ?_)) | (refine h3b (dj := 15) rfl (fun hc => ?_) (fun hc => ?_))) <;> (try subst hc) <;> (first | (apply h0v (i := 9); exact rfl; kernel_rfl; kernel_rfl; kernel_rfl; exact rfl; exact h1h; exact h4r rfl rfl rfl) | (apply h0v (i := 9); exact rfl; kernel_rfl; kernel_rfl; kernel_rfl; exact rfl; exact h1h; exact h3f rfl rfl) | (refine q_T 9 (e := h1h) (x := by first | (apply h0l (t := 45); exact rfl; (focus (repeat (first | exact fd0 | (with_reducible assumption) | apply fdA | apply fdS))); kernel_rfl; kernel_rfl; exact h2a)) (h := ?_))))) | (refine h0h ?_)) <;> (try first | (first | (first | (apply h0v (i := 10); exact rfl; kernel_rfl; kernel_rfl; kernel_rfl; exact rfl; exact h1h; exact h4r rfl rfl rfl) | (apply h0v (i := 10); exact rfl; kernel_rfl; kernel_rfl; kernel_rfl; exact rfl; exact h1h; exact h3f rfl rfl) | (refine q_T 10 (e := h1h) (x := by first | (apply h0m; exact rfl; exact (fun _ => BigFrame.builtin_len ..); apply h0i Try.underlying45; exact h4a)) (h := ?_))) | ((first | (refine h2c (dj := 15) rfl (fun hc => ?_) (fun hc => ?_)) | (refine h2m (dj := 15) rfl (fun hc => ?_) (fun hc => ?_)) | (refine h3b (dj := 15) rfl (fun hc => ?_) (fun hc => ?_))) <;> (try subst hc) <;> (first | (apply h0v (i := 10); exact rfl; kernel_rfl; kernel_rfl; kernel_rfl; exact rfl; exact h1h; exact h4r rfl rfl rfl) | (apply h0v (i := 10); exact rfl; kernel_rfl; kernel_rfl; kernel_rfl; exact rfl; exact h1h; exact h3f rfl rfl) | (refine q_T 10 (e := h1h) (x := by first | (apply h0m; exact rfl; exact (fun _ => BigFrame.builtin_len ..); apply h0i Try.underlying45; exact h4a)) (h := ?_))))) | (refine h0h ?_)) <;> (try first | (first | (first | (apply h0v (i := 11); exact rfl; kernel_rfl; kernel_rfl; kernel_rfl; exact rfl; exact h1h; exact h4r rfl rfl rfl) | (apply h0v (i := 11); exact rfl; kernel_rfl; kernel_rfl; kernel_rfl; exact rfl; exact h1h; exact h3f rfl rfl) | (refine q_T 11 (e := h1h) (x := by first | (exact q_b (r := by first | (exact h0t q_o) | (exact h1q q_o) | exact h3h))) (h := ?_))) | ((first | (refine h2c (dj := 15) rfl (fun hc => ?_) (fun hc => ?_)) | (refine h2m (dj := 15) rfl (fun hc => ?_) (fun hc => ?_)) | (refine h3b (dj := 15) rfl (fun hc => ?_) (fun hc => ?_))) <;> (try subst hc) <;> (first | (apply h0v (i := 11); exact rfl; kernel_rfl; kernel_rfl; kernel_rfl; exact rfl; exact h1h; exact h4r rfl rfl rfl) | (apply h0v (i := 11); exact rfl; kernel_rfl; kernel_rfl; kernel_rfl; exact rfl; exact h1h; exact h3f rfl rfl) | (refine q_T 11 (e := h1h) (x := by first | (exact q_b (r := by first | (exact h0t q_o) | (exact h1q q_o) | exact h3h))) (h := ?_))))) | (refine h0h ?_)) <;> (try first | (refine q_t 12 (e := h1h) (x := by first | exact h5l rfl rfl) (h := ?_)) | (refine h0h ?_)) <;> (try refine h2d (by kernel_rfl) ?_)) | ((refine h2g (id := 6) (m := 9) (by kernel_rfl) rfl ?_) <;> (try first | (refine q_t 0 (e := h1h) (x := by first | exact h0c rfl) (h := ?_)) | (refine h0h ?_)) <;> (try first | (refine q_t 1 (e := h1h) (x := by first | exact h0j rfl) (h := ?_)) | (refine h0h ?_)) <;> (try first | (refine q_t 2 (e := h1h) (x := by first | (first | (exact q_f h3n) | (exact q_g h3n))) (h := ?_)) | (refine h0h ?_)) <;> (try first | (refine q_t 3 (e := h1h) (x := by first | (apply h0l (t := 45); exact rfl; (focus (repeat (first | exact fd0 | (with_reducible assumption) | apply fdA | apply fdS))); kernel_rfl; kernel_rfl; exact h2a)) (h := ?_)) | (refine h0h ?_)) <;> (try first | (refine q_t 4 (e := h1h) (x := by first | (first | (exact q_f h2h) | (exact q_g h2h))) (h := ?_)) | (refine h0h ?_)) <;> (try first | (refine q_t 5 (e := h1h) (x := by first | (apply h0l (t := 3); exact rfl; (focus (repeat (first | exact fd0 | (with_reducible assumption) | apply fdA | apply fdS))); kernel_rfl; kernel_rfl; exact h2a)) (h := ?_)) | (refine h0h ?_)) <;> (try first | (refine q_t 6 (e := h1h) (x := by first | (apply h0f; exact rfl; exact rfl; (focus (apply h1z Try.underlying45 h2n; (omega); (omega); exact c_2)))) (h := ?_)) | (refine h0h ?_)) <;> (try first | (refine q_t 7 (e := h1h) (x := by first | (apply h0x (t := 43); exact rfl; (focus (repeat (first | exact fd0 | (with_reducible assumption) | apply fdA | apply fdS))); kernel_rfl; kernel_rfl; exact h2n; exact h2s; exact c_4)) (h := ?_)) | (refine h0h ?_)) <;> (try first | (refine q_r 8 ?_; (first | fail); refine h2y h1h ?_) | (refine h0h ?_)) <;> (try refine h2d (by kernel_rfl) ?_)) | (refine gR 7 ?_ <;> (try refine h0a ?_; (first | (refine q_k (h0c rfl) ?_))) <;> (try refine h0a ?_; (first | (refine q_k (by exact q_b (r := by apply h0w; exact c_9; (focus (first | (refine IntWalk.i64_in _ ?_; omega) | (refine IntWalk.u8_in _ ?_; omega) | (refine IntWalk.u16_in _ ?_; omega) | (refine IntWalk.u32_in _ ?_; omega) | (refine IntWalk.u64_in _ ?_; omega) | (refine IntWalk.i32_in _ ?_; omega) | exact rfl)))) ?_))) <;> (try refine h0a ?_; (first | (refine q_k (h0d rfl) ?_))) <;> (try refine h0b ?_)) | (refine gR 8 ?_ <;> (try refine h0a ?_; (first | (refine q_k (h0c rfl) ?_))) <;> (try refine h0a ?_; (first | (refine q_k (h0j rfl) ?_))) <;> (try refine h0a ?_; (first | (refine q_k (by first | (exact q_f fo_116_1) | (exact q_g fo_116_1)) ?_))) <;> (try refine h0a ?_; (first | (first | (refine h1i (F := 45) (by kernel_rfl) rfl rfl ((ha1 _).swp) ?_; rintro _ _ ⟨rfl, rfl⟩) | (refine h1i (F := 45) (by kernel_rfl) rfl rfl ((ha2 _).swp) ?_; rintro _ _ ⟨rfl, rfl⟩)))) <;> (try refine h0b ?_)) | (refine gR 9 ?_ <;> (try refine h0a ?_; (first | (refine q_k (h0c rfl) ?_))) <;> (try refine h0a ?_; (first | (refine q_k (h0j rfl) ?_))) <;> (try refine h0a ?_; (first | (refine q_k (by first | (exact q_f fo_116_2) | (exact q_g fo_116_2)) ?_))) <;> (try refine h0a ?_; (first | (refine q_k (h0c rfl) ?_))) <;> (try refine h0a ?_; (first | (first | (refine h1i (F := 45) (by kernel_rfl) rfl rfl ((ha1 _).swp) ?_; rintro _ _ ⟨rfl, rfl⟩) | (refine h1i (F := 45) (by kernel_rfl) rfl rfl ((ha2 _).swp) ?_; rintro _ _ ⟨rfl, rfl⟩)))) <;> (try refine h0b ?_)) | (refine gR 10 ?_ <;> (try refine h0a ?_; (first | (refine q_k (by first | (exact q_f h3p) | (exact q_g h3p)) ?_))) <;> (try refine h0a ?_; (first | (refine q_k (by apply h0l (t := 4); exact rfl; (focus (repeat (first | exact fd0 | (with_reducible assumption) | apply fdA | apply fdS))); kernel_rfl; kernel_rfl; exact h2a) ?_))) <;> (try refine h0a ?_; (first | (refine q_k (by apply E_un; exact rfl; (focus (first | exact h4b | exact h4i | exact h5f | exact ru_not))) ?_))) <;> (try refine h0b ?_)) | (refine gR 11 ?_ <;> (try refine h0a ?_; (first | (refine q_k (h0c rfl) ?_))) <;> (try refine h0a ?_; (first | (refine q_k (h0d rfl) ?_))) <;> (try refine h0a ?_; (first | (refine q_k (h0d rfl) ?_))) <;> (try refine h0b ?_)) | (refine gR 12 ?_ <;> (try refine h0a ?_; (first | (refine q_k (by first | (exact q_f h4h) | (exact q_g h4h)) ?_))) <;> (try refine h0a ?_; (first | (refine q_k (by apply h0l (t := 53); exact rfl; (focus (repeat (first | exact fd0 | (with_reducible assumption) | apply fdA | apply fdS))); kernel_rfl; kernel_rfl; exact h2a) ?_))) <;> (try refine h0a ?_; (first | (refine q_k (h0c rfl) ?_))) <;> (try refine h0a ?_; (first | (refine q_k (h0d rfl) ?_))) <;> (try refine h0a ?_; (first | (refine q_k (h0d rfl) ?_))) <;> (try refine h0b ?_)) | ((first | (refine h1w rfl (fun hc => ?_) (fun hc => ?_)) | (refine h2e rfl (fun hc => ?_) (fun hc => ?_)) | (refine h3i rfl (fun hc => ?_) (fun hc => ?_))) <;> (try subst hc)))
      (refine h2k Try.results26 (.tmp rfl (.tmp rfl .nil)) ?_)
      have hr2 : (runF l r).2 = k := by rw [hrun'.out]
      refine ⟨_, ⟨?_, rfl⟩, ?_⟩
      · rw [hrun'.out, he]; rfl
      · rw [hr2]; exact fun _ H => H.tail
    | false =>
      rw [he] at g29
      have hp2 : (l.length : Int) ≤ m.pos := by rcases hE'.out with h | h; · simp [he] at h
                                                · exact h
      repeat' (first | refine h1k ?_ | refine h0b ?_ | refine h0k ?_ | refine h1g ?_ | refine h1y ?_ | refine h2o ?_ | refine h1m ?_ | refine h1n ?_ | refine h0y ?_ | refine h1u ?_ | refine h1t ?_ | refine h2r rfl ?_ | refine h0q ?_ | refine h1j ?_ | refine h2p ?_ | refine h2v ?_ | refine h0o rfl ?_ | refine h0n rfl ?_ | (refine gR 0 ?_ <;> (try refine h0a ?_; (first | (refine h3e (t := 26) rfl rfl ?_; intro nb hnb; (try simp only [Value.cells])))) <;> (try refine h0a ?_; (first | (refine q_k (h0d rfl) ?_))) <;> (try refine h0a ?_; (first | (refine q_k (h0d rfl) ?_))) <;> (try refine h0b ?_)) | (refine gR 1 ?_ <;> (try refine h0a ?_; (first | (refine q_k (h0c rfl) ?_))) <;> (try refine h0a ?_; (first | (refine q_k (by exact q_b (r := by first | exact rb_peq_sn Try.underlying36 | exact rb_peq_nn Try.underlying36 | exact rb_peq_ns Try.underlying36)) ?_))) <;> (try refine h0b ?_)) | (refine gR 2 ?_ <;> (try refine h0a ?_; (first | (refine q_k (h0d rfl) ?_))) <;> (try refine h0a ?_; (first | (refine q_k (h0d rfl) ?_))) <;> (try refine h0b ?_)) | (refine gR 3 ?_ <;> (try refine h0a ?_; (first | (refine q_k (by apply h0x (t := 26); exact rfl; (focus (repeat (first | exact fd0 | (with_reducible assumption) | apply fdA | apply fdS))); kernel_rfl; kernel_rfl; exact sz_26; exact h2s; exact c_4) ?_))) <;> (try refine h0a ?_; (first | (refine q_k (by exact h1s (t := 138) (fun vs => (match vs with | [(_, x0)] => [Value.int .u32 0, Value.int .u32 0, Value.int .u32 0, Value.int .u32 0, Value.int .u32 0, Value.int .u32 0, Value.int .u32 0, Value.int .u32 0, Value.int .u32 0, Value.int .u32 0, Value.int .u32 0, Value.int .u32 0, Value.int .u32 0, Value.int .u32 0, Value.int .u32 0, Value.int .u32 0, Value.int .u32 0, Value.int .u32 0, Value.int .i64 0] ++ (x0.cells.toList ++ [Value.int .u32 0, Value.bool false]) | _ => [])) rfl (fun w => by kernel_rfl)) ?_; (try simp only [Value.cells]); (try simp only [zzC, zzN])))) <;> (try refine h0a ?_; (first | (refine h0u (t := 138) rfl Try.zeroValue138 ?_; intro nb hnb; (try simp only [Value.cells])))) <;> (try refine h0a ?_; (first | (first | (apply h1a (t := 138); exact rfl; exact rfl; (focus (repeat (first | exact fd0 | (with_reducible assumption) | apply fdA | apply fdS))); kernel_rfl; exact h5m; (focus (first | (with_reducible assumption) | exact rfl | (simp; done) | (simp [h0z, h0s, h1c, h1d, h1v, h1e, *]; done))); (try simp only [List.set_cons_succ]); (try simp only [List.set_cons_zero])) | (apply h1f (t := 138); exact rfl; exact rfl; (focus (repeat (first | exact fd0 | (with_reducible assumption) | apply fdA | apply fdS))); exact sz_138; exact h2a; (focus (first | (with_reducible assumption) | (focus (first | (with_reducible assumption) | exact rfl | (simp; done) | (simp [h0z, h0s, h1c, h1d, h1v, h1e, *]; done))))); exact h2s; (try simp only [List.set_cons_succ]); (try simp only [List.set_cons_zero]))))) <;> (try refine h0b ?_)) | (refine gR 4 ?_ <;> (try refine h0a ?_; (first | (refine q_k (h0d rfl) ?_))) <;> (try refine h0b ?_)) | ((refine h2g (id := 5) (m := 13) (by kernel_rfl) rfl ?_) <;> (try first | (refine q_t 0 (e := h1h) (x := by first | (first | (exact q_f h3p) | (exact q_g h3p))) (h := ?_)) | (refine h0h ?_)) <;> (try first | (refine q_t 1 (e := h1h) (x := by first | (apply h0l (t := 4); exact rfl; (focus (repeat (first | exact fd0 | (with_reducible assumption) | apply fdA | apply fdS))); kernel_rfl; kernel_rfl; exact h2a)) (h := ?_)) | (refine h0h ?_)) <;> (try first | (refine q_t 2 (e := h1h) (x := by first | (apply E_un; exact rfl; (focus (first | exact h4b | exact h4i | exact h5f | exact ru_not)))) (h := ?_)) | (refine h0h ?_)) <;> (try first | (refine q_t 3 (e := h1h) (x := by first | exact h0c rfl) (h := ?_)) | (refine h0h ?_)) <;> (try first | (first | (first | (apply h0v (i := 4); exact rfl; kernel_rfl; kernel_rfl; kernel_rfl; exact rfl; exact h1h; exact h4r rfl rfl rfl) | (apply h0v (i := 4); exact rfl; kernel_rfl; kernel_rfl; kernel_rfl; exact rfl; exact h1h; exact h3f rfl rfl) | (refine q_T 4 (e := h1h) (x := by first | (first | (exact q_f h2h) | (exact q_g h2h))) (h := ?_))) | ((first | (refine h2c (dj := 15) rfl (fun hc => ?_) (fun hc => ?_)) | (refine h2m (dj := 15) rfl (fun hc => ?_) (fun hc => ?_)) | (refine h3b (dj := 15) rfl (fun hc => ?_) (fun hc => ?_))) <;> (try subst hc) <;> (first | (apply h0v (i := 4); exact rfl; kernel_rfl; kernel_rfl; kernel_rfl; exact rfl; exact h1h; exact h4r rfl rfl rfl) | (apply h0v (i := 4); exact rfl; kernel_rfl; kernel_rfl; kernel_rfl; exact rfl; exact h1h; exact h3f rfl rfl) | (refine q_T 4 (e := h1h) (x := by first | (first | (exact q_f h2h) | (exact q_g h2h))) (h := ?_))))) | (refine h0h ?_)) <;> (try first | (first | (first | (apply h0v (i := 5); exact rfl; kernel_rfl; kernel_rfl; kernel_rfl; exact rfl; exact h1h; exact h4r rfl rfl rfl) | (apply h0v (i := 5); exact rfl; kernel_rfl; kernel_rfl; kernel_rfl; exact rfl; exact h1h; exact h3f rfl rfl) | (refine q_T 5 (e := h1h) (x := by first | (apply h0l (t := 3); exact rfl; (focus (repeat (first | exact fd0 | (with_reducible assumption) | apply fdA | apply fdS))); kernel_rfl; kernel_rfl; exact h2a)) (h := ?_))) | ((first | (refine h2c (dj := 15) rfl (fun hc => ?_) (fun hc => ?_)) | (refine h2m (dj := 15) rfl (fun hc => ?_) (fun hc => ?_)) | (refine h3b (dj := 15) rfl (fun hc => ?_) (fun hc => ?_))) <;> (try subst hc) <;> (first | (apply h0v (i := 5); exact rfl; kernel_rfl; kernel_rfl; kernel_rfl; exact rfl; exact h1h; exact h4r rfl rfl rfl) | (apply h0v (i := 5); exact rfl; kernel_rfl; kernel_rfl; kernel_rfl; exact rfl; exact h1h; exact h3f rfl rfl) | (refine q_T 5 (e := h1h) (x := by first | (apply h0l (t := 3); exact rfl; (focus (repeat (first | exact fd0 | (with_reducible assumption) | apply fdA | apply fdS))); kernel_rfl; kernel_rfl; exact h2a)) (h := ?_))))) | (refine h0h ?_)) <;> (try first | (first | (first | (apply h0v (i := 6); exact rfl; kernel_rfl; kernel_rfl; kernel_rfl; exact rfl; exact h1h; exact h4r rfl rfl rfl) | (apply h0v (i := 6); exact rfl; kernel_rfl; kernel_rfl; kernel_rfl; exact rfl; exact h1h; exact h3f rfl rfl) | (refine q_T 6 (e := h1h) (x := by first | exact h0c rfl) (h := ?_))) | ((first | (refine h2c (dj := 15) rfl (fun hc => ?_) (fun hc => ?_)) | (refine h2m (dj := 15) rfl (fun hc => ?_) (fun hc => ?_)) | (refine h3b (dj := 15) rfl (fun hc => ?_) (fun hc => ?_))) <;> (try subst hc) <;> (first | (apply h0v (i := 6); exact rfl; kernel_rfl; kernel_rfl; kernel_rfl; exact rfl; exact h1h; exact h4r rfl rfl rfl) | (apply h0v (i := 6); exact rfl; kernel_rfl; kernel_rfl; kernel_rfl; exact rfl; exact h1h; exact h3f rfl rfl) | (refine q_T 6 (e := h1h) (x := by first | exact h0c rfl) (h := ?_))))) | (refine h0h ?_)) <;> (try first | (first | (first | (apply h0v (i := 7); exact rfl; kernel_rfl; kernel_rfl; kernel_rfl; exact rfl; exact h1h; exact h4r rfl rfl rfl) | (apply h0v (i := 7); exact rfl; kernel_rfl; kernel_rfl; kernel_rfl; exact rfl; exact h1h; exact h3f rfl rfl) | (refine q_T 7 (e := h1h) (x := by first | exact h0j rfl) (h := ?_))) | ((first | (refine h2c (dj := 15) rfl (fun hc => ?_) (fun hc => ?_)) | (refine h2m (dj := 15) rfl (fun hc => ?_) (fun hc => ?_)) | (refine h3b (dj := 15) rfl (fun hc => ?_) (fun hc => ?_))) <;> (try subst hc) <;> (first | (apply h0v (i := 7); exact rfl; kernel_rfl; kernel_rfl; kernel_rfl; exact rfl; exact h1h; exact h4r rfl rfl rfl) | (apply h0v (i := 7); exact rfl; kernel_rfl; kernel_rfl; kernel_rfl; exact rfl; exact h1h; exact h3f rfl rfl) | (refine q_T 7 (e := h1h) (x := by first | exact h0j rfl) (h := ?_))))) | (refine h0h ?_)) <;> (try first | (first | (first | (apply h0v (i := 8); exact rfl; kernel_rfl; kernel_rfl; kernel_rfl; exact rfl; exact h1h; exact h4r rfl rfl rfl) | (apply h0v (i := 8); exact rfl; kernel_rfl; kernel_rfl; kernel_rfl; exact rfl; exact h1h; exact h3f rfl rfl) | (refine q_T 8 (e := h1h) (x := by first | (first | (exact q_f h3n) | (exact q_g h3n))) (h := ?_))) | ((first | (refine h2c (dj := 15) rfl (fun hc => ?_) (fun hc => ?_)) | (refine h2m (dj := 15) rfl (fun hc => ?_) (fun hc => ?_)) | (refine h3b (dj := 15) rfl (fun hc => ?_) (fun hc => ?_))) <;> (try subst hc) <;> (first | (apply h0v (i := 8); exact rfl; kernel_rfl; kernel_rfl; kernel_rfl; exact rfl; exact h1h; exact h4r rfl rfl rfl) | (apply h0v (i := 8); exact rfl; kernel_rfl; kernel_rfl; kernel_rfl; exact rfl; exact h1h; exact h3f rfl rfl) | (refine q_T 8 (e := h1h) (x := by first | (first | (exact q_f h3n) | (exact q_g h3n))) (h := ?_))))) | (refine h0h ?_)) <;> (try first | (first | (first | (apply h0v (i := 9); exact rfl; kernel_rfl; kernel_rfl; kernel_rfl; exact rfl; exact h1h; exact h4r rfl rfl rfl) | (apply h0v (i := 9); exact rfl; kernel_rfl; kernel_rfl; kernel_rfl; exact rfl; exact h1h; exact h3f rfl rfl) | (refine q_T 9 (e := h1h) (x := by first | (apply h0l (t := 45); exact rfl; (focus (repeat (first | exact fd0 | (with_reducible assumption) | apply fdA | apply fdS))); kernel_rfl; kernel_rfl; exact h2a)) (h := ?_))) | ((first | (refine h2c (dj := 15) rfl (fun hc => ?_) (fun hc => ?_)) | (refine h2m (dj := 15) rfl (fun hc => ?_) (fun hc => ?_)) | (refine h3b (dj := 15) rfl (fun hc => ?_) (fun hc => ?_))) <;> (try subst hc) <;> (first | (apply h0v (i := 9); exact rfl; kernel_rfl; kernel_rfl; kernel_rfl; exact rfl; exact h1h; exact h4r rfl rfl rfl) | (apply h0v (i := 9); exact rfl; kernel_rfl; kernel_rfl; kernel_rfl; exact rfl; exact h1h; exact h3f rfl rfl) | (refine q_T 9 (e := h1h) (x := by first | (apply h0l (t := 45); exact rfl; (focus (repeat (first | exact fd0 | (with_reducible assumption) | apply fdA | apply fdS))); kernel_rfl; kernel_rfl; exact h2a)) (h := ?_))))) | (refine h0h ?_)) <;> (try first | (first | (first | (apply h0v (i := 10); exact rfl; kernel_rfl; kernel_rfl; kernel_rfl; exact rfl; exact h1h; exact h4r rfl rfl rfl) | (apply h0v (i := 10); exact rfl; kernel_rfl; kernel_rfl; kernel_rfl; exact rfl; exact h1h; exact h3f rfl rfl) | (refine q_T 10 (e := h1h) (x := by first | (apply h0m; exact rfl; exact (fun _ => BigFrame.builtin_len ..); apply h0i Try.underlying45; exact h4a)) (h := ?_))) | ((first | (refine h2c (dj := 15) rfl (fun hc => ?_) (fun hc => ?_)) | (refine h2m (dj := 15) rfl (fun hc => ?_) (fun hc => ?_)) | (refine h3b (dj := 15) rfl (fun hc => ?_) (fun hc => ?_))) <;> (try subst hc) <;> (first | (apply h0v (i := 10); exact rfl; kernel_rfl; kernel_rfl; kernel_rfl; exact rfl; exact h1h; exact h4r rfl rfl rfl) | (apply h0v (i := 10); exact rfl; kernel_rfl; kernel_rfl; kernel_rfl; exact rfl; exact h1h; exact h3f rfl rfl) | (refine q_T 10 (e := h1h) (x := by first | (apply h0m; exact rfl; exact (fun _ => BigFrame.builtin_len ..); apply h0i Try.underlying45; exact h4a)) (h := ?_))))) | (refine h0h ?_)) <;> (try first | (first | (first | (apply h0v (i := 11); exact rfl; kernel_rfl; kernel_rfl; kernel_rfl; exact rfl; exact h1h; exact h4r rfl rfl rfl) | (apply h0v (i := 11); exact rfl; kernel_rfl; kernel_rfl; kernel_rfl; exact rfl; exact h1h; exact h3f rfl rfl) | (refine q_T 11 (e := h1h) (x := by first | (exact q_b (r := by first | (exact h0t q_o) | (exact h1q q_o) | exact h3h))) (h := ?_))) | ((first | (refine h2c (dj := 15) rfl (fun hc => ?_) (fun hc => ?_)) | (refine h2m (dj := 15) rfl (fun hc => ?_) (fun hc => ?_)) | (refine h3b (dj := 15) rfl (fun hc => ?_) (fun hc => ?_))) <;> (try subst hc) <;> (first | (apply h0v (i := 11); exact rfl; kernel_rfl; kernel_rfl; kernel_rfl; exact rfl; exact h1h; exact h4r rfl rfl rfl) | (apply h0v (i := 11); exact rfl; kernel_rfl; kernel_rfl; kernel_rfl; exact rfl; exact h1h; exact h3f rfl rfl) | (refine q_T 11 (e := h1h) (x := by first | (exact q_b (r := by first | (exact h0t q_o) | (exact h1q q_o) | exact h3h))) (h := ?_))))) | (refine h0h ?_)) <;> (try first | (refine q_t 12 (e := h1h) (x := by first | exact h5l rfl rfl) (h := ?_)) | (refine h0h ?_)) <;> (try refine h2d (by kernel_rfl) ?_)) | ((refine h2g (id := 6) (m := 9) (by kernel_rfl) rfl ?_) <;> (try first | (refine q_t 0 (e := h1h) (x := by first | exact h0c rfl) (h := ?_)) | (refine h0h ?_)) <;> (try first | (refine q_t 1 (e := h1h) (x := by first | exact h0j rfl) (h := ?_)) | (refine h0h ?_)) <;> (try first | (refine q_t 2 (e := h1h) (x := by first | (first | (exact q_f h3n) | (exact q_g h3n))) (h := ?_)) | (refine h0h ?_)) <;> (try first | (refine q_t 3 (e := h1h) (x := by first | (apply h0l (t := 45); exact rfl; (focus (repeat (first | exact fd0 | (with_reducible assumption) | apply fdA | apply fdS))); kernel_rfl; kernel_rfl; exact h2a)) (h := ?_)) | (refine h0h ?_)) <;> (try first | (refine q_t 4 (e := h1h) (x := by first | (first | (exact q_f h2h) | (exact q_g h2h))) (h := ?_)) | (refine h0h ?_)) <;> (try first | (refine q_t 5 (e := h1h) (x := by first | (apply h0l (t := 3); exact rfl; (focus (repeat (first | exact fd0 | (with_reducible assumption) | apply fdA | apply fdS))); kernel_rfl; kernel_rfl; exact h2a)) (h := ?_)) | (refine h0h ?_)) <;> (try first | (refine q_t 6 (e := h1h) (x := by first | (apply h0f; exact rfl; exact rfl; (focus (apply h1z Try.underlying45 h2n; (omega); (omega); exact c_2)))) (h := ?_)) | (refine h0h ?_)) <;> (try first | (refine q_t 7 (e := h1h) (x := by first | (apply h0x (t := 43); exact rfl; (focus (repeat (first | exact fd0 | (with_reducible assumption) | apply fdA | apply fdS))); kernel_rfl; kernel_rfl; exact h2n; exact h2s; exact c_4)) (h := ?_)) | (refine h0h ?_)) <;> (try first | (refine q_r 8 ?_; (first | fail); refine h2y h1h ?_) | (refine h0h ?_)) <;> (try refine h2d (by kernel_rfl) ?_)) | (refine gR 7 ?_ <;> (try refine h0a ?_; (first | (refine q_k (h0c rfl) ?_))) <;> (try refine h0a ?_; (first | (refine q_k (by exact q_b (r := by apply h0w; exact c_9; (focus (first | (refine IntWalk.i64_in _ ?_; omega) | (refine IntWalk.u8_in _ ?_; omega) | (refine IntWalk.u16_in _ ?_; omega) | (refine IntWalk.u32_in _ ?_; omega) | (refine IntWalk.u64_in _ ?_; omega) | (refine IntWalk.i32_in _ ?_; omega) | exact rfl)))) ?_))) <;> (try refine h0a ?_; (first | (refine q_k (h0d rfl) ?_))) <;> (try refine h0b ?_)) | (refine gR 8 ?_ <;> (try refine h0a ?_; (first | (refine q_k (h0c rfl) ?_))) <;> (try refine h0a ?_; (first | (refine q_k (h0j rfl) ?_))) <;> (try refine h0a ?_; (first | (refine q_k (by first | (exact q_f fo_116_1) | (exact q_g fo_116_1)) ?_))) <;> (try refine h0a ?_; (first | (first | (refine h1i (F := 45) (by kernel_rfl) rfl rfl ((ha1 _).swp) ?_; rintro _ _ ⟨rfl, rfl⟩) | (refine h1i (F := 45) (by kernel_rfl) rfl rfl ((ha2 _).swp) ?_; rintro _ _ ⟨rfl, rfl⟩)))) <;> (try refine h0b ?_)) | (refine gR 9 ?_ <;> (try refine h0a ?_; (first | (refine q_k (h0c rfl) ?_))) <;> (try refine h0a ?_; (first | (refine q_k (h0j rfl) ?_))) <;> (try refine h0a ?_; (first | (refine q_k (by first | (exact q_f fo_116_2) | (exact q_g fo_116_2)) ?_))) <;> (try refine h0a ?_; (first | (refine q_k (h0c rfl) ?_))) <;> (try refine h0a ?_; (first | (first | (refine h1i (F := 45) (by kernel_rfl) rfl rfl ((ha1 _).swp) ?_; rintro _ _ ⟨rfl, rfl⟩) | (refine h1i (F := 45) (by kernel_rfl) rfl rfl ((ha2 _).swp) ?_; rintro _ _ ⟨rfl, rfl⟩)))) <;> (try refine h0b ?_)) | (refine gR 10 ?_ <;> (try refine h0a ?_; (first | (refine q_k (by first | (exact q_f h3p) | (exact q_g h3p)) ?_))) <;> (try refine h0a ?_; (first | (refine q_k (by apply h0l (t := 4); exact rfl; (focus (repeat (first | exact fd0 | (with_reducible assumption) | apply fdA | apply fdS))); kernel_rfl; kernel_rfl; exact h2a) ?_))) <;> (try refine h0a ?_; (first | (refine q_k (by apply E_un; exact rfl; (focus (first | exact h4b | exact h4i | exact h5f | exact ru_not))) ?_))) <;> (try refine h0b ?_)) | (refine gR 11 ?_ <;> (try refine h0a ?_; (first | (refine q_k (h0c rfl) ?_))) <;> (try refine h0a ?_; (first | (refine q_k (h0d rfl) ?_))) <;> (try refine h0a ?_; (first | (refine q_k (h0d rfl) ?_))) <;> (try refine h0b ?_)) | (refine gR 12 ?_ <;> (try refine h0a ?_; (first | (refine q_k (by first | (exact q_f h4h) | (exact q_g h4h)) ?_))) <;> (try refine h0a ?_; (first | (refine q_k (by apply h0l (t := 53); exact rfl; (focus (repeat (first | exact fd0 | (with_reducible assumption) | apply fdA | apply fdS))); kernel_rfl; kernel_rfl; exact h2a) ?_))) <;> (try refine h0a ?_; (first | (refine q_k (h0c rfl) ?_))) <;> (try refine h0a ?_; (first | (refine q_k (h0d rfl) ?_))) <;> (try refine h0a ?_; (first | (refine q_k (h0d rfl) ?_))) <;> (try refine h0b ?_)) | ((first | (refine h1w rfl (fun hc => ?_) (fun hc => ?_)) | (refine h2e rfl (fun hc => ?_) (fun hc => ?_)) | (refine h3i rfl (fun hc => ?_) (fun hc => ?_))) <;> (try subst hc)))
      (refine h2k Try.results26 (.tmp rfl (.tmp rfl .nil)) ?_)
      have hr2 : (runF l r).2 = k := by rw [hrun'.out]
      refine ⟨_, ⟨?_, rfl⟩, ?_⟩
      · rw [hrun'.out, he]; rfl
      · rw [hr2]; exact fun _ H => H.tail
theorem check_len {l : List Ins} (h : check l = (0, 0)) : 0 < l.length ∧ l.length ≤ 4096 := by
 unfold check at h
 by_cases h0 : l.length = 0
 ·rw [if_pos h0] at h; simp at h
 ·rw [if_neg h0] at h
  by_cases h1 : l.length > 4096
  ·rw [if_pos h1] at h; simp at h
  ·omega
theorem Sli.some {L : List Blk} {a : Option Addr} {len size : Nat} {cells : List Value} (h : Sli L a len size cells) (hn : 0 < len) :
  ∃ (i : Nat) (q : Bool) (b off : Nat) (cs : Array Value) (T : TypeId) (fr : Nat × Nat), a = Option.some ⟨b, off, none⟩ ∧ L[i]? = Option.some ⟨q, b, .cells cs T fr⟩ ∧ off + len * size ≤ cs.size ∧ (cs.toList.drop off).take (len * size) = cells := by
 rcases h.2 with h0 | h
 ·omega
 ·exact h
theorem flat_one (l : List Ins) : (flat l).all (·.oneCell') = true := by
 simp [flat, Ins.cells, h0z]
set_option maxHeartbeats 1000000 in
theorem vload_ok {S w0 L} (l : List Ins) (hl : ∀ i ∈ l, i.ok) (a : Option Addr) (cap : Nat) (hs : Sli L a l.length 4 (flat l)) (hck : check l = (0, 0)) :
  Fn Try.prog 10 #[.slice a l.length cap] S w0 L fun v L' => ∃ n g c cur, IsSrc cur l c ∧ v = h5a [.pointer (some ⟨n, 0, none⟩), .agg #[.int .i64 0, .int .i64 0]] ∧ flB n (.slice (some ⟨g, 0, none⟩) l.length c) 0 0 :: srB g cur :: L = L' := by
 obtain ⟨hlo, hhi⟩ := check_len hck
 have hcc := fun (b : Nat) => check_c (S:=S) (w0:=w0) (L:=⟨true, b, .cells #[.int .i64 0, .int .i64 0] 38 (0, 0)⟩ :: L) l hl h6j a cap (hs.up _)
 rw [hck] at hcc
 simp only [wrongV] at hcc
 have hone := flat_one l
 obtain ⟨i, q, b, off, cs, T, fr, rfl, hi, hsz, htk⟩ := hs.some hlo
 refine Fn1 Try.func10 Try.ntmps10 rfl rfl ?_
 repeat' (first | refine h1k ?_ | refine h0b ?_ | refine h0k ?_ | refine h1g ?_ | refine h1y ?_ | refine h2o ?_ | refine h1m ?_ | refine h1n ?_ | refine h0y ?_ | refine h1u ?_ | refine h1t ?_ | refine h2r rfl ?_ | refine h0q ?_ | refine h1j ?_ | refine h2p ?_ | refine h2v ?_ | refine h0o rfl ?_ | refine h0n rfl ?_ | (refine gR 0 ?_ <;> (try refine h0a ?_; (first | (refine q_k (h0d rfl) ?_))) <;> (try refine h0a ?_; (first | (refine h0u (t:=38) rfl Try.zeroValue38 ?_; intro nb hnb; (try simp only [Value.cells])))) <;> (try refine h0b ?_)) | (refine gR 1 ?_ <;> (try refine h0a ?_; (first | (refine q_k (h0c rfl) ?_))) <;> (try refine h0a ?_; (first | (first | (refine h1i (F:=33) (by kernel_rfl) rfl rfl (hcc _) ?_; rintro _ _ ⟨rfl, rfl⟩)))) <;> (try refine h0a ?_; (first | (refine h0u (t:=38) rfl Try.zeroValue38 ?_; intro nb hnb; (try simp only [Value.cells])))) <;> (try refine h0a ?_; (first | (first | (apply h1a (t:=38); exact rfl; exact rfl; (focus (repeat (first | exact fd0 | (with_reducible assumption) | apply fdA | apply fdS))); kernel_rfl; exact h5m; (focus (first | (with_reducible assumption) | exact rfl | (simp; done) | (simp [h0z, h0s, h1c, h1d, h1v, h1e, *]; done))); (try simp only [List.set_cons_succ]); (try simp only [List.set_cons_zero])) | (apply h1f (t:=38); exact rfl; exact rfl; (focus (repeat (first | exact fd0 | (with_reducible assumption) | apply fdA | apply fdS))); exact h4f; exact h2a; (focus (first | (with_reducible assumption) | (focus (first | (with_reducible assumption) | exact rfl | (simp; done) | (simp [h0z, h0s, h1c, h1d, h1v, h1e, *]; done))))); exact h2s; (try simp only [List.set_cons_succ]); (try simp only [List.set_cons_zero]))))) <;> (try refine h0b ?_)) | (refine gR 2 ?_ <;> (try refine h0a ?_; (first | (refine q_k (by apply h0x (t:=38); exact rfl; (focus (repeat (first | exact fd0 | (with_reducible assumption) | apply fdA | apply fdS))); kernel_rfl; kernel_rfl; exact h4f; exact h2s; exact c_4) ?_))) <;> (try refine h0a ?_; (first | (refine q_k (by exact h1s (t:=38) (fun vs => (match vs with | [] => [Value.int .i64 0, Value.int .i64 0] | _ => [])) rfl (fun w => by kernel_rfl)) ?_; (try simp only [Value.cells]); (try simp only [zzC, zzN])))) <;> (try refine h0a ?_; (first | (refine q_k (by apply E_bin_agg (op:=.neq) (t:=38); exact rfl; exact rfl; kernel_rfl; (apply rb_neq_agg Try.underlying38 (by kernel_rfl); apply EqF.int; (focus (simp)); exact Try.underlying3; exact rfl; exact rfl; exact rfl; exact EqF.int1 (by simp) Try.underlying30 rfl rfl rfl)) ?_))) <;> (try refine h0b ?_)) | ((refine h2g (id:=3) (m:=3) (by kernel_rfl) rfl ?_) <;> (try first | (refine q_t 0 (e:=h1h) (x:=by first | (apply h0x (t:=38); exact rfl; (focus (repeat (first | exact fd0 | (with_reducible assumption) | apply fdA | apply fdS))); kernel_rfl; kernel_rfl; exact h4f; exact h2s; exact c_4)) (h:=?_)) | (refine h0h ?_)) <;> (try first | (refine q_t 1 (e:=h1h) (x:=by first | exact h0d rfl) (h:=?_)) | (refine h0h ?_)) <;> (try first | (refine q_r 2 ?_; (first | (first | (apply h1a (t:=38); exact rfl; exact rfl; (focus (repeat (first | exact fd0 | (with_reducible assumption) | apply fdA | apply fdS))); kernel_rfl; exact h5m; (focus (first | (with_reducible assumption) | exact rfl | (simp; done) | (simp [h0z, h0s, h1c, h1d, h1v, h1e, *]; done))); (try simp only [List.set_cons_succ]); (try simp only [List.set_cons_zero])) | (apply h1f (t:=38); exact rfl; exact rfl; (focus (repeat (first | exact fd0 | (with_reducible assumption) | apply fdA | apply fdS))); exact h4f; exact h2a; (focus (first | (with_reducible assumption) | (focus (first | (with_reducible assumption) | exact rfl | (simp; done) | (simp [h0z, h0s, h1c, h1d, h1v, h1e, *]; done))))); exact h2s; (try simp only [List.set_cons_succ]); (try simp only [List.set_cons_zero])))); refine h2y h1h ?_) | (refine h0h ?_)) <;> (try refine h2d (by kernel_rfl) ?_)) | (refine gR 4 ?_ <;> (try refine h0a ?_; (first | (refine h0r (t:=45) (m:=0) (e:=43) (fun vs => (match vs with | [] => [] | _ => [])) rfl rfl (fun w => by kernel_rfl) ?_; intro nb hnb; (try simp only [Value.cells]); (try simp only [zzC, zzN])))) <;> (try refine h0a ?_; (first | (refine q_k (h0c rfl) ?_))) <;> (try refine h0a ?_; (first | (first | (apply h2t; exact rfl; exact Try.underlying45; exact h3l; exact h3j; exact h3k; exact h3m; exact rfl; exact rfl; exact rfl; (focus (first | (with_reducible assumption) | exact Own.nil _ _ | exact Own.of_block (Nat.le_of_ble_eq_true rfl) (Nat.le_of_ble_eq_true rfl) rfl)); (focus (repeat (first | exact fd0 | (with_reducible assumption) | apply fdA | apply fdS))); exact h2s; exact c_4; (focus (first | (with_reducible assumption) | exact rfl | (simp; done) | (simp [h0z, h0s, h1c, h1d, h1v, h1e, *]; done))); exact h6j; (omega); exact h1h; exact rfl; exact c_19; exact c_8; intro vA eA hownA; obtain ⟨gA, capA, curA, rfl, rfl, hA1, hA2, hA3, hA4⟩ := hownA.some (by omega)) | (apply h3o; exact rfl; exact Try.underlying45; exact h3l; exact h3j; exact h3k; exact h3m; exact rfl; exact rfl; exact rfl; (focus (repeat (first | exact fd0 | (with_reducible assumption) | apply fdA | apply fdS))); exact h2s; exact c_15; exact h5m; (focus (repeat (first | exact fd0 | (with_reducible assumption) | apply fdA | apply fdS))); exact h2s; exact c_4; (focus (first | (with_reducible assumption) | exact rfl | (simp; done) | (simp [h0z, h0s, h1c, h1d, h1v, h1e, *]; done))); exact h6j; (omega); exact rfl; exact c_19; exact c_8; (try simp only [zzE, zzF]); intro vA eA hownA; obtain ⟨gA, capA, curA, rfl, rfl, hA1, hA2, hA3, hA4⟩ := hownA.some (by omega))))) <;> (try refine h0a ?_; (first | (refine q_k (by exact h1s (t:=116) (fun vs => (match vs with | [(_, x0)] => [x0, Value.int .i64 0, Value.int .i64 0] | _ => [])) rfl (fun w => by kernel_rfl)) ?_; (try simp only [Value.cells]); (try simp only [zzC, zzN])))) <;> (try refine h0a ?_; (first | (refine h3e (t:=116) rfl rfl ?_; intro nb hnb; (try simp only [Value.cells])))) <;> (try refine h0a ?_; (first | (refine q_k (by exact h1s (t:=38) (fun vs => (match vs with | [] => [Value.int .i64 0, Value.int .i64 0] | _ => [])) rfl (fun w => by kernel_rfl)) ?_; (try simp only [Value.cells]); (try simp only [zzC, zzN])))) <;> (try refine h0a ?_; (first | (refine q_k (h0d rfl) ?_))) <;> (try refine h0a ?_; (first | (first | (apply h1a (t:=38); exact rfl; exact rfl; (focus (repeat (first | exact fd0 | (with_reducible assumption) | apply fdA | apply fdS))); kernel_rfl; exact h5m; (focus (first | (with_reducible assumption) | exact rfl | (simp; done) | (simp [h0z, h0s, h1c, h1d, h1v, h1e, *]; done))); (try simp only [List.set_cons_succ]); (try simp only [List.set_cons_zero])) | (apply h1f (t:=38); exact rfl; exact rfl; (focus (repeat (first | exact fd0 | (with_reducible assumption) | apply fdA | apply fdS))); exact h4f; exact h2a; (focus (first | (with_reducible assumption) | (focus (first | (with_reducible assumption) | exact rfl | (simp; done) | (simp [h0z, h0s, h1c, h1d, h1v, h1e, *]; done))))); exact h2s; (try simp only [List.set_cons_succ]); (try simp only [List.set_cons_zero]))))) <;> (try refine h0b ?_)) | ((first | (refine h1w rfl (fun hc => ?_) (fun hc => ?_)) | (refine h2e rfl (fun hc => ?_) (fun hc => ?_)) | (refine h3i rfl (fun hc => ?_) (fun hc => ?_))) <;> (try subst hc)))
 (apply h2k Try.results10; (focus (apply Res.tmp; exact rfl; apply Res.agg; exact rfl; (focus (repeat (first | exact fd0 | (with_reducible assumption) | apply fdA | apply fdS))); kernel_rfl; kernel_rfl; exact c_20; exact h4f; exact Res.nil)))
 exact ⟨_, ⟨_, gA, capA, curA.toList, ⟨by simp; omega, by simpa using hA3, hA1, by simpa using hA4, hA2⟩, rfl, rfl⟩, by intro w H; refine H.sub ?_; (try simp only [zzC, zzN]); repeat (first | exact List.Sublist.refl _ | refine List.Sublist.cons_cons _ ?_ | refine List.Sublist.cons _ ?_ | refine List.sublist_append_of_sublist_right ?_)⟩
theorem run_d {S : List Nat} {w0 : World} {L : List Blk} {n g cap i j : Nat} {a b : Int} {cur : List Value} {l : List Ins} {r : Rec} (h1 : L[i]? = some (flB n (.slice (some ⟨g, 0, none⟩) l.length cap) a b)) (h2 : (L.eraseIdx i)[j]? = some (srB g cur))
  (hl : ∀ i ∈ l, i.ok) (h4 : l.length ≤ 4096) (hs : IsSrc cur l cap) (hr : r.ok) (ha : 0 ≤ a ∧ a < 4000000000000000000) (hb : 0 ≤ b ∧ b < 4000000000000000000) :
  Fn Try.prog 26 #[.pointer (some ⟨n, 0, none⟩), .agg r.cells.toArray] S w0 L fun v L' =>
   v = h5a [.int .u32 (runF l r).1, .int .i64 ((runF l r).2 : Nat)] ∧ flB n (.slice (some ⟨g, 0, none⟩) l.length cap) (a + 1) (b + ((runF l r).2 : Nat)) :: srB g cur :: (L.eraseIdx i).eraseIdx j = L' :=
 Fn.at2 h1 h2 (run_c n g cap a b cur l r hl h4 hs hr ha hb)
theorem jz_s {l : List Ins} {f n k : Nat} {m : Mch} {i : Ins} (he : m.en = false) (hp : m.pos = (k : Nat)) (hk : l[k]? = some i) : h5u l (f + 1) m n = h5u l f (stp { m with pos := (k : Int) + 1 } i) (n + 1) := by
 have hl : k < l.length := by rcases Nat.lt_or_ge k l.length with h | h; exact h; rw [List.getElem?_eq_none h] at hk; cases hk
 rw [h5u, if_neg (by rw [he, hp]; simp; omega), hp]
 have : l.getD (k : Int).toNat ⟨0, 0, 0, 0⟩ = i := by rw [Int.toNat_natCast, List.getD_eq_getElem?_getD, hk]; rfl
 rw [this]
theorem jz_e {l : List Ins} {f n : Nat} {m : Mch} (he : m.en = true) : h5u l f m n = (m, n) := by
 cases f with
 | zero => rfl
 | succ f => rw [h5u, if_pos (.inl he)]
def Says (l : List Ins) (f : Nat) (m : Mch) (v : Int) : Prop := ∀ n, (h5u l f m n).1.en = true ∧ (h5u l f m n).1.act = v
theorem says_ret {l : List Ins} {f k : Nat} {m : Mch} {v : Nat} (he : m.en = false) (hp : m.pos = (k : Nat)) (hk : l[k]? = some (retI v)) : Says l (f + 1) m v := by
 intro n
 rw [jz_s he hp hk, jz_e (by simp [stp, retI])]
 simp [stp, retI]
theorem says_hop {l : List Ins} {f k : Nat} {m : Mch} {d v : Int} (he : m.en = false) (hp : m.pos = (k : Nat)) (hk : l[k]? = some ⟨5, 0, 0, d⟩) (h : Says l f { m with pos := (k : Int) + 1 + d } v) : Says l (f + 1) m v := by
 intro n
 rw [jz_s he hp hk]
 have e : stp { m with pos := (k : Int) + 1 } ⟨5, 0, 0, d⟩ = { m with pos := (k : Int) + 1 + d } := by
  have h0 : h6e 5 15 = 0 := by decide +kernel
  simp [stp, jmp, h0]
 rw [e]
 exact h _
theorem one_hop (d : Int) (at_ n : Int) (h : d < n - at_ - 1) : one ⟨5, 0, 0, d⟩ at_ n = 0 := by
 have k1 : h6i 5 = true := by decide +kernel
 have hm : ¬ (d ≥ n - at_ - 1) := by omega
 simp [one, k1, hm]
theorem loads_no (l : List Ins) (h : ∀ i ∈ l, isLd i = false) (k : Nat) (st : List Int) : loadsGo l k st = (0, 0) := by
 induction l generalizing k st with
 | nil => rfl
 | cons i l ih =>
  rw [loadsGo, h i (List.mem_cons_self ..), Bool.false_and, if_neg (by simp)]
  exact ih (fun j hj => h j (List.mem_cons_of_mem _ hj)) _ _
def h2f : List Prt → List Int
 | [] => []
 | p :: r => if p.kind = 1 then p.to :: h2f r else h2f r
def okH (p : Prt) (r : List Prt) : Prop :=
 (p.kind = 1 ∧ p.to ∉ h2f r) ∨ (p.kind = 2 ∧ p.ins.code % 8 ≠ 5) ∨ (p.kind = 4 ∧ p.to ∈ h2f r) ∨ (p.kind = 3 ∧ p.ins.code % 8 = 5 ∧ p.ins.code ≠ 5 ∧ p.to ∈ h2f r ∧ p.els ∈ h2f r)
def okP : List Prt → Prop
 | [] => True
 | p :: r => okP r ∧ okH p r
theorem far_len (m : Mk) (p : Prt) (a b : Int) : (m.far p a b).out.length ≤ m.out.length + 3 ∧ (m.far p a b).pl = m.pl := by
 unfold Mk.far Mk.far1 Mk.far2 Mk.hop Mk.put
 repeat' split
 all_goals simp
def wset (n x : Int) : List (Int × Int) → List (Int × Int)
 | [] => [(n, x)]
 | q :: r => if n = q.1 then (n, x) :: r else q :: wset n x r
theorem look_wset (n x m : Int) (w : List (Int × Int)) : look m (wset n x w) = if m = n then some x else look m w := by
 induction w with
 | nil => simp [wset, look]
 | cons q r ih =>
  unfold wset
  by_cases h : n = q.1
  ·rw [if_pos h]
   by_cases h2 : m = n
   ·simp [look, h2]
   ·rw [if_neg h2, look, look]
    dsimp only
    rw [if_neg h2, if_neg (by rw [← h]; exact h2)]
  ·rw [if_neg h, look, ih, look]
   by_cases h2 : m = q.1
   ·rw [if_pos h2, if_pos h2, if_neg (by rw [h2]; exact fun e => h e.symm)]
   ·rw [if_neg h2, if_neg h2]
theorem fd_plx (n : Int) (w : List (Int × Int)) (i : Nat) : ∃ r, fd (.int .i64) (.int .i64 n) (plV w) i = some r ∧
  ((r = none ∧ look n w = none ∧ ∀ x, w ++ [(n, x)] = wset n x w) ∨ ∃ j y, r = some (i + j, .int .i64 y) ∧ look n w = some y ∧ ∀ x, w.set j (n, x) = wset n x w) := by
 induction w generalizing i with
 | nil => exact ⟨none, rfl, .inl ⟨rfl, rfl, fun x => rfl⟩⟩
 | cons c r ih =>
  by_cases h : n = c.1
  ·refine ⟨some (i, .int .i64 c.2), by simp [plV, fd, Instr.sameNow, h], .inr ⟨0, c.2, rfl, by simp [look, h], fun x => ?_⟩⟩
   rw [wset, if_pos h]; rfl
  ·have e : (n == c.1) = false := by simpa using h
   obtain ⟨q, h1, h2⟩ := ih (i + 1)
   refine ⟨q, by simpa [plV, fd, Instr.sameNow, e] using h1, ?_⟩
   rcases h2 with ⟨rfl, h3, h4⟩ | ⟨j, y, rfl, h3, h4⟩
   ·exact .inl ⟨rfl, by simpa [look, h] using h3, fun x => by rw [wset, if_neg h, ← h4]; rfl⟩
   ·exact .inr ⟨j + 1, y, by rw [show i + 1 + j = i + (j + 1) by omega], by simpa [look, h] using h3, fun x => by rw [wset, if_neg h, ← h4]; rfl⟩
theorem upd_pl (n x : Int) (w : List (Int × Int)) : ∃ r, fd (.int .i64) (.int .i64 n) (plV w) 0 = some r ∧ updE (plV w) (.int .i64 n) (.int .i64 x) r = plV (wset n x w) := by
 obtain ⟨r, h1, h2⟩ := fd_plx n w 0
 refine ⟨r, h1, ?_⟩
 rcases h2 with ⟨rfl, _, h4⟩ | ⟨j, y, rfl, _, h4⟩
 ·rw [← h4]; simp [updE, plV]
 ·rw [← h4, Nat.zero_add]; simp [updE, plV, List.map_set]
def uset (n : Int) (us : List Int) : List Int := if n ∈ us then us else us ++ [n]
def usV (us : List Int) : List (Value × Value) := us.map fun k => (.int .i64 k, .bool true)
theorem fd_us (n : Int) (us : List Int) (i : Nat) : ∃ r, fd (.int .i64) (.int .i64 n) (usV us) i = some r ∧
  ((r = none ∧ n ∉ us) ∨ ∃ j, r = some (i + j, .bool true) ∧ us[j]? = some n) := by
 induction us generalizing i with
 | nil => exact ⟨none, rfl, .inl ⟨rfl, by simp⟩⟩
 | cons c r ih =>
  by_cases h : n = c
  ·exact ⟨some (i, .bool true), by simp [usV, fd, Instr.sameNow, h], .inr ⟨0, rfl, by simp [h]⟩⟩
  ·have e : (n == c) = false := by simpa using h
   obtain ⟨q, h1, h2⟩ := ih (i + 1)
   refine ⟨q, by simpa [usV, fd, Instr.sameNow, e] using h1, ?_⟩
   rcases h2 with ⟨rfl, h3⟩ | ⟨j, rfl, h3⟩
   ·exact .inl ⟨rfl, by simp [h, h3]⟩
   ·exact .inr ⟨j + 1, by rw [show i + 1 + j = i + (j + 1) by omega], by simpa using h3⟩
theorem upd_us (n : Int) (us : List Int) : ∃ r, fd (.int .i64) (.int .i64 n) (usV us) 0 = some r ∧ found r (.bool false) = .bool (decide (n ∈ us)) ∧ updE (usV us) (.int .i64 n) (.bool true) r = usV (uset n us) := by
 obtain ⟨r, h1, h2⟩ := fd_us n us 0
 refine ⟨r, h1, ?_⟩
 rcases h2 with ⟨rfl, h3⟩ | ⟨j, rfl, h3⟩
 ·unfold uset; rw [if_neg h3]; exact ⟨by simp [found, h3], by simp [updE, usV]⟩
 ·have hm := List.mem_of_getElem? h3
  unfold uset; rw [if_pos hm]
  refine ⟨by simp [found, hm], ?_⟩
  rw [Nat.zero_add]
  simp only [updE, usV]
  apply List.ext_getElem?
  intro k
  rw [List.getElem?_set]
  split
  ·rename_i e; subst e
   obtain ⟨q1, q2⟩ := List.getElem?_eq_some_iff.1 h3
   simp [q1, q2]
  ·rfl
theorem mem_uset (n m : Int) (us : List Int) : m ∈ uset n us ↔ m = n ∨ m ∈ us := by
 unfold uset
 split
 ·rename_i h
  constructor
  ·exact .inr
  ·rintro (rfl | h2)
   ·exact h
   ·exact h2
 ·simp [or_comm]
-- where one goes on from a name
def ng : List Prt → Option Int
 | [] => none
 | p :: r => if p.kind = 1 then ng r else if p.kind = 4 then some p.to else none
def thr1 (p : Prt) (r : List Prt) (w : List (Int × Int)) : List (Int × Int) :=
 if p.kind = 1 then (match ng r with | some x => wset p.to x w | none => w) else w
def threadsGo : List Prt → List (Int × Int) → List (Int × Int)
 | [], w => w
 | p :: r, w => threadsGo r (thr1 p r w)
def threads (l : List Prt) : List (Int × Int) := threadsGo l []
def alongGo (w : List (Int × Int)) : Nat → Int → Int
 | 0, n => n
 | f + 1, n => match look n w with | none => n | some x => alongGo w f x
def along (w : List (Int × Int)) (n : Int) : Int := alongGo w w.length n
def fwd (w : List (Int × Int)) (p : Prt) : Prt :=
 if p.kind = 4 then { p with to := along w p.to } else if p.kind = 3 then { p with to := along w p.to, els := along w p.els } else p
def useP (us : List Int) (p : Prt) : List Int := if p.kind = 4 then uset p.to us else if p.kind = 3 then uset p.els (uset p.to us) else us
def follows : List Prt → Int → Bool
 | [], _ => false
 | p :: r, n => if p.kind ≠ 1 then false else if p.to = n then true else follows r n
def ends (p : Prt) : Bool := p.kind = 4 || (p.kind = 2 && p.ins.code % 8 = 6)
def h4e (us : List Int) : List Prt → Bool → List Prt
 | [], _ => []
 | p :: r, dead =>
  if p.kind = 1 then (if p.to ∈ us then p :: h4e us r false else h4e us r dead)
  else if dead = true ∨ (p.kind = 4 ∧ follows r p.to = true) then h4e us r dead
  else p :: h4e us r (ends p)
def onceP (l : List Prt) : List Prt := l.map (fwd (threads l))
def once (l : List Prt) : List Prt := h4e ((onceP l).foldl useP []) (onceP l) false
theorem keepGo_len (us : List Int) (l : List Prt) (dead : Bool) : (h4e us l dead).length ≤ l.length := by
 induction l generalizing dead with
 | nil => simp [h4e]
 | cons p r ih =>
  have h1 := ih false
  have h2 := ih dead
  have h3 := ih (ends p)
  unfold h4e
  split
  ·split
   ·simp only [List.length_cons]; omega
   ·simp only [List.length_cons]; omega
  ·split
   ·simp only [List.length_cons]; omega
   ·simp only [List.length_cons]; omega
theorem once_len (l : List Prt) : (once l).length ≤ l.length := by
 have := keepGo_len ((onceP l).foldl useP []) (onceP l) false
 unfold once
 rwa [onceP, List.length_map] at this
def tidy (l : List Prt) : List Prt := if (once l).length = l.length then once l else tidy (once l)
termination_by l.length
decreasing_by
 have := once_len l
 omega
theorem along_keep {w : List (Int × Int)} {n : Int} (h : look n w = none) (f : Nat) : alongGo w f n = n := by
 cases f with
 | zero => rfl
 | succ f => rw [alongGo, h]
theorem wset_rng {lo hi : Int} {n x : Int} {w : List (Int × Int)} (hx : lo ≤ x ∧ x < hi) (h : ∀ q ∈ w, lo ≤ q.2 ∧ q.2 < hi) : ∀ q ∈ wset n x w, lo ≤ q.2 ∧ q.2 < hi := by
 induction w with
 | nil => intro q hq; simp [wset] at hq; subst hq; exact hx
 | cons c r ih =>
  intro q hq
  unfold wset at hq
  split at hq
  ·rcases List.mem_cons.1 hq with rfl | h2
   ·exact hx
   ·exact h q (List.mem_cons_of_mem _ h2)
  ·rcases List.mem_cons.1 hq with rfl | h2
   ·exact h _ (List.mem_cons_self ..)
   ·exact ih (fun q hq => h q (List.mem_cons_of_mem _ hq)) q h2
theorem wset_len (n x : Int) (w : List (Int × Int)) : (wset n x w).length ≤ w.length + 1 := by
 induction w with
 | nil => simp [wset]
 | cons c r ih => unfold wset; split <;> simp <;> omega
abbrev nm (x : Int) : Prop := -9223372036854775808 ≤ x ∧ x < 9223372036854775808
theorem ng_rng {l : List Prt} (h : ∀ p ∈ l, p.ok) {x : Int} (hx : ng l = some x) : nm x := by
 induction l with
 | nil => simp [ng] at hx
 | cons p r ih =>
  unfold ng at hx
  split at hx
  ·exact ih (fun q hq => h q (List.mem_cons_of_mem _ hq)) hx
  ·split at hx
   ·cases hx; exact (h p (List.mem_cons_self ..)).to
   ·simp at hx
structure WOk (w : List (Int × Int)) (b : Nat) : Prop where
 rng : ∀ q ∈ w, nm q.2
 len : w.length ≤ b
theorem thr1_ok {p : Prt} {r : List Prt} (h : ∀ q ∈ p :: r, q.ok) {w : List (Int × Int)} {b : Nat} (hw : WOk w b) : WOk (thr1 p r w) (b + 1) := by
 have hm : WOk w (b + 1) := ⟨hw.rng, by have := hw.len; omega⟩
 unfold thr1
 split
 ·cases hn : ng r with
  | none => exact hm
  | some x =>
   have hx := ng_rng (fun q hq => h q (List.mem_cons_of_mem _ hq)) hn
   exact ⟨wset_rng hx hw.rng, by have := wset_len p.to x w; have := hw.len; dsimp only; omega⟩
 ·exact hm
theorem along_rng {w : List (Int × Int)} (h : ∀ q ∈ w, nm q.2) {n : Int} (hn : nm n) : nm (along w n) := by
 unfold along
 generalize w.length = f
 induction f generalizing n with
 | zero => exact hn
 | succ f ih =>
  rw [alongGo]
  cases e : look n w with
  | none => exact hn
  | some x => exact ih (h _ (look_mem e))
theorem fwd_ok {w : List (Int × Int)} (h : ∀ q ∈ w, nm q.2) {p : Prt} (hp : p.ok) : (fwd w p).ok := by
 unfold fwd
 split
 ·exact ⟨hp.kind, along_rng h hp.to, hp.els, hp.ins⟩
 split
 ·exact ⟨hp.kind, along_rng h hp.to, along_rng h hp.els, hp.ins⟩
 ·exact hp
def after (n : Int) : List Prt → List Prt
 | [] => []
 | p :: r => if p.kind = 1 ∧ p.to = n then p :: r else after n r
theorem after_len (n : Int) (l : List Prt) : (after n l).length ≤ l.length := by
 induction l with
 | nil => simp [after]
 | cons p r ih => unfold after; split <;> simp <;> omega
theorem h5s {n : Int} {p : Prt} {r : List Prt} (h : p.kind = 1 ∧ p.to = n) : after n (p :: r) = p :: r := by rw [after, if_pos h]
theorem h3y {n : Int} {p : Prt} {r : List Prt} (h : ¬ (p.kind = 1 ∧ p.to = n)) : after n (p :: r) = after n r := by rw [after, if_neg h]
def cnd (a : Int) (i : Ins) : Bool := if i.code = 21 then a = i.k else if i.code = 37 then a > i.k else if i.code = 53 then a ≥ i.k else iand a i.k ≠ 0
def acc (r : Rec) (a : Int) (i : Ins) : Int := if i.code = 32 then word r i.k else iand a i.k
inductive Big (r : Rec) : List Prt → Int → Int → Prop
 | nil (a : Int) : Big r [] a 2147483648
 | here {p : Prt} {s : List Prt} {a v : Int} : p.kind = 1 → Big r s a v → Big r (p :: s) a v
 | goto {p : Prt} {s : List Prt} {a v : Int} : p.kind = 4 → Big r (after p.to s) a v → Big r (p :: s) a v
 | ift {p : Prt} {s : List Prt} {a v : Int} : p.kind = 3 → cnd a p.ins = true → Big r (after p.to s) a v → Big r (p :: s) a v
 | iff {p : Prt} {s : List Prt} {a v : Int} : p.kind = 3 → cnd a p.ins = false → Big r (after p.els s) a v → Big r (p :: s) a v
 | ret {p : Prt} {s : List Prt} {a : Int} : p.kind = 2 → p.ins.code = 6 → Big r (p :: s) a p.ins.k
 | pl {p : Prt} {s : List Prt} {a v : Int} : p.kind = 2 → p.ins.code ≠ 6 → Big r s (acc r a p.ins) v → Big r (p :: s) a v
theorem big_all (r : Rec) : ∀ (n : Nat) (s : List Prt) (a : Int), s.length ≤ n → okP s → ∃ v, Big r s a v := by
 intro n
 induction n with
 | zero => intro s a h _; obtain rfl : s = [] := List.eq_nil_of_length_eq_zero (by omega); exact ⟨_, .nil a⟩
 | succ n ih =>
  intro s a h hk
  cases s with
  | nil => exact ⟨_, .nil a⟩
  | cons p s =>
   obtain ⟨hs, hp⟩ := hk
   simp only [List.length_cons] at h
   have sub : ∀ m, okP (after m s) := fun m => by
    clear hp h
    induction s with
    | nil => exact hs
    | cons q s ih2 => unfold after; split; exact hs; exact ih2 hs.1
   rcases hp with ⟨k, _⟩ | ⟨k, _⟩ | ⟨k, _⟩ | ⟨k, _⟩
   ·obtain ⟨v, hv⟩ := ih s a (by omega) hs
    exact ⟨v, .here k hv⟩
   ·by_cases c : p.ins.code = 6
    ·exact ⟨_, .ret k c⟩
    ·obtain ⟨v, hv⟩ := ih s (acc r a p.ins) (by omega) hs
     exact ⟨v, .pl k c hv⟩
   ·obtain ⟨v, hv⟩ := ih (after p.to s) a (by have := after_len p.to s; omega) (sub _)
    exact ⟨v, .goto k hv⟩
   ·cases c : cnd a p.ins
    ·obtain ⟨v, hv⟩ := ih (after p.els s) a (by have := after_len p.els s; omega) (sub _)
     exact ⟨v, .iff k c hv⟩
    ·obtain ⟨v, hv⟩ := ih (after p.to s) a (by have := after_len p.to s; omega) (sub _)
     exact ⟨v, .ift k c hv⟩
theorem okP_after {n : Int} {s : List Prt} (h : okP s) : okP (after n s) := by
 induction s with
 | nil => exact h
 | cons q s ih => unfold after; split; exact h; exact ih h.1
def GoodI (p : Prt) : Prop :=
 p.kind = 1 ∨ (p.kind = 2 ∧ ((p.ins.code = 32 ∧ p.ins.k % 4 = 0 ∧ 0 ≤ p.ins.k ∧ p.ins.k ≤ 60) ∨ (p.ins.code = 84 ∧ 0 ≤ p.ins.k) ∨ (p.ins.code = 6 ∧ 0 ≤ p.ins.k))) ∨ p.kind = 4 ∨
 (p.kind = 3 ∧ (p.ins.code = 21 ∨ p.ins.code = 37 ∨ p.ins.code = 53 ∨ p.ins.code = 69))
def Good (l : List Prt) : Prop := ∀ p ∈ l, GoodI p
theorem mem_after {n : Int} {l : List Prt} {p : Prt} (h : p ∈ after n l) : p ∈ l := by
 induction l with
 | nil => exact h
 | cons q l ih =>
  unfold after at h
  split at h
  ·exact h
  ·exact List.mem_cons_of_mem _ (ih h)
theorem Good.after {n : Int} {l : List Prt} (h : Good l) : Good (after n l) := fun p hp => h p (mem_after hp)
def LR : List Prt → Prop
 | [] => False
 | p :: r => (r = [] ∧ p.kind = 2 ∧ p.ins.code = 6) ∨ LR r
theorem LR.next {p : Prt} {s : List Prt} (h : LR (p :: s)) (hp : ¬ (p.kind = 2 ∧ p.ins.code = 6)) : LR s := by
 rcases h with ⟨_, h⟩ | h
 ·exact (hp h).elim
 ·exact h
theorem LR.after {n : Int} {s : List Prt} (h : LR s) (hn : n ∈ h2f s) : LR (after n s) := by
 induction s with
 | nil => exact h
 | cons p s ih =>
  by_cases c : p.kind = 1 ∧ p.to = n
  ·rw [h5s c]; exact h
  ·rw [h3y c]
   have hn2 : n ∈ h2f s := by
    rw [h2f] at hn
    split at hn
    ·rename_i k1
     rcases List.mem_cons.1 hn with e | hn
     ·exact (c ⟨k1, e.symm⟩).elim
     ·exact hn
    ·exact hn
   rcases h with ⟨rfl, _⟩ | h
   ·simp [h2f] at hn2
   ·exact ih h hn2
def wt1 (p : Prt) : Nat := if p.kind = 1 then 0 else if p.kind = 3 then 3 else 1
def wt : List Prt → Nat
 | [] => 0
 | p :: r => wt1 p + wt r
def co (l : List Prt) : List Ins := (h5q l).2.out
structure MkS (l : List Prt) : Prop where
 ok : (h5q l).1 = 0
 hit : ∀ n, n ∈ h2f l → look n (h5q l).2.pl = some ((co (after n l)).length : Int)
 miss : ∀ n, n ∉ h2f l → look n (h5q l).2.pl = none
 le : (co l).length ≤ wt l
theorem look_apx (n : Int) (a b : List (Int × Int)) : look n (a ++ b) = match look n a with | some x => some x | none => look n b := by
 induction a with
 | nil => rfl
 | cons q r ih =>
  rw [List.cons_append, look, look]
  split
  ·rfl
  ·exact ih
theorem mk_s {l : List Prt} (h : okP l) (hn : wt l ≤ 4096) : MkS l := by
 induction l with
 | nil => exact ⟨rfl, fun n h => by simp [h2f] at h, fun n _ => rfl, by simp [co, h5q, wt]⟩
 | cons p r ih =>
  obtain ⟨hr, hp⟩ := h
  rw [wt] at hn
  have I := ih hr (by omega)
  have e0 : h5q (p :: r) = if ((h5q r).2.part p).1 ≠ 0 then (h5q r).2.part p else if ((h5q r).2.part p).2.out.length > 4096 then (205, ((h5q r).2.part p).2) else (h5q r).2.part p := by
   rw [h5q, if_neg (by rw [I.ok]; simp)]
  have hle : (h5q r).2.out.length ≤ wt r := I.le
  have fin : ∀ m : Mk, (h5q r).2.part p = (0, m) → m.pl = (h5q r).2.pl → h2f (p :: r) = h2f r → (∀ n, n ∈ h2f r → after n (p :: r) = after n r) → m.out.length ≤ (h5q r).2.out.length + wt1 p → MkS (p :: r) := by
   intro m h1 h2 h3 h4 h5
   have e1 : h5q (p :: r) = (0, m) := by rw [e0, h1]; dsimp only; rw [if_neg (by simp), if_neg (by omega)]
   refine ⟨by rw [e1], fun n hn => ?_, fun n hn => ?_, ?_⟩
   ·rw [h3] at hn
    rw [e1, h4 n hn]
    dsimp only
    rw [h2, I.hit n hn]
   ·rw [h3] at hn
    rw [e1]
    dsimp only
    rw [h2, I.miss n hn]
   ·show (h5q (p :: r)).2.out.length ≤ _
    rw [e1, wt]; dsimp only; omega
  rcases hp with ⟨k1, hh⟩ | ⟨k2, hh⟩ | ⟨k4, hh⟩ | ⟨k3, c1, c2, hh, hh2⟩
  ·have hl : look p.to (h5q r).2.pl = none := I.miss _ hh
   have h1 : (h5q r).2.part p = (0, { (h5q r).2 with pl := (h5q r).2.pl ++ [(p.to, ((h5q r).2.out.length : Int))] }) := by unfold Mk.part; rw [if_pos k1, hl]; rfl
   have e1 : h5q (p :: r) = (0, { (h5q r).2 with pl := (h5q r).2.pl ++ [(p.to, ((h5q r).2.out.length : Int))] }) := by
    rw [e0, h1]; dsimp only; rw [if_neg (by simp), if_neg (by omega)]
   have en : h2f (p :: r) = p.to :: h2f r := by rw [h2f, if_pos k1]
   have ec : co (p :: r) = co r := by show (h5q (p :: r)).2.out = _; rw [e1]; rfl
   refine ⟨by rw [e1], fun n hn => ?_, fun n hn => ?_, ?_⟩
   ·rw [en] at hn
    rw [e1]
    dsimp only
    rw [look_apx]
    by_cases c : n ∈ h2f r
    ·rw [I.hit n c, h3y (fun h => hh (h.2 ▸ c))]
    ·rcases List.mem_cons.1 hn with rfl | hn
     ·rw [hl, h5s ⟨k1, rfl⟩, ec]
      simp [look, co]
     ·exact (c hn).elim
   ·rw [en, List.mem_cons, not_or] at hn
    rw [e1]
    dsimp only
    rw [look_apx, I.miss n hn.2]
    simp [look, hn.1]
   ·rw [ec, wt, wt1, if_pos k1]; have := I.le; omega
  ·have nk : ¬ p.kind = 1 := by omega
   refine fin ((h5q r).2.put p.ins) (by unfold Mk.part; rw [if_neg nk, if_pos k2, if_neg hh]) rfl (by rw [h2f, if_neg nk]) (fun n _ => h3y (fun h => nk h.1)) (by simp [Mk.put, wt1, nk, k2])
  ·have nk : ¬ p.kind = 1 := by omega
   refine fin ((h5q r).2.hop ((h5q r).2.away p.to)) (by unfold Mk.part; rw [if_neg nk, if_neg (by omega), if_pos k4, I.hit _ hh]; rfl) rfl (by rw [h2f, if_neg nk]) (fun n _ => h3y (fun h => nk h.1)) (by simp [Mk.hop, wt1, nk, k4])
  ·have nk : ¬ p.kind = 1 := by omega
   have hf := far_len (h5q r).2 p ((h5q r).2.away p.to) ((h5q r).2.away p.els)
   refine fin ((h5q r).2.far p ((h5q r).2.away p.to) ((h5q r).2.away p.els)) (by unfold Mk.part Mk.compare; rw [if_neg nk, if_neg (by omega), if_neg (by omega), if_pos k3, if_neg (by omega), I.hit _ hh, I.hit _ hh2]; rfl) hf.2 (by rw [h2f, if_neg nk]) (fun n _ => h3y (fun h => nk h.1)) (by rw [wt1, if_neg nk, if_pos k3]; omega)
structure CoS (p : Prt) (r : List Prt) : Prop where
 c1 : p.kind = 1 → co (p :: r) = co r
 c2 : p.kind = 2 → co (p :: r) = co r ++ [p.ins]
 c4 : p.kind = 4 → co (p :: r) = co r ++ [⟨5, 0, 0, ((co r).length : Int) - (co (after p.to r)).length⟩]
 c3 : p.kind = 3 → co (p :: r) = ((h5q r).2.far p (((co r).length : Int) - (co (after p.to r)).length) (((co r).length : Int) - (co (after p.els r)).length)).out
theorem co_after {n : Int} {l : List Prt} (h : okP l) (hn : wt l ≤ 4096) : ∃ x, co l = co (after n l) ++ x := by
 induction l with
 | nil => exact ⟨[], by simp [after]⟩
 | cons p r ih =>
  by_cases c : p.kind = 1 ∧ p.to = n
  ·rw [h5s c]; exact ⟨[], by simp⟩
  ·rw [h3y c]
   obtain ⟨hr, hp⟩ := h
   have hw : wt1 p + wt r ≤ 4096 := hn
   obtain ⟨x, hx⟩ := ih hr (by omega)
   have I := mk_s hr (by omega)
   have J := mk_s (l:=p :: r) ⟨hr, hp⟩ hn
   have e0 : h5q (p :: r) = (h5q r).2.part p := by
    have h1 := J.ok
    rw [h5q, if_neg (by rw [I.ok]; simp)] at h1 ⊢
    split
    ·rfl
    ·rename_i h2
     rw [if_neg h2] at h1
     split
     ·rename_i h3; rw [if_pos h3] at h1; simp at h1
     ·rfl
   have key : ∃ y, ((h5q r).2.part p).2.out = (h5q r).2.out ++ y := by
    unfold Mk.part Mk.compare Mk.far Mk.far1 Mk.far2 Mk.hop Mk.put
    repeat' split
    all_goals first
     | exact ⟨_, rfl⟩
     | exact ⟨_, List.append_assoc ..⟩
     | exact ⟨_, (List.append_assoc ..).trans (List.append_assoc ..)⟩
     | exact ⟨[], (List.append_nil _).symm⟩
   obtain ⟨y, hy⟩ := key
   refine ⟨x ++ y, ?_⟩
   show (h5q (p :: r)).2.out = _
   rw [e0, hy]
   show co r ++ y = _
   rw [hx, List.append_assoc]
theorem co_s {p : Prt} {r : List Prt} (h : okP (p :: r)) (hn : wt (p :: r) ≤ 4096) : CoS p r := by
 obtain ⟨hr, hp⟩ := h
 have hw : wt1 p + wt r ≤ 4096 := hn
 have I := mk_s hr (by omega)
 have J := mk_s (l:=p :: r) ⟨hr, hp⟩ hn
 have e0 : h5q (p :: r) = (h5q r).2.part p := by
  have h1 := J.ok
  rw [h5q, if_neg (by rw [I.ok]; simp)] at h1 ⊢
  split
  ·rfl
  ·rename_i h2
   rw [if_neg h2] at h1
   split
   ·rename_i h3; rw [if_pos h3] at h1; simp at h1
   ·rfl
 have ec : co (p :: r) = ((h5q r).2.part p).2.out := by show (h5q (p :: r)).2.out = _; rw [e0]
 have aw : ∀ n, n ∈ h2f r → (h5q r).2.away n = ((co r).length : Int) - (co (after n r)).length := fun n hn => by
  unfold Mk.away; rw [I.hit n hn]; rfl
 have hle := I.le
 rcases hp with ⟨k1, hh⟩ | ⟨k2, hh⟩ | ⟨k4, hh⟩ | ⟨k3, c1, c2, hh, hh2⟩
 ·refine ⟨fun _ => ?_, fun k => by omega, fun k => by omega, fun k => by omega⟩
  rw [ec]; unfold Mk.part; rw [if_pos k1, I.miss _ hh]; rfl
 ·refine ⟨fun k => by omega, fun _ => ?_, fun k => by omega, fun k => by omega⟩
  rw [ec]; unfold Mk.part; rw [if_neg (by omega), if_pos k2, if_neg hh]; rfl
 ·refine ⟨fun k => by omega, fun k => by omega, fun _ => ?_, fun k => by omega⟩
  rw [ec]; unfold Mk.part; rw [if_neg (by omega), if_neg (by omega), if_pos k4, I.hit _ hh]
  rw [if_neg (by simp)]
  show (h5q r).2.out ++ [⟨5, 0, 0, IntKind.u32.wrap ((h5q r).2.away p.to)⟩] = _
  obtain ⟨x, hx⟩ := co_after (n:=p.to) hr (by omega)
  have hl : (co r).length = (co (after p.to r)).length + x.length := by rw [hx, List.length_append]
  rw [aw _ hh, IntWalk.u32_in _ (by omega)]
  rfl
 ·refine ⟨fun k => by omega, fun k => by omega, fun k => by omega, fun _ => ?_⟩
  rw [ec]; unfold Mk.part Mk.compare; rw [if_neg (by omega), if_neg (by omega), if_neg (by omega), if_pos k3, if_neg (by omega), I.hit _ hh, I.hit _ hh2]
  rw [if_neg (by simp), aw _ hh, aw _ hh2]
end Go.Proofs.Ytpbpgbkpciffgaa
