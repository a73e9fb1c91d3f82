/- Part 10 of what the last text of this claim leans on: rules of walks, contracts, plain facts. Conditions: those of each statement. -/
import Derived.Test.YtpbpgbkpciffgaaQj9
set_option maxRecDepth 100000
namespace Go.Proofs.Ytpbpgbkpciffgaa
open Go Go.RowKit
def ofC (num arch at_ b0 b1 b2 b3 b4 b5 : Int) (k : Nat) : List Int :=
  [num, arch, at_ % 4294967296, at_ / 4294967296, if 0 < k then b0 % 4294967296 else 0, if 0 < k then b0 / 4294967296 else 0, if 1 < k then b1 % 4294967296 else 0, if 1 < k then b1 / 4294967296 else 0,
   if 2 < k then b2 % 4294967296 else 0, if 2 < k then b2 / 4294967296 else 0, if 3 < k then b3 % 4294967296 else 0, if 3 < k then b3 / 4294967296 else 0,
   if 4 < k then b4 % 4294967296 else 0, if 4 < k then b4 / 4294967296 else 0, if 5 < k then b5 % 4294967296 else 0, if 5 < k then b5 / 4294967296 else 0]
set_option maxHeartbeats 2000000 in
theorem of_c {S w0 L} (r : Rec) (hr : r.ok) : Fn Try.prog 69 #[.int .u32 r.num, .int .u32 r.arch, .int .u64 r.at_, .agg (r.args.map (Value.int .u64)).toArray] S w0 L fun v L' => v = .agg ((ofF r).map (Value.int .u32)).toArray ∧ L = L' := by
 have h1 := hr.num
 have h2 := hr.arch
 have h3 := hr.at_
 have hargs := hr.args
 obtain ⟨num, arch, at_, args⟩ := r
 obtain ⟨b0, b1, b2, b3, b4, b5, rfl⟩ : ∃ b0 b1 b2 b3 b4 b5, args = [b0, b1, b2, b3, b4, b5] := by
  match args, hr.len with
  | [_, _, _, _, _, _], _ => exact ⟨_, _, _, _, _, _, rfl⟩
 dsimp only at h1 h2 h3 hargs
 have g0 := hargs b0 (by simp)
 have g1 := hargs b1 (by simp)
 have g2 := hargs b2 (by simp)
 have g3 := hargs b3 (by simp)
 have g4 := hargs b4 (by simp)
 have g5 := hargs b5 (by simp)
 have hres : (ofF ⟨num, arch, at_, [b0, b1, b2, b3, b4, b5]⟩).map (Value.int .u32) = (ofC num arch at_ b0 b1 b2 b3 b4 b5 6).map (Value.int .u32) := rfl
 rw [hres]
 dsimp only [List.map]
 clear hargs hr hres
 refine Fn4 Try.func69 Try.ntmps69 rfl rfl ?_
 repeat' (first | (refine h4s (id:=1) ?_) | refine h1k ?_ | refine h0k ?_ | (refine gR 0 ?_ <;> (try refine h0a ?_; (refine h3e (t:=24) rfl rfl ?_; intro nb hnb; (try simp only [Value.cells]))) <;> (try refine h0a ?_; (refine h0u (t:=143) rfl Try.zeroValue143 ?_; intro nb hnb; (try simp only [Value.cells]))) <;> (try refine h0b ?_)))
 refine ⟨?_⟩
 rename_i nbA hnbA
 obtain ⟨nb8, rfl⟩ : ∃ x, x = nb := ⟨_, rfl⟩
 repeat' (first | (refine h5t (id:=0) ?_) | refine h1k ?_ | refine h0k ?_ | (refine gR 1 (p_m (h:=p_m (h:=p_m (h:=q_e (q_b (r:=by apply h1x; omega; omega; exact c_9)) ?_)))) <;> (try refine q_e (by apply h2l; exact rfl; (focus (apply h2j Try.underlying23 Try.underlying22; first | (refine IntWalk.i64_in _ ?_; omega) | (refine IntWalk.u8_in _ ?_; omega) | (refine IntWalk.u16_in _ ?_; omega) | (refine IntWalk.u32_in _ ?_; omega) | (refine IntWalk.u64_in _ ?_; omega) | (refine IntWalk.i32_in _ ?_; omega) | exact rfl))) ?_) <;> (try refine q_m ?_) <;> (try refine q_e (q_b (r:=by apply h4q; omega; omega; exact c_9; (focus (refine IntWalk.u64_in _ ?_; omega)))) ?_) <;> (try refine q_e (by apply h2l; exact rfl; (focus (apply h2j Try.underlying23 Try.underlying22; first | (refine IntWalk.i64_in _ ?_; omega) | (refine IntWalk.u8_in _ ?_; omega) | (refine IntWalk.u16_in _ ?_; omega) | (refine IntWalk.u32_in _ ?_; omega) | (refine IntWalk.u64_in _ ?_; omega) | (refine IntWalk.i32_in _ ?_; omega) | exact rfl))) ?_) <;> (try refine q_e (by exact h1s (t:=143) (fun vs => (match vs with | [(_, x0), (_, x1), (_, x2), (_, x3)] => [x0, x1, x2, x3, Value.int .u32 0, Value.int .u32 0, Value.int .u32 0, Value.int .u32 0, Value.int .u32 0, Value.int .u32 0, Value.int .u32 0, Value.int .u32 0, Value.int .u32 0, Value.int .u32 0, Value.int .u32 0, Value.int .u32 0] | _ => [])) rfl (fun w => by kernel_rfl)) ?_; (try simp only [Value.cells]); (try simp only [zzC, zzN])) <;> (try refine h0a ?_; (refine h0u (t:=143) rfl Try.zeroValue143 ?_; intro nb hnb; (try simp only [Value.cells]))) <;> (try refine h0a ?_; (refine q_W ?_)) <;> (try refine h0b ?_)) | (refine gR 2 (p_a (h:=h0b ?_))))
 refine ⟨?_⟩
 obtain ⟨nbR, rfl⟩ : ∃ x, x = nb := ⟨_, rfl⟩
 refine h0q ?_
 refine h4g (γ:=Nat) (fun k => k ≤ 6) (fun k => 6 - k) (fun k => [(10, .int .i64 (k : Nat))]) [(7, _), (8, _), (9, _)]
  (fun k => ⟨true, nbR, .cells ((ofC num arch at_ b0 b1 b2 b3 b4 b5 k).map (Value.int .u32)).toArray 143 (0, 0)⟩ :: ⟨true, nb8, .cells #[.int .u32 0, .int .u32 0, .int .u32 0, .int .u32 0, .int .u32 0, .int .u32 0, .int .u32 0, .int .u32 0, .int .u32 0, .int .u32 0, .int .u32 0, .int .u32 0, .int .u32 0, .int .u32 0, .int .u32 0, .int .u32 0] 143 (0, 0)⟩ :: ⟨true, nbA, .cells #[.int .u64 b0, .int .u64 b1, .int .u64 b2, .int .u64 b3, .int .u64 b4, .int .u64 b5] 24 (0, 0)⟩ :: L)
  0 (.cons rfl (.cons rfl (.cons rfl .nil))) (Nat.zero_le _) (by (focus (repeat (first | exact Sub.nil | refine Sub.cons rfl ?_)))) (fun _ H => H) ?_
 intro k (hk : k ≤ 6)
 simp only [List.cons_append, List.nil_append]
 rcases (show k = 0 ∨ k = 1 ∨ k = 2 ∨ k = 3 ∨ k = 4 ∨ k = 5 ∨ k = 6 by omega) with rfl | rfl | rfl | rfl | rfl | rfl | rfl
 case inr.inr.inr.inr.inr.inr =>
  simp only [ofC, List.map_cons, List.map_nil]
  repeat' (first | refine h1k ?_ | refine h0k ?_ | refine h1y ?_ | refine h1m ?_ | refine h1t ?_ | refine h2p ?_ | refine h2v ?_ | refine h0n rfl ?_ | (refine gR 3 (p_m (h:=p_e (q_b (r:=by exact h1q q_o)) (h:=h0b ?_)))) | (refine gR 7 (q_e (q_L sz_143) ?_) <;> (try refine h0a ?_; (refine q_W ?_)) <;> (try refine h0b ?_)))
  (apply h6f Try.results69; exact rfl; (focus (repeat (first | exact fd0 | (with_reducible assumption) | apply fdA | apply fdS))); kernel_rfl; kernel_rfl; exact sz_143; exact c_20)
  exact ⟨_, ⟨rfl, rfl⟩, by intro w H; refine H.sub ?_; (try simp only [zzC, zzN]); repeat (first | exact List.Sublist.refl _ | refine List.Sublist.cons _ ?_)⟩
 ·simp only [ofC, List.map_cons, List.map_nil]
  simp only [Nat.lt_irrefl, Nat.not_lt_zero, if_false, if_true, show (0 < 0) = False from by simp, show (1 < 0) = False from by simp, show (2 < 0) = False from by simp, show (3 < 0) = False from by simp, show (4 < 0) = False from by simp, show (5 < 0) = False from by simp]
  repeat' (first | refine h1k ?_ | refine h0k ?_ | refine h1g ?_ | refine h0y ?_ | refine h0q ?_ | refine h1j ?_ | refine h0o rfl ?_ | (refine gR 3 (p_m (h:=p_e (q_b (r:=by exact h0t q_o)) (h:=h0b ?_)))) | (refine gR 5 (q_m ?_) <;> (try refine q_e (q_b (r:=by apply h5j; exact c_9; (focus (refine IntWalk.i64_in _ ?_; omega)))) ?_) <;> (try refine q_e (q_b (r:=by apply h0w; exact c_9; (focus (refine IntWalk.i64_in _ ?_; omega)))) ?_) <;> (try refine p_m (h:=p_e (by apply h0f; exact rfl; exact rfl; (focus (apply h5p Try.underlying24 sz_23; omega; omega; exact c_2))) (h:=p_e q_l (h:=q_e (q_b (r:=by apply h1x; omega; omega; exact c_9)) ?_)))) <;> (try refine q_e (by apply h2l; exact rfl; (focus (apply h2j Try.underlying23 Try.underlying22; first | (refine IntWalk.i64_in _ ?_; omega) | (refine IntWalk.u8_in _ ?_; omega) | (refine IntWalk.u16_in _ ?_; omega) | (refine IntWalk.u32_in _ ?_; omega) | (refine IntWalk.u64_in _ ?_; omega) | (refine IntWalk.i32_in _ ?_; omega) | exact rfl))) ?_) <;> (try refine q_e (by apply h0f; exact rfl; exact rfl; (focus (apply h5p Try.underlying143 sz_22; omega; omega; exact c_2))) ?_) <;> (try refine h0a ?_; (refine q_S ?_)) <;> (try refine h0b ?_)) | (refine gR 6 (q_m ?_) <;> (try refine q_e (q_b (r:=by apply h5j; exact c_9; (focus (refine IntWalk.i64_in _ ?_; omega)))) ?_) <;> (try refine q_e (q_b (r:=by apply h0w; exact c_9; (focus (refine IntWalk.i64_in _ ?_; omega)))) ?_) <;> (try refine p_m (h:=p_e (by apply h0f; exact rfl; exact rfl; (focus (apply h5p Try.underlying24 sz_23; omega; omega; exact c_2))) (h:=q_e q_l ?_))) <;> (try refine q_e (q_b (r:=by apply h4q; omega; omega; exact c_9; (focus (refine IntWalk.u64_in _ ?_; omega)))) ?_) <;> (try refine q_e (by apply h2l; exact rfl; (focus (apply h2j Try.underlying23 Try.underlying22; first | (refine IntWalk.i64_in _ ?_; omega) | (refine IntWalk.u8_in _ ?_; omega) | (refine IntWalk.u16_in _ ?_; omega) | (refine IntWalk.u32_in _ ?_; omega) | (refine IntWalk.u64_in _ ?_; omega) | (refine IntWalk.i32_in _ ?_; omega) | exact rfl))) ?_) <;> (try refine q_e (by apply h0f; exact rfl; exact rfl; (focus (apply h5p Try.underlying143 sz_22; omega; omega; exact c_2))) ?_) <;> (try refine h0a ?_; (refine q_S ?_)) <;> (try refine h0b ?_)) | (refine gR 4 (q_m ?_) <;> (try refine q_e (q_b (r:=by apply h0w; exact c_9; (focus (refine IntWalk.i64_in _ ?_; omega)))) ?_) <;> (try refine p_a (h:=h0b ?_))))
  exact h2u 1 ⟨by omega, by omega⟩ (by (focus (repeat (first | exact Sub.nil | refine Sub.cons rfl ?_)))) (fun _ H => H)
 ·simp only [ofC, List.map_cons, List.map_nil]
  simp only [Nat.lt_irrefl, Nat.not_lt_zero, if_false, if_true, show (0 < 1) = True from by simp, show (1 < 1) = False from by simp, show (2 < 1) = False from by simp, show (3 < 1) = False from by simp, show (4 < 1) = False from by simp, show (5 < 1) = False from by simp]
  repeat' (first | refine h1k ?_ | refine h0k ?_ | refine h1g ?_ | refine h0y ?_ | refine h0q ?_ | refine h1j ?_ | refine h0o rfl ?_ | (refine gR 3 (p_m (h:=p_e (q_b (r:=by exact h0t q_o)) (h:=h0b ?_)))) | (refine gR 5 (q_m ?_) <;> (try refine q_e (q_b (r:=by apply h5j; exact c_9; (focus (refine IntWalk.i64_in _ ?_; omega)))) ?_) <;> (try refine q_e (q_b (r:=by apply h0w; exact c_9; (focus (refine IntWalk.i64_in _ ?_; omega)))) ?_) <;> (try refine p_m (h:=p_e (by apply h0f; exact rfl; exact rfl; (focus (apply h5p Try.underlying24 sz_23; omega; omega; exact c_2))) (h:=p_e q_l (h:=q_e (q_b (r:=by apply h1x; omega; omega; exact c_9)) ?_)))) <;> (try refine q_e (by apply h2l; exact rfl; (focus (apply h2j Try.underlying23 Try.underlying22; first | (refine IntWalk.i64_in _ ?_; omega) | (refine IntWalk.u8_in _ ?_; omega) | (refine IntWalk.u16_in _ ?_; omega) | (refine IntWalk.u32_in _ ?_; omega) | (refine IntWalk.u64_in _ ?_; omega) | (refine IntWalk.i32_in _ ?_; omega) | exact rfl))) ?_) <;> (try refine q_e (by apply h0f; exact rfl; exact rfl; (focus (apply h5p Try.underlying143 sz_22; omega; omega; exact c_2))) ?_) <;> (try refine h0a ?_; (refine q_S ?_)) <;> (try refine h0b ?_)) | (refine gR 6 (q_m ?_) <;> (try refine q_e (q_b (r:=by apply h5j; exact c_9; (focus (refine IntWalk.i64_in _ ?_; omega)))) ?_) <;> (try refine q_e (q_b (r:=by apply h0w; exact c_9; (focus (refine IntWalk.i64_in _ ?_; omega)))) ?_) <;> (try refine p_m (h:=p_e (by apply h0f; exact rfl; exact rfl; (focus (apply h5p Try.underlying24 sz_23; omega; omega; exact c_2))) (h:=q_e q_l ?_))) <;> (try refine q_e (q_b (r:=by apply h4q; omega; omega; exact c_9; (focus (refine IntWalk.u64_in _ ?_; omega)))) ?_) <;> (try refine q_e (by apply h2l; exact rfl; (focus (apply h2j Try.underlying23 Try.underlying22; first | (refine IntWalk.i64_in _ ?_; omega) | (refine IntWalk.u8_in _ ?_; omega) | (refine IntWalk.u16_in _ ?_; omega) | (refine IntWalk.u32_in _ ?_; omega) | (refine IntWalk.u64_in _ ?_; omega) | (refine IntWalk.i32_in _ ?_; omega) | exact rfl))) ?_) <;> (try refine q_e (by apply h0f; exact rfl; exact rfl; (focus (apply h5p Try.underlying143 sz_22; omega; omega; exact c_2))) ?_) <;> (try refine h0a ?_; (refine q_S ?_)) <;> (try refine h0b ?_)) | (refine gR 4 (q_m ?_) <;> (try refine q_e (q_b (r:=by apply h0w; exact c_9; (focus (refine IntWalk.i64_in _ ?_; omega)))) ?_) <;> (try refine p_a (h:=h0b ?_))))
  exact h2u 2 ⟨by omega, by omega⟩ (by (focus (repeat (first | exact Sub.nil | refine Sub.cons rfl ?_)))) (fun _ H => H)
 ·simp only [ofC, List.map_cons, List.map_nil]
  simp only [Nat.lt_irrefl, Nat.not_lt_zero, if_false, if_true, show (0 < 2) = True from by simp, show (1 < 2) = True from by simp, show (2 < 2) = False from by simp, show (3 < 2) = False from by simp, show (4 < 2) = False from by simp, show (5 < 2) = False from by simp]
  repeat' (first | refine h1k ?_ | refine h0k ?_ | refine h1g ?_ | refine h0y ?_ | refine h0q ?_ | refine h1j ?_ | refine h0o rfl ?_ | (refine gR 3 (p_m (h:=p_e (q_b (r:=by exact h0t q_o)) (h:=h0b ?_)))) | (refine gR 5 (q_m ?_) <;> (try refine q_e (q_b (r:=by apply h5j; exact c_9; (focus (refine IntWalk.i64_in _ ?_; omega)))) ?_) <;> (try refine q_e (q_b (r:=by apply h0w; exact c_9; (focus (refine IntWalk.i64_in _ ?_; omega)))) ?_) <;> (try refine p_m (h:=p_e (by apply h0f; exact rfl; exact rfl; (focus (apply h5p Try.underlying24 sz_23; omega; omega; exact c_2))) (h:=p_e q_l (h:=q_e (q_b (r:=by apply h1x; omega; omega; exact c_9)) ?_)))) <;> (try refine q_e (by apply h2l; exact rfl; (focus (apply h2j Try.underlying23 Try.underlying22; first | (refine IntWalk.i64_in _ ?_; omega) | (refine IntWalk.u8_in _ ?_; omega) | (refine IntWalk.u16_in _ ?_; omega) | (refine IntWalk.u32_in _ ?_; omega) | (refine IntWalk.u64_in _ ?_; omega) | (refine IntWalk.i32_in _ ?_; omega) | exact rfl))) ?_) <;> (try refine q_e (by apply h0f; exact rfl; exact rfl; (focus (apply h5p Try.underlying143 sz_22; omega; omega; exact c_2))) ?_) <;> (try refine h0a ?_; (refine q_S ?_)) <;> (try refine h0b ?_)) | (refine gR 6 (q_m ?_) <;> (try refine q_e (q_b (r:=by apply h5j; exact c_9; (focus (refine IntWalk.i64_in _ ?_; omega)))) ?_) <;> (try refine q_e (q_b (r:=by apply h0w; exact c_9; (focus (refine IntWalk.i64_in _ ?_; omega)))) ?_) <;> (try refine p_m (h:=p_e (by apply h0f; exact rfl; exact rfl; (focus (apply h5p Try.underlying24 sz_23; omega; omega; exact c_2))) (h:=q_e q_l ?_))) <;> (try refine q_e (q_b (r:=by apply h4q; omega; omega; exact c_9; (focus (refine IntWalk.u64_in _ ?_; omega)))) ?_) <;> (try refine q_e (by apply h2l; exact rfl; (focus (apply h2j Try.underlying23 Try.underlying22; first | (refine IntWalk.i64_in _ ?_; omega) | (refine IntWalk.u8_in _ ?_; omega) | (refine IntWalk.u16_in _ ?_; omega) | (refine IntWalk.u32_in _ ?_; omega) | (refine IntWalk.u64_in _ ?_; omega) | (refine IntWalk.i32_in _ ?_; omega) | exact rfl))) ?_) <;> (try refine q_e (by apply h0f; exact rfl; exact rfl; (focus (apply h5p Try.underlying143 sz_22; omega; omega; exact c_2))) ?_) <;> (try refine h0a ?_; (refine q_S ?_)) <;> (try refine h0b ?_)) | (refine gR 4 (q_m ?_) <;> (try refine q_e (q_b (r:=by apply h0w; exact c_9; (focus (refine IntWalk.i64_in _ ?_; omega)))) ?_) <;> (try refine p_a (h:=h0b ?_))))
  exact h2u 3 ⟨by omega, by omega⟩ (by (focus (repeat (first | exact Sub.nil | refine Sub.cons rfl ?_)))) (fun _ H => H)
 ·simp only [ofC, List.map_cons, List.map_nil]
  simp only [Nat.lt_irrefl, Nat.not_lt_zero, if_false, if_true, show (0 < 3) = True from by simp, show (1 < 3) = True from by simp, show (2 < 3) = True from by simp, show (3 < 3) = False from by simp, show (4 < 3) = False from by simp, show (5 < 3) = False from by simp]
  repeat' (first | refine h1k ?_ | refine h0k ?_ | refine h1g ?_ | refine h0y ?_ | refine h0q ?_ | refine h1j ?_ | refine h0o rfl ?_ | (refine gR 3 (p_m (h:=p_e (q_b (r:=by exact h0t q_o)) (h:=h0b ?_)))) | (refine gR 5 (q_m ?_) <;> (try refine q_e (q_b (r:=by apply h5j; exact c_9; (focus (refine IntWalk.i64_in _ ?_; omega)))) ?_) <;> (try refine q_e (q_b (r:=by apply h0w; exact c_9; (focus (refine IntWalk.i64_in _ ?_; omega)))) ?_) <;> (try refine p_m (h:=p_e (by apply h0f; exact rfl; exact rfl; (focus (apply h5p Try.underlying24 sz_23; omega; omega; exact c_2))) (h:=p_e q_l (h:=q_e (q_b (r:=by apply h1x; omega; omega; exact c_9)) ?_)))) <;> (try refine q_e (by apply h2l; exact rfl; (focus (apply h2j Try.underlying23 Try.underlying22; first | (refine IntWalk.i64_in _ ?_; omega) | (refine IntWalk.u8_in _ ?_; omega) | (refine IntWalk.u16_in _ ?_; omega) | (refine IntWalk.u32_in _ ?_; omega) | (refine IntWalk.u64_in _ ?_; omega) | (refine IntWalk.i32_in _ ?_; omega) | exact rfl))) ?_) <;> (try refine q_e (by apply h0f; exact rfl; exact rfl; (focus (apply h5p Try.underlying143 sz_22; omega; omega; exact c_2))) ?_) <;> (try refine h0a ?_; (refine q_S ?_)) <;> (try refine h0b ?_)) | (refine gR 6 (q_m ?_) <;> (try refine q_e (q_b (r:=by apply h5j; exact c_9; (focus (refine IntWalk.i64_in _ ?_; omega)))) ?_) <;> (try refine q_e (q_b (r:=by apply h0w; exact c_9; (focus (refine IntWalk.i64_in _ ?_; omega)))) ?_) <;> (try refine p_m (h:=p_e (by apply h0f; exact rfl; exact rfl; (focus (apply h5p Try.underlying24 sz_23; omega; omega; exact c_2))) (h:=q_e q_l ?_))) <;> (try refine q_e (q_b (r:=by apply h4q; omega; omega; exact c_9; (focus (refine IntWalk.u64_in _ ?_; omega)))) ?_) <;> (try refine q_e (by apply h2l; exact rfl; (focus (apply h2j Try.underlying23 Try.underlying22; first | (refine IntWalk.i64_in _ ?_; omega) | (refine IntWalk.u8_in _ ?_; omega) | (refine IntWalk.u16_in _ ?_; omega) | (refine IntWalk.u32_in _ ?_; omega) | (refine IntWalk.u64_in _ ?_; omega) | (refine IntWalk.i32_in _ ?_; omega) | exact rfl))) ?_) <;> (try refine q_e (by apply h0f; exact rfl; exact rfl; (focus (apply h5p Try.underlying143 sz_22; omega; omega; exact c_2))) ?_) <;> (try refine h0a ?_; (refine q_S ?_)) <;> (try refine h0b ?_)) | (refine gR 4 (q_m ?_) <;> (try refine q_e (q_b (r:=by apply h0w; exact c_9; (focus (refine IntWalk.i64_in _ ?_; omega)))) ?_) <;> (try refine p_a (h:=h0b ?_))))
  exact h2u 4 ⟨by omega, by omega⟩ (by (focus (repeat (first | exact Sub.nil | refine Sub.cons rfl ?_)))) (fun _ H => H)
 ·simp only [ofC, List.map_cons, List.map_nil]
  simp only [Nat.lt_irrefl, Nat.not_lt_zero, if_false, if_true, show (0 < 4) = True from by simp, show (1 < 4) = True from by simp, show (2 < 4) = True from by simp, show (3 < 4) = True from by simp, show (4 < 4) = False from by simp, show (5 < 4) = False from by simp]
  repeat' (first | refine h1k ?_ | refine h0k ?_ | refine h1g ?_ | refine h0y ?_ | refine h0q ?_ | refine h1j ?_ | refine h0o rfl ?_ | (refine gR 3 (p_m (h:=p_e (q_b (r:=by exact h0t q_o)) (h:=h0b ?_)))) | (refine gR 5 (q_m ?_) <;> (try refine q_e (q_b (r:=by apply h5j; exact c_9; (focus (refine IntWalk.i64_in _ ?_; omega)))) ?_) <;> (try refine q_e (q_b (r:=by apply h0w; exact c_9; (focus (refine IntWalk.i64_in _ ?_; omega)))) ?_) <;> (try refine p_m (h:=p_e (by apply h0f; exact rfl; exact rfl; (focus (apply h5p Try.underlying24 sz_23; omega; omega; exact c_2))) (h:=p_e q_l (h:=q_e (q_b (r:=by apply h1x; omega; omega; exact c_9)) ?_)))) <;> (try refine q_e (by apply h2l; exact rfl; (focus (apply h2j Try.underlying23 Try.underlying22; first | (refine IntWalk.i64_in _ ?_; omega) | (refine IntWalk.u8_in _ ?_; omega) | (refine IntWalk.u16_in _ ?_; omega) | (refine IntWalk.u32_in _ ?_; omega) | (refine IntWalk.u64_in _ ?_; omega) | (refine IntWalk.i32_in _ ?_; omega) | exact rfl))) ?_) <;> (try refine q_e (by apply h0f; exact rfl; exact rfl; (focus (apply h5p Try.underlying143 sz_22; omega; omega; exact c_2))) ?_) <;> (try refine h0a ?_; (refine q_S ?_)) <;> (try refine h0b ?_)) | (refine gR 6 (q_m ?_) <;> (try refine q_e (q_b (r:=by apply h5j; exact c_9; (focus (refine IntWalk.i64_in _ ?_; omega)))) ?_) <;> (try refine q_e (q_b (r:=by apply h0w; exact c_9; (focus (refine IntWalk.i64_in _ ?_; omega)))) ?_) <;> (try refine p_m (h:=p_e (by apply h0f; exact rfl; exact rfl; (focus (apply h5p Try.underlying24 sz_23; omega; omega; exact c_2))) (h:=q_e q_l ?_))) <;> (try refine q_e (q_b (r:=by apply h4q; omega; omega; exact c_9; (focus (refine IntWalk.u64_in _ ?_; omega)))) ?_) <;> (try refine q_e (by apply h2l; exact rfl; (focus (apply h2j Try.underlying23 Try.underlying22; first | (refine IntWalk.i64_in _ ?_; omega) | (refine IntWalk.u8_in _ ?_; omega) | (refine IntWalk.u16_in _ ?_; omega) | (refine IntWalk.u32_in _ ?_; omega) | (refine IntWalk.u64_in _ ?_; omega) | (refine IntWalk.i32_in _ ?_; omega) | exact rfl))) ?_) <;> (try refine q_e (by apply h0f; exact rfl; exact rfl; (focus (apply h5p Try.underlying143 sz_22; omega; omega; exact c_2))) ?_) <;> (try refine h0a ?_; (refine q_S ?_)) <;> (try refine h0b ?_)) | (refine gR 4 (q_m ?_) <;> (try refine q_e (q_b (r:=by apply h0w; exact c_9; (focus (refine IntWalk.i64_in _ ?_; omega)))) ?_) <;> (try refine p_a (h:=h0b ?_))))
  exact h2u 5 ⟨by omega, by omega⟩ (by (focus (repeat (first | exact Sub.nil | refine Sub.cons rfl ?_)))) (fun _ H => H)
 ·simp only [ofC, List.map_cons, List.map_nil]
  simp only [Nat.lt_irrefl, Nat.not_lt_zero, if_false, if_true, show (0 < 5) = True from by simp, show (1 < 5) = True from by simp, show (2 < 5) = True from by simp, show (3 < 5) = True from by simp, show (4 < 5) = True from by simp, show (5 < 5) = False from by simp]
  repeat' (first | refine h1k ?_ | refine h0k ?_ | refine h1g ?_ | refine h0y ?_ | refine h0q ?_ | refine h1j ?_ | refine h0o rfl ?_ | (refine gR 3 (p_m (h:=p_e (q_b (r:=by exact h0t q_o)) (h:=h0b ?_)))) | (refine gR 5 (q_m ?_) <;> (try refine q_e (q_b (r:=by apply h5j; exact c_9; (focus (refine IntWalk.i64_in _ ?_; omega)))) ?_) <;> (try refine q_e (q_b (r:=by apply h0w; exact c_9; (focus (refine IntWalk.i64_in _ ?_; omega)))) ?_) <;> (try refine p_m (h:=p_e (by apply h0f; exact rfl; exact rfl; (focus (apply h5p Try.underlying24 sz_23; omega; omega; exact c_2))) (h:=p_e q_l (h:=q_e (q_b (r:=by apply h1x; omega; omega; exact c_9)) ?_)))) <;> (try refine q_e (by apply h2l; exact rfl; (focus (apply h2j Try.underlying23 Try.underlying22; first | (refine IntWalk.i64_in _ ?_; omega) | (refine IntWalk.u8_in _ ?_; omega) | (refine IntWalk.u16_in _ ?_; omega) | (refine IntWalk.u32_in _ ?_; omega) | (refine IntWalk.u64_in _ ?_; omega) | (refine IntWalk.i32_in _ ?_; omega) | exact rfl))) ?_) <;> (try refine q_e (by apply h0f; exact rfl; exact rfl; (focus (apply h5p Try.underlying143 sz_22; omega; omega; exact c_2))) ?_) <;> (try refine h0a ?_; (refine q_S ?_)) <;> (try refine h0b ?_)) | (refine gR 6 (q_m ?_) <;> (try refine q_e (q_b (r:=by apply h5j; exact c_9; (focus (refine IntWalk.i64_in _ ?_; omega)))) ?_) <;> (try refine q_e (q_b (r:=by apply h0w; exact c_9; (focus (refine IntWalk.i64_in _ ?_; omega)))) ?_) <;> (try refine p_m (h:=p_e (by apply h0f; exact rfl; exact rfl; (focus (apply h5p Try.underlying24 sz_23; omega; omega; exact c_2))) (h:=q_e q_l ?_))) <;> (try refine q_e (q_b (r:=by apply h4q; omega; omega; exact c_9; (focus (refine IntWalk.u64_in _ ?_; omega)))) ?_) <;> (try refine q_e (by apply h2l; exact rfl; (focus (apply h2j Try.underlying23 Try.underlying22; first | (refine IntWalk.i64_in _ ?_; omega) | (refine IntWalk.u8_in _ ?_; omega) | (refine IntWalk.u16_in _ ?_; omega) | (refine IntWalk.u32_in _ ?_; omega) | (refine IntWalk.u64_in _ ?_; omega) | (refine IntWalk.i32_in _ ?_; omega) | exact rfl))) ?_) <;> (try refine q_e (by apply h0f; exact rfl; exact rfl; (focus (apply h5p Try.underlying143 sz_22; omega; omega; exact c_2))) ?_) <;> (try refine h0a ?_; (refine q_S ?_)) <;> (try refine h0b ?_)) | (refine gR 4 (q_m ?_) <;> (try refine q_e (q_b (r:=by apply h0w; exact c_9; (focus (refine IntWalk.i64_in _ ?_; omega)))) ?_) <;> (try refine p_a (h:=h0b ?_))))
  exact h2u 6 ⟨by omega, by omega⟩ (by (focus (repeat (first | exact Sub.nil | refine Sub.cons rfl ?_)))) (fun _ H => H)
structure DbI (a : Int) (n : Nat) (g : Nat × Int) : Prop where
 le : g.1 ≤ n
 eq : g.2 = (a * 2 ^ g.1) % 4294967296
structure HvI (a : Int) (n : Nat) (g : Nat × Int) : Prop where
 le : g.1 ≤ n
 eq : g.2 = a / 2 ^ g.1
 rng : 0 ≤ g.2 ∧ g.2 < 4294967296
theorem dbl (x : Int) : (x % 4294967296) * 2 % 4294967296 = x * 2 % 4294967296 := by omega
set_option maxHeartbeats 1000000 in
theorem rreckon_c {S w0 L} (o a b : Int) (ho : 0 ≤ o ∧ o < 4096) (ha : 0 ≤ a ∧ a < 4294967296) (hb : 0 ≤ b ∧ b < 4294967296) (h3 : o = 3 → b ≠ 0) : Fn Try.prog 71 #[.int .i64 o, .int .u32 a, .int .u32 b] S w0 L fun v L' => v = .int .u32 (rck o a b) ∧ L = L' := by
 by_cases h6 : o = 6
 ·subst h6
  have hr : rck 6 a b = (a * 2 ^ (b % 32).toNat) % 4294967296 := rfl
  rw [hr]
  obtain ⟨n, hn⟩ : ∃ n : Nat, b % 32 = (n : Int) := ⟨(b % 32).toNat, by omega⟩
  rw [hn, Int.toNat_natCast]
  clear hr h3
  refine Fn3 Try.func71 Try.ntmps71 rfl rfl ?_
  repeat' (first | (refine h5t (id:=1) ?_) | refine h1k ?_ | refine h0k ?_ | refine h0q ?_ | refine h0o rfl ?_ | refine h0n rfl ?_ | (refine gR 0 (p_a (h:=h0b ?_))) | (refine gR 1 (p_m (h:=h0b ?_))) | (refine gR 2 (p_e (q_b (r:=by exact h0e q_o)) (h:=p_a (h:=h0b ?_)))) | (refine gR 4 (p_e (q_b (r:=by exact h0e q_o)) (h:=p_a (h:=h0b ?_)))) | (refine gR 6 (p_e (q_b (r:=by exact h0e q_o)) (h:=p_a (h:=h0b ?_)))) | (refine gR 8 (p_e (q_b (r:=by exact h0e q_o)) (h:=p_a (h:=h0b ?_)))) | (refine gR 10 (p_e (q_b (r:=by exact h0e q_o)) (h:=p_a (h:=h0b ?_)))) | (refine gR 12 (p_e (q_b (r:=by exact h0e q_o)) (h:=p_a (h:=h0b ?_)))) | (refine gR 14 ?_ <;> (try refine q_e (by exact q_b (r:=by refine h0g ?_; first | rfl | (with_reducible assumption) | (decide; done) | omega)) ?_) <;> (try refine p_a (h:=h0b ?_))) | (refine gR 15 (p_a (h:=h0b ?_))))
  refine ⟨?_⟩
  refine h0q ?_
  refine h4g (γ:=Nat × Int) (DbI a n) (fun g => n - g.1) (fun g => [(7, .int .u32 (g.1 : Nat)), (1, .int .u32 g.2)]) [(2, _)]
   (fun _ => L) (0, a) (.cons rfl .nil) ⟨Nat.zero_le _, by dsimp only; rw [Int.pow_zero]; omega⟩ (by (focus (repeat (first | exact Sub.nil | refine Sub.cons rfl ?_)))) (fun _ H => H) ?_
  rintro ⟨k, x⟩ ⟨hk, hx⟩
  dsimp only at hk hx ⊢
  simp only [List.cons_append, List.nil_append]
  have hx' := Lib.hid hx
  have hxr : 0 ≤ x ∧ x < 4294967296 := by rw [hx]; omega
  clear hx
  by_cases hlt : k < n
  ·repeat' (first | refine h1k ?_ | refine h0k ?_ | refine h1g ?_ | refine h0y ?_ | refine h0q ?_ | refine h1j ?_ | refine h0o rfl ?_ | (refine gR 16 (p_m (h:=p_m (h:=p_e (q_b (r:=by apply h1x; omega; omega; exact c_9)) (h:=p_e (q_b (r:=by exact h0t q_o)) (h:=h0b ?_)))))) | (refine gR 18 (p_m (h:=p_e (q_b (r:=by apply h5j; exact c_9; exact rfl)) (h:=p_a (h:=h0b ?_))))) | (refine gR 17 (q_m ?_) <;> (try refine q_e (q_b (r:=by apply h0w; exact c_9; (focus (refine IntWalk.u32_in _ ?_; omega)))) ?_) <;> (try refine p_a (h:=h0b ?_))))
   refine h2u (k + 1, x * 2 % 4294967296) ⟨⟨by dsimp only; omega, ?_⟩, by dsimp only; omega⟩ (by (focus (repeat (first | exact Sub.nil | refine Sub.cons rfl ?_)))) (fun _ H => H)
   dsimp only
   rw [hx'.out, dbl, Int.pow_succ, Int.mul_assoc]
  ·obtain rfl : k = n := by omega
   repeat' (first | refine h1k ?_ | refine h0k ?_ | refine h1y ?_ | refine h1m ?_ | refine h1n ?_ | refine h1u ?_ | refine h1t ?_ | refine h2p ?_ | refine h2v ?_ | refine h0n rfl ?_ | (refine gR 16 (p_m (h:=p_m (h:=p_e (q_b (r:=by apply h1x; omega; omega; exact c_9)) (h:=p_e (q_b (r:=by exact h1q q_o)) (h:=h0b ?_)))))) | (refine gR 19 (p_m (h:=p_a (h:=h0b ?_)))))
   (refine h2k Try.results71 (.tmp rfl .nil) ?_)
   rw [hx'.out]
   exact ⟨_, ⟨rfl, rfl⟩, by intro w H; refine H.sub ?_; (try simp only [zzC, zzN]); repeat (exact List.Sublist.refl _)⟩
 by_cases h7 : o = 7
 ·subst h7
  have hr : rck 7 a b = a / 2 ^ (b % 32).toNat := rfl
  rw [hr]
  obtain ⟨n, hn⟩ : ∃ n : Nat, b % 32 = (n : Int) := ⟨(b % 32).toNat, by omega⟩
  rw [hn, Int.toNat_natCast]
  clear hr h3 h6
  refine Fn3 Try.func71 Try.ntmps71 rfl rfl ?_
  repeat' (first | (refine h5t (id:=3) ?_) | refine h1k ?_ | refine h0k ?_ | refine h0q ?_ | refine h0o rfl ?_ | refine h0n rfl ?_ | (refine gR 0 (p_a (h:=h0b ?_))) | (refine gR 1 (p_m (h:=h0b ?_))) | (refine gR 2 (p_e (q_b (r:=by exact h0e q_o)) (h:=p_a (h:=h0b ?_)))) | (refine gR 4 (p_e (q_b (r:=by exact h0e q_o)) (h:=p_a (h:=h0b ?_)))) | (refine gR 6 (p_e (q_b (r:=by exact h0e q_o)) (h:=p_a (h:=h0b ?_)))) | (refine gR 8 (p_e (q_b (r:=by exact h0e q_o)) (h:=p_a (h:=h0b ?_)))) | (refine gR 10 (p_e (q_b (r:=by exact h0e q_o)) (h:=p_a (h:=h0b ?_)))) | (refine gR 12 (p_e (q_b (r:=by exact h0e q_o)) (h:=p_a (h:=h0b ?_)))) | (refine gR 14 (p_e (q_b (r:=by exact h0e q_o)) (h:=p_a (h:=h0b ?_)))) | (refine gR 20 ?_ <;> (try refine q_e (by exact q_b (r:=by refine h0g ?_; first | rfl | (with_reducible assumption) | (decide; done) | omega)) ?_) <;> (try refine p_a (h:=h0b ?_))) | (refine gR 21 (p_a (h:=h0b ?_))))
  refine ⟨?_⟩
  refine h0q ?_
  refine h4g (γ:=Nat × Int) (HvI a n) (fun g => n - g.1) (fun g => [(8, .int .u32 (g.1 : Nat)), (1, .int .u32 g.2)]) [(2, _)]
   (fun _ => L) (0, a) (.cons rfl .nil) ⟨Nat.zero_le _, by dsimp only; rw [Int.pow_zero]; omega, ha⟩ (by (focus (repeat (first | exact Sub.nil | refine Sub.cons rfl ?_)))) (fun _ H => H) ?_
  rintro ⟨k, x⟩ ⟨hk, hx, hxr⟩
  dsimp only at hk hx hxr ⊢
  simp only [List.cons_append, List.nil_append]
  have hx' := Lib.hid hx
  clear hx
  by_cases hlt : k < n
  ·repeat' (first | refine h1k ?_ | refine h0k ?_ | refine h1g ?_ | refine h0y ?_ | refine h0q ?_ | refine h1j ?_ | refine h0o rfl ?_ | (refine gR 22 (p_m (h:=p_m (h:=p_e (q_b (r:=by apply h1x; omega; omega; exact c_9)) (h:=p_e (q_b (r:=by exact h0t q_o)) (h:=h0b ?_)))))) | (refine gR 24 (q_m ?_) <;> (try refine q_e (q_b (r:=by apply h4q; omega; omega; exact c_9; (focus (refine IntWalk.u32_in _ ?_; omega)))) ?_) <;> (try refine p_a (h:=h0b ?_))) | (refine gR 23 (q_m ?_) <;> (try refine q_e (q_b (r:=by apply h0w; exact c_9; (focus (refine IntWalk.u32_in _ ?_; omega)))) ?_) <;> (try refine p_a (h:=h0b ?_))))
   refine h2u (k + 1, x / 2) ⟨⟨by dsimp only; omega, ?_, by dsimp only; omega⟩, by dsimp only; omega⟩ (by (focus (repeat (first | exact Sub.nil | refine Sub.cons rfl ?_)))) (fun _ H => H)
   dsimp only
   rw [hx'.out, Int.pow_succ, Int.ediv_ediv_of_nonneg (Int.le_of_lt (Int.pow_pos (by decide)))]
  ·obtain rfl : k = n := by omega
   repeat' (first | refine h1k ?_ | refine h0k ?_ | refine h1y ?_ | refine h1m ?_ | refine h1n ?_ | refine h1u ?_ | refine h1t ?_ | refine h2p ?_ | refine h2v ?_ | refine h0n rfl ?_ | (refine gR 22 (p_m (h:=p_m (h:=p_e (q_b (r:=by apply h1x; omega; omega; exact c_9)) (h:=p_e (q_b (r:=by exact h1q q_o)) (h:=h0b ?_)))))) | (refine gR 25 (p_m (h:=p_a (h:=h0b ?_)))))
   (refine h2k Try.results71 (.tmp rfl .nil) ?_)
   rw [hx'.out]
   exact ⟨_, ⟨rfl, rfl⟩, by intro w H; refine H.sub ?_; (try simp only [zzC, zzN]); repeat (exact List.Sublist.refl _)⟩
 have key : o = 0 ∨ o = 1 ∨ o = 2 ∨ (o = 3 ∧ b ≠ 0) ∨ o = 4 ∨ o = 5 ∨ o = 8 ∨ (o ≠ 0 ∧ o ≠ 1 ∧ o ≠ 2 ∧ o ≠ 3 ∧ o ≠ 4 ∧ o ≠ 5 ∧ o ≠ 8) := by omega
 refine Fn3 Try.func71 Try.ntmps71 rfl rfl ?_
 rcases key with rfl | rfl | rfl | ⟨rfl, hb0⟩ | rfl | rfl | rfl | ⟨k0, k1, k2, k3, k4, k5, k8⟩
 case inr.inr.inr.inr.inr.inr.inr =>
  have hr : rck o a b = ixor a b := by unfold rck; rw [if_neg k0, if_neg k1, if_neg k2, if_neg k3, if_neg k4, if_neg k5, if_neg h6, if_neg h7, if_neg k8]
  rw [hr]
  repeat' (first | refine h1k ?_ | refine h0k ?_ | refine h0y ?_ | refine h0q ?_ | refine h1j ?_ | refine h2v ?_ | refine h0n rfl ?_ | (refine gR 0 (p_a (h:=h0b ?_))) | (refine gR 1 (p_m (h:=h0b ?_))) | (refine gR 2 (p_e (q_b (r:=by exact h0e q_o)) (h:=p_a (h:=h0b ?_)))) | (refine gR 4 (p_e (q_b (r:=by exact h0e q_o)) (h:=p_a (h:=h0b ?_)))) | (refine gR 6 (p_e (q_b (r:=by exact h0e q_o)) (h:=p_a (h:=h0b ?_)))) | (refine gR 8 (p_e (q_b (r:=by exact h0e q_o)) (h:=p_a (h:=h0b ?_)))) | (refine gR 10 (p_e (q_b (r:=by exact h0e q_o)) (h:=p_a (h:=h0b ?_)))) | (refine gR 12 (p_e (q_b (r:=by exact h0e q_o)) (h:=p_a (h:=h0b ?_)))) | (refine gR 14 (p_e (q_b (r:=by exact h0e q_o)) (h:=p_a (h:=h0b ?_)))) | (refine gR 20 (p_e (q_b (r:=by exact h0e q_o)) (h:=p_a (h:=h0b ?_)))) | (refine gR 26 (p_e (q_b (r:=by exact h0e q_o)) (h:=p_a (h:=h0b ?_)))) | (refine gR 28 (p_m (h:=q_m ?_)) <;> (try refine q_e (q_b (r:=by refine rb_xor ?_ ?_; (focus (refine ⟨rfl, ⟨?_, ?_⟩⟩; omega; (focus (simp only [IntKind.bits]; omega)))); (focus (refine ⟨rfl, ⟨?_, ?_⟩⟩; omega; (focus (simp only [IntKind.bits]; omega)))))) ?_) <;> (try refine p_a (h:=h0b ?_))))
  (refine h2k Try.results71 (.tmp rfl .nil) ?_)
  exact ⟨_, ⟨rfl, rfl⟩, by intro w H; refine H.sub ?_; (try simp only [zzC, zzN]); repeat (exact List.Sublist.refl _)⟩
 all_goals
  have hd : 0 ≤ a / b ∧ a / b < 4294967296 := ⟨Int.ediv_nonneg ha.1 hb.1, Int.lt_of_le_of_lt (Int.ediv_le_self b ha.1) ha.2⟩
  clear h3 h6 h7
  repeat' (first | refine h1k ?_ | refine h0k ?_ | refine h1n ?_ | refine h1u ?_ | refine h0q ?_ | refine h2v ?_ | refine h0o rfl ?_ | refine h0n rfl ?_ | (refine gR 0 (p_a (h:=h0b ?_))) | (refine gR 1 (p_m (h:=h0b ?_))) | (refine gR 2 ?_ <;> (try refine q_e (by exact q_b (r:=by first | (refine h0g ?_; first | rfl | (with_reducible assumption) | (decide; done) | omega) | (exact h0e q_o))) ?_) <;> (try refine p_a (h:=h0b ?_))) | (refine gR 3 (p_m (h:=p_m (h:=p_e (q_b (r:=by apply h0w; exact c_9; exact rfl)) (h:=p_a (h:=h0b ?_)))))) | (refine gR 4 ?_ <;> (try refine q_e (by exact q_b (r:=by first | (refine h0g ?_; first | rfl | (with_reducible assumption) | (decide; done) | omega) | (exact h0e q_o))) ?_) <;> (try refine p_a (h:=h0b ?_))) | (refine gR 5 (p_m (h:=p_m (h:=p_e (q_b (r:=by apply rb_sub; exact c_9; exact rfl)) (h:=p_a (h:=h0b ?_)))))) | (refine gR 6 ?_ <;> (try refine q_e (by exact q_b (r:=by first | (refine h0g ?_; first | rfl | (with_reducible assumption) | (decide; done) | omega) | (exact h0e q_o))) ?_) <;> (try refine p_a (h:=h0b ?_))) | (refine gR 7 (p_m (h:=p_m (h:=p_e (q_b (r:=by apply h5j; exact c_9; exact rfl)) (h:=p_a (h:=h0b ?_)))))) | (refine gR 8 ?_ <;> (try refine q_e (by exact q_b (r:=by first | (refine h0g ?_; first | rfl | (with_reducible assumption) | (decide; done) | omega) | (exact h0e q_o))) ?_) <;> (try refine p_a (h:=h0b ?_))) | (refine gR 9 (p_m (h:=q_m ?_)) <;> (try refine q_e (q_b (r:=by apply h4q; omega; omega; exact c_9; (focus (refine IntWalk.u32_in _ ?_; omega)))) ?_) <;> (try refine p_a (h:=h0b ?_))) | (refine gR 10 ?_ <;> (try refine q_e (by exact q_b (r:=by first | (refine h0g ?_; first | rfl | (with_reducible assumption) | (decide; done) | omega) | (exact h0e q_o))) ?_) <;> (try refine p_a (h:=h0b ?_))) | (refine gR 11 (p_m (h:=q_m ?_)) <;> (try refine q_e (q_b (r:=by refine rb_or ?_ ?_; (focus (refine ⟨rfl, ⟨?_, ?_⟩⟩; omega; (focus (simp only [IntKind.bits]; omega)))); (focus (refine ⟨rfl, ⟨?_, ?_⟩⟩; omega; (focus (simp only [IntKind.bits]; omega)))))) ?_) <;> (try refine p_a (h:=h0b ?_))) | (refine gR 12 ?_ <;> (try refine q_e (by exact q_b (r:=by first | (refine h0g ?_; first | rfl | (with_reducible assumption) | (decide; done) | omega) | (exact h0e q_o))) ?_) <;> (try refine p_a (h:=h0b ?_))) | (refine gR 13 (p_m (h:=q_m ?_)) <;> (try refine q_e (q_b (r:=by refine h5e ?_ ?_; (focus (refine ⟨rfl, ⟨?_, ?_⟩⟩; omega; (focus (simp only [IntKind.bits]; omega)))); (focus (refine ⟨rfl, ⟨?_, ?_⟩⟩; omega; (focus (simp only [IntKind.bits]; omega)))))) ?_) <;> (try refine p_a (h:=h0b ?_))) | (refine gR 14 (p_e (q_b (r:=by exact h0e q_o)) (h:=p_a (h:=h0b ?_)))) | (refine gR 20 (p_e (q_b (r:=by exact h0e q_o)) (h:=p_a (h:=h0b ?_)))) | (refine gR 26 ?_ <;> (try refine q_e (by exact q_b (r:=by refine h0g ?_; first | rfl | (with_reducible assumption) | (decide; done) | omega)) ?_) <;> (try refine p_a (h:=h0b ?_))) | (refine gR 27 (p_m (h:=p_e (q_b (r:=by apply rb_sub; exact c_9; exact rfl)) (h:=p_a (h:=h0b ?_))))))
  (refine h2k Try.results71 (.tmp rfl .nil) ?_)
  exact ⟨_, ⟨rfl, rfl⟩, by intro w H; refine H.sub ?_; (try simp only [zzC, zzN]); repeat (exact List.Sublist.refl _)⟩
def Ins.cellsI (i : Ins) : List Value := [.int .i64 i.code, .int .i64 i.jt, .int .i64 i.jf, .int .u32 i.k]
def flatI (l : List Ins) : List Value := l.flatMap Ins.cellsI
theorem flatI_at (l : List Ins) (k : Nat) (h : k < l.length) : ((flatI l).drop (k * 4)).take 4 = (l[k]).cellsI := by
 induction l generalizing k with
 | nil => simp at h
 | cons i l ih =>
  cases k with
  | zero => simp [flatI, List.flatMap_cons, Ins.cellsI]
  | succ k =>
   have := ih k (by simpa using h)
   simp only [flatI, List.flatMap_cons, List.getElem_cons_succ] at this ⊢
   have e : (k + 1) * 4 = (Ins.cellsI i).length + k * 4 := by simp [Ins.cellsI]; omega
   rw [e, ← List.drop_drop, List.drop_left]; exact this
theorem arr16 {xs : List Value} (h : xs.length = 16) : (xs.toArray.toList.drop 0).take 16 = xs ∧ 0 + 16 ≤ xs.toArray.size := by
 refine ⟨?_, by simp [h]⟩
 rw [List.drop_zero]
 exact List.take_of_length_le (by simp [h])
structure RxI (l : List Ins) (r : Rec) (g : Mch × Nat) : Prop where
 run : RunI l (h5u l l.length (m0 r) 0) g
 en : g.1.en = false
 act : g.1.act = 0
 rc : g.1.rc = r
theorem run_end {l : List Ins} {r : Rec} {m : Mch} {n : Nat} (h : RunI l (h5u l l.length (m0 r) 0) (m, n)) (he : m.en = true) : runF l r = (m.act, n) := by
 have hg := h.go
 dsimp only at hg
 have e : h5u l (l.length - n) m n = (m, n) := by
  cases l.length - n with
  | zero => rfl
  | succ f => rw [h5u, if_pos (.inl he)]
 unfold runF
 dsimp only
 rw [hg, e]
 simp [he]
theorem run_over {l : List Ins} {r : Rec} {m : Mch} {n : Nat} (h : RunI l (h5u l l.length (m0 r) 0) (m, n)) (he : m.en = false) (hp : (l.length : Int) ≤ m.pos) : runF l r = (2147483648, n) := by
 have hg := h.go
 dsimp only at hg
 have e : h5u l (l.length - n) m n = (m, n) := by
  cases l.length - n with
  | zero => rfl
  | succ f => rw [h5u, if_pos (.inr hp)]
 unfold runF
 dsimp only
 rw [hg, e]
 simp [he]
set_option maxHeartbeats 4000000 in
theorem refRun_c {S w0 L} (l : List Ins) (fl : Flt l) (r : Rec) (hr : r.ok) (a : Option Addr) (cap : Nat) (hs : Sli L a l.length 4 (flatI l)) :
  Fn Try.prog 50 #[.slice a l.length cap, .agg ((ofF r).map (Value.int .u32)).toArray] S w0 L fun v L' => v = h5a [.int .u32 (runF l r).1, .int .i64 ((runF l r).2 : Nat)] ∧ L = L' := by
 have hl4 := fl.max
 have hlk := fl.ok
 have hon := ofF_len hr
 have hlen : ((ofF r).map (Value.int .u32)).length = 16 := by rw [List.length_map, hon]
 refine Fn2 Try.func50 Try.ntmps50 rfl rfl ?_
 repeat' (first | (refine h4s (id:=1) ?_) | refine h1k ?_ | refine h0k ?_ | (refine gR 0 ?_ <;> (try refine h0a ?_; (refine h3e (t:=143) rfl rfl ?_; intro nb hnb; (try simp only [Value.cells]))) <;> (try refine p_a (h:=p_a (h:=h0b ?_)))))
 refine ⟨?_⟩
 obtain ⟨nbR, rfl⟩ : ∃ x, x = nb := ⟨_, rfl⟩
 repeat' (first | (refine h5t (id:=0) ?_) | refine h1k ?_ | refine h0k ?_ | (refine gR 1 (p_a (h:=p_a (h:=h0b ?_)))) | (refine gR 2 ?_ <;> (try refine h0a ?_; (refine h0u (t:=136) rfl Try.zeroValue136 ?_; intro nb hnb; (try simp only [Value.cells]))) <;> (try refine h0b ?_)) | (refine gR 3 (p_a (h:=p_a (h:=h0b ?_)))))
 refine ⟨?_⟩
 obtain ⟨nbM, rfl⟩ : ∃ x, x = nb := ⟨_, rfl⟩
 refine h0q ?_
 refine h4g (γ:=Mch × Nat) (RxI l r) (fun g => l.length - g.2) (fun g => [(6, .int .u32 g.1.a), (7, .int .u32 g.1.x), (9, .int .i64 g.1.pos), (10, .int .i64 (g.2 : Nat))]) [(0, _), (3, _), (8, _)]
  (fun g => ⟨true, nbM, .cells (g.1.sc.map (Value.int .u32)).toArray 136 (0, 0)⟩ :: ⟨true, nbR, .cells ((ofF r).map (Value.int .u32)).toArray 143 (0, 0)⟩ :: L)
  (m0 r, 0) (.cons rfl (.cons rfl (.cons rfl .nil))) ⟨⟨m0_ok hr, by simp [m0], by simp [m0], Nat.zero_le _, rfl⟩, rfl, rfl, rfl⟩ (by (focus (repeat (first | exact Sub.nil | refine Sub.cons rfl ?_)))) (fun _ H => H) ?_
 rintro ⟨m, n⟩ ⟨hI, hen, hact, hrc⟩
 dsimp only at hI hen hact hrc ⊢
 subst hrc
 simp only [List.cons_append, List.nil_append]
 have hok := hI.ok
 dsimp only at hok
 have hpos := hok.pos
 have hlo : (n : Int) ≤ m.pos := hI.lo
 have hhi : m.pos ≤ n * 5000000000 := hI.hi
 have hnl : n ≤ l.length := hI.le
 by_cases hp : m.pos.toNat < l.length
 ·obtain ⟨i0, q, b, off, cs, T, fr, rfl, hi0, hsz, hx⟩ := hs.elem hp
  rw [flatI_at l _ hp] at hx
  have hio := hlk _ (List.getElem_mem hp)
  have hnx := hI.next hlk hl4 hen hp
  have hone := fl.one _ hp
  have hkn : h6i l[m.pos.toNat].code = true := by
   unfold one at hone
   by_cases hk : h6i l[m.pos.toNat].code = true
   ·exact hk
   ·simp [hk] at hone
  have hword : l[m.pos.toNat].code = 32 → l[m.pos.toNat].k % 4 = 0 ∧ l[m.pos.toNat].k ≤ 60 := by
   intro h32
   unfold one at hone
   simp only [hkn, h32] at hone
   simp at hone
   omega
  clear hone
  have hm1 : Mch.ok { m with pos := m.pos + 1 } := ⟨hok.a, hok.x, hok.sc, hok.scr, hok.rc, ⟨by show 0 ≤ m.pos + 1; omega, by show m.pos + 1 < 9000000000000000000; omega⟩, hok.act⟩
  generalize l[m.pos.toNat] = i at *
  have hrl := fun (L : List Blk) => rload_c (S:=S) (w0:=w0) (L:=L) { m with pos := m.pos + 1 } hm1 i hio
  have hrj := fun (L : List Blk) => rjump_c (S:=S) (w0:=w0) (L:=L) { m with pos := m.pos + 1 } hm1 i hio
  have hld := fun h => ld_eq (m:={ m with pos := m.pos + 1 }) hio hkn h (fun h32 => word_eq hr hio.k.1 (hword h32).1 (hword h32).2)
  have hjm := fun h => jmp_eq (m:={ m with pos := m.pos + 1 }) hio hkn h
  have hrd := fun h => red_eq (m:={ m with pos := m.pos + 1 }) hio hkn h
  have hscl : (m.sc.map (Value.int .u32)).length = 16 := by rw [List.length_map]; exact hok.sc
  obtain ⟨tR, sR⟩ := arr16 hlen
  obtain ⟨tM, sM⟩ := arr16 hscl
  dsimp only at hrl hrj
  obtain ⟨c, jt, jf, kk⟩ := i
  obtain ⟨hc, ht, hf, hk⟩ := hio
  simp only [Ins.cellsI] at hx
  dsimp only at hc ht hf hk hkn hrl hrj hword hld hjm hrd
  have hnx' := Lib.hid hnx
  by_cases c0 : c % 8 = 0
  ·have hst : stp { m with pos := m.pos + 1 } ⟨c, jt, jf, kk⟩ = { m with pos := m.pos + 1, a := rld { m with pos := m.pos + 1 } ⟨c, jt, jf, kk⟩ } := by
    unfold stp
    rw [if_pos c0, hld (.inl c0)]
    try rfl
   rw [hst] at hnx'
   generalize rld { m with pos := m.pos + 1 } ⟨c, jt, jf, kk⟩ = z at *
   clear hnx hrj hld hjm hrd hword hst hkn
   repeat' (first | refine h1k ?_ | refine h0k ?_ | refine h1g ?_ | refine h0y ?_ | refine h0q ?_ | refine h1j ?_ | refine h0o rfl ?_ | (refine gR 4 (p_m (h:=p_m (h:=p_e (by apply h0m; exact rfl; exact (fun _ => BigFrame.builtin_len ..); apply h0i Try.underlying150; exact h4a) (h:=p_e (q_b (r:=by exact h0t q_o)) (h:=h0b ?_)))))) | (refine gR 5 (p_m (h:=p_m (h:=p_e (by apply h0f; exact rfl; exact rfl; (focus (apply h1z Try.underlying150 h5d; omega; omega; exact c_2))) (h:=q_e (by apply h0x (t:=149); exact rfl; exact c_22; kernel_rfl; kernel_rfl; exact h5d; (with_reducible assumption); (with_reducible assumption)) ?_)))) <;> (try refine h0a ?_; (refine h0u (t:=149) rfl Try.zeroValue149 ?_; intro nb hnb; (try simp only [Value.cells]))) <;> (try refine h0a ?_; (refine q_W ?_)) <;> (try refine h0b ?_)) | (refine gR 6 (q_m ?_) <;> (try refine q_e (q_b (r:=by apply h0w; exact c_9; (focus (refine IntWalk.i64_in _ ?_; omega)))) ?_) <;> (try refine p_a (h:=h0b ?_))) | (refine gR 7 (q_m ?_) <;> (try refine q_e (q_b (r:=by apply h0w; exact c_9; (focus (refine IntWalk.i64_in _ ?_; omega)))) ?_) <;> (try refine p_a (h:=h0b ?_))) | (refine gR 8 (p_e (q_f h4p) (h:=p_e q_l (h:=p_a (h:=h0b ?_))))) | (refine gR 9 (p_e (q_f h3a) (h:=q_e q_l ?_)) <;> (try refine q_e (q_b (r:=by apply h4q; omega; omega; exact c_9; (focus (refine IntWalk.i64_in _ ?_; omega)))) ?_) <;> (try refine p_e (q_b (r:=by apply h1x; omega; omega; exact c_9)) (h:=p_e (q_b (r:=by exact h1b)) (h:=h0b ?_)))) | (refine gR 10 (p_m (h:=p_a (h:=h0b ?_)))) | (refine gR 11 (p_e (q_f h3a) (h:=p_e q_l (h:=p_e (q_b (r:=by apply h1x; omega; omega; exact c_9)) (h:=h0b ?_))))) | (refine gR 15 ?_ <;> (try refine q_e (by exact q_b (r:=by refine h0g ?_; first | rfl | (with_reducible assumption) | (decide; done) | omega)) ?_) <;> (try refine p_a (h:=h0b ?_))) | (refine gR 16 (p_e (q_L h5d) (h:=p_e (by apply h0x (t:=143); exact rfl; exact h6c; kernel_rfl; kernel_rfl; exact sz_143; (with_reducible assumption); (with_reducible assumption)) (h:=q_e (by apply h0x (t:=136); exact rfl; exact h6c; kernel_rfl; kernel_rfl; exact sz_136; (with_reducible assumption); (with_reducible assumption)) ?_))) <;> (try refine h0a ?_; (refine h1i (F:=70) (by kernel_rfl) rfl rfl (hrl _) ?_; rintro _ _ ⟨rfl, rfl⟩)) <;> (try refine p_a (h:=h0b ?_))) | ((refine h2e rfl (fun hc => ?_) (fun hc => ?_)) <;> (try subst hc)))
   all_goals
    refine h2u ({ m with pos := m.pos + 1, a := z }, n + 1) ⟨⟨hnx'.out, hen, hact, rfl⟩, by dsimp only; omega⟩ (by (focus (repeat (first | exact Sub.nil | refine Sub.cons rfl ?_)))) (fun _ H => H.tail)
  by_cases c1 : c % 8 = 1
  ·have hst : stp { m with pos := m.pos + 1 } ⟨c, jt, jf, kk⟩ = { m with pos := m.pos + 1, x := rld { m with pos := m.pos + 1 } ⟨c, jt, jf, kk⟩ } := by
    unfold stp
    rw [if_neg c0, if_pos c1, hld (.inr c1)]
    try rfl
   rw [hst] at hnx'
   generalize rld { m with pos := m.pos + 1 } ⟨c, jt, jf, kk⟩ = z at *
   clear hnx hrj hld hjm hrd hword hst hkn
   repeat' (first | refine h1k ?_ | refine h0k ?_ | refine h1g ?_ | refine h0y ?_ | refine h0q ?_ | refine h1j ?_ | refine h0o rfl ?_ | refine h0n rfl ?_ | (refine gR 4 (p_m (h:=p_m (h:=p_e (by apply h0m; exact rfl; exact (fun _ => BigFrame.builtin_len ..); apply h0i Try.underlying150; exact h4a) (h:=p_e (q_b (r:=by exact h0t q_o)) (h:=h0b ?_)))))) | (refine gR 5 (p_m (h:=p_m (h:=p_e (by apply h0f; exact rfl; exact rfl; (focus (apply h1z Try.underlying150 h5d; omega; omega; exact c_2))) (h:=q_e (by apply h0x (t:=149); exact rfl; exact c_22; kernel_rfl; kernel_rfl; exact h5d; (with_reducible assumption); (with_reducible assumption)) ?_)))) <;> (try refine h0a ?_; (refine h0u (t:=149) rfl Try.zeroValue149 ?_; intro nb hnb; (try simp only [Value.cells]))) <;> (try refine h0a ?_; (refine q_W ?_)) <;> (try refine h0b ?_)) | (refine gR 6 (q_m ?_) <;> (try refine q_e (q_b (r:=by apply h0w; exact c_9; (focus (refine IntWalk.i64_in _ ?_; omega)))) ?_) <;> (try refine p_a (h:=h0b ?_))) | (refine gR 7 (q_m ?_) <;> (try refine q_e (q_b (r:=by apply h0w; exact c_9; (focus (refine IntWalk.i64_in _ ?_; omega)))) ?_) <;> (try refine p_a (h:=h0b ?_))) | (refine gR 8 (p_e (q_f h4p) (h:=p_e q_l (h:=p_a (h:=h0b ?_))))) | (refine gR 9 (p_e (q_f h3a) (h:=q_e q_l ?_)) <;> (try refine q_e (q_b (r:=by apply h4q; omega; omega; exact c_9; (focus (refine IntWalk.i64_in _ ?_; omega)))) ?_) <;> (try refine p_e (q_b (r:=by apply h1x; omega; omega; exact c_9)) (h:=p_e (q_b (r:=by exact h1b)) (h:=h0b ?_)))) | (refine gR 10 (p_m (h:=p_a (h:=h0b ?_)))) | (refine gR 11 (p_e (q_f h3a) (h:=p_e q_l (h:=p_e (q_b (r:=by apply h1x; omega; omega; exact c_9)) (h:=h0b ?_))))) | (refine gR 15 (p_e (q_b (r:=by exact h0e q_o)) (h:=p_a (h:=h0b ?_)))) | (refine gR 17 ?_ <;> (try refine q_e (by exact q_b (r:=by refine h0g ?_; first | rfl | (with_reducible assumption) | (decide; done) | omega)) ?_) <;> (try refine p_a (h:=h0b ?_))) | (refine gR 18 (p_e (q_L h5d) (h:=p_e (by apply h0x (t:=143); exact rfl; exact h6c; kernel_rfl; kernel_rfl; exact sz_143; (with_reducible assumption); (with_reducible assumption)) (h:=q_e (by apply h0x (t:=136); exact rfl; exact h6c; kernel_rfl; kernel_rfl; exact sz_136; (with_reducible assumption); (with_reducible assumption)) ?_))) <;> (try refine h0a ?_; (refine h1i (F:=70) (by kernel_rfl) rfl rfl (hrl _) ?_; rintro _ _ ⟨rfl, rfl⟩)) <;> (try refine p_a (h:=h0b ?_))) | ((refine h2e rfl (fun hc => ?_) (fun hc => ?_)) <;> (try subst hc)))
   all_goals
    refine h2u ({ m with pos := m.pos + 1, x := z }, n + 1) ⟨⟨hnx'.out, hen, hact, rfl⟩, by dsimp only; omega⟩ (by (focus (repeat (first | exact Sub.nil | refine Sub.cons rfl ?_)))) (fun _ H => H.tail)
  by_cases c2 : c % 8 = 2
  ·have hst : stp { m with pos := m.pos + 1 } ⟨c, jt, jf, kk⟩ = { m with pos := m.pos + 1, sc := m.sc.set (kk % 16).toNat m.a } := by
    unfold stp
    rw [if_neg c0, if_neg c1, if_pos c2]
    try rfl
   rw [hst] at hnx'
   clear hnx hrl hrj hld hjm hrd hword hst hkn
   have hil : (kk % 16).toNat < (m.sc.map (Value.int .u32)).length := by omega
   repeat' (first | refine h1k ?_ | refine h0k ?_ | refine h1g ?_ | refine h0y ?_ | refine h0q ?_ | refine h1j ?_ | refine h0o rfl ?_ | refine h0n rfl ?_ | (refine gR 4 (p_m (h:=p_m (h:=p_e (by apply h0m; exact rfl; exact (fun _ => BigFrame.builtin_len ..); apply h0i Try.underlying150; exact h4a) (h:=p_e (q_b (r:=by exact h0t q_o)) (h:=h0b ?_)))))) | (refine gR 5 (p_m (h:=p_m (h:=p_e (by apply h0f; exact rfl; exact rfl; (focus (apply h1z Try.underlying150 h5d; omega; omega; exact c_2))) (h:=q_e (by apply h0x (t:=149); exact rfl; exact c_22; kernel_rfl; kernel_rfl; exact h5d; (with_reducible assumption); (with_reducible assumption)) ?_)))) <;> (try refine h0a ?_; (refine h0u (t:=149) rfl Try.zeroValue149 ?_; intro nb hnb; (try simp only [Value.cells]))) <;> (try refine h0a ?_; (refine q_W ?_)) <;> (try refine h0b ?_)) | (refine gR 6 (q_m ?_) <;> (try refine q_e (q_b (r:=by apply h0w; exact c_9; (focus (refine IntWalk.i64_in _ ?_; omega)))) ?_) <;> (try refine p_a (h:=h0b ?_))) | (refine gR 7 (q_m ?_) <;> (try refine q_e (q_b (r:=by apply h0w; exact c_9; (focus (refine IntWalk.i64_in _ ?_; omega)))) ?_) <;> (try refine p_a (h:=h0b ?_))) | (refine gR 8 (p_e (q_f h4p) (h:=p_e q_l (h:=p_a (h:=h0b ?_))))) | (refine gR 9 (p_e (q_f h3a) (h:=q_e q_l ?_)) <;> (try refine q_e (q_b (r:=by apply h4q; omega; omega; exact c_9; (focus (refine IntWalk.i64_in _ ?_; omega)))) ?_) <;> (try refine p_e (q_b (r:=by apply h1x; omega; omega; exact c_9)) (h:=p_e (q_b (r:=by exact h1b)) (h:=h0b ?_)))) | (refine gR 10 (p_m (h:=p_a (h:=h0b ?_)))) | (refine gR 11 (p_e (q_f h3a) (h:=p_e q_l (h:=p_e (q_b (r:=by apply h1x; omega; omega; exact c_9)) (h:=h0b ?_))))) | (refine gR 15 (p_e (q_b (r:=by exact h0e q_o)) (h:=p_a (h:=h0b ?_)))) | (refine gR 17 (p_e (q_b (r:=by exact h0e q_o)) (h:=p_a (h:=h0b ?_)))) | (refine gR 19 ?_ <;> (try refine q_e (by exact q_b (r:=by refine h0g ?_; first | rfl | (with_reducible assumption) | (decide; done) | omega)) ?_) <;> (try refine p_a (h:=h0b ?_))) | (refine gR 20 (p_e (q_f h4p) (h:=p_e q_l (h:=p_e (q_b (r:=by apply h1x; omega; omega; exact c_9)) (h:=p_m (h:=q_e (by apply h0f; exact rfl; exact rfl; (focus (apply h5p Try.underlying136 sz_22; omega; omega; exact c_2))) ?_))))) <;> (try refine h0a ?_; (apply h0p (t:=22); exact rfl; exact rfl; exact h6c; exact rfl; exact rfl; kernel_rfl; (with_reducible assumption); exact h4l; (try simp only [List.set_cons_succ]); (try simp only [List.set_cons_zero]))) <;> (try refine h0b ?_)) | ((refine h2e rfl (fun hc => ?_) (fun hc => ?_)) <;> (try subst hc)))
   all_goals
    refine h2u ({ m with pos := m.pos + 1, sc := m.sc.set (kk % 16).toNat m.a }, n + 1) ⟨⟨hnx'.out, hen, hact, rfl⟩, by dsimp only; omega⟩ (by (focus (repeat (first | exact Sub.nil | refine Sub.cons rfl ?_)))) ?_
    intro w H
    dsimp only
    rw [List.map_set]
    exact H.tail
  by_cases c3 : c % 8 = 3
  ·have hst : stp { m with pos := m.pos + 1 } ⟨c, jt, jf, kk⟩ = { m with pos := m.pos + 1, sc := m.sc.set (kk % 16).toNat m.x } := by
    unfold stp
    rw [if_neg c0, if_neg c1, if_neg c2, if_pos c3]
    try rfl
   rw [hst] at hnx'
   clear hnx hrl hrj hld hjm hrd hword hst hkn
   have hil : (kk % 16).toNat < (m.sc.map (Value.int .u32)).length := by omega
   repeat' (first | refine h1k ?_ | refine h0k ?_ | refine h1g ?_ | refine h0y ?_ | refine h0q ?_ | refine h1j ?_ | refine h0o rfl ?_ | refine h0n rfl ?_ | (refine gR 4 (p_m (h:=p_m (h:=p_e (by apply h0m; exact rfl; exact (fun _ => BigFrame.builtin_len ..); apply h0i Try.underlying150; exact h4a) (h:=p_e (q_b (r:=by exact h0t q_o)) (h:=h0b ?_)))))) | (refine gR 5 (p_m (h:=p_m (h:=p_e (by apply h0f; exact rfl; exact rfl; (focus (apply h1z Try.underlying150 h5d; omega; omega; exact c_2))) (h:=q_e (by apply h0x (t:=149); exact rfl; exact c_22; kernel_rfl; kernel_rfl; exact h5d; (with_reducible assumption); (with_reducible assumption)) ?_)))) <;> (try refine h0a ?_; (refine h0u (t:=149) rfl Try.zeroValue149 ?_; intro nb hnb; (try simp only [Value.cells]))) <;> (try refine h0a ?_; (refine q_W ?_)) <;> (try refine h0b ?_)) | (refine gR 6 (q_m ?_) <;> (try refine q_e (q_b (r:=by apply h0w; exact c_9; (focus (refine IntWalk.i64_in _ ?_; omega)))) ?_) <;> (try refine p_a (h:=h0b ?_))) | (refine gR 7 (q_m ?_) <;> (try refine q_e (q_b (r:=by apply h0w; exact c_9; (focus (refine IntWalk.i64_in _ ?_; omega)))) ?_) <;> (try refine p_a (h:=h0b ?_))) | (refine gR 8 (p_e (q_f h4p) (h:=p_e q_l (h:=p_a (h:=h0b ?_))))) | (refine gR 9 (p_e (q_f h3a) (h:=q_e q_l ?_)) <;> (try refine q_e (q_b (r:=by apply h4q; omega; omega; exact c_9; (focus (refine IntWalk.i64_in _ ?_; omega)))) ?_) <;> (try refine p_e (q_b (r:=by apply h1x; omega; omega; exact c_9)) (h:=p_e (q_b (r:=by exact h1b)) (h:=h0b ?_)))) | (refine gR 10 (p_m (h:=p_a (h:=h0b ?_)))) | (refine gR 11 (p_e (q_f h3a) (h:=p_e q_l (h:=p_e (q_b (r:=by apply h1x; omega; omega; exact c_9)) (h:=h0b ?_))))) | (refine gR 15 (p_e (q_b (r:=by exact h0e q_o)) (h:=p_a (h:=h0b ?_)))) | (refine gR 17 (p_e (q_b (r:=by exact h0e q_o)) (h:=p_a (h:=h0b ?_)))) | (refine gR 19 (p_e (q_b (r:=by exact h0e q_o)) (h:=p_a (h:=h0b ?_)))) | (refine gR 21 ?_ <;> (try refine q_e (by exact q_b (r:=by refine h0g ?_; first | rfl | (with_reducible assumption) | (decide; done) | omega)) ?_) <;> (try refine p_a (h:=h0b ?_))) | (refine gR 22 (p_e (q_f h4p) (h:=p_e q_l (h:=p_e (q_b (r:=by apply h1x; omega; omega; exact c_9)) (h:=p_m (h:=q_e (by apply h0f; exact rfl; exact rfl; (focus (apply h5p Try.underlying136 sz_22; omega; omega; exact c_2))) ?_))))) <;> (try refine h0a ?_; (apply h0p (t:=22); exact rfl; exact rfl; exact h6c; exact rfl; exact rfl; kernel_rfl; (with_reducible assumption); exact h4l; (try simp only [List.set_cons_succ]); (try simp only [List.set_cons_zero]))) <;> (try refine h0b ?_)) | ((refine h2e rfl (fun hc => ?_) (fun hc => ?_)) <;> (try subst hc)))
   all_goals
    refine h2u ({ m with pos := m.pos + 1, sc := m.sc.set (kk % 16).toNat m.x }, n + 1) ⟨⟨hnx'.out, hen, hact, rfl⟩, by dsimp only; omega⟩ (by (focus (repeat (first | exact Sub.nil | refine Sub.cons rfl ?_)))) ?_
    intro w H
    dsimp only
    rw [List.map_set]
    exact H.tail
  by_cases c7 : c % 8 = 7
  ·by_cases e7 : c = 7
   ·have hst : stp { m with pos := m.pos + 1 } ⟨c, jt, jf, kk⟩ = { m with pos := m.pos + 1, x := m.a } := by
     unfold stp
     rw [if_neg c0, if_neg c1, if_neg c2, if_neg c3, if_neg (by dsimp only; omega), if_neg (by dsimp only; omega), if_neg (by dsimp only; omega), if_pos e7]
     try rfl
    rw [hst] at hnx'
    clear hnx hrl hrj hld hjm hrd hword hst hkn
    repeat' (first | refine h1k ?_ | refine h0k ?_ | refine h1g ?_ | refine h0y ?_ | refine h0q ?_ | refine h1j ?_ | refine h0o rfl ?_ | refine h0n rfl ?_ | (refine gR 4 (p_m (h:=p_m (h:=p_e (by apply h0m; exact rfl; exact (fun _ => BigFrame.builtin_len ..); apply h0i Try.underlying150; exact h4a) (h:=p_e (q_b (r:=by exact h0t q_o)) (h:=h0b ?_)))))) | (refine gR 5 (p_m (h:=p_m (h:=p_e (by apply h0f; exact rfl; exact rfl; (focus (apply h1z Try.underlying150 h5d; omega; omega; exact c_2))) (h:=q_e (by apply h0x (t:=149); exact rfl; exact c_22; kernel_rfl; kernel_rfl; exact h5d; (with_reducible assumption); (with_reducible assumption)) ?_)))) <;> (try refine h0a ?_; (refine h0u (t:=149) rfl Try.zeroValue149 ?_; intro nb hnb; (try simp only [Value.cells]))) <;> (try refine h0a ?_; (refine q_W ?_)) <;> (try refine h0b ?_)) | (refine gR 6 (q_m ?_) <;> (try refine q_e (q_b (r:=by apply h0w; exact c_9; (focus (refine IntWalk.i64_in _ ?_; omega)))) ?_) <;> (try refine p_a (h:=h0b ?_))) | (refine gR 7 (q_m ?_) <;> (try refine q_e (q_b (r:=by apply h0w; exact c_9; (focus (refine IntWalk.i64_in _ ?_; omega)))) ?_) <;> (try refine p_a (h:=h0b ?_))) | (refine gR 8 (p_e (q_f h4p) (h:=p_e q_l (h:=p_a (h:=h0b ?_))))) | (refine gR 9 (p_e (q_f h3a) (h:=q_e q_l ?_)) <;> (try refine q_e (q_b (r:=by apply h4q; omega; omega; exact c_9; (focus (refine IntWalk.i64_in _ ?_; omega)))) ?_) <;> (try refine p_e (q_b (r:=by apply h1x; omega; omega; exact c_9)) (h:=p_e (q_b (r:=by exact h0e q_o)) (h:=h0b ?_)))) | (refine gR 11 (p_e (q_f h3a) (h:=p_e q_l (h:=p_e (q_b (r:=by apply h1x; omega; omega; exact c_9)) (h:=h0b ?_))))) | (refine gR 15 (p_e (q_b (r:=by exact h0e q_o)) (h:=p_a (h:=h0b ?_)))) | (refine gR 17 (p_e (q_b (r:=by exact h0e q_o)) (h:=p_a (h:=h0b ?_)))) | (refine gR 19 (p_e (q_b (r:=by exact h0e q_o)) (h:=p_a (h:=h0b ?_)))) | (refine gR 21 (p_e (q_b (r:=by exact h0e q_o)) (h:=p_a (h:=h0b ?_)))) | (refine gR 23 (p_e (q_b (r:=by exact h0e q_o)) (h:=p_a (h:=h0b ?_)))) | (refine gR 27 (p_e (q_b (r:=by exact h0e q_o)) (h:=p_a (h:=h0b ?_)))) | (refine gR 29 (p_e (q_b (r:=by exact h0e q_o)) (h:=p_a (h:=h0b ?_)))) | (refine gR 12 (p_e (q_f h3a) (h:=q_e q_l ?_)) <;> (try refine q_e (by exact q_b (r:=by refine h0g ?_; first | rfl | (with_reducible assumption) | (decide; done) | omega)) ?_) <;> (try refine h0b ?_)) | (refine gR 13 (p_m (h:=p_a (h:=h0b ?_)))))
    all_goals
     refine h2u ({ m with pos := m.pos + 1, x := m.a }, n + 1) ⟨⟨hnx'.out, hen, hact, rfl⟩, by dsimp only; omega⟩ (by (focus (repeat (first | exact Sub.nil | refine Sub.cons rfl ?_)))) (fun _ H => H.tail)
   ·have hst : stp { m with pos := m.pos + 1 } ⟨c, jt, jf, kk⟩ = { m with pos := m.pos + 1, a := m.x } := by
     unfold stp
     rw [if_neg c0, if_neg c1, if_neg c2, if_neg c3, if_neg (by dsimp only; omega), if_neg (by dsimp only; omega), if_neg (by dsimp only; omega), if_neg e7]
     try rfl
    rw [hst] at hnx'
    clear hnx hrl hrj hld hjm hrd hword hst hkn
    repeat' (first | refine h1k ?_ | refine h0k ?_ | refine h1g ?_ | refine h0y ?_ | refine h0q ?_ | refine h1j ?_ | refine h0o rfl ?_ | refine h0n rfl ?_ | (refine gR 4 (p_m (h:=p_m (h:=p_e (by apply h0m; exact rfl; exact (fun _ => BigFrame.builtin_len ..); apply h0i Try.underlying150; exact h4a) (h:=p_e (q_b (r:=by exact h0t q_o)) (h:=h0b ?_)))))) | (refine gR 5 (p_m (h:=p_m (h:=p_e (by apply h0f; exact rfl; exact rfl; (focus (apply h1z Try.underlying150 h5d; omega; omega; exact c_2))) (h:=q_e (by apply h0x (t:=149); exact rfl; exact c_22; kernel_rfl; kernel_rfl; exact h5d; (with_reducible assumption); (with_reducible assumption)) ?_)))) <;> (try refine h0a ?_; (refine h0u (t:=149) rfl Try.zeroValue149 ?_; intro nb hnb; (try simp only [Value.cells]))) <;> (try refine h0a ?_; (refine q_W ?_)) <;> (try refine h0b ?_)) | (refine gR 6 (q_m ?_) <;> (try refine q_e (q_b (r:=by apply h0w; exact c_9; (focus (refine IntWalk.i64_in _ ?_; omega)))) ?_) <;> (try refine p_a (h:=h0b ?_))) | (refine gR 7 (q_m ?_) <;> (try refine q_e (q_b (r:=by apply h0w; exact c_9; (focus (refine IntWalk.i64_in _ ?_; omega)))) ?_) <;> (try refine p_a (h:=h0b ?_))) | (refine gR 8 (p_e (q_f h4p) (h:=p_e q_l (h:=p_a (h:=h0b ?_))))) | (refine gR 9 (p_e (q_f h3a) (h:=q_e q_l ?_)) <;> (try refine q_e (q_b (r:=by apply h4q; omega; omega; exact c_9; (focus (refine IntWalk.i64_in _ ?_; omega)))) ?_) <;> (try refine p_e (q_b (r:=by apply h1x; omega; omega; exact c_9)) (h:=p_e (q_b (r:=by exact h1b)) (h:=h0b ?_)))) | (refine gR 10 (p_m (h:=p_a (h:=h0b ?_)))) | (refine gR 11 (p_e (q_f h3a) (h:=p_e q_l (h:=p_e (q_b (r:=by apply h1x; omega; omega; exact c_9)) (h:=h0b ?_))))) | (refine gR 15 (p_e (q_b (r:=by exact h0e q_o)) (h:=p_a (h:=h0b ?_)))) | (refine gR 17 (p_e (q_b (r:=by exact h0e q_o)) (h:=p_a (h:=h0b ?_)))) | (refine gR 19 (p_e (q_b (r:=by exact h0e q_o)) (h:=p_a (h:=h0b ?_)))) | (refine gR 21 (p_e (q_b (r:=by exact h0e q_o)) (h:=p_a (h:=h0b ?_)))) | (refine gR 23 (p_e (q_b (r:=by exact h0e q_o)) (h:=p_a (h:=h0b ?_)))) | (refine gR 27 (p_e (q_b (r:=by exact h0e q_o)) (h:=p_a (h:=h0b ?_)))) | (refine gR 29 (p_e (q_b (r:=by exact h0e q_o)) (h:=p_a (h:=h0b ?_)))) | (refine gR 12 (p_e (q_f h3a) (h:=p_e q_l (h:=p_e (q_b (r:=by exact h0e q_o)) (h:=h0b ?_))))) | (refine gR 14 (p_m (h:=p_a (h:=h0b ?_)))) | ((refine h2e rfl (fun hc => ?_) (fun hc => ?_)) <;> (try subst hc)))
    all_goals
     refine h2u ({ m with pos := m.pos + 1, a := m.x }, n + 1) ⟨⟨hnx'.out, hen, hact, rfl⟩, by dsimp only; omega⟩ (by (focus (repeat (first | exact Sub.nil | refine Sub.cons rfl ?_)))) (fun _ H => H.tail)
  by_cases c6 : c % 8 = 6
  ·have hst : stp { m with pos := m.pos + 1 } ⟨c, jt, jf, kk⟩ = { m with pos := m.pos + 1, en := true, act := if c = 22 then m.a else kk } := by
    unfold stp
    rw [if_neg c0, if_neg c1, if_neg c2, if_neg c3, if_neg (by dsimp only; omega), if_neg (by dsimp only; omega), if_pos c6]
    try rfl
   rw [hst] at hnx'
   have hR := run_end hnx'.out rfl
   dsimp only at hR
   rw [hR]
   clear hnx hrl hrj hld hjm hrd hword hst hkn hR
   by_cases e22 : c = 22
   ·rw [if_pos e22]
    repeat' (first | refine h1k ?_ | refine h0k ?_ | refine h2o ?_ | refine h1n ?_ | refine h1u ?_ | refine h0q ?_ | refine h1j ?_ | refine h2v ?_ | refine h0o rfl ?_ | refine h0n rfl ?_ | (refine gR 4 (p_m (h:=p_m (h:=p_e (by apply h0m; exact rfl; exact (fun _ => BigFrame.builtin_len ..); apply h0i Try.underlying150; exact h4a) (h:=p_e (q_b (r:=by exact h0t q_o)) (h:=h0b ?_)))))) | (refine gR 5 (p_m (h:=p_m (h:=p_e (by apply h0f; exact rfl; exact rfl; (focus (apply h1z Try.underlying150 h5d; omega; omega; exact c_2))) (h:=q_e (by apply h0x (t:=149); exact rfl; exact c_22; kernel_rfl; kernel_rfl; exact h5d; (with_reducible assumption); (with_reducible assumption)) ?_)))) <;> (try refine h0a ?_; (refine h0u (t:=149) rfl Try.zeroValue149 ?_; intro nb hnb; (try simp only [Value.cells]))) <;> (try refine h0a ?_; (refine q_W ?_)) <;> (try refine h0b ?_)) | (refine gR 6 (q_m ?_) <;> (try refine q_e (q_b (r:=by apply h0w; exact c_9; (focus (refine IntWalk.i64_in _ ?_; omega)))) ?_) <;> (try refine p_a (h:=h0b ?_))) | (refine gR 7 (q_m ?_) <;> (try refine q_e (q_b (r:=by apply h0w; exact c_9; (focus (refine IntWalk.i64_in _ ?_; omega)))) ?_) <;> (try refine p_a (h:=h0b ?_))) | (refine gR 8 (p_e (q_f h4p) (h:=p_e q_l (h:=p_a (h:=h0b ?_))))) | (refine gR 9 (p_e (q_f h3a) (h:=q_e q_l ?_)) <;> (try refine q_e (q_b (r:=by apply h4q; omega; omega; exact c_9; (focus (refine IntWalk.i64_in _ ?_; omega)))) ?_) <;> (try refine p_e (q_b (r:=by apply h1x; omega; omega; exact c_9)) (h:=p_e (q_b (r:=by exact h0e q_o)) (h:=h0b ?_)))) | (refine gR 11 (p_e (q_f h3a) (h:=p_e q_l (h:=p_e (q_b (r:=by apply h1x; omega; omega; exact c_9)) (h:=h0b ?_))))) | (refine gR 15 (p_e (q_b (r:=by exact h0e q_o)) (h:=p_a (h:=h0b ?_)))) | (refine gR 17 (p_e (q_b (r:=by exact h0e q_o)) (h:=p_a (h:=h0b ?_)))) | (refine gR 19 (p_e (q_b (r:=by exact h0e q_o)) (h:=p_a (h:=h0b ?_)))) | (refine gR 21 (p_e (q_b (r:=by exact h0e q_o)) (h:=p_a (h:=h0b ?_)))) | (refine gR 23 (p_e (q_b (r:=by exact h0e q_o)) (h:=p_a (h:=h0b ?_)))) | (refine gR 27 (p_e (q_b (r:=by exact h0e q_o)) (h:=p_a (h:=h0b ?_)))) | (refine gR 29 ?_ <;> (try refine q_e (by exact q_b (r:=by refine h0g ?_; first | rfl | (with_reducible assumption) | (decide; done) | omega)) ?_) <;> (try refine p_a (h:=h0b ?_))) | (refine gR 30 (p_e (q_f h3a) (h:=q_e q_l ?_)) <;> (try refine q_e (by exact q_b (r:=by refine h0g ?_; first | rfl | (with_reducible assumption) | (decide; done) | omega)) ?_) <;> (try refine h0b ?_)) | (refine gR 31 (p_m (h:=p_m (h:=p_a (h:=p_a (h:=h0b ?_)))))))
    all_goals
     (refine h2k Try.results50 (.tmp rfl (.tmp rfl .nil)) ?_)
     exact ⟨_, ⟨rfl, rfl⟩, by intro w H; refine H.sub ?_; (try simp only [zzC, zzN]); repeat (first | exact List.Sublist.refl _ | refine List.Sublist.cons _ ?_)⟩
   ·rw [if_neg e22]
    repeat' (first | refine h1k ?_ | refine h0k ?_ | refine h2o ?_ | refine h1n ?_ | refine h1u ?_ | refine h0q ?_ | refine h1j ?_ | refine h2v ?_ | refine h0o rfl ?_ | refine h0n rfl ?_ | (refine gR 4 (p_m (h:=p_m (h:=p_e (by apply h0m; exact rfl; exact (fun _ => BigFrame.builtin_len ..); apply h0i Try.underlying150; exact h4a) (h:=p_e (q_b (r:=by exact h0t q_o)) (h:=h0b ?_)))))) | (refine gR 5 (p_m (h:=p_m (h:=p_e (by apply h0f; exact rfl; exact rfl; (focus (apply h1z Try.underlying150 h5d; omega; omega; exact c_2))) (h:=q_e (by apply h0x (t:=149); exact rfl; exact c_22; kernel_rfl; kernel_rfl; exact h5d; (with_reducible assumption); (with_reducible assumption)) ?_)))) <;> (try refine h0a ?_; (refine h0u (t:=149) rfl Try.zeroValue149 ?_; intro nb hnb; (try simp only [Value.cells]))) <;> (try refine h0a ?_; (refine q_W ?_)) <;> (try refine h0b ?_)) | (refine gR 6 (q_m ?_) <;> (try refine q_e (q_b (r:=by apply h0w; exact c_9; (focus (refine IntWalk.i64_in _ ?_; omega)))) ?_) <;> (try refine p_a (h:=h0b ?_))) | (refine gR 7 (q_m ?_) <;> (try refine q_e (q_b (r:=by apply h0w; exact c_9; (focus (refine IntWalk.i64_in _ ?_; omega)))) ?_) <;> (try refine p_a (h:=h0b ?_))) | (refine gR 8 (p_e (q_f h4p) (h:=p_e q_l (h:=p_a (h:=h0b ?_))))) | (refine gR 9 (p_e (q_f h3a) (h:=q_e q_l ?_)) <;> (try refine q_e (q_b (r:=by apply h4q; omega; omega; exact c_9; (focus (refine IntWalk.i64_in _ ?_; omega)))) ?_) <;> (try refine p_e (q_b (r:=by apply h1x; omega; omega; exact c_9)) (h:=p_e (q_b (r:=by exact h1b)) (h:=h0b ?_)))) | (refine gR 10 (p_m (h:=p_a (h:=h0b ?_)))) | (refine gR 11 (p_e (q_f h3a) (h:=p_e q_l (h:=p_e (q_b (r:=by apply h1x; omega; omega; exact c_9)) (h:=h0b ?_))))) | (refine gR 15 (p_e (q_b (r:=by exact h0e q_o)) (h:=p_a (h:=h0b ?_)))) | (refine gR 17 (p_e (q_b (r:=by exact h0e q_o)) (h:=p_a (h:=h0b ?_)))) | (refine gR 19 (p_e (q_b (r:=by exact h0e q_o)) (h:=p_a (h:=h0b ?_)))) | (refine gR 21 (p_e (q_b (r:=by exact h0e q_o)) (h:=p_a (h:=h0b ?_)))) | (refine gR 23 (p_e (q_b (r:=by exact h0e q_o)) (h:=p_a (h:=h0b ?_)))) | (refine gR 27 (p_e (q_b (r:=by exact h0e q_o)) (h:=p_a (h:=h0b ?_)))) | (refine gR 29 ?_ <;> (try refine q_e (by exact q_b (r:=by refine h0g ?_; first | rfl | (with_reducible assumption) | (decide; done) | omega)) ?_) <;> (try refine p_a (h:=h0b ?_))) | (refine gR 30 (p_e (q_f h3a) (h:=p_e q_l (h:=p_e (q_b (r:=by exact h0e q_o)) (h:=h0b ?_))))) | (refine gR 32 (p_e (q_f h4p) (h:=p_e q_l (h:=p_m (h:=p_a (h:=p_a (h:=h0b ?_))))))) | ((refine h2e rfl (fun hc => ?_) (fun hc => ?_)) <;> (try subst hc)))
    all_goals
     (refine h2k Try.results50 (.tmp rfl (.tmp rfl .nil)) ?_)
     exact ⟨_, ⟨rfl, rfl⟩, by intro w H; refine H.sub ?_; (try simp only [zzC, zzN]); repeat (first | exact List.Sublist.refl _ | refine List.Sublist.cons _ ?_)⟩
  have hpok2 := hpos
  by_cases c5 : c % 8 = 5
  ·have hst : stp { m with pos := m.pos + 1 } ⟨c, jt, jf, kk⟩ = { m with pos := m.pos + 1 + rjmp { m with pos := m.pos + 1 } ⟨c, jt, jf, kk⟩ } := by
    unfold stp
    rw [if_neg c0, if_neg c1, if_neg c2, if_neg c3, if_neg (by dsimp only; omega), if_pos c5, hjm c5]
    try rfl
   rw [hst] at hnx'
   generalize hz : rjmp { m with pos := m.pos + 1 } ⟨c, jt, jf, kk⟩ = z at *
   have b1 := hnx'.out.hi
   have b2 := hnx'.out.lo
   dsimp only at b1 b2
   by_cases h8 : c / 8 % 2 = 1
   ·have ho : oth { m with pos := m.pos + 1 } ⟨c, jt, jf, kk⟩ = m.x := if_pos h8
    rw [ho] at hrj
    clear hnx hrl hld hjm hrd hword hst hkn hz ho
    repeat' (first | refine h1k ?_ | refine h0k ?_ | refine h1g ?_ | refine h0y ?_ | refine h0q ?_ | refine h1j ?_ | refine h0o rfl ?_ | refine h0n rfl ?_ | (refine gR 4 (p_m (h:=p_m (h:=p_e (by apply h0m; exact rfl; exact (fun _ => BigFrame.builtin_len ..); apply h0i Try.underlying150; exact h4a) (h:=p_e (q_b (r:=by exact h0t q_o)) (h:=h0b ?_)))))) | (refine gR 5 (p_m (h:=p_m (h:=p_e (by apply h0f; exact rfl; exact rfl; (focus (apply h1z Try.underlying150 h5d; omega; omega; exact c_2))) (h:=q_e (by apply h0x (t:=149); exact rfl; exact c_22; kernel_rfl; kernel_rfl; exact h5d; (with_reducible assumption); (with_reducible assumption)) ?_)))) <;> (try refine h0a ?_; (refine h0u (t:=149) rfl Try.zeroValue149 ?_; intro nb hnb; (try simp only [Value.cells]))) <;> (try refine h0a ?_; (refine q_W ?_)) <;> (try refine h0b ?_)) | (refine gR 6 (q_m ?_) <;> (try refine q_e (q_b (r:=by apply h0w; exact c_9; (focus (refine IntWalk.i64_in _ ?_; omega)))) ?_) <;> (try refine p_a (h:=h0b ?_))) | (refine gR 7 (q_m ?_) <;> (try refine q_e (q_b (r:=by apply h0w; exact c_9; (focus (refine IntWalk.i64_in _ ?_; omega)))) ?_) <;> (try refine p_a (h:=h0b ?_))) | (refine gR 8 (p_e (q_f h4p) (h:=p_e q_l (h:=p_a (h:=h0b ?_))))) | (refine gR 9 (p_e (q_f h3a) (h:=q_e q_l ?_)) <;> (try refine q_e (q_b (r:=by apply h4q; omega; omega; exact c_9; (focus (refine IntWalk.i64_in _ ?_; omega)))) ?_) <;> (try refine q_e (q_b (r:=by apply h1x; omega; omega; exact c_9)) ?_) <;> (try refine q_e (by exact q_b (r:=by refine h0g ?_; first | rfl | (with_reducible assumption) | (decide; done) | omega)) ?_) <;> (try refine h0b ?_)) | (refine gR 10 (p_m (h:=p_a (h:=h0b ?_)))) | (refine gR 11 (p_e (q_f h3a) (h:=p_e q_l (h:=p_e (q_b (r:=by apply h1x; omega; omega; exact c_9)) (h:=h0b ?_))))) | (refine gR 15 (p_e (q_b (r:=by exact h0e q_o)) (h:=p_a (h:=h0b ?_)))) | (refine gR 17 (p_e (q_b (r:=by exact h0e q_o)) (h:=p_a (h:=h0b ?_)))) | (refine gR 19 (p_e (q_b (r:=by exact h0e q_o)) (h:=p_a (h:=h0b ?_)))) | (refine gR 21 (p_e (q_b (r:=by exact h0e q_o)) (h:=p_a (h:=h0b ?_)))) | (refine gR 23 (p_e (q_b (r:=by exact h0e q_o)) (h:=p_a (h:=h0b ?_)))) | (refine gR 27 ?_ <;> (try refine q_e (by exact q_b (r:=by refine h0g ?_; first | rfl | (with_reducible assumption) | (decide; done) | omega)) ?_) <;> (try refine p_a (h:=h0b ?_))) | (refine gR 28 (p_m (h:=p_e (q_L h5d) (h:=p_m (h:=q_m ?_)))) <;> (try refine h0a ?_; (refine h1i (F:=72) (by kernel_rfl) rfl rfl (hrj _) ?_; rintro _ _ ⟨rfl, rfl⟩)) <;> (try refine q_e (q_b (r:=by apply h0w; exact c_9; (focus (refine IntWalk.i64_in _ ?_; omega)))) ?_) <;> (try refine p_a (h:=h0b ?_))))
    all_goals
     refine h2u ({ m with pos := m.pos + 1 + z }, n + 1) ⟨⟨hnx'.out, hen, hact, rfl⟩, by dsimp only; omega⟩ (by (focus (repeat (first | exact Sub.nil | refine Sub.cons rfl ?_)))) (fun _ H => H.tail)
   ·have ho : oth { m with pos := m.pos + 1 } ⟨c, jt, jf, kk⟩ = kk := if_neg h8
    rw [ho] at hrj
    clear hnx hrl hld hjm hrd hword hst hkn hz ho
    repeat' (first | refine h1k ?_ | refine h0k ?_ | refine h1g ?_ | refine h0y ?_ | refine h0q ?_ | refine h1j ?_ | refine h0o rfl ?_ | refine h0n rfl ?_ | (refine gR 4 (p_m (h:=p_m (h:=p_e (by apply h0m; exact rfl; exact (fun _ => BigFrame.builtin_len ..); apply h0i Try.underlying150; exact h4a) (h:=p_e (q_b (r:=by exact h0t q_o)) (h:=h0b ?_)))))) | (refine gR 5 (p_m (h:=p_m (h:=p_e (by apply h0f; exact rfl; exact rfl; (focus (apply h1z Try.underlying150 h5d; omega; omega; exact c_2))) (h:=q_e (by apply h0x (t:=149); exact rfl; exact c_22; kernel_rfl; kernel_rfl; exact h5d; (with_reducible assumption); (with_reducible assumption)) ?_)))) <;> (try refine h0a ?_; (refine h0u (t:=149) rfl Try.zeroValue149 ?_; intro nb hnb; (try simp only [Value.cells]))) <;> (try refine h0a ?_; (refine q_W ?_)) <;> (try refine h0b ?_)) | (refine gR 6 (q_m ?_) <;> (try refine q_e (q_b (r:=by apply h0w; exact c_9; (focus (refine IntWalk.i64_in _ ?_; omega)))) ?_) <;> (try refine p_a (h:=h0b ?_))) | (refine gR 7 (q_m ?_) <;> (try refine q_e (q_b (r:=by apply h0w; exact c_9; (focus (refine IntWalk.i64_in _ ?_; omega)))) ?_) <;> (try refine p_a (h:=h0b ?_))) | (refine gR 8 (p_e (q_f h4p) (h:=p_e q_l (h:=p_a (h:=h0b ?_))))) | (refine gR 9 (p_e (q_f h3a) (h:=q_e q_l ?_)) <;> (try refine q_e (q_b (r:=by apply h4q; omega; omega; exact c_9; (focus (refine IntWalk.i64_in _ ?_; omega)))) ?_) <;> (try refine p_e (q_b (r:=by apply h1x; omega; omega; exact c_9)) (h:=p_e (q_b (r:=by exact h0e q_o)) (h:=h0b ?_)))) | (refine gR 11 (p_e (q_f h3a) (h:=p_e q_l (h:=p_e (q_b (r:=by apply h1x; omega; omega; exact c_9)) (h:=h0b ?_))))) | (refine gR 15 (p_e (q_b (r:=by exact h0e q_o)) (h:=p_a (h:=h0b ?_)))) | (refine gR 17 (p_e (q_b (r:=by exact h0e q_o)) (h:=p_a (h:=h0b ?_)))) | (refine gR 19 (p_e (q_b (r:=by exact h0e q_o)) (h:=p_a (h:=h0b ?_)))) | (refine gR 21 (p_e (q_b (r:=by exact h0e q_o)) (h:=p_a (h:=h0b ?_)))) | (refine gR 23 (p_e (q_b (r:=by exact h0e q_o)) (h:=p_a (h:=h0b ?_)))) | (refine gR 27 ?_ <;> (try refine q_e (by exact q_b (r:=by refine h0g ?_; first | rfl | (with_reducible assumption) | (decide; done) | omega)) ?_) <;> (try refine p_a (h:=h0b ?_))) | (refine gR 28 (p_m (h:=p_e (q_L h5d) (h:=p_m (h:=q_m ?_)))) <;> (try refine h0a ?_; (refine h1i (F:=72) (by kernel_rfl) rfl rfl (hrj _) ?_; rintro _ _ ⟨rfl, rfl⟩)) <;> (try refine q_e (q_b (r:=by apply h0w; exact c_9; (focus (refine IntWalk.i64_in _ ?_; omega)))) ?_) <;> (try refine p_a (h:=h0b ?_))))
    all_goals
     refine h2u ({ m with pos := m.pos + 1 + z }, n + 1) ⟨⟨hnx'.out, hen, hact, rfl⟩, by dsimp only; omega⟩ (by (focus (repeat (first | exact Sub.nil | refine Sub.cons rfl ?_)))) (fun _ H => H.tail)
  have c4 : c % 8 = 4 := by omega
  have hst0 : stp { m with pos := m.pos + 1 } ⟨c, jt, jf, kk⟩ = red { m with pos := m.pos + 1 } ⟨c, jt, jf, kk⟩ := by
   unfold stp
   rw [if_neg c0, if_neg c1, if_neg c2, if_neg c3, if_pos c4]
  have hax := hok.a
  have hxx := hok.x
  have hob : ∃ ob, oth { m with pos := m.pos + 1 } ⟨c, jt, jf, kk⟩ = ob ∧ (0 ≤ ob ∧ ob < 4294967296) ∧ ((c / 8 % 2 = 1 ∧ ob = m.x) ∨ (c / 8 % 2 ≠ 1 ∧ ob = kk)) := by
   by_cases h8 : c / 8 % 2 = 1
   ·exact ⟨m.x, if_pos h8, hxx, .inl ⟨h8, rfl⟩⟩
   ·exact ⟨kk, if_neg h8, hk, .inr ⟨h8, rfl⟩⟩
  obtain ⟨ob, ho, hobr, hob8⟩ := hob
  have hrd4 := hrd c4
  rw [ho] at hrd4
  by_cases hz : c / 16 = 3 ∧ ob = 0
  ·rw [if_pos hz] at hrd4
   rw [hst0, hrd4] at hnx'
   have hR := run_end hnx'.out rfl
   dsimp only at hR
   rw [hR, hact]
   obtain ⟨z1, z2⟩ := hz
   clear hnx hrl hrj hld hjm hrd hword hst0 hkn hR hrd4 ho
   rcases hob8 with ⟨h8, e8⟩ | ⟨h8, e8⟩
   all_goals
    have z3 := e8.symm.trans z2
    clear e8 z2
    repeat' (first | refine h1k ?_ | refine h0k ?_ | refine h2o ?_ | refine h1n ?_ | refine h1u ?_ | refine h0q ?_ | refine h1j ?_ | refine h2v ?_ | refine h0o rfl ?_ | refine h0n rfl ?_ | (refine gR 4 (p_m (h:=p_m (h:=p_e (by apply h0m; exact rfl; exact (fun _ => BigFrame.builtin_len ..); apply h0i Try.underlying150; exact h4a) (h:=p_e (q_b (r:=by exact h0t q_o)) (h:=h0b ?_)))))) | (refine gR 5 (p_m (h:=p_m (h:=p_e (by apply h0f; exact rfl; exact rfl; (focus (apply h1z Try.underlying150 h5d; omega; omega; exact c_2))) (h:=q_e (by apply h0x (t:=149); exact rfl; exact c_22; kernel_rfl; kernel_rfl; exact h5d; (with_reducible assumption); (with_reducible assumption)) ?_)))) <;> (try refine h0a ?_; (refine h0u (t:=149) rfl Try.zeroValue149 ?_; intro nb hnb; (try simp only [Value.cells]))) <;> (try refine h0a ?_; (refine q_W ?_)) <;> (try refine h0b ?_)) | (refine gR 6 (q_m ?_) <;> (try refine q_e (q_b (r:=by apply h0w; exact c_9; (focus (refine IntWalk.i64_in _ ?_; omega)))) ?_) <;> (try refine p_a (h:=h0b ?_))) | (refine gR 7 (q_m ?_) <;> (try refine q_e (q_b (r:=by apply h0w; exact c_9; (focus (refine IntWalk.i64_in _ ?_; omega)))) ?_) <;> (try refine p_a (h:=h0b ?_))) | (refine gR 8 (p_e (q_f h4p) (h:=p_e q_l (h:=p_a (h:=h0b ?_))))) | (refine gR 9 (p_e (q_f h3a) (h:=q_e q_l ?_)) <;> (try refine q_e (q_b (r:=by apply h4q; omega; omega; exact c_9; (focus (refine IntWalk.i64_in _ ?_; omega)))) ?_) <;> (try refine q_e (q_b (r:=by apply h1x; omega; omega; exact c_9)) ?_) <;> (try refine q_e (by exact q_b (r:=by first | (refine h0g ?_; first | rfl | (with_reducible assumption) | (decide; done) | omega) | (exact h0e q_o))) ?_) <;> (try refine h0b ?_)) | (refine gR 10 (p_m (h:=p_a (h:=h0b ?_)))) | (refine gR 11 (p_e (q_f h3a) (h:=p_e q_l (h:=p_e (q_b (r:=by apply h1x; omega; omega; exact c_9)) (h:=h0b ?_))))) | (refine gR 15 (p_e (q_b (r:=by exact h0e q_o)) (h:=p_a (h:=h0b ?_)))) | (refine gR 17 (p_e (q_b (r:=by exact h0e q_o)) (h:=p_a (h:=h0b ?_)))) | (refine gR 19 (p_e (q_b (r:=by exact h0e q_o)) (h:=p_a (h:=h0b ?_)))) | (refine gR 21 (p_e (q_b (r:=by exact h0e q_o)) (h:=p_a (h:=h0b ?_)))) | (refine gR 23 ?_ <;> (try refine q_e (by exact q_b (r:=by refine h0g ?_; first | rfl | (with_reducible assumption) | (decide; done) | omega)) ?_) <;> (try refine p_a (h:=h0b ?_))) | (refine gR 24 (p_e (q_f h3a) (h:=q_e q_l ?_)) <;> (try refine q_e (q_b (r:=by apply h4q; omega; omega; exact c_9; (focus (refine IntWalk.i64_in _ ?_; omega)))) ?_) <;> (try refine q_e (by exact q_b (r:=by refine h0g ?_; first | rfl | (with_reducible assumption) | (decide; done) | omega)) ?_) <;> (try refine p_m (h:=q_y (h0c rfl) ?_)) <;> (try refine q_y (by exact q_b (r:=by refine h0g ?_; first | rfl | (with_reducible assumption) | (decide; done) | omega)) ?_) <;> (try refine p_p (h:=h0b ?_))) | (refine gR 25 (p_m (h:=p_a (h:=p_a (h:=h0b ?_))))))
    (refine h2k Try.results50 (.tmp rfl (.tmp rfl .nil)) ?_)
    exact ⟨_, ⟨rfl, rfl⟩, by intro w H; refine H.sub ?_; (try simp only [zzC, zzN]); repeat (first | exact List.Sublist.refl _ | refine List.Sublist.cons _ ?_)⟩
  ·rw [if_neg hz] at hrd4
   rw [hst0, hrd4] at hnx'
   have hrk := fun (L : List Blk) => rreckon_c (S:=S) (w0:=w0) (L:=L) (c / 16) m.a ob (by omega) hax hobr (fun h3 h0 => hz ⟨h3, h0⟩)
   generalize rck (c / 16) m.a ob = z at *
   have hz2 : c / 16 ≠ 3 ∨ (c / 16 = 3 ∧ ob ≠ 0) := by omega
   clear hnx hrl hrj hld hjm hrd hword hst0 hkn hrd4 ho hz
   rcases hob8 with ⟨h8, rfl⟩ | ⟨h8, rfl⟩ <;> rcases hz2 with z1 | ⟨z1, z2⟩
   all_goals
    repeat' (first | refine h1k ?_ | refine h0k ?_ | refine h1g ?_ | refine h0y ?_ | refine h0q ?_ | refine h1j ?_ | refine h0o rfl ?_ | refine h0n rfl ?_ | (refine gR 4 (p_m (h:=p_m (h:=p_e (by apply h0m; exact rfl; exact (fun _ => BigFrame.builtin_len ..); apply h0i Try.underlying150; exact h4a) (h:=p_e (q_b (r:=by exact h0t q_o)) (h:=h0b ?_)))))) | (refine gR 5 (p_m (h:=p_m (h:=p_e (by apply h0f; exact rfl; exact rfl; (focus (apply h1z Try.underlying150 h5d; omega; omega; exact c_2))) (h:=q_e (by apply h0x (t:=149); exact rfl; exact c_22; kernel_rfl; kernel_rfl; exact h5d; (with_reducible assumption); (with_reducible assumption)) ?_)))) <;> (try refine h0a ?_; (refine h0u (t:=149) rfl Try.zeroValue149 ?_; intro nb hnb; (try simp only [Value.cells]))) <;> (try refine h0a ?_; (refine q_W ?_)) <;> (try refine h0b ?_)) | (refine gR 6 (q_m ?_) <;> (try refine q_e (q_b (r:=by apply h0w; exact c_9; (focus (refine IntWalk.i64_in _ ?_; omega)))) ?_) <;> (try refine p_a (h:=h0b ?_))) | (refine gR 7 (q_m ?_) <;> (try refine q_e (q_b (r:=by apply h0w; exact c_9; (focus (refine IntWalk.i64_in _ ?_; omega)))) ?_) <;> (try refine p_a (h:=h0b ?_))) | (refine gR 8 (p_e (q_f h4p) (h:=p_e q_l (h:=p_a (h:=h0b ?_))))) | (refine gR 9 (p_e (q_f h3a) (h:=q_e q_l ?_)) <;> (try refine q_e (q_b (r:=by apply h4q; omega; omega; exact c_9; (focus (refine IntWalk.i64_in _ ?_; omega)))) ?_) <;> (try refine q_e (q_b (r:=by apply h1x; omega; omega; exact c_9)) ?_) <;> (try refine q_e (by exact q_b (r:=by first | (refine h0g ?_; first | rfl | (with_reducible assumption) | (decide; done) | omega) | (exact h0e q_o))) ?_) <;> (try refine h0b ?_)) | (refine gR 10 (p_m (h:=p_a (h:=h0b ?_)))) | (refine gR 11 (p_e (q_f h3a) (h:=p_e q_l (h:=p_e (q_b (r:=by apply h1x; omega; omega; exact c_9)) (h:=h0b ?_))))) | (refine gR 15 (p_e (q_b (r:=by exact h0e q_o)) (h:=p_a (h:=h0b ?_)))) | (refine gR 17 (p_e (q_b (r:=by exact h0e q_o)) (h:=p_a (h:=h0b ?_)))) | (refine gR 19 (p_e (q_b (r:=by exact h0e q_o)) (h:=p_a (h:=h0b ?_)))) | (refine gR 21 (p_e (q_b (r:=by exact h0e q_o)) (h:=p_a (h:=h0b ?_)))) | (refine gR 23 ?_ <;> (try refine q_e (by exact q_b (r:=by refine h0g ?_; first | rfl | (with_reducible assumption) | (decide; done) | omega)) ?_) <;> (try refine p_a (h:=h0b ?_))) | (refine gR 24 (p_e (q_f h3a) (h:=q_e q_l ?_)) <;> (try refine q_e (q_b (r:=by apply h4q; omega; omega; exact c_9; (focus (refine IntWalk.i64_in _ ?_; omega)))) ?_) <;> (try refine q_e (by exact q_b (r:=by first | (refine h0g ?_; first | rfl | (with_reducible assumption) | (decide; done) | omega) | (exact h0e q_o))) ?_) <;> (try refine q_m ?_) <;> (try refine h0a ?_; (first | refine h3d rfl rfl rfl rfl ?_ | (refine h2i rfl rfl rfl ?_; (refine q_k (h0c rfl) ?_)))) <;> (try refine h0a ?_; (first | refine h3d rfl rfl rfl rfl ?_ | (refine h2i rfl rfl rfl ?_; (refine q_k (q_b (r:=by exact h0e q_o)) ?_)))) <;> (try refine p_p (h:=h0b ?_))) | (refine gR 26 (p_e (q_f h3a) (h:=q_e q_l ?_)) <;> (try refine q_e (q_b (r:=by apply h4q; omega; omega; exact c_9; (focus (refine IntWalk.i64_in _ ?_; omega)))) ?_) <;> (try refine p_m (h:=q_m ?_)) <;> (try refine h0a ?_; (refine h1i (F:=71) (by kernel_rfl) rfl rfl (hrk _) ?_; rintro _ _ ⟨rfl, rfl⟩)) <;> (try refine p_a (h:=h0b ?_))))
    refine h2u ({ m with pos := m.pos + 1, a := z }, n + 1) ⟨⟨hnx'.out, hen, hact, rfl⟩, by dsimp only; omega⟩ (by (focus (repeat (first | exact Sub.nil | refine Sub.cons rfl ?_)))) (fun _ H => H.tail)
 ·have hR := run_over hI hen (by omega)
  rw [hR]
  repeat' (first | refine h1k ?_ | refine h0k ?_ | refine h1y ?_ | refine h1m ?_ | refine h1t ?_ | refine h2p ?_ | refine h2v ?_ | refine h0n rfl ?_ | (refine gR 4 (p_m (h:=p_m (h:=p_e (by apply h0m; exact rfl; exact (fun _ => BigFrame.builtin_len ..); apply h0i Try.underlying150; exact h4a) (h:=p_e (q_b (r:=by exact h1q q_o)) (h:=h0b ?_)))))) | (refine gR 33 (p_m (h:=p_a (h:=p_a (h:=h0b ?_))))))
  (refine h2k Try.results50 (.tmp rfl (.tmp rfl .nil)) ?_)
  exact ⟨_, ⟨rfl, rfl⟩, by intro w H; refine H.sub ?_; (try simp only [zzC, zzN]); repeat (first | exact List.Sublist.refl _ | refine List.Sublist.cons _ ?_)⟩
structure AlI (w : List (Int × Int)) (n : Int) (g : Nat × Int) : Prop where
 le : g.1 ≤ w.length
 go : along w n = alongGo w (w.length - g.1) g.2
theorem along_c {S w0 L} {i : Nat} (b : Nat) (w : List (Int × Int)) (hw : w.length ≤ 9223372036854775807) (n : Int) (hi : L[i]? = some (mapB b (plV w))) :
  Fn Try.prog 67 #[.map (some b), .int .i64 n] S w0 L fun r L' => r = .int .i64 (along w n) ∧ L = L' := by
 have hlen : (plV w).length = w.length := by simp [plV]
 refine Fn2 Try.func67 Try.ntmps67 rfl rfl ?_
 repeat' (first | (refine h5t (id:=0) ?_) | refine h1k ?_ | refine h0k ?_ | (refine gR 0 (p_a (h:=h0b ?_))) | (refine gR 1 (p_m (h:=p_e (by apply E_lenB; exact rfl; exact c_25; exact Try.underlying167) (h:=p_m (h:=h0b ?_))))))
 refine ⟨?_⟩
 rw [hlen]
 refine h0q ?_
 refine h4g (γ:=Nat × Int) (AlI w n) (fun g => w.length - g.1) (fun g => [(1, .int .i64 g.2), (9, .int .i64 (g.1 : Nat))]) [(0, _), (8, _)] (fun _ => L)
  (0, n) (.cons rfl (.cons rfl .nil)) ⟨Nat.zero_le _, rfl⟩ (by (focus (repeat (first | exact Sub.nil | refine Sub.cons rfl ?_)))) (fun _ H => H) ?_
 rintro ⟨k, m⟩ ⟨hk, hgo⟩
 dsimp only at hk hgo ⊢
 simp only [List.cons_append, List.nil_append]
 by_cases hlt : k < w.length
 ·obtain ⟨r, h1, h2, h3⟩ := fd_pl m w 0
  obtain ⟨f, hf⟩ : ∃ f, w.length - k = f + 1 := ⟨w.length - k - 1, by omega⟩
  rw [hf, alongGo] at hgo
  cases hl : look m w with
  | none =>
   rw [hl] at hgo h2 h3
   have hgo' := Lib.hid hgo
   clear hgo
   repeat' (first | refine h1k ?_ | refine h0k ?_ | refine h1y ?_ | refine h1m ?_ | refine h1t ?_ | refine h2r rfl ?_ | refine h0q ?_ | refine h1j ?_ | refine h2p ?_ | refine h2v ?_ | refine h0o rfl ?_ | (refine gR 2 (p_e (q_b (r:=by exact h0t q_o)) (h:=h0b ?_))) | (refine gR 3 (p_m (h:=p_m (h:=p_e (by apply E_lookup; exact rfl; exact rfl; exact c_25; exact Try.underlying167; exact Try.underlying84; exact rfl; exact Try.zeroValue84; (with_reducible assumption); (with_reducible assumption); (with_reducible assumption)) (h:=p_m (h:=p_x (h:=p_x (h:=p_a (h:=p_a (h:=h0b ?_)))))))))) | (refine gR 4 (p_m (h:=p_e (by apply E_un; exact rfl; exact h4i) (h:=h0b ?_)))) | (refine gR 7 (p_m (h:=p_a (h:=h0b ?_)))))
   (refine h2k Try.results67 (.tmp rfl .nil) ?_)
   exact ⟨_, ⟨congrArg (Value.int .i64) hgo'.out.symm, rfl⟩, fun _ H => H⟩
  | some x =>
   rw [hl] at hgo h2 h3
   have hgo' := Lib.hid hgo
   clear hgo
   repeat' (first | refine h1k ?_ | refine h0k ?_ | refine h1g ?_ | refine h0y ?_ | refine h0q ?_ | refine h1j ?_ | refine h0o rfl ?_ | refine h0n rfl ?_ | (refine gR 2 (p_e (q_b (r:=by exact h0t q_o)) (h:=h0b ?_))) | (refine gR 3 (p_m (h:=p_m (h:=p_e (by apply E_lookup; exact rfl; exact rfl; exact c_25; exact Try.underlying167; exact Try.underlying84; exact rfl; exact Try.zeroValue84; (with_reducible assumption); (with_reducible assumption); (with_reducible assumption)) (h:=p_m (h:=p_x (h:=p_x (h:=p_a (h:=p_a (h:=h0b ?_)))))))))) | (refine gR 4 (p_m (h:=p_e (by apply E_un; exact rfl; exact h4b) (h:=h0b ?_)))) | (refine gR 5 (p_m (h:=p_a (h:=h0b ?_)))) | (refine gR 6 ?_ <;> (try refine q_e (q_b (r:=by apply h0w; exact c_9; (focus (refine IntWalk.i64_in _ ?_; omega)))) ?_) <;> (try refine p_m (h:=h0b ?_))))
   exact h2u (k + 1, x) ⟨⟨by dsimp only; omega, by rw [hgo'.out]; dsimp only; rw [show w.length - (k + 1) = f by omega]⟩, by dsimp only; omega⟩ (by (focus (repeat (first | exact Sub.nil | refine Sub.cons rfl ?_)))) (fun _ H => H)
 ·obtain rfl : k = w.length := by omega
  rw [Nat.sub_self] at hgo
  have hgo' := Lib.hid hgo
  clear hgo
  repeat' (first | refine h1k ?_ | refine h0k ?_ | refine h1y ?_ | refine h1m ?_ | refine h1t ?_ | refine h2p ?_ | refine h2v ?_ | refine h0n rfl ?_ | (refine gR 2 (p_e (q_b (r:=by exact h1q q_o)) (h:=h0b ?_))) | (refine gR 7 (p_m (h:=p_a (h:=h0b ?_)))))
  (refine h2k Try.results67 (.tmp rfl .nil) ?_)
  exact ⟨_, ⟨congrArg (Value.int .i64) hgo'.out.symm, rfl⟩, fun _ H => H⟩
structure FoI (l : List Prt) (n : Int) (k : Nat) : Prop where
 le : k ≤ l.length
 go : follows l n = follows (l.drop k) n
theorem follows_c {S w0 L} (l : List Prt) (hl : ∀ p ∈ l, p.ok) (hm : l.length ≤ maxLen) (a : Option Addr) (cap : Nat) (hs : Sli L a l.length 7 (h3z l)) (n : Int) :
  Fn Try.prog 68 #[.slice a l.length cap, .int .i64 n] S w0 L fun r L' => r = .bool (follows l n) ∧ L = L' := by
 unfold maxLen at hm
 refine Fn2 Try.func68 Try.ntmps68 rfl rfl ?_
 repeat' (first | (refine h5t (id:=0) ?_) | refine h1k ?_ | refine h0k ?_ | (refine gR 0 (p_a (h:=h0b ?_))) | (refine gR 1 (p_m (h:=p_e (by apply h0m; exact rfl; exact (fun _ => BigFrame.builtin_len ..); apply h0i Try.underlying82; exact h4a) (h:=p_m (h:=h0b ?_))))))
 refine ⟨?_⟩
 refine h0q ?_
 refine h4g (γ:=Nat) (FoI l n) (fun k => l.length - k) (fun k => [(9, .int .i64 (k : Nat))]) [(1, _), (7, _), (8, _)] (fun _ => L)
  0 (.cons rfl (.cons rfl (.cons rfl .nil))) ⟨Nat.zero_le _, rfl⟩ (by (focus (repeat (first | exact Sub.nil | refine Sub.cons rfl ?_)))) (fun _ H => H) ?_
 rintro k ⟨hk, hgo⟩
 simp only [List.cons_append, List.nil_append]
 have hgo' := Lib.hid hgo
 clear hgo
 by_cases hlt : k < l.length
 ·obtain ⟨i0, q, b, off, cs, T, fr, rfl, hi0, hsz, hx⟩ := hs.elem hlt
  rw [flatP_at l k hlt] at hx
  have hpk := hl _ (List.getElem_mem hlt)
  have hgo2 : follows l n = follows (l[k] :: l.drop (k + 1)) n := by rw [hgo'.out, List.drop_eq_getElem_cons hlt]
  rw [follows] at hgo2
  generalize l[k] = p at *
  obtain ⟨kind, to, els, ⟨c, jt, jf, kk⟩⟩ := p
  simp only [Prt.cells] at hx
  dsimp only at hgo2
  by_cases h1 : kind = 1
  ·subst h1
   rw [if_neg (by simp)] at hgo2
   by_cases h2 : to = n
   ·subst h2
    rw [if_pos rfl] at hgo2
    have hgo3 := Lib.hid hgo2
    clear hgo2
    repeat' (first | refine h1k ?_ | refine h0k ?_ | refine h2o ?_ | refine h1n ?_ | refine h1u ?_ | refine h0q ?_ | refine h1j ?_ | refine h2v ?_ | refine h0o rfl ?_ | refine h0n rfl ?_ | (refine gR 2 (p_e (q_b (r:=by exact h0t q_o)) (h:=h0b ?_))) | (refine gR 3 (p_e (by apply h0f; exact rfl; exact rfl; (focus (apply h1z Try.underlying82 h3q; omega; omega; exact c_2))) (h:=q_e (by apply h0x (t:=88); exact rfl; exact c_25; kernel_rfl; kernel_rfl; exact h3q; (with_reducible assumption); (with_reducible assumption)) ?_)) <;> (try refine h0a ?_; (refine h0u (t:=88) rfl Try.zeroValue88 ?_; intro nb hnb; (try simp only [Value.cells]))) <;> (try refine h0a ?_; (refine q_W ?_)) <;> (try refine h0b ?_)) | (refine gR 4 (p_e (q_f h2z) (h:=q_e q_l ?_)) <;> (try refine q_e (by exact q_b (r:=by refine h4c ?_; first | rfl | (with_reducible assumption) | (decide; done) | omega)) ?_) <;> (try refine h0b ?_)) | (refine gR 6 (p_e (q_f h4d) (h:=p_e q_l (h:=q_m ?_))) <;> (try refine q_e (by exact q_b (r:=by refine h0g ?_; first | rfl | (with_reducible assumption) | (decide; done) | omega)) ?_) <;> (try refine h0b ?_)) | (refine gR 7 (p_a (h:=h0b ?_))))
    (refine h2k Try.results68 (.tmp rfl .nil) ?_)
    exact ⟨_, ⟨congrArg Value.bool hgo3.out.symm, rfl⟩, fun _ H => H.tail⟩
   ·rw [if_neg h2] at hgo2
    have hgo3 := Lib.hid hgo2
    clear hgo2
    repeat' (first | refine h1k ?_ | refine h0k ?_ | refine h1g ?_ | refine h0y ?_ | refine h0q ?_ | refine h1j ?_ | refine h0o rfl ?_ | refine h0n rfl ?_ | (refine gR 2 (p_e (q_b (r:=by exact h0t q_o)) (h:=h0b ?_))) | (refine gR 3 (p_e (by apply h0f; exact rfl; exact rfl; (focus (apply h1z Try.underlying82 h3q; omega; omega; exact c_2))) (h:=q_e (by apply h0x (t:=88); exact rfl; exact c_25; kernel_rfl; kernel_rfl; exact h3q; (with_reducible assumption); (with_reducible assumption)) ?_)) <;> (try refine h0a ?_; (refine h0u (t:=88) rfl Try.zeroValue88 ?_; intro nb hnb; (try simp only [Value.cells]))) <;> (try refine h0a ?_; (refine q_W ?_)) <;> (try refine h0b ?_)) | (refine gR 4 (p_e (q_f h2z) (h:=q_e q_l ?_)) <;> (try refine q_e (by exact q_b (r:=by refine h4c ?_; first | rfl | (with_reducible assumption) | (decide; done) | omega)) ?_) <;> (try refine h0b ?_)) | (refine gR 6 (p_e (q_f h4d) (h:=p_e q_l (h:=p_m (h:=p_e (q_b (r:=by exact h0e q_o)) (h:=h0b ?_)))))) | (refine gR 8 ?_ <;> (try refine q_e (q_b (r:=by apply h0w; exact c_9; (focus (refine IntWalk.i64_in _ ?_; omega)))) ?_) <;> (try refine p_m (h:=h0b ?_))))
    exact h2u (k + 1) ⟨⟨by omega, hgo3.out⟩, by omega⟩ (by (focus (repeat (first | exact Sub.nil | refine Sub.cons rfl ?_)))) (fun _ H => H.tail)
  ·rw [if_pos h1] at hgo2
   have hgo3 := Lib.hid hgo2
   clear hgo2
   repeat' (first | refine h1k ?_ | refine h0k ?_ | refine h2o ?_ | refine h1n ?_ | refine h1u ?_ | refine h0q ?_ | refine h1j ?_ | refine h2v ?_ | refine h0o rfl ?_ | (refine gR 2 (p_e (q_b (r:=by exact h0t q_o)) (h:=h0b ?_))) | (refine gR 3 (p_e (by apply h0f; exact rfl; exact rfl; (focus (apply h1z Try.underlying82 h3q; omega; omega; exact c_2))) (h:=q_e (by apply h0x (t:=88); exact rfl; exact c_25; kernel_rfl; kernel_rfl; exact h3q; (with_reducible assumption); (with_reducible assumption)) ?_)) <;> (try refine h0a ?_; (refine h0u (t:=88) rfl Try.zeroValue88 ?_; intro nb hnb; (try simp only [Value.cells]))) <;> (try refine h0a ?_; (refine q_W ?_)) <;> (try refine h0b ?_)) | (refine gR 4 (p_e (q_f h2z) (h:=p_e q_l (h:=p_e (q_b (r:=by exact h4w q_o)) (h:=h0b ?_))))) | (refine gR 5 (p_a (h:=h0b ?_))))
   (refine h2k Try.results68 (.tmp rfl .nil) ?_)
   exact ⟨_, ⟨congrArg Value.bool hgo3.out.symm, rfl⟩, fun _ H => H.tail⟩
 ·obtain rfl : k = l.length := by omega
  have e : follows l n = false := by rw [hgo'.out, List.drop_length]; rfl
  have e' := Lib.hid e
  clear e
  repeat' (first | refine h1k ?_ | refine h0k ?_ | refine h1y ?_ | refine h1m ?_ | refine h1t ?_ | refine h2p ?_ | refine h2v ?_ | refine h0n rfl ?_ | (refine gR 2 (p_e (q_b (r:=by exact h1q q_o)) (h:=h0b ?_))) | (refine gR 9 (p_a (h:=h0b ?_))))
  (refine h2k Try.results68 (.tmp rfl .nil) ?_)
  exact ⟨_, ⟨congrArg Value.bool e'.out.symm, rfl⟩, fun _ H => H⟩
structure ThI (l : List Prt) (g : Nat × List (Int × Int)) : Prop where
 le : g.1 ≤ l.length
 go : threads l = threadsGo (l.drop g.1) g.2
 ok : WOk g.2 g.1
structure ThJ (l : List Prt) (k nx : Nat) : Prop where
 le : nx ≤ l.length
 lo : k < nx
 go : ng (l.drop (k + 1)) = ng (l.drop nx)
theorem ng_at {l : List Prt} {k : Nat} (h : k < l.length) : ng (l.drop k) = if l[k].kind = 1 then ng (l.drop (k + 1)) else if l[k].kind = 4 then some l[k].to else none := by
 rw [List.drop_eq_getElem_cons h, ng]
set_option maxHeartbeats 4000000 in
theorem threads_c {S w0 L} (l : List Prt) (hl : ∀ p ∈ l, p.ok) (hm : l.length ≤ maxLen) (a : Option Addr) (cap : Nat) (hs : Sli L a l.length 7 (h3z l)) :
    Fn Try.prog 66 #[.slice a l.length cap] S w0 L fun r L' => ∃ nb, r = .map (some nb) ∧ mapB nb (plV (threads l)) :: L = L' ∧ WOk (threads l) l.length := by
  unfold maxLen at hm
  refine Fn1 Try.func66 Try.ntmps66 rfl rfl ?_
  repeat' (first | (refine h5t (id := 0) ?_) | refine h1k ?_ | refine h0k ?_ | (refine gR 0 (p_a (h := h0b ?_))) | (refine gR 1 ?_ <;> (try refine h0a ?_; (refine K1_makeMap rfl ?_; intro nb hnb)) <;> (try refine p_a (h := h0b ?_))) | (refine gR 2 (p_m (h := p_e (by apply h0m; exact rfl; exact (fun _ => BigFrame.builtin_len ..); apply h0i Try.underlying82; exact h4a) (h := p_m (h := h0b ?_))))))
  refine ⟨?_⟩
  obtain ⟨nbW, rfl⟩ : ∃ x, x = nb := ⟨_, rfl⟩
  refine h0q ?_
  refine h4g (γ := Nat × List (Int × Int)) (ThI l) (fun g => l.length - g.1) (fun g => [(10, .int .i64 (g.1 : Nat))]) [(0, _), (3, _), (8, _), (9, _)] (fun g => mapB nbW (plV g.2) :: L)
    (0, []) (.cons rfl (.cons rfl (.cons rfl (.cons rfl .nil)))) ⟨Nat.zero_le _, rfl, ⟨by simp, by simp⟩⟩ (by (focus (repeat (first | exact Sub.nil | refine Sub.cons rfl ?_)))) (fun _ H => H) ?_
  rintro ⟨k, w⟩ ⟨hk, hgo, hwo⟩
  dsimp only at hk hgo hwo ⊢
  simp only [List.cons_append, List.nil_append]
  by_cases hlt : k < l.length
  · obtain ⟨i0, q, b, off, cs, T, fr, rfl, hi0, hsz, hx⟩ := (hs.up (mapB nbW (plV w))).elem hlt
    rw [flatP_at l k hlt] at hx
    have hpk := hl _ (List.getElem_mem hlt)
    have hthr : thr1 l[k] (l.drop (k + 1)) w = if l[k].kind = 1 then (match ng (l.drop (k + 1)) with | some x => wset l[k].to x w | none => w) else w := rfl
    have hwo2 : WOk (thr1 l[k] (l.drop (k + 1)) w) (k + 1) := thr1_ok (fun q hq => hl q (by
      rcases List.mem_cons.1 hq with rfl | h
      · exact List.getElem_mem hlt
      · exact List.mem_of_mem_drop h)) hwo
    rw [List.drop_eq_getElem_cons hlt, threadsGo] at hgo
    obtain ⟨kind, hpe⟩ : ∃ x, l[k].kind = x := ⟨_, rfl⟩
    generalize hpd : l[k] = p at *
    obtain ⟨kind', to, els, ⟨c, jt, jf, kk⟩⟩ := p
    obtain rfl : kind' = kind := hpe
    have hpe : l[k].kind = kind' := by rw [hpd]
    clear hpd
    simp only [Prt.cells] at hx
    dsimp only at hthr
    have hgo' := Lib.hid hgo
    clear hgo
    by_cases h1 : kind' = 1
    · have hk1 : RowKit.Hid (l[k].kind = 1) := Lib.hid (hpe.trans h1)
      subst h1
      rw [if_pos rfl] at hthr
      have hwo' := Lib.hid hwo2
      have hthr' := Lib.hid hthr
      clear hwo2 hthr hwo
      generalize thr1 ⟨1, to, els, ⟨c, jt, jf, kk⟩⟩ (l.drop (k + 1)) w = w2 at *
      -- the place behind the h2f
      repeat' (first | (refine h4s (id := 6) ?_) | refine h1k ?_ | refine h0k ?_ | refine h0q ?_ | refine h1j ?_ | refine h0o rfl ?_ | refine h0n rfl ?_ | (refine gR 3 (p_e (q_b (r := by exact h0t q_o)) (h := h0b ?_))) | (refine gR 4 (p_m (h := p_e (by apply h0f; exact rfl; exact rfl; (focus (apply h1z Try.underlying82 h3q; omega; omega; exact c_2))) (h := q_e (by apply h0x (t := 88); exact rfl; exact c_25; kernel_rfl; kernel_rfl; exact h3q; (with_reducible assumption); (with_reducible assumption)) ?_))) <;> (try refine h0a ?_; (refine h0u (t := 88) rfl Try.zeroValue88 ?_; intro nb hnb; (try simp only [Value.cells]))) <;> (try refine q_a ?_) <;> (try refine h0a ?_; (refine q_W ?_)) <;> (try refine h0b ?_)) | (refine gR 5 (p_e (q_f h2z) (h := q_e q_l ?_)) <;> (try refine q_e (by exact q_b (r := by refine h4c ?_; first | rfl | (with_reducible assumption) | (decide; done) | omega)) ?_) <;> (try refine h0b ?_)))
      refine ⟨?_⟩
      repeat' (first | (refine h5t (id := 2) ?_) | refine h1k ?_ | refine h0k ?_ | (refine gR 6 (p_m (h := p_a (h := h0b ?_)))))
      refine ⟨?_⟩
      refine h0q ?_
      refine h4g (γ := Nat) (fun nx => nx ≤ l.length ∧ (nx = k ∨ ThJ l k nx)) (fun nx => l.length - nx) (fun nx => [(6, .int .i64 (nx : Nat))]) [(0, _), (3, _), (5, _), (8, _), (9, _), (10, _)] (fun _ => _ :: mapB nbW (plV w) :: L)
        k (.cons rfl (.cons rfl (.cons rfl (.cons rfl (.cons rfl (.cons rfl .nil)))))) ⟨hk, .inl rfl⟩ (by (focus (repeat (first | exact Sub.nil | refine Sub.cons rfl ?_)))) (fun _ H => H) ?_
      rintro nx ⟨hnx, hJ⟩
      simp only [List.cons_append, List.nil_append]
      have hnk : k ≤ nx := by rcases hJ with rfl | h; · omega
                              · have := h.lo; omega
      -- what stands at nx
      by_cases hnl : nx < l.length
      · obtain ⟨i1, q1, b1, off1, cs1, T1, fr1, hab, hi1, hsz1, hx1⟩ := hs.elem hnl
        rw [flatP_at l nx hnl] at hx1
        have hng := ng_at hnl
        have hJ1 : l[nx].kind = 1 → ThJ l k (nx + 1) := by
          intro e1
          rcases hJ with rfl | h
          · exact ⟨by omega, by omega, rfl⟩
          · exact ⟨by omega, by have := h.lo; omega, by rw [h.go, hng, if_pos e1]⟩
        have hJ2 : l[nx].kind ≠ 1 → ng (l.drop (k + 1)) = if l[nx].kind = 4 then some l[nx].to else none := by
          intro e1
          rcases hJ with rfl | h
          · exact absurd hk1.out e1
          · rw [h.go, hng, if_neg e1]
        have hpx := hl _ (List.getElem_mem hnl)
        obtain ⟨rfl, rfl⟩ : b1 = b ∧ off1 = off := by simpa [eq_comm] using hab
        generalize l[nx] = p at *
        obtain ⟨kind2, to2, els2, ⟨c2, jt2, jf2, kk2⟩⟩ := p
        simp only [Prt.cells] at hx1
        have hp0 : cs1.toList[off1 + nx * 7]? = some (.int .u8 kind2) := by
          have := congrArg (fun z : List Value => z[0]?) hx1
          simpa [List.getElem?_take, List.getElem?_drop] using this
        have hp1 : cs1.toList[off1 + nx * 7 + 1]? = some (.int .i64 to2) := by
          have := congrArg (fun z : List Value => z[1]?) hx1
          simpa [List.getElem?_take, List.getElem?_drop] using this
        have hJ1' := Lib.hid hJ1
        have hJ2' := Lib.hid hJ2
        clear hJ1 hJ2 hJ hng hx1 hi0 hsz hx
        dsimp only at hJ1' hJ2'
        by_cases e1 : kind2 = 1
        · subst e1
          repeat' (first | refine h1k ?_ | refine h0k ?_ | refine h1g ?_ | refine h0y ?_ | refine h0q ?_ | refine h1j ?_ | refine h0o rfl ?_ | (refine gR 7 (p_m (h := p_m (h := p_e (by apply h0m; exact rfl; exact (fun _ => BigFrame.builtin_len ..); apply h0i Try.underlying82; exact h4a) (h := p_e (q_b (r := by exact h0t q_o)) (h := p_m (h := p_y (h0c rfl) (h := p_y (h0c rfl) (h := p_y (by apply h0f; exact rfl; exact rfl; (focus (apply h1z Try.underlying82 h3q; omega; omega; exact c_2))) (h := p_y (q_g h2z) (h := q_y (by apply h0l (t := 83); exact rfl; exact c_22; kernel_rfl; kernel_rfl; (with_reducible assumption)) ?_)))))))))) <;> (try refine q_y (by exact q_b (r := by refine h0g ?_; first | rfl | (with_reducible assumption) | (decide; done) | omega)) ?_) <;> (try refine p_p (h := h0b ?_))) | (refine gR 8 (q_m ?_) <;> (try refine q_e (q_b (r := by apply h0w; exact c_9; (focus (refine IntWalk.i64_in _ ?_; omega)))) ?_) <;> (try refine p_a (h := h0b ?_))))
          exact h2u (nx + 1) ⟨⟨by omega, .inr (hJ1'.out rfl)⟩, by omega⟩ (by (focus (repeat (first | exact Sub.nil | refine Sub.cons rfl ?_)))) (fun _ H => H)
        · have hng := hJ2'.out e1
          have hng' := Lib.hid hng
          clear hng
          by_cases e4 : kind2 = 4
          · subst e4
            rw [if_pos rfl] at hng'
            rw [hng'.out] at hthr'
            obtain ⟨r, u1, u2⟩ := upd_pl to to2 w
            repeat' (first | refine h1k ?_ | refine h0k ?_ | refine h1g ?_ | refine h1y ?_ | refine h1m ?_ | refine h0y ?_ | refine h1t ?_ | refine h2p ?_ | refine h0o rfl ?_ | refine h0n rfl ?_ | (refine gR 7 (p_m (h := p_m (h := p_e (by apply h0m; exact rfl; exact (fun _ => BigFrame.builtin_len ..); apply h0i Try.underlying82; exact h4a) (h := p_e (q_b (r := by exact h0t q_o)) (h := p_m (h := p_y (h0c rfl) (h := p_y (h0c rfl) (h := p_y (by apply h0f; exact rfl; exact rfl; (focus (apply h1z Try.underlying82 h3q; omega; omega; exact c_2))) (h := p_y (q_g h2z) (h := p_y (by apply h0l (t := 83); exact rfl; exact c_22; kernel_rfl; kernel_rfl; (with_reducible assumption)) (h := p_y (q_b (r := by exact h0e q_o)) (h := p_p (h := h0b ?_)))))))))))))) | (refine gR 9 (p_m (h := p_m (h := p_e (by apply h0m; exact rfl; exact (fun _ => BigFrame.builtin_len ..); apply h0i Try.underlying82; exact h4a) (h := p_e (q_b (r := by exact h0t q_o)) (h := p_m (h := p_y (h0c rfl) (h := p_y (h0c rfl) (h := p_y (by apply h0f; exact rfl; exact rfl; (focus (apply h1z Try.underlying82 h3q; omega; omega; exact c_2))) (h := p_y (q_g h2z) (h := q_y (by apply h0l (t := 83); exact rfl; exact c_22; kernel_rfl; kernel_rfl; (with_reducible assumption)) ?_)))))))))) <;> (try refine q_y (by exact q_b (r := by refine h0g ?_; first | rfl | (with_reducible assumption) | (decide; done) | omega)) ?_) <;> (try refine p_p (h := h0b ?_))) | ((apply h3c (i := 1) (id := 10) (m := 9); exact c_14; kernel_rfl; exact rfl) <;> (try refine q_t 0 (e := h2x) (x := by exact h0c rfl) (h := q_t 1 (e := h2x) (x := by exact q_f h4d) (h := q_t 2 (e := h2x) (x := by exact q_l) (h := q_t 3 (e := h2x) (x := by exact h0c rfl) (h := q_t 4 (e := h2x) (x := by exact h0c rfl) (h := q_t 5 (e := h2x) (x := by apply h0f; exact rfl; exact rfl; (focus (apply h1z Try.underlying82 h3q; omega; omega; exact c_2))) (h := q_t 6 (e := h2x) (x := by exact q_g h4d) (h := q_t 7 (e := h2x) (x := by apply h0l (t := 84); exact rfl; exact c_22; kernel_rfl; kernel_rfl; (with_reducible assumption)) (h := ?_))))))))) <;> (try refine q_r 8 ?_; (apply K1_mapUpdate; exact rfl; exact rfl; exact rfl; exact h6c; exact Try.underlying167; exact Try.underlying84; exact rfl; (with_reducible assumption); (try simp only [List.set_cons_succ]); (try simp only [List.set_cons_zero])); refine h2y h2x ?_) <;> (try refine h2d (by kernel_rfl) ?_)) | (refine gR 11 ?_ <;> (try refine q_e (q_b (r := by apply h0w; exact c_9; (focus (refine IntWalk.i64_in _ ?_; omega)))) ?_) <;> (try refine p_m (h := h0b ?_))))
            all_goals
              refine h2u (k + 1, w2) ⟨⟨by dsimp only; omega, hgo'.out, hwo'.out⟩, by dsimp only; omega⟩ (by (focus (repeat (first | exact Sub.nil | refine Sub.cons rfl ?_)))) ?_
              intro w H
              rw [hthr'.out, ← u2]
              exact H.tail
          · rw [if_neg e4] at hng'
            rw [hng'.out] at hthr'
            repeat' (first | refine h1k ?_ | refine h0k ?_ | refine h1g ?_ | refine h1y ?_ | refine h1m ?_ | refine h0y ?_ | refine h1t ?_ | refine h1j ?_ | refine h2p ?_ | refine h0n rfl ?_ | (refine gR 7 (p_m (h := p_m (h := p_e (by apply h0m; exact rfl; exact (fun _ => BigFrame.builtin_len ..); apply h0i Try.underlying82; exact h4a) (h := p_e (q_b (r := by exact h0t q_o)) (h := p_m (h := p_y (h0c rfl) (h := p_y (h0c rfl) (h := p_y (by apply h0f; exact rfl; exact rfl; (focus (apply h1z Try.underlying82 h3q; omega; omega; exact c_2))) (h := p_y (q_g h2z) (h := p_y (by apply h0l (t := 83); exact rfl; exact c_22; kernel_rfl; kernel_rfl; (with_reducible assumption)) (h := p_y (q_b (r := by exact h0e q_o)) (h := p_p (h := h0b ?_)))))))))))))) | (refine gR 9 (p_m (h := p_m (h := p_e (by apply h0m; exact rfl; exact (fun _ => BigFrame.builtin_len ..); apply h0i Try.underlying82; exact h4a) (h := p_e (q_b (r := by exact h0t q_o)) (h := p_m (h := p_y (h0c rfl) (h := p_y (h0c rfl) (h := p_y (by apply h0f; exact rfl; exact rfl; (focus (apply h1z Try.underlying82 h3q; omega; omega; exact c_2))) (h := p_y (q_g h2z) (h := p_y (by apply h0l (t := 83); exact rfl; exact c_22; kernel_rfl; kernel_rfl; (with_reducible assumption)) (h := p_y (q_b (r := by exact h0e q_o)) (h := p_p (h := h0b ?_)))))))))))))) | (refine gR 11 ?_ <;> (try refine q_e (q_b (r := by apply h0w; exact c_9; (focus (refine IntWalk.i64_in _ ?_; omega)))) ?_) <;> (try refine p_m (h := h0b ?_))))
            refine h2u (k + 1, w2) ⟨⟨by dsimp only; omega, hgo'.out, hwo'.out⟩, by dsimp only; omega⟩ (by (focus (repeat (first | exact Sub.nil | refine Sub.cons rfl ?_)))) ?_
            intro w H
            rw [hthr'.out]
            exact H.tail
      · obtain rfl : nx = l.length := by omega
        have hng : ng (l.drop (k + 1)) = none := by
          rcases hJ with rfl | h
          · omega
          · rw [h.go, List.drop_length]; rfl
        rw [hng] at hthr'
        clear hng hJ
        repeat' (first | refine h1k ?_ | refine h0k ?_ | refine h1g ?_ | refine h1y ?_ | refine h1m ?_ | refine h0y ?_ | refine h1t ?_ | refine h1j ?_ | refine h2p ?_ | refine h0n rfl ?_ | (refine gR 7 (p_m (h := p_m (h := p_e (by apply h0m; exact rfl; exact (fun _ => BigFrame.builtin_len ..); apply h0i Try.underlying82; exact h4a) (h := p_e (q_b (r := by exact h1q q_o)) (h := p_m (h := p_z (h := p_z (h := p_z (h := p_z (h := p_z (h := p_z (h := p_p (h := h0b ?_)))))))))))))) | (refine gR 9 (p_m (h := p_m (h := p_e (by apply h0m; exact rfl; exact (fun _ => BigFrame.builtin_len ..); apply h0i Try.underlying82; exact h4a) (h := p_e (q_b (r := by exact h1q q_o)) (h := p_m (h := p_z (h := p_z (h := p_z (h := p_z (h := p_z (h := p_z (h := p_p (h := h0b ?_)))))))))))))) | (refine gR 11 ?_ <;> (try refine q_e (q_b (r := by apply h0w; exact c_9; (focus (refine IntWalk.i64_in _ ?_; omega)))) ?_) <;> (try refine p_m (h := h0b ?_))))
        refine h2u (k + 1, w2) ⟨⟨by dsimp only; omega, hgo'.out, hwo'.out⟩, by dsimp only; omega⟩ (by (focus (repeat (first | exact Sub.nil | refine Sub.cons rfl ?_)))) ?_
        intro w H
        rw [hthr'.out]
        exact H.tail
    · rw [if_neg h1] at hthr
      rw [hthr] at hgo' hwo2
      repeat' (first | refine h1k ?_ | refine h0k ?_ | refine h1g ?_ | refine h1m ?_ | refine h1t ?_ | refine h0q ?_ | refine h1j ?_ | refine h2p ?_ | refine h0o rfl ?_ | (refine gR 3 (p_e (q_b (r := by exact h0t q_o)) (h := h0b ?_))) | (refine gR 4 (p_m (h := p_e (by apply h0f; exact rfl; exact rfl; (focus (apply h1z Try.underlying82 h3q; omega; omega; exact c_2))) (h := q_e (by apply h0x (t := 88); exact rfl; exact c_25; kernel_rfl; kernel_rfl; exact h3q; (with_reducible assumption); (with_reducible assumption)) ?_))) <;> (try refine h0a ?_; (refine h0u (t := 88) rfl Try.zeroValue88 ?_; intro nb hnb; (try simp only [Value.cells]))) <;> (try refine q_a ?_) <;> (try refine h0a ?_; (refine q_W ?_)) <;> (try refine h0b ?_)) | (refine gR 5 (p_e (q_f h2z) (h := p_e q_l (h := p_e (q_b (r := by exact h4w q_o)) (h := h0b ?_))))) | (refine gR 11 ?_ <;> (try refine q_e (q_b (r := by apply h0w; exact c_9; (focus (refine IntWalk.i64_in _ ?_; omega)))) ?_) <;> (try refine p_m (h := h0b ?_))))
      exact h2u (k + 1, w) ⟨⟨by dsimp only; omega, hgo'.out, hwo2⟩, by dsimp only; omega⟩ (by (focus (repeat (first | exact Sub.nil | refine Sub.cons rfl ?_)))) (fun _ H => H.tail)
  · obtain rfl : k = l.length := by omega
    rw [List.drop_length] at hgo
    have e : threads l = w := hgo
    have e' := Lib.hid e
    clear e hgo
    repeat' (first | refine h1k ?_ | refine h0k ?_ | refine h1y ?_ | refine h1m ?_ | refine h1t ?_ | refine h2p ?_ | refine h2v ?_ | refine h0n rfl ?_ | (refine gR 3 (p_e (q_b (r := by exact h1q q_o)) (h := h0b ?_))) | (refine gR 12 (p_m (h := p_a (h := h0b ?_)))))
    (refine h2k Try.results66 (.tmp rfl .nil) ?_)
    exact ⟨_, ⟨nbW, rfl, by rw [e'.out], by rw [e'.out]; exact hwo⟩, fun _ H => H⟩
def slO (a : Option Addr) (lo cap m : Nat) : Option Addr := if cap = lo then a else a.map (·.add (lo * m))
theorem Sli.cut {L : List Blk} {a : Option Addr} {len cap m lo hi : Nat} {cells : List Value} (h : Sli L a len m cells) (h1 : lo ≤ hi) (h2 : hi ≤ len) (h3 : len ≤ cap) : Sli L (slO a lo cap m) (hi - lo) m ((cells.drop (lo * m)).take ((hi - lo) * m)) := by
 have hlen := h.1
 have e1 : lo * m + (hi - lo) * m = hi * m := by rw [← Nat.add_mul]; congr 1; omega
 have e2 : hi * m ≤ len * m := Nat.mul_le_mul_right _ h2
 refine ⟨by rw [List.length_take, List.length_drop, hlen]; omega, ?_⟩
 by_cases hz : hi - lo = 0
 ·exact .inl hz
 ·rcases h.2 with h0 | ⟨i, q, b, off, cs, T, fr, rfl, hi', hsz, htk⟩
  ·omega
  ·refine .inr ⟨i, q, b, off + lo * m, cs, T, fr, ?_, hi', by omega, ?_⟩
   ·unfold slO
    rw [if_neg (by omega), Option.map_some]
    congr 1
    unfold Addr.add; split <;> simp_all
   ·subst htk
    rw [List.drop_take, List.drop_drop, List.take_take, Nat.min_eq_left (by omega)]
section
variable {P : Program} {t s : TypeId}
theorem r_slg {elem m len cap l' h' : Nat} {a : Option Addr} {lo hi : Option Value} (ht : P.underlying t = some (.slice elem)) (hm : (P.info? elem).map (·.size) = some m)
  (hb : ∀ w, (Instr.sliceBounds true len cap lo hi none).run P w = .ok (l', h', cap) w) : RSlc P t (.slice a len cap) lo hi none (.slice (slO a l' cap m) (h' - l') (cap - l')) := .mk fun w => by
 cases hi' : P.info? elem with
 | none => simp [hi'] at hm
 | some i =>
  have h2 : i.size = m := by simpa [hi'] using hm
  simp [Instr.sliceAt, Instr.slice, Sem.run_bind, run_underlying ht, hb, sizeOf, typeInfo, hi', h2, slO]
end
section
variable {P : Program} {n : Nat} {l : List (Nat × Value)} {S : List Nat} {w0 : World} {L : List Blk} {d : Tmp} {ty : TypeId} {pos : String} {af : Array Edge}
end
end Go.Proofs.Ytpbpgbkpciffgaa
