/- Part 4 of what the last text of this claim leans on: rules of walks, contracts, plain facts. Conditions: those of each statement. -/
import Derived.Test.YtnpnjicaigdjjaaGreatQv3
set_option maxRecDepth 100000
namespace Go.Proofs.YtnpnjicaigdjjaaGreat
open Go Go.RowKit
theorem plain_c {S w0 L} (c : UInt8) : Fn Tryz.prog 65 #[.int .u8 (c.toNat : Int)] S w0 L fun v L' => v = .bool (plB c) ∧ L = L' := by
 have hlt := c.toNat_lt
 unfold plB
 by_cases h1 : 32 < c.toNat
 ·by_cases h2 : c.toNat < 127
  ·by_cases h3 : c.toNat = 35
   ·rw [h3]
    refine Fn1 Tryz.func65 Tryz.ntmps65 rfl rfl ?_
    repeat' (first | refine h2m ?_ | refine h0d ?_ | refine h0u ?_ | refine h1h ?_ | refine h1f ?_ | refine h1g ?_ | refine h0s ?_ | refine h0t ?_ | refine h1l ?_ | refine h1k ?_ | refine h1j ?_ | refine h1i rfl ?_ | refine h1a ?_ | refine h1u ?_ | refine h1v ?_ | refine h2n ?_ | refine h0v rfl ?_ | refine h0w rfl ?_ | (refine gR 0 ?_ <;> (try refine h0a ?_; (first | (refine q_k (h0b rfl) ?_))) <;> (try refine h0d ?_)) | (refine gR 1 ?_ <;> (try refine h0a ?_; (first | (refine q_k (h0c rfl) ?_))) <;> (try refine h0a ?_; (first | (refine q_k (by exact q_b (r:=by first | (exact h2e q_o) | (exact h2f q_o) | exact h2y)) ?_))) <;> (try refine h0a ?_; (first | (refine q_k (h0c rfl) ?_))) <;> (try refine h0a ?_; (first | refine h0p rfl rfl rfl rfl ?_ | (refine h0z rfl rfl rfl ?_) | (refine h0h rfl rfl rfl ?_; (first | (refine q_k (h0c rfl) ?_))) | ((first | (refine h0f rfl rfl (fun hc => ?_) (fun hc => ?_)) | (refine h0g rfl rfl (fun hc => ?_) (fun hc => ?_)) | (refine h0k rfl rfl (fun hc => ?_) (fun hc => ?_))) <;> (try subst hc) <;> (first | refine h0p rfl rfl rfl rfl ?_ | (refine h0h rfl rfl rfl ?_; (first | (refine q_k (h0c rfl) ?_))))))) <;> (try refine h0a ?_; (first | refine h0p rfl rfl rfl rfl ?_ | (refine h0z rfl rfl rfl ?_) | (refine h0h rfl rfl rfl ?_; (first | (refine q_k (by exact q_b (r:=by first | (exact h1y q_o) | (exact h1z q_o) | exact h2v)) ?_))) | ((first | (refine h0f rfl rfl (fun hc => ?_) (fun hc => ?_)) | (refine h0g rfl rfl (fun hc => ?_) (fun hc => ?_)) | (refine h0k rfl rfl (fun hc => ?_) (fun hc => ?_))) <;> (try subst hc) <;> (first | refine h0p rfl rfl rfl rfl ?_ | (refine h0h rfl rfl rfl ?_; (first | (refine q_k (by exact q_b (r:=by first | (exact h1y q_o) | (exact h1z q_o) | exact h2v)) ?_))))))) <;> (try refine h0a ?_; (first | (refine q_k (h2w rfl rfl) ?_))) <;> (try refine h0a ?_; (first | (refine q_k (h0c rfl) ?_))) <;> (try refine h0a ?_; (first | refine h0p rfl rfl rfl rfl ?_ | (refine h0z rfl rfl rfl ?_) | (refine h0h rfl rfl rfl ?_; (first | (refine q_k (h0c rfl) ?_))) | ((first | (refine h0f rfl rfl (fun hc => ?_) (fun hc => ?_)) | (refine h0g rfl rfl (fun hc => ?_) (fun hc => ?_)) | (refine h0k rfl rfl (fun hc => ?_) (fun hc => ?_))) <;> (try subst hc) <;> (first | refine h0p rfl rfl rfl rfl ?_ | (refine h0h rfl rfl rfl ?_; (first | (refine q_k (h0c rfl) ?_))))))) <;> (try refine h0a ?_; (first | refine h0p rfl rfl rfl rfl ?_ | (refine h0z rfl rfl rfl ?_) | (refine h0h rfl rfl rfl ?_; (first | (refine q_k (by exact q_b (r:=by first | (refine h2t ?_; first | rfl | (with_reducible assumption) | (decide; done) | omega) | (exact h2s q_o) | exact h3u)) ?_))) | ((first | (refine h0f rfl rfl (fun hc => ?_) (fun hc => ?_)) | (refine h0g rfl rfl (fun hc => ?_) (fun hc => ?_)) | (refine h0k rfl rfl (fun hc => ?_) (fun hc => ?_))) <;> (try subst hc) <;> (first | refine h0p rfl rfl rfl rfl ?_ | (refine h0h rfl rfl rfl ?_; (first | (refine q_k (by exact q_b (r:=by first | (refine h2t ?_; first | rfl | (with_reducible assumption) | (decide; done) | omega) | (exact h2s q_o) | exact h3u)) ?_))))))) <;> (try refine h0a ?_; (first | (refine q_k (h2w rfl rfl) ?_))) <;> (try refine h0a ?_; (first | (refine q_k (h0c rfl) ?_))) <;> (try refine h0a ?_; (first | refine h0p rfl rfl rfl rfl ?_ | (refine h0z rfl rfl rfl ?_) | (refine h0h rfl rfl rfl ?_; (first | (refine q_k (h0c rfl) ?_))) | ((first | (refine h0f rfl rfl (fun hc => ?_) (fun hc => ?_)) | (refine h0g rfl rfl (fun hc => ?_) (fun hc => ?_)) | (refine h0k rfl rfl (fun hc => ?_) (fun hc => ?_))) <;> (try subst hc) <;> (first | refine h0p rfl rfl rfl rfl ?_ | (refine h0h rfl rfl rfl ?_; (first | (refine q_k (h0c rfl) ?_))))))) <;> (try refine h0a ?_; (first | refine h0p rfl rfl rfl rfl ?_ | (refine h0z rfl rfl rfl ?_) | (refine h0h rfl rfl rfl ?_; (first | (refine q_k (by exact q_b (r:=by first | (refine h2t ?_; first | rfl | (with_reducible assumption) | (decide; done) | omega) | (exact h2s q_o) | exact h3u)) ?_))) | ((first | (refine h0f rfl rfl (fun hc => ?_) (fun hc => ?_)) | (refine h0g rfl rfl (fun hc => ?_) (fun hc => ?_)) | (refine h0k rfl rfl (fun hc => ?_) (fun hc => ?_))) <;> (try subst hc) <;> (first | refine h0p rfl rfl rfl rfl ?_ | (refine h0h rfl rfl rfl ?_; (first | (refine q_k (by exact q_b (r:=by first | (refine h2t ?_; first | rfl | (with_reducible assumption) | (decide; done) | omega) | (exact h2s q_o) | exact h3u)) ?_))))))) <;> (try refine h0a ?_; (first | (refine q_k (h2w rfl rfl) ?_))) <;> (try refine h0a ?_; (first | (refine q_k (h0b rfl) ?_))) <;> (try refine h0d ?_)) | ((first | (refine h0o rfl (fun hc => ?_) (fun hc => ?_)) | (refine h0x rfl (fun hc => ?_) (fun hc => ?_)) | (refine h1r rfl (fun hc => ?_) (fun hc => ?_))) <;> (try subst hc)))
    (refine h2q Tryz.results65 (.tmp rfl .nil) ?_)
    exact ⟨_, ⟨rfl, rfl⟩, by intro w H; refine H.sub ?_; (try simp only [zzC, zzN]); repeat (first | exact List.Sublist.refl _ | refine List.Sublist.cons_cons _ ?_ | refine List.Sublist.cons _ ?_ | refine List.sublist_append_of_sublist_right ?_)⟩
   ·by_cases h4 : c.toNat = 37
    ·rw [h4]
     refine Fn1 Tryz.func65 Tryz.ntmps65 rfl rfl ?_
     repeat' (first | refine h2m ?_ | refine h0d ?_ | refine h0u ?_ | refine h1h ?_ | refine h1f ?_ | refine h1g ?_ | refine h0s ?_ | refine h0t ?_ | refine h1l ?_ | refine h1k ?_ | refine h1j ?_ | refine h1i rfl ?_ | refine h1a ?_ | refine h1u ?_ | refine h1v ?_ | refine h2n ?_ | refine h0v rfl ?_ | refine h0w rfl ?_ | (refine gR 0 ?_ <;> (try refine h0a ?_; (first | (refine q_k (h0b rfl) ?_))) <;> (try refine h0d ?_)) | (refine gR 1 ?_ <;> (try refine h0a ?_; (first | (refine q_k (h0c rfl) ?_))) <;> (try refine h0a ?_; (first | (refine q_k (by exact q_b (r:=by first | (exact h2e q_o) | (exact h2f q_o) | exact h2y)) ?_))) <;> (try refine h0a ?_; (first | (refine q_k (h0c rfl) ?_))) <;> (try refine h0a ?_; (first | refine h0p rfl rfl rfl rfl ?_ | (refine h0z rfl rfl rfl ?_) | (refine h0h rfl rfl rfl ?_; (first | (refine q_k (h0c rfl) ?_))) | ((first | (refine h0f rfl rfl (fun hc => ?_) (fun hc => ?_)) | (refine h0g rfl rfl (fun hc => ?_) (fun hc => ?_)) | (refine h0k rfl rfl (fun hc => ?_) (fun hc => ?_))) <;> (try subst hc) <;> (first | refine h0p rfl rfl rfl rfl ?_ | (refine h0h rfl rfl rfl ?_; (first | (refine q_k (h0c rfl) ?_))))))) <;> (try refine h0a ?_; (first | refine h0p rfl rfl rfl rfl ?_ | (refine h0z rfl rfl rfl ?_) | (refine h0h rfl rfl rfl ?_; (first | (refine q_k (by exact q_b (r:=by first | (exact h1y q_o) | (exact h1z q_o) | exact h2v)) ?_))) | ((first | (refine h0f rfl rfl (fun hc => ?_) (fun hc => ?_)) | (refine h0g rfl rfl (fun hc => ?_) (fun hc => ?_)) | (refine h0k rfl rfl (fun hc => ?_) (fun hc => ?_))) <;> (try subst hc) <;> (first | refine h0p rfl rfl rfl rfl ?_ | (refine h0h rfl rfl rfl ?_; (first | (refine q_k (by exact q_b (r:=by first | (exact h1y q_o) | (exact h1z q_o) | exact h2v)) ?_))))))) <;> (try refine h0a ?_; (first | (refine q_k (h2w rfl rfl) ?_))) <;> (try refine h0a ?_; (first | (refine q_k (h0c rfl) ?_))) <;> (try refine h0a ?_; (first | refine h0p rfl rfl rfl rfl ?_ | (refine h0z rfl rfl rfl ?_) | (refine h0h rfl rfl rfl ?_; (first | (refine q_k (h0c rfl) ?_))) | ((first | (refine h0f rfl rfl (fun hc => ?_) (fun hc => ?_)) | (refine h0g rfl rfl (fun hc => ?_) (fun hc => ?_)) | (refine h0k rfl rfl (fun hc => ?_) (fun hc => ?_))) <;> (try subst hc) <;> (first | refine h0p rfl rfl rfl rfl ?_ | (refine h0h rfl rfl rfl ?_; (first | (refine q_k (h0c rfl) ?_))))))) <;> (try refine h0a ?_; (first | refine h0p rfl rfl rfl rfl ?_ | (refine h0z rfl rfl rfl ?_) | (refine h0h rfl rfl rfl ?_; (first | (refine q_k (by exact q_b (r:=by first | (refine h2t ?_; first | rfl | (with_reducible assumption) | (decide; done) | omega) | (exact h2s q_o) | exact h3u)) ?_))) | ((first | (refine h0f rfl rfl (fun hc => ?_) (fun hc => ?_)) | (refine h0g rfl rfl (fun hc => ?_) (fun hc => ?_)) | (refine h0k rfl rfl (fun hc => ?_) (fun hc => ?_))) <;> (try subst hc) <;> (first | refine h0p rfl rfl rfl rfl ?_ | (refine h0h rfl rfl rfl ?_; (first | (refine q_k (by exact q_b (r:=by first | (refine h2t ?_; first | rfl | (with_reducible assumption) | (decide; done) | omega) | (exact h2s q_o) | exact h3u)) ?_))))))) <;> (try refine h0a ?_; (first | (refine q_k (h2w rfl rfl) ?_))) <;> (try refine h0a ?_; (first | (refine q_k (h0c rfl) ?_))) <;> (try refine h0a ?_; (first | refine h0p rfl rfl rfl rfl ?_ | (refine h0z rfl rfl rfl ?_) | (refine h0h rfl rfl rfl ?_; (first | (refine q_k (h0c rfl) ?_))) | ((first | (refine h0f rfl rfl (fun hc => ?_) (fun hc => ?_)) | (refine h0g rfl rfl (fun hc => ?_) (fun hc => ?_)) | (refine h0k rfl rfl (fun hc => ?_) (fun hc => ?_))) <;> (try subst hc) <;> (first | refine h0p rfl rfl rfl rfl ?_ | (refine h0h rfl rfl rfl ?_; (first | (refine q_k (h0c rfl) ?_))))))) <;> (try refine h0a ?_; (first | refine h0p rfl rfl rfl rfl ?_ | (refine h0z rfl rfl rfl ?_) | (refine h0h rfl rfl rfl ?_; (first | (refine q_k (by exact q_b (r:=by first | (refine h2t ?_; first | rfl | (with_reducible assumption) | (decide; done) | omega) | (exact h2s q_o) | exact h3u)) ?_))) | ((first | (refine h0f rfl rfl (fun hc => ?_) (fun hc => ?_)) | (refine h0g rfl rfl (fun hc => ?_) (fun hc => ?_)) | (refine h0k rfl rfl (fun hc => ?_) (fun hc => ?_))) <;> (try subst hc) <;> (first | refine h0p rfl rfl rfl rfl ?_ | (refine h0h rfl rfl rfl ?_; (first | (refine q_k (by exact q_b (r:=by first | (refine h2t ?_; first | rfl | (with_reducible assumption) | (decide; done) | omega) | (exact h2s q_o) | exact h3u)) ?_))))))) <;> (try refine h0a ?_; (first | (refine q_k (h2w rfl rfl) ?_))) <;> (try refine h0a ?_; (first | (refine q_k (h0b rfl) ?_))) <;> (try refine h0d ?_)) | ((first | (refine h0o rfl (fun hc => ?_) (fun hc => ?_)) | (refine h0x rfl (fun hc => ?_) (fun hc => ?_)) | (refine h1r rfl (fun hc => ?_) (fun hc => ?_))) <;> (try subst hc)))
     (refine h2q Tryz.results65 (.tmp rfl .nil) ?_)
     exact ⟨_, ⟨rfl, rfl⟩, by intro w H; refine H.sub ?_; (try simp only [zzC, zzN]); repeat (first | exact List.Sublist.refl _ | refine List.Sublist.cons_cons _ ?_ | refine List.Sublist.cons _ ?_ | refine List.sublist_append_of_sublist_right ?_)⟩
    ·rw [decide_eq_true h1, decide_eq_true h2, decide_eq_false h3, decide_eq_false h4]
     refine Fn1 Tryz.func65 Tryz.ntmps65 rfl rfl ?_
     repeat' (first | refine h2m ?_ | refine h0d ?_ | refine h0u ?_ | refine h1h ?_ | refine h1f ?_ | refine h1g ?_ | refine h0s ?_ | refine h0t ?_ | refine h1l ?_ | refine h1k ?_ | refine h1j ?_ | refine h1i rfl ?_ | refine h1a ?_ | refine h1u ?_ | refine h1v ?_ | refine h2n ?_ | refine h0v rfl ?_ | refine h0w rfl ?_ | (refine gR 0 ?_ <;> (try refine h0a ?_; (first | (refine q_k (h0b rfl) ?_))) <;> (try refine h0d ?_)) | (refine gR 1 ?_ <;> (try refine h0a ?_; (first | (refine q_k (h0c rfl) ?_))) <;> (try refine h0a ?_; (first | (refine q_k (by exact q_b (r:=by first | (exact h2e q_o) | (exact h2f q_o) | exact h2y)) ?_))) <;> (try refine h0a ?_; (first | (refine q_k (h0c rfl) ?_))) <;> (try refine h0a ?_; (first | refine h0p rfl rfl rfl rfl ?_ | (refine h0z rfl rfl rfl ?_) | (refine h0h rfl rfl rfl ?_; (first | (refine q_k (h0c rfl) ?_))) | ((first | (refine h0f rfl rfl (fun hc => ?_) (fun hc => ?_)) | (refine h0g rfl rfl (fun hc => ?_) (fun hc => ?_)) | (refine h0k rfl rfl (fun hc => ?_) (fun hc => ?_))) <;> (try subst hc) <;> (first | refine h0p rfl rfl rfl rfl ?_ | (refine h0h rfl rfl rfl ?_; (first | (refine q_k (h0c rfl) ?_))))))) <;> (try refine h0a ?_; (first | refine h0p rfl rfl rfl rfl ?_ | (refine h0z rfl rfl rfl ?_) | (refine h0h rfl rfl rfl ?_; (first | (refine q_k (by exact q_b (r:=by first | (exact h1y q_o) | (exact h1z q_o) | exact h2v)) ?_))) | ((first | (refine h0f rfl rfl (fun hc => ?_) (fun hc => ?_)) | (refine h0g rfl rfl (fun hc => ?_) (fun hc => ?_)) | (refine h0k rfl rfl (fun hc => ?_) (fun hc => ?_))) <;> (try subst hc) <;> (first | refine h0p rfl rfl rfl rfl ?_ | (refine h0h rfl rfl rfl ?_; (first | (refine q_k (by exact q_b (r:=by first | (exact h1y q_o) | (exact h1z q_o) | exact h2v)) ?_))))))) <;> (try refine h0a ?_; (first | (refine q_k (h2w rfl rfl) ?_))) <;> (try refine h0a ?_; (first | (refine q_k (h0c rfl) ?_))) <;> (try refine h0a ?_; (first | refine h0p rfl rfl rfl rfl ?_ | (refine h0z rfl rfl rfl ?_) | (refine h0h rfl rfl rfl ?_; (first | (refine q_k (h0c rfl) ?_))) | ((first | (refine h0f rfl rfl (fun hc => ?_) (fun hc => ?_)) | (refine h0g rfl rfl (fun hc => ?_) (fun hc => ?_)) | (refine h0k rfl rfl (fun hc => ?_) (fun hc => ?_))) <;> (try subst hc) <;> (first | refine h0p rfl rfl rfl rfl ?_ | (refine h0h rfl rfl rfl ?_; (first | (refine q_k (h0c rfl) ?_))))))) <;> (try refine h0a ?_; (first | refine h0p rfl rfl rfl rfl ?_ | (refine h0z rfl rfl rfl ?_) | (refine h0h rfl rfl rfl ?_; (first | (refine q_k (by exact q_b (r:=by first | (refine h2t ?_; first | rfl | (with_reducible assumption) | (decide; done) | omega) | (exact h2s q_o) | exact h3u)) ?_))) | ((first | (refine h0f rfl rfl (fun hc => ?_) (fun hc => ?_)) | (refine h0g rfl rfl (fun hc => ?_) (fun hc => ?_)) | (refine h0k rfl rfl (fun hc => ?_) (fun hc => ?_))) <;> (try subst hc) <;> (first | refine h0p rfl rfl rfl rfl ?_ | (refine h0h rfl rfl rfl ?_; (first | (refine q_k (by exact q_b (r:=by first | (refine h2t ?_; first | rfl | (with_reducible assumption) | (decide; done) | omega) | (exact h2s q_o) | exact h3u)) ?_))))))) <;> (try refine h0a ?_; (first | (refine q_k (h2w rfl rfl) ?_))) <;> (try refine h0a ?_; (first | (refine q_k (h0c rfl) ?_))) <;> (try refine h0a ?_; (first | refine h0p rfl rfl rfl rfl ?_ | (refine h0z rfl rfl rfl ?_) | (refine h0h rfl rfl rfl ?_; (first | (refine q_k (h0c rfl) ?_))) | ((first | (refine h0f rfl rfl (fun hc => ?_) (fun hc => ?_)) | (refine h0g rfl rfl (fun hc => ?_) (fun hc => ?_)) | (refine h0k rfl rfl (fun hc => ?_) (fun hc => ?_))) <;> (try subst hc) <;> (first | refine h0p rfl rfl rfl rfl ?_ | (refine h0h rfl rfl rfl ?_; (first | (refine q_k (h0c rfl) ?_))))))) <;> (try refine h0a ?_; (first | refine h0p rfl rfl rfl rfl ?_ | (refine h0z rfl rfl rfl ?_) | (refine h0h rfl rfl rfl ?_; (first | (refine q_k (by exact q_b (r:=by first | (refine h2t ?_; first | rfl | (with_reducible assumption) | (decide; done) | omega) | (exact h2s q_o) | exact h3u)) ?_))) | ((first | (refine h0f rfl rfl (fun hc => ?_) (fun hc => ?_)) | (refine h0g rfl rfl (fun hc => ?_) (fun hc => ?_)) | (refine h0k rfl rfl (fun hc => ?_) (fun hc => ?_))) <;> (try subst hc) <;> (first | refine h0p rfl rfl rfl rfl ?_ | (refine h0h rfl rfl rfl ?_; (first | (refine q_k (by exact q_b (r:=by first | (refine h2t ?_; first | rfl | (with_reducible assumption) | (decide; done) | omega) | (exact h2s q_o) | exact h3u)) ?_))))))) <;> (try refine h0a ?_; (first | (refine q_k (h2w rfl rfl) ?_))) <;> (try refine h0a ?_; (first | (refine q_k (h0b rfl) ?_))) <;> (try refine h0d ?_)) | ((first | (refine h0o rfl (fun hc => ?_) (fun hc => ?_)) | (refine h0x rfl (fun hc => ?_) (fun hc => ?_)) | (refine h1r rfl (fun hc => ?_) (fun hc => ?_))) <;> (try subst hc)))
     (refine h2q Tryz.results65 (.tmp rfl .nil) ?_)
     exact ⟨_, ⟨rfl, rfl⟩, by intro w H; refine H.sub ?_; (try simp only [zzC, zzN]); repeat (first | exact List.Sublist.refl _ | refine List.Sublist.cons_cons _ ?_ | refine List.Sublist.cons _ ?_ | refine List.sublist_append_of_sublist_right ?_)⟩
  ·rw [decide_eq_true h1, decide_eq_false h2]
   refine Fn1 Tryz.func65 Tryz.ntmps65 rfl rfl ?_
   repeat' (first | refine h2m ?_ | refine h0d ?_ | refine h0u ?_ | refine h1h ?_ | refine h1f ?_ | refine h1g ?_ | refine h0s ?_ | refine h0t ?_ | refine h1l ?_ | refine h1k ?_ | refine h1j ?_ | refine h1i rfl ?_ | refine h1a ?_ | refine h1u ?_ | refine h1v ?_ | refine h2n ?_ | refine h0v rfl ?_ | refine h0w rfl ?_ | (refine gR 0 ?_ <;> (try refine h0a ?_; (first | (refine q_k (h0b rfl) ?_))) <;> (try refine h0d ?_)) | (refine gR 1 ?_ <;> (try refine h0a ?_; (first | (refine q_k (h0c rfl) ?_))) <;> (try refine h0a ?_; (first | (refine q_k (by exact q_b (r:=by first | (exact h2e q_o) | (exact h2f q_o) | exact h2y)) ?_))) <;> (try refine h0a ?_; (first | (refine q_k (h0c rfl) ?_))) <;> (try refine h0a ?_; (first | refine h0p rfl rfl rfl rfl ?_ | (refine h0z rfl rfl rfl ?_) | (refine h0h rfl rfl rfl ?_; (first | (refine q_k (h0c rfl) ?_))) | ((first | (refine h0f rfl rfl (fun hc => ?_) (fun hc => ?_)) | (refine h0g rfl rfl (fun hc => ?_) (fun hc => ?_)) | (refine h0k rfl rfl (fun hc => ?_) (fun hc => ?_))) <;> (try subst hc) <;> (first | refine h0p rfl rfl rfl rfl ?_ | (refine h0h rfl rfl rfl ?_; (first | (refine q_k (h0c rfl) ?_))))))) <;> (try refine h0a ?_; (first | refine h0p rfl rfl rfl rfl ?_ | (refine h0z rfl rfl rfl ?_) | (refine h0h rfl rfl rfl ?_; (first | (refine q_k (by exact q_b (r:=by first | (exact h1y q_o) | (exact h1z q_o) | exact h2v)) ?_))) | ((first | (refine h0f rfl rfl (fun hc => ?_) (fun hc => ?_)) | (refine h0g rfl rfl (fun hc => ?_) (fun hc => ?_)) | (refine h0k rfl rfl (fun hc => ?_) (fun hc => ?_))) <;> (try subst hc) <;> (first | refine h0p rfl rfl rfl rfl ?_ | (refine h0h rfl rfl rfl ?_; (first | (refine q_k (by exact q_b (r:=by first | (exact h1y q_o) | (exact h1z q_o) | exact h2v)) ?_))))))) <;> (try refine h0a ?_; (first | (refine q_k (h2w rfl rfl) ?_))) <;> (try refine h0a ?_; (first | (refine q_k (h0c rfl) ?_))) <;> (try refine h0a ?_; (first | refine h0p rfl rfl rfl rfl ?_ | (refine h0z rfl rfl rfl ?_) | (refine h0h rfl rfl rfl ?_; (first | (refine q_k (h0c rfl) ?_))) | ((first | (refine h0f rfl rfl (fun hc => ?_) (fun hc => ?_)) | (refine h0g rfl rfl (fun hc => ?_) (fun hc => ?_)) | (refine h0k rfl rfl (fun hc => ?_) (fun hc => ?_))) <;> (try subst hc) <;> (first | refine h0p rfl rfl rfl rfl ?_ | (refine h0h rfl rfl rfl ?_; (first | (refine q_k (h0c rfl) ?_))))))) <;> (try refine h0a ?_; (first | refine h0p rfl rfl rfl rfl ?_ | (refine h0z rfl rfl rfl ?_) | (refine h0h rfl rfl rfl ?_; (first | (refine q_k (by exact q_b (r:=by first | (refine h2t ?_; first | rfl | (with_reducible assumption) | (decide; done) | omega) | (exact h2s q_o) | exact h3u)) ?_))) | ((first | (refine h0f rfl rfl (fun hc => ?_) (fun hc => ?_)) | (refine h0g rfl rfl (fun hc => ?_) (fun hc => ?_)) | (refine h0k rfl rfl (fun hc => ?_) (fun hc => ?_))) <;> (try subst hc) <;> (first | refine h0p rfl rfl rfl rfl ?_ | (refine h0h rfl rfl rfl ?_; (first | (refine q_k (by exact q_b (r:=by first | (refine h2t ?_; first | rfl | (with_reducible assumption) | (decide; done) | omega) | (exact h2s q_o) | exact h3u)) ?_))))))) <;> (try refine h0a ?_; (first | (refine q_k (h2w rfl rfl) ?_))) <;> (try refine h0a ?_; (first | (refine q_k (h0c rfl) ?_))) <;> (try refine h0a ?_; (first | refine h0p rfl rfl rfl rfl ?_ | (refine h0z rfl rfl rfl ?_) | (refine h0h rfl rfl rfl ?_; (first | (refine q_k (h0c rfl) ?_))) | ((first | (refine h0f rfl rfl (fun hc => ?_) (fun hc => ?_)) | (refine h0g rfl rfl (fun hc => ?_) (fun hc => ?_)) | (refine h0k rfl rfl (fun hc => ?_) (fun hc => ?_))) <;> (try subst hc) <;> (first | refine h0p rfl rfl rfl rfl ?_ | (refine h0h rfl rfl rfl ?_; (first | (refine q_k (h0c rfl) ?_))))))) <;> (try refine h0a ?_; (first | refine h0p rfl rfl rfl rfl ?_ | (refine h0z rfl rfl rfl ?_) | (refine h0h rfl rfl rfl ?_; (first | (refine q_k (by exact q_b (r:=by first | (refine h2t ?_; first | rfl | (with_reducible assumption) | (decide; done) | omega) | (exact h2s q_o) | exact h3u)) ?_))) | ((first | (refine h0f rfl rfl (fun hc => ?_) (fun hc => ?_)) | (refine h0g rfl rfl (fun hc => ?_) (fun hc => ?_)) | (refine h0k rfl rfl (fun hc => ?_) (fun hc => ?_))) <;> (try subst hc) <;> (first | refine h0p rfl rfl rfl rfl ?_ | (refine h0h rfl rfl rfl ?_; (first | (refine q_k (by exact q_b (r:=by first | (refine h2t ?_; first | rfl | (with_reducible assumption) | (decide; done) | omega) | (exact h2s q_o) | exact h3u)) ?_))))))) <;> (try refine h0a ?_; (first | (refine q_k (h2w rfl rfl) ?_))) <;> (try refine h0a ?_; (first | (refine q_k (h0b rfl) ?_))) <;> (try refine h0d ?_)) | ((first | (refine h0o rfl (fun hc => ?_) (fun hc => ?_)) | (refine h0x rfl (fun hc => ?_) (fun hc => ?_)) | (refine h1r rfl (fun hc => ?_) (fun hc => ?_))) <;> (try subst hc)))
   (refine h2q Tryz.results65 (.tmp rfl .nil) ?_)
   exact ⟨_, ⟨rfl, rfl⟩, by intro w H; refine H.sub ?_; (try simp only [zzC, zzN]); repeat (first | exact List.Sublist.refl _ | refine List.Sublist.cons_cons _ ?_ | refine List.Sublist.cons _ ?_ | refine List.sublist_append_of_sublist_right ?_)⟩
 ·rw [decide_eq_false h1]
  refine Fn1 Tryz.func65 Tryz.ntmps65 rfl rfl ?_
  repeat' (first | refine h2m ?_ | refine h0d ?_ | refine h0u ?_ | refine h1h ?_ | refine h1f ?_ | refine h1g ?_ | refine h0s ?_ | refine h0t ?_ | refine h1l ?_ | refine h1k ?_ | refine h1j ?_ | refine h1i rfl ?_ | refine h1a ?_ | refine h1u ?_ | refine h1v ?_ | refine h2n ?_ | refine h0v rfl ?_ | refine h0w rfl ?_ | (refine gR 0 ?_ <;> (try refine h0a ?_; (first | (refine q_k (h0b rfl) ?_))) <;> (try refine h0d ?_)) | (refine gR 1 ?_ <;> (try refine h0a ?_; (first | (refine q_k (h0c rfl) ?_))) <;> (try refine h0a ?_; (first | (refine q_k (by exact q_b (r:=by first | (exact h2e q_o) | (exact h2f q_o) | exact h2y)) ?_))) <;> (try refine h0a ?_; (first | (refine q_k (h0c rfl) ?_))) <;> (try refine h0a ?_; (first | refine h0p rfl rfl rfl rfl ?_ | (refine h0z rfl rfl rfl ?_) | (refine h0h rfl rfl rfl ?_; (first | (refine q_k (h0c rfl) ?_))) | ((first | (refine h0f rfl rfl (fun hc => ?_) (fun hc => ?_)) | (refine h0g rfl rfl (fun hc => ?_) (fun hc => ?_)) | (refine h0k rfl rfl (fun hc => ?_) (fun hc => ?_))) <;> (try subst hc) <;> (first | refine h0p rfl rfl rfl rfl ?_ | (refine h0h rfl rfl rfl ?_; (first | (refine q_k (h0c rfl) ?_))))))) <;> (try refine h0a ?_; (first | refine h0p rfl rfl rfl rfl ?_ | (refine h0z rfl rfl rfl ?_) | (refine h0h rfl rfl rfl ?_; (first | (refine q_k (by exact q_b (r:=by first | (exact h1y q_o) | (exact h1z q_o) | exact h2v)) ?_))) | ((first | (refine h0f rfl rfl (fun hc => ?_) (fun hc => ?_)) | (refine h0g rfl rfl (fun hc => ?_) (fun hc => ?_)) | (refine h0k rfl rfl (fun hc => ?_) (fun hc => ?_))) <;> (try subst hc) <;> (first | refine h0p rfl rfl rfl rfl ?_ | (refine h0h rfl rfl rfl ?_; (first | (refine q_k (by exact q_b (r:=by first | (exact h1y q_o) | (exact h1z q_o) | exact h2v)) ?_))))))) <;> (try refine h0a ?_; (first | (refine q_k (h2w rfl rfl) ?_))) <;> (try refine h0a ?_; (first | (refine q_k (h0c rfl) ?_))) <;> (try refine h0a ?_; (first | refine h0p rfl rfl rfl rfl ?_ | (refine h0z rfl rfl rfl ?_) | (refine h0h rfl rfl rfl ?_; (first | (refine q_k (h0c rfl) ?_))) | ((first | (refine h0f rfl rfl (fun hc => ?_) (fun hc => ?_)) | (refine h0g rfl rfl (fun hc => ?_) (fun hc => ?_)) | (refine h0k rfl rfl (fun hc => ?_) (fun hc => ?_))) <;> (try subst hc) <;> (first | refine h0p rfl rfl rfl rfl ?_ | (refine h0h rfl rfl rfl ?_; (first | (refine q_k (h0c rfl) ?_))))))) <;> (try refine h0a ?_; (first | refine h0p rfl rfl rfl rfl ?_ | (refine h0z rfl rfl rfl ?_) | (refine h0h rfl rfl rfl ?_; (first | (refine q_k (by exact q_b (r:=by first | (refine h2t ?_; first | rfl | (with_reducible assumption) | (decide; done) | omega) | (exact h2s q_o) | exact h3u)) ?_))) | ((first | (refine h0f rfl rfl (fun hc => ?_) (fun hc => ?_)) | (refine h0g rfl rfl (fun hc => ?_) (fun hc => ?_)) | (refine h0k rfl rfl (fun hc => ?_) (fun hc => ?_))) <;> (try subst hc) <;> (first | refine h0p rfl rfl rfl rfl ?_ | (refine h0h rfl rfl rfl ?_; (first | (refine q_k (by exact q_b (r:=by first | (refine h2t ?_; first | rfl | (with_reducible assumption) | (decide; done) | omega) | (exact h2s q_o) | exact h3u)) ?_))))))) <;> (try refine h0a ?_; (first | (refine q_k (h2w rfl rfl) ?_))) <;> (try refine h0a ?_; (first | (refine q_k (h0c rfl) ?_))) <;> (try refine h0a ?_; (first | refine h0p rfl rfl rfl rfl ?_ | (refine h0z rfl rfl rfl ?_) | (refine h0h rfl rfl rfl ?_; (first | (refine q_k (h0c rfl) ?_))) | ((first | (refine h0f rfl rfl (fun hc => ?_) (fun hc => ?_)) | (refine h0g rfl rfl (fun hc => ?_) (fun hc => ?_)) | (refine h0k rfl rfl (fun hc => ?_) (fun hc => ?_))) <;> (try subst hc) <;> (first | refine h0p rfl rfl rfl rfl ?_ | (refine h0h rfl rfl rfl ?_; (first | (refine q_k (h0c rfl) ?_))))))) <;> (try refine h0a ?_; (first | refine h0p rfl rfl rfl rfl ?_ | (refine h0z rfl rfl rfl ?_) | (refine h0h rfl rfl rfl ?_; (first | (refine q_k (by exact q_b (r:=by first | (refine h2t ?_; first | rfl | (with_reducible assumption) | (decide; done) | omega) | (exact h2s q_o) | exact h3u)) ?_))) | ((first | (refine h0f rfl rfl (fun hc => ?_) (fun hc => ?_)) | (refine h0g rfl rfl (fun hc => ?_) (fun hc => ?_)) | (refine h0k rfl rfl (fun hc => ?_) (fun hc => ?_))) <;> (try subst hc) <;> (first | refine h0p rfl rfl rfl rfl ?_ | (refine h0h rfl rfl rfl ?_; (first | (refine q_k (by exact q_b (r:=by first | (refine h2t ?_; first | rfl | (with_reducible assumption) | (decide; done) | omega) | (exact h2s q_o) | exact h3u)) ?_))))))) <;> (try refine h0a ?_; (first | (refine q_k (h2w rfl rfl) ?_))) <;> (try refine h0a ?_; (first | (refine q_k (h0b rfl) ?_))) <;> (try refine h0d ?_)) | ((first | (refine h0o rfl (fun hc => ?_) (fun hc => ?_)) | (refine h0x rfl (fun hc => ?_) (fun hc => ?_)) | (refine h1r rfl (fun hc => ?_) (fun hc => ?_))) <;> (try subst hc)))
  (refine h2q Tryz.results65 (.tmp rfl .nil) ?_)
  exact ⟨_, ⟨rfl, rfl⟩, by intro w H; refine H.sub ?_; (try simp only [zzC, zzN]); repeat (first | exact List.Sublist.refl _ | refine List.Sublist.cons_cons _ ?_ | refine List.Sublist.cons _ ?_ | refine List.sublist_append_of_sublist_right ?_)⟩
theorem hx_at (c : UInt8) : (⟨#[48, 49, 50, 51, 52, 53, 54, 55, 56, 57, 97, 98, 99, 100, 101, 102]⟩ : ByteArray)[((c.toNat : Int).fdiv (2 ^ min (Int.toNat 4) 8)).toNat]? = some (hxB (c.toNat / 16)) ∧ 0 ≤ (c.toNat : Int).fdiv (2 ^ min (Int.toNat 4) 8) ∧ 0 ≤ iand (c.toNat : Int) 15 ∧ (⟨#[48, 49, 50, 51, 52, 53, 54, 55, 56, 57, 97, 98, 99, 100, 101, 102]⟩ : ByteArray)[(iand (c.toNat : Int) 15).toNat]? = some (hxB (c.toNat % 16)) :=
 fin_u8 (p:=fun c => (⟨#[48, 49, 50, 51, 52, 53, 54, 55, 56, 57, 97, 98, 99, 100, 101, 102]⟩ : ByteArray)[((c.toNat : Int).fdiv (2 ^ min (Int.toNat 4) 8)).toNat]? = some (hxB (c.toNat / 16)) ∧ 0 ≤ (c.toNat : Int).fdiv (2 ^ min (Int.toNat 4) 8) ∧ 0 ≤ iand (c.toNat : Int) 15 ∧ (⟨#[48, 49, 50, 51, 52, 53, 54, 55, 56, 57, 97, 98, 99, 100, 101, 102]⟩ : ByteArray)[(iand (c.toNat : Int) 15).toNat]? = some (hxB (c.toNat % 16))) (by decide +kernel) c
structure QuI (s : ByteArray) (b : Nat) (g : Nat × List Blk) : Prop where
 le : g.1 ≤ s.size
 bld : BldI b (((lB s).take g.1).flatMap qB) g.2
theorem qB_len (l : List UInt8) : (l.flatMap qB).length ≤ 3 * l.length := by
 induction l with
 | nil => exact Nat.le_refl _
 | cons a r ih =>
  rw [List.flatMap_cons, List.length_append, List.length_cons]
  have : (qB a).length ≤ 3 := by unfold qB; split <;> simp
  omega
theorem quoteF_len (l : List UInt8) : (h5s l).length ≤ 3 * l.length + 1 := by
 unfold h5s
 split
 ·simp
 ·split
  ·rename_i h; rw [h]; decide
  ·have := qB_len l; omega
set_option maxHeartbeats 2000000 in
theorem quote_c {S w0 L} (s : ByteArray) (hs : s.size ≤ 300000) : Fn Tryz.prog 45 #[.string s] S w0 L fun v L' => v = .string (mB8 (h5s (lB s))) ∧ L = L' := by
 by_cases h0 : s = ⟨#[]⟩
 ·have e : h5s (lB s) = [45] := by subst h0; rfl
  rw [e]
  subst h0
  clear hs
  refine Fn1 Tryz.func45 Tryz.ntmps45 rfl rfl ?_
  repeat' (first | refine h2m ?_ | refine h0d ?_ | refine h0u ?_ | refine h1h ?_ | refine h1f ?_ | refine h1g ?_ | refine h0s ?_ | refine h0t ?_ | refine h1l ?_ | refine h1k ?_ | refine h1j ?_ | refine h1i rfl ?_ | refine h1a ?_ | refine h1u ?_ | refine h1v ?_ | refine h2n ?_ | refine h0v rfl ?_ | refine h0w rfl ?_ | (refine gR 0 ?_ <;> (try refine h0a ?_; (first | (refine q_k (h0b rfl) ?_))) <;> (try refine h0d ?_)) | (refine gR 1 ?_ <;> (try refine h0a ?_; (first | (refine q_k (h0c rfl) ?_))) <;> (try refine h0d ?_)) | (refine gR 2 ?_ <;> (try refine h0a ?_; (first | (refine q_k (by exact q_b (r:=by first | exact h3h | (apply h2i; (focus (decide))) | (apply h2i; exact decide_eq_false (by assumption)) | exact h3v)) ?_))) <;> (try refine h0a ?_; (first | (refine q_k (h0b rfl) ?_))) <;> (try refine h0d ?_)) | (refine gR 3 ?_ <;> (try refine h0a ?_; (first | (refine q_k (h0b rfl) ?_))) <;> (try refine h0d ?_)) | (refine gR 4 ?_ <;> (try refine h0a ?_; (first | (refine q_k (by exact q_b (r:=by first | exact h3h | (apply h2i; (focus (decide))) | (apply h2i; exact decide_eq_false (by assumption)) | exact h3v)) ?_))) <;> (try refine h0a ?_; (first | (refine q_k (h0b rfl) ?_))) <;> (try refine h0d ?_)) | (refine gR 5 ?_ <;> (try refine h0a ?_; (first | (refine q_k (h0b rfl) ?_))) <;> (try refine h0d ?_)) | (refine gR 6 ?_ <;> (try refine h0a ?_; (first | (refine h2u (t:=88) rfl Tryz.zeroValue88 ?_; intro nb hnb; (try simp only [Value.cells])))) <;> (try refine h0d ?_)) | (refine gR 7 ?_ <;> (try refine h0a ?_; (first | (refine q_k (h0c rfl) ?_))) <;> (try refine h0a ?_; (first | (refine q_k (h1d rfl (fun _ => BigFrame.builtin_len ..) (h2c Tryz.underlying9)) ?_))) <;> (try refine h0a ?_; (first | (refine q_k (h0c rfl) ?_))) <;> (try refine h0d ?_)) | (refine gR 8 ?_ <;> (try refine h0a ?_; (first | (refine q_k (by exact q_b (r:=by first | (exact h1y q_o) | (exact h1z q_o) | exact h2v)) ?_))) <;> (try refine h0d ?_)) | (refine gR 9 ?_ <;> (try refine h0a ?_; (first | (refine q_k (h0c rfl) ?_))) <;> (try refine h0a ?_; (first | (refine q_k (h0b rfl) ?_))) <;> (try refine h0d ?_)) | (refine gR 10 ?_ <;> (try refine h0a ?_; (first | (refine q_k (h0c rfl) ?_))) <;> (try refine h0a ?_; (first | (refine q_k (h0c rfl) ?_))) <;> (try refine h0a ?_; (first | (refine q_k (by apply h4a; exact rfl; exact rfl; (focus (apply h4o Tryz.underlying9; (omega); exact h1q))) ?_))) <;> (try refine h0a ?_; (first | (refine q_k (h0b rfl) ?_))) <;> (try refine h0d ?_)) | (refine gR 11 ?_ <;> (try refine h0a ?_; (first | (refine q_k (h0c rfl) ?_))) <;> (try refine h0a ?_; (first | fail)) <;> (try refine h0d ?_)) | (refine gR 12 ?_ <;> (try refine h0a ?_; (first | (refine q_k (h0c rfl) ?_))) <;> (try refine h0a ?_; (first | fail)) <;> (try refine h0d ?_)) | (refine gR 13 ?_ <;> (try refine h0a ?_; (first | fail)) <;> (try refine h0d ?_)) | (refine gR 14 ?_ <;> (try refine h0a ?_; (first | (refine q_k (h0c rfl) ?_))) <;> (try refine h0a ?_; (first | (refine q_k (by exact q_b (r:=by apply rb_shr; (omega); (focus (first | (simp only [IntKind.bits]; exact rfl) | exact rfl)))) ?_))) <;> (try refine h0a ?_; (first | (refine q_k (by apply h4a; exact rfl; exact rfl; (focus (apply h4o Tryz.underlying9; (omega); exact h1q))) ?_))) <;> (try refine h0a ?_; (first | fail)) <;> (try refine h0d ?_)) | (refine gR 15 ?_ <;> (try refine h0a ?_; (first | (refine q_k (h0c rfl) ?_))) <;> (try refine h0a ?_; (first | (refine q_k (q_b (r:=by refine rb_and ?_ ?_; (focus (refine ⟨rfl, ⟨?_, ?_⟩⟩; (omega); (focus (simp only [IntKind.bits]; omega)))); (focus (refine ⟨rfl, ⟨?_, ?_⟩⟩; (omega); (focus (simp only [IntKind.bits]; omega)))))) ?_))) <;> (try refine h0a ?_; (first | (refine q_k (by apply h4a; exact rfl; exact rfl; (focus (apply h4o Tryz.underlying9; (omega); exact h1q))) ?_))) <;> (try refine h0a ?_; (first | fail)) <;> (try refine h0d ?_)) | (refine gR 16 ?_ <;> (try refine h0a ?_; (first | (refine q_k (by exact q_b (r:=by apply h3j; exact c_6; (focus (first | (refine IntWalk.i64_in _ ?_; omega) | (refine IntWalk.u8_in _ ?_; omega) | (refine IntWalk.u16_in _ ?_; omega) | (refine IntWalk.u32_in _ ?_; omega) | (refine IntWalk.u64_in _ ?_; omega) | (refine IntWalk.i32_in _ ?_; omega) | exact rfl)))) ?_))) <;> (try refine h0a ?_; (first | (refine q_k (h0c rfl) ?_))) <;> (try refine h0d ?_)) | (refine gR 17 ?_ <;> (try refine h0a ?_; (first | fail)) <;> (try refine h0a ?_; (first | (refine q_k (h0b rfl) ?_))) <;> (try refine h0d ?_)) | ((first | (refine h0o rfl (fun hc => ?_) (fun hc => ?_)) | (refine h0x rfl (fun hc => ?_) (fun hc => ?_)) | (refine h1r rfl (fun hc => ?_) (fun hc => ?_))) <;> (try subst hc)))
  (refine h2q Tryz.results45 (.tmp rfl .nil) ?_)
  exact ⟨_, ⟨rfl, rfl⟩, by intro w H; refine H.sub ?_; (try simp only [zzC, zzN]); repeat (first | exact List.Sublist.refl _ | refine List.Sublist.cons_cons _ ?_ | refine List.Sublist.cons _ ?_ | refine List.sublist_append_of_sublist_right ?_)⟩
 by_cases h1 : s = ⟨#[45]⟩
 ·have e : h5s (lB s) = [37, 50, 100] := by subst h1; rfl
  rw [e]
  subst h1
  clear hs
  refine Fn1 Tryz.func45 Tryz.ntmps45 rfl rfl ?_
  repeat' (first | refine h2m ?_ | refine h0d ?_ | refine h0u ?_ | refine h1h ?_ | refine h1f ?_ | refine h1g ?_ | refine h0s ?_ | refine h0t ?_ | refine h1l ?_ | refine h1k ?_ | refine h1j ?_ | refine h1i rfl ?_ | refine h1a ?_ | refine h1u ?_ | refine h1v ?_ | refine h2n ?_ | refine h0v rfl ?_ | refine h0w rfl ?_ | (refine gR 0 ?_ <;> (try refine h0a ?_; (first | (refine q_k (h0b rfl) ?_))) <;> (try refine h0d ?_)) | (refine gR 1 ?_ <;> (try refine h0a ?_; (first | (refine q_k (h0c rfl) ?_))) <;> (try refine h0d ?_)) | (refine gR 2 ?_ <;> (try refine h0a ?_; (first | (refine q_k (by exact q_b (r:=by first | exact h3h | (apply h2i; (focus (decide))) | (apply h2i; exact decide_eq_false (by assumption)) | exact h3v)) ?_))) <;> (try refine h0a ?_; (first | (refine q_k (h0b rfl) ?_))) <;> (try refine h0d ?_)) | (refine gR 3 ?_ <;> (try refine h0a ?_; (first | (refine q_k (h0b rfl) ?_))) <;> (try refine h0d ?_)) | (refine gR 4 ?_ <;> (try refine h0a ?_; (first | (refine q_k (by exact q_b (r:=by first | exact h3h | (apply h2i; (focus (decide))) | (apply h2i; exact decide_eq_false (by assumption)) | exact h3v)) ?_))) <;> (try refine h0a ?_; (first | (refine q_k (h0b rfl) ?_))) <;> (try refine h0d ?_)) | (refine gR 5 ?_ <;> (try refine h0a ?_; (first | (refine q_k (h0b rfl) ?_))) <;> (try refine h0d ?_)) | (refine gR 6 ?_ <;> (try refine h0a ?_; (first | (refine h2u (t:=88) rfl Tryz.zeroValue88 ?_; intro nb hnb; (try simp only [Value.cells])))) <;> (try refine h0d ?_)) | (refine gR 7 ?_ <;> (try refine h0a ?_; (first | (refine q_k (h0c rfl) ?_))) <;> (try refine h0a ?_; (first | (refine q_k (h1d rfl (fun _ => BigFrame.builtin_len ..) (h2c Tryz.underlying9)) ?_))) <;> (try refine h0a ?_; (first | (refine q_k (h0c rfl) ?_))) <;> (try refine h0d ?_)) | (refine gR 8 ?_ <;> (try refine h0a ?_; (first | (refine q_k (by exact q_b (r:=by first | (exact h1y q_o) | (exact h1z q_o) | exact h2v)) ?_))) <;> (try refine h0d ?_)) | (refine gR 9 ?_ <;> (try refine h0a ?_; (first | (refine q_k (h0c rfl) ?_))) <;> (try refine h0a ?_; (first | (refine q_k (h0b rfl) ?_))) <;> (try refine h0d ?_)) | (refine gR 10 ?_ <;> (try refine h0a ?_; (first | (refine q_k (h0c rfl) ?_))) <;> (try refine h0a ?_; (first | (refine q_k (h0c rfl) ?_))) <;> (try refine h0a ?_; (first | (refine q_k (by apply h4a; exact rfl; exact rfl; (focus (apply h4o Tryz.underlying9; (omega); exact h1q))) ?_))) <;> (try refine h0a ?_; (first | (refine q_k (h0b rfl) ?_))) <;> (try refine h0d ?_)) | (refine gR 11 ?_ <;> (try refine h0a ?_; (first | (refine q_k (h0c rfl) ?_))) <;> (try refine h0a ?_; (first | fail)) <;> (try refine h0d ?_)) | (refine gR 12 ?_ <;> (try refine h0a ?_; (first | (refine q_k (h0c rfl) ?_))) <;> (try refine h0a ?_; (first | fail)) <;> (try refine h0d ?_)) | (refine gR 13 ?_ <;> (try refine h0a ?_; (first | fail)) <;> (try refine h0d ?_)) | (refine gR 14 ?_ <;> (try refine h0a ?_; (first | (refine q_k (h0c rfl) ?_))) <;> (try refine h0a ?_; (first | (refine q_k (by exact q_b (r:=by apply rb_shr; (omega); (focus (first | (simp only [IntKind.bits]; exact rfl) | exact rfl)))) ?_))) <;> (try refine h0a ?_; (first | (refine q_k (by apply h4a; exact rfl; exact rfl; (focus (apply h4o Tryz.underlying9; (omega); exact h1q))) ?_))) <;> (try refine h0a ?_; (first | fail)) <;> (try refine h0d ?_)) | (refine gR 15 ?_ <;> (try refine h0a ?_; (first | (refine q_k (h0c rfl) ?_))) <;> (try refine h0a ?_; (first | (refine q_k (q_b (r:=by refine rb_and ?_ ?_; (focus (refine ⟨rfl, ⟨?_, ?_⟩⟩; (omega); (focus (simp only [IntKind.bits]; omega)))); (focus (refine ⟨rfl, ⟨?_, ?_⟩⟩; (omega); (focus (simp only [IntKind.bits]; omega)))))) ?_))) <;> (try refine h0a ?_; (first | (refine q_k (by apply h4a; exact rfl; exact rfl; (focus (apply h4o Tryz.underlying9; (omega); exact h1q))) ?_))) <;> (try refine h0a ?_; (first | fail)) <;> (try refine h0d ?_)) | (refine gR 16 ?_ <;> (try refine h0a ?_; (first | (refine q_k (by exact q_b (r:=by apply h3j; exact c_6; (focus (first | (refine IntWalk.i64_in _ ?_; omega) | (refine IntWalk.u8_in _ ?_; omega) | (refine IntWalk.u16_in _ ?_; omega) | (refine IntWalk.u32_in _ ?_; omega) | (refine IntWalk.u64_in _ ?_; omega) | (refine IntWalk.i32_in _ ?_; omega) | exact rfl)))) ?_))) <;> (try refine h0a ?_; (first | (refine q_k (h0c rfl) ?_))) <;> (try refine h0d ?_)) | (refine gR 17 ?_ <;> (try refine h0a ?_; (first | fail)) <;> (try refine h0a ?_; (first | (refine q_k (h0b rfl) ?_))) <;> (try refine h0d ?_)) | ((first | (refine h0o rfl (fun hc => ?_) (fun hc => ?_)) | (refine h0x rfl (fun hc => ?_) (fun hc => ?_)) | (refine h1r rfl (fun hc => ?_) (fun hc => ?_))) <;> (try subst hc)))
  (refine h2q Tryz.results45 (.tmp rfl .nil) ?_)
  exact ⟨_, ⟨rfl, rfl⟩, by intro w H; refine H.sub ?_; (try simp only [zzC, zzN]); repeat (first | exact List.Sublist.refl _ | refine List.Sublist.cons_cons _ ?_ | refine List.Sublist.cons _ ?_ | refine List.sublist_append_of_sublist_right ?_)⟩
 have e : h5s (lB s) = (lB s).flatMap qB := by
  unfold h5s
  rw [if_neg (show ¬ lB s = [] from fun h => h0 (lB_inj (b:=⟨#[]⟩) h)), if_neg (show ¬ lB s = [45] from fun h => h1 (lB_inj (b:=⟨#[45]⟩) h))]
 have e' := Lib.hid e
 clear e
 refine Fn1 Tryz.func45 Tryz.ntmps45 rfl rfl ?_
 repeat' (first | (refine h5e (id:=1) ?_) | refine h2m ?_ | refine h0d ?_ | refine h0u ?_ | refine h1h ?_ | refine h1f ?_ | refine h1g ?_ | refine h0s ?_ | refine h0t ?_ | refine h1l ?_ | refine h1k ?_ | refine h1j ?_ | refine h1i rfl ?_ | refine h1a ?_ | refine h1u ?_ | refine h1v ?_ | refine h2n ?_ | refine h0v rfl ?_ | refine h0w rfl ?_ | (refine gR 0 ?_ <;> (try refine h0a ?_; (first | (refine q_k (h0b rfl) ?_))) <;> (try refine h0d ?_)) | (refine gR 1 ?_ <;> (try refine h0a ?_; (first | (refine q_k (h0c rfl) ?_))) <;> (try refine h0d ?_)) | (refine gR 2 ?_ <;> (try refine h0a ?_; (first | (refine q_k (by exact q_b (r:=by first | exact h3h | (apply h2i; (focus (decide))) | (apply h2i; exact decide_eq_false (by assumption)) | exact h3v)) ?_))) <;> (try refine h0a ?_; (first | (refine q_k (h0b rfl) ?_))) <;> (try refine h0d ?_)) | (refine gR 3 ?_ <;> (try refine h0a ?_; (first | (refine q_k (h0b rfl) ?_))) <;> (try refine h0d ?_)) | (refine gR 4 ?_ <;> (try refine h0a ?_; (first | (refine q_k (by exact q_b (r:=by first | exact h3h | (apply h2i; (focus (decide))) | (apply h2i; exact decide_eq_false (by assumption)) | exact h3v)) ?_))) <;> (try refine h0a ?_; (first | (refine q_k (h0b rfl) ?_))) <;> (try refine h0d ?_)) | (refine gR 5 ?_ <;> (try refine h0a ?_; (first | (refine q_k (h0b rfl) ?_))) <;> (try refine h0d ?_)) | (refine gR 6 ?_ <;> (try refine h0a ?_; (first | (refine h2u (t:=88) rfl Tryz.zeroValue88 ?_; intro nb hnb; (try simp only [Value.cells])))) <;> (try refine h0d ?_)) | (refine gR 7 ?_ <;> (try refine h0a ?_; (first | (refine q_k (h0c rfl) ?_))) <;> (try refine h0a ?_; (first | (refine q_k (h1d rfl (fun _ => BigFrame.builtin_len ..) (h2c Tryz.underlying9)) ?_))) <;> (try refine h0a ?_; (first | (refine q_k (h0c rfl) ?_))) <;> (try refine h0d ?_)) | (refine gR 8 ?_ <;> (try refine h0a ?_; (first | (refine q_k (by exact q_b (r:=by first | (exact h1y q_o) | (exact h1z q_o) | exact h2v)) ?_))) <;> (try refine h0d ?_)) | (refine gR 9 ?_ <;> (try refine h0a ?_; (first | (refine q_k (h0c rfl) ?_))) <;> (try refine h0a ?_; (first | (refine q_k (h0b rfl) ?_))) <;> (try refine h0d ?_)) | (refine gR 10 ?_ <;> (try refine h0a ?_; (first | (refine q_k (h0c rfl) ?_))) <;> (try refine h0a ?_; (first | (refine q_k (h0c rfl) ?_))) <;> (try refine h0a ?_; (first | (refine q_k (by apply h4a; exact rfl; exact rfl; (focus (apply h4o Tryz.underlying9; (omega); exact h1q))) ?_))) <;> (try refine h0a ?_; (first | (refine q_k (h0b rfl) ?_))) <;> (try refine h0d ?_)) | (refine gR 11 ?_ <;> (try refine h0a ?_; (first | (refine q_k (h0c rfl) ?_))) <;> (try refine h0a ?_; (first | fail)) <;> (try refine h0d ?_)) | (refine gR 12 ?_ <;> (try refine h0a ?_; (first | (refine q_k (h0c rfl) ?_))) <;> (try refine h0a ?_; (first | fail)) <;> (try refine h0d ?_)) | (refine gR 13 ?_ <;> (try refine h0a ?_; (first | fail)) <;> (try refine h0d ?_)) | (refine gR 14 ?_ <;> (try refine h0a ?_; (first | (refine q_k (h0c rfl) ?_))) <;> (try refine h0a ?_; (first | (refine q_k (by exact q_b (r:=by apply rb_shr; (omega); (focus (first | (simp only [IntKind.bits]; exact rfl) | exact rfl)))) ?_))) <;> (try refine h0a ?_; (first | (refine q_k (by apply h4a; exact rfl; exact rfl; (focus (apply h4o Tryz.underlying9; (omega); exact h1q))) ?_))) <;> (try refine h0a ?_; (first | fail)) <;> (try refine h0d ?_)) | (refine gR 15 ?_ <;> (try refine h0a ?_; (first | (refine q_k (h0c rfl) ?_))) <;> (try refine h0a ?_; (first | (refine q_k (q_b (r:=by refine rb_and ?_ ?_; (focus (refine ⟨rfl, ⟨?_, ?_⟩⟩; (omega); (focus (simp only [IntKind.bits]; omega)))); (focus (refine ⟨rfl, ⟨?_, ?_⟩⟩; (omega); (focus (simp only [IntKind.bits]; omega)))))) ?_))) <;> (try refine h0a ?_; (first | (refine q_k (by apply h4a; exact rfl; exact rfl; (focus (apply h4o Tryz.underlying9; (omega); exact h1q))) ?_))) <;> (try refine h0a ?_; (first | fail)) <;> (try refine h0d ?_)) | (refine gR 16 ?_ <;> (try refine h0a ?_; (first | (refine q_k (by exact q_b (r:=by apply h3j; exact c_6; (focus (first | (refine IntWalk.i64_in _ ?_; omega) | (refine IntWalk.u8_in _ ?_; omega) | (refine IntWalk.u16_in _ ?_; omega) | (refine IntWalk.u32_in _ ?_; omega) | (refine IntWalk.u64_in _ ?_; omega) | (refine IntWalk.i32_in _ ?_; omega) | exact rfl)))) ?_))) <;> (try refine h0a ?_; (first | (refine q_k (h0c rfl) ?_))) <;> (try refine h0d ?_)) | (refine gR 17 ?_ <;> (try refine h0a ?_; (first | fail)) <;> (try refine h0a ?_; (first | (refine q_k (h0b rfl) ?_))) <;> (try refine h0d ?_)) | ((first | (refine h0o rfl (fun hc => ?_) (fun hc => ?_)) | (refine h0x rfl (fun hc => ?_) (fun hc => ?_)) | (refine h1r rfl (fun hc => ?_) (fun hc => ?_))) <;> (try subst hc)))
 refine ⟨?_⟩
 obtain ⟨nbO, rfl⟩ : ∃ x, x = nb := ⟨_, rfl⟩
 refine h1a ?_
 refine G_loopk (γ:=Nat × List Blk) (QuI s nbO) (fun g => s.size - g.1) (fun g => [(13, .int .i64 (g.1 : Nat))]) [(0, _), (3, _), (12, _)]
  (fun g => g.2 ++ L) (0, [bB nbO (.pointer none) (.slice none 0 0)]) (.cons rfl (.cons rfl (.cons rfl .nil))) ⟨Nat.zero_le _, bldi_0 _⟩ (by (focus (repeat (first | exact Sub.nil | refine Sub.cons rfl ?_ | (refine Sub.cons (congrArg some ?_) ?_; (focus go_num)))))) (fun _ H => H) ?_
 rintro ⟨i, B⟩ ⟨hi, hB⟩
 dsimp only at hi hB ⊢
 have hql := qB_len ((lB s).take i)
 have hll := lB_len s
 rw [List.length_take] at hql
 by_cases hlt : i < s.size
 case neg =>
  obtain rfl : i = s.size := by omega
  rw [List.take_of_length_le (by omega)] at hB hql
  have hst := bldi_s (S:=S) (w0:=w0) (L:=L) hB (by omega)
  repeat' (first | refine h2m ?_ | refine h0d ?_ | refine h0u ?_ | refine h1h ?_ | refine h1f ?_ | refine h1g ?_ | refine h0s ?_ | refine h0t ?_ | refine h1l ?_ | refine h1k ?_ | refine h1j ?_ | refine h1i rfl ?_ | refine h1a ?_ | refine h1u ?_ | refine h1v ?_ | refine h2n ?_ | refine h0v rfl ?_ | refine h0w rfl ?_ | (refine gR 0 ?_ <;> (try refine h0a ?_; (first | (refine q_k (h0b rfl) ?_))) <;> (try refine h0d ?_)) | (refine gR 1 ?_ <;> (try refine h0a ?_; (first | (refine q_k (h0c rfl) ?_))) <;> (try refine h0d ?_)) | (refine gR 2 ?_ <;> (try refine h0a ?_; (first | (refine q_k (by exact q_b (r:=by first | exact h3h | (apply h2i; (focus (decide))) | (apply h2i; exact decide_eq_false (by assumption)) | exact h3v)) ?_))) <;> (try refine h0a ?_; (first | (refine q_k (h0b rfl) ?_))) <;> (try refine h0d ?_)) | (refine gR 3 ?_ <;> (try refine h0a ?_; (first | (refine q_k (h0b rfl) ?_))) <;> (try refine h0d ?_)) | (refine gR 4 ?_ <;> (try refine h0a ?_; (first | (refine q_k (by exact q_b (r:=by first | exact h3h | (apply h2i; (focus (decide))) | (apply h2i; exact decide_eq_false (by assumption)) | exact h3v)) ?_))) <;> (try refine h0a ?_; (first | (refine q_k (h0b rfl) ?_))) <;> (try refine h0d ?_)) | (refine gR 5 ?_ <;> (try refine h0a ?_; (first | (refine q_k (h0b rfl) ?_))) <;> (try refine h0d ?_)) | (refine gR 6 ?_ <;> (try refine h0a ?_; (first | (refine h2u (t:=88) rfl Tryz.zeroValue88 ?_; intro nb hnb; (try simp only [Value.cells])))) <;> (try refine h0d ?_)) | (refine gR 7 ?_ <;> (try refine h0a ?_; (first | (refine q_k (h0c rfl) ?_))) <;> (try refine h0a ?_; (first | (refine q_k (h1d rfl (fun _ => BigFrame.builtin_len ..) (h2c Tryz.underlying9)) ?_))) <;> (try refine h0a ?_; (first | (refine q_k (h0c rfl) ?_))) <;> (try refine h0d ?_)) | (refine gR 8 ?_ <;> (try refine h0a ?_; (first | (refine q_k (by exact q_b (r:=by first | (exact h1y q_o) | (exact h1z q_o) | exact h2v)) ?_))) <;> (try refine h0d ?_)) | (refine gR 9 ?_ <;> (try refine h0a ?_; (first | (refine q_k (h0c rfl) ?_))) <;> (try refine h0a ?_; (first | (refine q_k (h0b rfl) ?_))) <;> (try refine h0d ?_)) | (refine gR 10 ?_ <;> (try refine h0a ?_; (first | (refine q_k (h0c rfl) ?_))) <;> (try refine h0a ?_; (first | (refine q_k (h0c rfl) ?_))) <;> (try refine h0a ?_; (first | (refine q_k (by apply h4a; exact rfl; exact rfl; (focus (apply h4o Tryz.underlying9; (omega); exact h1q))) ?_))) <;> (try refine h0a ?_; (first | (refine q_k (h0b rfl) ?_))) <;> (try refine h0d ?_)) | (refine gR 11 ?_ <;> (try refine h0a ?_; (first | (refine q_k (h0c rfl) ?_))) <;> (try refine h0a ?_; (first | fail)) <;> (try refine h0d ?_)) | (refine gR 12 ?_ <;> (try refine h0a ?_; (first | (refine q_k (h0c rfl) ?_))) <;> (try refine h0a ?_; (first | fail)) <;> (try refine h0d ?_)) | (refine gR 13 ?_ <;> (try refine h0a ?_; (first | fail)) <;> (try refine h0d ?_)) | (refine gR 14 ?_ <;> (try refine h0a ?_; (first | (refine q_k (h0c rfl) ?_))) <;> (try refine h0a ?_; (first | (refine q_k (by exact q_b (r:=by apply rb_shr; (omega); (focus (first | (simp only [IntKind.bits]; exact rfl) | exact rfl)))) ?_))) <;> (try refine h0a ?_; (first | (refine q_k (by apply h4a; exact rfl; exact rfl; (focus (apply h4o Tryz.underlying9; (omega); exact h1q))) ?_))) <;> (try refine h0a ?_; (first | fail)) <;> (try refine h0d ?_)) | (refine gR 15 ?_ <;> (try refine h0a ?_; (first | (refine q_k (h0c rfl) ?_))) <;> (try refine h0a ?_; (first | (refine q_k (q_b (r:=by refine rb_and ?_ ?_; (focus (refine ⟨rfl, ⟨?_, ?_⟩⟩; (omega); (focus (simp only [IntKind.bits]; omega)))); (focus (refine ⟨rfl, ⟨?_, ?_⟩⟩; (omega); (focus (simp only [IntKind.bits]; omega)))))) ?_))) <;> (try refine h0a ?_; (first | (refine q_k (by apply h4a; exact rfl; exact rfl; (focus (apply h4o Tryz.underlying9; (omega); exact h1q))) ?_))) <;> (try refine h0a ?_; (first | fail)) <;> (try refine h0d ?_)) | (refine gR 16 ?_ <;> (try refine h0a ?_; (first | (refine q_k (by exact q_b (r:=by apply h3j; exact c_6; (focus (first | (refine IntWalk.i64_in _ ?_; omega) | (refine IntWalk.u8_in _ ?_; omega) | (refine IntWalk.u16_in _ ?_; omega) | (refine IntWalk.u32_in _ ?_; omega) | (refine IntWalk.u64_in _ ?_; omega) | (refine IntWalk.i32_in _ ?_; omega) | exact rfl)))) ?_))) <;> (try refine h0a ?_; (first | (refine q_k (h0c rfl) ?_))) <;> (try refine h0d ?_)) | (refine gR 17 ?_ <;> (try refine h0a ?_; (first | (first | (refine h2d (F:=33) (by kernel_rfl) rfl rfl hst ?_; rintro _ _ ⟨rfl, rfl⟩)))) <;> (try refine h0a ?_; (first | (refine q_k (h0b rfl) ?_))) <;> (try refine h0d ?_)) | ((first | (refine h0o rfl (fun hc => ?_) (fun hc => ?_)) | (refine h0x rfl (fun hc => ?_) (fun hc => ?_)) | (refine h1r rfl (fun hc => ?_) (fun hc => ?_))) <;> (try subst hc)))
  (refine h2q Tryz.results45 (.tmp rfl .nil) ?_)
  refine ⟨_, ⟨?_, rfl⟩, by intro w H; refine H.sub ?_; (try simp only [zzC, zzN]); repeat (first | exact List.Sublist.refl _ | refine List.Sublist.cons_cons _ ?_ | refine List.Sublist.cons _ ?_ | refine List.sublist_append_of_sublist_right ?_)⟩
  rw [e'.out]; rfl
 obtain ⟨x, hx, hxd⟩ := ba_at hlt
 have hxi : s[((i : Nat) : Int).toNat]? = some x := by rw [Int.toNat_natCast]; exact hx
 have hxr := x.toNat_lt
 have htk : ((lB s).take (i + 1)).flatMap qB = ((lB s).take i).flatMap qB ++ qB x := by
  rw [List.take_succ_eq_append_getElem (by omega), List.flatMap_append]
  have : (lB s)[i]'(by omega) = x := by
   have h2 := lB_get s i
   rw [hx, List.getElem?_eq_getElem (by omega)] at h2
   exact Option.some.inj h2
  rw [this]; simp
 have hpl := fun (L : List Blk) => plain_c (S:=S) (w0:=w0) (L:=L) x
 have htk' := Lib.hid htk
 clear htk hxd hx
 cases hp : plB x
 ·have hqx : qB x = [37, hxB (x.toNat / 16), hxB (x.toNat % 16)] := by unfold qB; rw [hp]; rfl
  have hqx' := Lib.hid hqx
  obtain ⟨ha1, ha3, ha4, ha2⟩ := hx_at x
  rw [hp] at hpl
  have hw1 := bldi_w (S:=S) (w0:=w0) (L:=L) hB (by omega) (x:=37) (c:=37) rfl
  generalize ((lB s).take i).flatMap qB = z at *
  generalize hxB (x.toNat / 16) = y1 at *
  generalize hxB (x.toNat % 16) = y2 at *
  clear hqx hB
  repeat' (first | refine h2m ?_ | refine h0d ?_ | refine h0u ?_ | refine h1h ?_ | refine h1f ?_ | refine h1g ?_ | refine h0s ?_ | refine h0t ?_ | refine h1l ?_ | refine h1k ?_ | refine h1j ?_ | refine h1i rfl ?_ | refine h1a ?_ | refine h1u ?_ | refine h1v ?_ | refine h2n ?_ | refine h0v rfl ?_ | refine h0w rfl ?_ | (refine gR 0 ?_ <;> (try refine h0a ?_; (first | (refine q_k (h0b rfl) ?_))) <;> (try refine h0d ?_)) | (refine gR 1 ?_ <;> (try refine h0a ?_; (first | (refine q_k (h0c rfl) ?_))) <;> (try refine h0d ?_)) | (refine gR 2 ?_ <;> (try refine h0a ?_; (first | (refine q_k (by exact q_b (r:=by first | exact h3h | (apply h2i; (focus (decide))) | (apply h2i; exact decide_eq_false (by assumption)) | exact h3v)) ?_))) <;> (try refine h0a ?_; (first | (refine q_k (h0b rfl) ?_))) <;> (try refine h0d ?_)) | (refine gR 3 ?_ <;> (try refine h0a ?_; (first | (refine q_k (h0b rfl) ?_))) <;> (try refine h0d ?_)) | (refine gR 4 ?_ <;> (try refine h0a ?_; (first | (refine q_k (by exact q_b (r:=by first | exact h3h | (apply h2i; (focus (decide))) | (apply h2i; exact decide_eq_false (by assumption)) | exact h3v)) ?_))) <;> (try refine h0a ?_; (first | (refine q_k (h0b rfl) ?_))) <;> (try refine h0d ?_)) | (refine gR 5 ?_ <;> (try refine h0a ?_; (first | (refine q_k (h0b rfl) ?_))) <;> (try refine h0d ?_)) | (refine gR 6 ?_ <;> (try refine h0a ?_; (first | (refine h2u (t:=88) rfl Tryz.zeroValue88 ?_; intro nb hnb; (try simp only [Value.cells])))) <;> (try refine h0d ?_)) | (refine gR 7 ?_ <;> (try refine h0a ?_; (first | (refine q_k (h0c rfl) ?_))) <;> (try refine h0a ?_; (first | (refine q_k (h1d rfl (fun _ => BigFrame.builtin_len ..) (h2c Tryz.underlying9)) ?_))) <;> (try refine h0a ?_; (first | (refine q_k (h0c rfl) ?_))) <;> (try refine h0d ?_)) | (refine gR 8 ?_ <;> (try refine h0a ?_; (first | (refine q_k (by exact q_b (r:=by first | (exact h1y q_o) | (exact h1z q_o) | exact h2v)) ?_))) <;> (try refine h0d ?_)) | (refine gR 9 ?_ <;> (try refine h0a ?_; (first | (refine q_k (h0c rfl) ?_))) <;> (try refine h0a ?_; (first | (refine q_k (h0b rfl) ?_))) <;> (try refine h0d ?_)) | (refine gR 10 ?_ <;> (try refine h0a ?_; (first | (refine q_k (h0c rfl) ?_))) <;> (try refine h0a ?_; (first | (refine q_k (h0c rfl) ?_))) <;> (try refine h0a ?_; (first | (refine q_k (by apply h4a; exact rfl; exact rfl; (focus (apply h4o Tryz.underlying9; (omega); exact h1q))) ?_))) <;> (try refine h0a ?_; (first | (refine q_k (h0b rfl) ?_))) <;> (try refine h0d ?_)) | (refine gR 11 ?_ <;> (try refine h0a ?_; (first | (refine q_k (h0c rfl) ?_))) <;> (try refine h0a ?_; (first | (first | (refine h2d (F:=65) (by kernel_rfl) rfl rfl (hpl _) ?_; rintro _ _ ⟨rfl, rfl⟩)))) <;> (try refine h0d ?_)) | (refine gR 12 ?_ <;> (try refine h0a ?_; (first | (refine q_k (h0c rfl) ?_))) <;> (try refine h0a ?_; (first | (first | (first | (refine h2d (F:=66) (by kernel_rfl) rfl rfl hw1 ?_; rintro _ _ ⟨rfl, B2, hB2, rfl⟩; have hw2 := bldi_w (S:=S) (w0:=w0) (L:=L) hB2 (by simp; omega) (x:=(y1.toNat : Int)) (c:=y1) rfl; clear hB2) | (refine h2d (F:=66) (by kernel_rfl) rfl rfl hw2 ?_; rintro _ _ ⟨rfl, B3, hB3, rfl⟩; have hw3 := bldi_w (S:=S) (w0:=w0) (L:=L) hB3 (by simp; omega) (x:=(y2.toNat : Int)) (c:=y2) rfl; clear hB3) | (refine h2d (F:=66) (by kernel_rfl) rfl rfl hw3 ?_; rintro _ _ ⟨rfl, B4, hB4, rfl⟩))))) <;> (try refine h0d ?_)) | (refine gR 13 ?_ <;> (try refine h0a ?_; (first | (first | (first | (refine h2d (F:=66) (by kernel_rfl) rfl rfl hw1 ?_; rintro _ _ ⟨rfl, B2, hB2, rfl⟩; have hw2 := bldi_w (S:=S) (w0:=w0) (L:=L) hB2 (by simp; omega) (x:=(y1.toNat : Int)) (c:=y1) rfl; clear hB2) | (refine h2d (F:=66) (by kernel_rfl) rfl rfl hw2 ?_; rintro _ _ ⟨rfl, B3, hB3, rfl⟩; have hw3 := bldi_w (S:=S) (w0:=w0) (L:=L) hB3 (by simp; omega) (x:=(y2.toNat : Int)) (c:=y2) rfl; clear hB3) | (refine h2d (F:=66) (by kernel_rfl) rfl rfl hw3 ?_; rintro _ _ ⟨rfl, B4, hB4, rfl⟩))))) <;> (try refine h0d ?_)) | (refine gR 14 ?_ <;> (try refine h0a ?_; (first | (refine q_k (h0c rfl) ?_))) <;> (try refine h0a ?_; (first | (refine q_k (by exact q_b (r:=by apply rb_shr; (omega); (focus (first | (simp only [IntKind.bits]; exact rfl) | exact rfl)))) ?_))) <;> (try refine h0a ?_; (first | (refine q_k (by apply h4a; exact rfl; exact rfl; (focus (apply h4o Tryz.underlying9; (omega); exact h1q))) ?_))) <;> (try refine h0a ?_; (first | (first | (first | (refine h2d (F:=66) (by kernel_rfl) rfl rfl hw1 ?_; rintro _ _ ⟨rfl, B2, hB2, rfl⟩; have hw2 := bldi_w (S:=S) (w0:=w0) (L:=L) hB2 (by simp; omega) (x:=(y1.toNat : Int)) (c:=y1) rfl; clear hB2) | (refine h2d (F:=66) (by kernel_rfl) rfl rfl hw2 ?_; rintro _ _ ⟨rfl, B3, hB3, rfl⟩; have hw3 := bldi_w (S:=S) (w0:=w0) (L:=L) hB3 (by simp; omega) (x:=(y2.toNat : Int)) (c:=y2) rfl; clear hB3) | (refine h2d (F:=66) (by kernel_rfl) rfl rfl hw3 ?_; rintro _ _ ⟨rfl, B4, hB4, rfl⟩))))) <;> (try refine h0d ?_)) | (refine gR 15 ?_ <;> (try refine h0a ?_; (first | (refine q_k (h0c rfl) ?_))) <;> (try refine h0a ?_; (first | (refine q_k (q_b (r:=by refine rb_and ?_ ?_; (focus (refine ⟨rfl, ⟨?_, ?_⟩⟩; (omega); (focus (simp only [IntKind.bits]; omega)))); (focus (refine ⟨rfl, ⟨?_, ?_⟩⟩; (omega); (focus (simp only [IntKind.bits]; omega)))))) ?_))) <;> (try refine h0a ?_; (first | (refine q_k (by apply h4a; exact rfl; exact rfl; (focus (apply h4o Tryz.underlying9; (omega); exact h1q))) ?_))) <;> (try refine h0a ?_; (first | (first | (first | (refine h2d (F:=66) (by kernel_rfl) rfl rfl hw1 ?_; rintro _ _ ⟨rfl, B2, hB2, rfl⟩; have hw2 := bldi_w (S:=S) (w0:=w0) (L:=L) hB2 (by simp; omega) (x:=(y1.toNat : Int)) (c:=y1) rfl; clear hB2) | (refine h2d (F:=66) (by kernel_rfl) rfl rfl hw2 ?_; rintro _ _ ⟨rfl, B3, hB3, rfl⟩; have hw3 := bldi_w (S:=S) (w0:=w0) (L:=L) hB3 (by simp; omega) (x:=(y2.toNat : Int)) (c:=y2) rfl; clear hB3) | (refine h2d (F:=66) (by kernel_rfl) rfl rfl hw3 ?_; rintro _ _ ⟨rfl, B4, hB4, rfl⟩))))) <;> (try refine h0d ?_)) | (refine gR 16 ?_ <;> (try refine h0a ?_; (first | (refine q_k (by exact q_b (r:=by apply h3j; exact c_6; (focus (first | (refine IntWalk.i64_in _ ?_; omega) | (refine IntWalk.u8_in _ ?_; omega) | (refine IntWalk.u16_in _ ?_; omega) | (refine IntWalk.u32_in _ ?_; omega) | (refine IntWalk.u64_in _ ?_; omega) | (refine IntWalk.i32_in _ ?_; omega) | exact rfl)))) ?_))) <;> (try refine h0a ?_; (first | (refine q_k (h0c rfl) ?_))) <;> (try refine h0d ?_)) | (refine gR 17 ?_ <;> (try refine h0a ?_; (first | fail)) <;> (try refine h0a ?_; (first | (refine q_k (h0b rfl) ?_))) <;> (try refine h0d ?_)) | ((first | (refine h0o rfl (fun hc => ?_) (fun hc => ?_)) | (refine h0x rfl (fun hc => ?_) (fun hc => ?_)) | (refine h1r rfl (fun hc => ?_) (fun hc => ?_))) <;> (try subst hc)))
  refine h6b (i + 1, B4) ⟨⟨by dsimp only; omega, ?_⟩, by dsimp only; omega⟩ (by (focus (repeat (first | exact Sub.nil | refine Sub.cons rfl ?_ | (refine Sub.cons (congrArg some ?_) ?_; (focus go_num)))))) (fun _ H => H)
  dsimp only
  rw [htk'.out, hqx'.out]
  rw [List.append_assoc, List.append_assoc] at hB4
  exact hB4
 ·have hqx : qB x = [x] := by unfold qB; rw [hp]; rfl
  rw [hp] at hpl
  have hw1 := fun (L : List Blk) => bldi_w (S:=S) (w0:=w0) (L:=L) hB (by omega) (x:=(x.toNat : Int)) (c:=x) rfl
  have hqx' := Lib.hid hqx
  clear hqx hB
  repeat' (first | refine h2m ?_ | refine h0d ?_ | refine h0u ?_ | refine h1h ?_ | refine h1f ?_ | refine h1g ?_ | refine h0s ?_ | refine h0t ?_ | refine h1l ?_ | refine h1k ?_ | refine h1j ?_ | refine h1i rfl ?_ | refine h1a ?_ | refine h1u ?_ | refine h1v ?_ | refine h2n ?_ | refine h0v rfl ?_ | refine h0w rfl ?_ | (refine gR 0 ?_ <;> (try refine h0a ?_; (first | (refine q_k (h0b rfl) ?_))) <;> (try refine h0d ?_)) | (refine gR 1 ?_ <;> (try refine h0a ?_; (first | (refine q_k (h0c rfl) ?_))) <;> (try refine h0d ?_)) | (refine gR 2 ?_ <;> (try refine h0a ?_; (first | (refine q_k (by exact q_b (r:=by first | exact h3h | (apply h2i; (focus (decide))) | (apply h2i; exact decide_eq_false (by assumption)) | exact h3v)) ?_))) <;> (try refine h0a ?_; (first | (refine q_k (h0b rfl) ?_))) <;> (try refine h0d ?_)) | (refine gR 3 ?_ <;> (try refine h0a ?_; (first | (refine q_k (h0b rfl) ?_))) <;> (try refine h0d ?_)) | (refine gR 4 ?_ <;> (try refine h0a ?_; (first | (refine q_k (by exact q_b (r:=by first | exact h3h | (apply h2i; (focus (decide))) | (apply h2i; exact decide_eq_false (by assumption)) | exact h3v)) ?_))) <;> (try refine h0a ?_; (first | (refine q_k (h0b rfl) ?_))) <;> (try refine h0d ?_)) | (refine gR 5 ?_ <;> (try refine h0a ?_; (first | (refine q_k (h0b rfl) ?_))) <;> (try refine h0d ?_)) | (refine gR 6 ?_ <;> (try refine h0a ?_; (first | (refine h2u (t:=88) rfl Tryz.zeroValue88 ?_; intro nb hnb; (try simp only [Value.cells])))) <;> (try refine h0d ?_)) | (refine gR 7 ?_ <;> (try refine h0a ?_; (first | (refine q_k (h0c rfl) ?_))) <;> (try refine h0a ?_; (first | (refine q_k (h1d rfl (fun _ => BigFrame.builtin_len ..) (h2c Tryz.underlying9)) ?_))) <;> (try refine h0a ?_; (first | (refine q_k (h0c rfl) ?_))) <;> (try refine h0d ?_)) | (refine gR 8 ?_ <;> (try refine h0a ?_; (first | (refine q_k (by exact q_b (r:=by first | (exact h1y q_o) | (exact h1z q_o) | exact h2v)) ?_))) <;> (try refine h0d ?_)) | (refine gR 9 ?_ <;> (try refine h0a ?_; (first | (refine q_k (h0c rfl) ?_))) <;> (try refine h0a ?_; (first | (refine q_k (h0b rfl) ?_))) <;> (try refine h0d ?_)) | (refine gR 10 ?_ <;> (try refine h0a ?_; (first | (refine q_k (h0c rfl) ?_))) <;> (try refine h0a ?_; (first | (refine q_k (h0c rfl) ?_))) <;> (try refine h0a ?_; (first | (refine q_k (by apply h4a; exact rfl; exact rfl; (focus (apply h4o Tryz.underlying9; (omega); exact h1q))) ?_))) <;> (try refine h0a ?_; (first | (refine q_k (h0b rfl) ?_))) <;> (try refine h0d ?_)) | (refine gR 11 ?_ <;> (try refine h0a ?_; (first | (refine q_k (h0c rfl) ?_))) <;> (try refine h0a ?_; (first | (first | (refine h2d (F:=65) (by kernel_rfl) rfl rfl (hpl _) ?_; rintro _ _ ⟨rfl, rfl⟩)))) <;> (try refine h0d ?_)) | (refine gR 12 ?_ <;> (try refine h0a ?_; (first | (refine q_k (h0c rfl) ?_))) <;> (try refine h0a ?_; (first | (first | (refine h2d (F:=66) (by kernel_rfl) rfl rfl (hw1 _) ?_; rintro _ _ ⟨rfl, B2, hB2, rfl⟩)))) <;> (try refine h0d ?_)) | (refine gR 13 ?_ <;> (try refine h0a ?_; (first | (first | (refine h2d (F:=66) (by kernel_rfl) rfl rfl (hw1 _) ?_; rintro _ _ ⟨rfl, B2, hB2, rfl⟩)))) <;> (try refine h0d ?_)) | (refine gR 14 ?_ <;> (try refine h0a ?_; (first | (refine q_k (h0c rfl) ?_))) <;> (try refine h0a ?_; (first | (refine q_k (by exact q_b (r:=by apply rb_shr; (omega); (focus (first | (simp only [IntKind.bits]; exact rfl) | exact rfl)))) ?_))) <;> (try refine h0a ?_; (first | (refine q_k (by apply h4a; exact rfl; exact rfl; (focus (apply h4o Tryz.underlying9; (omega); exact h1q))) ?_))) <;> (try refine h0a ?_; (first | (first | (refine h2d (F:=66) (by kernel_rfl) rfl rfl (hw1 _) ?_; rintro _ _ ⟨rfl, B2, hB2, rfl⟩)))) <;> (try refine h0d ?_)) | (refine gR 15 ?_ <;> (try refine h0a ?_; (first | (refine q_k (h0c rfl) ?_))) <;> (try refine h0a ?_; (first | (refine q_k (q_b (r:=by refine rb_and ?_ ?_; (focus (refine ⟨rfl, ⟨?_, ?_⟩⟩; (omega); (focus (simp only [IntKind.bits]; omega)))); (focus (refine ⟨rfl, ⟨?_, ?_⟩⟩; (omega); (focus (simp only [IntKind.bits]; omega)))))) ?_))) <;> (try refine h0a ?_; (first | (refine q_k (by apply h4a; exact rfl; exact rfl; (focus (apply h4o Tryz.underlying9; (omega); exact h1q))) ?_))) <;> (try refine h0a ?_; (first | (first | (refine h2d (F:=66) (by kernel_rfl) rfl rfl (hw1 _) ?_; rintro _ _ ⟨rfl, B2, hB2, rfl⟩)))) <;> (try refine h0d ?_)) | (refine gR 16 ?_ <;> (try refine h0a ?_; (first | (refine q_k (by exact q_b (r:=by apply h3j; exact c_6; (focus (first | (refine IntWalk.i64_in _ ?_; omega) | (refine IntWalk.u8_in _ ?_; omega) | (refine IntWalk.u16_in _ ?_; omega) | (refine IntWalk.u32_in _ ?_; omega) | (refine IntWalk.u64_in _ ?_; omega) | (refine IntWalk.i32_in _ ?_; omega) | exact rfl)))) ?_))) <;> (try refine h0a ?_; (first | (refine q_k (h0c rfl) ?_))) <;> (try refine h0d ?_)) | (refine gR 17 ?_ <;> (try refine h0a ?_; (first | fail)) <;> (try refine h0a ?_; (first | (refine q_k (h0b rfl) ?_))) <;> (try refine h0d ?_)) | ((first | (refine h0o rfl (fun hc => ?_) (fun hc => ?_)) | (refine h0x rfl (fun hc => ?_) (fun hc => ?_)) | (refine h1r rfl (fun hc => ?_) (fun hc => ?_))) <;> (try subst hc)))
  refine h6b (i + 1, B2) ⟨⟨by dsimp only; omega, ?_⟩, by dsimp only; omega⟩ (by (focus (repeat (first | exact Sub.nil | refine Sub.cons rfl ?_ | (refine Sub.cons (congrArg some ?_) ?_; (focus go_num)))))) (fun _ H => H)
  dsimp only
  rw [htk'.out, hqx'.out]
  exact hB2
theorem wf_u8 {a : Int} (h : (Lit.int .u8 a).wf = true) : 0 ≤ a ∧ a < 256 := by
 simp [Lit.wf, IntKind.min, IntKind.max, IntKind.signed, IntKind.bits] at h; omega
theorem wf_u32 {a : Int} (h : (Lit.int .u32 a).wf = true) : 0 ≤ a ∧ a < 4294967296 := by
 simp [Lit.wf, IntKind.min, IntKind.max, IntKind.signed, IntKind.bits] at h; omega
theorem wf_u64 {a : Int} (h : (Lit.int .u64 a).wf = true) : 0 ≤ a ∧ a < 18446744073709551616 := by
 simp [Lit.wf, IntKind.min, IntKind.max, IntKind.signed, IntKind.bits] at h; omega
theorem wf_i64 {a : Int} (h : (Lit.int .i64 a).wf = true) : -9223372036854775808 ≤ a ∧ a < 9223372036854775808 := by
 simp [Lit.wf, IntKind.min, IntKind.max, IntKind.signed, IntKind.bits] at h; omega
theorem HP.read {w : World} {L : List Blk} (h : ∀ p ∈ L, p.wr = false ∧ w.heap[p.b]? = some p.o) : HP [] w w L :=
 ⟨rfl, rfl, rfl, Nat.le_refl _, fun _ _ _ => rfl, fun p hp => (h p hp).2, fun p hp hw => by simp [(h p hp).1] at hw,
  List.pairwise_of_forall_mem_list fun p hp q hq hw => by rcases hw with hw | hw <;> simp [(h p hp).1, (h q hq).1] at hw⟩
theorem mapM_some {α β : Type} {f : α → Option β} : ∀ {l : List α} {ys : List β}, l.mapM f = some ys → ∀ (i : Nat) (x : α), l[i]? = some x → ∃ y, f x = some y ∧ ys[i]? = some y
 | [], _, _, i, x, hx => by simp at hx
 | a :: l, ys, h, i, x, hx => by
  simp only [List.mapM_cons, Option.pure_def, Option.bind_eq_bind, Option.bind_eq_some_iff] at h
  obtain ⟨y, hy, ys', hys, e⟩ := h
  obtain rfl := Option.some.inj e
  cases i with
  | zero => simp at hx; subst hx; exact ⟨y, hy, by simp⟩
  | succ i => simp at hx; simpa using mapM_some hys i x hx
theorem mapM_len {α β : Type} {f : α → Option β} : ∀ {l : List α} {ys : List β}, l.mapM f = some ys → ys.length = l.length
 | [], ys, h => by simp at h; simp [h]
 | a :: l, ys, h => by
  simp only [List.mapM_cons, Option.pure_def, Option.bind_eq_bind, Option.bind_eq_some_iff] at h
  obtain ⟨y, hy, ys', hys, e⟩ := h
  obtain rfl := Option.some.inj e
  simp [mapM_len hys]
section
variable {H : Type} {enc : TypeId × Value → H} {P : Program} {w : World} {base : Nat} {spare : Nat → Bool} {held : Bool}
theorem trod_fields {t : TypeId} {fs : Array Field} {fuel : Nat} {cs : List Value} {x : DataW H × List MemPlace} (ht : P.underlying t = some (.struct fs))
  (h : DataW.trod enc P w base spare held fuel t cs = some x) :
  ∃ n, fuel = n + 1 ∧ cs.length = P.cellsOf t ∧ ∀ (i : Nat) (f : Field), fs.toList[i]? = some f → ∃ y, DataW.trod enc P w base spare held n f.type ((cs.drop f.offset).take (P.cellsOf f.type)) = some y := by
 cases fuel with
 | zero => simp [DataW.trod] at h
 | succ n =>
  refine ⟨n, rfl, ?_⟩
  unfold DataW.trod at h
  simp only [ht] at h
  split at h
  ·rename_i hlen
   simp only [Option.map_eq_some_iff] at h
   obtain ⟨xs, hxs, _⟩ := h
   exact ⟨hlen, fun i f hf => let ⟨y, hy, _⟩ := mapM_some hxs i f hf; ⟨y, hy⟩⟩
  ·simp at h
theorem trod_slice {t e : TypeId} {fuel : Nat} {a : Option Addr} {len cap : Nat} {x : DataW H × List MemPlace} (ht : P.underlying t = some (.slice e))
  (h : DataW.trod enc P w base spare held fuel t [.slice a len cap] = some x) :
  (a = none ∧ len = 0 ∧ cap = 0) ∨
  ∃ p n, a = some p ∧ fuel = n + 1 ∧ len ≤ cap ∧ cap ≤ maxLen ∧ ∀ i, i < len → ∃ cs y, w.cells? base (p.add (i * P.cellsOf e)) (P.cellsOf e) = some cs ∧ DataW.trod enc P w base spare held n e cs = some y := by
 cases fuel with
 | zero => simp [DataW.trod] at h
 | succ n =>
  cases a with
  | none =>
   left
   unfold DataW.trod at h
   simp only [ht] at h
   cases len <;> cases cap <;> simp_all
  | some p =>
   right
   unfold DataW.trod at h
   simp only [ht] at h
   split at h
   ·rename_i hc
    simp only [Option.bind_eq_some_iff] at h
    obtain ⟨elems, hel, _⟩ := h
    refine ⟨p, n, rfl, rfl, hc.2.1, hc.2.2, fun i hi => ?_⟩
    obtain ⟨y, hy, _⟩ := mapM_some hel i i (by simp [hi])
    simp only [Option.bind_eq_some_iff] at hy
    obtain ⟨cs, hcs, hy⟩ := hy
    exact ⟨cs, y, hcs, hy⟩
   ·simp at h
theorem cells?_get {a : Addr} {n : Nat} {cs : List Value} (h : w.cells? base a n = some cs) : base ≤ a.block ∧ cs.length = n ∧ ∀ j, j < n → w.cell? (a.add j) = cs[j]? := by
 unfold World.cells? at h
 split at h
 ·rename_i hb
  refine ⟨hb, by simpa using mapM_len h, fun j hj => ?_⟩
  obtain ⟨y, hy, hy'⟩ := mapM_some h j j (by simp [hj])
  rw [hy, hy']
 ·simp at h
theorem h4u {t : TypeId} {k : IntKind} {fuel : Nat} {c : Value} {y : DataW H × List MemPlace} (ht : P.underlying t = some (.int k)) (h : DataW.trod enc P w base spare held fuel t [c] = some y) :
  ∃ n, c = .int k n ∧ (Lit.int k n).wf = true := by
 cases fuel with
 | zero => simp [DataW.trod] at h
 | succ f =>
  unfold DataW.trod at h
  rw [ht] at h
  cases c <;> simp_all
theorem trod_bool_cell {t : TypeId} {fuel : Nat} {c : Value} {y : DataW H × List MemPlace} (ht : P.underlying t = some .bool) (h : DataW.trod enc P w base spare held fuel t [c] = some y) :
  ∃ b, c = .bool b := by
 cases fuel with
 | zero => simp [DataW.trod] at h
 | succ f =>
  unfold DataW.trod at h
  rw [ht] at h
  cases c <;> simp_all
theorem trod_string_cell {t : TypeId} {fuel : Nat} {c : Value} {y : DataW H × List MemPlace} (ht : P.underlying t = some .string) (h : DataW.trod enc P w base spare held fuel t [c] = some y) :
  ∃ s, c = .string s ∧ s.size ≤ maxLen := by
 cases fuel with
 | zero => simp [DataW.trod] at h
 | succ f =>
  unfold DataW.trod at h
  rw [ht] at h
  cases c <;> simp_all
theorem add_none (b off n : Nat) : (⟨b, off, none⟩ : Addr).add n = ⟨b, off + n, none⟩ := by unfold Addr.add; split <;> simp_all
theorem slice_block {t e : TypeId} {fuel : Nat} {a : Option Addr} {len cap : Nat} {x : DataW H × List MemPlace} (ht : P.underlying t = some (.slice e)) {sz : Nat} (hsz : P.cellsOf e = sz) (h0 : 0 < sz)
  (h : DataW.trod enc P w base spare held fuel t [.slice a len cap] = some x) (hlen : 0 < len) :
  ∃ b off acs T fr n, a = some ⟨b, off, none⟩ ∧ w.heap[b]? = some (.cells acs T fr) ∧ len ≤ cap ∧ cap ≤ maxLen ∧
   ∀ i, i < len → ∃ cs y, cs.length = sz ∧ DataW.trod enc P w base spare held n e cs = some y ∧ off + i * sz + sz ≤ acs.size ∧ acs.extract (off + i * sz) (off + i * sz + sz) = cs.toArray := by
 rcases trod_slice ht h with ⟨_, h1, _⟩ | ⟨p, n, rfl, _, hlc, hcm, hel⟩
 ·omega
 ·rw [hsz] at hel
  obtain ⟨cs0, y0, hc0, _⟩ := hel 0 hlen
  obtain ⟨_, hl0, hg0⟩ := cells?_get hc0
  obtain ⟨v, hv⟩ : ∃ v, cs0[0]? = some v := ⟨_, List.getElem?_eq_getElem (by omega)⟩
  have hcell := hg0 0 h0
  rw [hv] at hcell
  obtain ⟨b, off, spot⟩ := p
  have hsp : spot = none := by simpa [Addr.add] using World.cell?_spot hcell
  subst hsp
  simp only [add_none, Nat.zero_mul, Nat.add_zero] at hcell
  obtain ⟨acs, T, fr, hb⟩ : ∃ acs T fr, w.heap[b]? = some (.cells acs T fr) := by
   unfold World.cell? at hcell
   cases hq : w.heap[b]? with
   | none => simp [hq] at hcell
   | some ob =>
    cases ob with
    | cells acs T fr => exact ⟨acs, T, fr, rfl⟩
    | _ => simp [hq] at hcell
  refine ⟨b, off, acs, T, fr, n, rfl, hb, hlc, hcm, fun i hi => ?_⟩
  obtain ⟨cs, y, hcs, hy⟩ := hel i hi
  obtain ⟨_, hl, hg⟩ := cells?_get hcs
  have hget : ∀ j, j < sz → acs[off + i * sz + j]? = cs[j]? := by
   intro j hj
   have := hg j hj
   simp only [add_none] at this
   rw [cell_of_row w b _ acs T fr hb] at this
   exact this
  have hsize : off + i * sz + sz ≤ acs.size := by
   have := hget (sz - 1) (by omega)
   rw [List.getElem?_eq_getElem (by omega)] at this
   have h3 := Array.getElem?_eq_some_iff.1 this
   obtain ⟨h3, _⟩ := h3
   omega
  refine ⟨cs, y, hl, hy, hsize, ?_⟩
  apply Array.ext_getElem?
  intro j
  by_cases hj : j < sz
  ·rw [Array.getElem?_extract, if_pos (by omega), hget j hj]
   simp
  ·rw [Array.getElem?_extract, if_neg (by omega)]
   simp; omega
end
theorem lst_2 {cs : List Value} (h : cs.length = 2) : ∃ c0 c1, cs = [c0, c1] := by
 match cs, h with
 | [_, _], _ => exact ⟨_, _, rfl⟩
theorem lst_4 {cs : List Value} (h : cs.length = 4) : ∃ c0 c1 c2 c3, cs = [c0, c1, c2, c3] := by
 match cs, h with
 | [_, _, _, _], _ => exact ⟨_, _, _, _, rfl⟩
theorem lst_7 {cs : List Value} (h : cs.length = 7) : ∃ c0 c1 c2 c3 c4 c5 c6, cs = [c0, c1, c2, c3, c4, c5, c6] := by
 match cs, h with
 | [_, _, _, _, _, _, _], _ => exact ⟨_, _, _, _, _, _, _, rfl⟩
theorem lst_11 {cs : List Value} (h : cs.length = 11) : ∃ c0 c1 c2 c3 c4 c5 c6 c7 c8 c9 c10, cs = [c0, c1, c2, c3, c4, c5, c6, c7, c8, c9, c10] := by
 match cs, h with
 | [_, _, _, _, _, _, _, _, _, _, _], _ => exact ⟨_, _, _, _, _, _, _, _, _, _, _, rfl⟩
section
variable {H : Type} {enc : TypeId × Value → H} {P : Program} {w : World} {base : Nat} {spare : Nat → Bool} {held : Bool}
theorem trod_elems {n : Nat} {t e : TypeId} {fuel : Nat} {cs : List Value} {x : DataW H × List MemPlace} (ht : P.underlying t = some (.array n e)) (h : DataW.trod enc P w base spare held fuel t cs = some x) :
  ∃ m, fuel = m + 1 ∧ cs.length = P.cellsOf t ∧ ∀ i, i < n → ∃ y, DataW.trod enc P w base spare held m e ((cs.drop (i * P.cellsOf e)).take (P.cellsOf e)) = some y := by
 obtain ⟨xs, m, h1, _, h3, h4, h5⟩ := DataW.trod_array ht h
 exact ⟨m, h1, h3, fun i hi => ⟨xs[i]'(by omega), by rw [h5 i hi]; exact List.getElem?_eq_getElem (by omega)⟩⟩
theorem trod_slice_cell {t e : TypeId} {fuel : Nat} {c : Value} {y : DataW H × List MemPlace} (ht : P.underlying t = some (.slice e)) (h : DataW.trod enc P w base spare held fuel t [c] = some y) : ∃ a len cap, c = .slice a len cap := by
 cases fuel with
 | zero => simp [DataW.trod] at h
 | succ f =>
  unfold DataW.trod at h
  rw [ht] at h
  cases c <;> simp_all
theorem trod_int_any {t : TypeId} {k : IntKind} {fuel : Nat} {cs : List Value} {y : DataW H × List MemPlace} (ht : P.underlying t = some (.int k)) (h : DataW.trod enc P w base spare held fuel t cs = some y) : ∃ n, cs = [.int k n] ∧ (Lit.int k n).wf = true := by
 have hc : ∃ c, cs = [c] := by
  cases fuel with
  | zero => simp [DataW.trod] at h
  | succ f =>
   unfold DataW.trod at h
   rw [ht] at h
   match cs, h with
   | [c], _ => exact ⟨c, rfl⟩
   | [], h => simp at h
   | _ :: _ :: _, h => simp at h
 obtain ⟨c, rfl⟩ := hc
 obtain ⟨n, rfl, hw⟩ := h4u ht h
 exact ⟨n, rfl, hw⟩
def ROnly (w : World) (B : List Blk) : Prop := ∀ p ∈ B, p.wr = false ∧ w.heap[p.b]? = some p.o
theorem ROnly.nil {w : World} : ROnly w [] := by simp [ROnly]
theorem ROnly.app {w : World} {B C : List Blk} (h : ROnly w B) (h2 : ROnly w C) : ROnly w (B ++ C) := fun p hp => by
 rcases List.mem_append.1 hp with hp | hp
 ·exact h p hp
 ·exact h2 p hp
theorem HP.ro {w : World} {B : List Blk} (h : ROnly w B) : HP [] w w B := HP.read h
theorem Sli.app {L M : List Blk} {a : Option Addr} {len size : Nat} {cells : List Value} (h : Sli L a len size cells) : Sli (L ++ M) a len size cells := h.left
theorem slice_list {X : Type} {cells : X → List Value} {ok : X → Prop} {t e : TypeId} {sz fuel : Nat} {a : Option Addr} {len cap : Nat} {x : DataW H × List MemPlace} (ht : P.underlying t = some (.slice e)) (hsz : P.cellsOf e = sz) (h0 : 0 < sz)
  (hcl : ∀ x, ok x → (cells x).length = sz) (hel : ∀ n cs y, DataW.trod enc P w base spare held n e cs = some y → ∃ x, cs = cells x ∧ ok x) (h : DataW.trod enc P w base spare held fuel t [.slice a len cap] = some x) :
  ∃ (l : List X) (B : List Blk), l.length = len ∧ (∀ x ∈ l, ok x) ∧ Sli B a len sz (l.flatMap cells) ∧ ROnly w B ∧ len ≤ maxLen ∧ len ≤ cap ∧ cap ≤ maxLen := by
 by_cases hl : 0 < len
 ·obtain ⟨b, off, acs, T, fr, n, rfl, hb, h1, h2, hall⟩ := slice_block ht hsz h0 h hl
  have key : ∀ m, m ≤ len → ∃ l : List X, l.length = m ∧ (∀ x ∈ l, ok x) ∧ (acs.toList.drop off).take (m * sz) = l.flatMap cells := by
   intro m
   induction m with
   | zero => intro _; exact ⟨[], rfl, by simp, by simp⟩
   | succ m ih =>
    intro hm
    obtain ⟨l, e1, e2, e3⟩ := ih (by omega)
    obtain ⟨cs, y, hc1, hc2, hc3, hc4⟩ := hall m (by omega)
    obtain ⟨x, rfl, hx⟩ := hel _ _ _ hc2
    refine ⟨l ++ [x], by simp [e1], ?_, ?_⟩
    ·intro z hz
     rcases List.mem_append.1 hz with hz | hz
     ·exact e2 z hz
     ·rw [List.mem_singleton.1 hz]; exact hx
    ·rw [List.flatMap_append, ← e3, Nat.add_mul, Nat.one_mul, List.take_add, List.drop_drop]
     congr 1
     have := congrArg Array.toList hc4
     simp only [Array.toList_extract, List.extract_eq_take_drop] at this
     rw [Nat.add_sub_cancel_left] at this
     simpa using this
  obtain ⟨l, e1, e2, e3⟩ := key len (Nat.le_refl _)
  obtain ⟨_, _, _, _, hc3, _⟩ := hall (len - 1) (by omega)
  have hmul : (len - 1) * sz + sz = len * sz := by
   obtain ⟨q, rfl⟩ : ∃ q, len = q + 1 := ⟨len - 1, by omega⟩
   rw [Nat.add_sub_cancel, Nat.add_mul, Nat.one_mul]
  refine ⟨l, [⟨false, b, .cells acs T fr⟩], e1, e2, Sli.of (i:=0) rfl (by omega) e3, ?_, by omega, by omega, by omega⟩
  intro p hp
  rw [List.mem_singleton.1 hp]
  exact ⟨rfl, hb⟩
 ·rcases trod_slice ht h with ⟨rfl, rfl, rfl⟩ | ⟨p, n, rfl, _, h2, h3, _⟩
  ·exact ⟨[], [], rfl, by simp, ⟨by simp, .inl rfl⟩, ROnly.nil, by omega, by omega, by omega⟩
  ·obtain rfl : len = 0 := by omega
   exact ⟨[], [], rfl, by simp, ⟨by simp, .inl rfl⟩, ROnly.nil, by omega, by omega, by omega⟩
end
def numT (n : Int) : List UInt8 := decF (max n 0).toNat
theorem max_lt {n : Int} (h : n < 9223372036854775808) : (max n 0).toNat < 18446744073709551616 := by omega
theorem max_cast (n : Int) : (((max n 0).toNat : Nat) : Int) = max n 0 := by omega
theorem vnum_c {S w0 L} (n : Int) (h : -9223372036854775808 ≤ n ∧ n < 9223372036854775808) : Fn Tryz.prog 30 #[.int .i64 n] S w0 L fun v L' => v = .string (mB8 (numT n)) ∧ L = L' := by
 have hp := fun (L : List Blk) => printed_c (max n 0).toNat (max_lt h.2) S w0 L
 rw [max_cast] at hp
 refine Fn1 Tryz.func30 Tryz.ntmps30 rfl rfl ?_
 repeat' (first | refine h2m ?_ | refine h0d ?_ | refine h0u ?_ | refine h1h ?_ | refine h1f ?_ | refine h1g ?_ | refine h0s ?_ | refine h0t ?_ | refine h1l ?_ | refine h1k ?_ | refine h1j ?_ | refine h1i rfl ?_ | refine h1a ?_ | refine h1u ?_ | refine h1v ?_ | refine h2n ?_ | refine h0v rfl ?_ | refine h0w rfl ?_ | (refine gR 0 ?_ <;> (try refine h0a ?_; (first | (refine q_k (h0b rfl) ?_))) <;> (try refine h0d ?_)) | (refine gR 1 ?_ <;> (try refine h0a ?_; (first | (refine q_k (h0c rfl) ?_))) <;> (try refine h0a ?_; (first | (refine q_k (h1d rfl (fun _ => BigFrame.builtin_max ..) r_max) ?_))) <;> (try refine h0a ?_; (first | (refine q_k (by apply h4f; exact rfl; (focus (apply h4d Tryz.underlying3 Tryz.underlying59; first | (refine IntWalk.i64_in _ ?_; omega) | (refine IntWalk.u8_in _ ?_; omega) | (refine IntWalk.u16_in _ ?_; omega) | (refine IntWalk.u32_in _ ?_; omega) | (refine IntWalk.u64_in _ ?_; omega) | (refine IntWalk.i32_in _ ?_; omega) | exact rfl))) ?_))) <;> (try refine h0a ?_; (first | (first | (refine q_c 43 (c:=by apply hp) (h:=?_); rintro _ _ ⟨rfl, rfl⟩; (try simp only [zzE, zzF]))))) <;> (try refine h0a ?_; (first | (refine q_k (h0b rfl) ?_))) <;> (try refine h0d ?_)) | ((first | (refine h0o rfl (fun hc => ?_) (fun hc => ?_)) | (refine h0x rfl (fun hc => ?_) (fun hc => ?_)) | (refine h1r rfl (fun hc => ?_) (fun hc => ?_))) <;> (try subst hc)))
 (refine h2q Tryz.results30 (.tmp rfl .nil) ?_)
 exact ⟨_, ⟨rfl, rfl⟩, by intro w H; refine H.sub ?_; (try simp only [zzC, zzN]); repeat (first | exact List.Sublist.refl _ | refine List.Sublist.cons_cons _ ?_ | refine List.Sublist.cons _ ?_ | refine List.sublist_append_of_sublist_right ?_)⟩
theorem lnum_c {S w0 L} (n : Int) (h : -9223372036854775808 ≤ n ∧ n < 9223372036854775808) : Fn Tryz.prog 10 #[.int .i64 n] S w0 L fun v L' => v = .string (mB8 (numT n)) ∧ L = L' := by
 have hp := fun (L : List Blk) => rprinted_c (S:=S) (w0:=w0) (L:=L) (max n 0).toNat (max_lt h.2)
 rw [max_cast] at hp
 refine Fn1 Tryz.func10 Tryz.ntmps10 rfl rfl ?_
 repeat' (first | refine h2m ?_ | refine h0d ?_ | refine h0u ?_ | refine h1h ?_ | refine h1f ?_ | refine h1g ?_ | refine h0s ?_ | refine h0t ?_ | refine h1l ?_ | refine h1k ?_ | refine h1j ?_ | refine h1i rfl ?_ | refine h1a ?_ | refine h1u ?_ | refine h1v ?_ | refine h2n ?_ | refine h0v rfl ?_ | refine h0w rfl ?_ | (refine gR 0 ?_ <;> (try refine h0a ?_; (first | (refine q_k (h0b rfl) ?_))) <;> (try refine h0d ?_)) | (refine gR 1 ?_ <;> (try refine h0a ?_; (first | (refine q_k (h0c rfl) ?_))) <;> (try refine h0a ?_; (first | (refine q_k (h1d rfl (fun _ => BigFrame.builtin_max ..) r_max) ?_))) <;> (try refine h0a ?_; (first | (refine q_k (by apply h4f; exact rfl; (focus (apply h4d Tryz.underlying3 Tryz.underlying59; first | (refine IntWalk.i64_in _ ?_; omega) | (refine IntWalk.u8_in _ ?_; omega) | (refine IntWalk.u16_in _ ?_; omega) | (refine IntWalk.u32_in _ ?_; omega) | (refine IntWalk.u64_in _ ?_; omega) | (refine IntWalk.i32_in _ ?_; omega) | exact rfl))) ?_))) <;> (try refine h0a ?_; (first | (first | (refine q_c 14 (c:=by apply hp) (h:=?_); rintro _ _ ⟨rfl, rfl⟩; (try simp only [zzE, zzF]))))) <;> (try refine h0a ?_; (first | (refine q_k (h0b rfl) ?_))) <;> (try refine h0d ?_)) | ((first | (refine h0o rfl (fun hc => ?_) (fun hc => ?_)) | (refine h0x rfl (fun hc => ?_) (fun hc => ?_)) | (refine h1r rfl (fun hc => ?_) (fun hc => ?_))) <;> (try subst hc)))
 (refine h2q Tryz.results10 (.tmp rfl .nil) ?_)
 exact ⟨_, ⟨rfl, rfl⟩, by intro w H; refine H.sub ?_; (try simp only [zzC, zzN]); repeat (first | exact List.Sublist.refl _ | refine List.Sublist.cons_cons _ ?_ | refine List.Sublist.cons _ ?_ | refine List.sublist_append_of_sublist_right ?_)⟩
def okB (b : UInt8) : Prop := 32 < b.toNat ∧ b.toNat < 127 ∧ b.toNat ≠ 35
instance : DecidablePred okB := fun b => by unfold okB; infer_instance
def okW (w : List UInt8) : Prop := w ≠ [] ∧ ∀ b ∈ w, okB b
def spc (x : List UInt8) (xs : List (List UInt8)) : List UInt8 := x ++ xs.flatMap fun y => 32 :: y
def whoF (w : Nat) (f : Bool) : List UInt8 := decF w ++ if f = true then [33] else []
theorem names_w : (clls.all fun m => !(lB m.name).isEmpty && (lB m.name).all (fun b => decide (okB b)) && decide ((lB m.name).length ≤ 14)) = true := by kernel_rfl
theorem name_w {m : Cll} (h : m ∈ clls) : okW (lB m.name) ∧ (lB m.name).length ≤ 14 := by
 have h2 := List.all_eq_true.1 names_w m h
 simp only [Bool.and_eq_true, Bool.not_eq_true', List.all_eq_true, decide_eq_true_eq] at h2
 exact ⟨⟨fun e => by rw [e] at h2; exact absurd h2.1.1 (by decide), h2.1.2⟩, h2.2⟩
def CallD.txt (c : CallD) (i : Nat) : ByteArray := if i = 0 then c.t0 else c.t1
def CallD.nm (c : CallD) (i : Nat) : Nat := (if i = 0 then c.n0 else c.n1).toNat
def argT (c : CallD) (i : Nat) : List UInt8 := if tsel (clsT c.num) i = true then h5s (lB (c.txt i)) else decF (c.nm i)
def argsT (c : CallD) (k : Nat) : List (List UInt8) := (List.range k).map (argT c)
def lineC (c : CallD) (m : Cll) : List UInt8 := spc (whoF c.task.toNat c.frn) (lB m.name :: argsT c m.args.toNat)
def lnO (c : CallD) : Option (List UInt8) := (cnumF c.num clls).map (lineC c)
end Go.Proofs.YtnpnjicaigdjjaaGreat
