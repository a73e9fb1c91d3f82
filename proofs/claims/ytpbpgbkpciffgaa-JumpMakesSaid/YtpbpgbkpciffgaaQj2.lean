/- Part 2 of what the last text of this claim leans on: rules of walks, contracts, plain facts. Conditions: those of each statement. -/
import Derived.Test.YtpbpgbkpciffgaaQj1
set_option maxRecDepth 100000
namespace Go.Proofs.Ytpbpgbkpciffgaa
open Go Go.RowKit
theorem sz_3 : (Try.prog.info? 3).map (·.size) = some 1 := by kernel_rfl
theorem sz_5 : (Try.prog.info? 5).map (·.size) = some 1 := by kernel_rfl
theorem sz_22 : (Try.prog.info? 22).map (·.size) = some 1 := by kernel_rfl
theorem sz_23 : (Try.prog.info? 23).map (·.size) = some 1 := by kernel_rfl
theorem sz_24 : (Try.prog.info? 24).map (·.size) = some 6 := by kernel_rfl
theorem sz_26 : (Try.prog.info? 26).map (·.size) = some 9 := by kernel_rfl
theorem h4f : (Try.prog.info? 38).map (·.size) = some 2 := by kernel_rfl
theorem h4o : (Try.prog.info? 41).map (·.size) = some 1 := by kernel_rfl
theorem h2n : (Try.prog.info? 43).map (·.size) = some 4 := by kernel_rfl
theorem sz_82 : (Try.prog.info? 82).map (·.size) = some 1 := by kernel_rfl
theorem h3q : (Try.prog.info? 88).map (·.size) = some 7 := by kernel_rfl
theorem sz_136 : (Try.prog.info? 136).map (·.size) = some 16 := by kernel_rfl
theorem sz_138 : (Try.prog.info? 138).map (·.size) = some 30 := by kernel_rfl
theorem sz_142 : (Try.prog.info? 142).map (·.size) = some 6 := by kernel_rfl
theorem sz_143 : (Try.prog.info? 143).map (·.size) = some 16 := by kernel_rfl
theorem h5d : (Try.prog.info? 149).map (·.size) = some 4 := by kernel_rfl
theorem sz_198 : (Try.prog.info? 198).map (·.size) = some 64 := by kernel_rfl
theorem fo_26_0 : FldOff Try.prog 26 0 0 := .of Try.underlying26 rfl (by kernel_rfl) rfl
theorem fo_26_1 : FldOff Try.prog 26 1 1 := .of Try.underlying26 rfl (by kernel_rfl) rfl
theorem fo_26_2 : FldOff Try.prog 26 2 2 := .of Try.underlying26 rfl (by kernel_rfl) rfl
theorem fo_26_3 : FldOff Try.prog 26 3 3 := .of Try.underlying26 rfl (by kernel_rfl) rfl
theorem h1p : FldOff Try.prog 43 0 0 := .of Try.underlying43 rfl (by kernel_rfl) rfl
theorem h6b : FldOff Try.prog 43 1 1 := .of Try.underlying43 rfl (by kernel_rfl) rfl
theorem h6a : FldOff Try.prog 43 2 2 := .of Try.underlying43 rfl (by kernel_rfl) rfl
theorem h1o : FldOff Try.prog 43 3 3 := .of Try.underlying43 rfl (by kernel_rfl) rfl
theorem h2z : FldOff Try.prog 88 0 0 := .of Try.underlying88 rfl (by kernel_rfl) rfl
theorem h4d : FldOff Try.prog 88 1 1 := .of Try.underlying88 rfl (by kernel_rfl) rfl
theorem fo_88_2 : FldOff Try.prog 88 2 2 := .of Try.underlying88 rfl (by kernel_rfl) rfl
theorem h3r : FldOff Try.prog 88 3 3 := .of Try.underlying88 rfl (by kernel_rfl) rfl
theorem fo_114_2 : FldOff Try.prog 114 2 0 := .of Try.underlying114 rfl (by kernel_rfl) rfl
theorem h3n : FldOff Try.prog 116 0 0 := .of Try.underlying116 rfl (by kernel_rfl) rfl
theorem fo_116_1 : FldOff Try.prog 116 1 1 := .of Try.underlying116 rfl (by kernel_rfl) rfl
theorem fo_116_2 : FldOff Try.prog 116 2 2 := .of Try.underlying116 rfl (by kernel_rfl) rfl
theorem fo_127_0 : FldOff Try.prog 127 0 0 := .of Try.underlying127 rfl (by kernel_rfl) rfl
theorem fo_127_1 : FldOff Try.prog 127 1 1 := .of Try.underlying127 rfl (by kernel_rfl) rfl
theorem h2q : FldOff Try.prog 134 0 0 := .of Try.underlying134 rfl (by kernel_rfl) rfl
theorem fo_134_1 : FldOff Try.prog 134 1 1 := .of Try.underlying134 rfl (by kernel_rfl) rfl
theorem h1l : FldOff Try.prog 138 0 0 := .of Try.underlying138 rfl (by kernel_rfl) rfl
theorem h3x : FldOff Try.prog 138 1 1 := .of Try.underlying138 rfl (by kernel_rfl) rfl
theorem h5o : FldOff Try.prog 138 2 2 := .of Try.underlying138 rfl (by kernel_rfl) rfl
theorem h2h : FldOff Try.prog 138 3 18 := .of Try.underlying138 rfl (by kernel_rfl) rfl
theorem fo_138_4 : FldOff Try.prog 138 4 19 := .of Try.underlying138 rfl (by kernel_rfl) rfl
theorem h4h : FldOff Try.prog 138 5 28 := .of Try.underlying138 rfl (by kernel_rfl) rfl
theorem h3p : FldOff Try.prog 138 6 29 := .of Try.underlying138 rfl (by kernel_rfl) rfl
theorem h4t : FldOff Try.prog 142 0 0 := .of Try.underlying142 rfl (by kernel_rfl) rfl
theorem fo_142_1 : FldOff Try.prog 142 1 1 := .of Try.underlying142 rfl (by kernel_rfl) rfl
theorem fo_142_2 : FldOff Try.prog 142 2 2 := .of Try.underlying142 rfl (by kernel_rfl) rfl
theorem fo_142_3 : FldOff Try.prog 142 3 3 := .of Try.underlying142 rfl (by kernel_rfl) rfl
theorem fo_142_4 : FldOff Try.prog 142 4 4 := .of Try.underlying142 rfl (by kernel_rfl) rfl
theorem h3a : FldOff Try.prog 149 0 0 := .of Try.underlying149 rfl (by kernel_rfl) rfl
theorem fo_149_1 : FldOff Try.prog 149 1 1 := .of Try.underlying149 rfl (by kernel_rfl) rfl
theorem fo_149_2 : FldOff Try.prog 149 2 2 := .of Try.underlying149 rfl (by kernel_rfl) rfl
theorem h4p : FldOff Try.prog 149 3 3 := .of Try.underlying149 rfl (by kernel_rfl) rfl
theorem inf_41 : (Try.prog.info? 41).map (fun i => (i.zero, i.size, i.bytes)) = some (some (Value.int .u16 0), 1, 2) := by kernel_rfl
theorem inf_41_i : Try.prog.info? 41 = some ((Try.prog.info? 41).getD default) := (info_of inf_41).1
theorem inf_41_z : ((Try.prog.info? 41).getD default).zero = some (Value.int .u16 0) := (info_of inf_41).2.1
theorem inf_41_s : ((Try.prog.info? 41).getD default).size = 1 := (info_of inf_41).2.2.1
theorem inf_41_b : ((Try.prog.info? 41).getD default).bytes = 2 := (info_of inf_41).2.2.2
theorem inf_43 : (Try.prog.info? 43).map (fun i => (i.zero, i.size, i.bytes)) = some (some (Value.agg #[Value.int .u16 0, Value.int .u8 0, Value.int .u8 0, Value.int .u32 0]), 4, 8) := by kernel_rfl
theorem h3l : Try.prog.info? 43 = some ((Try.prog.info? 43).getD default) := (info_of inf_43).1
theorem h3j : ((Try.prog.info? 43).getD default).zero = some (Value.agg #[Value.int .u16 0, Value.int .u8 0, Value.int .u8 0, Value.int .u32 0]) := (info_of inf_43).2.1
theorem h3k : ((Try.prog.info? 43).getD default).size = 4 := (info_of inf_43).2.2.1
theorem h3m : ((Try.prog.info? 43).getD default).bytes = 8 := (info_of inf_43).2.2.2
theorem inf_88 : (Try.prog.info? 88).map (fun i => (i.zero, i.size, i.bytes)) = some (some (Value.agg #[Value.int .u8 0, Value.int .i64 0, Value.int .i64 0, Value.int .u16 0, Value.int .u8 0, Value.int .u8 0, Value.int .u32 0]), 7, 32) := by kernel_rfl
theorem h3v : Try.prog.info? 88 = some ((Try.prog.info? 88).getD default) := (info_of inf_88).1
theorem h3t : ((Try.prog.info? 88).getD default).zero = some (Value.agg #[Value.int .u8 0, Value.int .i64 0, Value.int .i64 0, Value.int .u16 0, Value.int .u8 0, Value.int .u8 0, Value.int .u32 0]) := (info_of inf_88).2.1
theorem h3u : ((Try.prog.info? 88).getD default).size = 7 := (info_of inf_88).2.2.1
theorem h3w : ((Try.prog.info? 88).getD default).bytes = 32 := (info_of inf_88).2.2.2
theorem iand7 (c : Int) (h : 0 ≤ c) : iand c 7 = c % 8 := iand_mask c 3 h
theorem h5i {S w0 L} (c : Int) (h : 0 ≤ c ∧ c < 65536) : Fn Try.prog 51 #[.int .u16 c] S w0 L fun v L' => v = .int .u16 (c % 8) ∧ L = L' := by
 refine Fn1 Try.func51 Try.ntmps51 rfl rfl ?_
 repeat' (first | refine h1k ?_ | refine h0b ?_ | refine h0k ?_ | refine h1g ?_ | refine h1y ?_ | refine h2o ?_ | refine h1m ?_ | refine h1n ?_ | refine h0y ?_ | refine h1u ?_ | refine h1t ?_ | refine h2r rfl ?_ | refine h0q ?_ | refine h1j ?_ | refine h2p ?_ | refine h2v ?_ | refine h0o rfl ?_ | refine h0n rfl ?_ | (refine gR 0 ?_ <;> (try refine h0a ?_; (first | (refine q_k (h0d rfl) ?_))) <;> (try refine h0b ?_)) | (refine gR 1 ?_ <;> (try refine h0a ?_; (first | (refine q_k (h0c rfl) ?_))) <;> (try refine h0a ?_; (first | (refine q_k (q_b (r:=by refine h5e ?_ ?_; (focus (refine ⟨rfl, ⟨?_, ?_⟩⟩; (omega); (focus (simp only [IntKind.bits]; omega)))); (focus (refine ⟨rfl, ⟨?_, ?_⟩⟩; (omega); (focus (simp only [IntKind.bits]; omega)))))) ?_))) <;> (try refine h0a ?_; (first | (refine q_k (h0d rfl) ?_))) <;> (try refine h0b ?_)) | ((first | (refine h1w rfl (fun hc => ?_) (fun hc => ?_)) | (refine h2e rfl (fun hc => ?_) (fun hc => ?_)) | (refine h3i rfl (fun hc => ?_) (fun hc => ?_))) <;> (try subst hc)))
 refine h2k Try.results51 (.tmp rfl .nil) ⟨L, ⟨?_, rfl⟩, fun _ H => H⟩
 rw [iand7 c h.1]; rfl
def opOf (c : Int) : Int := h6e c (ior (iand c 8) 7)
def h6i (c : Int) : Bool :=
 c = 32 || c = 0 || c = 96 || c = 128 || c = 1 || c = 97 || c = 129 || c = 2 || c = 3 || c = 6 || c = 22 || c = 7 || c = 135 || c = 5 || c = 132 ||
 ((opOf c = 0 || opOf c = 16 || opOf c = 32 || opOf c = 48 || opOf c = 64 || opOf c = 80 || opOf c = 96 || opOf c = 112 || opOf c = 160) && c % 8 = 4) ||
 ((opOf c = 16 || opOf c = 32 || opOf c = 48 || opOf c = 64) && c % 8 = 5)
set_option maxHeartbeats 2000000 in
theorem known_c {S w0 L} (c : Int) (h : 0 ≤ c ∧ c < 65536) : Fn Try.prog 73 #[.int .u16 c] S w0 L fun v L' => v = .bool (h6i c) ∧ L = L' := by
 have h1 := iand_le' c 8 (by omega)
 have h2 := iand_le c 8 (by omega)
 have h3 := ior_lt (iand c 8) 7 16 (by omega) (by omega)
 refine Fn1 Try.func73 Try.ntmps73 rfl rfl ?_
 repeat' (first | refine h1k ?_ | refine h0b ?_ | refine h0k ?_ | refine h1g ?_ | refine h1y ?_ | refine h2o ?_ | refine h1m ?_ | refine h1n ?_ | refine h0y ?_ | refine h1u ?_ | refine h1t ?_ | refine h2r rfl ?_ | refine h0q ?_ | refine h1j ?_ | refine h2p ?_ | refine h2v ?_ | refine h0o rfl ?_ | refine h0n rfl ?_ | (refine gR 0 ?_ <;> (try refine h0a ?_; (first | (refine q_k (h0d rfl) ?_))) <;> (try refine h0b ?_)) | (refine gR 1 ?_ <;> (try refine h0a ?_; (first | (refine q_k (h0c rfl) ?_))) <;> (try refine h0b ?_)) | (refine gR 2 ?_ <;> (try refine h0a ?_; (first | (refine q_k (by exact q_b (r:=by first | (refine h0g ?_; first | rfl | (with_reducible assumption) | (decide; done)) | (exact h0e q_o) | exact h1b)) ?_))) <;> (try refine h0a ?_; (first | (refine q_k (h0d rfl) ?_))) <;> (try refine h0b ?_)) | (refine gR 3 ?_ <;> (try refine h0a ?_; (first | (refine q_k (by exact q_b (r:=by first | (refine h0g ?_; first | rfl | (with_reducible assumption) | (decide; done)) | (exact h0e q_o) | exact h1b)) ?_))) <;> (try refine h0a ?_; (first | (refine q_k (h0d rfl) ?_))) <;> (try refine h0b ?_)) | (refine gR 4 ?_ <;> (try refine h0a ?_; (first | (refine q_k (by exact q_b (r:=by first | (refine h0g ?_; first | rfl | (with_reducible assumption) | (decide; done)) | (exact h0e q_o) | exact h1b)) ?_))) <;> (try refine h0a ?_; (first | (refine q_k (h0d rfl) ?_))) <;> (try refine h0b ?_)) | (refine gR 5 ?_ <;> (try refine h0a ?_; (first | (refine q_k (by exact q_b (r:=by first | (refine h0g ?_; first | rfl | (with_reducible assumption) | (decide; done)) | (exact h0e q_o) | exact h1b)) ?_))) <;> (try refine h0a ?_; (first | (refine q_k (h0d rfl) ?_))) <;> (try refine h0b ?_)) | (refine gR 6 ?_ <;> (try refine h0a ?_; (first | (refine q_k (by exact q_b (r:=by first | (refine h0g ?_; first | rfl | (with_reducible assumption) | (decide; done)) | (exact h0e q_o) | exact h1b)) ?_))) <;> (try refine h0a ?_; (first | (refine q_k (h0d rfl) ?_))) <;> (try refine h0b ?_)) | (refine gR 7 ?_ <;> (try refine h0a ?_; (first | (refine q_k (by exact q_b (r:=by first | (refine h0g ?_; first | rfl | (with_reducible assumption) | (decide; done)) | (exact h0e q_o) | exact h1b)) ?_))) <;> (try refine h0a ?_; (first | (refine q_k (h0d rfl) ?_))) <;> (try refine h0b ?_)) | (refine gR 8 ?_ <;> (try refine h0a ?_; (first | (refine q_k (by exact q_b (r:=by first | (refine h0g ?_; first | rfl | (with_reducible assumption) | (decide; done)) | (exact h0e q_o) | exact h1b)) ?_))) <;> (try refine h0a ?_; (first | (refine q_k (h0d rfl) ?_))) <;> (try refine h0b ?_)) | (refine gR 9 ?_ <;> (try refine h0a ?_; (first | (refine q_k (by exact q_b (r:=by first | (refine h0g ?_; first | rfl | (with_reducible assumption) | (decide; done)) | (exact h0e q_o) | exact h1b)) ?_))) <;> (try refine h0a ?_; (first | (refine q_k (h0d rfl) ?_))) <;> (try refine h0b ?_)) | (refine gR 10 ?_ <;> (try refine h0a ?_; (first | (refine q_k (by exact q_b (r:=by first | (refine h0g ?_; first | rfl | (with_reducible assumption) | (decide; done)) | (exact h0e q_o) | exact h1b)) ?_))) <;> (try refine h0a ?_; (first | (refine q_k (h0d rfl) ?_))) <;> (try refine h0b ?_)) | (refine gR 11 ?_ <;> (try refine h0a ?_; (first | (refine q_k (by exact q_b (r:=by first | (refine h0g ?_; first | rfl | (with_reducible assumption) | (decide; done)) | (exact h0e q_o) | exact h1b)) ?_))) <;> (try refine h0a ?_; (first | (refine q_k (h0d rfl) ?_))) <;> (try refine h0b ?_)) | (refine gR 12 ?_ <;> (try refine h0a ?_; (first | (refine q_k (by exact q_b (r:=by first | (refine h0g ?_; first | rfl | (with_reducible assumption) | (decide; done)) | (exact h0e q_o) | exact h1b)) ?_))) <;> (try refine h0a ?_; (first | (refine q_k (h0d rfl) ?_))) <;> (try refine h0b ?_)) | (refine gR 13 ?_ <;> (try refine h0a ?_; (first | (refine q_k (by exact q_b (r:=by first | (refine h0g ?_; first | rfl | (with_reducible assumption) | (decide; done)) | (exact h0e q_o) | exact h1b)) ?_))) <;> (try refine h0a ?_; (first | (refine q_k (h0d rfl) ?_))) <;> (try refine h0b ?_)) | (refine gR 14 ?_ <;> (try refine h0a ?_; (first | (refine q_k (by exact q_b (r:=by first | (refine h0g ?_; first | rfl | (with_reducible assumption) | (decide; done)) | (exact h0e q_o) | exact h1b)) ?_))) <;> (try refine h0a ?_; (first | (refine q_k (h0d rfl) ?_))) <;> (try refine h0b ?_)) | (refine gR 15 ?_ <;> (try refine h0a ?_; (first | (refine q_k (by exact q_b (r:=by first | (refine h0g ?_; first | rfl | (with_reducible assumption) | (decide; done)) | (exact h0e q_o) | exact h1b)) ?_))) <;> (try refine h0a ?_; (first | (refine q_k (h0d rfl) ?_))) <;> (try refine h0b ?_)) | (refine gR 16 ?_ <;> (try refine h0a ?_; (first | (refine q_k (by exact q_b (r:=by first | (refine h0g ?_; first | rfl | (with_reducible assumption) | (decide; done)) | (exact h0e q_o) | exact h1b)) ?_))) <;> (try refine h0a ?_; (first | (refine q_k (h0d rfl) ?_))) <;> (try refine h0b ?_)) | (refine gR 17 ?_ <;> (try refine h0a ?_; (first | (refine q_k (h0d rfl) ?_))) <;> (try refine h0b ?_)) | (refine gR 18 ?_ <;> (try refine h0a ?_; (first | (refine q_k (h0c rfl) ?_))) <;> (try refine h0a ?_; (first | (refine q_k (q_b (r:=by refine h5e ?_ ?_; (focus (refine ⟨rfl, ⟨?_, ?_⟩⟩; (omega); (focus (simp only [IntKind.bits]; omega)))); (focus (refine ⟨rfl, ⟨?_, ?_⟩⟩; (omega); (focus (simp only [IntKind.bits]; omega)))))) ?_))) <;> (try refine h0a ?_; (first | (refine q_k (h0d rfl) ?_))) <;> (try refine h0b ?_)) | (refine gR 19 ?_ <;> (try refine h0a ?_; (first | (refine q_k (h0c rfl) ?_))) <;> (try refine h0a ?_; (first | (refine q_k (h0c rfl) ?_))) <;> (try refine h0a ?_; (first | (refine q_k (q_b (r:=by refine rb_or ?_ ?_; (focus (refine ⟨rfl, ⟨?_, ?_⟩⟩; (omega); (focus (simp only [IntKind.bits]; omega)))); (focus (refine ⟨rfl, ⟨?_, ?_⟩⟩; (omega); (focus (simp only [IntKind.bits]; omega)))))) ?_))) <;> (try refine h0a ?_; (first | (refine q_k (q_b (r:=by refine rb_andn ?_ ?_; (focus (refine ⟨rfl, ⟨?_, ?_⟩⟩; (omega); (focus (simp only [IntKind.bits]; omega)))); (focus (refine ⟨rfl, ⟨?_, ?_⟩⟩; (omega); (focus (simp only [IntKind.bits]; omega)))))) ?_))) <;> (try refine h0b ?_)) | (refine gR 20 ?_ <;> (try refine h0a ?_; (first | (refine q_k (by exact q_b (r:=by first | (refine h0g ?_; first | rfl | (with_reducible assumption) | (decide; done)) | (exact h0e q_o) | exact h1b)) ?_))) <;> (try refine h0a ?_; (first | (refine q_k (h0d rfl) ?_))) <;> (try refine h0b ?_)) | (refine gR 21 ?_ <;> (try refine h0a ?_; (first | (refine q_k (by exact q_b (r:=by first | (refine h0g ?_; first | rfl | (with_reducible assumption) | (decide; done)) | (exact h0e q_o) | exact h1b)) ?_))) <;> (try refine h0a ?_; (first | (refine q_k (h0d rfl) ?_))) <;> (try refine h0b ?_)) | (refine gR 22 ?_ <;> (try refine h0a ?_; (first | (refine q_k (by exact q_b (r:=by first | (refine h0g ?_; first | rfl | (with_reducible assumption) | (decide; done)) | (exact h0e q_o) | exact h1b)) ?_))) <;> (try refine h0a ?_; (first | (refine q_k (h0d rfl) ?_))) <;> (try refine h0b ?_)) | (refine gR 23 ?_ <;> (try refine h0a ?_; (first | (refine q_k (by exact q_b (r:=by first | (refine h0g ?_; first | rfl | (with_reducible assumption) | (decide; done)) | (exact h0e q_o) | exact h1b)) ?_))) <;> (try refine h0a ?_; (first | (refine q_k (h0d rfl) ?_))) <;> (try refine h0b ?_)) | (refine gR 24 ?_ <;> (try refine h0a ?_; (first | (refine q_k (by exact q_b (r:=by first | (refine h0g ?_; first | rfl | (with_reducible assumption) | (decide; done)) | (exact h0e q_o) | exact h1b)) ?_))) <;> (try refine h0a ?_; (first | (refine q_k (h0d rfl) ?_))) <;> (try refine h0b ?_)) | (refine gR 25 ?_ <;> (try refine h0a ?_; (first | (refine q_k (by exact q_b (r:=by first | (refine h0g ?_; first | rfl | (with_reducible assumption) | (decide; done)) | (exact h0e q_o) | exact h1b)) ?_))) <;> (try refine h0a ?_; (first | (refine q_k (h0d rfl) ?_))) <;> (try refine h0b ?_)) | (refine gR 26 ?_ <;> (try refine h0a ?_; (first | (refine q_k (by exact q_b (r:=by first | (refine h0g ?_; first | rfl | (with_reducible assumption) | (decide; done)) | (exact h0e q_o) | exact h1b)) ?_))) <;> (try refine h0a ?_; (first | (refine q_k (h0d rfl) ?_))) <;> (try refine h0b ?_)) | (refine gR 27 ?_ <;> (try refine h0a ?_; (first | (refine q_k (by exact q_b (r:=by first | (refine h0g ?_; first | rfl | (with_reducible assumption) | (decide; done)) | (exact h0e q_o) | exact h1b)) ?_))) <;> (try refine h0a ?_; (first | (refine q_k (h0d rfl) ?_))) <;> (try refine h0b ?_)) | (refine gR 28 ?_ <;> (try refine h0a ?_; (first | (refine q_k (by exact q_b (r:=by first | (refine h0g ?_; first | rfl | (with_reducible assumption) | (decide; done)) | (exact h0e q_o) | exact h1b)) ?_))) <;> (try refine h0a ?_; (first | (refine q_k (h0d rfl) ?_))) <;> (try refine h0b ?_)) | (refine gR 29 ?_ <;> (try refine h0a ?_; (first | (refine q_k (h0c rfl) ?_))) <;> (try refine h0a ?_; (first | (first | (refine h1i (F:=51) (by kernel_rfl) rfl rfl (h5i _ (by omega)) ?_; rintro _ _ ⟨rfl, rfl⟩)))) <;> (try refine h0a ?_; (first | (refine q_k (by exact q_b (r:=by first | (refine h0g ?_; first | rfl | (with_reducible assumption) | (decide; done)) | (exact h0e q_o) | exact h1b)) ?_))) <;> (try refine h0b ?_)) | (refine gR 30 ?_ <;> (try refine h0a ?_; (first | (refine q_k (h0d rfl) ?_))) <;> (try refine h0b ?_)) | (refine gR 31 ?_ <;> (try refine h0a ?_; (first | (refine q_k (h0c rfl) ?_))) <;> (try refine h0a ?_; (first | (refine q_k (h0c rfl) ?_))) <;> (try refine h0a ?_; (first | (refine q_k (q_b (r:=by refine rb_or ?_ ?_; (focus (refine ⟨rfl, ⟨?_, ?_⟩⟩; (omega); (focus (simp only [IntKind.bits]; omega)))); (focus (refine ⟨rfl, ⟨?_, ?_⟩⟩; (omega); (focus (simp only [IntKind.bits]; omega)))))) ?_))) <;> (try refine h0a ?_; (first | (refine q_k (q_b (r:=by refine rb_andn ?_ ?_; (focus (refine ⟨rfl, ⟨?_, ?_⟩⟩; (omega); (focus (simp only [IntKind.bits]; omega)))); (focus (refine ⟨rfl, ⟨?_, ?_⟩⟩; (omega); (focus (simp only [IntKind.bits]; omega)))))) ?_))) <;> (try refine h0b ?_)) | (refine gR 32 ?_ <;> (try refine h0a ?_; (first | (refine q_k (by exact q_b (r:=by first | (refine h0g ?_; first | rfl | (with_reducible assumption) | (decide; done)) | (exact h0e q_o) | exact h1b)) ?_))) <;> (try refine h0a ?_; (first | (refine q_k (h0d rfl) ?_))) <;> (try refine h0b ?_)) | (refine gR 33 ?_ <;> (try refine h0a ?_; (first | (refine q_k (by exact q_b (r:=by first | (refine h0g ?_; first | rfl | (with_reducible assumption) | (decide; done)) | (exact h0e q_o) | exact h1b)) ?_))) <;> (try refine h0a ?_; (first | (refine q_k (h0d rfl) ?_))) <;> (try refine h0b ?_)) | (refine gR 34 ?_ <;> (try refine h0a ?_; (first | (refine q_k (by exact q_b (r:=by first | (refine h0g ?_; first | rfl | (with_reducible assumption) | (decide; done)) | (exact h0e q_o) | exact h1b)) ?_))) <;> (try refine h0a ?_; (first | (refine q_k (h0d rfl) ?_))) <;> (try refine h0b ?_)) | (refine gR 35 ?_ <;> (try refine h0a ?_; (first | (refine q_k (by exact q_b (r:=by first | (refine h0g ?_; first | rfl | (with_reducible assumption) | (decide; done)) | (exact h0e q_o) | exact h1b)) ?_))) <;> (try refine h0a ?_; (first | (refine q_k (h0d rfl) ?_))) <;> (try refine h0b ?_)) | (refine gR 36 ?_ <;> (try refine h0a ?_; (first | (refine q_k (h0c rfl) ?_))) <;> (try refine h0a ?_; (first | (first | (refine h1i (F:=51) (by kernel_rfl) rfl rfl (h5i _ (by omega)) ?_; rintro _ _ ⟨rfl, rfl⟩)))) <;> (try refine h0a ?_; (first | (refine q_k (by exact q_b (r:=by first | (refine h0g ?_; first | rfl | (with_reducible assumption) | (decide; done)) | (exact h0e q_o) | exact h1b)) ?_))) <;> (try refine h0a ?_; (first | (refine q_k (h0d rfl) ?_))) <;> (try refine h0b ?_)) | (refine gR 37 ?_ <;> (try refine h0a ?_; (first | (refine q_k (h0d rfl) ?_))) <;> (try refine h0b ?_)) | ((first | (refine h1w rfl (fun hc => ?_) (fun hc => ?_)) | (refine h2e rfl (fun hc => ?_) (fun hc => ?_)) | (refine h3i rfl (fun hc => ?_) (fun hc => ?_))) <;> (try subst hc)))
 all_goals (refine h2k Try.results73 (.tmp rfl .nil) ⟨L, ⟨?_, rfl⟩, fun _ H => H⟩; refine congrArg Value.bool ?_; first | (simp [h6i, opOf, *]; done) | (exfalso; omega))
theorem scratch_c {S w0 L} (c : Int) : Fn Try.prog 74 #[.int .u16 c] S w0 L fun v L' => v = .bool (c = 96 || c = 97 || c = 2 || c = 3) ∧ L = L' := by
 refine Fn1 Try.func74 Try.ntmps74 rfl rfl ?_
 repeat' (first | refine h1k ?_ | refine h0b ?_ | refine h0k ?_ | refine h1g ?_ | refine h1y ?_ | refine h2o ?_ | refine h1m ?_ | refine h1n ?_ | refine h0y ?_ | refine h1u ?_ | refine h1t ?_ | refine h2r rfl ?_ | refine h0q ?_ | refine h1j ?_ | refine h2p ?_ | refine h2v ?_ | refine h0o rfl ?_ | refine h0n rfl ?_ | (refine gR 0 ?_ <;> (try refine h0a ?_; (first | (refine q_k (h0d rfl) ?_))) <;> (try refine h0b ?_)) | (refine gR 1 ?_ <;> (try refine h0a ?_; (first | (refine q_k (h0c rfl) ?_))) <;> (try refine h0b ?_)) | (refine gR 2 ?_ <;> (try refine h0a ?_; (first | (refine q_k (by exact q_b (r:=by first | (refine h0g ?_; first | rfl | (with_reducible assumption) | (decide; done)) | (exact h0e q_o) | exact h1b)) ?_))) <;> (try refine h0a ?_; (first | (refine q_k (h0d rfl) ?_))) <;> (try refine h0b ?_)) | (refine gR 3 ?_ <;> (try refine h0a ?_; (first | (refine q_k (by exact q_b (r:=by first | (refine h0g ?_; first | rfl | (with_reducible assumption) | (decide; done)) | (exact h0e q_o) | exact h1b)) ?_))) <;> (try refine h0a ?_; (first | (refine q_k (h0d rfl) ?_))) <;> (try refine h0b ?_)) | (refine gR 4 ?_ <;> (try refine h0a ?_; (first | (refine q_k (by exact q_b (r:=by first | (refine h0g ?_; first | rfl | (with_reducible assumption) | (decide; done)) | (exact h0e q_o) | exact h1b)) ?_))) <;> (try refine h0a ?_; (first | (refine q_k (h0d rfl) ?_))) <;> (try refine h0b ?_)) | (refine gR 5 ?_ <;> (try refine h0a ?_; (first | (refine q_k (by exact q_b (r:=by first | (refine h0g ?_; first | rfl | (with_reducible assumption) | (decide; done)) | (exact h0e q_o) | exact h1b)) ?_))) <;> (try refine h0a ?_; (first | (refine q_k (h0d rfl) ?_))) <;> (try refine h0b ?_)) | (refine gR 6 ?_ <;> (try refine h0a ?_; (first | (refine q_k (h0d rfl) ?_))) <;> (try refine h0b ?_)) | (refine gR 7 ?_ <;> (try refine h0a ?_; (first | (refine q_k (h0d rfl) ?_))) <;> (try refine h0b ?_)) | ((first | (refine h1w rfl (fun hc => ?_) (fun hc => ?_)) | (refine h2e rfl (fun hc => ?_) (fun hc => ?_)) | (refine h3i rfl (fun hc => ?_) (fun hc => ?_))) <;> (try subst hc)))
 all_goals (refine h2k Try.results74 (.tmp rfl .nil) ⟨L, ⟨?_, rfl⟩, fun _ H => H⟩; refine congrArg Value.bool ?_; simp [*])
structure Ins where
 code : Int
 jt : Int
 jf : Int
 k : Int
def Ins.cells (i : Ins) : List Value := [.int .u16 i.code, .int .u8 i.jt, .int .u8 i.jf, .int .u32 i.k]
def Ins.v (i : Ins) : Value := .agg #[.int .u16 i.code, .int .u8 i.jt, .int .u8 i.jf, .int .u32 i.k]
structure Ins.ok (i : Ins) : Prop where
 c : 0 ≤ i.code ∧ i.code < 65536
 t : 0 ≤ i.jt ∧ i.jt < 256
 f : 0 ≤ i.jf ∧ i.jf < 256
 k : 0 ≤ i.k ∧ i.k < 4294967296
def one (i : Ins) (at_ many : Int) : Int :=
 let left := many - at_ - 1
 if !h6i i.code then 208
 else if i.code = 5 ∧ i.k ≥ left then 207
 else if i.code % 8 = 5 ∧ i.code ≠ 5 ∧ max i.jt i.jf ≥ left then 207
 else if i.code = 32 ∧ (i.k % 4 ≠ 0 ∨ i.k > 60) then 204
 else if (i.code = 96 || i.code = 97 || i.code = 2 || i.code = 3) ∧ i.k ≥ 16 then 204
 else if i.code = 52 ∧ i.k = 0 then 204
 else if (i.code = 100 ∨ i.code = 116) ∧ i.k ≥ 32 then 204
 else 0
set_option maxHeartbeats 2000000 in
theorem one_c {S w0 L} (i : Ins) (hi : i.ok) (at_ many : Int) (h0 : 0 ≤ at_) (h1 : at_ < many) (h2 : many ≤ 4096) :
  Fn Try.prog 52 #[i.v, .int .i64 at_, .int .i64 many] S w0 L fun v L' => v = .int .i64 (one i at_ many) ∧ L = L' := by
 obtain ⟨c, jt, jf, k⟩ := i
 obtain ⟨hc, ht, hf, hk⟩ := hi
 simp only [Ins.v] at *
 refine Fn3 Try.func52 Try.ntmps52 rfl rfl ?_
 repeat' (first | refine h1k ?_ | refine h0b ?_ | refine h0k ?_ | refine h1g ?_ | refine h1y ?_ | refine h2o ?_ | refine h1m ?_ | refine h1n ?_ | refine h0y ?_ | refine h1u ?_ | refine h1t ?_ | refine h2r rfl ?_ | refine h0q ?_ | refine h1j ?_ | refine h2p ?_ | refine h2v ?_ | refine h0o rfl ?_ | refine h0n rfl ?_ | (refine gR 0 ?_ <;> (try refine h0a ?_; (first | (refine h3e (t:=43) rfl rfl ?_; intro nb hnb; (try simp only [Value.cells])))) <;> (try refine h0a ?_; (first | (refine q_k (h0d rfl) ?_))) <;> (try refine h0b ?_)) | (refine gR 1 ?_ <;> (try refine h0a ?_; (first | (refine q_k (h0c rfl) ?_))) <;> (try refine h0a ?_; (first | (refine q_k (h0c rfl) ?_))) <;> (try refine h0a ?_; (first | (refine q_k (by exact q_b (r:=by apply rb_sub; exact c_9; (focus (first | (refine IntWalk.i64_in _ ?_; omega) | (refine IntWalk.u8_in _ ?_; omega) | (refine IntWalk.u16_in _ ?_; omega) | (refine IntWalk.u32_in _ ?_; omega) | (refine IntWalk.u64_in _ ?_; omega) | (refine IntWalk.i32_in _ ?_; omega) | exact rfl)))) ?_))) <;> (try refine h0a ?_; (first | (refine q_k (by exact q_b (r:=by apply rb_sub; exact c_9; (focus (first | (refine IntWalk.i64_in _ ?_; omega) | (refine IntWalk.u8_in _ ?_; omega) | (refine IntWalk.u16_in _ ?_; omega) | (refine IntWalk.u32_in _ ?_; omega) | (refine IntWalk.u64_in _ ?_; omega) | (refine IntWalk.i32_in _ ?_; omega) | exact rfl)))) ?_))) <;> (try refine h0a ?_; (first | (refine q_k (h0d rfl) ?_))) <;> (try refine h0b ?_)) | (refine gR 2 ?_ <;> (try refine h0a ?_; (first | (refine q_k (by first | (exact q_f h1p) | (exact q_g h1p)) ?_))) <;> (try refine h0a ?_; (first | (refine q_k (by apply h0l (t:=41); exact rfl; (focus (repeat (first | exact fd0 | (with_reducible assumption) | apply fdA | apply fdS))); kernel_rfl; kernel_rfl; exact h2a) ?_))) <;> (try refine h0a ?_; (first | (first | (refine h1i (F:=73) (by kernel_rfl) rfl rfl (known_c _ (by assumption)) ?_; rintro _ _ ⟨rfl, rfl⟩)))) <;> (try refine h0a ?_; (first | (refine q_k (by apply E_un; exact rfl; (focus (first | exact h4b | exact h4i | exact h5f | exact ru_not))) ?_))) <;> (try refine h0a ?_; (first | (refine q_k (h0d rfl) ?_))) <;> (try refine h0b ?_)) | (refine gR 3 ?_ <;> (try refine h0a ?_; (first | (refine q_k (h0d rfl) ?_))) <;> (try refine h0b ?_)) | (refine gR 4 ?_ <;> (try refine h0a ?_; (first | (refine q_k (by first | (exact q_f h1p) | (exact q_g h1p)) ?_))) <;> (try refine h0a ?_; (first | (refine q_k (by apply h0l (t:=41); exact rfl; (focus (repeat (first | exact fd0 | (with_reducible assumption) | apply fdA | apply fdS))); kernel_rfl; kernel_rfl; exact h2a) ?_))) <;> (try refine h0a ?_; (first | (refine q_k (by exact q_b (r:=by first | (refine h0g ?_; first | rfl | (with_reducible assumption) | (decide; done)) | (exact h0e q_o) | exact h1b)) ?_))) <;> (try refine h0a ?_; (first | (refine q_k (h0c rfl) ?_))) <;> (try refine h0a ?_; (first | refine h3d rfl rfl rfl rfl ?_ | (refine h3s rfl rfl rfl ?_) | (refine h2i rfl rfl rfl ?_; (first | (refine q_k (by first | (exact q_f h1o) | (exact q_g h1o)) ?_))) | ((first | (refine h1r rfl rfl (fun hc => ?_) (fun hc => ?_)) | (refine h2b rfl rfl (fun hc => ?_) (fun hc => ?_)) | (refine h2w rfl rfl (fun hc => ?_) (fun hc => ?_))) <;> (try subst hc) <;> (first | refine h3d rfl rfl rfl rfl ?_ | (refine h2i rfl rfl rfl ?_; (first | (refine q_k (by first | (exact q_f h1o) | (exact q_g h1o)) ?_))))))) <;> (try refine h0a ?_; (first | refine h3d rfl rfl rfl rfl ?_ | (refine h3s rfl rfl rfl ?_) | (refine h2i rfl rfl rfl ?_; (first | (refine q_k (by apply h0l (t:=22); exact rfl; (focus (repeat (first | exact fd0 | (with_reducible assumption) | apply fdA | apply fdS))); kernel_rfl; kernel_rfl; exact h2a) ?_))) | ((first | (refine h1r rfl rfl (fun hc => ?_) (fun hc => ?_)) | (refine h2b rfl rfl (fun hc => ?_) (fun hc => ?_)) | (refine h2w rfl rfl (fun hc => ?_) (fun hc => ?_))) <;> (try subst hc) <;> (first | refine h3d rfl rfl rfl rfl ?_ | (refine h2i rfl rfl rfl ?_; (first | (refine q_k (by apply h0l (t:=22); exact rfl; (focus (repeat (first | exact fd0 | (with_reducible assumption) | apply fdA | apply fdS))); kernel_rfl; kernel_rfl; exact h2a) ?_))))))) <;> (try refine h0a ?_; (first | refine h3d rfl rfl rfl rfl ?_ | (refine h3s rfl rfl rfl ?_) | (refine h2i rfl rfl rfl ?_; (first | (refine q_k (by apply h2l; exact rfl; (focus (apply h2j Try.underlying22 Try.underlying23; first | (refine IntWalk.i64_in _ ?_; omega) | (refine IntWalk.u8_in _ ?_; omega) | (refine IntWalk.u16_in _ ?_; omega) | (refine IntWalk.u32_in _ ?_; omega) | (refine IntWalk.u64_in _ ?_; omega) | (refine IntWalk.i32_in _ ?_; omega) | exact rfl))) ?_))) | ((first | (refine h1r rfl rfl (fun hc => ?_) (fun hc => ?_)) | (refine h2b rfl rfl (fun hc => ?_) (fun hc => ?_)) | (refine h2w rfl rfl (fun hc => ?_) (fun hc => ?_))) <;> (try subst hc) <;> (first | refine h3d rfl rfl rfl rfl ?_ | (refine h2i rfl rfl rfl ?_; (first | (refine q_k (by apply h2l; exact rfl; (focus (apply h2j Try.underlying22 Try.underlying23; first | (refine IntWalk.i64_in _ ?_; omega) | (refine IntWalk.u8_in _ ?_; omega) | (refine IntWalk.u16_in _ ?_; omega) | (refine IntWalk.u32_in _ ?_; omega) | (refine IntWalk.u64_in _ ?_; omega) | (refine IntWalk.i32_in _ ?_; omega) | exact rfl))) ?_))))))) <;> (try refine h0a ?_; (first | refine h3d rfl rfl rfl rfl ?_ | (refine h3s rfl rfl rfl ?_) | (refine h2i rfl rfl rfl ?_; (first | (refine q_k (h0c rfl) ?_))) | ((first | (refine h1r rfl rfl (fun hc => ?_) (fun hc => ?_)) | (refine h2b rfl rfl (fun hc => ?_) (fun hc => ?_)) | (refine h2w rfl rfl (fun hc => ?_) (fun hc => ?_))) <;> (try subst hc) <;> (first | refine h3d rfl rfl rfl rfl ?_ | (refine h2i rfl rfl rfl ?_; (first | (refine q_k (h0c rfl) ?_))))))) <;> (try refine h0a ?_; (first | refine h3d rfl rfl rfl rfl ?_ | (refine h3s rfl rfl rfl ?_) | (refine h2i rfl rfl rfl ?_; (first | (refine q_k (by apply h2l; exact rfl; (focus (apply h2j Try.underlying3 Try.underlying23; first | (refine IntWalk.i64_in _ ?_; omega) | (refine IntWalk.u8_in _ ?_; omega) | (refine IntWalk.u16_in _ ?_; omega) | (refine IntWalk.u32_in _ ?_; omega) | (refine IntWalk.u64_in _ ?_; omega) | (refine IntWalk.i32_in _ ?_; omega) | exact rfl))) ?_))) | ((first | (refine h1r rfl rfl (fun hc => ?_) (fun hc => ?_)) | (refine h2b rfl rfl (fun hc => ?_) (fun hc => ?_)) | (refine h2w rfl rfl (fun hc => ?_) (fun hc => ?_))) <;> (try subst hc) <;> (first | refine h3d rfl rfl rfl rfl ?_ | (refine h2i rfl rfl rfl ?_; (first | (refine q_k (by apply h2l; exact rfl; (focus (apply h2j Try.underlying3 Try.underlying23; first | (refine IntWalk.i64_in _ ?_; omega) | (refine IntWalk.u8_in _ ?_; omega) | (refine IntWalk.u16_in _ ?_; omega) | (refine IntWalk.u32_in _ ?_; omega) | (refine IntWalk.u64_in _ ?_; omega) | (refine IntWalk.i32_in _ ?_; omega) | exact rfl))) ?_))))))) <;> (try refine h0a ?_; (first | refine h3d rfl rfl rfl rfl ?_ | (refine h3s rfl rfl rfl ?_) | (refine h2i rfl rfl rfl ?_; (first | (refine q_k (by exact q_b (r:=by first | (exact h5v q_o) | (exact h4m q_o) | exact rb_geq)) ?_))) | ((first | (refine h1r rfl rfl (fun hc => ?_) (fun hc => ?_)) | (refine h2b rfl rfl (fun hc => ?_) (fun hc => ?_)) | (refine h2w rfl rfl (fun hc => ?_) (fun hc => ?_))) <;> (try subst hc) <;> (first | refine h3d rfl rfl rfl rfl ?_ | (refine h2i rfl rfl rfl ?_; (first | (refine q_k (by exact q_b (r:=by first | (exact h5v q_o) | (exact h4m q_o) | exact rb_geq)) ?_))))))) <;> (try refine h0a ?_; (first | (refine q_k (h5l rfl rfl) ?_))) <;> (try refine h0a ?_; (first | (refine q_k (h0d rfl) ?_))) <;> (try refine h0b ?_)) | (refine gR 5 ?_ <;> (try refine h0a ?_; (first | (refine q_k (h0d rfl) ?_))) <;> (try refine h0b ?_)) | (refine gR 6 ?_ <;> (try refine h0a ?_; (first | (refine q_k (by first | (exact q_f h1p) | (exact q_g h1p)) ?_))) <;> (try refine h0a ?_; (first | (refine q_k (by apply h0l (t:=41); exact rfl; (focus (repeat (first | exact fd0 | (with_reducible assumption) | apply fdA | apply fdS))); kernel_rfl; kernel_rfl; exact h2a) ?_))) <;> (try refine h0a ?_; (first | (first | (refine h1i (F:=51) (by kernel_rfl) rfl rfl (h5i _ (by assumption)) ?_; rintro _ _ ⟨rfl, rfl⟩)))) <;> (try refine h0a ?_; (first | (refine q_k (by exact q_b (r:=by first | (refine h0g ?_; first | rfl | (with_reducible assumption) | (decide; done)) | (exact h0e q_o) | exact h1b)) ?_))) <;> (try refine h0a ?_; (first | (refine q_k (h0c rfl) ?_))) <;> (try refine h0a ?_; (first | refine h3d rfl rfl rfl rfl ?_ | (refine h3s rfl rfl rfl ?_) | (refine h2i rfl rfl rfl ?_; (first | (refine q_k (by first | (exact q_f h1p) | (exact q_g h1p)) ?_))) | ((first | (refine h1r rfl rfl (fun hc => ?_) (fun hc => ?_)) | (refine h2b rfl rfl (fun hc => ?_) (fun hc => ?_)) | (refine h2w rfl rfl (fun hc => ?_) (fun hc => ?_))) <;> (try subst hc) <;> (first | refine h3d rfl rfl rfl rfl ?_ | (refine h2i rfl rfl rfl ?_; (first | (refine q_k (by first | (exact q_f h1p) | (exact q_g h1p)) ?_))))))) <;> (try refine h0a ?_; (first | refine h3d rfl rfl rfl rfl ?_ | (refine h3s rfl rfl rfl ?_) | (refine h2i rfl rfl rfl ?_; (first | (refine q_k (by apply h0l (t:=41); exact rfl; (focus (repeat (first | exact fd0 | (with_reducible assumption) | apply fdA | apply fdS))); kernel_rfl; kernel_rfl; exact h2a) ?_))) | ((first | (refine h1r rfl rfl (fun hc => ?_) (fun hc => ?_)) | (refine h2b rfl rfl (fun hc => ?_) (fun hc => ?_)) | (refine h2w rfl rfl (fun hc => ?_) (fun hc => ?_))) <;> (try subst hc) <;> (first | refine h3d rfl rfl rfl rfl ?_ | (refine h2i rfl rfl rfl ?_; (first | (refine q_k (by apply h0l (t:=41); exact rfl; (focus (repeat (first | exact fd0 | (with_reducible assumption) | apply fdA | apply fdS))); kernel_rfl; kernel_rfl; exact h2a) ?_))))))) <;> (try refine h0a ?_; (first | refine h3d rfl rfl rfl rfl ?_ | (refine h3s rfl rfl rfl ?_) | (refine h2i rfl rfl rfl ?_; (first | (refine q_k (by exact q_b (r:=by first | (refine h4c ?_; first | rfl | (with_reducible assumption) | (decide; done)) | (exact h4w q_o) | exact rb_neq)) ?_))) | ((first | (refine h1r rfl rfl (fun hc => ?_) (fun hc => ?_)) | (refine h2b rfl rfl (fun hc => ?_) (fun hc => ?_)) | (refine h2w rfl rfl (fun hc => ?_) (fun hc => ?_))) <;> (try subst hc) <;> (first | refine h3d rfl rfl rfl rfl ?_ | (refine h2i rfl rfl rfl ?_; (first | (refine q_k (by exact q_b (r:=by first | (refine h4c ?_; first | rfl | (with_reducible assumption) | (decide; done)) | (exact h4w q_o) | exact rb_neq)) ?_))))))) <;> (try refine h0a ?_; (first | (refine q_k (h5l rfl rfl) ?_))) <;> (try refine h0a ?_; (first | (refine q_k (h0c rfl) ?_))) <;> (try refine h0a ?_; (first | refine h3d rfl rfl rfl rfl ?_ | (refine h3s rfl rfl rfl ?_) | (refine h2i rfl rfl rfl ?_; (first | (refine q_k (by first | (exact q_f h6b) | (exact q_g h6b)) ?_))) | ((first | (refine h1r rfl rfl (fun hc => ?_) (fun hc => ?_)) | (refine h2b rfl rfl (fun hc => ?_) (fun hc => ?_)) | (refine h2w rfl rfl (fun hc => ?_) (fun hc => ?_))) <;> (try subst hc) <;> (first | refine h3d rfl rfl rfl rfl ?_ | (refine h2i rfl rfl rfl ?_; (first | (refine q_k (by first | (exact q_f h6b) | (exact q_g h6b)) ?_))))))) <;> (try refine h0a ?_; (first | refine h3d rfl rfl rfl rfl ?_ | (refine h3s rfl rfl rfl ?_) | (refine h2i rfl rfl rfl ?_; (first | (refine q_k (by apply h0l (t:=5); exact rfl; (focus (repeat (first | exact fd0 | (with_reducible assumption) | apply fdA | apply fdS))); kernel_rfl; kernel_rfl; exact h2a) ?_))) | ((first | (refine h1r rfl rfl (fun hc => ?_) (fun hc => ?_)) | (refine h2b rfl rfl (fun hc => ?_) (fun hc => ?_)) | (refine h2w rfl rfl (fun hc => ?_) (fun hc => ?_))) <;> (try subst hc) <;> (first | refine h3d rfl rfl rfl rfl ?_ | (refine h2i rfl rfl rfl ?_; (first | (refine q_k (by apply h0l (t:=5); exact rfl; (focus (repeat (first | exact fd0 | (with_reducible assumption) | apply fdA | apply fdS))); kernel_rfl; kernel_rfl; exact h2a) ?_))))))) <;> (try refine h0a ?_; (first | refine h3d rfl rfl rfl rfl ?_ | (refine h3s rfl rfl rfl ?_) | (refine h2i rfl rfl rfl ?_; (first | (refine q_k (by first | (exact q_f h6a) | (exact q_g h6a)) ?_))) | ((first | (refine h1r rfl rfl (fun hc => ?_) (fun hc => ?_)) | (refine h2b rfl rfl (fun hc => ?_) (fun hc => ?_)) | (refine h2w rfl rfl (fun hc => ?_) (fun hc => ?_))) <;> (try subst hc) <;> (first | refine h3d rfl rfl rfl rfl ?_ | (refine h2i rfl rfl rfl ?_; (first | (refine q_k (by first | (exact q_f h6a) | (exact q_g h6a)) ?_))))))) <;> (try refine h0a ?_; (first | refine h3d rfl rfl rfl rfl ?_ | (refine h3s rfl rfl rfl ?_) | (refine h2i rfl rfl rfl ?_; (first | (refine q_k (by apply h0l (t:=5); exact rfl; (focus (repeat (first | exact fd0 | (with_reducible assumption) | apply fdA | apply fdS))); kernel_rfl; kernel_rfl; exact h2a) ?_))) | ((first | (refine h1r rfl rfl (fun hc => ?_) (fun hc => ?_)) | (refine h2b rfl rfl (fun hc => ?_) (fun hc => ?_)) | (refine h2w rfl rfl (fun hc => ?_) (fun hc => ?_))) <;> (try subst hc) <;> (first | refine h3d rfl rfl rfl rfl ?_ | (refine h2i rfl rfl rfl ?_; (first | (refine q_k (by apply h0l (t:=5); exact rfl; (focus (repeat (first | exact fd0 | (with_reducible assumption) | apply fdA | apply fdS))); kernel_rfl; kernel_rfl; exact h2a) ?_))))))) <;> (try refine h0a ?_; (first | refine h3d rfl rfl rfl rfl ?_ | (refine h3s rfl rfl rfl ?_) | (refine h2i rfl rfl rfl ?_; (first | (refine q_k (h0m rfl (fun _ => BigFrame.builtin_max ..) r_max) ?_))) | ((first | (refine h1r rfl rfl (fun hc => ?_) (fun hc => ?_)) | (refine h2b rfl rfl (fun hc => ?_) (fun hc => ?_)) | (refine h2w rfl rfl (fun hc => ?_) (fun hc => ?_))) <;> (try subst hc) <;> (first | refine h3d rfl rfl rfl rfl ?_ | (refine h2i rfl rfl rfl ?_; (first | (refine q_k (h0m rfl (fun _ => BigFrame.builtin_max ..) r_max) ?_))))))) <;> (try refine h0a ?_; (first | refine h3d rfl rfl rfl rfl ?_ | (refine h3s rfl rfl rfl ?_) | (refine h2i rfl rfl rfl ?_; (first | (refine q_k (by apply h2l; exact rfl; (focus (apply h2j Try.underlying5 Try.underlying3; first | (refine IntWalk.i64_in _ ?_; omega) | (refine IntWalk.u8_in _ ?_; omega) | (refine IntWalk.u16_in _ ?_; omega) | (refine IntWalk.u32_in _ ?_; omega) | (refine IntWalk.u64_in _ ?_; omega) | (refine IntWalk.i32_in _ ?_; omega) | exact rfl))) ?_))) | ((first | (refine h1r rfl rfl (fun hc => ?_) (fun hc => ?_)) | (refine h2b rfl rfl (fun hc => ?_) (fun hc => ?_)) | (refine h2w rfl rfl (fun hc => ?_) (fun hc => ?_))) <;> (try subst hc) <;> (first | refine h3d rfl rfl rfl rfl ?_ | (refine h2i rfl rfl rfl ?_; (first | (refine q_k (by apply h2l; exact rfl; (focus (apply h2j Try.underlying5 Try.underlying3; first | (refine IntWalk.i64_in _ ?_; omega) | (refine IntWalk.u8_in _ ?_; omega) | (refine IntWalk.u16_in _ ?_; omega) | (refine IntWalk.u32_in _ ?_; omega) | (refine IntWalk.u64_in _ ?_; omega) | (refine IntWalk.i32_in _ ?_; omega) | exact rfl))) ?_))))))) <;> (try refine h0a ?_; (first | refine h3d rfl rfl rfl rfl ?_ | (refine h3s rfl rfl rfl ?_) | (refine h2i rfl rfl rfl ?_; (first | (refine q_k (h0c rfl) ?_))) | ((first | (refine h1r rfl rfl (fun hc => ?_) (fun hc => ?_)) | (refine h2b rfl rfl (fun hc => ?_) (fun hc => ?_)) | (refine h2w rfl rfl (fun hc => ?_) (fun hc => ?_))) <;> (try subst hc) <;> (first | refine h3d rfl rfl rfl rfl ?_ | (refine h2i rfl rfl rfl ?_; (first | (refine q_k (h0c rfl) ?_))))))) <;> (try refine h0a ?_; (first | refine h3d rfl rfl rfl rfl ?_ | (refine h3s rfl rfl rfl ?_) | (refine h2i rfl rfl rfl ?_; (first | (refine q_k (by exact q_b (r:=by first | (exact h5v q_o) | (exact h4m q_o) | exact rb_geq)) ?_))) | ((first | (refine h1r rfl rfl (fun hc => ?_) (fun hc => ?_)) | (refine h2b rfl rfl (fun hc => ?_) (fun hc => ?_)) | (refine h2w rfl rfl (fun hc => ?_) (fun hc => ?_))) <;> (try subst hc) <;> (first | refine h3d rfl rfl rfl rfl ?_ | (refine h2i rfl rfl rfl ?_; (first | (refine q_k (by exact q_b (r:=by first | (exact h5v q_o) | (exact h4m q_o) | exact rb_geq)) ?_))))))) <;> (try refine h0a ?_; (first | (refine q_k (h5l rfl rfl) ?_))) <;> (try refine h0a ?_; (first | (refine q_k (h0d rfl) ?_))) <;> (try refine h0b ?_)) | (refine gR 7 ?_ <;> (try refine h0a ?_; (first | (refine q_k (h0d rfl) ?_))) <;> (try refine h0b ?_)) | (refine gR 8 ?_ <;> (try refine h0a ?_; (first | (refine q_k (by first | (exact q_f h1p) | (exact q_g h1p)) ?_))) <;> (try refine h0a ?_; (first | (refine q_k (by apply h0l (t:=41); exact rfl; (focus (repeat (first | exact fd0 | (with_reducible assumption) | apply fdA | apply fdS))); kernel_rfl; kernel_rfl; exact h2a) ?_))) <;> (try refine h0a ?_; (first | (refine q_k (by exact q_b (r:=by first | (refine h0g ?_; first | rfl | (with_reducible assumption) | (decide; done)) | (exact h0e q_o) | exact h1b)) ?_))) <;> (try refine h0a ?_; (first | (refine q_k (h0c rfl) ?_))) <;> (try refine h0a ?_; (first | refine h3d rfl rfl rfl rfl ?_ | (refine h3s rfl rfl rfl ?_) | (refine h2i rfl rfl rfl ?_; (first | (refine q_k (by first | (exact q_f h1o) | (exact q_g h1o)) ?_))) | ((first | (refine h1r rfl rfl (fun hc => ?_) (fun hc => ?_)) | (refine h2b rfl rfl (fun hc => ?_) (fun hc => ?_)) | (refine h2w rfl rfl (fun hc => ?_) (fun hc => ?_))) <;> (try subst hc) <;> (first | refine h3d rfl rfl rfl rfl ?_ | (refine h2i rfl rfl rfl ?_; (first | (refine q_k (by first | (exact q_f h1o) | (exact q_g h1o)) ?_))))))) <;> (try refine h0a ?_; (first | refine h3d rfl rfl rfl rfl ?_ | (refine h3s rfl rfl rfl ?_) | (refine h2i rfl rfl rfl ?_; (first | (refine q_k (by apply h0l (t:=22); exact rfl; (focus (repeat (first | exact fd0 | (with_reducible assumption) | apply fdA | apply fdS))); kernel_rfl; kernel_rfl; exact h2a) ?_))) | ((first | (refine h1r rfl rfl (fun hc => ?_) (fun hc => ?_)) | (refine h2b rfl rfl (fun hc => ?_) (fun hc => ?_)) | (refine h2w rfl rfl (fun hc => ?_) (fun hc => ?_))) <;> (try subst hc) <;> (first | refine h3d rfl rfl rfl rfl ?_ | (refine h2i rfl rfl rfl ?_; (first | (refine q_k (by apply h0l (t:=22); exact rfl; (focus (repeat (first | exact fd0 | (with_reducible assumption) | apply fdA | apply fdS))); kernel_rfl; kernel_rfl; exact h2a) ?_))))))) <;> (try refine h0a ?_; (first | refine h3d rfl rfl rfl rfl ?_ | (refine h3s rfl rfl rfl ?_) | (refine h2i rfl rfl rfl ?_; (first | (refine q_k (q_b (r:=by apply h1x; (omega); (omega); exact c_9)) ?_))) | ((first | (refine h1r rfl rfl (fun hc => ?_) (fun hc => ?_)) | (refine h2b rfl rfl (fun hc => ?_) (fun hc => ?_)) | (refine h2w rfl rfl (fun hc => ?_) (fun hc => ?_))) <;> (try subst hc) <;> (first | refine h3d rfl rfl rfl rfl ?_ | (refine h2i rfl rfl rfl ?_; (first | (refine q_k (q_b (r:=by apply h1x; (omega); (omega); exact c_9)) ?_))))))) <;> (try refine h0a ?_; (first | refine h3d rfl rfl rfl rfl ?_ | (refine h3s rfl rfl rfl ?_) | (refine h2i rfl rfl rfl ?_; (first | (refine q_k (by exact q_b (r:=by first | (refine h4c ?_; first | rfl | (with_reducible assumption) | (decide; done)) | (exact h4w q_o) | exact rb_neq)) ?_))) | ((first | (refine h1r rfl rfl (fun hc => ?_) (fun hc => ?_)) | (refine h2b rfl rfl (fun hc => ?_) (fun hc => ?_)) | (refine h2w rfl rfl (fun hc => ?_) (fun hc => ?_))) <;> (try subst hc) <;> (first | refine h3d rfl rfl rfl rfl ?_ | (refine h2i rfl rfl rfl ?_; (first | (refine q_k (by exact q_b (r:=by first | (refine h4c ?_; first | rfl | (with_reducible assumption) | (decide; done)) | (exact h4w q_o) | exact rb_neq)) ?_))))))) <;> (try refine h0a ?_; (first | refine h3d rfl rfl rfl rfl ?_ | (refine h3s rfl rfl rfl ?_) | (refine h2i rfl rfl rfl ?_; (first | (refine q_k (h0c rfl) ?_))) | ((first | (refine h1r rfl rfl (fun hc => ?_) (fun hc => ?_)) | (refine h2b rfl rfl (fun hc => ?_) (fun hc => ?_)) | (refine h2w rfl rfl (fun hc => ?_) (fun hc => ?_))) <;> (try subst hc) <;> (first | refine h3d rfl rfl rfl rfl ?_ | (refine h2i rfl rfl rfl ?_; (first | (refine q_k (h0c rfl) ?_))))))) <;> (try refine h0a ?_; (first | refine h3d rfl rfl rfl rfl ?_ | (refine h3s rfl rfl rfl ?_) | (refine h2i rfl rfl rfl ?_; (first | (refine q_k (by first | (exact q_f h1o) | (exact q_g h1o)) ?_))) | ((first | (refine h1r rfl rfl (fun hc => ?_) (fun hc => ?_)) | (refine h2b rfl rfl (fun hc => ?_) (fun hc => ?_)) | (refine h2w rfl rfl (fun hc => ?_) (fun hc => ?_))) <;> (try subst hc) <;> (first | refine h3d rfl rfl rfl rfl ?_ | (refine h2i rfl rfl rfl ?_; (first | (refine q_k (by first | (exact q_f h1o) | (exact q_g h1o)) ?_))))))) <;> (try refine h0a ?_; (first | refine h3d rfl rfl rfl rfl ?_ | (refine h3s rfl rfl rfl ?_) | (refine h2i rfl rfl rfl ?_; (first | (refine q_k (by apply h0l (t:=22); exact rfl; (focus (repeat (first | exact fd0 | (with_reducible assumption) | apply fdA | apply fdS))); kernel_rfl; kernel_rfl; exact h2a) ?_))) | ((first | (refine h1r rfl rfl (fun hc => ?_) (fun hc => ?_)) | (refine h2b rfl rfl (fun hc => ?_) (fun hc => ?_)) | (refine h2w rfl rfl (fun hc => ?_) (fun hc => ?_))) <;> (try subst hc) <;> (first | refine h3d rfl rfl rfl rfl ?_ | (refine h2i rfl rfl rfl ?_; (first | (refine q_k (by apply h0l (t:=22); exact rfl; (focus (repeat (first | exact fd0 | (with_reducible assumption) | apply fdA | apply fdS))); kernel_rfl; kernel_rfl; exact h2a) ?_))))))) <;> (try refine h0a ?_; (first | refine h3d rfl rfl rfl rfl ?_ | (refine h3s rfl rfl rfl ?_) | (refine h2i rfl rfl rfl ?_; (first | (refine q_k (by exact q_b (r:=by first | (exact h5g q_o) | (exact h4j q_o) | exact rb_gtr)) ?_))) | ((first | (refine h1r rfl rfl (fun hc => ?_) (fun hc => ?_)) | (refine h2b rfl rfl (fun hc => ?_) (fun hc => ?_)) | (refine h2w rfl rfl (fun hc => ?_) (fun hc => ?_))) <;> (try subst hc) <;> (first | refine h3d rfl rfl rfl rfl ?_ | (refine h2i rfl rfl rfl ?_; (first | (refine q_k (by exact q_b (r:=by first | (exact h5g q_o) | (exact h4j q_o) | exact rb_gtr)) ?_))))))) <;> (try refine h0a ?_; (first | refine h3d rfl rfl rfl rfl ?_ | (refine h3s rfl rfl rfl ?_) | (refine h2i rfl rfl rfl ?_; (first | (refine q_k (h5l rfl rfl) ?_))) | ((first | (refine h1r rfl rfl (fun hc => ?_) (fun hc => ?_)) | (refine h2b rfl rfl (fun hc => ?_) (fun hc => ?_)) | (refine h2w rfl rfl (fun hc => ?_) (fun hc => ?_))) <;> (try subst hc) <;> (first | refine h3d rfl rfl rfl rfl ?_ | (refine h2i rfl rfl rfl ?_; (first | (refine q_k (h5l rfl rfl) ?_))))))) <;> (try refine h0a ?_; (first | (refine q_k (h5l rfl rfl) ?_))) <;> (try refine h0a ?_; (first | (refine q_k (h0d rfl) ?_))) <;> (try refine h0b ?_)) | (refine gR 9 ?_ <;> (try refine h0a ?_; (first | (refine q_k (h0d rfl) ?_))) <;> (try refine h0b ?_)) | (refine gR 10 ?_ <;> (try refine h0a ?_; (first | (refine q_k (by first | (exact q_f h1p) | (exact q_g h1p)) ?_))) <;> (try refine h0a ?_; (first | (refine q_k (by apply h0l (t:=41); exact rfl; (focus (repeat (first | exact fd0 | (with_reducible assumption) | apply fdA | apply fdS))); kernel_rfl; kernel_rfl; exact h2a) ?_))) <;> (try refine h0a ?_; (first | (first | (refine h1i (F:=74) (by kernel_rfl) rfl rfl (scratch_c _) ?_; rintro _ _ ⟨rfl, rfl⟩)))) <;> (try refine h0a ?_; (first | (refine q_k (h0c rfl) ?_))) <;> (try refine h0a ?_; (first | refine h3d rfl rfl rfl rfl ?_ | (refine h3s rfl rfl rfl ?_) | (refine h2i rfl rfl rfl ?_; (first | (refine q_k (by first | (exact q_f h1o) | (exact q_g h1o)) ?_))) | ((first | (refine h1r rfl rfl (fun hc => ?_) (fun hc => ?_)) | (refine h2b rfl rfl (fun hc => ?_) (fun hc => ?_)) | (refine h2w rfl rfl (fun hc => ?_) (fun hc => ?_))) <;> (try subst hc) <;> (first | refine h3d rfl rfl rfl rfl ?_ | (refine h2i rfl rfl rfl ?_; (first | (refine q_k (by first | (exact q_f h1o) | (exact q_g h1o)) ?_))))))) <;> (try refine h0a ?_; (first | refine h3d rfl rfl rfl rfl ?_ | (refine h3s rfl rfl rfl ?_) | (refine h2i rfl rfl rfl ?_; (first | (refine q_k (by apply h0l (t:=22); exact rfl; (focus (repeat (first | exact fd0 | (with_reducible assumption) | apply fdA | apply fdS))); kernel_rfl; kernel_rfl; exact h2a) ?_))) | ((first | (refine h1r rfl rfl (fun hc => ?_) (fun hc => ?_)) | (refine h2b rfl rfl (fun hc => ?_) (fun hc => ?_)) | (refine h2w rfl rfl (fun hc => ?_) (fun hc => ?_))) <;> (try subst hc) <;> (first | refine h3d rfl rfl rfl rfl ?_ | (refine h2i rfl rfl rfl ?_; (first | (refine q_k (by apply h0l (t:=22); exact rfl; (focus (repeat (first | exact fd0 | (with_reducible assumption) | apply fdA | apply fdS))); kernel_rfl; kernel_rfl; exact h2a) ?_))))))) <;> (try refine h0a ?_; (first | refine h3d rfl rfl rfl rfl ?_ | (refine h3s rfl rfl rfl ?_) | (refine h2i rfl rfl rfl ?_; (first | (refine q_k (by exact q_b (r:=by first | (exact h5v q_o) | (exact h4m q_o) | exact rb_geq)) ?_))) | ((first | (refine h1r rfl rfl (fun hc => ?_) (fun hc => ?_)) | (refine h2b rfl rfl (fun hc => ?_) (fun hc => ?_)) | (refine h2w rfl rfl (fun hc => ?_) (fun hc => ?_))) <;> (try subst hc) <;> (first | refine h3d rfl rfl rfl rfl ?_ | (refine h2i rfl rfl rfl ?_; (first | (refine q_k (by exact q_b (r:=by first | (exact h5v q_o) | (exact h4m q_o) | exact rb_geq)) ?_))))))) <;> (try refine h0a ?_; (first | (refine q_k (h5l rfl rfl) ?_))) <;> (try refine h0a ?_; (first | (refine q_k (h0d rfl) ?_))) <;> (try refine h0b ?_)) | (refine gR 11 ?_ <;> (try refine h0a ?_; (first | (refine q_k (h0d rfl) ?_))) <;> (try refine h0b ?_)) | (refine gR 12 ?_ <;> (try refine h0a ?_; (first | (refine q_k (by first | (exact q_f h1p) | (exact q_g h1p)) ?_))) <;> (try refine h0a ?_; (first | (refine q_k (by apply h0l (t:=41); exact rfl; (focus (repeat (first | exact fd0 | (with_reducible assumption) | apply fdA | apply fdS))); kernel_rfl; kernel_rfl; exact h2a) ?_))) <;> (try refine h0a ?_; (first | (refine q_k (by exact q_b (r:=by first | (refine h0g ?_; first | rfl | (with_reducible assumption) | (decide; done)) | (exact h0e q_o) | exact h1b)) ?_))) <;> (try refine h0a ?_; (first | (refine q_k (h0c rfl) ?_))) <;> (try refine h0a ?_; (first | refine h3d rfl rfl rfl rfl ?_ | (refine h3s rfl rfl rfl ?_) | (refine h2i rfl rfl rfl ?_; (first | (refine q_k (by first | (exact q_f h1o) | (exact q_g h1o)) ?_))) | ((first | (refine h1r rfl rfl (fun hc => ?_) (fun hc => ?_)) | (refine h2b rfl rfl (fun hc => ?_) (fun hc => ?_)) | (refine h2w rfl rfl (fun hc => ?_) (fun hc => ?_))) <;> (try subst hc) <;> (first | refine h3d rfl rfl rfl rfl ?_ | (refine h2i rfl rfl rfl ?_; (first | (refine q_k (by first | (exact q_f h1o) | (exact q_g h1o)) ?_))))))) <;> (try refine h0a ?_; (first | refine h3d rfl rfl rfl rfl ?_ | (refine h3s rfl rfl rfl ?_) | (refine h2i rfl rfl rfl ?_; (first | (refine q_k (by apply h0l (t:=22); exact rfl; (focus (repeat (first | exact fd0 | (with_reducible assumption) | apply fdA | apply fdS))); kernel_rfl; kernel_rfl; exact h2a) ?_))) | ((first | (refine h1r rfl rfl (fun hc => ?_) (fun hc => ?_)) | (refine h2b rfl rfl (fun hc => ?_) (fun hc => ?_)) | (refine h2w rfl rfl (fun hc => ?_) (fun hc => ?_))) <;> (try subst hc) <;> (first | refine h3d rfl rfl rfl rfl ?_ | (refine h2i rfl rfl rfl ?_; (first | (refine q_k (by apply h0l (t:=22); exact rfl; (focus (repeat (first | exact fd0 | (with_reducible assumption) | apply fdA | apply fdS))); kernel_rfl; kernel_rfl; exact h2a) ?_))))))) <;> (try refine h0a ?_; (first | refine h3d rfl rfl rfl rfl ?_ | (refine h3s rfl rfl rfl ?_) | (refine h2i rfl rfl rfl ?_; (first | (refine q_k (by exact q_b (r:=by first | (refine h0g ?_; first | rfl | (with_reducible assumption) | (decide; done)) | (exact h0e q_o) | exact h1b)) ?_))) | ((first | (refine h1r rfl rfl (fun hc => ?_) (fun hc => ?_)) | (refine h2b rfl rfl (fun hc => ?_) (fun hc => ?_)) | (refine h2w rfl rfl (fun hc => ?_) (fun hc => ?_))) <;> (try subst hc) <;> (first | refine h3d rfl rfl rfl rfl ?_ | (refine h2i rfl rfl rfl ?_; (first | (refine q_k (by exact q_b (r:=by first | (refine h0g ?_; first | rfl | (with_reducible assumption) | (decide; done)) | (exact h0e q_o) | exact h1b)) ?_))))))) <;> (try refine h0a ?_; (first | (refine q_k (h5l rfl rfl) ?_))) <;> (try refine h0a ?_; (first | (refine q_k (h0d rfl) ?_))) <;> (try refine h0b ?_)) | (refine gR 13 ?_ <;> (try refine h0a ?_; (first | (refine q_k (h0d rfl) ?_))) <;> (try refine h0b ?_)) | (refine gR 14 ?_ <;> (try refine h0a ?_; (first | (refine q_k (by first | (exact q_f h1p) | (exact q_g h1p)) ?_))) <;> (try refine h0a ?_; (first | (refine q_k (by apply h0l (t:=41); exact rfl; (focus (repeat (first | exact fd0 | (with_reducible assumption) | apply fdA | apply fdS))); kernel_rfl; kernel_rfl; exact h2a) ?_))) <;> (try refine h0a ?_; (first | (refine q_k (by exact q_b (r:=by first | (refine h0g ?_; first | rfl | (with_reducible assumption) | (decide; done)) | (exact h0e q_o) | exact h1b)) ?_))) <;> (try refine h0a ?_; (first | (refine q_k (h0c rfl) ?_))) <;> (try refine h0a ?_; (first | refine h3d rfl rfl rfl rfl ?_ | (refine h3s rfl rfl rfl ?_) | (refine h2i rfl rfl rfl ?_; (first | (refine q_k (by first | (exact q_f h1p) | (exact q_g h1p)) ?_))) | ((first | (refine h1r rfl rfl (fun hc => ?_) (fun hc => ?_)) | (refine h2b rfl rfl (fun hc => ?_) (fun hc => ?_)) | (refine h2w rfl rfl (fun hc => ?_) (fun hc => ?_))) <;> (try subst hc) <;> (first | refine h3d rfl rfl rfl rfl ?_ | (refine h2i rfl rfl rfl ?_; (first | (refine q_k (by first | (exact q_f h1p) | (exact q_g h1p)) ?_))))))) <;> (try refine h0a ?_; (first | refine h3d rfl rfl rfl rfl ?_ | (refine h3s rfl rfl rfl ?_) | (refine h2i rfl rfl rfl ?_; (first | (refine q_k (by apply h0l (t:=41); exact rfl; (focus (repeat (first | exact fd0 | (with_reducible assumption) | apply fdA | apply fdS))); kernel_rfl; kernel_rfl; exact h2a) ?_))) | ((first | (refine h1r rfl rfl (fun hc => ?_) (fun hc => ?_)) | (refine h2b rfl rfl (fun hc => ?_) (fun hc => ?_)) | (refine h2w rfl rfl (fun hc => ?_) (fun hc => ?_))) <;> (try subst hc) <;> (first | refine h3d rfl rfl rfl rfl ?_ | (refine h2i rfl rfl rfl ?_; (first | (refine q_k (by apply h0l (t:=41); exact rfl; (focus (repeat (first | exact fd0 | (with_reducible assumption) | apply fdA | apply fdS))); kernel_rfl; kernel_rfl; exact h2a) ?_))))))) <;> (try refine h0a ?_; (first | refine h3d rfl rfl rfl rfl ?_ | (refine h3s rfl rfl rfl ?_) | (refine h2i rfl rfl rfl ?_; (first | (refine q_k (by exact q_b (r:=by first | (refine h0g ?_; first | rfl | (with_reducible assumption) | (decide; done)) | (exact h0e q_o) | exact h1b)) ?_))) | ((first | (refine h1r rfl rfl (fun hc => ?_) (fun hc => ?_)) | (refine h2b rfl rfl (fun hc => ?_) (fun hc => ?_)) | (refine h2w rfl rfl (fun hc => ?_) (fun hc => ?_))) <;> (try subst hc) <;> (first | refine h3d rfl rfl rfl rfl ?_ | (refine h2i rfl rfl rfl ?_; (first | (refine q_k (by exact q_b (r:=by first | (refine h0g ?_; first | rfl | (with_reducible assumption) | (decide; done)) | (exact h0e q_o) | exact h1b)) ?_))))))) <;> (try refine h0a ?_; (first | (refine q_k (h5l rfl rfl) ?_))) <;> (try refine h0a ?_; (first | (refine q_k (h0c rfl) ?_))) <;> (try refine h0a ?_; (first | refine h3d rfl rfl rfl rfl ?_ | (refine h3s rfl rfl rfl ?_) | (refine h2i rfl rfl rfl ?_; (first | (refine q_k (by first | (exact q_f h1o) | (exact q_g h1o)) ?_))) | ((first | (refine h1r rfl rfl (fun hc => ?_) (fun hc => ?_)) | (refine h2b rfl rfl (fun hc => ?_) (fun hc => ?_)) | (refine h2w rfl rfl (fun hc => ?_) (fun hc => ?_))) <;> (try subst hc) <;> (first | refine h3d rfl rfl rfl rfl ?_ | (refine h2i rfl rfl rfl ?_; (first | (refine q_k (by first | (exact q_f h1o) | (exact q_g h1o)) ?_))))))) <;> (try refine h0a ?_; (first | refine h3d rfl rfl rfl rfl ?_ | (refine h3s rfl rfl rfl ?_) | (refine h2i rfl rfl rfl ?_; (first | (refine q_k (by apply h0l (t:=22); exact rfl; (focus (repeat (first | exact fd0 | (with_reducible assumption) | apply fdA | apply fdS))); kernel_rfl; kernel_rfl; exact h2a) ?_))) | ((first | (refine h1r rfl rfl (fun hc => ?_) (fun hc => ?_)) | (refine h2b rfl rfl (fun hc => ?_) (fun hc => ?_)) | (refine h2w rfl rfl (fun hc => ?_) (fun hc => ?_))) <;> (try subst hc) <;> (first | refine h3d rfl rfl rfl rfl ?_ | (refine h2i rfl rfl rfl ?_; (first | (refine q_k (by apply h0l (t:=22); exact rfl; (focus (repeat (first | exact fd0 | (with_reducible assumption) | apply fdA | apply fdS))); kernel_rfl; kernel_rfl; exact h2a) ?_))))))) <;> (try refine h0a ?_; (first | refine h3d rfl rfl rfl rfl ?_ | (refine h3s rfl rfl rfl ?_) | (refine h2i rfl rfl rfl ?_; (first | (refine q_k (by exact q_b (r:=by first | (exact h5v q_o) | (exact h4m q_o) | exact rb_geq)) ?_))) | ((first | (refine h1r rfl rfl (fun hc => ?_) (fun hc => ?_)) | (refine h2b rfl rfl (fun hc => ?_) (fun hc => ?_)) | (refine h2w rfl rfl (fun hc => ?_) (fun hc => ?_))) <;> (try subst hc) <;> (first | refine h3d rfl rfl rfl rfl ?_ | (refine h2i rfl rfl rfl ?_; (first | (refine q_k (by exact q_b (r:=by first | (exact h5v q_o) | (exact h4m q_o) | exact rb_geq)) ?_))))))) <;> (try refine h0a ?_; (first | (refine q_k (h5l rfl rfl) ?_))) <;> (try refine h0a ?_; (first | (refine q_k (h0d rfl) ?_))) <;> (try refine h0b ?_)) | (refine gR 15 ?_ <;> (try refine h0a ?_; (first | (refine q_k (h0d rfl) ?_))) <;> (try refine h0b ?_)) | (refine gR 16 ?_ <;> (try refine h0a ?_; (first | (refine q_k (h0d rfl) ?_))) <;> (try refine h0b ?_)) | ((first | (refine h1w rfl (fun hc => ?_) (fun hc => ?_)) | (refine h2e rfl (fun hc => ?_) (fun hc => ?_)) | (refine h3i rfl (fun hc => ?_) (fun hc => ?_))) <;> (try subst hc)))
 all_goals (refine h2k Try.results52 (.tmp rfl .nil) ⟨L, ⟨?_, rfl⟩, fun _ H => H.tail⟩; refine congrArg (Value.int .i64) ?_; unfold one; first | (simp [*]; done) | (simp_all; done) | (simp_all; omega))
def ways (i : Ins) (at_ : Nat) : List Nat :=
 if i.code % 8 = 6 then [] else if i.code = 5 then [at_ + 1 + i.k.toNat] else if i.code % 8 = 5 then [at_ + 1 + i.jt.toNat, at_ + 1 + i.jf.toNat] else [at_ + 1]
def ints (l : List Nat) : List Value := l.map fun (x : Nat) => Value.int .i64 (x : Int)
def u16s (l : List Int) : List Value := l.map fun x => Value.int .u16 x
def flat (l : List Ins) : List Value := l.flatMap Ins.cells
def isLd (i : Ins) : Bool := i.code = 96 || i.code = 97
def isSt (i : Ins) : Bool := i.code = 2 || i.code = 3
def shl1 (k : Int) : Int := IntKind.u16.wrap (1 * 2 ^ (min k.toNat 16))
def bit (x k : Int) : Int := iand (x.fdiv (2 ^ (min k.toNat 16))) 1
def nowOf (i : Ins) (now : Int) : Int := if isSt i then ior now (shl1 i.k) else now
def h5c (ws : List Nat) (now : Int) (st : List Int) : List Int := ws.foldl (fun st x => st.set x (iand (st.getD x 0) now)) st
def loadsGo : List Ins → Nat → List Int → Int × Int
 | [], _, _ => (0, 0)
 | i :: r, at_, st =>
  if isLd i && bit (st.getD at_ 0) i.k = 0 then (at_, 2)
  else loadsGo r (at_ + 1) (h5c (ways i at_) (nowOf i (st.getD at_ 0)) st)
def loads (l : List Ins) : Int × Int := loadsGo l 0 ((List.replicate l.length 65535).set 0 0)
def h4k (n : Nat) : List Ins → Nat → Option (Int × Int)
 | [], _ => none
 | i :: r, at_ => if one i at_ n ≠ 0 then some (at_, one i at_ n) else h4k n r (at_ + 1)
theorem h4y (n : Nat) (i : Ins) (r : List Ins) (at_ : Nat) : h4k n (i :: r) at_ = if one i at_ n ≠ 0 then some ((at_ : Int), one i at_ n) else h4k n r (at_ + 1) := rfl
def isRet (i : Ins) : Bool := i.code % 8 = 6
def check (l : List Ins) : Int × Int :=
 if l.length = 0 then (0, 203) else if l.length > 4096 then (4096, 205) else
 match h4k l.length l 0 with
 | some r => r
 | none => if isRet (l.getD (l.length - 1) ⟨0, 0, 0, 0⟩) then loads l else ((l.length : Int) - 1, 209)
def wrongV (r : Int × Int) : Value := .agg #[.int .i64 r.1, .int .i64 r.2]
theorem flat_at (l : List Ins) (k : Nat) (h : k < l.length) : ((flat l).drop (k * 4)).take 4 = (l[k]).cells := by
 induction l generalizing k with
 | nil => simp at h
 | cons i l ih =>
  cases k with
  | zero => simp [flat, List.flatMap_cons, Ins.cells]
  | succ k =>
   have := ih k (by simpa using h)
   simp only [flat, List.flatMap_cons, List.getElem_cons_succ] at this ⊢
   have e : (k + 1) * 4 = i.cells.length + k * 4 := by simp [Ins.cells]; omega
   rw [e, ← List.drop_drop, List.drop_left]; exact this
theorem ways_le (i : Ins) (k : Nat) : (ways i k).length ≤ 2 := by unfold ways; repeat (first | split | simp)
theorem meetAll_succ (ws : List Nat) (j : Nat) (h : j < ws.length) (nw : Int) (st : List Int) :
  h5c (ws.take (j + 1)) nw st = (h5c (ws.take j) nw st).set ws[j] (iand ((h5c (ws.take j) nw st).getD ws[j] 0) nw) := by
 unfold h5c
 rw [List.take_succ_eq_append_getElem h, List.foldl_append]
 rfl
theorem meetAll_len (ws : List Nat) (nw : Int) (st : List Int) : (h5c ws nw st).length = st.length := by
 unfold h5c
 induction ws generalizing st with
 | nil => rfl
 | cons x ws ih => rw [List.foldl_cons, ih]; simp
theorem iand_rng {x y : Int} (h : 0 ≤ x ∧ x < 65536) : 0 ≤ iand x y ∧ iand x y < 65536 := by have := iand_le x y h.1; omega
theorem meetAll_rng (ws : List Nat) (nw : Int) (st : List Int) (h : ∀ x ∈ st, 0 ≤ x ∧ x < 65536) : ∀ x ∈ h5c ws nw st, 0 ≤ x ∧ x < 65536 := by
 unfold h5c
 induction ws generalizing st with
 | nil => exact h
 | cons y ws ih =>
  rw [List.foldl_cons]
  refine ih _ fun x hx => ?_
  rcases List.mem_or_eq_of_mem_set hx with h1 | rfl
  ·exact h x h1
  ·refine iand_rng ?_
   rw [List.getD_eq_getElem?_getD]
   cases hq : st[y]? with
   | none => simp
   | some z => exact h z (List.mem_of_getElem? hq)
theorem u16s_set (st : List Int) (k : Nat) (x : Int) : (u16s st).set k (.int .u16 x) = u16s (st.set k x) := by simp [u16s, List.map_set]
theorem u16s_get {st : List Int} {k : Nat} {x : Int} (h : st[k]? = some x) : (u16s st).toArray.toList[k]? = some (.int .u16 x) := by simp [u16s, h]
theorem ints_get {l : List Nat} {k x : Nat} (h : l[k]? = some x) : (ints l)[k]? = some (.int .i64 (x : Int)) := by simp [ints, h]
theorem fdiv_rng {x : Int} (n : Nat) (h : 0 ≤ x ∧ x < 65536) : 0 ≤ x.fdiv (2 ^ n) ∧ x.fdiv (2 ^ n) < 65536 := by
 have h2 : (0 : Int) < 2 ^ n := Int.pow_pos (by omega)
 rw [Int.fdiv_eq_ediv_of_nonneg _ (by omega)]
 exact ⟨Int.ediv_nonneg h.1 (by omega), by have := Int.ediv_le_self (2 ^ n) h.1; omega⟩
theorem u16_rng (x : Int) : 0 ≤ IntKind.u16.wrap x ∧ IntKind.u16.wrap x < 65536 := by
 simp only [IntKind.wrap, IntKind.bits, IntKind.signed]; simp; omega
theorem now_rng {i : Ins} {x : Int} (h : 0 ≤ x ∧ x < 65536) : 0 ≤ nowOf i x ∧ nowOf i x < 65536 := by
 unfold nowOf
 split
 ·exact ior_lt x _ 16 h (u16_rng _)
 ·exact h
theorem firstBad_none {n : Nat} : ∀ {l : List Ins} {at_ : Nat}, h4k n l at_ = none → ∀ k (h : k < l.length), one l[k] ((at_ + k : Nat) : Int) n = 0
 | [], _, _, k, h => by simp at h
 | i :: r, at_, h, k, hk => by
  unfold h4k at h
  split at h
  ·simp at h
  ·rename_i h0
   cases k with
   | zero => simpa using h0
   | succ k =>
    have := firstBad_none h k (by simpa using hk)
    simpa [Nat.add_assoc, Nat.add_comm 1 k] using this
theorem ways_in {i : Ins} (hi : i.ok) {at_ n : Nat} (h : one i at_ n = 0) (hl : isRet i = true ∨ at_ + 1 < n) : ∀ x ∈ ways i at_, at_ < x ∧ x < n := by
 obtain ⟨c, jt, jf, k⟩ := i
 obtain ⟨hc, ht, hf, hk⟩ := hi
 intro x hx
 simp only [one, ways, isRet] at *
 split at hx
 ·simp at hx
 ·rename_i h6
  split at hx
  ·rename_i h5
   subst h5
   simp only [List.mem_singleton] at hx
   split at h
   ·omega
   ·split at h
    ·omega
    ·rename_i h7
     simp only [true_and, ge_iff_le, Int.not_le] at h7
     omega
  ·rename_i h5
   split at hx
   ·rename_i h55
    split at h
    ·omega
    ·split at h
     ·omega
     ·split at h
      ·omega
      ·rename_i h7
       simp only [h55, h5, ne_eq, not_false_eq_true, true_and, ge_iff_le, Int.not_le] at h7
       simp only [List.mem_cons, List.not_mem_nil, or_false] at hx
       omega
   ·simp only [List.mem_singleton] at hx
    simp only [h6, decide_false, Bool.false_eq_true, false_or] at hl
    omega
theorem ways_lt {l : List Ins} (hl : ∀ i ∈ l, i.ok) (hb : h4k l.length l 0 = none) (hr : isRet (l.getD (l.length - 1) ⟨0, 0, 0, 0⟩) = true) (k : Nat) (hk : k < l.length) : ∀ x ∈ ways l[k] k, k < x ∧ x < l.length := by
 have h1 := firstBad_none hb k hk
 rw [Nat.zero_add] at h1
 refine ways_in (hl _ (List.getElem_mem _)) h1 ?_
 by_cases hkk : k + 1 < l.length
 ·exact .inr hkk
 ·left
  have : l.length - 1 = k := by omega
  rw [this] at hr
  simpa [List.getD_eq_getElem?_getD, List.getElem?_eq_getElem hk] using hr
theorem return_c {S w0 L} (k : Int) : Fn Try.prog 11 #[.int .u32 k] S w0 L fun v L' => v = (Ins.mk 6 0 0 k).v ∧ L = L' := by
 refine Fn1 Try.func11 Try.ntmps11 rfl rfl ?_
 repeat' (first | refine h1k ?_ | refine h0b ?_ | refine h0k ?_ | refine h1g ?_ | refine h1y ?_ | refine h2o ?_ | refine h1m ?_ | refine h1n ?_ | refine h0y ?_ | refine h1u ?_ | refine h1t ?_ | refine h2r rfl ?_ | refine h0q ?_ | refine h1j ?_ | refine h2p ?_ | refine h2v ?_ | refine h0o rfl ?_ | refine h0n rfl ?_ | (refine gR 0 ?_ <;> (try refine h0a ?_; (first | (refine h0u (t:=43) rfl Try.zeroValue43 ?_; intro nb hnb; (try simp only [Value.cells])))) <;> (try refine h0b ?_)) | (refine gR 1 ?_ <;> (try refine h0a ?_; (first | (refine q_k (h0c rfl) ?_))) <;> (try refine h0a ?_; (first | (refine q_k (by exact h1s (t:=43) (fun vs => (match vs with | [(_, x0), (_, x1)] => [x0, Value.int .u8 0, Value.int .u8 0, x1] | _ => [])) rfl (fun w => by kernel_rfl)) ?_; (try simp only [Value.cells]); (try simp only [zzC, zzN])))) <;> (try refine h0a ?_; (first | (first | (apply h1a (t:=43); exact rfl; exact rfl; (focus (repeat (first | exact fd0 | (with_reducible assumption) | apply fdA | apply fdS))); kernel_rfl; exact h5m; (focus (first | (with_reducible assumption) | exact rfl | (simp; done) | (simp [h0z, h0s, h1c, h1d, h1v, h1e, *]; done))); (try simp only [List.set_cons_succ]); (try simp only [List.set_cons_zero])) | (apply h1f (t:=43); exact rfl; exact rfl; (focus (repeat (first | exact fd0 | (with_reducible assumption) | apply fdA | apply fdS))); exact h2n; exact h2a; (focus (first | (with_reducible assumption) | (focus (first | (with_reducible assumption) | exact rfl | (simp; done) | (simp [h0z, h0s, h1c, h1d, h1v, h1e, *]; done))))); exact h2s; (try simp only [List.set_cons_succ]); (try simp only [List.set_cons_zero]))))) <;> (try refine h0b ?_)) | ((first | (refine h1w rfl (fun hc => ?_) (fun hc => ?_)) | (refine h2e rfl (fun hc => ?_) (fun hc => ?_)) | (refine h3i rfl (fun hc => ?_) (fun hc => ?_))) <;> (try subst hc)))
 (apply h6f Try.results11; exact rfl; (focus (repeat (first | exact fd0 | (with_reducible assumption) | apply fdA | apply fdS))); kernel_rfl; kernel_rfl; exact h2n; exact c_20)
 exact ⟨L, ⟨rfl, rfl⟩, h1h⟩
theorem load_c {S w0 L} (k : Int) : Fn Try.prog 25 #[.int .u32 k] S w0 L fun v L' => v = (Ins.mk 32 0 0 k).v ∧ L = L' := by
 refine Fn1 Try.func25 Try.ntmps25 rfl rfl ?_
 repeat' (first | refine h1k ?_ | refine h0b ?_ | refine h0k ?_ | refine h1g ?_ | refine h1y ?_ | refine h2o ?_ | refine h1m ?_ | refine h1n ?_ | refine h0y ?_ | refine h1u ?_ | refine h1t ?_ | refine h2r rfl ?_ | refine h0q ?_ | refine h1j ?_ | refine h2p ?_ | refine h2v ?_ | refine h0o rfl ?_ | refine h0n rfl ?_ | (refine gR 0 ?_ <;> (try refine h0a ?_; (first | (refine h0u (t:=43) rfl Try.zeroValue43 ?_; intro nb hnb; (try simp only [Value.cells])))) <;> (try refine h0b ?_)) | (refine gR 1 ?_ <;> (try refine h0a ?_; (first | (refine q_k (h0c rfl) ?_))) <;> (try refine h0a ?_; (first | (refine q_k (by exact h1s (t:=43) (fun vs => (match vs with | [(_, x0), (_, x1)] => [x0, Value.int .u8 0, Value.int .u8 0, x1] | _ => [])) rfl (fun w => by kernel_rfl)) ?_; (try simp only [Value.cells]); (try simp only [zzC, zzN])))) <;> (try refine h0a ?_; (first | (first | (apply h1a (t:=43); exact rfl; exact rfl; (focus (repeat (first | exact fd0 | (with_reducible assumption) | apply fdA | apply fdS))); kernel_rfl; exact h5m; (focus (first | (with_reducible assumption) | exact rfl | (simp; done) | (simp [h0z, h0s, h1c, h1d, h1v, h1e, *]; done))); (try simp only [List.set_cons_succ]); (try simp only [List.set_cons_zero])) | (apply h1f (t:=43); exact rfl; exact rfl; (focus (repeat (first | exact fd0 | (with_reducible assumption) | apply fdA | apply fdS))); exact h2n; exact h2a; (focus (first | (with_reducible assumption) | (focus (first | (with_reducible assumption) | exact rfl | (simp; done) | (simp [h0z, h0s, h1c, h1d, h1v, h1e, *]; done))))); exact h2s; (try simp only [List.set_cons_succ]); (try simp only [List.set_cons_zero]))))) <;> (try refine h0b ?_)) | ((first | (refine h1w rfl (fun hc => ?_) (fun hc => ?_)) | (refine h2e rfl (fun hc => ?_) (fun hc => ?_)) | (refine h3i rfl (fun hc => ?_) (fun hc => ?_))) <;> (try subst hc)))
 (apply h6f Try.results25; exact rfl; (focus (repeat (first | exact fd0 | (with_reducible assumption) | apply fdA | apply fdS))); kernel_rfl; kernel_rfl; exact h2n; exact c_20)
 exact ⟨L, ⟨rfl, rfl⟩, h1h⟩
theorem skip_c {S w0 L} (k : Int) : Fn Try.prog 88 #[.int .u32 k] S w0 L fun v L' => v = (Ins.mk 5 0 0 k).v ∧ L = L' := by
 refine Fn1 Try.func88 Try.ntmps88 rfl rfl ?_
 repeat' (first | refine h1k ?_ | refine h0b ?_ | refine h0k ?_ | refine h1g ?_ | refine h1y ?_ | refine h2o ?_ | refine h1m ?_ | refine h1n ?_ | refine h0y ?_ | refine h1u ?_ | refine h1t ?_ | refine h2r rfl ?_ | refine h0q ?_ | refine h1j ?_ | refine h2p ?_ | refine h2v ?_ | refine h0o rfl ?_ | refine h0n rfl ?_ | (refine gR 0 ?_ <;> (try refine h0a ?_; (first | (refine h0u (t:=43) rfl Try.zeroValue43 ?_; intro nb hnb; (try simp only [Value.cells])))) <;> (try refine h0b ?_)) | (refine gR 1 ?_ <;> (try refine h0a ?_; (first | (refine q_k (h0c rfl) ?_))) <;> (try refine h0a ?_; (first | (refine q_k (by exact h1s (t:=43) (fun vs => (match vs with | [(_, x0), (_, x1)] => [x0, Value.int .u8 0, Value.int .u8 0, x1] | _ => [])) rfl (fun w => by kernel_rfl)) ?_; (try simp only [Value.cells]); (try simp only [zzC, zzN])))) <;> (try refine h0a ?_; (first | (first | (apply h1a (t:=43); exact rfl; exact rfl; (focus (repeat (first | exact fd0 | (with_reducible assumption) | apply fdA | apply fdS))); kernel_rfl; exact h5m; (focus (first | (with_reducible assumption) | exact rfl | (simp; done) | (simp [h0z, h0s, h1c, h1d, h1v, h1e, *]; done))); (try simp only [List.set_cons_succ]); (try simp only [List.set_cons_zero])) | (apply h1f (t:=43); exact rfl; exact rfl; (focus (repeat (first | exact fd0 | (with_reducible assumption) | apply fdA | apply fdS))); exact h2n; exact h2a; (focus (first | (with_reducible assumption) | (focus (first | (with_reducible assumption) | exact rfl | (simp; done) | (simp [h0z, h0s, h1c, h1d, h1v, h1e, *]; done))))); exact h2s; (try simp only [List.set_cons_succ]); (try simp only [List.set_cons_zero]))))) <;> (try refine h0b ?_)) | ((first | (refine h1w rfl (fun hc => ?_) (fun hc => ?_)) | (refine h2e rfl (fun hc => ?_) (fun hc => ?_)) | (refine h3i rfl (fun hc => ?_) (fun hc => ?_))) <;> (try subst hc)))
 (apply h6f Try.results88; exact rfl; (focus (repeat (first | exact fd0 | (with_reducible assumption) | apply fdA | apply fdS))); kernel_rfl; kernel_rfl; exact h2n; exact c_20)
 exact ⟨L, ⟨rfl, rfl⟩, h1h⟩
theorem if_c {S w0 L} (how k jt jf : Int) (h : 0 ≤ how ∧ how < 65536) : Fn Try.prog 23 #[.int .u16 how, .int .u32 k, .int .u8 jt, .int .u8 jf] S w0 L fun v L' => v = (Ins.mk (ior (ior 5 how) 0) jt jf k).v ∧ L = L' := by
 have h1 := ior_lt 5 how 16 (by omega) (by omega)
 refine Fn4 Try.func23 Try.ntmps23 rfl rfl ?_
 repeat' (first | refine h1k ?_ | refine h0b ?_ | refine h0k ?_ | refine h1g ?_ | refine h1y ?_ | refine h2o ?_ | refine h1m ?_ | refine h1n ?_ | refine h0y ?_ | refine h1u ?_ | refine h1t ?_ | refine h2r rfl ?_ | refine h0q ?_ | refine h1j ?_ | refine h2p ?_ | refine h2v ?_ | refine h0o rfl ?_ | refine h0n rfl ?_ | (refine gR 0 ?_ <;> (try refine h0a ?_; (first | (refine h0u (t:=43) rfl Try.zeroValue43 ?_; intro nb hnb; (try simp only [Value.cells])))) <;> (try refine h0b ?_)) | (refine gR 1 ?_ <;> (try refine h0a ?_; (first | (refine q_k (h0c rfl) ?_))) <;> (try refine h0a ?_; (first | (refine q_k (q_b (r:=by refine rb_or ?_ ?_; (focus (refine ⟨rfl, ⟨?_, ?_⟩⟩; (omega); (focus (simp only [IntKind.bits]; omega)))); (focus (refine ⟨rfl, ⟨?_, ?_⟩⟩; (omega); (focus (simp only [IntKind.bits]; omega)))))) ?_))) <;> (try refine h0a ?_; (first | (refine q_k (q_b (r:=by refine rb_or ?_ ?_; (focus (refine ⟨rfl, ⟨?_, ?_⟩⟩; (omega); (focus (simp only [IntKind.bits]; omega)))); (focus (refine ⟨rfl, ⟨?_, ?_⟩⟩; (omega); (focus (simp only [IntKind.bits]; omega)))))) ?_))) <;> (try refine h0a ?_; (first | (refine q_k (h0c rfl) ?_))) <;> (try refine h0a ?_; (first | (refine q_k (h0c rfl) ?_))) <;> (try refine h0a ?_; (first | (refine q_k (h0c rfl) ?_))) <;> (try refine h0a ?_; (first | (refine q_k (by exact h1s (t:=43) (fun vs => (match vs with | [(_, x0), (_, x1), (_, x2), (_, x3)] => [x0, x1, x2, x3] | _ => [])) rfl (fun w => by kernel_rfl)) ?_; (try simp only [Value.cells]); (try simp only [zzC, zzN])))) <;> (try refine h0a ?_; (first | (first | (apply h1a (t:=43); exact rfl; exact rfl; (focus (repeat (first | exact fd0 | (with_reducible assumption) | apply fdA | apply fdS))); kernel_rfl; exact h5m; (focus (first | (with_reducible assumption) | exact rfl | (simp; done) | (simp [h0z, h0s, h1c, h1d, h1v, h1e, *]; done))); (try simp only [List.set_cons_succ]); (try simp only [List.set_cons_zero])) | (apply h1f (t:=43); exact rfl; exact rfl; (focus (repeat (first | exact fd0 | (with_reducible assumption) | apply fdA | apply fdS))); exact h2n; exact h2a; (focus (first | (with_reducible assumption) | (focus (first | (with_reducible assumption) | exact rfl | (simp; done) | (simp [h0z, h0s, h1c, h1d, h1v, h1e, *]; done))))); exact h2s; (try simp only [List.set_cons_succ]); (try simp only [List.set_cons_zero]))))) <;> (try refine h0b ?_)) | ((first | (refine h1w rfl (fun hc => ?_) (fun hc => ?_)) | (refine h2e rfl (fun hc => ?_) (fun hc => ?_)) | (refine h3i rfl (fun hc => ?_) (fun hc => ?_))) <;> (try subst hc)))
 (apply h6f Try.results23; exact rfl; (focus (repeat (first | exact fd0 | (with_reducible assumption) | apply fdA | apply fdS))); kernel_rfl; kernel_rfl; exact h2n; exact c_20)
 exact ⟨L, ⟨rfl, rfl⟩, h1h⟩
theorem mask_c {S w0 L} (k : Int) : Fn Try.prog 46 #[.int .u32 k] S w0 L fun v L' => v = (Ins.mk 84 0 0 k).v ∧ L = L' := by
 refine Fn1 Try.func46 Try.ntmps46 rfl rfl ?_
 repeat' (first | refine h1k ?_ | refine h0b ?_ | refine h0k ?_ | refine h1g ?_ | refine h1y ?_ | refine h2o ?_ | refine h1m ?_ | refine h1n ?_ | refine h0y ?_ | refine h1u ?_ | refine h1t ?_ | refine h2r rfl ?_ | refine h0q ?_ | refine h1j ?_ | refine h2p ?_ | refine h2v ?_ | refine h0o rfl ?_ | refine h0n rfl ?_ | (refine gR 0 ?_ <;> (try refine h0a ?_; (first | (refine h0u (t:=43) rfl Try.zeroValue43 ?_; intro nb hnb; (try simp only [Value.cells])))) <;> (try refine h0b ?_)) | (refine gR 1 ?_ <;> (try refine h0a ?_; (first | (refine q_k (h0c rfl) ?_))) <;> (try refine h0a ?_; (first | (refine q_k (by exact h1s (t:=43) (fun vs => (match vs with | [(_, x0), (_, x1)] => [x0, Value.int .u8 0, Value.int .u8 0, x1] | _ => [])) rfl (fun w => by kernel_rfl)) ?_; (try simp only [Value.cells]); (try simp only [zzC, zzN])))) <;> (try refine h0a ?_; (first | (first | (apply h1a (t:=43); exact rfl; exact rfl; (focus (repeat (first | exact fd0 | (with_reducible assumption) | apply fdA | apply fdS))); kernel_rfl; exact h5m; (focus (first | (with_reducible assumption) | exact rfl | (simp; done) | (simp [h0z, h0s, h1c, h1d, h1v, h1e, *]; done))); (try simp only [List.set_cons_succ]); (try simp only [List.set_cons_zero])) | (apply h1f (t:=43); exact rfl; exact rfl; (focus (repeat (first | exact fd0 | (with_reducible assumption) | apply fdA | apply fdS))); exact h2n; exact h2a; (focus (first | (with_reducible assumption) | (focus (first | (with_reducible assumption) | exact rfl | (simp; done) | (simp [h0z, h0s, h1c, h1d, h1v, h1e, *]; done))))); exact h2s; (try simp only [List.set_cons_succ]); (try simp only [List.set_cons_zero]))))) <;> (try refine h0b ?_)) | ((first | (refine h1w rfl (fun hc => ?_) (fun hc => ?_)) | (refine h2e rfl (fun hc => ?_) (fun hc => ?_)) | (refine h3i rfl (fun hc => ?_) (fun hc => ?_))) <;> (try subst hc)))
 (apply h6f Try.results46; exact rfl; (focus (repeat (first | exact fd0 | (with_reducible assumption) | apply fdA | apply fdS))); kernel_rfl; kernel_rfl; exact h2n; exact c_20)
 exact ⟨L, ⟨rfl, rfl⟩, h1h⟩
def PlainKey : TypeDesc → Value → Prop
 | .int k, .int k' _ => k' = k
 | .string, .string _ => True
 | _, _ => False
section
variable {P : Program} {o : Oper} {a : Act} {w w0 : World} {K : Act → World → Prop} {Q : Exit → Act → World → Prop} {S : List Nat} {L : List Blk} {ops : Array Oper} {rest : List Oper}
theorem run_checkKey_plain {e : Bool} {key : TypeId} {d : TypeDesc} {v : Value} (hk : P.underlying key = some d) (hp : PlainKey d v) (w : World) : (Instr.checkKey e 10000 key v).run P w = .ok () w := by
 show (Instr.checkKey e (9999 + 1) key v).run P w = .ok () w
 unfold Instr.checkKey
 rw [Sem.run_bind, run_underlying hk w]
 cases d <;> cases v <;> simp_all [PlainKey]
theorem run_findKey {key : TypeId} {d : TypeDesc} {v : Value} {es : List MapEntry} {r : Option (Nat × Value)} (hk : P.underlying key = some d) (hf : Instr.findNow d v es 0 = some r) (w : World) :
  (Instr.findKey key v es).run P w = .ok r w := by
 unfold Instr.findKey
 rw [Sem.run_bind, run_underlying hk w]
 simp [hf]
theorem run_getObj_map {b : Nat} {es : Array MapEntry} {c : Nat} (h : w.heap[b]? = some (.map es c)) : (getObj b).run P w = .ok (.map es c) w := by
 simp only [getObj, Sem.run, h]
def found (r : Option (Nat × Value)) (z : Value) : Value := match r with | some (_, v) => v | none => z
theorem run_lookup (H : HP S w0 w L) (i : Nat) {t key elem : TypeId} {d : TypeDesc} {q : Bool} {b : Nat} {es : Array MapEntry} {c : Nat} {kv z : Value} {r : Option (Nat × Value)} {ok : Bool}
  (ht : P.underlying t = some (.map key elem)) (hk : P.underlying key = some d) (hp : PlainKey d kv) (hz : ∀ w, (zeroValue elem).run P w = .ok z w)
  (hi : L[i]? = some ⟨q, b, .map es c⟩) (hf : Instr.findNow d kv es.toList 0 = some r) :
  (Instr.lookup t (.map (some b)) kv ok).run P w = .ok (if ok then .tuple #[found r z, .bool r.isSome] else found r z) w := by
 unfold Instr.lookup
 simp only [Sem.run_bind, run_underlying ht, Result.andThen_ok, run_getObj_map (H.at_ i hi), Sem.run_pure, run_checkKey_plain hk hp, run_findKey hk hf]
 cases r with
 | none => cases ok <;> simp [found, hz]
 | some p => cases ok <;> simp [found]
end
def mkE : List (Value × Value) → Nat → List MapEntry
 | [], _ => []
 | p :: r, i => { key := p.1, val := p.2, born := i } :: mkE r (i + 1)
abbrev mapB (b : Nat) (kvs : List (Value × Value)) : Blk := ⟨true, b, .map (mkE kvs 0).toArray kvs.length⟩
def fd (d : TypeDesc) (k : Value) : List (Value × Value) → Nat → Option (Option (Nat × Value))
 | [], _ => some none
 | p :: r, i => match Instr.sameNow d k p.1 with
  | some true => some (some (i, p.2))
  | some false => fd d k r (i + 1)
  | none => none
theorem fd_eq (d : TypeDesc) (k : Value) (kvs : List (Value × Value)) (i j : Nat) : Instr.findNow d k (mkE kvs j) i = fd d k kvs i := by
 induction kvs generalizing i j with
 | nil => rfl
 | cons p r ih =>
  simp only [mkE, Instr.findNow, fd]
  cases h : Instr.sameNow d k p.1 with
  | none => rfl
  | some q => cases q with
   | true => rfl
   | false => exact ih _ _
theorem mkE_len (kvs : List (Value × Value)) (i : Nat) : (mkE kvs i).length = kvs.length := by
 induction kvs generalizing i with
 | nil => rfl
 | cons p r ih => simp [mkE, ih]
theorem mkE_app (kvs : List (Value × Value)) (p : Value × Value) (i : Nat) : mkE (kvs ++ [p]) i = mkE kvs i ++ [{ key := p.1, val := p.2, born := i + kvs.length }] := by
 induction kvs generalizing i with
 | nil => simp [mkE]
 | cons q r ih => simp only [List.cons_append, mkE, ih, List.length_cons]; rw [show i + 1 + r.length = i + (r.length + 1) by omega]
theorem mkE_get (kvs : List (Value × Value)) (i j : Nat) (p : Value × Value) (h : kvs[j]? = some p) : (mkE kvs i)[j]? = some { key := p.1, val := p.2, born := i + j } := by
 induction kvs generalizing i j with
 | nil => simp at h
 | cons q r ih =>
  cases j with
  | zero => simp at h; subst h; simp [mkE]
  | succ j =>
   simp only [List.getElem?_cons_succ] at h
   simp only [mkE, List.getElem?_cons_succ, ih (i + 1) j h]
   congr 2; omega
theorem mkE_set (kvs : List (Value × Value)) (i j : Nat) (p : Value × Value) (f : MapEntry → MapEntry) (hf : ∀ q, kvs[j]? = some q → f { key := q.1, val := q.2, born := i + j } = { key := p.1, val := p.2, born := i + j }) : (mkE kvs i).modify j f = mkE (kvs.set j p) i := by
 induction kvs generalizing i j with
 | nil => cases j <;> rfl
 | cons q r ih =>
  cases j with
  | zero => simp only [mkE, List.modify_zero_cons, List.set_cons_zero]; have := hf q (by simp); simp only [Nat.add_zero] at this; rw [this]
  | succ j =>
   simp only [mkE, List.modify_succ_cons, List.set_cons_succ]
   rw [ih (i + 1) j (fun q hq => by have := hf q (by simpa using hq); rw [show i + 1 + j = i + (j + 1) by omega]; exact this)]
theorem fd_get {d : TypeDesc} {k : Value} {kvs : List (Value × Value)} {i j : Nat} {v : Value} (h : fd d k kvs i = some (some (j, v))) : i ≤ j ∧ ∃ p, kvs[j - i]? = some p ∧ p.2 = v ∧ Instr.sameNow d k p.1 = some true := by
 induction kvs generalizing i with
 | nil => simp [fd] at h
 | cons q r ih =>
  simp only [fd] at h
  split at h
  ·rename_i hs
   simp only [Option.some.injEq, Prod.mk.injEq] at h
   obtain ⟨rfl, rfl⟩ := h
   exact ⟨Nat.le_refl _, q, by simp, rfl, hs⟩
  ·obtain ⟨h1, p, h2, h3⟩ := ih h
   refine ⟨by omega, p, ?_, h3⟩
   rw [show j - i = (j - (i + 1)) + 1 by omega, List.getElem?_cons_succ]; exact h2
  ·simp at h
theorem ba_beq (x y : ByteArray) : (x == y) = decide (x = y) := by
 show (x.data == y.data) = _
 cases x with | mk a => cases y with | mk b =>
 by_cases h : a = b
 ·subst h; simp
 ·have h2 : ¬ (ByteArray.mk a = ByteArray.mk b) := fun e => h (by injection e)
  simp [h2]; exact fun e => h e
theorem same_plain {d : TypeDesc} {k k' : Value} (hp : PlainKey d k) (h : Instr.sameNow d k k' = some true) : Instr.sameBits 10000 k' k = true ∧ k' = k := by
 cases d <;> cases k <;> simp [PlainKey] at hp <;> cases k' <;> simp_all [Instr.sameNow, Instr.sameBits, ba_beq]
section
variable {P : Program} {n : Nat} {l : List (Nat × Value)} {S : List Nat} {w0 : World} {L : List Blk} {K : Act → World → Prop} {kt : Kont} {ops : Array Oper} {d : Tmp} {ty : TypeId} {pos : String} {af : Array Edge}
theorem K1_makeMap {t : TypeId} (hd : Nat.blt d n = true) (h : ∀ nb, w0.heap.size ≤ nb → G n ((d, .map (some nb)) :: l) S w0 (mapB nb [] :: L) K) :
  G n l S w0 L (K1 P ops kt ⟨some d, .makeMap t none, ty, pos, af, none⟩ K) := .mk fun a w hf H => k1_want rfl <| by
 unfold Oper.wp execOp
 simp only [Option.map_none, Instr.makeMap, Sem.run_bind, Sem.run_pure, Result.andThen_ok, run_newObj]
 exact (h _ H.size).out _ _ (hf.put (some d) _ hd) (H.alloc _)
theorem E_lookup {t key elem : TypeId} {dd : TypeDesc} {x ix : Operand} {i b : Nat} {kvs : List (Value × Value)} {kv z : Value} {r : Option (Nat × Value)} (hx : ev l x = some (.map (some b))) (hk : ev l ix = some kv) (hi : L[i]? = some (mapB b kvs))
  (ht : P.underlying t = some (.map key elem)) (hkt : P.underlying key = some dd) (hp : PlainKey dd kv) (hz : ∀ w, (zeroValue elem).run P w = .ok z w) (hf : fd dd kv kvs 0 = some r) {fv : Value} {fb : Bool} (hfv : found r z = fv) (hfb : r.isSome = fb) :
  ValOf P n l S w0 L ⟨some d, .lookup t x ix true, ty, pos, af, none⟩ (h5a [fv, .bool fb]) :=
 ⟨fun a w hF H => by
  subst hfv
  subst hfb
  unfold execOp
  simp only [hF.eval hx, hF.eval hk, Sem.run_bind, run_lookup H i ht hkt hp hz hi (by simpa [fd_eq] using hf), Result.andThen_ok, Sem.run_pure]
  rfl⟩
theorem E_lookup1 {t key elem : TypeId} {dd : TypeDesc} {x ix : Operand} {i b : Nat} {kvs : List (Value × Value)} {kv z : Value} {r : Option (Nat × Value)} (hx : ev l x = some (.map (some b))) (hk : ev l ix = some kv) (hi : L[i]? = some (mapB b kvs))
  (ht : P.underlying t = some (.map key elem)) (hkt : P.underlying key = some dd) (hp : PlainKey dd kv) (hz : ∀ w, (zeroValue elem).run P w = .ok z w) (hf : fd dd kv kvs 0 = some r) {fv : Value} (hfv : found r z = fv) :
  ValOf P n l S w0 L ⟨some d, .lookup t x ix false, ty, pos, af, none⟩ fv :=
 ⟨fun a w hF H => by
  subst hfv
  unfold execOp
  simp only [hF.eval hx, hF.eval hk, Sem.run_bind, run_lookup H i ht hkt hp hz hi (by simpa [fd_eq] using hf), Result.andThen_ok, Sem.run_pure]
  rfl⟩
theorem E_makeFunc {fn : Go.Fn} {xs ys : List Operand} {vs us : List Value} (hx : evs l xs = some vs) (hy : evs l ys = some us) :
  ValOf P n l S w0 L ⟨some d, .makeFunc fn xs.toArray ys.toArray, ty, pos, af, none⟩ (.func fn vs.toArray us.toArray) :=
 ⟨fun a w hF H => by
  unfold execOp
  simp only [List.map_toArray, hF.evals hx, hF.evals hy, Instr.makeFunc, Sem.run_bind, Sem.run_pure, Result.andThen_ok]⟩
theorem HP.setMap {w : World} {i b : Nat} {es : Array MapEntry} {c : Nat} (H : HP S w0 w L) (hi : L[i]? = some ⟨true, b, .map es c⟩) (o' : Obj) : HP S w0 { w with heap := w.heap.setIfInBounds b o' } (L.set i ⟨true, b, o'⟩) := by
 have hb : b < w.heap.size := H.lt i hi
 exact H.turn i hi _ o' rfl rfl rfl (by simp) (by simp [hb]) (fun k hk => by rw [Array.getElem?_setIfInBounds, if_neg (fun e => hk (Eq.symm e))])
theorem run_setMap {w : World} {b : Nat} {es : Array MapEntry} {c : Nat} (hat : w.heap[b]? = some (.map es c)) (o' : Obj) : (setObj b o').run P w = .ok () { w with heap := w.heap.setIfInBounds b o' } := by
 simp only [setObj, Sem.run, hat]
def updE (kvs : List (Value × Value)) (kv v : Value) (r : Option (Nat × Value)) : List (Value × Value) :=
 match r with
 | some (i, _) => kvs.set i (kv, v)
 | none => kvs ++ [(kv, v)]
theorem K1_mapUpdate {t key elem : TypeId} {dd : TypeDesc} {x ix y : Operand} {i b : Nat} {kvs : List (Value × Value)} {kv v : Value} {r : Option (Nat × Value)} (hx : ev l x = some (.map (some b))) (hk : ev l ix = some kv) (hy : ev l y = some v) (hi : L[i]? = some (mapB b kvs))
  (ht : P.underlying t = some (.map key elem)) (hkt : P.underlying key = some dd) (hp : PlainKey dd kv) (hf : fd dd kv kvs 0 = some r)
  (h : G n l S w0 (L.set i (mapB b (updE kvs kv v r))) K) : G n l S w0 L (K1 P ops kt ⟨none, .mapUpdate t x ix y, ty, pos, af, none⟩ K) := .mk fun a w hF H => k1_want rfl <| by
 have hat := H.at_ i hi
 have hfn : Instr.findNow dd kv (mkE kvs 0) 0 = some r := by rw [fd_eq]; exact hf
 have hr : (Instr.mapUpdate t (.map (some b)) kv v).run P w = .ok () { w with heap := w.heap.setIfInBounds b (mapB b (updE kvs kv v r)).o } := by
  unfold Instr.mapUpdate
  simp only [Sem.run_bind, run_underlying ht, Result.andThen_ok, run_getObj_map hat, run_checkKey_plain hkt hp, run_findKey hkt hfn]
  cases r with
  | none =>
   simp only [updE, run_setMap hat]
   simp [mkE_app]
  | some p =>
   obtain ⟨j, u⟩ := p
   obtain ⟨_, q, hq, _, hsn⟩ := fd_get hf
   simp only [Nat.sub_zero] at hq
   obtain ⟨hsb, hqe⟩ := same_plain hp hsn
   have hg := mkE_get kvs 0 j q hq
   have e1 : (mkE kvs 0).modify j (fun e => { key := kv, val := v, born := e.born }) = mkE (kvs.set j (kv, v)) 0 := mkE_set kvs 0 j (kv, v) _ (fun _ _ => rfl)
   simp only [List.getElem?_toArray, hg, Option.map_some, Option.getD_some, Instr.keyThatStays, hsb, if_true, Sem.run_pure, Result.andThen_ok, updE, Sem.run_bind, run_setMap hat]
   congr 1
   simp [e1]
 have hgo : (execOp a.eval (⟨none, .mapUpdate t x ix y, ty, pos, af, none⟩ : Oper)).run P w = .ok .skip { w with heap := w.heap.setIfInBounds b (mapB b (updE kvs kv v r)).o } := by
  unfold execOp
  simp only [hF.eval hx, hF.eval hk, hF.eval hy, Sem.run_bind, hr, Result.andThen_ok, Sem.run_pure]
 unfold Oper.wp
 rw [hgo]
 exact h.out _ _ hF (H.setMap hi _)
theorem G_regionHc {i j id m : Nat} {os : List Oper} {Lb : List Blk} (hb : (L.eraseIdx i).eraseIdx j = Lb) (hm : P.follows .mixedOrders = true) (hl : os.length = m) (h : G n l S w0 L (KH P S w0 Lb os.toArray kt m (Array.replicate m false))) : G n l S w0 L (KC P (.region id os.toArray true) kt) := .mk fun a w hf H => by
 subst hl
 have _ := hb
 exact ⟨wp_region_held hm (by simpa using (h.out a _ hf H.drew).out)⟩
end
abbrev mapG (b : Nat) (es : List MapEntry) (c : Nat) : Blk := ⟨true, b, .map es.toArray c⟩
section
variable {P : Program} {n : Nat} {l : List (Nat × Value)} {S : List Nat} {w0 : World} {L : List Blk} {K : Act → World → Prop} {kt : Kont} {ops : Array Oper} {d : Tmp} {ty : TypeId} {pos : String} {af : Array Edge}
theorem E_lenG {t key elem : TypeId} {x : Operand} {i b c : Nat} {es : List MapEntry} (hx : ev l x = some (.map (some b))) (hi : L[i]? = some (mapG b es c)) (ht : P.underlying t = some (.map key elem)) :
  ValOf P n l S w0 L ⟨some d, .call { callee := .builtin .len, args := #[x], argTypes := #[t] }, ty, pos, af, none⟩ (.int .i64 es.length) :=
 ⟨fun a w hF H => by
  have hr : (Builtin.len_ #[t] ty #[.map (some b)]).run P w = .ok (.int .i64 es.length) w := by
   unfold Builtin.len_
   simp only [List.getElem?_toArray, List.getElem?_cons_zero, Sem.run_bind, run_underlying ht, Result.andThen_ok, run_getObj_map (H.at_ i hi), Sem.run_pure]
   rfl
  rw [BigFrame.execOp_builtin]
  simp only [List.map_toArray, List.map_cons, List.map_nil, hF.eval hx, builtin, Sem.run_bind, hr, Result.andThen_ok, Sem.run_pure]⟩
end
section
variable {P : Program} {n : Nat} {l : List (Nat × Value)} {S : List Nat} {w0 : World} {L : List Blk} {K : Act → World → Prop} {k : Kont} {ops : Array Oper} {d : Tmp} {ty : TypeId} {pos : String} {af : Array Edge}
theorem K1_makeSlice0 {x y : Operand} {t e bytes m : Nat} {i : TypeInfo} {z : Value} {zc : List Value} (hd : Nat.blt d n = true) (hx : ev l x = some (.int .i64 0)) (hy : ev l y = some (.int .i64 m)) (ht : P.underlying t = some (.slice e)) (hi : P.info? e = some i) (hz : i.zero = some z) (hs : i.size = zc.length) (hb : i.bytes = bytes)
  (hzc : z.cells = zc.toArray) (hm : bytes * m ≤ 281474976710656) (h63 : m ≤ maxLen)
  (h : ∀ v eA, Own e zc.length v 0 [] eA → G n ((d, v) :: l) S w0 (eA ++ L) K) :
  G n l S w0 L (K1 P ops k ⟨some d, .makeSlice t x y, ty, pos, af, none⟩ K) := .mk fun a w hf H => k1_want rfl <| by
  have h64 : m ≤ 9223372036854775807 := by unfold maxLen at h63; omega
  have hmb : (i.bytes : Int) * (m : Int) ≤ 281474976710656 := by
   have e1 : ((bytes * m : Nat) : Int) = (bytes : Int) * (m : Int) := Int.natCast_mul _ _
   rw [hb, ← e1]; omega
  have hr := run_make (P:=P) w t e i z ht hi hz .i64 .i64 0 m (by omega) (by omega) hmb (by omega)
  rw [hs, hzc, Int.toNat_natCast, made_flat] at hr
  unfold Oper.wp execOp
  simp only [hf.eval hx, hf.eval hy, Sem.run_bind, hr, Result.andThen_ok, Sem.run_pure]
  have ho := Own.of_block (E:=e) (size:=zc.length) (g:=w.heap.size) (n:=0) (cap:=m) (cur:=(List.replicate m zc).flatten.toArray) (Nat.zero_le _) h63 (by simp)
  rw [Nat.zero_mul, List.take_zero] at ho
  exact ((h _ [⟨true, w.heap.size, .cells (List.replicate m zc).flatten.toArray e (0, 0)⟩] ho).out _ _ (hf.put (some d) _ hd) (H.alloc _))
theorem E_lenB {t key elem : TypeId} {x : Operand} {i b : Nat} {kvs : List (Value × Value)} (hx : ev l x = some (.map (some b))) (hi : L[i]? = some (mapB b kvs)) (ht : P.underlying t = some (.map key elem)) :
  ValOf P n l S w0 L ⟨some d, .call { callee := .builtin .len, args := #[x], argTypes := #[t] }, ty, pos, af, none⟩ (.int .i64 kvs.length) := by
 have h := E_lenG (P:=P) (n:=n) (S:=S) (w0:=w0) (d:=d) (ty:=ty) (pos:=pos) (af:=af) (es:=mkE kvs 0) (c:=kvs.length) hx hi ht
 rwa [mkE_len] at h
end
theorem h5k {E size : Nat} {v : Value} {n : Nat} {xs : List Value} {e : List Blk} (h : Own E size v n xs e) :
  (v = .slice none 0 0 ∧ n = 0 ∧ xs = [] ∧ e = []) ∨ ∃ g cap cur, v = .slice (some ⟨g, 0, none⟩) n cap ∧ e = [⟨true, g, .cells cur E (0, 0)⟩] ∧ n ≤ cap ∧ cap ≤ maxLen ∧ cur.size = cap * size ∧ cur.toList.take (n * size) = xs := by
 obtain ⟨h1, h | h⟩ := h
 ·obtain ⟨a, b, c⟩ := h
  subst b
  rw [Nat.zero_mul] at h1
  exact .inl ⟨a, rfl, List.eq_nil_of_length_eq_zero h1, c⟩
 ·exact .inr h
theorem own_mk {E size n g cap : Nat} {cur : Array Value} {xs : List Value} (h1 : n ≤ cap) (h2 : cap ≤ maxLen) (h3 : cur.size = cap * size) (h4 : cur.toList.take (n * size) = xs) :
  Own E size (.slice (some ⟨g, 0, none⟩) n cap) n xs [⟨true, g, .cells cur E (0, 0)⟩] := by subst h4; exact Own.of_block h1 h2 h3
structure Prt where
 kind : Int
 to : Int
 els : Int
 ins : Ins
def Prt.cells (p : Prt) : List Value := [.int .u8 p.kind, .int .i64 p.to, .int .i64 p.els, .int .u16 p.ins.code, .int .u8 p.ins.jt, .int .u8 p.ins.jf, .int .u32 p.ins.k]
def Prt.v (p : Prt) : Value := .agg #[.int .u8 p.kind, .int .i64 p.to, .int .i64 p.els, .int .u16 p.ins.code, .int .u8 p.ins.jt, .int .u8 p.ins.jf, .int .u32 p.ins.k]
structure Prt.ok (p : Prt) : Prop where
 kind : 0 ≤ p.kind ∧ p.kind < 256
 to : -9223372036854775808 ≤ p.to ∧ p.to < 9223372036854775808
 els : -9223372036854775808 ≤ p.els ∧ p.els < 9223372036854775808
 ins : p.ins.ok
structure Mk where
 out : List Ins
 pl : List (Int × Int)
def look (n : Int) : List (Int × Int) → Option Int
 | [] => none
 | q :: r => if n = q.1 then some q.2 else look n r
def Mk.away (m : Mk) (n : Int) : Int := (m.out.length : Int) - ((look n m.pl).getD 0)
def Mk.hop (m : Mk) (n : Int) : Mk := { m with out := m.out ++ [⟨5, 0, 0, IntKind.u32.wrap n⟩] }
def Mk.put (m : Mk) (i : Ins) : Mk := { m with out := m.out ++ [i] }
def Mk.far2 (m : Mk) (p : Prt) (to h5w : Int) : Mk := m.put ⟨p.ins.code, to, h5w, p.ins.k⟩
def Mk.far1 (m : Mk) (p : Prt) (to h5w : Int) : Mk := if to > 253 then (m.hop to).far2 p 0 (h5w + 1) else m.far2 p to h5w
def Mk.far (m : Mk) (p : Prt) (to h5w : Int) : Mk := if h5w > 253 then (m.hop h5w).far1 p (to + 1) 0 else m.far1 p to h5w
def Mk.compare (m : Mk) (p : Prt) : Int × Mk :=
 if p.ins.code % 8 ≠ 5 ∨ p.ins.code = 5 then (210, m)
 else if (look p.to m.pl).isSome = false ∨ (look p.els m.pl).isSome = false then (207, m)
 else (0, m.far p (m.away p.to) (m.away p.els))
def Mk.part (m : Mk) (p : Prt) : Int × Mk :=
 if p.kind = 1 then
  if (look p.to m.pl).isSome then (206, m) else (0, { m with pl := m.pl ++ [(p.to, (m.out.length : Int))] })
 else if p.kind = 2 then
  if p.ins.code % 8 = 5 then (210, m) else (0, m.put p.ins)
 else if p.kind = 4 then
  if (look p.to m.pl).isSome = false then (207, m) else (0, m.hop (m.away p.to))
 else if p.kind = 3 then m.compare p
 else (210, m)
structure Mk.ok (m : Mk) : Prop where
 out : ∀ i ∈ m.out, i.ok
 pl : ∀ q ∈ m.pl, 0 ≤ q.2 ∧ q.2 ≤ (m.out.length : Int)
 le : m.out.length ≤ 4100
theorem look_mem {n x : Int} {pl : List (Int × Int)} (h : look n pl = some x) : (n, x) ∈ pl := by
 induction pl with
 | nil => simp [look] at h
 | cons q r ih =>
  unfold look at h
  split at h
  ·rename_i e; cases h; subst e; exact List.mem_cons_self ..
  ·exact List.mem_cons_of_mem _ (ih h)
theorem Mk.ok.look {m : Mk} (h : m.ok) (n : Int) : 0 ≤ (look n m.pl).getD 0 ∧ (Go.Proofs.Ytpbpgbkpciffgaa.look n m.pl).getD 0 ≤ (m.out.length : Int) := by
 cases e : Go.Proofs.Ytpbpgbkpciffgaa.look n m.pl with
 | none => simp
 | some x => exact h.pl _ (look_mem e)
def plV (pl : List (Int × Int)) : List (Value × Value) := pl.map fun q => (.int .i64 q.1, .int .i64 q.2)
theorem fd_pl (n : Int) (pl : List (Int × Int)) (i : Nat) : ∃ r, fd (.int .i64) (.int .i64 n) (plV pl) i = some r ∧ found r (.int .i64 0) = .int .i64 ((look n pl).getD 0) ∧ r.isSome = (look n pl).isSome := by
 induction pl generalizing i with
 | nil => exact ⟨none, rfl, rfl, rfl⟩
 | cons c r ih =>
  by_cases h : n = c.1
  ·exact ⟨some (i, .int .i64 c.2), by simp [plV, fd, Instr.sameNow, h], by simp [look, h, found], by simp [look, h]⟩
  ·obtain ⟨q, h1, h2, h3⟩ := ih (i + 1)
   have e : (n == c.1) = false := by simpa using h
   exact ⟨q, by simpa [plV, fd, Instr.sameNow, e] using h1, by simpa [look, h] using h2, by simpa [look, h] using h3⟩
abbrev mkB (m : Nat) (v : Value) (pm : Nat) : Blk := ⟨true, m, .cells #[v, .map (some pm)] 134 (0, 0)⟩
def MkR (m pm : Nat) (s : Mk) (L L' : List Blk) : Prop := ∃ v e, Own 43 4 v s.out.length (flat s.out) e ∧ mkB m v pm :: mapB pm (plV s.pl) :: (e ++ L) = L'
theorem away_c {S w0 L} {i j : Nat} (m pm : Nat) (s : Mk) (v : Value) (cap : Nat) (a : Option Addr) (hv : v = .slice a s.out.length cap) (n : Int) (hs : s.ok) (hi : L[i]? = some (mkB m v pm)) (hj : L[j]? = some (mapB pm (plV s.pl))) :
  Fn Try.prog 59 #[.pointer (some ⟨m, 0, none⟩), .int .i64 n] S w0 L fun r L' => r = h5a [.int .i64 (s.away n), .bool (look n s.pl).isSome] ∧ L = L' := by
 obtain ⟨r, h1, h2, h3⟩ := fd_pl n s.pl 0
 have hl := hs.look n
 have hle := hs.le
 have e : s.away n = (s.out.length : Int) - ((look n s.pl).getD 0) := rfl
 rw [e]
 subst hv
 clear hs e
 generalize (look n s.pl).getD 0 = x at *
 generalize (look n s.pl).isSome = b at *
 generalize plV s.pl = kvs at *
 generalize s.out.length = ln at *
 refine Fn2 Try.func59 Try.ntmps59 rfl rfl ?_
 repeat' (first | refine h1k ?_ | refine h0k ?_ | refine h2v ?_ | (refine gR 0 (p_a (h:=p_a (h:=h0b ?_)))) | (refine gR 1 (p_m (h:=p_n (h:=p_e (q_f fo_134_1) (h:=p_e (by apply h0l (t:=132); exact rfl; exact c_25; kernel_rfl; kernel_rfl; exact rfl) (h:=p_m (h:=p_e (by apply E_lookup; exact rfl; exact rfl; exact c_25; exact Try.underlying132; exact Try.underlying84; exact rfl; exact Try.zeroValue3; (with_reducible assumption); (with_reducible assumption); (with_reducible assumption)) (h:=p_m (h:=p_x (h:=p_x (h:=p_a (h:=p_a (h:=h0b ?_))))))))))))) | (refine gR 2 (p_m (h:=p_n (h:=p_e (q_f h2q) (h:=p_e (by apply h0l (t:=45); exact rfl; exact c_25; kernel_rfl; kernel_rfl; exact rfl) (h:=p_e (by apply h0m; exact rfl; exact (fun _ => BigFrame.builtin_len ..); apply h0i Try.underlying45; exact h4a) (h:=q_m ?_)))))) <;> (try refine q_e (q_b (r:=by apply rb_sub; exact c_9; (focus (refine IntWalk.i64_in _ ?_; omega)))) ?_) <;> (try refine p_m (h:=p_a (h:=p_a (h:=h0b ?_))))))
 (refine h2k Try.results59 (.tmp rfl (.tmp rfl .nil)) ?_)
 exact ⟨_, ⟨rfl, rfl⟩, fun _ H => H⟩
theorem flat_snoc' (a : List Ins) (i : Ins) : flat (a ++ [i]) = flat a ++ i.cells := by simp [flat]
theorem hop_c {S w0 L} (m pm : Nat) (s : Mk) (v : Value) (e : List Blk) (ho : Own 43 4 v s.out.length (flat s.out) e) (hle : s.out.length ≤ 4200) (n : Int) :
  Fn Try.prog 60 #[.pointer (some ⟨m, 0, none⟩), .int .i64 n] S w0 (mkB m v pm :: mapB pm (plV s.pl) :: (e ++ L)) fun r L' => r = h5a [] ∧ MkR m pm (s.hop n) L L' := by
 have hfl : ∀ v' e', Own 43 4 v' (s.out.length + 1) (flat s.out ++ [.int .u16 5, .int .u8 0, .int .u8 0, .int .u32 (IntKind.u32.wrap n)]) e' → Own 43 4 v' (s.hop n).out.length (flat (s.hop n).out) e' := by
  intro v' e' h
  have e1 : (s.hop n).out.length = s.out.length + 1 := by simp [Mk.hop]
  have e2 : flat (s.hop n).out = flat s.out ++ [.int .u16 5, .int .u8 0, .int .u8 0, .int .u32 (IntKind.u32.wrap n)] := flat_snoc' _ _
  rw [e1, e2]; exact h
 have hpl : plV (s.hop n).pl = plV s.pl := rfl
 generalize s.hop n = s2 at *
 have hsk := fun (L : List Blk) (k : Int) => skip_c (S:=S) (w0:=w0) (L:=L) k
 simp only [Ins.v] at hsk
 rcases h5k ho with ⟨rfl, h0, hx, rfl⟩ | ⟨g, cap, cur, rfl, rfl, h1, h2, h3, h4⟩
 ·refine Fn2 Try.func60 Try.ntmps60 rfl rfl ?_
  (try simp only [zzC, zzN])
  repeat' ((apply h3c (i:=0) (id:=0) (m:=13); exact c_14; kernel_rfl; exact rfl) <;> (try refine q_t 0 (e:=h2x) (x:=by exact h0c rfl) (h:=q_t 1 (e:=h2x) (x:=by exact h0c rfl) (h:=q_t 2 (e:=h2x) (x:=by exact h0j rfl) (h:=q_t 3 (e:=h2x) (x:=by exact q_f h2q) (h:=q_t 5 (e:=h2x) (x:=by exact h0c rfl) (h:=?_)))))) <;> (try refine q_t 6 (e:=h2x) (x:=by apply h2l; exact rfl; (focus (apply h2j Try.underlying3 Try.underlying22; first | (refine IntWalk.i64_in _ ?_; omega) | (refine IntWalk.u8_in _ ?_; omega) | (refine IntWalk.u16_in _ ?_; omega) | (refine IntWalk.u32_in _ ?_; omega) | (refine IntWalk.u64_in _ ?_; omega) | (refine IntWalk.i32_in _ ?_; omega) | exact rfl))) (h:=?_)) <;> (try refine h5n (i:=4) (j:=7) rfl rfl (by kernel_rfl) ?_ ?_ <;> (first | (refine TagA.mk ?_; (((refine q_k q_l ?_); refine h2y h2x ?_) <;> (try refine q_r 7 ?_; (refine h1i (F:=88) (by kernel_rfl) rfl rfl (hsk _ _) ?_; rintro _ _ ⟨rfl, rfl⟩); refine h2y h2x ?_) <;> (try refine q_r 8 ?_; (refine h0r (t:=45) (m:=1) (e:=43) (fun vs => (match vs with | [(_, x0)] => x0.cells.toList | _ => [])) rfl rfl (fun w => by kernel_rfl) ?_; intro nb hnb; (try simp only [Value.cells]); (try simp only [zzC, zzN])); refine h2y c_5 ?_) <;> (try refine q_r 9 ?_; (apply h2t; exact rfl; exact Try.underlying45; exact h3l; exact h3j; exact h3k; exact h3m; exact rfl; exact rfl; exact rfl; (with_reducible assumption); exact fd0; exact Nat.le_of_ble_eq_true rfl; exact c_28; exact rfl; exact h6j; omega; (exact fun _ H => H); exact rfl; exact c_19; exact c_8; intro vA eA hownA; obtain ⟨gA, capA, curA, rfl, rfl, hA1, hA2, hA3, hA4⟩ := hownA.some (by omega)); refine h2y c_5 ?_) <;> (try refine q_t 10 (e:=c_5) (x:=by exact h0j rfl) (h:=q_t 11 (e:=c_5) (x:=by exact q_f h2q) (h:=?_))) <;> (try refine q_r 12 ?_; (apply h0p (t:=45); exact rfl; exact rfl; (focus (repeat (first | exact fd0 | apply fdA | apply fdS))); exact rfl; exact rfl; kernel_rfl; exact Nat.le_of_ble_eq_true rfl; exact h4l; (try simp only [List.set_cons_succ]); (try simp only [List.set_cons_zero])); refine h2y c_5 ?_) <;> (try refine h2d (by kernel_rfl) ?_))) | (refine TagB.mk ?_; (((refine h1i (F:=88) (by kernel_rfl) rfl rfl (hsk _ _) ?_; rintro _ _ ⟨rfl, rfl⟩); refine h2y h2x ?_) <;> (try refine h5n (i:=4) (j:=8) rfl rfl (by kernel_rfl) ?_ ?_ <;> (first | (refine TagA.mk ?_; (((refine q_k q_l ?_); refine h2y h2x ?_) <;> (try refine q_r 8 ?_; (refine h0r (t:=45) (m:=1) (e:=43) (fun vs => (match vs with | [(_, x0)] => x0.cells.toList | _ => [])) rfl rfl (fun w => by kernel_rfl) ?_; intro nb hnb; (try simp only [Value.cells]); (try simp only [zzC, zzN])); refine h2y c_5 ?_) <;> (try refine q_r 9 ?_; (apply h2t; exact rfl; exact Try.underlying45; exact h3l; exact h3j; exact h3k; exact h3m; exact rfl; exact rfl; exact rfl; (with_reducible assumption); exact fd0; exact Nat.le_of_ble_eq_true rfl; exact c_28; exact rfl; exact h6j; omega; (exact fun _ H => H); exact rfl; exact c_19; exact c_8; intro vA eA hownA; obtain ⟨gA, capA, curA, rfl, rfl, hA1, hA2, hA3, hA4⟩ := hownA.some (by omega)); refine h2y c_5 ?_) <;> (try refine q_t 10 (e:=c_5) (x:=by exact h0j rfl) (h:=q_t 11 (e:=c_5) (x:=by exact q_f h2q) (h:=?_))) <;> (try refine q_r 12 ?_; (apply h0p (t:=45); exact rfl; exact rfl; (focus (repeat (first | exact fd0 | apply fdA | apply fdS))); exact rfl; exact rfl; kernel_rfl; exact Nat.le_of_ble_eq_true rfl; exact h4l; (try simp only [List.set_cons_succ]); (try simp only [List.set_cons_zero])); refine h2y c_5 ?_) <;> (try refine h2d (by kernel_rfl) ?_))) | (refine TagB.mk ?_; (((refine h0r (t:=45) (m:=1) (e:=43) (fun vs => (match vs with | [(_, x0)] => x0.cells.toList | _ => [])) rfl rfl (fun w => by kernel_rfl) ?_; intro nb hnb; (try simp only [Value.cells]); (try simp only [zzC, zzN])); refine h2y c_5 ?_) <;> (try refine q_r 4 ?_; (refine q_k q_l ?_); refine h2y c_5 ?_) <;> (try refine q_r 9 ?_; (apply h2t; exact rfl; exact Try.underlying45; exact h3l; exact h3j; exact h3k; exact h3m; exact rfl; exact rfl; exact rfl; (with_reducible assumption); exact fd0; exact Nat.le_of_ble_eq_true rfl; exact c_28; exact rfl; exact h6j; omega; (exact fun _ H => H); exact rfl; exact c_19; exact c_8; intro vA eA hownA; obtain ⟨gA, capA, curA, rfl, rfl, hA1, hA2, hA3, hA4⟩ := hownA.some (by omega)); refine h2y c_5 ?_) <;> (try refine q_t 10 (e:=c_5) (x:=by exact h0j rfl) (h:=q_t 11 (e:=c_5) (x:=by exact q_f h2q) (h:=?_))) <;> (try refine q_r 12 ?_; (apply h0p (t:=45); exact rfl; exact rfl; (focus (repeat (first | exact fd0 | apply fdA | apply fdS))); exact rfl; exact rfl; kernel_rfl; exact Nat.le_of_ble_eq_true rfl; exact h4l; (try simp only [List.set_cons_succ]); (try simp only [List.set_cons_zero])); refine h2y c_5 ?_) <;> (try refine h2d (by kernel_rfl) ?_))))))))))
  all_goals
   (first | refine h2k Try.results60 .nil ?_ | refine h6k Try.results60 .nil ?_)
   refine ⟨_, ⟨rfl, _, _, hfl _ _ (own_mk (g:=gA) hA1 hA2 hA3 hA4), rfl⟩, ?_⟩
   rw [hpl]
   intro w H; refine Sel.out ?_ H; (try simp only [zzC, zzN]); repeat (first | exact Sel.refl _ | (apply Sel.cons; exact h6c; (try simp only [zzE, zzF])) | apply Sel.drop)
 ·rw [← h4] at hfl
  clear ho
  refine Fn2 Try.func60 Try.ntmps60 rfl rfl ?_
  (try simp only [zzC, zzN])
  repeat' ((apply G_regionHc (i:=0) (j:=1) (id:=0) (m:=13); exact c_14; kernel_rfl; exact rfl) <;> (try refine q_t 0 (e:=c_7) (x:=by exact h0c rfl) (h:=q_t 1 (e:=c_7) (x:=by exact h0c rfl) (h:=q_t 2 (e:=c_7) (x:=by exact h0j rfl) (h:=q_t 3 (e:=c_7) (x:=by exact q_f h2q) (h:=q_t 5 (e:=c_7) (x:=by exact h0c rfl) (h:=?_)))))) <;> (try refine q_t 6 (e:=c_7) (x:=by apply h2l; exact rfl; (focus (apply h2j Try.underlying3 Try.underlying22; first | (refine IntWalk.i64_in _ ?_; omega) | (refine IntWalk.u8_in _ ?_; omega) | (refine IntWalk.u16_in _ ?_; omega) | (refine IntWalk.u32_in _ ?_; omega) | (refine IntWalk.u64_in _ ?_; omega) | (refine IntWalk.i32_in _ ?_; omega) | exact rfl))) (h:=?_)) <;> (try refine h5n (i:=4) (j:=7) rfl rfl (by kernel_rfl) ?_ ?_ <;> (first | (refine TagA.mk ?_; (((refine q_k q_l ?_); refine h2y c_7 ?_) <;> (try refine q_r 7 ?_; (refine h1i (F:=88) (by kernel_rfl) rfl rfl (hsk _ _) ?_; rintro _ _ ⟨rfl, rfl⟩); refine h2y c_7 ?_) <;> (try refine q_r 8 ?_; (refine h0r (t:=45) (m:=1) (e:=43) (fun vs => (match vs with | [(_, x0)] => x0.cells.toList | _ => [])) rfl rfl (fun w => by kernel_rfl) ?_; intro nb hnb; (try simp only [Value.cells]); (try simp only [zzC, zzN])); refine h2y c_7 ?_) <;> (try refine q_r 9 ?_; (apply h3o; exact rfl; exact Try.underlying45; exact h3l; exact h3j; exact h3k; exact h3m; exact rfl; exact rfl; exact rfl; exact h6c; (with_reducible assumption); (with_reducible assumption); (with_reducible assumption); exact fd0; exact Nat.le_of_ble_eq_true rfl; exact c_28; exact rfl; exact h6j; omega; exact rfl; exact c_19; exact c_8; (try simp only [zzE, zzF]); intro vA eA hownA; obtain ⟨gA, capA, curA, rfl, rfl, hA1, hA2, hA3, hA4⟩ := hownA.some (by omega)); refine h2y c_11 ?_) <;> (try refine q_t 10 (e:=c_11) (x:=by exact h0j rfl) (h:=q_t 11 (e:=c_11) (x:=by exact q_f h2q) (h:=?_))) <;> (try refine q_r 12 ?_; (apply h0p (t:=45); exact rfl; exact rfl; (focus (repeat (first | exact fd0 | apply fdA | apply fdS))); exact rfl; exact rfl; kernel_rfl; exact Nat.le_of_ble_eq_true rfl; exact h4l; (try simp only [List.set_cons_succ]); (try simp only [List.set_cons_zero])); refine h2y c_11 ?_) <;> (try refine h2d (by kernel_rfl) ?_))) | (refine TagB.mk ?_; (((refine h1i (F:=88) (by kernel_rfl) rfl rfl (hsk _ _) ?_; rintro _ _ ⟨rfl, rfl⟩); refine h2y c_7 ?_) <;> (try refine h5n (i:=4) (j:=8) rfl rfl (by kernel_rfl) ?_ ?_ <;> (first | (refine TagA.mk ?_; (((refine q_k q_l ?_); refine h2y c_7 ?_) <;> (try refine q_r 8 ?_; (refine h0r (t:=45) (m:=1) (e:=43) (fun vs => (match vs with | [(_, x0)] => x0.cells.toList | _ => [])) rfl rfl (fun w => by kernel_rfl) ?_; intro nb hnb; (try simp only [Value.cells]); (try simp only [zzC, zzN])); refine h2y c_7 ?_) <;> (try refine q_r 9 ?_; (apply h3o; exact rfl; exact Try.underlying45; exact h3l; exact h3j; exact h3k; exact h3m; exact rfl; exact rfl; exact rfl; exact h6c; (with_reducible assumption); (with_reducible assumption); (with_reducible assumption); exact fd0; exact Nat.le_of_ble_eq_true rfl; exact c_28; exact rfl; exact h6j; omega; exact rfl; exact c_19; exact c_8; (try simp only [zzE, zzF]); intro vA eA hownA; obtain ⟨gA, capA, curA, rfl, rfl, hA1, hA2, hA3, hA4⟩ := hownA.some (by omega)); refine h2y c_11 ?_) <;> (try refine q_t 10 (e:=c_11) (x:=by exact h0j rfl) (h:=q_t 11 (e:=c_11) (x:=by exact q_f h2q) (h:=?_))) <;> (try refine q_r 12 ?_; (apply h0p (t:=45); exact rfl; exact rfl; (focus (repeat (first | exact fd0 | apply fdA | apply fdS))); exact rfl; exact rfl; kernel_rfl; exact Nat.le_of_ble_eq_true rfl; exact h4l; (try simp only [List.set_cons_succ]); (try simp only [List.set_cons_zero])); refine h2y c_11 ?_) <;> (try refine h2d (by kernel_rfl) ?_))) | (refine TagB.mk ?_; (((refine h0r (t:=45) (m:=1) (e:=43) (fun vs => (match vs with | [(_, x0)] => x0.cells.toList | _ => [])) rfl rfl (fun w => by kernel_rfl) ?_; intro nb hnb; (try simp only [Value.cells]); (try simp only [zzC, zzN])); refine h2y c_7 ?_) <;> (try refine q_r 4 ?_; (refine q_k q_l ?_); refine h2y c_7 ?_) <;> (try refine q_r 9 ?_; (apply h3o; exact rfl; exact Try.underlying45; exact h3l; exact h3j; exact h3k; exact h3m; exact rfl; exact rfl; exact rfl; exact h6c; (with_reducible assumption); (with_reducible assumption); (with_reducible assumption); exact fd0; exact Nat.le_of_ble_eq_true rfl; exact c_28; exact rfl; exact h6j; omega; exact rfl; exact c_19; exact c_8; (try simp only [zzE, zzF]); intro vA eA hownA; obtain ⟨gA, capA, curA, rfl, rfl, hA1, hA2, hA3, hA4⟩ := hownA.some (by omega)); refine h2y c_11 ?_) <;> (try refine q_t 10 (e:=c_11) (x:=by exact h0j rfl) (h:=q_t 11 (e:=c_11) (x:=by exact q_f h2q) (h:=?_))) <;> (try refine q_r 12 ?_; (apply h0p (t:=45); exact rfl; exact rfl; (focus (repeat (first | exact fd0 | apply fdA | apply fdS))); exact rfl; exact rfl; kernel_rfl; exact Nat.le_of_ble_eq_true rfl; exact h4l; (try simp only [List.set_cons_succ]); (try simp only [List.set_cons_zero])); refine h2y c_11 ?_) <;> (try refine h2d (by kernel_rfl) ?_))))))))))
  all_goals
   (first | refine h2k Try.results60 .nil ?_ | refine h6k Try.results60 .nil ?_)
   refine ⟨_, ⟨rfl, _, _, hfl _ _ (own_mk (g:=gA) hA1 hA2 hA3 hA4), rfl⟩, ?_⟩
   rw [hpl]
   intro w H; refine Sel.out ?_ H; (try simp only [zzC, zzN]); repeat (first | exact Sel.refl _ | (apply Sel.cons; exact h6c; (try simp only [zzE, zzF])) | apply Sel.drop)
end Go.Proofs.Ytpbpgbkpciffgaa
