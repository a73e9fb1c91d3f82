/- Part 10 of what the last text of this claim leans on: rules of walks, contracts, plain facts. Conditions: those of each statement. -/
import Derived.Test.YtecbgehooembmaaGreatDoorQo9
set_option maxRecDepth 100000
namespace Go.Proofs.YtecbgehooembmaaGreatDoor
open Go Go.RowKit
def nmC : Array Value := #[.string ⟨#[112]⟩, .string ⟨#[112, 111, 108, 45, 49]⟩, .string ⟨#[120, 95, 121]⟩]
theorem nmC_at (k : Nat) (h : k < 3) : ∃ n : List UInt8, nmC.toList[k]? = some (.string (mB8 n)) ∧ Wd.wordF (mB8 n) = true := by
 match k, h with
 | 0, _ => exact ⟨[112], rfl, by decide +kernel⟩
 | 1, _ => exact ⟨[112, 111, 108, 45, 49], rfl, by decide +kernel⟩
 | 2, _ => exact ⟨[120, 95, 121], rfl, by decide +kernel⟩
theorem callC_at (k : Nat) (h : k < 30) : ∃ n : Nat, callC.toArray.toList[k * 3]? = some (.int .i64 (n : Nat)) ∧ (h5x (n : Nat) clls).isSome = true ∧ n < 4294967296 := by
 obtain rfl | rfl | rfl | rfl | rfl | rfl | rfl | rfl | rfl | rfl | rfl | rfl | rfl | rfl | rfl | rfl | rfl | rfl | rfl | rfl | rfl | rfl | rfl | rfl | rfl | rfl | rfl | rfl | rfl | rfl : k = 0 ∨ k = 1 ∨ k = 2 ∨ k = 3 ∨ k = 4 ∨ k = 5 ∨ k = 6 ∨ k = 7 ∨ k = 8 ∨ k = 9 ∨ k = 10 ∨ k = 11 ∨ k = 12 ∨ k = 13 ∨ k = 14 ∨ k = 15 ∨ k = 16 ∨ k = 17 ∨ k = 18 ∨ k = 19 ∨ k = 20 ∨ k = 21 ∨ k = 22 ∨ k = 23 ∨ k = 24 ∨ k = 25 ∨ k = 26 ∨ k = 27 ∨ k = 28 ∨ k = 29 := by omega
 ·exact ⟨0, by kernel_rfl, by decide +kernel, by omega⟩
 ·exact ⟨1, by kernel_rfl, by decide +kernel, by omega⟩
 ·exact ⟨2, by kernel_rfl, by decide +kernel, by omega⟩
 ·exact ⟨3, by kernel_rfl, by decide +kernel, by omega⟩
 ·exact ⟨4, by kernel_rfl, by decide +kernel, by omega⟩
 ·exact ⟨8, by kernel_rfl, by decide +kernel, by omega⟩
 ·exact ⟨32, by kernel_rfl, by decide +kernel, by omega⟩
 ·exact ⟨39, by kernel_rfl, by decide +kernel, by omega⟩
 ·exact ⟨41, by kernel_rfl, by decide +kernel, by omega⟩
 ·exact ⟨42, by kernel_rfl, by decide +kernel, by omega⟩
 ·exact ⟨49, by kernel_rfl, by decide +kernel, by omega⟩
 ·exact ⟨50, by kernel_rfl, by decide +kernel, by omega⟩
 ·exact ⟨57, by kernel_rfl, by decide +kernel, by omega⟩
 ·exact ⟨60, by kernel_rfl, by decide +kernel, by omega⟩
 ·exact ⟨77, by kernel_rfl, by decide +kernel, by omega⟩
 ·exact ⟨78, by kernel_rfl, by decide +kernel, by omega⟩
 ·exact ⟨79, by kernel_rfl, by decide +kernel, by omega⟩
 ·exact ⟨80, by kernel_rfl, by decide +kernel, by omega⟩
 ·exact ⟨82, by kernel_rfl, by decide +kernel, by omega⟩
 ·exact ⟨83, by kernel_rfl, by decide +kernel, by omega⟩
 ·exact ⟨84, by kernel_rfl, by decide +kernel, by omega⟩
 ·exact ⟨86, by kernel_rfl, by decide +kernel, by omega⟩
 ·exact ⟨87, by kernel_rfl, by decide +kernel, by omega⟩
 ·exact ⟨88, by kernel_rfl, by decide +kernel, by omega⟩
 ·exact ⟨89, by kernel_rfl, by decide +kernel, by omega⟩
 ·exact ⟨157, by kernel_rfl, by decide +kernel, by omega⟩
 ·exact ⟨165, by kernel_rfl, by decide +kernel, by omega⟩
 ·exact ⟨166, by kernel_rfl, by decide +kernel, by omega⟩
 ·exact ⟨317, by kernel_rfl, by decide +kernel, by omega⟩
 ·exact ⟨446, by kernel_rfl, by decide +kernel, by omega⟩
structure SmG where
 k : Nat
 rs : List RulP
 cz : List Value
 vr : Value
 er : List Blk
 ec : List Blk
structure SmI (N : Nat) (g : SmG) : Prop where
 le : g.k ≤ N
 len : g.rs.length = g.k
 le2 : g.k ≤ 12
 rs : RulsR g.rs g.cz g.ec
 own : Own 73 3 g.vr g.rs.length g.cz g.er
 ok : ∀ r ∈ g.rs, RulOk r ∧ ∀ c ∈ r.conds, c.mask ≤ 18446744073709551615 ∧ c.val ≤ 18446744073709551615
def dirL : List (List UInt8) := [[47], [47, 97], [47, 97, 47, 98], [47, 102], [47, 97, 47, 103], [47, 99]]
theorem dirL_at (k : Nat) (h : k < 6) : ∃ p : List UInt8, dirC.toList[k]? = some (.string (mB8 p)) ∧ Pt.pathF p = true ∧ p ∈ dirL := by
 obtain rfl | rfl | rfl | rfl | rfl | rfl : k = 0 ∨ k = 1 ∨ k = 2 ∨ k = 3 ∨ k = 4 ∨ k = 5 := by omega
 ·exact ⟨[47], rfl, by decide +kernel, by decide⟩
 ·exact ⟨[47, 97], rfl, by decide +kernel, by decide⟩
 ·exact ⟨[47, 97, 47, 98], rfl, by decide +kernel, by decide⟩
 ·exact ⟨[47, 102], rfl, by decide +kernel, by decide⟩
 ·exact ⟨[47, 97, 47, 103], rfl, by decide +kernel, by decide⟩
 ·exact ⟨[47, 99], rfl, by decide +kernel, by decide⟩
theorem nd_len {α : Type} [DecidableEq α] : ∀ (l m : List α), l.Nodup → (∀ x ∈ l, x ∈ m) → l.length ≤ m.length
 | [], _, _, _ => Nat.zero_le _
 | a :: l, m, h, hs => by
  have h2 := List.nodup_cons.1 h
  have h3 := nd_len l (m.erase a) h2.2 (fun x hx => (List.mem_erase_of_ne (fun e => h2.1 (by subst e; exact hx))).2 (hs x (List.mem_cons_of_mem _ hx)))
  have hm := hs a (List.mem_cons_self ..)
  rw [List.length_erase_of_mem hm] at h3
  have : 0 < m.length := List.length_pos_of_mem hm
  rw [List.length_cons]
  omega
structure SmpG where
 k : Nat
 ps : List (List UInt8 × Nat)
 vp : Value
 ep : List Blk
 kvs : List (Value × Value)
structure SmpI (N HD : Nat) (g : SmpG) : Prop where
 le : g.k ≤ N
 len : g.ps.length ≤ g.k
 own : Own 104 2 g.vp g.ps.length (pthC g.ps) g.ep
 map : MapS keyT g.kvs (g.ps.map (·.1))
 ok : ∀ p ∈ g.ps, Pt.pathF p.1 = true ∧ p.2 ≠ 0 ∧ p.2 &&& HD = p.2 ∧ p.2 &&& 2047 = p.2
 nd : (g.ps.map (·.1)).Nodup
 dir : ∀ p ∈ g.ps, p.1 ∈ dirL
structure SmqG where
 k : Nat
 ps : List (Nat × Nat)
 vp : Value
 ep : List Blk
 kvs : List (Value × Value)
structure SmqI (N HD : Nat) (g : SmqG) : Prop where
 le : g.k ≤ N
 len : g.ps.length ≤ g.k
 own : Own 106 2 g.vp g.ps.length (porC g.ps) g.ep
 map : MapS keyP g.kvs (g.ps.map (·.1))
 ok : ∀ p ∈ g.ps, p.1 < 65536 ∧ p.2 ≠ 0 ∧ p.2 &&& HD = p.2 ∧ p.2 &&& 49152 = p.2
 nd : (g.ps.map (·.1)).Nodup
 dir : ∀ p ∈ g.ps, p.1 ∈ [80, 81, 82, 83]
set_option maxHeartbeats 2000000 in
theorem smpol_c {S w0 L} (s : SPol) (h : s.ok) (vr vp vg vq : Value) (hS : SPolS L s vr vp vg vq) :
  Fn Tryz.prog 12 #[.agg #[.int .u8 s.nm, .int .u8 s.df, .int .u8 s.en, vr, .int .u16 (s.hd : Nat), vp, vg, vq]] S w0 L fun v L' => ∃ (d : PoD) (P : Pol), v = .agg (polC P d.vr d.vp d.vq).toArray ∧ d.ok P ∧ PolOk P ∧ PolRn P ∧ (P.hd = s.hd &&& 51199 ∧ P.rules.length ≤ 12 ∧ P.paths.length ≤ s.paths.length ∧ P.ports.length ≤ s.ports.length) ∧ d.blocks ++ L = L' := by
 obtain ⟨⟨ra, rc, zz, rfl, hrs, hrg⟩, ⟨pa, pc, rfl, hps⟩, ⟨ga, gc, rfl, hgs⟩, ⟨qa, qc, rfl, hqs⟩, hl1, hl2, hl3, hl4⟩ := hS
 obtain ⟨nm, df, en, rules, hd, paths, rights, ports⟩ := s
 obtain ⟨hnm, hdf, hen, hrules, hhd, hpaths, hrights, hports⟩ := h
 dsimp only at *
 obtain ⟨n0, hn0, hw0⟩ := nmC_at (nm % 3).toNat (by omega)
 have hac := fun (L : List Blk) => action_s (S:=S) (w0:=w0) (L:=L) df en hdf hen
 have hrc := fun (L : List Blk) => rcalls_c (S:=S) (w0:=w0) (L:=L)
 unfold maxLen at hl1 hl2 hl3 hl4
 refine Fn1 Tryz.func12 Tryz.ntmps12 rfl rfl ?_
 repeat' (first | (refine h2h (id:=2) ?_) | refine h0p ?_ | refine h0e ?_ | (refine gR 0 ?_ <;> (try refine h0f ?_; (refine h5b (t:=48) rfl rfl ?_; intro nb hnb; (try simp only [Value.cells]))) <;> (try refine h0f ?_; (refine h0i (t:=36) rfl Tryz.zeroValue36 ?_; intro nb hnb; (try simp only [Value.cells]))) <;> (try refine h0d ?_)) | (refine gR 1 ?_ <;> (try refine h0f ?_; (refine q_c 24 (c:=by apply hrc) (h:=?_); rintro _ _ ⟨nbC, rfl, rfl⟩; (try simp only [zzE, zzF]))) <;> (try refine p_a (h:=h0d ?_))))
 refine ⟨?_⟩
 rename_i n1 _
 obtain ⟨n2, rfl⟩ : ∃ x, x = nb := ⟨_, rfl⟩
 have hn0' : (#[.string ⟨#[112]⟩, .string ⟨#[112, 111, 108, 45, 49]⟩, .string ⟨#[120, 95, 121]⟩] : Array Value).toList[(nm % 3).toNat]? = some (.string (mB8 n0)) := hn0
 have hrf := fun (L : List Blk) (i1 i2 b2 : Nat) (wr wq : Value) (wp : Value) (pn : ByteArray) (pd : Int) (hd' : Nat) a b c => rights_s (S:=S) (w0:=w0) (L:=L) i1 i2 n1 b2 nm df en (.slice ra rules.length rc) hd (.slice pa paths.length pc) ga gc rights (.slice qa ports.length qc) pn pd wr hd' wp wq a b c hrights hl3
 refine h2z (γ:=Nat × Int) (fun g => 0 ≤ g.2 ∧ actOk g.2 = true) (fun g => [(4, .pointer (some ⟨g.1, 0, none⟩))]) [(1, _), (2, _), (3, _)]
  (fun g => ⟨true, g.1, .cells #[.string (mB8 n0), .int .u32 g.2, .slice none 0 0, .int .u16 (iand (hd : Nat) 51199), .slice none 0 0, .slice none 0 0] 36 (0, 0)⟩ :: ⟨true, nbC, .cells callC.toArray 93 (0, 0)⟩ :: ⟨true, n2, .cells #[.string ⟨#[]⟩, .int .u32 0, .slice none 0 0, .int .u16 0, .slice none 0 0, .slice none 0 0] 36 (0, 0)⟩ :: smB n1 nm df en (.slice ra rules.length rc) hd (.slice pa paths.length pc) (.slice ga rights.length gc) (.slice qa ports.length qc) :: L) (.cons rfl (.cons rfl (.cons rfl .nil))) ?_ ?_
 ·repeat' (first | refine h0t ?_ | ((refine h2q (id:=2) (m:=17) (by kernel_rfl) rfl (q_u 1 (x:=by exact q_f fo_48_0) (h:=q_u 2 (x:=by exact q_l) (h:=q_u 3 (x:=by exact q_b (r:=by apply rb_rem; omega; omega; exact c_5)) (h:=q_u 6 (x:=by exact q_f fo_48_1) (h:=q_u 7 (x:=by exact q_l) (h:=q_u 8 (x:=by exact q_f fo_48_2) (h:=q_u 9 (x:=by exact q_l) (h:=q_u 11 (x:=by exact q_f fo_48_4) (h:=q_u 12 (x:=by exact q_l) (h:=?_))))))))))) <;> (try refine q_u 13 (x:=by exact q_b (r:=by refine rb_and ?_ ?_; (focus (refine ⟨rfl, ⟨?_, ?_⟩⟩; omega; (focus (simp only [IntKind.bits]; omega)))); (focus (refine ⟨rfl, ⟨?_, ?_⟩⟩; omega; (focus (simp only [IntKind.bits]; omega)))))) (h:=?_)) <;> (try refine H_run3t (i:=0) (j:=10) (m:=15) rfl rfl rfl (by kernel_rfl) ?_ ?_ ?_ <;> (first | (refine TagA.mk ?_; (((refine h0o (t:=56) (m:=3) (e:=9) (fun vs => (match vs with | [(_, x0), (_, x1), (_, x2)] => [x0, x1, x2] | _ => [])) rfl rfl (fun w => by kernel_rfl) ?_; intro nb hnb; (try simp only [Value.cells]); (try simp only [zzC, zzN])); refine h1g h4x ?_) <;> (try refine q_t 4 (e:=h4x) (x:=by apply h0n; exact rfl; exact rfl; (focus (apply h3e Tryz.underlying56 sz_9; omega; omega; exact c_1))) (h:=?_)) <;> (try refine H_run3t (i:=5) (j:=10) (m:=15) rfl rfl rfl (by kernel_rfl) ?_ ?_ ?_ <;> (first | (refine TagA.mk ?_; (((refine q_k (by apply h1l (t:=9); exact rfl; exact fd0; kernel_rfl; kernel_rfl; (with_reducible assumption)) ?_); refine h1g h4x ?_) <;> (try refine h2d (i:=10) (j:=15) rfl rfl (by kernel_rfl) ?_ ?_ <;> (first | (refine TagA.mk ?_; (((refine q_c 25 (c:=by apply hac) (h:=?_); rintro _ _ ⟨act, rfl, hact, rfl⟩; (try simp only [zzE, zzF])); refine h1g h4x ?_) <;> (try refine q_t 14 (e:=h4x) (x:=by exact h0s (t:=36) (fun vs => (match vs with | [(_, x0), (_, x1), (_, x2)] => [x0, x1, Value.slice none 0 0, x2, Value.slice none 0 0, Value.slice none 0 0] | _ => [])) rfl (fun w => by kernel_rfl)) (h:=?_); (try simp only [Value.cells]); (try simp only [zzC, zzN])) <;> (try refine q_r 15 ?_; (refine h0i (t:=36) rfl Tryz.zeroValue36 ?_; intro nb hnb; (try simp only [Value.cells])); refine h1g h4x ?_) <;> (try refine q_r 16 ?_; (refine q_W ?_); refine h1g h4x ?_) <;> (try refine h1e (by kernel_rfl) ?_))) | (refine TagB.mk ?_; (((refine h0i (t:=36) rfl Tryz.zeroValue36 ?_; intro nb hnb; (try simp only [Value.cells])); refine h1g h4x ?_) <;> (try refine q_r 10 ?_; (refine q_c 25 (c:=by apply hac) (h:=?_); rintro _ _ ⟨act, rfl, hact, rfl⟩; (try simp only [zzE, zzF])); refine h1g h4x ?_) <;> (try refine q_t 14 (e:=h4x) (x:=by exact h0s (t:=36) (fun vs => (match vs with | [(_, x0), (_, x1), (_, x2)] => [x0, x1, Value.slice none 0 0, x2, Value.slice none 0 0, Value.slice none 0 0] | _ => [])) rfl (fun w => by kernel_rfl)) (h:=?_); (try simp only [Value.cells]); (try simp only [zzC, zzN])) <;> (try refine q_r 16 ?_; (refine q_W ?_); refine h1g h4x ?_) <;> (try refine h1e (by kernel_rfl) ?_))))))) | (refine TagB.mk ?_; (((refine q_c 25 (c:=by apply hac) (h:=?_); rintro _ _ ⟨act, rfl, hact, rfl⟩; (try simp only [zzE, zzF])); refine h1g h4x ?_) <;> (try refine h2d (i:=5) (j:=15) rfl rfl (by kernel_rfl) ?_ ?_ <;> (first | (refine TagA.mk ?_; (((refine q_k (by apply h1l (t:=9); exact rfl; exact fd0; kernel_rfl; kernel_rfl; (with_reducible assumption)) ?_); refine h1g h4x ?_) <;> (try refine q_t 14 (e:=h4x) (x:=by exact h0s (t:=36) (fun vs => (match vs with | [(_, x0), (_, x1), (_, x2)] => [x0, x1, Value.slice none 0 0, x2, Value.slice none 0 0, Value.slice none 0 0] | _ => [])) rfl (fun w => by kernel_rfl)) (h:=?_); (try simp only [Value.cells]); (try simp only [zzC, zzN])) <;> (try refine q_r 15 ?_; (refine h0i (t:=36) rfl Tryz.zeroValue36 ?_; intro nb hnb; (try simp only [Value.cells])); refine h1g h4x ?_) <;> (try refine q_r 16 ?_; (refine q_W ?_); refine h1g h4x ?_) <;> (try refine h1e (by kernel_rfl) ?_))) | (refine TagB.mk ?_; (((refine h0i (t:=36) rfl Tryz.zeroValue36 ?_; intro nb hnb; (try simp only [Value.cells])); refine h1g h4x ?_) <;> (try refine q_r 5 ?_; (refine q_k (by apply h1l (t:=9); exact rfl; exact h3n; kernel_rfl; kernel_rfl; (with_reducible assumption)) ?_); refine h1g h4x ?_) <;> (try refine q_t 14 (e:=h4x) (x:=by exact h0s (t:=36) (fun vs => (match vs with | [(_, x0), (_, x1), (_, x2)] => [x0, x1, Value.slice none 0 0, x2, Value.slice none 0 0, Value.slice none 0 0] | _ => [])) rfl (fun w => by kernel_rfl)) (h:=?_); (try simp only [Value.cells]); (try simp only [zzC, zzN])) <;> (try refine q_r 16 ?_; (refine q_W ?_); refine h1g h4x ?_) <;> (try refine h1e (by kernel_rfl) ?_))))))) | (refine TagC.mk ?_; (((refine h0i (t:=36) rfl Tryz.zeroValue36 ?_; intro nb hnb; (try simp only [Value.cells])); refine h1g h4x ?_) <;> (try refine h2d (i:=5) (j:=10) rfl rfl (by kernel_rfl) ?_ ?_ <;> (first | (refine TagA.mk ?_; (((refine q_k (by apply h1l (t:=9); exact rfl; exact h3n; kernel_rfl; kernel_rfl; (with_reducible assumption)) ?_); refine h1g h4x ?_) <;> (try refine q_r 10 ?_; (refine q_c 25 (c:=by apply hac) (h:=?_); rintro _ _ ⟨act, rfl, hact, rfl⟩; (try simp only [zzE, zzF])); refine h1g h4x ?_) <;> (try refine q_t 14 (e:=h4x) (x:=by exact h0s (t:=36) (fun vs => (match vs with | [(_, x0), (_, x1), (_, x2)] => [x0, x1, Value.slice none 0 0, x2, Value.slice none 0 0, Value.slice none 0 0] | _ => [])) rfl (fun w => by kernel_rfl)) (h:=?_); (try simp only [Value.cells]); (try simp only [zzC, zzN])) <;> (try refine q_r 16 ?_; (refine q_W ?_); refine h1g h4x ?_) <;> (try refine h1e (by kernel_rfl) ?_))) | (refine TagB.mk ?_; (((refine q_c 25 (c:=by apply hac) (h:=?_); rintro _ _ ⟨act, rfl, hact, rfl⟩; (try simp only [zzE, zzF])); refine h1g h4x ?_) <;> (try refine q_r 5 ?_; (refine q_k (by apply h1l (t:=9); exact rfl; exact h3n; kernel_rfl; kernel_rfl; (with_reducible assumption)) ?_); refine h1g h4x ?_) <;> (try refine q_t 14 (e:=h4x) (x:=by exact h0s (t:=36) (fun vs => (match vs with | [(_, x0), (_, x1), (_, x2)] => [x0, x1, Value.slice none 0 0, x2, Value.slice none 0 0, Value.slice none 0 0] | _ => [])) rfl (fun w => by kernel_rfl)) (h:=?_); (try simp only [Value.cells]); (try simp only [zzC, zzN])) <;> (try refine q_r 16 ?_; (refine q_W ?_); refine h1g h4x ?_) <;> (try refine h1e (by kernel_rfl) ?_))))))))))) | (refine TagB.mk ?_; (((refine q_c 25 (c:=by apply hac) (h:=?_); rintro _ _ ⟨act, rfl, hact, rfl⟩; (try simp only [zzE, zzF])); refine h1g (fun _ H => H) ?_) <;> (try refine h2d (i:=0) (j:=15) rfl rfl (by kernel_rfl) ?_ ?_ <;> (first | (refine TagA.mk ?_; (((refine h0o (t:=56) (m:=3) (e:=9) (fun vs => (match vs with | [(_, x0), (_, x1), (_, x2)] => [x0, x1, x2] | _ => [])) rfl rfl (fun w => by kernel_rfl) ?_; intro nb hnb; (try simp only [Value.cells]); (try simp only [zzC, zzN])); refine h1g h4x ?_) <;> (try refine q_t 4 (e:=h4x) (x:=by apply h0n; exact rfl; exact rfl; (focus (apply h3e Tryz.underlying56 sz_9; omega; omega; exact c_1))) (h:=?_)) <;> (try refine h2d (i:=5) (j:=15) rfl rfl (by kernel_rfl) ?_ ?_ <;> (first | (refine TagA.mk ?_; (((refine q_k (by apply h1l (t:=9); exact rfl; exact fd0; kernel_rfl; kernel_rfl; (with_reducible assumption)) ?_); refine h1g h4x ?_) <;> (try refine q_t 14 (e:=h4x) (x:=by exact h0s (t:=36) (fun vs => (match vs with | [(_, x0), (_, x1), (_, x2)] => [x0, x1, Value.slice none 0 0, x2, Value.slice none 0 0, Value.slice none 0 0] | _ => [])) rfl (fun w => by kernel_rfl)) (h:=?_); (try simp only [Value.cells]); (try simp only [zzC, zzN])) <;> (try refine q_r 15 ?_; (refine h0i (t:=36) rfl Tryz.zeroValue36 ?_; intro nb hnb; (try simp only [Value.cells])); refine h1g h4x ?_) <;> (try refine q_r 16 ?_; (refine q_W ?_); refine h1g h4x ?_) <;> (try refine h1e (by kernel_rfl) ?_))) | (refine TagB.mk ?_; (((refine h0i (t:=36) rfl Tryz.zeroValue36 ?_; intro nb hnb; (try simp only [Value.cells])); refine h1g h4x ?_) <;> (try refine q_r 5 ?_; (refine q_k (by apply h1l (t:=9); exact rfl; exact h3n; kernel_rfl; kernel_rfl; (with_reducible assumption)) ?_); refine h1g h4x ?_) <;> (try refine q_t 14 (e:=h4x) (x:=by exact h0s (t:=36) (fun vs => (match vs with | [(_, x0), (_, x1), (_, x2)] => [x0, x1, Value.slice none 0 0, x2, Value.slice none 0 0, Value.slice none 0 0] | _ => [])) rfl (fun w => by kernel_rfl)) (h:=?_); (try simp only [Value.cells]); (try simp only [zzC, zzN])) <;> (try refine q_r 16 ?_; (refine q_W ?_); refine h1g h4x ?_) <;> (try refine h1e (by kernel_rfl) ?_))))))) | (refine TagB.mk ?_; (((refine h0i (t:=36) rfl Tryz.zeroValue36 ?_; intro nb hnb; (try simp only [Value.cells])); refine h1g h4x ?_) <;> (try refine q_r 0 ?_; (refine h0o (t:=56) (m:=3) (e:=9) (fun vs => (match vs with | [(_, x0), (_, x1), (_, x2)] => [x0, x1, x2] | _ => [])) rfl rfl (fun w => by kernel_rfl) ?_; intro nb hnb; (try simp only [Value.cells]); (try simp only [zzC, zzN])); refine h1g h4x ?_) <;> (try refine q_t 4 (e:=h4x) (x:=by apply h0n; exact rfl; exact rfl; (focus (apply h3e Tryz.underlying56 sz_9; omega; omega; exact c_1))) (h:=?_)) <;> (try refine q_r 5 ?_; (refine q_k (by apply h1l (t:=9); exact rfl; exact fd0; kernel_rfl; kernel_rfl; (with_reducible assumption)) ?_); refine h1g h4x ?_) <;> (try refine q_t 14 (e:=h4x) (x:=by exact h0s (t:=36) (fun vs => (match vs with | [(_, x0), (_, x1), (_, x2)] => [x0, x1, Value.slice none 0 0, x2, Value.slice none 0 0, Value.slice none 0 0] | _ => [])) rfl (fun w => by kernel_rfl)) (h:=?_); (try simp only [Value.cells]); (try simp only [zzC, zzN])) <;> (try refine q_r 16 ?_; (refine q_W ?_); refine h1g h4x ?_) <;> (try refine h1e (by kernel_rfl) ?_))))))) | (refine TagC.mk ?_; (((refine h0i (t:=36) rfl Tryz.zeroValue36 ?_; intro nb hnb; (try simp only [Value.cells])); refine h1g h4x ?_) <;> (try refine h2d (i:=0) (j:=10) rfl rfl (by kernel_rfl) ?_ ?_ <;> (first | (refine TagA.mk ?_; (((refine h0o (t:=56) (m:=3) (e:=9) (fun vs => (match vs with | [(_, x0), (_, x1), (_, x2)] => [x0, x1, x2] | _ => [])) rfl rfl (fun w => by kernel_rfl) ?_; intro nb hnb; (try simp only [Value.cells]); (try simp only [zzC, zzN])); refine h1g h4x ?_) <;> (try refine q_t 4 (e:=h4x) (x:=by apply h0n; exact rfl; exact rfl; (focus (apply h3e Tryz.underlying56 sz_9; omega; omega; exact c_1))) (h:=?_)) <;> (try refine h2d (i:=5) (j:=10) rfl rfl (by kernel_rfl) ?_ ?_ <;> (first | (refine TagA.mk ?_; (((refine q_k (by apply h1l (t:=9); exact rfl; exact fd0; kernel_rfl; kernel_rfl; (with_reducible assumption)) ?_); refine h1g h4x ?_) <;> (try refine q_r 10 ?_; (refine q_c 25 (c:=by apply hac) (h:=?_); rintro _ _ ⟨act, rfl, hact, rfl⟩; (try simp only [zzE, zzF])); refine h1g h4x ?_) <;> (try refine q_t 14 (e:=h4x) (x:=by exact h0s (t:=36) (fun vs => (match vs with | [(_, x0), (_, x1), (_, x2)] => [x0, x1, Value.slice none 0 0, x2, Value.slice none 0 0, Value.slice none 0 0] | _ => [])) rfl (fun w => by kernel_rfl)) (h:=?_); (try simp only [Value.cells]); (try simp only [zzC, zzN])) <;> (try refine q_r 16 ?_; (refine q_W ?_); refine h1g h4x ?_) <;> (try refine h1e (by kernel_rfl) ?_))) | (refine TagB.mk ?_; (((refine q_c 25 (c:=by apply hac) (h:=?_); rintro _ _ ⟨act, rfl, hact, rfl⟩; (try simp only [zzE, zzF])); refine h1g h4x ?_) <;> (try refine q_r 5 ?_; (refine q_k (by apply h1l (t:=9); exact rfl; exact fd0; kernel_rfl; kernel_rfl; (with_reducible assumption)) ?_); refine h1g h4x ?_) <;> (try refine q_t 14 (e:=h4x) (x:=by exact h0s (t:=36) (fun vs => (match vs with | [(_, x0), (_, x1), (_, x2)] => [x0, x1, Value.slice none 0 0, x2, Value.slice none 0 0, Value.slice none 0 0] | _ => [])) rfl (fun w => by kernel_rfl)) (h:=?_); (try simp only [Value.cells]); (try simp only [zzC, zzN])) <;> (try refine q_r 16 ?_; (refine q_W ?_); refine h1g h4x ?_) <;> (try refine h1e (by kernel_rfl) ?_))))))) | (refine TagB.mk ?_; (((refine q_c 25 (c:=by apply hac) (h:=?_); rintro _ _ ⟨act, rfl, hact, rfl⟩; (try simp only [zzE, zzF])); refine h1g h4x ?_) <;> (try refine q_r 0 ?_; (refine h0o (t:=56) (m:=3) (e:=9) (fun vs => (match vs with | [(_, x0), (_, x1), (_, x2)] => [x0, x1, x2] | _ => [])) rfl rfl (fun w => by kernel_rfl) ?_; intro nb hnb; (try simp only [Value.cells]); (try simp only [zzC, zzN])); refine h1g h4x ?_) <;> (try refine q_t 4 (e:=h4x) (x:=by apply h0n; exact rfl; exact rfl; (focus (apply h3e Tryz.underlying56 sz_9; omega; omega; exact c_1))) (h:=?_)) <;> (try refine q_r 5 ?_; (refine q_k (by apply h1l (t:=9); exact rfl; exact fd0; kernel_rfl; kernel_rfl; (with_reducible assumption)) ?_); refine h1g h4x ?_) <;> (try refine q_t 14 (e:=h4x) (x:=by exact h0s (t:=36) (fun vs => (match vs with | [(_, x0), (_, x1), (_, x2)] => [x0, x1, Value.slice none 0 0, x2, Value.slice none 0 0, Value.slice none 0 0] | _ => [])) rfl (fun w => by kernel_rfl)) (h:=?_); (try simp only [Value.cells]); (try simp only [zzC, zzN])) <;> (try refine q_r 16 ?_; (refine q_W ?_); refine h1g h4x ?_) <;> (try refine h1e (by kernel_rfl) ?_)))))))))))
  all_goals exact h0w (_, act) hact (by (focus (repeat (first | exact Sub.nil | refine Sub.cons rfl ?_)))) c_22
 clear hac hrc hn0 hn0'
 rintro ⟨n4, act⟩ ⟨hact0, hact⟩
 dsimp only
 rw [show iand ((hd : Nat) : Int) 51199 = ((hd &&& 51199 : Nat) : Int) from rfl]
 have hhd2 : hd &&& 51199 < 65536 := by have := Nat.and_le_left (n:=hd) (m:=51199); omega
 repeat' (first | (refine h2r (id:=0) ?_) | refine h0p ?_ | refine h0e ?_ | (refine gR 3 (p_e (q_f fo_48_3) (h:=p_e q_l (h:=p_e (by apply h0g; exact rfl; exact (fun _ => BigFrame.builtin_len ..); apply h0k Tryz.underlying44; exact h4y) (h:=p_m (h:=h0d ?_)))))))
 refine ⟨?_⟩
 refine h2z (γ:=SmG) (SmI 12) (fun _ => []) [(1, _), (2, _), (4, _)]
  (fun g => g.er ++ (pcB n4 (mB8 n0) act g.vr (hd &&& 51199) (.slice none 0 0) (.slice none 0 0) :: ⟨true, n2, .cells #[.string ⟨#[]⟩, .int .u32 0, .slice none 0 0, .int .u16 0, .slice none 0 0, .slice none 0 0] 36 (0, 0)⟩ :: smB n1 nm df en (.slice ra rules.length rc) hd (.slice pa paths.length pc) (.slice ga rights.length gc) (.slice qa ports.length qc) :: (g.ec ++ L))) (.cons rfl (.cons rfl (.cons rfl .nil))) ?_ ?_
 ·refine h0r ?_
  refine h2s (γ:=SmG) (SmI rules.length) (fun g => rules.length - g.k) (fun g => [(40, .int .i64 (g.k : Nat))]) [(1, _), (2, _), (3, _), (4, _), (38, _), (39, _)]
   (fun g => g.er ++ (pcB n4 (mB8 n0) act g.vr (hd &&& 51199) (.slice none 0 0) (.slice none 0 0) :: ⟨true, nbC, .cells callC.toArray 93 (0, 0)⟩ :: ⟨true, n2, .cells #[.string ⟨#[]⟩, .int .u32 0, .slice none 0 0, .int .u16 0, .slice none 0 0, .slice none 0 0] 36 (0, 0)⟩ :: smB n1 nm df en (.slice ra rules.length rc) hd (.slice pa paths.length pc) (.slice ga rights.length gc) (.slice qa ports.length qc) :: (g.ec ++ L))) ⟨0, [], [], .slice none 0 0, [], []⟩ (.cons rfl (.cons rfl (.cons rfl (.cons rfl (.cons rfl (.cons rfl .nil)))))) ⟨Nat.zero_le _, rfl, Nat.zero_le _, .nil, Own.nil _ _, fun _ h => by cases h⟩ (by (focus (repeat (first | exact Sub.nil | refine Sub.cons rfl ?_)))) (fun _ H => H) ?_
  rintro ⟨k, rs, cz, vr, er, ec⟩ ⟨hk, hlen, hk2, hrsR, hown, hok⟩
  dsimp only at hk hlen hk2 hrsR hown hok ⊢
  by_cases hlt : k < rules.length
  case neg =>
   obtain ⟨va, vc, rfl, -⟩ := hown.sli []
   repeat' (first | refine h0p ?_ | refine h0e ?_ | refine h0t ?_ | refine h1u ?_ | refine h1n ?_ | refine h1v ?_ | refine h2o ?_ | refine h0h rfl ?_ | (refine gR 4 (p_e (q_b (r:=by exact h1j q_o)) (h:=h0d ?_))))
   exact h0w ⟨k, rs, cz, _, er, ec⟩ ⟨hk2, hlen, hk2, hrsR, hown, hok⟩ (by (focus (repeat (first | exact Sub.nil | refine Sub.cons rfl ?_)))) (by intro w H; refine Sel.out ?_ H; (try simp only [List.cons_append, List.nil_append, List.append_assoc]); repeat (first | exact Sel.refl _ | exact Sel.nil _ | (with_reducible apply Sel.appS) | (apply Sel.cons; (focus (repeat (first | exact fd0 | (with_reducible assumption) | apply fdA | apply fdS))); (try simp only [zzE, zzF])) | apply Sel.drop | apply Sel.dropA))
  obtain ⟨j, q, bb, off, cs, T, fr, rfl, hj, hsz, hx⟩ := hrs.elem hlt
  obtain ⟨v, hv, hcs⟩ := hrg.at_ k hlt
  rw [hv] at hx
  have hrk := hrules _ (List.getElem_mem hlt)
  obtain ⟨ca, cc, rfl, hsc, hcl⟩ := hcs
  clear hv
  generalize rules[k] = r at *
  obtain ⟨rc1, ra1, re1, cds⟩ := r
  obtain ⟨hr1, hr2, hr3, hr4⟩ := hrk
  dsimp only at *
  obtain ⟨num, hnu, hnc, hnl⟩ := callC_at (rc1 % 30).toNat (by omega)
  have hac := fun (L : List Blk) => action_s (S:=S) (w0:=w0) (L:=L) ra1 re1 hr2 hr3
  obtain ⟨va, vc, rfl, -⟩ := hown.sli []
  have hcz : callC.toArray.size = 90 := by kernel_rfl
  generalize callC.toArray = CC at *
  by_cases h12 : 12 ≤ k
  ·repeat' (first | refine h0p ?_ | refine h0e ?_ | refine h0t ?_ | refine h1u ?_ | refine h1n ?_ | refine h1v ?_ | refine G_blk_y rfl ?_ | refine h0r ?_ | refine h0u ?_ | refine h2o ?_ | refine h0j rfl ?_ | (refine gR 4 (p_e (q_b (r:=by exact h1d q_o)) (h:=h0d ?_))) | (refine gR 5 (p_m (h:=p_e (by apply h0n; exact rfl; exact rfl; (focus (apply h3e Tryz.underlying44 sz_91; omega; omega; exact c_1))) (h:=q_e (by apply h3p (t:=91); exact rfl; (focus (repeat (first | (with_reducible assumption) | apply fdA | apply fdS))); kernel_rfl; kernel_rfl; exact sz_91; (with_reducible assumption); (with_reducible assumption)) ?_))) <;> (try refine h0f ?_; (refine h0i (t:=91) rfl Tryz.zeroValue91 ?_; intro nb hnb; (try simp only [Value.cells]))) <;> (try refine q_a ?_) <;> (try refine h0f ?_; (refine q_W ?_)) <;> (try refine h0d ?_)) | (refine gR 6 (p_m (h:=p_e (q_b (r:=by exact rb_geq_t q_o)) (h:=h0d ?_)))))
   exact h0w ⟨k, rs, cz, _, er, ec⟩ ⟨hk2, hlen, hk2, hrsR, hown, hok⟩ (by (focus (repeat (first | exact Sub.nil | refine Sub.cons rfl ?_)))) (by intro w H; refine Sel.out ?_ H; (try simp only [List.cons_append, List.nil_append, List.append_assoc]); repeat (first | exact Sel.refl _ | exact Sel.nil _ | (with_reducible apply Sel.appS) | (apply Sel.cons; (focus (repeat (first | exact fd0 | (with_reducible assumption) | apply fdA | apply fdS))); (try simp only [zzE, zzF])) | apply Sel.drop | apply Sel.dropA))
  repeat' (first | (refine h2h (id:=7) ?_) | refine h0p ?_ | refine h0e ?_ | refine h0r ?_ | refine h0u ?_ | refine h0j rfl ?_ | refine h0h rfl ?_ | (refine gR 4 (p_e (q_b (r:=by exact h1d q_o)) (h:=h0d ?_))) | (refine gR 5 (p_m (h:=p_e (by apply h0n; exact rfl; exact rfl; (focus (apply h3e Tryz.underlying44 sz_91; omega; omega; exact c_1))) (h:=q_e (by apply h3p (t:=91); exact rfl; (focus (repeat (first | (with_reducible assumption) | apply fdA | apply fdS))); kernel_rfl; kernel_rfl; exact sz_91; (with_reducible assumption); (with_reducible assumption)) ?_))) <;> (try refine h0f ?_; (refine h0i (t:=91) rfl Tryz.zeroValue91 ?_; intro nb hnb; (try simp only [Value.cells]))) <;> (try refine q_a ?_) <;> (try refine h0f ?_; (refine q_W ?_)) <;> (try refine h0d ?_)) | (refine gR 6 (p_m (h:=p_e (q_b (r:=by exact rb_geq_f q_o)) (h:=h0d ?_)))))
  refine ⟨?_⟩
  obtain ⟨n6, rfl⟩ : ∃ x, x = nb := ⟨_, rfl⟩
  refine h2z (γ:=Nat × Int) (fun g => 0 ≤ g.2 ∧ actOk g.2 = true) (fun g => [(7, .pointer (some ⟨g.1, 0, none⟩))]) [(1, _), (2, _), (3, _), (4, _), (6, _), (38, _), (39, _), (40, _)]
   (fun g => rlB g.1 (num : Nat) g.2 (.slice none 0 0) :: ⟨true, n6, .cells #[.int .u8 rc1, .int .u8 ra1, .int .u8 re1, .slice ca cds.length cc] 91 (0, 0)⟩ :: (er ++ (pcB n4 (mB8 n0) act (.slice va rs.length vc) (hd &&& 51199) (.slice none 0 0) (.slice none 0 0) :: ⟨true, nbC, .cells CC 93 (0, 0)⟩ :: ⟨true, n2, .cells #[.string ⟨#[]⟩, .int .u32 0, .slice none 0 0, .int .u16 0, .slice none 0 0, .slice none 0 0] 36 (0, 0)⟩ :: smB n1 nm df en (.slice (some ⟨bb, off, none⟩) rules.length rc) hd (.slice pa paths.length pc) (.slice ga rights.length gc) (.slice qa ports.length qc) :: (ec ++ L)))) (.cons rfl (.cons rfl (.cons rfl (.cons rfl (.cons rfl (.cons rfl (.cons rfl (.cons rfl .nil)))))))) ?_ ?_
  ·repeat' (first | refine h0t ?_ | ((refine h2q (id:=7) (m:=19) (by kernel_rfl) rfl (q_u 0 (x:=by exact h0m rfl) (h:=q_u 1 (x:=by exact q_f fo_91_0) (h:=q_u 2 (x:=by exact q_l) (h:=?_))))) <;> (try refine q_u 3 (x:=by apply h4l; exact rfl; (focus (apply h4r Tryz.underlying5 Tryz.underlying3; first | (refine IntWalk.i64_in _ ?_; omega) | (refine IntWalk.u8_in _ ?_; omega) | (refine IntWalk.u16_in _ ?_; omega) | (refine IntWalk.u32_in _ ?_; omega) | (refine IntWalk.u64_in _ ?_; omega) | (refine IntWalk.i32_in _ ?_; omega) | exact rfl))) (h:=?_)) <;> (try refine q_u 4 (x:=by exact h0m rfl) (h:=q_u 5 (x:=by apply h0g; exact rfl; exact (fun _ => BigFrame.builtin_len ..); apply h0k Tryz.underlying86; exact h4y) (h:=q_u 6 (x:=by exact q_b (r:=by apply rb_rem; omega; omega; exact c_5)) (h:=q_u 7 (x:=by apply h0n; exact rfl; exact rfl; (focus (apply h3e Tryz.underlying86 sz_93; omega; omega; exact c_1))) (h:=q_u 8 (x:=by exact q_g fo_93_0) (h:=q_u 9 (x:=by apply h1l (t:=3); exact rfl; (focus (repeat (first | exact fd0 | apply fdA | apply fdS))); kernel_rfl; kernel_rfl; (with_reducible assumption)) (h:=?_))))))) <;> (try refine q_u 10 (x:=by apply h4l; exact rfl; (focus (apply h4r Tryz.underlying3 Tryz.underlying28; first | (refine IntWalk.i64_in _ ?_; omega) | (refine IntWalk.u8_in _ ?_; omega) | (refine IntWalk.u16_in _ ?_; omega) | (refine IntWalk.u32_in _ ?_; omega) | (refine IntWalk.u64_in _ ?_; omega) | (refine IntWalk.i32_in _ ?_; omega) | exact rfl))) (h:=?_)) <;> (try refine q_u 11 (x:=by exact q_f fo_91_1) (h:=q_u 12 (x:=by exact q_l) (h:=q_u 13 (x:=by exact q_f fo_91_2) (h:=q_u 14 (x:=by exact q_l) (h:=?_))))) <;> (try refine h2d (i:=15) (j:=17) rfl rfl (by kernel_rfl) ?_ ?_ <;> (first | (refine TagA.mk ?_; (((refine q_c 25 (c:=by apply hac) (h:=?_); rintro _ _ ⟨a2, rfl, ha2, rfl⟩; (try simp only [zzE, zzF])); refine h1g (fun _ H => H) ?_) <;> (try refine q_u 16 (x:=by exact h0s (t:=73) (fun vs => (match vs with | [(_, x0), (_, x1)] => [x0, x1, Value.slice none 0 0] | _ => [])) rfl (fun w => by kernel_rfl)) (h:=?_); (try simp only [Value.cells]); (try simp only [zzC, zzN])) <;> (try refine q_r 17 ?_; (refine h0i (t:=73) rfl Tryz.zeroValue73 ?_; intro nb hnb; (try simp only [Value.cells])); refine h1g h4x ?_) <;> (try refine q_r 18 ?_; (refine q_W ?_); refine h1g h4x ?_) <;> (try refine h1e (by kernel_rfl) ?_))) | (refine TagB.mk ?_; (((refine h0i (t:=73) rfl Tryz.zeroValue73 ?_; intro nb hnb; (try simp only [Value.cells])); refine h1g h4x ?_) <;> (try refine q_r 15 ?_; (refine q_c 25 (c:=by apply hac) (h:=?_); rintro _ _ ⟨a2, rfl, ha2, rfl⟩; (try simp only [zzE, zzF])); refine h1g h4x ?_) <;> (try refine q_t 16 (e:=h4x) (x:=by exact h0s (t:=73) (fun vs => (match vs with | [(_, x0), (_, x1)] => [x0, x1, Value.slice none 0 0] | _ => [])) rfl (fun w => by kernel_rfl)) (h:=?_); (try simp only [Value.cells]); (try simp only [zzC, zzN])) <;> (try refine q_r 18 ?_; (refine q_W ?_); refine h1g h4x ?_) <;> (try refine h1e (by kernel_rfl) ?_)))))))
   all_goals exact h0w (_, a2) ha2 (by (focus (repeat (first | exact Sub.nil | refine Sub.cons rfl ?_)))) c_27
  clear hac hnu hx
  rintro ⟨n7, a2⟩ ⟨ha20, ha2⟩
  dsimp only
  repeat' (first | (refine h2r (id:=2) ?_) | refine h0p ?_ | refine h0e ?_ | (refine gR 8 (p_e (q_f fo_91_3) (h:=p_e q_l (h:=p_e (by apply h0g; exact rfl; exact (fun _ => BigFrame.builtin_len ..); apply h0k Tryz.underlying89; exact h4y) (h:=p_m (h:=h0d ?_)))))))
  refine ⟨?_⟩
  refine h2z (γ:=List Cnd × Value × List Blk) (fun g => Own 99 4 g.2.1 g.1.length (cndC g.1) g.2.2 ∧ g.1.length ≤ 4 ∧ ∀ c ∈ g.1, CndG c) (fun _ => []) [(1, _), (2, _), (3, _), (4, _), (7, _), (38, _), (39, _), (40, _)]
   (fun g => g.2.2 ++ (rlB n7 (num : Nat) a2 g.2.1 :: (er ++ (pcB n4 (mB8 n0) act (.slice va rs.length vc) (hd &&& 51199) (.slice none 0 0) (.slice none 0 0) :: ⟨true, nbC, .cells CC 93 (0, 0)⟩ :: ⟨true, n2, .cells #[.string ⟨#[]⟩, .int .u32 0, .slice none 0 0, .int .u16 0, .slice none 0 0, .slice none 0 0] 36 (0, 0)⟩ :: smB n1 nm df en (.slice (some ⟨bb, off, none⟩) rules.length rc) hd (.slice pa paths.length pc) (.slice ga rights.length gc) (.slice qa ports.length qc) :: (ec ++ L))))) (.cons rfl (.cons rfl (.cons rfl (.cons rfl (.cons rfl (.cons rfl (.cons rfl (.cons rfl .nil)))))))) ?_ ?_
  ·refine h0r ?_
   refine h2s (γ:=Nat × List Cnd × Value × List Blk) (fun g => g.1 ≤ cds.length ∧ Own 99 4 g.2.2.1 g.2.1.length (cndC g.2.1) g.2.2.2 ∧ g.2.1.length = min g.1 4 ∧ ∀ c ∈ g.2.1, CndG c) (fun g => cds.length - g.1) (fun g => [(67, .int .i64 (g.1 : Nat))]) [(1, _), (2, _), (3, _), (4, _), (7, _), (38, _), (39, _), (40, _), (65, _), (66, _)]
    (fun g => g.2.2.2 ++ (rlB n7 (num : Nat) a2 g.2.2.1 :: (er ++ (pcB n4 (mB8 n0) act (.slice va rs.length vc) (hd &&& 51199) (.slice none 0 0) (.slice none 0 0) :: ⟨true, nbC, .cells CC 93 (0, 0)⟩ :: ⟨true, n2, .cells #[.string ⟨#[]⟩, .int .u32 0, .slice none 0 0, .int .u16 0, .slice none 0 0, .slice none 0 0] 36 (0, 0)⟩ :: smB n1 nm df en (.slice (some ⟨bb, off, none⟩) rules.length rc) hd (.slice pa paths.length pc) (.slice ga rights.length gc) (.slice qa ports.length qc) :: (ec ++ L))))) (0, [], .slice none 0 0, []) (.cons rfl (.cons rfl (.cons rfl (.cons rfl (.cons rfl (.cons rfl (.cons rfl (.cons rfl (.cons rfl (.cons rfl .nil)))))))))) ⟨Nat.zero_le _, Own.nil _ _, rfl, fun _ h => by cases h⟩ (by (focus (repeat (first | exact Sub.nil | refine Sub.cons rfl ?_)))) c_24 ?_
   rintro ⟨j, cs, v, e⟩ ⟨hj2, hown2, hl2', hcg⟩
   dsimp only at hj2 hown2 hl2' hcg ⊢
   by_cases hlt2 : j < cds.length
   case neg =>
    obtain ⟨sa, sc, rfl, -⟩ := hown2.sli []
    repeat' (first | refine h0p ?_ | refine h0e ?_ | refine h0t ?_ | refine h1u ?_ | refine h1n ?_ | refine h1v ?_ | refine h2o ?_ | refine h0h rfl ?_ | (refine gR 9 (p_e (q_b (r:=by exact h1j q_o)) (h:=h0d ?_))))
    exact h0w (cs, _, e) ⟨hown2, by dsimp only; omega, hcg⟩ (by (focus (repeat (first | exact Sub.nil | refine Sub.cons rfl ?_)))) (by intro w H; refine Sel.out ?_ H; (try simp only [List.cons_append, List.nil_append, List.append_assoc]); repeat (first | exact Sel.refl _ | exact Sel.nil _ | (with_reducible apply Sel.appS) | (apply Sel.cons; (focus (repeat (first | exact fd0 | (with_reducible assumption) | apply fdA | apply fdS))); (try simp only [zzE, zzF])) | apply Sel.drop | apply Sel.dropA))
   obtain ⟨j3, q3, bb3, off3, cs3, T3, fr3, rfl, hj3, hsz3, hx3⟩ := hsc.elem hlt2
   rw [scC_at _ _ hlt2] at hx3
   have hcj := hr4 _ (List.getElem_mem hlt2)
   generalize cds[j] = cd at *
   obtain ⟨xa, xo, xm, xv⟩ := cd
   obtain ⟨y1, y2, y3, y4⟩ := hcj
   dsimp only at y1 y2 y3 y4 hx3
   have hcd := fun (L : List Blk) => cond_s (S:=S) (w0:=w0) (L:=L) xa xo xm xv y1 y2 y3 y4
   unfold maxLen at hcl
   by_cases hj4 : j < 4
   case neg =>
    obtain ⟨sa, sc, rfl, -⟩ := hown2.sli []
    repeat' (first | refine h0p ?_ | refine h0e ?_ | refine h0t ?_ | refine h0x ?_ | refine h0r ?_ | refine h0u ?_ | refine h0j rfl ?_ | refine h0h rfl ?_ | (refine gR 9 (p_e (q_b (r:=by exact h1d q_o)) (h:=h0d ?_))) | (refine gR 10 (p_m (h:=p_e (by apply h0n; exact rfl; exact rfl; (focus (apply h3e Tryz.underlying89 sz_95; omega; omega; exact c_1))) (h:=q_e (by apply h3p (t:=95); exact rfl; (focus (repeat (first | (with_reducible assumption) | apply fdA | apply fdS))); kernel_rfl; kernel_rfl; exact sz_95; (with_reducible assumption); (with_reducible assumption)) ?_))) <;> (try refine h0f ?_; (refine h0i (t:=95) rfl Tryz.zeroValue95 ?_; intro nb hnb; (try simp only [Value.cells]))) <;> (try refine q_a ?_) <;> (try refine h0f ?_; (refine q_W ?_)) <;> (try refine h0d ?_)) | (refine gR 11 (p_m (h:=p_e (q_b (r:=by exact h1j q_o)) (h:=h0d ?_)))) | (refine gR 13 ?_ <;> (try refine q_e (q_b (r:=by apply h1r; exact c_5; (focus (refine IntWalk.i64_in _ ?_; omega)))) ?_) <;> (try refine p_m (h:=h0d ?_))))
    exact h0w (j + 1, cs, _, e) ⟨⟨by show j + 1 ≤ _; omega, hown2, by show cs.length = min (j + 1) 4; omega, hcg⟩, by show _ - (j + 1) < _ - j; omega⟩ (by (focus (repeat (first | exact Sub.nil | refine Sub.cons rfl ?_)))) (by intro w H; refine Sel.out ?_ H; (try simp only [List.cons_append, List.nil_append, List.append_assoc]); repeat (first | exact Sel.refl _ | exact Sel.nil _ | (with_reducible apply Sel.appS) | (apply Sel.cons; (focus (repeat (first | exact fd0 | (with_reducible assumption) | apply fdA | apply fdS))); (try simp only [zzE, zzF])) | apply Sel.drop | apply Sel.dropA))
   have hfi : ∀ (c : Cnd) v e, Own 99 4 v (cs.length + 1) (cndC cs ++ c.cells) e → Own 99 4 v (cs ++ [c]).length (cndC (cs ++ [c])) e := fun c v e h => by
    rw [cndC_snoc, List.length_append]; exact h
   have hl3' : ∀ c : Cnd, (cs ++ [c]).length = min (j + 1) 4 := fun c => by rw [List.length_append, hl2']; simp only [List.length_cons, List.length_nil]; omega
   rcases h3i hown2 with ⟨rfl, h0, hx, rfl⟩ | ⟨g, capg, cur, rfl, rfl, q1, q2, q3, q4⟩
   ·rw [hx] at hfi
    rw [h0] at hfi
    clear hown2
    (try simp only [zzC, zzN])
    repeat' (first | refine h0p ?_ | refine h0e ?_ | refine h0t ?_ | refine h0x ?_ | refine h0r ?_ | refine h0u ?_ | refine h0j rfl ?_ | (refine gR 9 (p_e (q_b (r:=by exact h1d q_o)) (h:=h0d ?_))) | (refine gR 10 (p_m (h:=p_e (by apply h0n; exact rfl; exact rfl; (focus (apply h3e Tryz.underlying89 sz_95; omega; omega; exact c_1))) (h:=q_e (by apply h3p (t:=95); exact rfl; (focus (repeat (first | (with_reducible assumption) | apply fdA | apply fdS))); kernel_rfl; kernel_rfl; exact sz_95; (with_reducible assumption); (with_reducible assumption)) ?_))) <;> (try refine h0f ?_; (refine h0i (t:=95) rfl Tryz.zeroValue95 ?_; intro nb hnb; (try simp only [Value.cells]))) <;> (try refine q_a ?_) <;> (try refine h0f ?_; (refine q_W ?_)) <;> (try refine h0d ?_)) | (refine gR 11 (p_m (h:=p_e (q_b (r:=by exact h1d q_o)) (h:=h0d ?_)))) | ((refine h2t (pre:=[]) (id:=12) (m:=8) rfl (by kernel_rfl) rfl (q_t 0 (e:=h3w) (x:=by exact q_f h3f) (h:=?_))) <;> (try refine h2d (i:=1) (j:=2) rfl rfl (by kernel_rfl) ?_ ?_ <;> (first | (refine TagA.mk ?_; (((refine q_k q_l ?_); refine h1g h3w ?_) <;> (try refine q_r 2 ?_; (refine q_k (q_L sz_95) ?_); refine h1g h3w ?_) <;> (try refine q_r 3 ?_; (refine q_c 26 (c:=by apply hcd) (h:=?_); rintro _ _ ⟨c2, rfl, hc2, rfl⟩; (try simp only [zzE, zzF])); refine h1g h3w ?_) <;> (try refine q_r 4 ?_; (refine h0o (t:=71) (m:=1) (e:=99) (fun vs => (match vs with | [(_, x0)] => x0.cells.toList | _ => [])) rfl rfl (fun w => by kernel_rfl) ?_; intro nb hnb; (try simp only [Value.cells]); (try simp only [zzC, zzN])); refine h1g h3w ?_) <;> (try refine q_r 5 ?_; (apply h2m; exact rfl; exact Tryz.underlying71; exact h4b; exact h4h; exact h4i; exact h4j; exact rfl; exact rfl; exact rfl; exact Own.nil _ _; exact fd0; exact Nat.le_of_ble_eq_true rfl; exact c_25; exact rfl; exact h5u; omega; (exact fun _ H => H); exact rfl; exact h6c; exact c_4; intro vA eA hownA; obtain ⟨gA, capA, curA, rfl, rfl, hA1, hA2, hA3, hA4⟩ := hownA.some (by omega); (try simp only [zzC, zzN])); refine h1g h3w ?_) <;> (try refine q_t 6 (e:=h3w) (x:=by exact q_f h3f) (h:=?_)) <;> (try refine q_r 7 ?_; (refine q_S ?_); refine h1g h3w ?_) <;> (try refine h1e (by kernel_rfl) ?_))) | (refine TagB.mk ?_; (((refine q_k (q_L sz_95) ?_); refine h1g h3w ?_) <;> (try refine h2d (i:=1) (j:=3) rfl rfl (by kernel_rfl) ?_ ?_ <;> (first | (refine TagA.mk ?_; (((refine q_k q_l ?_); refine h1g h3w ?_) <;> (try refine q_r 3 ?_; (refine q_c 26 (c:=by apply hcd) (h:=?_); rintro _ _ ⟨c2, rfl, hc2, rfl⟩; (try simp only [zzE, zzF])); refine h1g h3w ?_) <;> (try refine q_r 4 ?_; (refine h0o (t:=71) (m:=1) (e:=99) (fun vs => (match vs with | [(_, x0)] => x0.cells.toList | _ => [])) rfl rfl (fun w => by kernel_rfl) ?_; intro nb hnb; (try simp only [Value.cells]); (try simp only [zzC, zzN])); refine h1g h3w ?_) <;> (try refine q_r 5 ?_; (apply h2m; exact rfl; exact Tryz.underlying71; exact h4b; exact h4h; exact h4i; exact h4j; exact rfl; exact rfl; exact rfl; exact Own.nil _ _; exact fd0; exact Nat.le_of_ble_eq_true rfl; exact c_25; exact rfl; exact h5u; omega; (exact fun _ H => H); exact rfl; exact h6c; exact c_4; intro vA eA hownA; obtain ⟨gA, capA, curA, rfl, rfl, hA1, hA2, hA3, hA4⟩ := hownA.some (by omega); (try simp only [zzC, zzN])); refine h1g h3w ?_) <;> (try refine q_t 6 (e:=h3w) (x:=by exact q_f h3f) (h:=?_)) <;> (try refine q_r 7 ?_; (refine q_S ?_); refine h1g h3w ?_) <;> (try refine h1e (by kernel_rfl) ?_))) | (refine TagB.mk ?_; (((refine q_c 26 (c:=by apply hcd) (h:=?_); rintro _ _ ⟨c2, rfl, hc2, rfl⟩; (try simp only [zzE, zzF])); refine h1g h3w ?_) <;> (try refine h2d (i:=1) (j:=4) rfl rfl (by kernel_rfl) ?_ ?_ <;> (first | (refine TagA.mk ?_; (((refine q_k q_l ?_); refine h1g h3w ?_) <;> (try refine q_r 4 ?_; (refine h0o (t:=71) (m:=1) (e:=99) (fun vs => (match vs with | [(_, x0)] => x0.cells.toList | _ => [])) rfl rfl (fun w => by kernel_rfl) ?_; intro nb hnb; (try simp only [Value.cells]); (try simp only [zzC, zzN])); refine h1g h3w ?_) <;> (try refine q_r 5 ?_; (apply h2m; exact rfl; exact Tryz.underlying71; exact h4b; exact h4h; exact h4i; exact h4j; exact rfl; exact rfl; exact rfl; exact Own.nil _ _; exact fd0; exact Nat.le_of_ble_eq_true rfl; exact c_25; exact rfl; exact h5u; omega; (exact fun _ H => H); exact rfl; exact h6c; exact c_4; intro vA eA hownA; obtain ⟨gA, capA, curA, rfl, rfl, hA1, hA2, hA3, hA4⟩ := hownA.some (by omega); (try simp only [zzC, zzN])); refine h1g h3w ?_) <;> (try refine q_t 6 (e:=h3w) (x:=by exact q_f h3f) (h:=?_)) <;> (try refine q_r 7 ?_; (refine q_S ?_); refine h1g h3w ?_) <;> (try refine h1e (by kernel_rfl) ?_))) | (refine TagB.mk ?_; (((refine h0o (t:=71) (m:=1) (e:=99) (fun vs => (match vs with | [(_, x0)] => x0.cells.toList | _ => [])) rfl rfl (fun w => by kernel_rfl) ?_; intro nb hnb; (try simp only [Value.cells]); (try simp only [zzC, zzN])); refine h1g h3w ?_) <;> (try refine q_r 1 ?_; (refine q_k q_l ?_); refine h1g h3w ?_) <;> (try refine q_r 5 ?_; (apply h2m; exact rfl; exact Tryz.underlying71; exact h4b; exact h4h; exact h4i; exact h4j; exact rfl; exact rfl; exact rfl; exact Own.nil _ _; exact fd0; exact Nat.le_of_ble_eq_true rfl; exact c_25; exact rfl; exact h5u; omega; (exact fun _ H => H); exact rfl; exact h6c; exact c_4; intro vA eA hownA; obtain ⟨gA, capA, curA, rfl, rfl, hA1, hA2, hA3, hA4⟩ := hownA.some (by omega); (try simp only [zzC, zzN])); refine h1g h3w ?_) <;> (try refine q_t 6 (e:=h3w) (x:=by exact q_f h3f) (h:=?_)) <;> (try refine q_r 7 ?_; (refine q_S ?_); refine h1g h3w ?_) <;> (try refine h1e (by kernel_rfl) ?_)))))))))))))) | (refine gR 13 ?_ <;> (try refine q_e (q_b (r:=by apply h1r; exact c_5; (focus (refine IntWalk.i64_in _ ?_; omega)))) ?_) <;> (try refine p_m (h:=h0d ?_))))
    all_goals exact h0w (j + 1, cs ++ [c2], _, _) ⟨⟨by show j + 1 ≤ _; omega, hfi c2 _ _ (h4f (g:=gA) hA1 hA2 hA3 hA4), hl3' c2, mem_app1 hcg hc2⟩, by show _ - (j + 1) < _ - j; omega⟩ (by (focus (repeat (first | exact Sub.nil | refine Sub.cons rfl ?_)))) c_22
   ·rw [← q4] at hfi
    clear hown2
    (try simp only [zzC, zzN])
    repeat' (first | refine h0p ?_ | refine h0e ?_ | refine h0t ?_ | refine h0x ?_ | refine h0r ?_ | refine h0u ?_ | refine h0j rfl ?_ | (refine gR 9 (p_e (q_b (r:=by exact h1d q_o)) (h:=h0d ?_))) | (refine gR 10 (p_m (h:=p_e (by apply h0n; exact rfl; exact rfl; (focus (apply h3e Tryz.underlying89 sz_95; omega; omega; exact c_1))) (h:=q_e (by apply h3p (t:=95); exact rfl; (focus (repeat (first | (with_reducible assumption) | apply fdA | apply fdS))); kernel_rfl; kernel_rfl; exact sz_95; (with_reducible assumption); (with_reducible assumption)) ?_))) <;> (try refine h0f ?_; (refine h0i (t:=95) rfl Tryz.zeroValue95 ?_; intro nb hnb; (try simp only [Value.cells]))) <;> (try refine q_a ?_) <;> (try refine h0f ?_; (refine q_W ?_)) <;> (try refine h0d ?_)) | (refine gR 11 (p_m (h:=p_e (q_b (r:=by exact h1d q_o)) (h:=h0d ?_)))) | ((refine h2t (pre:=[]) (id:=12) (m:=8) rfl (by kernel_rfl) rfl (q_t 0 (e:=h3w) (x:=by exact q_f h3f) (h:=?_))) <;> (try refine h2d (i:=1) (j:=2) rfl rfl (by kernel_rfl) ?_ ?_ <;> (first | (refine TagA.mk ?_; (((refine q_k q_l ?_); refine h1g h3w ?_) <;> (try refine q_r 2 ?_; (refine q_k (q_L sz_95) ?_); refine h1g h3w ?_) <;> (try refine q_r 3 ?_; (refine q_c 26 (c:=by apply hcd) (h:=?_); rintro _ _ ⟨c2, rfl, hc2, rfl⟩; (try simp only [zzE, zzF])); refine h1g h3w ?_) <;> (try refine q_r 4 ?_; (refine h0o (t:=71) (m:=1) (e:=99) (fun vs => (match vs with | [(_, x0)] => x0.cells.toList | _ => [])) rfl rfl (fun w => by kernel_rfl) ?_; intro nb hnb; (try simp only [Value.cells]); (try simp only [zzC, zzN])); refine h1g h3w ?_) <;> (try refine q_r 5 ?_; (apply h1z; exact rfl; exact Tryz.underlying71; exact h4b; exact h4h; exact h4i; exact h4j; exact rfl; exact rfl; exact rfl; exact h3n; (with_reducible assumption); (with_reducible assumption); (with_reducible assumption); exact fd0; exact Nat.le_of_ble_eq_true rfl; exact c_25; exact rfl; exact h5u; omega; exact rfl; exact h6c; exact c_4; (try simp only [zzE, zzF]); intro vA eA hownA; obtain ⟨gA, capA, curA, rfl, rfl, hA1, hA2, hA3, hA4⟩ := hownA.some (by omega); (try simp only [zzC, zzN])); refine h1g h3w ?_) <;> (try refine q_t 6 (e:=h3w) (x:=by exact q_f h3f) (h:=?_)) <;> (try refine q_r 7 ?_; (refine q_S ?_); refine h1g h3w ?_) <;> (try refine h1e (by kernel_rfl) ?_))) | (refine TagB.mk ?_; (((refine q_k (q_L sz_95) ?_); refine h1g h3w ?_) <;> (try refine h2d (i:=1) (j:=3) rfl rfl (by kernel_rfl) ?_ ?_ <;> (first | (refine TagA.mk ?_; (((refine q_k q_l ?_); refine h1g h3w ?_) <;> (try refine q_r 3 ?_; (refine q_c 26 (c:=by apply hcd) (h:=?_); rintro _ _ ⟨c2, rfl, hc2, rfl⟩; (try simp only [zzE, zzF])); refine h1g h3w ?_) <;> (try refine q_r 4 ?_; (refine h0o (t:=71) (m:=1) (e:=99) (fun vs => (match vs with | [(_, x0)] => x0.cells.toList | _ => [])) rfl rfl (fun w => by kernel_rfl) ?_; intro nb hnb; (try simp only [Value.cells]); (try simp only [zzC, zzN])); refine h1g h3w ?_) <;> (try refine q_r 5 ?_; (apply h1z; exact rfl; exact Tryz.underlying71; exact h4b; exact h4h; exact h4i; exact h4j; exact rfl; exact rfl; exact rfl; exact h3n; (with_reducible assumption); (with_reducible assumption); (with_reducible assumption); exact fd0; exact Nat.le_of_ble_eq_true rfl; exact c_25; exact rfl; exact h5u; omega; exact rfl; exact h6c; exact c_4; (try simp only [zzE, zzF]); intro vA eA hownA; obtain ⟨gA, capA, curA, rfl, rfl, hA1, hA2, hA3, hA4⟩ := hownA.some (by omega); (try simp only [zzC, zzN])); refine h1g h3w ?_) <;> (try refine q_t 6 (e:=h3w) (x:=by exact q_f h3f) (h:=?_)) <;> (try refine q_r 7 ?_; (refine q_S ?_); refine h1g h3w ?_) <;> (try refine h1e (by kernel_rfl) ?_))) | (refine TagB.mk ?_; (((refine q_c 26 (c:=by apply hcd) (h:=?_); rintro _ _ ⟨c2, rfl, hc2, rfl⟩; (try simp only [zzE, zzF])); refine h1g h3w ?_) <;> (try refine h2d (i:=1) (j:=4) rfl rfl (by kernel_rfl) ?_ ?_ <;> (first | (refine TagA.mk ?_; (((refine q_k q_l ?_); refine h1g h3w ?_) <;> (try refine q_r 4 ?_; (refine h0o (t:=71) (m:=1) (e:=99) (fun vs => (match vs with | [(_, x0)] => x0.cells.toList | _ => [])) rfl rfl (fun w => by kernel_rfl) ?_; intro nb hnb; (try simp only [Value.cells]); (try simp only [zzC, zzN])); refine h1g h3w ?_) <;> (try refine q_r 5 ?_; (apply h1z; exact rfl; exact Tryz.underlying71; exact h4b; exact h4h; exact h4i; exact h4j; exact rfl; exact rfl; exact rfl; exact h3n; (with_reducible assumption); (with_reducible assumption); (with_reducible assumption); exact fd0; exact Nat.le_of_ble_eq_true rfl; exact c_25; exact rfl; exact h5u; omega; exact rfl; exact h6c; exact c_4; (try simp only [zzE, zzF]); intro vA eA hownA; obtain ⟨gA, capA, curA, rfl, rfl, hA1, hA2, hA3, hA4⟩ := hownA.some (by omega); (try simp only [zzC, zzN])); refine h1g h3w ?_) <;> (try refine q_t 6 (e:=h3w) (x:=by exact q_f h3f) (h:=?_)) <;> (try refine q_r 7 ?_; (refine q_S ?_); refine h1g h3w ?_) <;> (try refine h1e (by kernel_rfl) ?_))) | (refine TagB.mk ?_; (((refine h0o (t:=71) (m:=1) (e:=99) (fun vs => (match vs with | [(_, x0)] => x0.cells.toList | _ => [])) rfl rfl (fun w => by kernel_rfl) ?_; intro nb hnb; (try simp only [Value.cells]); (try simp only [zzC, zzN])); refine h1g h3w ?_) <;> (try refine q_r 1 ?_; (refine q_k q_l ?_); refine h1g h3w ?_) <;> (try refine q_r 5 ?_; (apply h1z; exact rfl; exact Tryz.underlying71; exact h4b; exact h4h; exact h4i; exact h4j; exact rfl; exact rfl; exact rfl; exact h3n; (with_reducible assumption); (with_reducible assumption); (with_reducible assumption); exact fd0; exact Nat.le_of_ble_eq_true rfl; exact c_25; exact rfl; exact h5u; omega; exact rfl; exact h6c; exact c_4; (try simp only [zzE, zzF]); intro vA eA hownA; obtain ⟨gA, capA, curA, rfl, rfl, hA1, hA2, hA3, hA4⟩ := hownA.some (by omega); (try simp only [zzC, zzN])); refine h1g h3w ?_) <;> (try refine q_t 6 (e:=h3w) (x:=by exact q_f h3f) (h:=?_)) <;> (try refine q_r 7 ?_; (refine q_S ?_); refine h1g h3w ?_) <;> (try refine h1e (by kernel_rfl) ?_)))))))))))))) | (refine gR 13 ?_ <;> (try refine q_e (q_b (r:=by apply h1r; exact c_5; (focus (refine IntWalk.i64_in _ ?_; omega)))) ?_) <;> (try refine p_m (h:=h0d ?_))))
    all_goals exact h0w (j + 1, cs ++ [c2], _, _) ⟨⟨by show j + 1 ≤ _; omega, hfi c2 _ _ (h4f (g:=gA) hA1 hA2 hA3 hA4), hl3' c2, mem_app1 hcg hc2⟩, by show _ - (j + 1) < _ - j; omega⟩ (by (focus (repeat (first | exact Sub.nil | refine Sub.cons rfl ?_)))) c_22
  rintro ⟨cs, v, e⟩ ⟨hown2, hle4, hcg⟩
  dsimp only at hown2 hle4 hcg ⊢
  obtain ⟨sa, sc, rfl, -⟩ := hown2.sli []
  refine h3y (L' := er ++ (rlB n7 (num : Nat) a2 (.slice sa cs.length sc) :: pcB n4 (mB8 n0) act (.slice va rs.length vc) (hd &&& 51199) (.slice none 0 0) (.slice none 0 0) :: ⟨true, nbC, .cells CC 93 (0, 0)⟩ :: ⟨true, n2, .cells #[.string ⟨#[]⟩, .int .u32 0, .slice none 0 0, .int .u16 0, .slice none 0 0, .slice none 0 0] 36 (0, 0)⟩ :: smB n1 nm df en (.slice (some ⟨bb, off, none⟩) rules.length rc) hd (.slice pa paths.length pc) (.slice ga rights.length gc) (.slice qa ports.length qc) :: (e ++ (ec ++ L)))) (fun w H => HP.re2 (env:=[e, [_], er, [_, _, _, _], ec, L]) [0, 1, 2, 3, 4, 5] [2, 1, 3, 0, 4, 5] (by decide) rfl rfl H) ?_
  have hrule : RulOk ⟨(num : Nat), a2, cs⟩ ∧ ∀ c ∈ cs, c.mask ≤ 18446744073709551615 ∧ c.val ≤ 18446744073709551615 := ⟨⟨hnc, ha20, ha2, by dsimp only; omega, fun c hc => (hcg c hc).1⟩, fun c hc => (hcg c hc).2⟩
  have hok' : ∀ r ∈ rs ++ [(⟨(num : Nat), a2, cs⟩ : RulP)], RulOk r ∧ ∀ c ∈ r.conds, c.mask ≤ 18446744073709551615 ∧ c.val ≤ 18446744073709551615 := mem_app1 hok hrule
  have hrs' : RulsR (rs ++ [(⟨(num : Nat), a2, cs⟩ : RulP)]) (cz ++ [.int .u32 (num : Nat), .int .u32 a2, .slice sa cs.length sc]) (e ++ ec) := .snoc hrsR hown2
  have hlen' : (rs ++ [(⟨(num : Nat), a2, cs⟩ : RulP)]).length = k + 1 := by rw [List.length_append, hlen]; rfl
  have hfi : ∀ v' e', Own 73 3 v' (rs.length + 1) (cz ++ [.int .u32 (num : Nat), .int .u32 a2, .slice sa cs.length sc]) e' → Own 73 3 v' (rs ++ [(⟨(num : Nat), a2, cs⟩ : RulP)]).length (cz ++ [.int .u32 (num : Nat), .int .u32 a2, .slice sa cs.length sc]) e' := fun _ _ h => by rw [List.length_append]; exact h
  clear hown2 hcg hrule hrsR hok hle4 hsc
  rcases h3i hown with ⟨hv0, h0, hx, rfl⟩ | ⟨g, capg, cur, hv0, rfl, q1, q2, q3, q4⟩
  ·injection hv0 with v1 v2 v3
   subst v1 v3
   rw [hx] at hfi hrs'
   rw [h0] at hfi ⊢
   clear hown
   (try simp only [zzC, zzN])
   repeat' (first | refine h0e ?_ | refine h0t ?_ | refine h0x ?_ | (refine gR 14 (p_e (q_f h3s) (h:=p_e q_l (h:=q_e (q_L sz_73) ?_))) <;> (try refine h0f ?_; (refine h0o (t:=30) (m:=1) (e:=73) (fun vs => (match vs with | [(_, x0)] => x0.cells.toList | _ => [])) rfl rfl (fun w => by kernel_rfl) ?_; intro nb hnb; (try simp only [Value.cells]); (try simp only [zzC, zzN]))) <;> (try refine h0f ?_; (apply h2m; exact rfl; exact Tryz.underlying30; exact inf_73_i; exact inf_73_z; exact inf_73_s; exact inf_73_b; exact rfl; exact rfl; exact rfl; exact Own.nil _ _; exact fd0; exact Nat.le_of_ble_eq_true rfl; exact c_25; exact rfl; exact h5u; omega; (exact fun _ H => H); exact rfl; exact h6c; exact c_4; intro vA eA hownA; obtain ⟨gA, capA, curA, rfl, rfl, hA1, hA2, hA3, hA4⟩ := hownA.some (by omega); (try simp only [zzC, zzN]))) <;> (try refine q_e (q_f h3s) ?_) <;> (try refine h0f ?_; (refine q_S ?_)) <;> (try refine h0d ?_)) | (refine gR 15 ?_ <;> (try refine q_e (q_b (r:=by apply h1r; exact c_5; (focus (refine IntWalk.i64_in _ ?_; omega)))) ?_) <;> (try refine p_m (h:=h0d ?_))))
   all_goals exact h0w ⟨k + 1, rs ++ [(⟨(num : Nat), a2, cs⟩ : RulP)], _, _, _, e ++ ec⟩ ⟨⟨by show k + 1 ≤ _; omega, hlen', by show k + 1 ≤ 12; omega, hrs', hfi _ _ (h4f (g:=gA) hA1 hA2 hA3 hA4), hok'⟩, by show _ - (k + 1) < _ - k; omega⟩ (by (focus (repeat (first | exact Sub.nil | refine Sub.cons rfl ?_)))) (by intro w H; refine Sel.out ?_ H; (try simp only [List.cons_append, List.nil_append, List.append_assoc]); repeat (first | exact Sel.refl _ | exact Sel.nil _ | (with_reducible apply Sel.appS) | (apply Sel.cons; (focus (repeat (first | exact fd0 | (with_reducible assumption) | apply fdA | apply fdS))); (try simp only [zzE, zzF])) | apply Sel.drop | apply Sel.dropA))
  ·injection hv0 with v1 v2 v3
   subst v1 v3
   rw [← q4] at hfi hrs'
   clear hown
   (try simp only [zzC, zzN])
   repeat' (first | refine h0e ?_ | refine h0t ?_ | refine h0x ?_ | (refine gR 14 (p_e (q_f h3s) (h:=p_e q_l (h:=q_e (q_L sz_73) ?_))) <;> (try refine h0f ?_; (refine h0o (t:=30) (m:=1) (e:=73) (fun vs => (match vs with | [(_, x0)] => x0.cells.toList | _ => [])) rfl rfl (fun w => by kernel_rfl) ?_; intro nb hnb; (try simp only [Value.cells]); (try simp only [zzC, zzN]))) <;> (try refine h0f ?_; (apply h1z; exact rfl; exact Tryz.underlying30; exact inf_73_i; exact inf_73_z; exact inf_73_s; exact inf_73_b; exact rfl; exact rfl; exact rfl; exact h3n; (with_reducible assumption); (with_reducible assumption); (with_reducible assumption); exact fd0; exact Nat.le_of_ble_eq_true rfl; exact c_25; exact rfl; exact h5u; omega; exact rfl; exact h6c; exact c_4; (try simp only [zzE, zzF]); intro vA eA hownA; obtain ⟨gA, capA, curA, rfl, rfl, hA1, hA2, hA3, hA4⟩ := hownA.some (by omega); (try simp only [zzC, zzN]))) <;> (try refine q_e (q_f h3s) ?_) <;> (try refine h0f ?_; (refine q_S ?_)) <;> (try refine h0d ?_)) | (refine gR 15 ?_ <;> (try refine q_e (q_b (r:=by apply h1r; exact c_5; (focus (refine IntWalk.i64_in _ ?_; omega)))) ?_) <;> (try refine p_m (h:=h0d ?_))))
   all_goals exact h0w ⟨k + 1, rs ++ [(⟨(num : Nat), a2, cs⟩ : RulP)], _, _, _, e ++ ec⟩ ⟨⟨by show k + 1 ≤ _; omega, hlen', by show k + 1 ≤ 12; omega, hrs', hfi _ _ (h4f (g:=gA) hA1 hA2 hA3 hA4), hok'⟩, by show _ - (k + 1) < _ - k; omega⟩ (by (focus (repeat (first | exact Sub.nil | refine Sub.cons rfl ?_)))) (by intro w H; refine Sel.out ?_ H; (try simp only [List.cons_append, List.nil_append, List.append_assoc]); repeat (first | exact Sel.refl _ | exact Sel.nil _ | (with_reducible apply Sel.appS) | (apply Sel.cons; (focus (repeat (first | exact fd0 | (with_reducible assumption) | apply fdA | apply fdS))); (try simp only [zzE, zzF])) | apply Sel.drop | apply Sel.dropA))
 -- PATHS
 rintro ⟨k1, rs, cz, vr, er, ec⟩ ⟨-, hrl, hr12, hrsR, hownR, hrok⟩
 dsimp only at hrl hr12 hrsR hownR hrok ⊢
 obtain ⟨va, vc, rfl, -⟩ := hownR.sli []
 refine h3y (L' := pcB n4 (mB8 n0) act (.slice va rs.length vc) (hd &&& 51199) (.slice none 0 0) (.slice none 0 0) :: ⟨true, n2, .cells #[.string ⟨#[]⟩, .int .u32 0, .slice none 0 0, .int .u16 0, .slice none 0 0, .slice none 0 0] 36 (0, 0)⟩ :: smB n1 nm df en (.slice ra rules.length rc) hd (.slice pa paths.length pc) (.slice ga rights.length gc) (.slice qa ports.length qc) :: (er ++ (ec ++ L))) (fun w H => HP.re2 (env:=[er, [_, _, _], ec, L]) [0, 1, 2, 3] [1, 0, 2, 3] (by decide) rfl rfl H) ?_
 have hps2 : Sli (er ++ (ec ++ L)) pa paths.length 1 (u8l paths) := (hps.upA ec).upA er
 have hgs2 : Sli (er ++ (ec ++ L)) ga rights.length 1 (u16g rights) := (hgs.upA ec).upA er
 have hqs2 : Sli (er ++ (ec ++ L)) qa ports.length 1 (u8l ports) := (hqs.upA ec).upA er
 clear hrg hrs hps hgs hqs hrules hl1
 generalize hL2 : er ++ (ec ++ L) = L2 at hps2 hgs2 hqs2 ⊢
 generalize hHD : hd &&& 51199 = HD at *
 have hrp := fun (i : Nat) (hi : i ≤ maxLen) (L : List Blk) (i1 i2 : Nat) (wp wq : Value) a b c => hrf L i1 i2 n4 (.slice va rs.length vc) wq wp (mB8 n0) act HD a b c hhd2 i hi 2047 (by omega)
 have hrq := fun (i : Nat) (hi : i ≤ maxLen) (L : List Blk) (i1 i2 : Nat) (wp wq : Value) a b c => hrf L i1 i2 n4 (.slice va rs.length vc) wq wp (mB8 n0) act HD a b c hhd2 i hi 49152 (by omega)
 have z20 : ((2047 : Nat) : Int) = 2047 := rfl
 have z49 : ((49152 : Nat) : Int) = 49152 := rfl
 simp only [z20] at hrp
 simp only [z49] at hrq
 have hdi := fun (L : List Blk) => dirs_c (S:=S) (w0:=w0) (L:=L)
 clear hrf z20 z49
 unfold maxLen at hrp hrq
 repeat' (first | (refine h2r (id:=4) ?_) | refine h0p ?_ | refine h0e ?_ | (refine gR 16 ?_ <;> (try refine h0f ?_; (refine K1_makeMap rfl ?_; intro nb hnb)) <;> (try refine p_a (h:=h0d ?_))) | (refine gR 17 (p_e (by apply E_makeFunc; exact rfl; exact rfl) (h:=p_a (h:=h0d ?_)))) | (refine gR 18 (p_e (q_f fo_48_5) (h:=p_e q_l (h:=p_e (by apply h0g; exact rfl; exact (fun _ => BigFrame.builtin_len ..); apply h0k Tryz.underlying45; exact h4y) (h:=p_m (h:=h0d ?_)))))))
 refine ⟨?_⟩
 obtain ⟨nbM, rfl⟩ : ∃ x, x = nb := ⟨_, rfl⟩
 refine h2z (γ:=SmpG) (SmpI paths.length HD) (fun _ => []) [(1, _), (2, _), (4, _), (11, _)]
  (fun g => g.ep ++ (pcB n4 (mB8 n0) act (.slice va rs.length vc) HD g.vp (.slice none 0 0) :: ⟨true, n2, .cells #[.string ⟨#[]⟩, .int .u32 0, .slice none 0 0, .int .u16 0, .slice none 0 0, .slice none 0 0] 36 (0, 0)⟩ :: smB n1 nm df en (.slice ra rules.length rc) hd (.slice pa paths.length pc) (.slice ga rights.length gc) (.slice qa ports.length qc) :: L2)) (.cons rfl (.cons rfl (.cons rfl (.cons rfl .nil)))) ?_ ?_
 ·-- PATHLOOP
  refine h0r ?_
  refine h2s (γ:=SmpG) (SmpI paths.length HD) (fun g => paths.length - g.k) (fun g => [(94, .int .i64 (g.k : Nat))]) [(1, _), (2, _), (4, _), (10, _), (11, _), (92, _), (93, _)]
   (fun g => g.ep ++ (pcB n4 (mB8 n0) act (.slice va rs.length vc) HD g.vp (.slice none 0 0) :: h3m nbM g.kvs :: ⟨true, n2, .cells #[.string ⟨#[]⟩, .int .u32 0, .slice none 0 0, .int .u16 0, .slice none 0 0, .slice none 0 0] 36 (0, 0)⟩ :: smB n1 nm df en (.slice ra rules.length rc) hd (.slice pa paths.length pc) (.slice ga rights.length gc) (.slice qa ports.length qc) :: L2)) ⟨0, [], .slice none 0 0, [], []⟩ (.cons rfl (.cons rfl (.cons rfl (.cons rfl (.cons rfl (.cons rfl (.cons rfl .nil))))))) ⟨Nat.zero_le _, Nat.zero_le _, Own.nil _ _, MapS.nil _, (fun _ h => by cases h), .nil, (fun _ h => by cases h)⟩ (by (focus (repeat (first | exact Sub.nil | refine Sub.cons rfl ?_)))) c_23 ?_
  rintro ⟨k, ps, vp, ep, kvs⟩ ⟨hk, hlen, hown, hmap, hok, hnd, hdir⟩
  dsimp only at hk hlen hown hmap hok hnd hdir ⊢
  by_cases hlt : k < paths.length
  case neg =>
   obtain ⟨ya, yc, rfl, -⟩ := hown.sli []
   repeat' (first | refine h0p ?_ | refine h0e ?_ | refine h0t ?_ | refine h1u ?_ | refine h1n ?_ | refine h1v ?_ | refine h2o ?_ | refine h0h rfl ?_ | (refine gR 19 (p_e (q_b (r:=by exact h1j q_o)) (h:=h0d ?_))))
   exact h0w ⟨k, ps, _, ep, kvs⟩ ⟨hk, hlen, hown, hmap, hok, hnd, hdir⟩ (by (focus (repeat (first | exact Sub.nil | refine Sub.cons rfl ?_)))) (by intro w H; refine Sel.out ?_ H; (try simp only [List.cons_append, List.nil_append, List.append_assoc]); repeat (first | exact Sel.refl _ | exact Sel.nil _ | (with_reducible apply Sel.appS) | (apply Sel.cons; (focus (repeat (first | exact fd0 | (with_reducible assumption) | apply fdA | apply fdS))); (try simp only [zzE, zzF])) | apply Sel.drop | apply Sel.dropA))
  obtain ⟨i0, q, b, off, cs, T, fr, rfl, hi0, hsz, hx⟩ := hps2.elem1 hlt
  obtain ⟨x, hxe⟩ : ∃ x, x = paths[k] := ⟨_, rfl⟩
  have hxr : 0 ≤ x ∧ x < 256 := hxe ▸ hpaths _ (List.getElem_mem hlt)
  rw [u8l, List.getElem?_map, List.getElem?_eq_getElem hlt, Option.map_some, ← hxe] at hx
  clear hxe
  obtain ⟨p, hp1, hp2, hp3⟩ := dirL_at (x % 6).toNat (by omega)
  have hds : dirC.size = 6 := rfl
  generalize dirC = DC at *
  obtain ⟨rr, hl1, hl2, hl3⟩ := hmap.look .string keyT keyT_same p
  obtain ⟨ya, yc, rfl, -⟩ := hown.sli []
  have hrp := hrp k (by omega)
  repeat' (first | (refine h2h (id:=23) ?_) | refine h0p ?_ | refine h0e ?_ | refine h0r ?_ | refine h0u ?_ | refine h0j rfl ?_ | (refine gR 19 (p_e (q_b (r:=by exact h1d q_o)) (h:=h0d ?_))) | (refine gR 20 (p_m (h:=p_e (by apply h0n; exact rfl; exact rfl; (focus (apply h3e Tryz.underlying45 sz_5; omega; omega; exact c_1))) (h:=p_e (by apply h1l (t:=5); exact rfl; (focus (repeat (first | (with_reducible assumption) | apply fdA | apply fdS))); kernel_rfl; kernel_rfl; (with_reducible assumption)) (h:=p_a (h:=p_a (h:=h0d ?_))))))) | (refine gR 21 ?_ <;> (try refine h0f ?_; (refine q_c 28 (c:=by apply hdi) (h:=?_); rintro _ _ ⟨nbD, rfl, rfl⟩; (try simp only [zzE, zzF]))) <;> (try refine q_m ?_) <;> (try refine q_e (by apply h4l; exact rfl; (focus (apply h4r Tryz.underlying5 Tryz.underlying3; first | (refine IntWalk.i64_in _ ?_; omega) | (refine IntWalk.u8_in _ ?_; omega) | (refine IntWalk.u16_in _ ?_; omega) | (refine IntWalk.u32_in _ ?_; omega) | (refine IntWalk.u64_in _ ?_; omega) | (refine IntWalk.i32_in _ ?_; omega) | exact rfl))) ?_) <;> (try refine h0f ?_; (refine q_c 28 (c:=by apply hdi) (h:=?_); rintro _ _ ⟨nbD, rfl, rfl⟩; (try simp only [zzE, zzF]))) <;> (try refine p_e (by apply h0g; exact rfl; exact (fun _ => BigFrame.builtin_len ..); apply h0k Tryz.underlying56; exact h4y) (h:=p_e (q_b (r:=by apply rb_rem; omega; omega; exact c_5)) (h:=p_e (by apply h0n; exact rfl; exact rfl; (focus (apply h3e Tryz.underlying56 sz_9; omega; omega; exact c_1))) (h:=p_e (by apply h1l (t:=9); exact rfl; exact h3n; kernel_rfl; kernel_rfl; (with_reducible assumption)) (h:=p_a (h:=h0d ?_))))))) | (refine gR 22 (p_m (h:=q_m ?_)) <;> (try refine h0f ?_; (apply K1_callvc (F:=27); kernel_rfl; exact rfl; exact rfl; exact rfl; exact rfl; (apply hrp; (focus (focus (repeat (first | exact fd0 | apply fdA | apply fdS)))); (focus (focus (repeat (first | exact fd0 | apply fdA | apply fdS)))); (focus (focus (repeat (first | (with_reducible assumption) | apply Sli.up | apply Sli.upA))))); rintro _ _ ⟨r, rfl, hr, rfl⟩)) <;> (try refine p_a (h:=h0d ?_))))
  refine ⟨?_⟩
  clear hrp hdi hrq
  by_cases h1 : p ∈ ps.map (·.1)
  ·replace hl2 := hl2.trans (congrArg Value.bool (dec_t h1))
   repeat' (first | refine h0e ?_ | refine h0t ?_ | refine h0x ?_ | refine h0u ?_ | refine h0h rfl ?_ | (refine gR 23 (p_m (h:=p_m (h:=p_e (by apply h5s; exact rfl; exact rfl; (focus (repeat (first | exact fd0 | apply fdA | apply fdS))); exact Tryz.underlying82; exact Tryz.underlying9; exact trivial; exact Tryz.zeroValue4; (with_reducible assumption); (with_reducible assumption)) (h:=p_e (by apply E_un; exact rfl; exact h4a) (h:=p_m (h:=p_z (h:=p_z (h:=p_p (h:=h0d ?_)))))))))) | (refine gR 26 ?_ <;> (try refine q_e (q_b (r:=by apply h1r; exact c_5; (focus (refine IntWalk.i64_in _ ?_; omega)))) ?_) <;> (try refine p_m (h:=h0d ?_))))
   exact h0w ⟨k + 1, ps, _, ep, kvs⟩ ⟨⟨by show k + 1 ≤ _; omega, by show ps.length ≤ k + 1; omega, hown, hmap, hok, hnd, hdir⟩, by show _ - (k + 1) < _ - k; omega⟩ (by (focus (repeat (first | exact Sub.nil | refine Sub.cons rfl ?_)))) (by intro w H; refine Sel.out ?_ H; (try simp only [List.cons_append, List.nil_append, List.append_assoc]); repeat (first | exact Sel.refl _ | exact Sel.nil _ | (with_reducible apply Sel.appS) | (apply Sel.cons; (focus (repeat (first | exact fd0 | (with_reducible assumption) | apply fdA | apply fdS))); (try simp only [zzE, zzF])) | apply Sel.drop | apply Sel.dropA))
  replace hl2 := hl2.trans (congrArg Value.bool (dec_f h1))
  by_cases h2 : r = 0
  ·have h20 : ((r : Nat) : Int) = 0 := by omega
   repeat' (first | refine h0e ?_ | refine h0t ?_ | refine h0x ?_ | refine h0u ?_ | refine h0h rfl ?_ | (refine gR 23 (p_m (h:=p_m (h:=p_e (by apply h5s; exact rfl; exact rfl; (focus (repeat (first | exact fd0 | apply fdA | apply fdS))); exact Tryz.underlying82; exact Tryz.underlying9; exact trivial; exact Tryz.zeroValue4; (with_reducible assumption); (with_reducible assumption)) (h:=p_e (by apply E_un; exact rfl; exact h4z) (h:=p_m (h:=q_y (h0m rfl) ?_)))))) <;> (try refine q_y (by exact q_b (r:=by refine h3o ?_; first | rfl | (with_reducible assumption) | (decide; done) | omega)) ?_) <;> (try refine p_p (h:=h0d ?_))) | (refine gR 26 ?_ <;> (try refine q_e (q_b (r:=by apply h1r; exact c_5; (focus (refine IntWalk.i64_in _ ?_; omega)))) ?_) <;> (try refine p_m (h:=h0d ?_))))
   exact h0w ⟨k + 1, ps, _, ep, kvs⟩ ⟨⟨by show k + 1 ≤ _; omega, by show ps.length ≤ k + 1; omega, hown, hmap, hok, hnd, hdir⟩, by show _ - (k + 1) < _ - k; omega⟩ (by (focus (repeat (first | exact Sub.nil | refine Sub.cons rfl ?_)))) (by intro w H; refine Sel.out ?_ H; (try simp only [List.cons_append, List.nil_append, List.append_assoc]); repeat (first | exact Sel.refl _ | exact Sel.nil _ | (with_reducible apply Sel.appS) | (apply Sel.cons; (focus (repeat (first | exact fd0 | (with_reducible assumption) | apply fdA | apply fdS))); (try simp only [zzE, zzF])) | apply Sel.drop | apply Sel.dropA))
  have h20 : ¬ ((r : Nat) : Int) = 0 := by omega
  have hl7 : ps.length ≤ 6 := by
   have := nd_len (ps.map (·.1)) dirL hnd (fun y hy => by obtain ⟨z, hz, rfl⟩ := List.mem_map.1 hy; exact hdir z hz)
   rw [List.length_map] at this
   exact this
  have hfi : ∀ v e, Own 104 2 v (ps.length + 1) (pthC ps ++ [.string (mB8 p), .int .u16 (r : Nat)]) e → Own 104 2 v (ps ++ [(p, r)]).length (pthC (ps ++ [(p, r)])) e := fun v e h => by
   rw [pthC_snoc, List.length_append]; exact h
  have hok' : ∀ z ∈ ps ++ [(p, r)], Pt.pathF z.1 = true ∧ z.2 ≠ 0 ∧ z.2 &&& HD = z.2 ∧ z.2 &&& 2047 = z.2 := mem_app1 hok ⟨hp2, h2, hr.1, hr.2⟩
  have hdir' : ∀ z ∈ ps ++ [(p, r)], z.1 ∈ dirL := mem_app1 hdir hp3
  have hnd' : ((ps ++ [(p, r)]).map (·.1)).Nodup := by rw [List.map_append]; exact nd_app hnd h1
  have hmap' : MapS keyT (updE kvs (keyT p) (.bool true) rr) ((ps ++ [(p, r)]).map (·.1)) := by rw [List.map_append]; exact hl3
  have hle' : (ps ++ [(p, r)]).length ≤ k + 1 := by rw [List.length_append]; simp only [List.length_cons, List.length_nil]; omega
  clear hmap hok hnd hdir hl3
  rcases h3i hown with ⟨hv0, h0, hx, rfl⟩ | ⟨g, capg, cur, hv0, rfl, q1, q2, q3, q4⟩
  ·injection hv0 with v1 v2 v3
   subst v1 v3
   rw [hx, h0] at hfi
   rw [h0]
   clear hown
   (try simp only [zzC, zzN])
   repeat' (first | refine h0p ?_ | refine h0e ?_ | refine h0t ?_ | refine h0x ?_ | refine h0j rfl ?_ | (refine gR 23 (p_m (h:=p_m (h:=p_e (by apply h5s; exact rfl; exact rfl; exact h3n; exact Tryz.underlying82; exact Tryz.underlying9; exact trivial; exact Tryz.zeroValue4; (with_reducible assumption); (with_reducible assumption)) (h:=p_e (by apply E_un; exact rfl; exact h4z) (h:=p_m (h:=p_y (h0m rfl) (h:=p_y (q_b (r:=by exact h3v q_o)) (h:=p_p (h:=h0d ?_)))))))))) | (refine gR 24 (p_m (h:=q_m ?_)) <;> (try refine h0f ?_; (apply h5i; exact rfl; exact rfl; exact rfl; exact h3n; exact Tryz.underlying82; exact Tryz.underlying9; exact trivial; (with_reducible assumption); (try simp only [List.set_cons_succ]); (try simp only [List.set_cons_zero]))) <;> (try refine h0d ?_)) | (refine gR 25 (p_e (q_f h3u) (h:=p_e q_l (h:=p_m (h:=q_m ?_)))) <;> (try refine q_e (by exact h0s (t:=104) (fun vs => (match vs with | [(_, x0), (_, x1)] => [x0, x1] | _ => [])) rfl (fun w => by kernel_rfl)) ?_; (try simp only [Value.cells]); (try simp only [zzC, zzN])) <;> (try refine h0f ?_; (refine h0o (t:=33) (m:=1) (e:=104) (fun vs => (match vs with | [(_, x0)] => x0.cells.toList | _ => [])) rfl rfl (fun w => by kernel_rfl) ?_; intro nb hnb; (try simp only [Value.cells]); (try simp only [zzC, zzN]))) <;> (try refine h0f ?_; (apply h2m; exact rfl; exact Tryz.underlying33; exact h5r; exact h6l; exact h6m; exact h6n; exact rfl; exact rfl; exact rfl; exact Own.nil _ _; exact fd0; exact Nat.le_of_ble_eq_true rfl; exact c_25; exact rfl; exact h5u; omega; (exact fun _ H => H); exact rfl; exact h6c; exact c_4; intro vA eA hownA; obtain ⟨gA, capA, curA, rfl, rfl, hA1, hA2, hA3, hA4⟩ := hownA.some (by omega); (try simp only [zzC, zzN]))) <;> (try refine q_e (q_f h3u) ?_) <;> (try refine h0f ?_; (refine q_S ?_)) <;> (try refine h0d ?_)) | (refine gR 26 ?_ <;> (try refine q_e (q_b (r:=by apply h1r; exact c_5; (focus (refine IntWalk.i64_in _ ?_; omega)))) ?_) <;> (try refine p_m (h:=h0d ?_))))
   all_goals exact h0w ⟨k + 1, ps ++ [(p, r)], _, _, _⟩ ⟨⟨by show k + 1 ≤ _; omega, hle', hfi _ _ (h4f (g:=gA) hA1 hA2 hA3 hA4), hmap', hok', hnd', hdir'⟩, by show _ - (k + 1) < _ - k; omega⟩ (by (focus (repeat (first | exact Sub.nil | refine Sub.cons rfl ?_)))) (by intro w H; refine Sel.out ?_ H; (try simp only [List.cons_append, List.nil_append, List.append_assoc]); repeat (first | exact Sel.refl _ | exact Sel.nil _ | (with_reducible apply Sel.appS) | (apply Sel.cons; (focus (repeat (first | exact fd0 | (with_reducible assumption) | apply fdA | apply fdS))); (try simp only [zzE, zzF])) | apply Sel.drop | apply Sel.dropA))
  ·injection hv0 with v1 v2 v3
   subst v1 v3
   rw [← q4] at hfi
   clear hown
   (try simp only [zzC, zzN])
   repeat' (first | refine h0p ?_ | refine h0e ?_ | refine h0t ?_ | refine h0x ?_ | refine h0j rfl ?_ | (refine gR 23 (p_m (h:=p_m (h:=p_e (by apply h5s; exact rfl; exact rfl; exact h3n; exact Tryz.underlying82; exact Tryz.underlying9; exact trivial; exact Tryz.zeroValue4; (with_reducible assumption); (with_reducible assumption)) (h:=p_e (by apply E_un; exact rfl; exact h4z) (h:=p_m (h:=p_y (h0m rfl) (h:=p_y (q_b (r:=by exact h3v q_o)) (h:=p_p (h:=h0d ?_)))))))))) | (refine gR 24 (p_m (h:=q_m ?_)) <;> (try refine h0f ?_; (apply h5i; exact rfl; exact rfl; exact rfl; exact h3n; exact Tryz.underlying82; exact Tryz.underlying9; exact trivial; (with_reducible assumption); (try simp only [List.set_cons_succ]); (try simp only [List.set_cons_zero]))) <;> (try refine h0d ?_)) | (refine gR 25 (p_e (q_f h3u) (h:=p_e q_l (h:=p_m (h:=q_m ?_)))) <;> (try refine q_e (by exact h0s (t:=104) (fun vs => (match vs with | [(_, x0), (_, x1)] => [x0, x1] | _ => [])) rfl (fun w => by kernel_rfl)) ?_; (try simp only [Value.cells]); (try simp only [zzC, zzN])) <;> (try refine h0f ?_; (refine h0o (t:=33) (m:=1) (e:=104) (fun vs => (match vs with | [(_, x0)] => x0.cells.toList | _ => [])) rfl rfl (fun w => by kernel_rfl) ?_; intro nb hnb; (try simp only [Value.cells]); (try simp only [zzC, zzN]))) <;> (try refine h0f ?_; (apply h1z; exact rfl; exact Tryz.underlying33; exact h5r; exact h6l; exact h6m; exact h6n; exact rfl; exact rfl; exact rfl; exact h3n; (with_reducible assumption); (with_reducible assumption); (with_reducible assumption); exact fd0; exact Nat.le_of_ble_eq_true rfl; exact c_25; exact rfl; exact h5u; omega; exact rfl; exact h6c; exact c_4; (try simp only [zzE, zzF]); intro vA eA hownA; obtain ⟨gA, capA, curA, rfl, rfl, hA1, hA2, hA3, hA4⟩ := hownA.some (by omega); (try simp only [zzC, zzN]))) <;> (try refine q_e (q_f h3u) ?_) <;> (try refine h0f ?_; (refine q_S ?_)) <;> (try refine h0d ?_)) | (refine gR 26 ?_ <;> (try refine q_e (q_b (r:=by apply h1r; exact c_5; (focus (refine IntWalk.i64_in _ ?_; omega)))) ?_) <;> (try refine p_m (h:=h0d ?_))))
   all_goals exact h0w ⟨k + 1, ps ++ [(p, r)], _, _, _⟩ ⟨⟨by show k + 1 ≤ _; omega, hle', hfi _ _ (h4f (g:=gA) hA1 hA2 hA3 hA4), hmap', hok', hnd', hdir'⟩, by show _ - (k + 1) < _ - k; omega⟩ (by (focus (repeat (first | exact Sub.nil | refine Sub.cons rfl ?_)))) (by intro w H; refine Sel.out ?_ H; (try simp only [List.cons_append, List.nil_append, List.append_assoc]); repeat (first | exact Sel.refl _ | exact Sel.nil _ | (with_reducible apply Sel.appS) | (apply Sel.cons; (focus (repeat (first | exact fd0 | (with_reducible assumption) | apply fdA | apply fdS))); (try simp only [zzE, zzF])) | apply Sel.drop | apply Sel.dropA))
 -- PORTS
 rintro ⟨k2, ps, vp, ep, kvs⟩ ⟨hpk, hpl, hownP, -, hpok, hpnd, hpdir⟩
 dsimp only at hpk hpl hownP hpok hpnd hpdir ⊢
 obtain ⟨wa, wc, rfl, -⟩ := hownP.sli []
 refine h3y (L' := pcB n4 (mB8 n0) act (.slice va rs.length vc) HD (.slice wa ps.length wc) (.slice none 0 0) :: ⟨true, n2, .cells #[.string ⟨#[]⟩, .int .u32 0, .slice none 0 0, .int .u16 0, .slice none 0 0, .slice none 0 0] 36 (0, 0)⟩ :: smB n1 nm df en (.slice ra rules.length rc) hd (.slice pa paths.length pc) (.slice ga rights.length gc) (.slice qa ports.length qc) :: (ep ++ L2)) (fun w H => HP.re2 (env:=[ep, [_, _, _], L2]) [0, 1, 2] [1, 0, 2] (by decide) rfl rfl H) ?_
 have hgs3 : Sli (ep ++ L2) ga rights.length 1 (u16g rights) := hgs2.upA ep
 have hqs3 : Sli (ep ++ L2) qa ports.length 1 (u8l ports) := hqs2.upA ep
 clear hps2 hgs2 hqs2 hrp hdi
 generalize hL3 : ep ++ L2 = L3 at hgs3 hqs3 ⊢
 repeat' (first | (refine h2r (id:=6) ?_) | refine h0p ?_ | refine h0e ?_ | (refine gR 27 ?_ <;> (try refine h0f ?_; (refine K1_makeMap rfl ?_; intro nb hnb)) <;> (try refine p_a (h:=h0d ?_))) | (refine gR 28 (p_e (q_f fo_48_7) (h:=p_e q_l (h:=p_e (by apply h0g; exact rfl; exact (fun _ => BigFrame.builtin_len ..); apply h0k Tryz.underlying45; exact h4y) (h:=p_m (h:=h0d ?_)))))))
 refine ⟨?_⟩
 obtain ⟨nbN, rfl⟩ : ∃ x, x = nb := ⟨_, rfl⟩
 refine h2z (γ:=SmqG) (SmqI ports.length HD) (fun _ => []) [(2, _), (4, _)]
  (fun g => g.ep ++ (pcB n4 (mB8 n0) act (.slice va rs.length vc) HD (.slice wa ps.length wc) g.vp :: ⟨true, n2, .cells #[.string ⟨#[]⟩, .int .u32 0, .slice none 0 0, .int .u16 0, .slice none 0 0, .slice none 0 0] 36 (0, 0)⟩ :: L3)) (.cons rfl (.cons rfl .nil)) ?_ ?_
 ·-- PORTLOOP
  refine h0r ?_
  refine h2s (γ:=SmqG) (SmqI ports.length HD) (fun g => ports.length - g.k) (fun g => [(133, .int .i64 (g.k : Nat))]) [(2, _), (4, _), (11, _), (16, _), (131, _), (132, _)]
   (fun g => g.ep ++ (pcB n4 (mB8 n0) act (.slice va rs.length vc) HD (.slice wa ps.length wc) g.vp :: h3m nbN g.kvs :: ⟨true, n2, .cells #[.string ⟨#[]⟩, .int .u32 0, .slice none 0 0, .int .u16 0, .slice none 0 0, .slice none 0 0] 36 (0, 0)⟩ :: smB n1 nm df en (.slice ra rules.length rc) hd (.slice pa paths.length pc) (.slice ga rights.length gc) (.slice qa ports.length qc) :: L3)) ⟨0, [], .slice none 0 0, [], []⟩ (.cons rfl (.cons rfl (.cons rfl (.cons rfl (.cons rfl (.cons rfl .nil)))))) ⟨Nat.zero_le _, Nat.zero_le _, Own.nil _ _, MapS.nil _, (fun _ h => by cases h), .nil, (fun _ h => by cases h)⟩ (by (focus (repeat (first | exact Sub.nil | refine Sub.cons rfl ?_)))) c_23 ?_
  clear hownP hpok hpnd hpdir hpl hpk
  rintro ⟨k, qs, vq, eq, kvs⟩ ⟨hk, hlen, hown, hmap, hok, hnd, hdir⟩
  dsimp only at hk hlen hown hmap hok hnd hdir ⊢
  by_cases hlt : k < ports.length
  case neg =>
   obtain ⟨ya, yc, rfl, -⟩ := hown.sli []
   repeat' (first | refine h0p ?_ | refine h0e ?_ | refine h0t ?_ | refine h1u ?_ | refine h1n ?_ | refine h1v ?_ | refine h2o ?_ | refine h0h rfl ?_ | (refine gR 29 (p_e (q_b (r:=by exact h1j q_o)) (h:=h0d ?_))))
   exact h0w ⟨k, qs, _, eq, kvs⟩ ⟨hk, hlen, hown, hmap, hok, hnd, hdir⟩ (by (focus (repeat (first | exact Sub.nil | refine Sub.cons rfl ?_)))) (by intro w H; refine Sel.out ?_ H; (try simp only [List.cons_append, List.nil_append, List.append_assoc]); repeat (first | exact Sel.refl _ | exact Sel.nil _ | (with_reducible apply Sel.appS) | (apply Sel.cons; (focus (repeat (first | exact fd0 | (with_reducible assumption) | apply fdA | apply fdS))); (try simp only [zzE, zzF])) | apply Sel.drop | apply Sel.dropA))
  obtain ⟨i0, q, b, off, cs, T, fr, rfl, hi0, hsz, hx⟩ := hqs3.elem1 hlt
  obtain ⟨x, hxe⟩ : ∃ x, x = ports[k] := ⟨_, rfl⟩
  have hxr : 0 ≤ x ∧ x < 256 := hxe ▸ hports _ (List.getElem_mem hlt)
  rw [u8l, List.getElem?_map, List.getElem?_eq_getElem hlt, Option.map_some, ← hxe] at hx
  clear hxe
  obtain ⟨p, hp⟩ : ∃ p : Nat, p = (80 + x % 4).toNat := ⟨_, rfl⟩
  have hpe : keyP p = .int .u16 (80 + x % 4) := by
   show Value.int .u16 ((p : Nat) : Int) = _
   rw [show ((p : Nat) : Int) = 80 + x % 4 by omega]
  obtain ⟨rr, hl1, hl2, hl3⟩ := hmap.look (.int .u16) keyP keyP_same p
  rw [hpe] at hl1 hl3
  obtain ⟨ya, yc, rfl, -⟩ := hown.sli []
  have hrq := hrq k (by omega)
  repeat' (first | (refine h2h (id:=33) ?_) | refine h0p ?_ | refine h0e ?_ | refine h0r ?_ | refine h0u ?_ | refine h0j rfl ?_ | (refine gR 29 (p_e (q_b (r:=by exact h1d q_o)) (h:=h0d ?_))) | (refine gR 30 (p_m (h:=p_e (by apply h0n; exact rfl; exact rfl; (focus (apply h3e Tryz.underlying45 sz_5; omega; omega; exact c_1))) (h:=p_e (by apply h1l (t:=5); exact rfl; (focus (repeat (first | (with_reducible assumption) | apply fdA | apply fdS))); kernel_rfl; kernel_rfl; (with_reducible assumption)) (h:=p_a (h:=p_a (h:=h0d ?_))))))) | (refine gR 31 (p_m (h:=q_e (q_b (r:=by apply rb_rem; omega; omega; exact c_5)) ?_)) <;> (try refine q_e (q_b (r:=by apply h1r; exact c_5; (focus (refine IntWalk.u8_in _ ?_; omega)))) ?_) <;> (try refine q_e (by apply h4l; exact rfl; (focus (apply h4r Tryz.underlying5 Tryz.underlying31; first | (refine IntWalk.i64_in _ ?_; omega) | (refine IntWalk.u8_in _ ?_; omega) | (refine IntWalk.u16_in _ ?_; omega) | (refine IntWalk.u32_in _ ?_; omega) | (refine IntWalk.u64_in _ ?_; omega) | (refine IntWalk.i32_in _ ?_; omega) | exact rfl))) ?_) <;> (try refine p_a (h:=h0d ?_))) | (refine gR 32 (p_m (h:=q_m ?_)) <;> (try refine h0f ?_; (apply K1_callvc (F:=27); kernel_rfl; exact rfl; exact rfl; exact rfl; exact rfl; (apply hrq; (focus (focus (repeat (first | exact fd0 | apply fdA | apply fdS)))); (focus (focus (repeat (first | exact fd0 | apply fdA)))); (focus (focus (repeat (first | (with_reducible assumption) | apply Sli.up | apply Sli.upA))))); rintro _ _ ⟨r, rfl, hr, rfl⟩)) <;> (try refine p_a (h:=h0d ?_))))
  refine ⟨?_⟩
  clear hrq
  by_cases h1 : p ∈ qs.map (·.1)
  ·replace hl2 := hl2.trans (congrArg Value.bool (dec_t h1))
   repeat' (first | refine h0e ?_ | refine h0t ?_ | refine h0x ?_ | refine h0u ?_ | refine h0h rfl ?_ | (refine gR 33 (p_m (h:=p_m (h:=p_e (by apply h5s; exact rfl; exact rfl; (focus (repeat (first | exact fd0 | apply fdA | apply fdS))); exact Tryz.underlying83; exact Tryz.underlying31; exact rfl; exact Tryz.zeroValue4; (with_reducible assumption); (with_reducible assumption)) (h:=p_e (by apply E_un; exact rfl; exact h4a) (h:=p_m (h:=p_z (h:=p_z (h:=p_p (h:=h0d ?_)))))))))) | (refine gR 36 ?_ <;> (try refine q_e (q_b (r:=by apply h1r; exact c_5; (focus (refine IntWalk.i64_in _ ?_; omega)))) ?_) <;> (try refine p_m (h:=h0d ?_))))
   exact h0w ⟨k + 1, qs, _, eq, kvs⟩ ⟨⟨by show k + 1 ≤ _; omega, by show qs.length ≤ k + 1; omega, hown, hmap, hok, hnd, hdir⟩, by show _ - (k + 1) < _ - k; omega⟩ (by (focus (repeat (first | exact Sub.nil | refine Sub.cons rfl ?_)))) (by intro w H; refine Sel.out ?_ H; (try simp only [List.cons_append, List.nil_append, List.append_assoc]); repeat (first | exact Sel.refl _ | exact Sel.nil _ | (with_reducible apply Sel.appS) | (apply Sel.cons; (focus (repeat (first | exact fd0 | (with_reducible assumption) | apply fdA | apply fdS))); (try simp only [zzE, zzF])) | apply Sel.drop | apply Sel.dropA))
  replace hl2 := hl2.trans (congrArg Value.bool (dec_f h1))
  by_cases h2 : r = 0
  ·have h20 : ((r : Nat) : Int) = 0 := by omega
   repeat' (first | refine h0e ?_ | refine h0t ?_ | refine h0x ?_ | refine h0u ?_ | refine h0h rfl ?_ | (refine gR 33 (p_m (h:=p_m (h:=p_e (by apply h5s; exact rfl; exact rfl; (focus (repeat (first | exact fd0 | apply fdA | apply fdS))); exact Tryz.underlying83; exact Tryz.underlying31; exact rfl; exact Tryz.zeroValue4; (with_reducible assumption); (with_reducible assumption)) (h:=p_e (by apply E_un; exact rfl; exact h4z) (h:=p_m (h:=q_y (h0m rfl) ?_)))))) <;> (try refine q_y (by exact q_b (r:=by refine h3o ?_; first | rfl | (with_reducible assumption) | (decide; done) | omega)) ?_) <;> (try refine p_p (h:=h0d ?_))) | (refine gR 36 ?_ <;> (try refine q_e (q_b (r:=by apply h1r; exact c_5; (focus (refine IntWalk.i64_in _ ?_; omega)))) ?_) <;> (try refine p_m (h:=h0d ?_))))
   exact h0w ⟨k + 1, qs, _, eq, kvs⟩ ⟨⟨by show k + 1 ≤ _; omega, by show qs.length ≤ k + 1; omega, hown, hmap, hok, hnd, hdir⟩, by show _ - (k + 1) < _ - k; omega⟩ (by (focus (repeat (first | exact Sub.nil | refine Sub.cons rfl ?_)))) (by intro w H; refine Sel.out ?_ H; (try simp only [List.cons_append, List.nil_append, List.append_assoc]); repeat (first | exact Sel.refl _ | exact Sel.nil _ | (with_reducible apply Sel.appS) | (apply Sel.cons; (focus (repeat (first | exact fd0 | (with_reducible assumption) | apply fdA | apply fdS))); (try simp only [zzE, zzF])) | apply Sel.drop | apply Sel.dropA))
  have h20 : ¬ ((r : Nat) : Int) = 0 := by omega
  have hl7 : qs.length ≤ 4 := by
   have := nd_len (qs.map (·.1)) [80, 81, 82, 83] hnd (fun y hy => by obtain ⟨z, hz, rfl⟩ := List.mem_map.1 hy; exact hdir z hz)
   rw [List.length_map] at this
   exact this
  have hfi : ∀ v e, Own 106 2 v (qs.length + 1) (porC qs ++ [.int .u16 (80 + x % 4), .int .u16 (r : Nat)]) e → Own 106 2 v (qs ++ [(p, r)]).length (porC (qs ++ [(p, r)])) e := fun v e h => by
   rw [porC_snoc, List.length_append, show (Value.int .u16 ((p : Nat) : Int)) = .int .u16 (80 + x % 4) from hpe]; exact h
  have hok' : ∀ z ∈ qs ++ [(p, r)], z.1 < 65536 ∧ z.2 ≠ 0 ∧ z.2 &&& HD = z.2 ∧ z.2 &&& 49152 = z.2 := mem_app1 hok ⟨by dsimp only; omega, h2, hr.1, hr.2⟩
  have hdir' : ∀ z ∈ qs ++ [(p, r)], z.1 ∈ [80, 81, 82, 83] := mem_app1 hdir (by
   dsimp only
   obtain h | h | h | h : p = 80 ∨ p = 81 ∨ p = 82 ∨ p = 83 := by omega
   all_goals simp [h])
  have hnd' : ((qs ++ [(p, r)]).map (·.1)).Nodup := by rw [List.map_append]; exact nd_app hnd h1
  have hmap' : MapS keyP (updE kvs (.int .u16 (80 + x % 4)) (.bool true) rr) ((qs ++ [(p, r)]).map (·.1)) := by rw [List.map_append]; exact hl3
  have hle' : (qs ++ [(p, r)]).length ≤ k + 1 := by rw [List.length_append]; simp only [List.length_cons, List.length_nil]; omega
  clear hmap hok hnd hdir hl3 hpe
  rcases h3i hown with ⟨hv0, h0, hx, rfl⟩ | ⟨g, capg, cur, hv0, rfl, q1, q2, q3, q4⟩
  ·injection hv0 with v1 v2 v3
   subst v1 v3
   rw [hx, h0] at hfi
   rw [h0]
   clear hown
   (try simp only [zzC, zzN])
   repeat' (first | refine h0p ?_ | refine h0e ?_ | refine h0t ?_ | refine h0x ?_ | refine h0j rfl ?_ | (refine gR 33 (p_m (h:=p_m (h:=p_e (by apply h5s; exact rfl; exact rfl; exact h3n; exact Tryz.underlying83; exact Tryz.underlying31; exact rfl; exact Tryz.zeroValue4; (with_reducible assumption); (with_reducible assumption)) (h:=p_e (by apply E_un; exact rfl; exact h4z) (h:=p_m (h:=p_y (h0m rfl) (h:=p_y (q_b (r:=by exact h3v q_o)) (h:=p_p (h:=h0d ?_)))))))))) | (refine gR 34 (p_m (h:=q_m ?_)) <;> (try refine h0f ?_; (apply h5i; exact rfl; exact rfl; exact rfl; exact h3n; exact Tryz.underlying83; exact Tryz.underlying31; exact rfl; (with_reducible assumption); (try simp only [List.set_cons_succ]); (try simp only [List.set_cons_zero]))) <;> (try refine h0d ?_)) | (refine gR 35 (p_e (q_f h3t) (h:=p_e q_l (h:=p_m (h:=q_m ?_)))) <;> (try refine q_e (by exact h0s (t:=106) (fun vs => (match vs with | [(_, x0), (_, x1)] => [x0, x1] | _ => [])) rfl (fun w => by kernel_rfl)) ?_; (try simp only [Value.cells]); (try simp only [zzC, zzN])) <;> (try refine h0f ?_; (refine h0o (t:=34) (m:=1) (e:=106) (fun vs => (match vs with | [(_, x0)] => x0.cells.toList | _ => [])) rfl rfl (fun w => by kernel_rfl) ?_; intro nb hnb; (try simp only [Value.cells]); (try simp only [zzC, zzN]))) <;> (try refine h0f ?_; (apply h2m; exact rfl; exact Tryz.underlying34; exact h5q; exact h6i; exact h6j; exact h6k; exact rfl; exact rfl; exact rfl; exact Own.nil _ _; exact fd0; exact Nat.le_of_ble_eq_true rfl; exact c_25; exact rfl; exact h5u; omega; (exact fun _ H => H); exact rfl; exact h6c; exact c_4; intro vA eA hownA; obtain ⟨gA, capA, curA, rfl, rfl, hA1, hA2, hA3, hA4⟩ := hownA.some (by omega); (try simp only [zzC, zzN]))) <;> (try refine q_e (q_f h3t) ?_) <;> (try refine h0f ?_; (refine q_S ?_)) <;> (try refine h0d ?_)) | (refine gR 36 ?_ <;> (try refine q_e (q_b (r:=by apply h1r; exact c_5; (focus (refine IntWalk.i64_in _ ?_; omega)))) ?_) <;> (try refine p_m (h:=h0d ?_))))
   all_goals exact h0w ⟨k + 1, qs ++ [(p, r)], _, _, _⟩ ⟨⟨by show k + 1 ≤ _; omega, hle', hfi _ _ (h4f (g:=gA) hA1 hA2 hA3 hA4), hmap', hok', hnd', hdir'⟩, by show _ - (k + 1) < _ - k; omega⟩ (by (focus (repeat (first | exact Sub.nil | refine Sub.cons rfl ?_)))) (by intro w H; refine Sel.out ?_ H; (try simp only [List.cons_append, List.nil_append, List.append_assoc]); repeat (first | exact Sel.refl _ | exact Sel.nil _ | (with_reducible apply Sel.appS) | (apply Sel.cons; (focus (repeat (first | exact fd0 | (with_reducible assumption) | apply fdA | apply fdS))); (try simp only [zzE, zzF])) | apply Sel.drop | apply Sel.dropA))
  ·injection hv0 with v1 v2 v3
   subst v1 v3
   rw [← q4] at hfi
   clear hown
   (try simp only [zzC, zzN])
   repeat' (first | refine h0p ?_ | refine h0e ?_ | refine h0t ?_ | refine h0x ?_ | refine h0j rfl ?_ | (refine gR 33 (p_m (h:=p_m (h:=p_e (by apply h5s; exact rfl; exact rfl; exact h3n; exact Tryz.underlying83; exact Tryz.underlying31; exact rfl; exact Tryz.zeroValue4; (with_reducible assumption); (with_reducible assumption)) (h:=p_e (by apply E_un; exact rfl; exact h4z) (h:=p_m (h:=p_y (h0m rfl) (h:=p_y (q_b (r:=by exact h3v q_o)) (h:=p_p (h:=h0d ?_)))))))))) | (refine gR 34 (p_m (h:=q_m ?_)) <;> (try refine h0f ?_; (apply h5i; exact rfl; exact rfl; exact rfl; exact h3n; exact Tryz.underlying83; exact Tryz.underlying31; exact rfl; (with_reducible assumption); (try simp only [List.set_cons_succ]); (try simp only [List.set_cons_zero]))) <;> (try refine h0d ?_)) | (refine gR 35 (p_e (q_f h3t) (h:=p_e q_l (h:=p_m (h:=q_m ?_)))) <;> (try refine q_e (by exact h0s (t:=106) (fun vs => (match vs with | [(_, x0), (_, x1)] => [x0, x1] | _ => [])) rfl (fun w => by kernel_rfl)) ?_; (try simp only [Value.cells]); (try simp only [zzC, zzN])) <;> (try refine h0f ?_; (refine h0o (t:=34) (m:=1) (e:=106) (fun vs => (match vs with | [(_, x0)] => x0.cells.toList | _ => [])) rfl rfl (fun w => by kernel_rfl) ?_; intro nb hnb; (try simp only [Value.cells]); (try simp only [zzC, zzN]))) <;> (try refine h0f ?_; (apply h1z; exact rfl; exact Tryz.underlying34; exact h5q; exact h6i; exact h6j; exact h6k; exact rfl; exact rfl; exact rfl; exact h3n; (with_reducible assumption); (with_reducible assumption); (with_reducible assumption); exact fd0; exact Nat.le_of_ble_eq_true rfl; exact c_25; exact rfl; exact h5u; omega; exact rfl; exact h6c; exact c_4; (try simp only [zzE, zzF]); intro vA eA hownA; obtain ⟨gA, capA, curA, rfl, rfl, hA1, hA2, hA3, hA4⟩ := hownA.some (by omega); (try simp only [zzC, zzN]))) <;> (try refine q_e (q_f h3t) ?_) <;> (try refine h0f ?_; (refine q_S ?_)) <;> (try refine h0d ?_)) | (refine gR 36 ?_ <;> (try refine q_e (q_b (r:=by apply h1r; exact c_5; (focus (refine IntWalk.i64_in _ ?_; omega)))) ?_) <;> (try refine p_m (h:=h0d ?_))))
   all_goals exact h0w ⟨k + 1, qs ++ [(p, r)], _, _, _⟩ ⟨⟨by show k + 1 ≤ _; omega, hle', hfi _ _ (h4f (g:=gA) hA1 hA2 hA3 hA4), hmap', hok', hnd', hdir'⟩, by show _ - (k + 1) < _ - k; omega⟩ (by (focus (repeat (first | exact Sub.nil | refine Sub.cons rfl ?_)))) (by intro w H; refine Sel.out ?_ H; (try simp only [List.cons_append, List.nil_append, List.append_assoc]); repeat (first | exact Sel.refl _ | exact Sel.nil _ | (with_reducible apply Sel.appS) | (apply Sel.cons; (focus (repeat (first | exact fd0 | (with_reducible assumption) | apply fdA | apply fdS))); (try simp only [zzE, zzF])) | apply Sel.drop | apply Sel.dropA))
 clear hrq
 rintro ⟨k3, qs, vq, eq, kvq⟩ ⟨hqk, hql, hownQ, -, hqok, hqnd, hqdir⟩
 dsimp only at hqk hql hownQ hqok hqnd hqdir ⊢
 obtain ⟨xa, xc, rfl, -⟩ := hownQ.sli []
 refine h3y (L' := pcB n4 (mB8 n0) act (.slice va rs.length vc) HD (.slice wa ps.length wc) (.slice xa qs.length xc) :: ⟨true, n2, .cells #[.string ⟨#[]⟩, .int .u32 0, .slice none 0 0, .int .u16 0, .slice none 0 0, .slice none 0 0] 36 (0, 0)⟩ :: (eq ++ L3)) (fun w H => HP.re2 (env:=[eq, [_, _], L3]) [0, 1, 2] [1, 0, 2] (by decide) rfl rfl H) ?_
 repeat' (first | refine h0p ?_ | refine h0e ?_ | refine h1h ?_ | (refine gR 37 (q_e (q_L sz_36) ?_) <;> (try refine h0f ?_; (refine q_W ?_)) <;> (try refine h0d ?_)))
 (apply h5j Tryz.results12; exact rfl; (focus (repeat (first | exact fd0 | (with_reducible assumption) | apply fdA | apply fdS))); kernel_rfl; kernel_rfl; exact sz_36; exact c_16)
 have hpl6 : ps.length ≤ 6 := by
  have := nd_len (ps.map (·.1)) dirL hpnd (fun y hy => by obtain ⟨z, hz, rfl⟩ := List.mem_map.1 hy; exact hpdir z hz)
  rw [List.length_map] at this
  exact this
 have hql4 : qs.length ≤ 4 := by
  have := nd_len (qs.map (·.1)) [80, 81, 82, 83] hqnd (fun y hy => by obtain ⟨z, hz, rfl⟩ := List.mem_map.1 hy; exact hqdir z hz)
  rw [List.length_map] at this
  exact this
 refine ⟨_, ⟨⟨.slice va rs.length vc, .slice wa ps.length wc, .slice xa qs.length xc, cz, er, ec, ep, eq⟩, ⟨n0, act, rs, HD, ps, qs⟩, rfl, ⟨hrsR, hownR, hownP, hownQ, hhd2, by dsimp only; omega, by dsimp only; omega, by dsimp only; omega⟩, ⟨hw0, hact0, hact, fun r hr => (hrok r hr).1, by dsimp only; rw [← hHD, Nat.and_assoc, Nat.and_self], by dsimp only; omega, by dsimp only; omega, by dsimp only; omega, hpok, hpnd, hqok, hqnd⟩, ⟨fun r hr => (hrok r hr).2⟩, ⟨rfl, by dsimp only; omega, by dsimp only; omega, by dsimp only; omega⟩, rfl⟩, fun w H => ?_⟩
 subst hL3 hL2
 have H2 : HP S w0 w (eq ++ (ep ++ (er ++ (ec ++ L)))) := by
  revert w
  intro w H; refine H.sub ?_; (try simp only [zzC, zzN]); repeat (first | exact List.Sublist.refl _ | refine List.Sublist.cons _ ?_)
 exact HP.re2 (env:=[eq, ep, er, ec, L]) [0, 1, 2, 3, 4] [2, 1, 0, 3, 4] (by decide) rfl (by unfold PoD.blocks; simp [flatB]) H2
abbrev GCnd.rc (c : GCnd) : List Value := [.int .i64 c.arg, .int .i64 (c.op : Nat), .int .u64 (c.mask : Nat), .int .u64 (c.val : Nat)]
def rgC (cs : List GCnd) : List Value := cs.flatMap GCnd.rc
def rpC (ps : List (List UInt8 × Nat)) : List Value := ps.flatMap fun p => [.string (mB8 p.1), .int .i64 (p.2 : Nat)]
def rqC (ps : List (Nat × Nat)) : List Value := ps.flatMap fun p => [.int .i64 (p.1 : Nat), .int .i64 (p.2 : Nat)]
inductive RefR : List GRul → List Value → List Blk → Prop
 | nil : RefR [] [] []
 | snoc {rs : List GRul} {cz : List Value} {ec : List Blk} {r : GRul} {v : Value} {e : List Blk} (h : RefR rs cz ec) (ho : Own 136 4 v r.conds.length (rgC r.conds) e) : RefR (rs ++ [r]) (cz ++ [.int .u32 r.num, .int .u32 r.act, v]) (e ++ ec)
structure RfD where
 vr : Value
 vp : Value
 vq : Value
 cz : List Value
 er : List Blk
 ec : List Blk
 ep : List Blk
 eq : List Blk
structure RfD.ok (d : RfD) (P : GPol) : Prop where
 rs : RefR P.rules d.cz d.ec
 vr : Own 130 3 d.vr P.rules.length d.cz d.er
 vp : Own 132 2 d.vp P.paths.length (rpC P.paths) d.ep
 vq : Own 134 2 d.vq P.ports.length (rqC P.ports) d.eq
def RfD.blocks (d : RfD) : List Blk := d.er ++ (d.ep ++ (d.eq ++ d.ec))
structure FewN (P : GPol) : Prop where
 conds : ∀ r ∈ P.rules, r.conds.length ≤ 1000
 l1 : P.rules.length ≤ 1000
 l2 : P.paths.length ≤ 1000
 l3 : P.ports.length ≤ 1000
abbrev poB (b : Nat) (nm : ByteArray) (df : Int) (vr : Value) (hd : Nat) (vp vq : Value) : Blk := ⟨true, b, .cells #[.string nm, .int .u32 df, vr, .int .u16 (hd : Nat), vp, vq] 36 (0, 0)⟩
def RCnS (L : List Blk) (v : Value) (cs : List GCnd) : Prop := ∃ a c, v = .slice a cs.length c ∧ Sli L a cs.length 4 (rgC cs) ∧ cs.length ≤ maxLen
def RRlG (L : List Blk) : List GRul → List Value → Prop
 | [], cz => cz = []
 | r :: rs, cz => ∃ v cz', cz = .int .u32 r.num :: .int .u32 r.act :: v :: cz' ∧ RCnS L v r.conds ∧ RRlG L rs cz'
structure RfS (L : List Blk) (P : GPol) (vr vp vq : Value) : Prop where
 rs : ∃ a c cz, vr = .slice a P.rules.length c ∧ Sli L a P.rules.length 3 cz ∧ RRlG L P.rules cz
 ps : ∃ a c, vp = .slice a P.paths.length c ∧ Sli L a P.paths.length 2 (rpC P.paths)
 qs : ∃ a c, vq = .slice a P.ports.length c ∧ Sli L a P.ports.length 2 (rqC P.ports)
 l1 : P.rules.length ≤ maxLen
 l2 : P.paths.length ≤ maxLen
 l3 : P.ports.length ≤ maxLen
theorem RCnS.upA {L : List Blk} {v : Value} {cs : List GCnd} (h : RCnS L v cs) (e : List Blk) : RCnS (e ++ L) v cs := let ⟨a, c, h1, h2, h3⟩ := h; ⟨a, c, h1, h2.upA e, h3⟩
theorem RCnS.left {L e : List Blk} {v : Value} {cs : List GCnd} (h : RCnS e v cs) : RCnS (e ++ L) v cs := let ⟨a, c, h1, h2, h3⟩ := h; ⟨a, c, h1, h2.left, h3⟩
theorem RRlG.upA {L : List Blk} (e : List Blk) : ∀ {rs : List GRul} {cz : List Value}, RRlG L rs cz → RRlG (e ++ L) rs cz
 | [], _, h => h
 | _ :: _, _, ⟨v, cz', h1, h2, h3⟩ => ⟨v, cz', h1, h2.upA e, RRlG.upA e h3⟩
theorem RRlG.left {L e : List Blk} : ∀ {rs : List GRul} {cz : List Value}, RRlG e rs cz → RRlG (e ++ L) rs cz
 | [], _, h => h
 | _ :: _, _, ⟨v, cz', h1, h2, h3⟩ => ⟨v, cz', h1, h2.left, RRlG.left h3⟩
theorem RfS.upA {L : List Blk} {P : GPol} {vr vp vq : Value} (h : RfS L P vr vp vq) (e : List Blk) : RfS (e ++ L) P vr vp vq := by
 obtain ⟨⟨a, c, cz, h1, h2, h3⟩, ⟨a2, c2, h4, h5⟩, ⟨a3, c3, h6, h7⟩, l1, l2, l3⟩ := h
 exact ⟨⟨a, c, cz, h1, h2.upA e, h3.upA e⟩, ⟨a2, c2, h4, h5.upA e⟩, ⟨a3, c3, h6, h7.upA e⟩, l1, l2, l3⟩
theorem RfS.left {L e : List Blk} {P : GPol} {vr vp vq : Value} (h : RfS e P vr vp vq) : RfS (e ++ L) P vr vp vq := by
 obtain ⟨⟨a, c, cz, h1, h2, h3⟩, ⟨a2, c2, h4, h5⟩, ⟨a3, c3, h6, h7⟩, l1, l2, l3⟩ := h
 exact ⟨⟨a, c, cz, h1, h2.left, h3.left⟩, ⟨a2, c2, h4, h5.left⟩, ⟨a3, c3, h6, h7.left⟩, l1, l2, l3⟩
theorem RRlG.at_ {L : List Blk} : ∀ {rs : List GRul} {cz : List Value} (_ : RRlG L rs cz) (k : Nat) (hk : k < rs.length), ∃ v, (cz.drop (k * 3)).take 3 = [.int .u32 (rs[k]).num, .int .u32 (rs[k]).act, v] ∧ RCnS L v (rs[k]).conds
 | r :: rs, cz, ⟨v, cz', h1, h2, h3⟩, 0, _ => ⟨v, by rw [h1]; rfl, h2⟩
 | r :: rs, cz, ⟨v, cz', h1, h2, h3⟩, k + 1, hk => by
  obtain ⟨v', e1, e2⟩ := RRlG.at_ h3 k (by simpa using hk)
  exact ⟨v', by rw [h1, show (k + 1) * 3 = 3 + k * 3 by omega, ← List.drop_drop]; exact e1, e2⟩
theorem RRlG.snoc {L : List Blk} {v : Value} {r : GRul} : ∀ {rs : List GRul} {cz : List Value}, RRlG L rs cz → RCnS L v r.conds → RRlG L (rs ++ [r]) (cz ++ [.int .u32 r.num, .int .u32 r.act, v])
 | [], cz, h, hc => by
  obtain rfl : cz = [] := h
  exact ⟨v, [], rfl, hc, rfl⟩
 | _ :: _, _, ⟨v2, cz', h1, h2, h3⟩, hc => ⟨v2, _, by rw [h1]; rfl, h2, RRlG.snoc h3 hc⟩
theorem RefR.g {rs : List GRul} {cz : List Value} {ec : List Blk} (h : RefR rs cz ec) (hl : ∀ r ∈ rs, r.conds.length ≤ maxLen) : RRlG ec rs cz := by
 induction h with
 | nil => rfl
 | @snoc rs cz ec r v e _ ho ih =>
  obtain ⟨a, c, hv, hs⟩ := ho.sli ec
  exact RRlG.snoc (RRlG.upA e (ih fun q hq => hl q (List.mem_append_left _ hq))) ⟨a, c, hv, hs, hl r (List.mem_append_right _ (List.mem_singleton.2 rfl))⟩
structure FewG (P : GPol) : Prop where
 conds : ∀ r ∈ P.rules, r.conds.length ≤ 20
 path : ∀ p ∈ P.paths, p.1.length ≤ 200
 l1 : P.rules.length ≤ 80
 l2 : P.paths.length ≤ 50
 l3 : P.ports.length ≤ 50
 nm : P.nm.length ≤ 100
theorem w_no32 {w : W3} (h : WOk w) : ∀ x ∈ w.2.1, x ≠ 32 ∧ x ≠ 10 := by
 intro x hx
 refine ⟨fun e => ?_, (h.no x hx).1⟩
 obtain ⟨c, r, -, -, hk⟩ := h.good.word
 have h1 := h.good.pred x hx
 have h2 := blk_pred c x (by rw [e]; decide)
 rw [hk] at h2
 rw [h1] at h2
 cases h2
theorem pred_lt : ∀ k : Fin 5, ∀ x : Fin 256, 1 ≤ k.val → h5l k.val (UInt8.ofNat x.val) = true → x.val < 128 := by decide +kernel
theorem w_lt {w : W3} (h : WOk w) : ∀ x ∈ w.2.1, x.toNat < 128 := by
 intro x hx
 obtain ⟨c, r, -, -, hk⟩ := h.good.word
 have hk4 : h2i c = 1 ∨ h2i c = 2 ∨ h2i c = 3 ∨ h2i c = 4 := by
  unfold h2i
  split
  ·left; rfl
  ·split
   ·right; left; rfl
   ·split
    ·right; right; left; rfl
    ·right; right; right; rfl
 have h1 := h.good.pred x hx
 have e : (UInt8.ofNat x.toNat) = x := by simp
 have hl : x.toNat < 256 := x.toNat_lt
 rw [hk] at hk4
 refine pred_lt ⟨(tk0 w).kind, by omega⟩ ⟨x.toNat, hl⟩ (by show 1 ≤ (tk0 w).kind; omega) ?_
 dsimp only
 rw [e]
 exact h1
theorem polT_byte (P : Pol) (h : PolOk P) (hr : PolRn P) : ∀ x ∈ polT P, x.toNat < 128 := by
 have hL := (polL_ok P h hr).1
 intro x hx
 obtain ⟨ws, hws, hx⟩ := List.mem_flatMap.1 hx
 have hok := hL.ok ws hws
 rcases List.mem_append.1 hx with hx | hx
 ·cases ws with
  | nil => cases hx
  | cons w r =>
   rcases List.mem_append.1 hx with hx | hx
   ·exact w_lt (hok w (List.mem_cons_self ..)) x hx
   ·obtain ⟨v, hv, hx⟩ := List.mem_flatMap.1 hx
    rcases List.mem_cons.1 hx with rfl | hx
    ·decide
    ·exact w_lt (hok v (List.mem_cons_of_mem _ hv)) x hx
 ·rw [List.mem_singleton.1 hx]; decide
structure SubB (X L : List Blk) : Prop where
 mem : ∀ b ∈ X, b ∈ L
theorem SubB.refl (X : List Blk) : SubB X X := ⟨fun _ h => h⟩
theorem SubB.left (X R : List Blk) : SubB X (X ++ R) := ⟨fun _ h => List.mem_append_left _ h⟩
theorem SubB.app {X R Y : List Blk} (h : SubB X R) : SubB (Y ++ X) (Y ++ R) := ⟨fun b hb => (List.mem_append.1 hb).elim (fun h => List.mem_append_left _ h) (fun hx => List.mem_append_right _ (h.mem b hx))⟩
theorem SubB.up {X L : List Blk} {x : Blk} (h : SubB X L) : SubB X (x :: L) := ⟨fun b hb => List.mem_cons_of_mem _ (h.mem b hb)⟩
theorem SubB.upA {X L e : List Blk} (h : SubB X L) : SubB X (e ++ L) := ⟨fun b hb => List.mem_append_right _ (h.mem b hb)⟩
theorem PrE.subB {pb ct rb n : Nat} {L0 M : List Blk} (h : PrE pb ct rb n L0 M) : SubB L0 M := ⟨fun _ hb => h.sub.subset hb⟩
theorem Sli.mono {X L : List Blk} {a : Option Addr} {n size : Nat} {xs : List Value} (h : Sli X a n size xs) (hs : SubB X L) : Sli L a n size xs := by
 refine ⟨h.1, ?_⟩
 rcases h.2 with h1 | ⟨i, q, b, off, cs, T, fr, h1, h2, h3⟩
 ·exact Or.inl h1
 ·obtain ⟨j, hj⟩ := List.mem_iff_getElem?.1 (hs.mem _ (List.mem_iff_getElem?.2 ⟨i, h2⟩))
  exact Or.inr ⟨j, q, b, off, cs, T, fr, h1, hj, h3⟩
theorem CndS.mono {X L : List Blk} {v : Value} {cs : List GCnd} (h : CndS X v cs) (hs : SubB X L) : CndS L v cs := let ⟨a, c, h1, h2, h3⟩ := h; ⟨a, c, h1, h2.mono hs, h3⟩
theorem RulsG.mono {X L : List Blk} (hs : SubB X L) : ∀ {rs : List GRul} {cz : List Value}, RulsG X rs cz → RulsG L rs cz
 | [], _, h => h
 | _ :: _, _, ⟨v, cz', h1, h2, h3⟩ => ⟨v, cz', h1, h2.mono hs, RulsG.mono hs h3⟩
theorem PolS.mono {X L : List Blk} {P : GPol} {vr vp vq : Value} (h : PolS X P vr vp vq) (hs : SubB X L) : PolS L P vr vp vq := by
 obtain ⟨⟨a, c, cz, h1, h2, h3⟩, ⟨a2, c2, h4, h5⟩, ⟨a3, c3, h6, h7⟩, l1, l2, l3⟩ := h
 exact ⟨⟨a, c, cz, h1, h2.mono hs, h3.mono hs⟩, ⟨a2, c2, h4, h5.mono hs⟩, ⟨a3, c3, h6, h7.mono hs⟩, l1, l2, l3⟩
theorem RCnS.mono {X L : List Blk} {v : Value} {cs : List GCnd} (h : RCnS X v cs) (hs : SubB X L) : RCnS L v cs := let ⟨a, c, h1, h2, h3⟩ := h; ⟨a, c, h1, h2.mono hs, h3⟩
theorem RRlG.mono {X L : List Blk} (hs : SubB X L) : ∀ {rs : List GRul} {cz : List Value}, RRlG X rs cz → RRlG L rs cz
 | [], _, h => h
 | _ :: _, _, ⟨v, cz', h1, h2, h3⟩ => ⟨v, cz', h1, h2.mono hs, RRlG.mono hs h3⟩
theorem RfS.mono {X L : List Blk} {P : GPol} {vr vp vq : Value} (h : RfS X P vr vp vq) (hs : SubB X L) : RfS L P vr vp vq := by
 obtain ⟨⟨a, c, cz, h1, h2, h3⟩, ⟨a2, c2, h4, h5⟩, ⟨a3, c3, h6, h7⟩, l1, l2, l3⟩ := h
 exact ⟨⟨a, c, cz, h1, h2.mono hs, h3.mono hs⟩, ⟨a2, c2, h4, h5.mono hs⟩, ⟨a3, c3, h6, h7.mono hs⟩, l1, l2, l3⟩
theorem same_m {S w0 L} {X1 X2 : List Blk} (P : GPol) {vr vp vq ur up uq : Value} (h1 : PolS X1 P vr vp vq) (h2 : PolS X2 P ur up uq) (s1 : SubB X1 L) (s2 : SubB X2 L) :
  Fn Tryz.prog 14 #[.agg #[.string (mB8 P.nm), .int .u32 P.df, vr, .int .u16 (P.hd : Nat), vp, vq], .agg #[.string (mB8 P.nm), .int .u32 P.df, ur, .int .u16 (P.hd : Nat), up, uq]] S w0 L fun v L' => v = .bool true ∧ L = L' :=
 psame_c (S:=S) (w0:=w0) P _ _ _ _ _ _ (h1.mono s1) (h2.mono s2)
def GCnd.c (c : GCnd) : Cnd := ⟨c.arg.toNat, c.op, c.mask, c.val⟩
def GRul.r (r : GRul) : RulP := ⟨r.num, r.act, r.conds.map GCnd.c⟩
def GPol.p (P : GPol) : Pol := ⟨P.nm, P.df, P.rules.map GRul.r, P.hd, P.paths, P.ports⟩
theorem pol_fewN {P : Pol} (h : PolOk P) : FewN P.g := by
 refine ⟨?_, ?_, ?_, ?_⟩
 ·intro r hr
  obtain ⟨q, hq, rfl⟩ := List.mem_map.1 hr
  have := (h.rules q hq).len
  show (q.conds.map Cnd.g).length ≤ 1000
  rw [List.length_map]; omega
 ·show (P.rules.map RulP.g).length ≤ 1000
  rw [List.length_map]; have := h.l1; omega
 ·show P.paths.length ≤ 1000
  have := h.l2; omega
 ·show P.ports.length ≤ 1000
  have := h.l3; omega
theorem SCndS.mono {X L : List Blk} {v : Value} {cs : List SCnd} (h : SCndS X v cs) (hs : SubB X L) : SCndS L v cs := let ⟨a, c, h1, h2, h3⟩ := h; ⟨a, c, h1, h2.mono hs, h3⟩
theorem SRulG.mono {X L : List Blk} (hs : SubB X L) : ∀ {rs : List SRul} {cz : List Value}, SRulG X rs cz → SRulG L rs cz
 | [], _, h => h
 | _ :: _, _, ⟨v, cz', h1, h2, h3⟩ => ⟨v, cz', h1, h2.mono hs, SRulG.mono hs h3⟩
theorem SPolS.mono {X L : List Blk} {s : SPol} {vr vp vg vq : Value} (h : SPolS X s vr vp vg vq) (hs : SubB X L) : SPolS L s vr vp vg vq := by
 obtain ⟨⟨a, c, cz, h1, h2, h3⟩, ⟨a2, c2, h4, h5⟩, ⟨a3, c3, h6, h7⟩, ⟨a4, c4, h8, h9⟩, l1, l2, l3, l4⟩ := h
 exact ⟨⟨a, c, cz, h1, h2.mono hs, h3.mono hs⟩, ⟨a2, c2, h4, h5.mono hs⟩, ⟨a3, c3, h6, h7.mono hs⟩, ⟨a4, c4, h8, h9.mono hs⟩, l1, l2, l3, l4⟩
theorem smpol_m {S w0 L X} (s : SPol) (h : s.ok) (vr vp vg vq : Value) (hS : SPolS X s vr vp vg vq) (hX : SubB X L) :
  Fn Tryz.prog 12 #[.agg #[.int .u8 s.nm, .int .u8 s.df, .int .u8 s.en, vr, .int .u16 (s.hd : Nat), vp, vg, vq]] S w0 L fun v L' => ∃ (P : Pol) (r1 p1 q1 : Option Addr) (r3 p3 q3 : Nat) (E : List Blk), v = .agg #[.string (mB8 P.nm), .int .u32 P.df, .slice r1 P.rules.length r3, .int .u16 (P.hd : Nat), .slice p1 P.paths.length p3, .slice q1 P.ports.length q3] ∧ PolOk P ∧ PolRn P ∧ PolS E P.g (.slice r1 P.rules.length r3) (.slice p1 P.paths.length p3) (.slice q1 P.ports.length q3) ∧ (P.hd = s.hd &&& 51199 ∧ P.rules.length ≤ 12 ∧ P.paths.length ≤ s.paths.length ∧ P.ports.length ≤ s.ports.length) ∧ E ++ L = L' := by
 refine (smpol_c (S:=S) (w0:=w0) s h vr vp vg vq (hS.mono hX)).mono ?_
 rintro v L' ⟨d, P, rfl, hd, hok, hrn, hi, rfl⟩
 have hS := hd.polS (pol_cl hok)
 obtain ⟨r1, r3, p1, p3, q1, q3, e1, e2, e3⟩ := hd.sl
 rw [e1, e2, e3] at hS
 exact ⟨_, ⟨P, r1, p1, q1, r3, p3, q3, _, by rw [e1, e2, e3], hok, hrn, hS, hi, rfl⟩, fun _ H => H⟩
theorem mB8_get {l : List UInt8} {p : Nat} (h : p < (mB8 l).size) (h2 : p < l.length) : (mB8 l)[p]'h = l[p] := rfl
structure GPolR (P : GPol) : Prop where
 nm : P.nm.length ≤ maxLen
 df : 0 ≤ P.df ∧ P.df < 4294967296
 rules : ∀ r ∈ P.rules, r.ok
 hd : P.hd < 65536
 paths : ∀ p ∈ P.paths, p.1.length ≤ maxLen ∧ p.2 < 65536
 ports : ∀ p ∈ P.ports, p.1 < 65536 ∧ p.2 < 65536
theorem GPolR.ok {P : GPol} (h : GPolR P) (hf : FewG P) : P.ok := by
 refine ⟨?_, h.df, h.rules, h.hd, ?_, h.ports⟩
 ·have := hf.nm; omega
 ·intro p hp
  have := hf.path p hp
  exact ⟨by omega, (h.paths p hp).2⟩
section
variable {P : Program} {n : Nat} {l : List (Nat × Value)} {S : List Nat} {w0 : World} {L : List Blk} {K : Act → World → Prop} {k : Kont} {ops : Array Oper} {d : Tmp} {ty : TypeId} {pos : String} {af : Array Edge}
theorem K1_appendSl {E size bytes : Nat} {t tt : TypeId} {inf : TypeInfo} {z : Value} {s y : Operand} {v : Value} {m : Nat} {xs : List Value} {e L0 : List Blk} {ya : Option Addr} {cnt cap : Nat} {news : List Value}
  (hd : Nat.blt d n = true) (ht : P.underlying t = some (.slice E)) (hi : P.info? E = some inf) (hz : inf.zero = some z) (hsize : inf.size = size) (hby : inf.bytes = bytes) (hzs : z.cells.size = size)
  (hs : ev l s = some v) (hy : ev l y = some (.slice ya cnt cap)) (hown : Own E size v m xs e) (hsl : Sli L ya cnt size news)
  (hone : news.all (·.oneCell') = true) (h63 : m + cnt ≤ maxLen) (hbytes : (m + cnt) * bytes ≤ 140737488355328) (hL : ∀ w, HP S w0 w L → HP S w0 w (e ++ L0)) (htt : tt = t) {mm : Nat} {xn : List Value} (hmm : m + cnt = mm) (hxn : xs ++ news = xn)
  (h : ∀ v' e', Own E size v' mm xn e' → G n ((d, v') :: l) S w0 (e' ++ L0) K) :
  G n l S w0 L (K1 P ops k ⟨some d, .call { callee := .builtin .append, args := #[s, y], argTypes := #[t, tt] }, ty, pos, af, none⟩ K) := by
 by_cases h0 : cnt = 0
 ·subst h0 htt hmm hxn
  have hn : news = [] := List.eq_nil_of_length_eq_zero (by rw [hsl.1, Nat.zero_mul])
  subst hn
  have hv : ∃ sa cp, v = .slice sa m cp ∧ m ≤ cp := by
   rcases hown.2 with ⟨rfl, rfl, _⟩ | ⟨g, c, cur, rfl, _, h1, _⟩
   ·exact ⟨none, 0, rfl, Nat.le_refl _⟩
   ·exact ⟨_, c, rfl, h1⟩
  obtain ⟨sa, cp, rfl, hle⟩ := hv
  have h2 := h (.slice sa m cp) e (by rw [Nat.add_zero, List.append_nil]; exact hown)
  exact K1_append0 hd ht hi hs hy hle rfl (h3y hL h2)
 ·rcases hsl.2 with h1 | ⟨i, q, b, off, cs, T, fr, rfl, hb, hle, hnews⟩
  ·exact absurd h1 h0
  ·exact h2m hd ht hi hz hsize hby hzs hs hy hown hb hle hnews hone h63 hbytes hL htt hmm hxn h
theorem K1_appendSlB {E size bytes : Nat} {t tt : TypeId} {inf : TypeInfo} {z : Value} {s y : Operand} {g m cp j : Nat} {cur : Array Value} {ya : Option Addr} {cnt cap : Nat} {news : List Value}
  (hd : Nat.blt d n = true) (ht : P.underlying t = some (.slice E)) (hi : P.info? E = some inf) (hz : inf.zero = some z) (hsize : inf.size = size) (hby : inf.bytes = bytes) (hzs : z.cells.size = size)
  (hs : ev l s = some (.slice (some ⟨g, 0, none⟩) m cp)) (hy : ev l y = some (.slice ya cnt cap)) (hown : L[j]? = some ⟨true, g, .cells cur E (0, 0)⟩) (hmc : m ≤ cp) (hcp : cp ≤ maxLen) (hcs : cur.size = cp * size) (hsl : Sli L ya cnt size news)
  (hone : news.all (·.oneCell') = true) (h63 : m + cnt ≤ maxLen) (hbytes : (m + cnt) * bytes ≤ 140737488355328) (htt : tt = t) {mm : Nat} {xn : List Value} (hmm : m + cnt = mm) (hxn : cur.toList.take (m * size) ++ news = xn)
  (h : ∀ v' e', Own E size v' mm xn e' → G n ((d, v') :: l) S w0 (e' ++ L.eraseIdx j) K) :
  G n l S w0 L (K1 P ops k ⟨some d, .call { callee := .builtin .append, args := #[s, y], argTypes := #[t, tt] }, ty, pos, af, none⟩ K) :=
 K1_appendSl hd ht hi hz hsize hby hzs hs hy (Own.of_block hmc hcp hcs) hsl hone h63 hbytes (fun _ H => H.pick hown) htt hmm hxn h
end
theorem gcC_one (cs : List GCnd) : (gcC cs).all (·.oneCell') = true := by
 rw [List.all_eq_true]
 intro u hu
 obtain ⟨c, -, hc⟩ := List.mem_flatMap.1 hu
 simp only [GCnd.cells, List.mem_cons, List.not_mem_nil, or_false] at hc
 rcases hc with rfl | rfl | rfl | rfl <;> rfl
theorem pthC_one (ps : List (List UInt8 × Nat)) : (pthC ps).all (·.oneCell') = true := by
 rw [List.all_eq_true]
 intro u hu
 obtain ⟨c, -, hc⟩ := List.mem_flatMap.1 hu
 simp only [List.mem_cons, List.not_mem_nil, or_false] at hc
 rcases hc with rfl | rfl <;> rfl
theorem porC_one (ps : List (Nat × Nat)) : (porC ps).all (·.oneCell') = true := by
 rw [List.all_eq_true]
 intro u hu
 obtain ⟨c, -, hc⟩ := List.mem_flatMap.1 hu
 simp only [List.mem_cons, List.not_mem_nil, or_false] at hc
 rcases hc with rfl | rfl <;> rfl
structure ClG where
 k : Nat
 cz : List Value
 vr : Value
 er : List Blk
 ec : List Blk
structure ClI (rules : List GRul) (g : ClG) : Prop where
 le : g.k ≤ rules.length
 rs : RulsG g.ec (rules.take g.k) g.cz
 own : Own 73 3 g.vr g.k g.cz g.er
set_option maxHeartbeats 2000000 in
theorem clone_c {S w0 L} (P : GPol) (hN : FewN P) (vr vp vq : Value) (hS : PolS L P vr vp vq) :
  Fn Tryz.prog 15 #[.agg (polG P vr vp vq).toArray] S w0 L fun v L' => ∃ (r1 p1 q1 : Option Addr) (r3 p3 q3 : Nat) (E : List Blk), v = .agg #[.string (mB8 P.nm), .int .u32 P.df, .slice r1 P.rules.length r3, .int .u16 (P.hd : Nat), .slice p1 P.paths.length p3, .slice q1 P.ports.length q3] ∧ PolS E P (.slice r1 P.rules.length r3) (.slice p1 P.paths.length p3) (.slice q1 P.ports.length q3) ∧ E ++ L = L' := by
 obtain ⟨⟨ra, rc, zz, rfl, hrs, hrg⟩, ⟨pa, pc, rfl, hps⟩, ⟨qa, qc, rfl, hqs⟩, -, -, -⟩ := hS
 obtain ⟨hcn, hl1, hl2, hl3⟩ := hN
 obtain ⟨nm, df, rules, hd, paths, ports⟩ := P
 dsimp only [polG] at *
 generalize hnmB : mB8 nm = nmB at *
 refine Fn1 Tryz.func15 Tryz.ntmps15 rfl rfl ?_
 repeat' (first | (refine h2r (id:=0) ?_) | refine h0p ?_ | refine h0e ?_ | (refine gR 0 ?_ <;> (try refine h0f ?_; (refine h5b (t:=36) rfl rfl ?_; intro nb hnb; (try simp only [Value.cells]))) <;> (try refine h0f ?_; (refine h0i (t:=36) rfl Tryz.zeroValue36 ?_; intro nb hnb; (try simp only [Value.cells]))) <;> (try refine h0d ?_)) | (refine gR 1 (p_a (h:=h0d ?_))) | (refine gR 2 (p_e (q_f h3s) (h:=p_e q_l (h:=p_e (by apply h0g; exact rfl; exact (fun _ => BigFrame.builtin_len ..); apply h0k Tryz.underlying30; exact h4y) (h:=p_m (h:=h0d ?_)))))))
 refine ⟨?_⟩
 rename_i n1 _
 obtain ⟨n2, rfl⟩ : ∃ x, x = nb := ⟨_, rfl⟩
 obtain ⟨Z2, hZ2⟩ : ∃ b : Blk, b = ⟨true, n2, .cells #[.string ⟨#[]⟩, .int .u32 0, .slice none 0 0, .int .u16 0, .slice none 0 0, .slice none 0 0] 36 (0, 0)⟩ := ⟨_, rfl⟩
 rw [← hZ2]
 refine h2z (γ:=ClG) (fun g => RulsG g.ec rules g.cz ∧ Own 73 3 g.vr rules.length g.cz g.er) (fun g => [(3, g.vr)]) [(1, _), (2, _)]
  (fun g => g.er ++ (Z2 :: poB n1 nmB df (.slice ra rules.length rc) hd (.slice pa paths.length pc) (.slice qa ports.length qc) :: (g.ec ++ L))) (.cons rfl (.cons rfl .nil)) ?_ ?_
 ·refine h0r ?_
  refine h2s (γ:=ClG) (ClI rules) (fun g => rules.length - g.k) (fun g => [(9, .int .i64 (g.k : Nat)), (3, g.vr)]) [(1, _), (2, _), (7, _), (8, _)]
   (fun g => g.er ++ (Z2 :: poB n1 nmB df (.slice ra rules.length rc) hd (.slice pa paths.length pc) (.slice qa ports.length qc) :: (g.ec ++ L))) ⟨0, [], .slice none 0 0, [], []⟩ (.cons rfl (.cons rfl (.cons rfl (.cons rfl .nil)))) ⟨Nat.zero_le _, rfl, Own.nil _ _⟩ (by (focus (repeat (first | exact Sub.nil | refine Sub.cons rfl ?_)))) c_27 ?_
  rintro ⟨k, cz, vr, er, ec⟩ ⟨hk, hR, hown⟩
  dsimp only at hk hR hown ⊢
  by_cases hlt : k < rules.length
  case neg =>
   obtain rfl : k = rules.length := by omega
   rw [List.take_length] at hR
   repeat' (first | refine h0p ?_ | refine h0e ?_ | refine h0t ?_ | refine h1u ?_ | refine h1n ?_ | refine h1v ?_ | refine h2o ?_ | refine h0h rfl ?_ | (refine gR 3 (p_e (q_b (r:=by exact h1j q_o)) (h:=h0d ?_))))
   exact h0w ⟨0, cz, vr, er, ec⟩ ⟨hR, hown⟩ (by (focus (repeat (first | exact Sub.nil | refine Sub.cons rfl ?_)))) (by intro w H; refine Sel.out ?_ H; (try simp only [List.cons_append, List.nil_append, List.append_assoc]); repeat (first | exact Sel.refl _ | exact Sel.nil _ | (with_reducible apply Sel.appS) | (apply Sel.cons; (focus (repeat (first | exact fd0 | (with_reducible assumption) | apply fdA | apply fdS))); (try simp only [zzE, zzF])) | apply Sel.drop | apply Sel.dropA))
  obtain ⟨j, q, bb, off, cs, T, fr, rfl, hj, hsz, hx⟩ := hrs.elem hlt
  obtain ⟨v, hv, hcs⟩ := hrg.at_ k hlt
  rw [hv] at hx
  have hck := hcn _ (List.getElem_mem hlt)
  obtain ⟨ca, cc, rfl, hsc, hcl⟩ := hcs
  clear hv
  have hm1 : (1000 : Nat) ≤ maxLen := by unfold maxLen; omega
  have hRs : ∀ (v : Value) (e : List Blk), Own 99 4 v rules[k].conds.length (gcC rules[k].conds) e → RulsG (e ++ ec) (rules.take (k + 1)) (cz ++ [.int .u32 rules[k].num, .int .u32 rules[k].act, v]) := fun v e h => by
   rw [List.take_succ_eq_append_getElem hlt]
   obtain ⟨a', c', h1, h2⟩ := h.sli ec
   exact RulsG.snoc (RulsG.upA e hR) ⟨a', c', h1, h2, Nat.le_trans hck hm1⟩
  have hone := gcC_one rules[k].conds
  generalize rules[k] = r at *
  obtain ⟨num, act, conds⟩ := r
  dsimp only at *
  clear hR
  have hSL := fun (x : Blk) => (((hsc.upA ec).upA [Z2, poB n1 nmB df (.slice (some ⟨bb, off, none⟩) rules.length rc) hd (.slice pa paths.length pc) (.slice qa ports.length qc)]).upA er).upA [x]
  simp only [List.cons_append, List.nil_append] at hSL
  repeat' (first | (refine h2h (id:=5) ?_) | refine h0p ?_ | refine h0e ?_ | refine h0r ?_ | refine h0u ?_ | refine h0j rfl ?_ | (refine gR 3 (p_e (q_b (r:=by exact h1d q_o)) (h:=h0d ?_))) | (refine gR 4 (p_e (by apply h0n; exact rfl; exact rfl; (focus (apply h3e Tryz.underlying30 sz_73; omega; omega; exact c_1))) (h:=q_e (by apply h3p (t:=73); exact rfl; (focus (repeat (first | (with_reducible assumption) | apply fdA | apply fdS))); kernel_rfl; kernel_rfl; exact sz_73; (with_reducible assumption); (with_reducible assumption)) ?_)) <;> (try refine h0f ?_; (refine h0i (t:=73) rfl Tryz.zeroValue73 ?_; intro nb hnb; (try simp only [Value.cells]))) <;> (try refine h0f ?_; (refine q_W ?_)) <;> (try refine h0d ?_)))
  refine ⟨?_⟩
  obtain ⟨n5, rfl⟩ : ∃ x, x = nb := ⟨_, rfl⟩
  refine h2z (γ:=Value × List Blk) (fun g => Own 99 4 g.1 conds.length (gcC conds) g.2) (fun _ => []) [(1, _), (2, _), (3, _), (5, _), (7, _), (8, _), (9, _)]
   (fun g => g.2 ++ (rlB n5 num act g.1 :: (er ++ (Z2 :: poB n1 nmB df (.slice (some ⟨bb, off, none⟩) rules.length rc) hd (.slice pa paths.length pc) (.slice qa ports.length qc) :: (ec ++ L))))) (.cons rfl (.cons rfl (.cons rfl (.cons rfl (.cons rfl (.cons rfl (.cons rfl .nil))))))) ?_ ?_
  ·by_cases hc0 : conds.length = 0
   ·obtain rfl : conds = [] := List.eq_nil_of_length_eq_zero hc0
    dsimp only [List.length_nil] at *
    repeat' (first | refine h0t ?_ | (refine gR 5 (p_e (q_f h3f) (h:=q_e q_l ?_)) <;> (try refine h0f ?_; (apply K1_append0; exact rfl; exact Tryz.underlying71; exact h4b; exact rfl; exact rfl; exact Nat.le_of_ble_eq_true rfl; exact rfl)) <;> (try refine q_e (q_f h3f) ?_) <;> (try refine h0f ?_; (refine q_S ?_)) <;> (try refine h0d ?_)))
    exact h0w (.slice none 0 0, []) (Own.nil _ _) (by (focus (repeat (first | exact Sub.nil | refine Sub.cons rfl ?_)))) c_27
   ·repeat' (first | refine h0t ?_ | (refine gR 5 (p_e (q_f h3f) (h:=q_e q_l ?_)) <;> (try refine h0f ?_; (apply K1_appendSl; exact rfl; exact Tryz.underlying71; exact h4b; exact h4h; exact h4i; exact h4j; exact rfl; exact rfl; exact rfl; exact Own.nil _ _; exact hSL _; (with_reducible assumption); exact h5u; omega; (exact fun _ H => H); exact rfl; exact h6c; exact c_4; intro vA eA hownA; obtain ⟨gA, capA, curA, rfl, rfl, hA1, hA2, hA3, hA4⟩ := hownA.some (by omega); (try simp only [zzC, zzN]))) <;> (try refine q_e (q_f h3f) ?_) <;> (try refine h0f ?_; (refine q_S ?_)) <;> (try refine h0d ?_)))
    exact h0w (_, _) (h4f (g:=gA) hA1 hA2 hA3 hA4) (by (focus (repeat (first | exact Sub.nil | refine Sub.cons rfl ?_)))) c_27
  clear hSL hsc hone hx
  rintro ⟨v, e⟩ hown2
  dsimp only at hown2 ⊢
  obtain ⟨sa, sc, rfl, -⟩ := hown2.sli []
  refine h3y (L' := er ++ (rlB n5 num act (.slice sa conds.length sc) :: Z2 :: poB n1 nmB df (.slice (some ⟨bb, off, none⟩) rules.length rc) hd (.slice pa paths.length pc) (.slice qa ports.length qc) :: (e ++ (ec ++ L)))) (fun w H => HP.re2 (env:=[e, [_], er, [_, _], ec, L]) [0, 1, 2, 3, 4, 5] [2, 1, 3, 0, 4, 5] (by decide) rfl rfl H) ?_
  have hR' := hRs _ _ hown2
  clear hown2 hRs
  have hfi : ∀ v' e', Own 73 3 v' (k + 1) (cz ++ [.int .u32 num, .int .u32 act, .slice sa conds.length sc]) e' → Own 73 3 v' (k + 1) (cz ++ [.int .u32 num, .int .u32 act, .slice sa conds.length sc]) e' := fun _ _ h => h
  rcases h3i hown with ⟨rfl, h0, hx', rfl⟩ | ⟨g, capg, cur, rfl, rfl, q1, q2, q3, q4⟩
  ·have hfi : ∀ v' e', Own 73 3 v' (0 + 1) ([] ++ [.int .u32 num, .int .u32 act, .slice sa conds.length sc]) e' → Own 73 3 v' (k + 1) (cz ++ [.int .u32 num, .int .u32 act, .slice sa conds.length sc]) e' := fun v e h => hfi v e (by rw [hx', h0]; exact h)
   clear hown hx'
   (try simp only [zzC, zzN])
   repeat' (first | refine h0e ?_ | refine h0t ?_ | refine h0x ?_ | (refine gR 6 (p_m (h:=q_e (q_L sz_73) ?_)) <;> (try refine h0f ?_; (refine h0o (t:=30) (m:=1) (e:=73) (fun vs => (match vs with | [(_, x0)] => x0.cells.toList | _ => [])) rfl rfl (fun w => by kernel_rfl) ?_; intro nb hnb; (try simp only [Value.cells]); (try simp only [zzC, zzN]))) <;> (try refine h0f ?_; (apply h2m; exact rfl; exact Tryz.underlying30; exact inf_73_i; exact inf_73_z; exact inf_73_s; exact inf_73_b; exact rfl; exact rfl; exact rfl; exact Own.nil _ _; exact fd0; exact Nat.le_of_ble_eq_true rfl; exact c_25; exact rfl; exact h5u; omega; (exact fun _ H => H); exact rfl; exact h6c; exact c_4; intro vA eA hownA; obtain ⟨gA, capA, curA, rfl, rfl, hA1, hA2, hA3, hA4⟩ := hownA.some (by omega); (try simp only [zzC, zzN]))) <;> (try refine p_a (h:=h0d ?_))) | (refine gR 7 ?_ <;> (try refine q_e (q_b (r:=by apply h1r; exact c_5; (focus (refine IntWalk.i64_in _ ?_; omega)))) ?_) <;> (try refine p_m (h:=h0d ?_))))
   all_goals exact h0w ⟨k + 1, _, _, _, e ++ ec⟩ ⟨⟨by show k + 1 ≤ _; omega, hR', hfi _ _ (h4f (g:=gA) hA1 hA2 hA3 hA4)⟩, by show _ - (k + 1) < _ - k; omega⟩ (by (focus (repeat (first | exact Sub.nil | refine Sub.cons rfl ?_)))) (by intro w H; refine Sel.out ?_ H; (try simp only [List.cons_append, List.nil_append, List.append_assoc]); repeat (first | exact Sel.refl _ | exact Sel.nil _ | (with_reducible apply Sel.appS) | (apply Sel.cons; (focus (repeat (first | exact fd0 | (with_reducible assumption) | apply fdA | apply fdS))); (try simp only [zzE, zzF])) | apply Sel.drop | apply Sel.dropA))
  ·rw [← q4] at hfi hR'
   clear hown
   (try simp only [zzC, zzN])
   repeat' (first | refine h0e ?_ | refine h0t ?_ | refine h0x ?_ | (refine gR 6 (p_m (h:=q_e (q_L sz_73) ?_)) <;> (try refine h0f ?_; (refine h0o (t:=30) (m:=1) (e:=73) (fun vs => (match vs with | [(_, x0)] => x0.cells.toList | _ => [])) rfl rfl (fun w => by kernel_rfl) ?_; intro nb hnb; (try simp only [Value.cells]); (try simp only [zzC, zzN]))) <;> (try refine h0f ?_; (apply h1z; exact rfl; exact Tryz.underlying30; exact inf_73_i; exact inf_73_z; exact inf_73_s; exact inf_73_b; exact rfl; exact rfl; exact rfl; exact h3n; (with_reducible assumption); (with_reducible assumption); (with_reducible assumption); exact fd0; exact Nat.le_of_ble_eq_true rfl; exact c_25; exact rfl; exact h5u; omega; exact rfl; exact h6c; exact c_4; (try simp only [zzE, zzF]); intro vA eA hownA; obtain ⟨gA, capA, curA, rfl, rfl, hA1, hA2, hA3, hA4⟩ := hownA.some (by omega); (try simp only [zzC, zzN]))) <;> (try refine p_a (h:=h0d ?_))) | (refine gR 7 ?_ <;> (try refine q_e (q_b (r:=by apply h1r; exact c_5; (focus (refine IntWalk.i64_in _ ?_; omega)))) ?_) <;> (try refine p_m (h:=h0d ?_))))
   all_goals exact h0w ⟨k + 1, _, _, _, e ++ ec⟩ ⟨⟨by show k + 1 ≤ _; omega, hR', hfi _ _ (h4f (g:=gA) hA1 hA2 hA3 hA4)⟩, by show _ - (k + 1) < _ - k; omega⟩ (by (focus (repeat (first | exact Sub.nil | refine Sub.cons rfl ?_)))) (by intro w H; refine Sel.out ?_ H; (try simp only [List.cons_append, List.nil_append, List.append_assoc]); repeat (first | exact Sel.refl _ | exact Sel.nil _ | (with_reducible apply Sel.appS) | (apply Sel.cons; (focus (repeat (first | exact fd0 | (with_reducible assumption) | apply fdA | apply fdS))); (try simp only [zzE, zzF])) | apply Sel.drop | apply Sel.dropA))
 rintro ⟨k1, cz, vr, er, ec⟩ ⟨hR, hownR⟩
 dsimp only at hR hownR ⊢
 obtain ⟨va, vc, rfl, -⟩ := hownR.sli []
 refine h3y (L' := poB n1 nmB df (.slice ra rules.length rc) hd (.slice pa paths.length pc) (.slice qa ports.length qc) :: Z2 :: (er ++ (ec ++ L))) (fun w H => HP.re2 (env:=[er, [Z2], [_], ec, L]) [0, 1, 2, 3, 4] [2, 1, 0, 3, 4] (by decide) rfl rfl H) ?_
 have hps2 : Sli (er ++ (ec ++ L)) pa paths.length 2 (pthC paths) := (hps.upA ec).upA er
 have hqs2 : Sli (er ++ (ec ++ L)) qa ports.length 2 (porC ports) := (hqs.upA ec).upA er
 have hone1 := pthC_one paths
 have hone2 := porC_one ports
 clear hrg hrs hps hqs hcn
 generalize hL2 : er ++ (ec ++ L) = L2 at hps2 hqs2 ⊢
 repeat' (first | (refine h2h (id:=9) ?_) | refine h0p ?_ | refine h0e ?_ | (refine gR 8 (p_m (h:=q_e (q_f h3s) ?_)) <;> (try refine h0f ?_; (refine q_S ?_)) <;> (try refine h0d ?_)))
 refine ⟨?_⟩
 have hSL := fun (x : Blk) => (hps2.upA [x, Z2])
 simp only [List.cons_append, List.nil_append] at hSL
 refine h2z (γ:=Value × List Blk) (fun g => Own 104 2 g.1 paths.length (pthC paths) g.2) (fun _ => []) [(1, _), (2, _)]
  (fun g => poB n1 nmB df (.slice va rules.length vc) hd g.1 (.slice qa ports.length qc) :: Z2 :: (g.2 ++ L2)) (.cons rfl (.cons rfl .nil)) ?_ ?_
 ·by_cases hc0 : paths.length = 0
  ·obtain rfl : paths = [] := List.eq_nil_of_length_eq_zero hc0
   dsimp only [List.length_nil] at *
   repeat' (first | refine h0t ?_ | (refine gR 9 (p_e (q_f h3u) (h:=q_e q_l ?_)) <;> (try refine h0f ?_; (apply K1_append0; exact rfl; exact Tryz.underlying33; exact h5r; exact rfl; exact rfl; exact Nat.le_of_ble_eq_true rfl; exact rfl)) <;> (try refine q_e (q_f h3u) ?_) <;> (try refine h0f ?_; (refine q_S ?_)) <;> (try refine h0d ?_)))
   exact h0w (.slice none 0 0, []) (Own.nil _ _) (by (focus (repeat (first | exact Sub.nil | refine Sub.cons rfl ?_)))) c_27
  ·repeat' (first | refine h0t ?_ | (refine gR 9 (p_e (q_f h3u) (h:=q_e q_l ?_)) <;> (try refine h0f ?_; (apply K1_appendSl; exact rfl; exact Tryz.underlying33; exact h5r; exact h6l; exact h6m; exact h6n; exact rfl; exact rfl; exact rfl; exact Own.nil _ _; exact hSL _; (with_reducible assumption); exact h5u; omega; (exact fun _ H => H); exact rfl; exact h6c; exact c_4; intro vA eA hownA; obtain ⟨gA, capA, curA, rfl, rfl, hA1, hA2, hA3, hA4⟩ := hownA.some (by omega); (try simp only [zzC, zzN]))) <;> (try refine q_e (q_f h3u) ?_) <;> (try refine h0f ?_; (refine q_S ?_)) <;> (try refine h0d ?_)))
   exact h0w (_, _) (h4f (g:=gA) hA1 hA2 hA3 hA4) (by (focus (repeat (first | exact Sub.nil | refine Sub.cons rfl ?_)))) c_23
 clear hSL
 rintro ⟨vp, ep⟩ hownP
 dsimp only at hownP ⊢
 obtain ⟨wa, wc, rfl, -⟩ := hownP.sli []
 have hqs3 : Sli (ep ++ L2) qa ports.length 2 (porC ports) := hqs2.upA ep
 clear hps2 hqs2
 generalize hL3 : ep ++ L2 = L3 at hqs3 ⊢
 have hSL := fun (x : Blk) => (hqs3.upA [x, Z2])
 simp only [List.cons_append, List.nil_append] at hSL
 refine h0p ?_
 refine h2z (γ:=Value × List Blk) (fun g => Own 106 2 g.1 ports.length (porC ports) g.2) (fun _ => []) [(1, _), (2, _)]
  (fun g => poB n1 nmB df (.slice va rules.length vc) hd (.slice wa paths.length wc) g.1 :: Z2 :: (g.2 ++ L3)) (.cons rfl (.cons rfl .nil)) ?_ ?_
 ·by_cases hc0 : ports.length = 0
  ·obtain rfl : ports = [] := List.eq_nil_of_length_eq_zero hc0
   dsimp only [List.length_nil] at *
   repeat' (first | refine h0t ?_ | (refine gR 10 (p_e (q_f h3t) (h:=q_e q_l ?_)) <;> (try refine h0f ?_; (apply K1_append0; exact rfl; exact Tryz.underlying34; exact h5q; exact rfl; exact rfl; exact Nat.le_of_ble_eq_true rfl; exact rfl)) <;> (try refine q_e (q_f h3t) ?_) <;> (try refine h0f ?_; (refine q_S ?_)) <;> (try refine h0d ?_)))
   exact h0w (.slice none 0 0, []) (Own.nil _ _) (by (focus (repeat (first | exact Sub.nil | refine Sub.cons rfl ?_)))) c_27
  ·repeat' (first | refine h0t ?_ | (refine gR 10 (p_e (q_f h3t) (h:=q_e q_l ?_)) <;> (try refine h0f ?_; (apply K1_appendSl; exact rfl; exact Tryz.underlying34; exact h5q; exact h6i; exact h6j; exact h6k; exact rfl; exact rfl; exact rfl; exact Own.nil _ _; exact hSL _; (with_reducible assumption); exact h5u; omega; (exact fun _ H => H); exact rfl; exact h6c; exact c_4; intro vA eA hownA; obtain ⟨gA, capA, curA, rfl, rfl, hA1, hA2, hA3, hA4⟩ := hownA.some (by omega); (try simp only [zzC, zzN]))) <;> (try refine q_e (q_f h3t) ?_) <;> (try refine h0f ?_; (refine q_S ?_)) <;> (try refine h0d ?_)))
   exact h0w (_, _) (h4f (g:=gA) hA1 hA2 hA3 hA4) (by (focus (repeat (first | exact Sub.nil | refine Sub.cons rfl ?_)))) c_23
 clear hSL
 rintro ⟨vq, eq⟩ hownQ
 dsimp only at hownQ ⊢
 obtain ⟨xa, xc, rfl, -⟩ := hownQ.sli []
 rw [hZ2]
 repeat' (first | refine h0p ?_ | refine h0e ?_ | refine h1h ?_ | (refine gR 11 (q_e (q_L sz_36) ?_) <;> (try refine h0f ?_; (refine q_W ?_)) <;> (try refine h0d ?_)))
 (apply h5j Tryz.results15; exact rfl; (focus (repeat (first | exact fd0 | (with_reducible assumption) | apply fdA | apply fdS))); kernel_rfl; kernel_rfl; exact sz_36; exact c_16)
 have hm : (1000 : Nat) ≤ maxLen := by unfold maxLen; omega
 obtain ⟨_, _, v1, s1⟩ := hownR.sli ([] : List Blk)
 obtain ⟨_, _, v2, s2⟩ := hownP.sli ([] : List Blk)
 obtain ⟨_, _, v3, s3⟩ := hownQ.sli ([] : List Blk)
 injection v1 with v1 _ v1'
 injection v2 with v2 _ v2'
 injection v3 with v3 _ v3'
 subst v1 v1' v2 v2' v3 v3'
 rw [List.append_nil] at s1 s2 s3
 refine ⟨_, ⟨va, wa, xa, vc, wc, xc, eq ++ (ep ++ (er ++ ec)), rfl, ⟨⟨va, vc, cz, rfl, ((s1.left).upA ep).upA eq, ((hR.upA er).upA ep).upA eq⟩, ⟨wa, wc, rfl, (s2.left).upA eq⟩, ⟨xa, xc, rfl, s3.left⟩, Nat.le_trans hl1 hm, Nat.le_trans hl2 hm, Nat.le_trans hl3 hm⟩, rfl⟩, fun w H => ?_⟩
 subst hL3 hL2
 simp only [List.append_assoc]
 revert w
 intro w H; refine H.sub ?_; (try simp only [zzC, zzN]); repeat (first | exact List.Sublist.refl _ | refine List.Sublist.cons _ ?_)
inductive It
 | r (x : RulP)
 | p (x : List UInt8 × Nat)
 | q (x : Nat × Nat)
def itL : It → List W3
 | .r x => rulL x
 | .p x => benL x
 | .q x => porL x
def itR : It → List RulP
 | .r x => [x]
 | _ => []
def itP : It → List (List UInt8 × Nat)
 | .p x => [x]
 | _ => []
def itQ : It → List (Nat × Nat)
 | .q x => [x]
 | _ => []
theorem lines_items (D : List (List W3)) (X : List It) : ∀ (P0 : Pol) (f : Nat), P0.hd &&& 51199 = P0.hd → (∀ r ∈ X.flatMap itR, RulOk r) → P0.rules.length + (X.flatMap itR).length ≤ 64 →
  (∀ p ∈ X.flatMap itP, Pt.pathF p.1 = true ∧ p.2 ≠ 0 ∧ p.2 &&& P0.hd = p.2 ∧ p.2 &&& 2047 = p.2) → ((P0.paths ++ X.flatMap itP).map (·.1)).Nodup → P0.paths.length + (X.flatMap itP).length ≤ 32 →
  (∀ p ∈ X.flatMap itQ, p.1 < 65536 ∧ p.2 ≠ 0 ∧ p.2 &&& P0.hd = p.2 ∧ p.2 &&& 49152 = p.2) → ((P0.ports ++ X.flatMap itQ).map (·.1)).Nodup → P0.ports.length + (X.flatMap itQ).length ≤ 32 →
  h2u (X.length + f) (P0, (toks (X.map itL ++ D), w0z)) = h2u f ({ P0 with rules := P0.rules ++ X.flatMap itR, paths := P0.paths ++ X.flatMap itP, ports := P0.ports ++ X.flatMap itQ }, (toks D, w0z)) := by
 induction X with
 | nil => intro P0 f _ _ _ _ _ _ _ _ _; simp
 | cons x X ih =>
  intro P0 f hh h1 h2 h3 h4 h5 h6 h7 h8
  rw [List.flatMap_cons] at h1 h2 h3 h4 h5 h6 h7 h8
  rw [List.flatMap_cons, List.flatMap_cons, List.flatMap_cons, List.map_cons, List.cons_append, List.length_cons, show X.length + 1 + f = 1 + (X.length + f) by omega]
  cases x with
  | r x =>
   have e := lines_rules P0 (X.map itL ++ D) [x] P0 (X.length + f) (fun q hq => h1 q (List.mem_append_left _ hq)) (by rw [List.length_append] at h2; simp only [itR, List.length_cons, List.length_nil] at h2 ⊢; omega)
   have e2 := ih { P0 with rules := P0.rules ++ [x] } f hh (fun q hq => h1 q (List.mem_append_right _ hq)) (by rw [List.length_append] at h2; simp only [itR, List.length_append, List.length_cons, List.length_nil] at h2 ⊢; omega) (by simpa [itP] using h3) (by simpa [itP] using h4) (by simpa [itP] using h5) (by simpa [itQ] using h6) (by simpa [itQ] using h7) (by simpa [itQ] using h8)
   refine (e.trans e2).trans ?_
   simp [itR, itP, itQ]
  | p x =>
   have e := lines_paths (X.map itL ++ D) [x] P0 (X.length + f) hh (fun q hq => h3 q (List.mem_append_left _ hq)) (by
    have : (P0.paths ++ (itP (.p x) ++ X.flatMap itP)).map (·.1) = (P0.paths ++ [x]).map (·.1) ++ (X.flatMap itP).map (·.1) := by simp [itP]
    rw [this, List.nodup_append] at h4
    exact h4.1) (by rw [List.length_append] at h5; simp only [itP, List.length_cons, List.length_nil] at h5 ⊢; omega)
   have e2 := ih { P0 with paths := P0.paths ++ [x] } f hh (by simpa [itR] using h1) (by simpa [itR] using h2) (fun q hq => h3 q (List.mem_append_right _ hq)) (by simpa [itP] using h4) (by rw [List.length_append] at h5; simp only [itP, List.length_append, List.length_cons, List.length_nil] at h5 ⊢; omega) (by simpa [itQ] using h6) (by simpa [itQ] using h7) (by simpa [itQ] using h8)
   refine (e.trans e2).trans ?_
   simp [itR, itP, itQ]
  | q x =>
   have e := lines_ports (X.map itL ++ D) [x] P0 (X.length + f) hh (fun q hq => h6 q (List.mem_append_left _ hq)) (by
    have : (P0.ports ++ (itQ (.q x) ++ X.flatMap itQ)).map (·.1) = (P0.ports ++ [x]).map (·.1) ++ (X.flatMap itQ).map (·.1) := by simp [itQ]
    rw [this, List.nodup_append] at h7
    exact h7.1) (by rw [List.length_append] at h8; simp only [itQ, List.length_cons, List.length_nil] at h8 ⊢; omega)
   have e2 := ih { P0 with ports := P0.ports ++ [x] } f hh (by simpa [itR] using h1) (by simpa [itR] using h2) (by simpa [itP] using h3) (by simpa [itP] using h4) (by simpa [itP] using h5) (fun q hq => h6 q (List.mem_append_right _ hq)) (by simpa [itQ] using h7) (by rw [List.length_append] at h8; simp only [itQ, List.length_append, List.length_cons, List.length_nil] at h8 ⊢; omega)
   refine (e.trans e2).trans ?_
   simp [itR, itP, itQ]
def ordL (nm : List UInt8) (df : Int) (hd : Nat) (X : List It) : List (List W3) := [wN tPolicy, wN nm] :: (wN tDefault :: actL df) :: (hanL hd ++ X.map itL)
theorem ord_tk (P : Pol) (h : PolOk P) (X : List It) (hr : X.flatMap itR = P.rules) (hp : X.flatMap itP = P.paths) (hq : X.flatMap itQ = P.ports) : allP (toks (ordL P.nm P.df P.hd X), w0z) = (P, ([], w0z)) := by
 have e1 : toks (ordL P.nm P.df P.hd X) = tk0 (wN tPolicy) :: tk0 (wN P.nm) :: ⟨0, [], 0, 1, 1⟩ :: tk0 (wN tDefault) :: ((actL P.df).map tk0 ++ (⟨0, [], 0, 1, 1⟩ :: toks (hanL P.hd ++ X.map itL))) := by
  unfold ordL
  rw [toks_cons, toks_cons]; simp
 rw [e1]
 generalize hD : toks (hanL P.hd ++ X.map itL) = D
 have e2 : ∀ r, h2g (tk0 (wN P.nm) :: r, w0z) = (tk0 (wN P.nm), (r, w0z)) := fun r => word_tk _ r (word_nc h.nm)
 have e3 : (tk0 (wN P.nm)).text = P.nm := rfl
 have hn : nmS (tk0 (wN tPolicy) :: tk0 (wN P.nm) :: ⟨0, [], 0, 1, 1⟩ :: tk0 (wN tDefault) :: ((actL P.df).map tk0 ++ (⟨0, [], 0, 1, 1⟩ :: D)), w0z) = (⟨0, [], 0, 1, 1⟩ :: tk0 (wN tDefault) :: ((actL P.df).map tk0 ++ (⟨0, [], 0, 1, 1⟩ :: D)), w0z) := by
  unfold nmS
  rw [key_tk, e2]
  dsimp only
  rw [e3, h.nm, if_neg (fun h => by cases h.2)]
 have hdf : dfS (tk0 (wN tPolicy) :: tk0 (wN P.nm) :: ⟨0, [], 0, 1, 1⟩ :: tk0 (wN tDefault) :: ((actL P.df).map tk0 ++ (⟨0, [], 0, 1, 1⟩ :: D)), w0z) = (P.df, (⟨0, [], 0, 1, 1⟩ :: D, w0z)) := by
  unfold dfS
  rw [hn, take_end]
  dsimp only
  rw [key_tk, act_tk P.df h.df0 h.df]
 unfold allP polS
 rw [hdf, key_tk, e2]
 dsimp only
 rw [take_end, e3]
 dsimp only
 have hf : ∃ f, D.length + 1 = (hanL P.hd).length + (X.length + (f + 1)) := by
  have := toks_len (hanL P.hd ++ X.map itL)
  rw [hD] at this
  simp only [List.length_append, List.length_map] at this
  exact ⟨D.length - ((hanL P.hd).length + X.length), by omega⟩
 obtain ⟨f, hf⟩ := hf
 rw [hf, ← hD]
 have hh : ∀ (Q : Pol) (E : List (List W3)) (g : Nat), Q.hd = 0 → h2u ((hanL P.hd).length + g) (Q, (toks (hanL P.hd ++ E), w0z)) = h2u g ({ Q with hd := P.hd }, (toks E, w0z)) := by
  intro Q E g hq
  unfold hanL
  by_cases h0 : P.hd ≠ 0
  ·rw [if_pos h0]
   have hk : ∀ tl, lineW Q (tk0 (wN tHandle)) ([wN (rgT P.hd)].map tk0 ++ (⟨0, [], 0, 1, 1⟩ :: tl), w0z) = ({ Q with hd := P.hd }, (⟨0, [], 0, 1, 1⟩ :: tl, w0z)) := by
    intro tl
    unfold lineW
    rw [if_neg (by decide), if_pos (show (tk0 (wN tHandle)).text = tHandle from rfl), hq]
    have e := han_tk (tk0 (wN tHandle)) P.hd h0 h.hd tl
    show (_, (hanF 0 (tk0 (wN tHandle)) (tk0 (wN (rgT P.hd)) :: (⟨0, [], 0, 1, 1⟩ :: tl), w0z)).2) = _
    rw [e]
    show (({ Q with hd := (hanF 0 (tk0 (wN tHandle)) (tk0 (wN (rgT P.hd)) :: (⟨0, [], 0, 1, 1⟩ :: tl), w0z)).1 } : Pol), _) = _
    rw [e]
   show h2u (1 + g) (Q, (toks ([wN tHandle, wN (rgT P.hd)] :: E), w0z)) = _
   rw [Nat.add_comm, line_tk (ws:=[wN tHandle, wN (rgT P.hd)]) (P' := { Q with hd := P.hd }) (k:=tHandle) (r:=[wN (rgT P.hd)]) rfl hk]
  ·rw [if_neg h0]
   have h1 : P.hd = 0 := by omega
   have e : ({ Q with hd := P.hd } : Pol) = Q := by rw [h1, ← hq]
   rw [e]
   show h2u (0 + g) (Q, (toks E, w0z)) = _
   rw [Nat.zero_add]
 rw [hh ⟨P.nm, P.df, [], 0, [], []⟩ _ _ rfl]
 dsimp only
 have e5 : X.map itL = X.map itL ++ [] := (List.append_nil _).symm
 rw [e5, lines_items [] X ⟨P.nm, P.df, [], P.hd, [], []⟩ _ h.hd (by rw [hr]; exact h.rules) (by rw [hr]; simpa using h.l1) (by rw [hp]; exact h.paths) (by rw [hp]; simpa using h.pnd) (by rw [hp]; simpa using h.l2) (by rw [hq]; exact h.ports) (by rw [hq]; simpa using h.qnd) (by rw [hq]; simpa using h.l3), hr, hp, hq]
 dsimp only [List.nil_append]
 show h2u (f + 1) (_, ([], w0z)) = _
 rw [h2u, if_pos (Or.inl rfl)]
theorem items_perm (X : List It) : X.Perm ((X.flatMap itR).map It.r ++ ((X.flatMap itP).map It.p ++ (X.flatMap itQ).map It.q)) := by
 induction X with
 | nil => exact .refl _
 | cons x X ih =>
  cases x with
  | r x => exact ih.cons (It.r x)
  | p x =>
   show (It.p x :: X).Perm ((X.flatMap itR).map It.r ++ (It.p x :: ((X.flatMap itP).map It.p ++ (X.flatMap itQ).map It.q)))
   exact (ih.cons (It.p x)).trans List.perm_middle.symm
  | q x =>
   show (It.q x :: X).Perm ((X.flatMap itR).map It.r ++ ((X.flatMap itP).map It.p ++ (It.q x :: (X.flatMap itQ).map It.q)))
   refine (ih.cons (It.q x)).trans ?_
   rw [← List.append_assoc, ← List.append_assoc]
   exact List.perm_middle.symm
theorem ord_perm (P : Pol) (X : List It) (hr : X.flatMap itR = P.rules) (hp : X.flatMap itP = P.paths) (hq : X.flatMap itQ = P.ports) : (ordL P.nm P.df P.hd X).Perm (polL P) := by
 have h := (items_perm X).map itL
 rw [hr, hp, hq, List.map_append, List.map_append, List.map_map, List.map_map, List.map_map] at h
 unfold ordL polL
 refine ((List.Perm.append_left (hanL P.hd) h).trans ?_).cons _ |>.cons _
 exact List.perm_append_comm_assoc ..
theorem ord_back (P : Pol) (h : PolOk P) (hrn : PolRn P) (X : List It) (hr : X.flatMap itR = P.rules) (hp : X.flatMap itP = P.paths) (hq : X.flatMap itQ = P.ports) : polF (h4p (ordL P.nm P.df P.hd X)) = (P, (0, 0, 0)) ∧ (h4p (ordL P.nm P.df P.hd X)).length ≤ 55000 := by
 have hpm := ord_perm P X hr hp hq
 obtain ⟨h1, h2⟩ := polL_ok P h hrn
 have hL : LinesOk (ordL P.nm P.df P.hd X) := ⟨fun ws hw => h1.ne ws (hpm.mem_iff.1 hw), fun ws hw => h1.ok ws (hpm.mem_iff.1 hw)⟩
 have hlen : (h4p (ordL P.nm P.df P.hd X)).length = (h4p (polL P)).length := by
  unfold h4p
  exact (hpm.flatMap_right _).length_eq
 have hle : (h4p (ordL P.nm P.df P.hd X)).length ≤ 55000 := by rw [hlen]; exact h2
 refine ⟨?_, hle⟩
 obtain ⟨ts, h3, h4⟩ := lex_lines (ordL P.nm P.df P.hd X) hL (by omega)
 have h5 := ord_tk P h X hr hp hq
 obtain ⟨g1, g2, g3⟩ := allP_r (s:=(ts, (0, 0, 0))) (s' := (toks (ordL P.nm P.df P.hd X), (0, 0, 0))) ⟨h4, Iff.rfl⟩
 have h6 : allP (toks (ordL P.nm P.df P.hd X), (0, 0, 0)) = (P, ([], (0, 0, 0))) := h5
 rw [h6] at g1 g3
 unfold polF
 rw [h3]
 dsimp only
 rw [if_pos (g3.2 rfl), g1]
end Go.Proofs.YtecbgehooembmaaGreatDoor
