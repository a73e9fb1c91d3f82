/- Part 10 of what the last text of this claim leans on: rules of walks, contracts, plain facts. Conditions: those of each statement. -/
import Derived.Test.YtecbgehooembmaaGreatDoorQl9
set_option maxRecDepth 100000
namespace Go.Proofs.YtecbgehooembmaaGreatDoor
open Go Go.RowKit
def nmC : Array Value := #[.string ⟨#[112]⟩, .string ⟨#[112, 111, 108, 45, 49]⟩, .string ⟨#[120, 95, 121]⟩]
theorem nmC_at (k : Nat) (h : k < 3) : ∃ n : List UInt8, nmC.toList[k]? = some (.string (mB8 n)) ∧ Wd.wordF (mB8 n) = true := by
 match k, h with
 | 0, _ => exact ⟨[112], rfl, by decide +kernel⟩
 | 1, _ => exact ⟨[112, 111, 108, 45, 49], rfl, by decide +kernel⟩
 | 2, _ => exact ⟨[120, 95, 121], rfl, by decide +kernel⟩
theorem callC_at (k : Nat) (h : k < 30) : ∃ n : Nat, callC.toArray.toList[k * 3]? = some (.int .i64 (n : Nat)) ∧ (h5h (n : Nat) clls).isSome = true ∧ n < 4294967296 := by
 obtain rfl | rfl | rfl | rfl | rfl | rfl | rfl | rfl | rfl | rfl | rfl | rfl | rfl | rfl | rfl | rfl | rfl | rfl | rfl | rfl | rfl | rfl | rfl | rfl | rfl | rfl | rfl | rfl | rfl | rfl : k = 0 ∨ k = 1 ∨ k = 2 ∨ k = 3 ∨ k = 4 ∨ k = 5 ∨ k = 6 ∨ k = 7 ∨ k = 8 ∨ k = 9 ∨ k = 10 ∨ k = 11 ∨ k = 12 ∨ k = 13 ∨ k = 14 ∨ k = 15 ∨ k = 16 ∨ k = 17 ∨ k = 18 ∨ k = 19 ∨ k = 20 ∨ k = 21 ∨ k = 22 ∨ k = 23 ∨ k = 24 ∨ k = 25 ∨ k = 26 ∨ k = 27 ∨ k = 28 ∨ k = 29 := by omega
 ·exact ⟨0, by kernel_rfl, by decide +kernel, by omega⟩
 ·exact ⟨1, by kernel_rfl, by decide +kernel, by omega⟩
 ·exact ⟨2, by kernel_rfl, by decide +kernel, by omega⟩
 ·exact ⟨3, by kernel_rfl, by decide +kernel, by omega⟩
 ·exact ⟨4, by kernel_rfl, by decide +kernel, by omega⟩
 ·exact ⟨8, by kernel_rfl, by decide +kernel, by omega⟩
 ·exact ⟨32, by kernel_rfl, by decide +kernel, by omega⟩
 ·exact ⟨39, by kernel_rfl, by decide +kernel, by omega⟩
 ·exact ⟨41, by kernel_rfl, by decide +kernel, by omega⟩
 ·exact ⟨42, by kernel_rfl, by decide +kernel, by omega⟩
 ·exact ⟨49, by kernel_rfl, by decide +kernel, by omega⟩
 ·exact ⟨50, by kernel_rfl, by decide +kernel, by omega⟩
 ·exact ⟨57, by kernel_rfl, by decide +kernel, by omega⟩
 ·exact ⟨60, by kernel_rfl, by decide +kernel, by omega⟩
 ·exact ⟨77, by kernel_rfl, by decide +kernel, by omega⟩
 ·exact ⟨78, by kernel_rfl, by decide +kernel, by omega⟩
 ·exact ⟨79, by kernel_rfl, by decide +kernel, by omega⟩
 ·exact ⟨80, by kernel_rfl, by decide +kernel, by omega⟩
 ·exact ⟨82, by kernel_rfl, by decide +kernel, by omega⟩
 ·exact ⟨83, by kernel_rfl, by decide +kernel, by omega⟩
 ·exact ⟨84, by kernel_rfl, by decide +kernel, by omega⟩
 ·exact ⟨86, by kernel_rfl, by decide +kernel, by omega⟩
 ·exact ⟨87, by kernel_rfl, by decide +kernel, by omega⟩
 ·exact ⟨88, by kernel_rfl, by decide +kernel, by omega⟩
 ·exact ⟨89, by kernel_rfl, by decide +kernel, by omega⟩
 ·exact ⟨157, by kernel_rfl, by decide +kernel, by omega⟩
 ·exact ⟨165, by kernel_rfl, by decide +kernel, by omega⟩
 ·exact ⟨166, by kernel_rfl, by decide +kernel, by omega⟩
 ·exact ⟨317, by kernel_rfl, by decide +kernel, by omega⟩
 ·exact ⟨446, by kernel_rfl, by decide +kernel, by omega⟩
structure SmG where
 k : Nat
 rs : List RulP
 cz : List Value
 vr : Value
 er : List Blk
 ec : List Blk
structure SmI (N : Nat) (g : SmG) : Prop where
 le : g.k ≤ N
 len : g.rs.length = g.k
 le2 : g.k ≤ 12
 rs : RulsR g.rs g.cz g.ec
 own : Own 73 3 g.vr g.rs.length g.cz g.er
 ok : ∀ r ∈ g.rs, RulOk r ∧ ∀ c ∈ r.conds, c.mask ≤ 18446744073709551615 ∧ c.val ≤ 18446744073709551615
def dirL : List (List UInt8) := [[47], [47, 97], [47, 97, 47, 98], [47, 102], [47, 97, 47, 103], [47, 99]]
theorem dirL_at (k : Nat) (h : k < 6) : ∃ p : List UInt8, dirC.toList[k]? = some (.string (mB8 p)) ∧ Pt.pathF p = true ∧ p ∈ dirL := by
 obtain rfl | rfl | rfl | rfl | rfl | rfl : k = 0 ∨ k = 1 ∨ k = 2 ∨ k = 3 ∨ k = 4 ∨ k = 5 := by omega
 ·exact ⟨[47], rfl, by decide +kernel, by decide⟩
 ·exact ⟨[47, 97], rfl, by decide +kernel, by decide⟩
 ·exact ⟨[47, 97, 47, 98], rfl, by decide +kernel, by decide⟩
 ·exact ⟨[47, 102], rfl, by decide +kernel, by decide⟩
 ·exact ⟨[47, 97, 47, 103], rfl, by decide +kernel, by decide⟩
 ·exact ⟨[47, 99], rfl, by decide +kernel, by decide⟩
theorem nd_len {α : Type} [DecidableEq α] : ∀ (l m : List α), l.Nodup → (∀ x ∈ l, x ∈ m) → l.length ≤ m.length
 | [], _, _, _ => Nat.zero_le _
 | a :: l, m, h, hs => by
  have h2 := List.nodup_cons.1 h
  have h3 := nd_len l (m.erase a) h2.2 (fun x hx => (List.mem_erase_of_ne (fun e => h2.1 (by subst e; exact hx))).2 (hs x (List.mem_cons_of_mem _ hx)))
  have hm := hs a (List.mem_cons_self ..)
  rw [List.length_erase_of_mem hm] at h3
  have : 0 < m.length := List.length_pos_of_mem hm
  rw [List.length_cons]
  omega
structure SmpG where
 k : Nat
 ps : List (List UInt8 × Nat)
 vp : Value
 ep : List Blk
 kvs : List (Value × Value)
structure SmpI (N HD : Nat) (g : SmpG) : Prop where
 le : g.k ≤ N
 len : g.ps.length ≤ g.k
 own : Own 104 2 g.vp g.ps.length (pthC g.ps) g.ep
 map : MapS keyT g.kvs (g.ps.map (·.1))
 ok : ∀ p ∈ g.ps, Pt.pathF p.1 = true ∧ p.2 ≠ 0 ∧ p.2 &&& HD = p.2 ∧ p.2 &&& 2047 = p.2
 nd : (g.ps.map (·.1)).Nodup
 dir : ∀ p ∈ g.ps, p.1 ∈ dirL
structure SmqG where
 k : Nat
 ps : List (Nat × Nat)
 vp : Value
 ep : List Blk
 kvs : List (Value × Value)
structure SmqI (N HD : Nat) (g : SmqG) : Prop where
 le : g.k ≤ N
 len : g.ps.length ≤ g.k
 own : Own 106 2 g.vp g.ps.length (porC g.ps) g.ep
 map : MapS keyP g.kvs (g.ps.map (·.1))
 ok : ∀ p ∈ g.ps, p.1 < 65536 ∧ p.2 ≠ 0 ∧ p.2 &&& HD = p.2 ∧ p.2 &&& 49152 = p.2
 nd : (g.ps.map (·.1)).Nodup
 dir : ∀ p ∈ g.ps, p.1 ∈ [80, 81, 82, 83]
set_option maxHeartbeats 2000000 in
theorem smpol_c {S w0 L} (s : SPol) (h : s.ok) (vr vp vg vq : Value) (hS : SPolS L s vr vp vg vq) :
  Fn Tryz.prog 12 #[.agg #[.int .u8 s.nm, .int .u8 s.df, .int .u8 s.en, vr, .int .u16 (s.hd : Nat), vp, vg, vq]] S w0 L fun v L' => ∃ (d : PoD) (P : Pol), v = .agg (polC P d.vr d.vp d.vq).toArray ∧ d.ok P ∧ PolOk P ∧ PolRn P ∧ (P.hd = s.hd &&& 51199 ∧ P.rules.length ≤ 12 ∧ P.paths.length ≤ s.paths.length ∧ P.ports.length ≤ s.ports.length) ∧ d.blocks ++ L = L' := by
 obtain ⟨⟨ra, rc, zz, rfl, hrs, hrg⟩, ⟨pa, pc, rfl, hps⟩, ⟨ga, gc, rfl, hgs⟩, ⟨qa, qc, rfl, hqs⟩, hl1, hl2, hl3, hl4⟩ := hS
 obtain ⟨nm, df, en, rules, hd, paths, rights, ports⟩ := s
 obtain ⟨hnm, hdf, hen, hrules, hhd, hpaths, hrights, hports⟩ := h
 dsimp only at *
 obtain ⟨n0, hn0, hw0⟩ := nmC_at (nm % 3).toNat (by omega)
 have hac := fun (L : List Blk) => action_s (S:=S) (w0:=w0) (L:=L) df en hdf hen
 have hrc := fun (L : List Blk) => rcalls_c (S:=S) (w0:=w0) (L:=L)
 unfold maxLen at hl1 hl2 hl3 hl4
 refine Fn1 Tryz.func12 Tryz.ntmps12 rfl rfl ?_
 repeat' (first | (refine h2n (id:=2) ?_) | refine h0n ?_ | refine h0b ?_ | (refine gR 0 ?_ <;> (try refine h0c ?_; (refine h4t (t:=48) rfl rfl ?_; intro nb hnb; (try simp only [Value.cells]))) <;> (try refine h0c ?_; (refine h0k (t:=36) rfl Tryz.zeroValue36 ?_; intro nb hnb; (try simp only [Value.cells]))) <;> (try refine h0a ?_)) | (refine gR 1 ?_ <;> (try refine h0c ?_; (refine q_c 24 (c:=by apply hrc) (h:=?_); rintro _ _ ⟨nbC, rfl, rfl⟩; (try simp only [zzE, zzF]))) <;> (try refine p_a (h:=h0a ?_))))
 refine ⟨?_⟩
 rename_i n1 _
 obtain ⟨n2, rfl⟩ : ∃ x, x = nb := ⟨_, rfl⟩
 have hn0' : (#[.string ⟨#[112]⟩, .string ⟨#[112, 111, 108, 45, 49]⟩, .string ⟨#[120, 95, 121]⟩] : Array Value).toList[(nm % 3).toNat]? = some (.string (mB8 n0)) := hn0
 have hrf := fun (L : List Blk) (i1 i2 b2 : Nat) (wr wq : Value) (wp : Value) (pn : ByteArray) (pd : Int) (hd' : Nat) a b c => rights_s (S:=S) (w0:=w0) (L:=L) i1 i2 n1 b2 nm df en (.slice ra rules.length rc) hd (.slice pa paths.length pc) ga gc rights (.slice qa ports.length qc) pn pd wr hd' wp wq a b c hrights hl3
 refine h3g (γ:=Nat × Int) (fun g => 0 ≤ g.2 ∧ actOk g.2 = true) (fun g => [(4, .pointer (some ⟨g.1, 0, none⟩))]) [(1, _), (2, _), (3, _)]
  (fun g => ⟨true, g.1, .cells #[.string (mB8 n0), .int .u32 g.2, .slice none 0 0, .int .u16 (iand (hd : Nat) 51199), .slice none 0 0, .slice none 0 0] 36 (0, 0)⟩ :: ⟨true, nbC, .cells callC.toArray 93 (0, 0)⟩ :: ⟨true, n2, .cells #[.string ⟨#[]⟩, .int .u32 0, .slice none 0 0, .int .u16 0, .slice none 0 0, .slice none 0 0] 36 (0, 0)⟩ :: smB n1 nm df en (.slice ra rules.length rc) hd (.slice pa paths.length pc) (.slice ga rights.length gc) (.slice qa ports.length qc) :: L) (.cons rfl (.cons rfl (.cons rfl .nil))) ?_ ?_
 ·repeat' (first | refine h0s ?_ | ((refine h2a (id:=2) (m:=17) (by kernel_rfl) rfl (q_u 1 (x:=by exact q_f fo_48_0) (h:=q_u 2 (x:=by exact q_l) (h:=q_u 3 (x:=by exact q_b (r:=by apply rb_rem; omega; omega; exact c_5)) (h:=q_u 6 (x:=by exact q_f fo_48_1) (h:=q_u 7 (x:=by exact q_l) (h:=q_u 8 (x:=by exact q_f fo_48_2) (h:=q_u 9 (x:=by exact q_l) (h:=q_u 11 (x:=by exact q_f fo_48_4) (h:=q_u 12 (x:=by exact q_l) (h:=?_))))))))))) <;> (try refine q_u 13 (x:=by exact q_b (r:=by refine rb_and ?_ ?_; (focus (refine ⟨rfl, ⟨?_, ?_⟩⟩; omega; (focus (simp only [IntKind.bits]; omega)))); (focus (refine ⟨rfl, ⟨?_, ?_⟩⟩; omega; (focus (simp only [IntKind.bits]; omega)))))) (h:=?_)) <;> (try refine H_run3t (i:=0) (j:=10) (m:=15) rfl rfl rfl (by kernel_rfl) ?_ ?_ ?_ <;> (first | (refine TagA.mk ?_; (((refine h0l (t:=56) (m:=3) (e:=9) (fun vs => (match vs with | [(_, x0), (_, x1), (_, x2)] => [x0, x1, x2] | _ => [])) rfl rfl (fun w => by kernel_rfl) ?_; intro nb hnb; (try simp only [Value.cells]); (try simp only [zzC, zzN])); refine h0y h4k ?_) <;> (try refine q_t 4 (e:=h4k) (x:=by apply h0q; exact rfl; exact rfl; (focus (apply h2y Tryz.underlying56 sz_9; omega; omega; exact c_1))) (h:=?_)) <;> (try refine H_run3t (i:=5) (j:=10) (m:=15) rfl rfl rfl (by kernel_rfl) ?_ ?_ ?_ <;> (first | (refine TagA.mk ?_; (((refine q_k (by apply h1m (t:=9); exact rfl; exact fd0; kernel_rfl; kernel_rfl; (with_reducible assumption)) ?_); refine h0y h4k ?_) <;> (try refine h2d (i:=10) (j:=15) rfl rfl (by kernel_rfl) ?_ ?_ <;> (first | (refine TagA.mk ?_; (((refine q_c 25 (c:=by apply hac) (h:=?_); rintro _ _ ⟨act, rfl, hact, rfl⟩; (try simp only [zzE, zzF])); refine h0y h4k ?_) <;> (try refine q_t 14 (e:=h4k) (x:=by exact h0i (t:=36) (fun vs => (match vs with | [(_, x0), (_, x1), (_, x2)] => [x0, x1, Value.slice none 0 0, x2, Value.slice none 0 0, Value.slice none 0 0] | _ => [])) rfl (fun w => by kernel_rfl)) (h:=?_); (try simp only [Value.cells]); (try simp only [zzC, zzN])) <;> (try refine q_r 15 ?_; (refine h0k (t:=36) rfl Tryz.zeroValue36 ?_; intro nb hnb; (try simp only [Value.cells])); refine h0y h4k ?_) <;> (try refine q_r 16 ?_; (refine q_W ?_); refine h0y h4k ?_) <;> (try refine h0w (by kernel_rfl) ?_))) | (refine TagB.mk ?_; (((refine h0k (t:=36) rfl Tryz.zeroValue36 ?_; intro nb hnb; (try simp only [Value.cells])); refine h0y h4k ?_) <;> (try refine q_r 10 ?_; (refine q_c 25 (c:=by apply hac) (h:=?_); rintro _ _ ⟨act, rfl, hact, rfl⟩; (try simp only [zzE, zzF])); refine h0y h4k ?_) <;> (try refine q_t 14 (e:=h4k) (x:=by exact h0i (t:=36) (fun vs => (match vs with | [(_, x0), (_, x1), (_, x2)] => [x0, x1, Value.slice none 0 0, x2, Value.slice none 0 0, Value.slice none 0 0] | _ => [])) rfl (fun w => by kernel_rfl)) (h:=?_); (try simp only [Value.cells]); (try simp only [zzC, zzN])) <;> (try refine q_r 16 ?_; (refine q_W ?_); refine h0y h4k ?_) <;> (try refine h0w (by kernel_rfl) ?_))))))) | (refine TagB.mk ?_; (((refine q_c 25 (c:=by apply hac) (h:=?_); rintro _ _ ⟨act, rfl, hact, rfl⟩; (try simp only [zzE, zzF])); refine h0y h4k ?_) <;> (try refine h2d (i:=5) (j:=15) rfl rfl (by kernel_rfl) ?_ ?_ <;> (first | (refine TagA.mk ?_; (((refine q_k (by apply h1m (t:=9); exact rfl; exact fd0; kernel_rfl; kernel_rfl; (with_reducible assumption)) ?_); refine h0y h4k ?_) <;> (try refine q_t 14 (e:=h4k) (x:=by exact h0i (t:=36) (fun vs => (match vs with | [(_, x0), (_, x1), (_, x2)] => [x0, x1, Value.slice none 0 0, x2, Value.slice none 0 0, Value.slice none 0 0] | _ => [])) rfl (fun w => by kernel_rfl)) (h:=?_); (try simp only [Value.cells]); (try simp only [zzC, zzN])) <;> (try refine q_r 15 ?_; (refine h0k (t:=36) rfl Tryz.zeroValue36 ?_; intro nb hnb; (try simp only [Value.cells])); refine h0y h4k ?_) <;> (try refine q_r 16 ?_; (refine q_W ?_); refine h0y h4k ?_) <;> (try refine h0w (by kernel_rfl) ?_))) | (refine TagB.mk ?_; (((refine h0k (t:=36) rfl Tryz.zeroValue36 ?_; intro nb hnb; (try simp only [Value.cells])); refine h0y h4k ?_) <;> (try refine q_r 5 ?_; (refine q_k (by apply h1m (t:=9); exact rfl; exact h3c; kernel_rfl; kernel_rfl; (with_reducible assumption)) ?_); refine h0y h4k ?_) <;> (try refine q_t 14 (e:=h4k) (x:=by exact h0i (t:=36) (fun vs => (match vs with | [(_, x0), (_, x1), (_, x2)] => [x0, x1, Value.slice none 0 0, x2, Value.slice none 0 0, Value.slice none 0 0] | _ => [])) rfl (fun w => by kernel_rfl)) (h:=?_); (try simp only [Value.cells]); (try simp only [zzC, zzN])) <;> (try refine q_r 16 ?_; (refine q_W ?_); refine h0y h4k ?_) <;> (try refine h0w (by kernel_rfl) ?_))))))) | (refine TagC.mk ?_; (((refine h0k (t:=36) rfl Tryz.zeroValue36 ?_; intro nb hnb; (try simp only [Value.cells])); refine h0y h4k ?_) <;> (try refine h2d (i:=5) (j:=10) rfl rfl (by kernel_rfl) ?_ ?_ <;> (first | (refine TagA.mk ?_; (((refine q_k (by apply h1m (t:=9); exact rfl; exact h3c; kernel_rfl; kernel_rfl; (with_reducible assumption)) ?_); refine h0y h4k ?_) <;> (try refine q_r 10 ?_; (refine q_c 25 (c:=by apply hac) (h:=?_); rintro _ _ ⟨act, rfl, hact, rfl⟩; (try simp only [zzE, zzF])); refine h0y h4k ?_) <;> (try refine q_t 14 (e:=h4k) (x:=by exact h0i (t:=36) (fun vs => (match vs with | [(_, x0), (_, x1), (_, x2)] => [x0, x1, Value.slice none 0 0, x2, Value.slice none 0 0, Value.slice none 0 0] | _ => [])) rfl (fun w => by kernel_rfl)) (h:=?_); (try simp only [Value.cells]); (try simp only [zzC, zzN])) <;> (try refine q_r 16 ?_; (refine q_W ?_); refine h0y h4k ?_) <;> (try refine h0w (by kernel_rfl) ?_))) | (refine TagB.mk ?_; (((refine q_c 25 (c:=by apply hac) (h:=?_); rintro _ _ ⟨act, rfl, hact, rfl⟩; (try simp only [zzE, zzF])); refine h0y h4k ?_) <;> (try refine q_r 5 ?_; (refine q_k (by apply h1m (t:=9); exact rfl; exact h3c; kernel_rfl; kernel_rfl; (with_reducible assumption)) ?_); refine h0y h4k ?_) <;> (try refine q_t 14 (e:=h4k) (x:=by exact h0i (t:=36) (fun vs => (match vs with | [(_, x0), (_, x1), (_, x2)] => [x0, x1, Value.slice none 0 0, x2, Value.slice none 0 0, Value.slice none 0 0] | _ => [])) rfl (fun w => by kernel_rfl)) (h:=?_); (try simp only [Value.cells]); (try simp only [zzC, zzN])) <;> (try refine q_r 16 ?_; (refine q_W ?_); refine h0y h4k ?_) <;> (try refine h0w (by kernel_rfl) ?_))))))))))) | (refine TagB.mk ?_; (((refine q_c 25 (c:=by apply hac) (h:=?_); rintro _ _ ⟨act, rfl, hact, rfl⟩; (try simp only [zzE, zzF])); refine h0y (fun _ H => H) ?_) <;> (try refine h2d (i:=0) (j:=15) rfl rfl (by kernel_rfl) ?_ ?_ <;> (first | (refine TagA.mk ?_; (((refine h0l (t:=56) (m:=3) (e:=9) (fun vs => (match vs with | [(_, x0), (_, x1), (_, x2)] => [x0, x1, x2] | _ => [])) rfl rfl (fun w => by kernel_rfl) ?_; intro nb hnb; (try simp only [Value.cells]); (try simp only [zzC, zzN])); refine h0y h4k ?_) <;> (try refine q_t 4 (e:=h4k) (x:=by apply h0q; exact rfl; exact rfl; (focus (apply h2y Tryz.underlying56 sz_9; omega; omega; exact c_1))) (h:=?_)) <;> (try refine h2d (i:=5) (j:=15) rfl rfl (by kernel_rfl) ?_ ?_ <;> (first | (refine TagA.mk ?_; (((refine q_k (by apply h1m (t:=9); exact rfl; exact fd0; kernel_rfl; kernel_rfl; (with_reducible assumption)) ?_); refine h0y h4k ?_) <;> (try refine q_t 14 (e:=h4k) (x:=by exact h0i (t:=36) (fun vs => (match vs with | [(_, x0), (_, x1), (_, x2)] => [x0, x1, Value.slice none 0 0, x2, Value.slice none 0 0, Value.slice none 0 0] | _ => [])) rfl (fun w => by kernel_rfl)) (h:=?_); (try simp only [Value.cells]); (try simp only [zzC, zzN])) <;> (try refine q_r 15 ?_; (refine h0k (t:=36) rfl Tryz.zeroValue36 ?_; intro nb hnb; (try simp only [Value.cells])); refine h0y h4k ?_) <;> (try refine q_r 16 ?_; (refine q_W ?_); refine h0y h4k ?_) <;> (try refine h0w (by kernel_rfl) ?_))) | (refine TagB.mk ?_; (((refine h0k (t:=36) rfl Tryz.zeroValue36 ?_; intro nb hnb; (try simp only [Value.cells])); refine h0y h4k ?_) <;> (try refine q_r 5 ?_; (refine q_k (by apply h1m (t:=9); exact rfl; exact h3c; kernel_rfl; kernel_rfl; (with_reducible assumption)) ?_); refine h0y h4k ?_) <;> (try refine q_t 14 (e:=h4k) (x:=by exact h0i (t:=36) (fun vs => (match vs with | [(_, x0), (_, x1), (_, x2)] => [x0, x1, Value.slice none 0 0, x2, Value.slice none 0 0, Value.slice none 0 0] | _ => [])) rfl (fun w => by kernel_rfl)) (h:=?_); (try simp only [Value.cells]); (try simp only [zzC, zzN])) <;> (try refine q_r 16 ?_; (refine q_W ?_); refine h0y h4k ?_) <;> (try refine h0w (by kernel_rfl) ?_))))))) | (refine TagB.mk ?_; (((refine h0k (t:=36) rfl Tryz.zeroValue36 ?_; intro nb hnb; (try simp only [Value.cells])); refine h0y h4k ?_) <;> (try refine q_r 0 ?_; (refine h0l (t:=56) (m:=3) (e:=9) (fun vs => (match vs with | [(_, x0), (_, x1), (_, x2)] => [x0, x1, x2] | _ => [])) rfl rfl (fun w => by kernel_rfl) ?_; intro nb hnb; (try simp only [Value.cells]); (try simp only [zzC, zzN])); refine h0y h4k ?_) <;> (try refine q_t 4 (e:=h4k) (x:=by apply h0q; exact rfl; exact rfl; (focus (apply h2y Tryz.underlying56 sz_9; omega; omega; exact c_1))) (h:=?_)) <;> (try refine q_r 5 ?_; (refine q_k (by apply h1m (t:=9); exact rfl; exact fd0; kernel_rfl; kernel_rfl; (with_reducible assumption)) ?_); refine h0y h4k ?_) <;> (try refine q_t 14 (e:=h4k) (x:=by exact h0i (t:=36) (fun vs => (match vs with | [(_, x0), (_, x1), (_, x2)] => [x0, x1, Value.slice none 0 0, x2, Value.slice none 0 0, Value.slice none 0 0] | _ => [])) rfl (fun w => by kernel_rfl)) (h:=?_); (try simp only [Value.cells]); (try simp only [zzC, zzN])) <;> (try refine q_r 16 ?_; (refine q_W ?_); refine h0y h4k ?_) <;> (try refine h0w (by kernel_rfl) ?_))))))) | (refine TagC.mk ?_; (((refine h0k (t:=36) rfl Tryz.zeroValue36 ?_; intro nb hnb; (try simp only [Value.cells])); refine h0y h4k ?_) <;> (try refine h2d (i:=0) (j:=10) rfl rfl (by kernel_rfl) ?_ ?_ <;> (first | (refine TagA.mk ?_; (((refine h0l (t:=56) (m:=3) (e:=9) (fun vs => (match vs with | [(_, x0), (_, x1), (_, x2)] => [x0, x1, x2] | _ => [])) rfl rfl (fun w => by kernel_rfl) ?_; intro nb hnb; (try simp only [Value.cells]); (try simp only [zzC, zzN])); refine h0y h4k ?_) <;> (try refine q_t 4 (e:=h4k) (x:=by apply h0q; exact rfl; exact rfl; (focus (apply h2y Tryz.underlying56 sz_9; omega; omega; exact c_1))) (h:=?_)) <;> (try refine h2d (i:=5) (j:=10) rfl rfl (by kernel_rfl) ?_ ?_ <;> (first | (refine TagA.mk ?_; (((refine q_k (by apply h1m (t:=9); exact rfl; exact fd0; kernel_rfl; kernel_rfl; (with_reducible assumption)) ?_); refine h0y h4k ?_) <;> (try refine q_r 10 ?_; (refine q_c 25 (c:=by apply hac) (h:=?_); rintro _ _ ⟨act, rfl, hact, rfl⟩; (try simp only [zzE, zzF])); refine h0y h4k ?_) <;> (try refine q_t 14 (e:=h4k) (x:=by exact h0i (t:=36) (fun vs => (match vs with | [(_, x0), (_, x1), (_, x2)] => [x0, x1, Value.slice none 0 0, x2, Value.slice none 0 0, Value.slice none 0 0] | _ => [])) rfl (fun w => by kernel_rfl)) (h:=?_); (try simp only [Value.cells]); (try simp only [zzC, zzN])) <;> (try refine q_r 16 ?_; (refine q_W ?_); refine h0y h4k ?_) <;> (try refine h0w (by kernel_rfl) ?_))) | (refine TagB.mk ?_; (((refine q_c 25 (c:=by apply hac) (h:=?_); rintro _ _ ⟨act, rfl, hact, rfl⟩; (try simp only [zzE, zzF])); refine h0y h4k ?_) <;> (try refine q_r 5 ?_; (refine q_k (by apply h1m (t:=9); exact rfl; exact fd0; kernel_rfl; kernel_rfl; (with_reducible assumption)) ?_); refine h0y h4k ?_) <;> (try refine q_t 14 (e:=h4k) (x:=by exact h0i (t:=36) (fun vs => (match vs with | [(_, x0), (_, x1), (_, x2)] => [x0, x1, Value.slice none 0 0, x2, Value.slice none 0 0, Value.slice none 0 0] | _ => [])) rfl (fun w => by kernel_rfl)) (h:=?_); (try simp only [Value.cells]); (try simp only [zzC, zzN])) <;> (try refine q_r 16 ?_; (refine q_W ?_); refine h0y h4k ?_) <;> (try refine h0w (by kernel_rfl) ?_))))))) | (refine TagB.mk ?_; (((refine q_c 25 (c:=by apply hac) (h:=?_); rintro _ _ ⟨act, rfl, hact, rfl⟩; (try simp only [zzE, zzF])); refine h0y h4k ?_) <;> (try refine q_r 0 ?_; (refine h0l (t:=56) (m:=3) (e:=9) (fun vs => (match vs with | [(_, x0), (_, x1), (_, x2)] => [x0, x1, x2] | _ => [])) rfl rfl (fun w => by kernel_rfl) ?_; intro nb hnb; (try simp only [Value.cells]); (try simp only [zzC, zzN])); refine h0y h4k ?_) <;> (try refine q_t 4 (e:=h4k) (x:=by apply h0q; exact rfl; exact rfl; (focus (apply h2y Tryz.underlying56 sz_9; omega; omega; exact c_1))) (h:=?_)) <;> (try refine q_r 5 ?_; (refine q_k (by apply h1m (t:=9); exact rfl; exact fd0; kernel_rfl; kernel_rfl; (with_reducible assumption)) ?_); refine h0y h4k ?_) <;> (try refine q_t 14 (e:=h4k) (x:=by exact h0i (t:=36) (fun vs => (match vs with | [(_, x0), (_, x1), (_, x2)] => [x0, x1, Value.slice none 0 0, x2, Value.slice none 0 0, Value.slice none 0 0] | _ => [])) rfl (fun w => by kernel_rfl)) (h:=?_); (try simp only [Value.cells]); (try simp only [zzC, zzN])) <;> (try refine q_r 16 ?_; (refine q_W ?_); refine h0y h4k ?_) <;> (try refine h0w (by kernel_rfl) ?_)))))))))))
  all_goals exact h0z (_, act) hact (by (focus (repeat (first | exact Sub.nil | refine Sub.cons rfl ?_)))) c_22
 clear hac hrc hn0 hn0'
 rintro ⟨n4, act⟩ ⟨hact0, hact⟩
 dsimp only
 rw [show iand ((hd : Nat) : Int) 51199 = ((hd &&& 51199 : Nat) : Int) from rfl]
 have hhd2 : hd &&& 51199 < 65536 := by have := Nat.and_le_left (n:=hd) (m:=51199); omega
 repeat' (first | (refine h2v (id:=0) ?_) | refine h0n ?_ | refine h0b ?_ | (refine gR 3 (p_e (q_f fo_48_3) (h:=p_e q_l (h:=p_e (by apply h0d; exact rfl; exact (fun _ => BigFrame.builtin_len ..); apply h0j Tryz.underlying44; exact h5a) (h:=p_m (h:=h0a ?_)))))))
 refine ⟨?_⟩
 refine h3g (γ:=SmG) (SmI 12) (fun _ => []) [(1, _), (2, _), (4, _)]
  (fun g => g.er ++ (pcB n4 (mB8 n0) act g.vr (hd &&& 51199) (.slice none 0 0) (.slice none 0 0) :: ⟨true, n2, .cells #[.string ⟨#[]⟩, .int .u32 0, .slice none 0 0, .int .u16 0, .slice none 0 0, .slice none 0 0] 36 (0, 0)⟩ :: smB n1 nm df en (.slice ra rules.length rc) hd (.slice pa paths.length pc) (.slice ga rights.length gc) (.slice qa ports.length qc) :: (g.ec ++ L))) (.cons rfl (.cons rfl (.cons rfl .nil))) ?_ ?_
 ·refine h0o ?_
  refine h2w (γ:=SmG) (SmI rules.length) (fun g => rules.length - g.k) (fun g => [(40, .int .i64 (g.k : Nat))]) [(1, _), (2, _), (3, _), (4, _), (38, _), (39, _)]
   (fun g => g.er ++ (pcB n4 (mB8 n0) act g.vr (hd &&& 51199) (.slice none 0 0) (.slice none 0 0) :: ⟨true, nbC, .cells callC.toArray 93 (0, 0)⟩ :: ⟨true, n2, .cells #[.string ⟨#[]⟩, .int .u32 0, .slice none 0 0, .int .u16 0, .slice none 0 0, .slice none 0 0] 36 (0, 0)⟩ :: smB n1 nm df en (.slice ra rules.length rc) hd (.slice pa paths.length pc) (.slice ga rights.length gc) (.slice qa ports.length qc) :: (g.ec ++ L))) ⟨0, [], [], .slice none 0 0, [], []⟩ (.cons rfl (.cons rfl (.cons rfl (.cons rfl (.cons rfl (.cons rfl .nil)))))) ⟨Nat.zero_le _, rfl, Nat.zero_le _, .nil, Own.nil _ _, fun _ h => by cases h⟩ (by (focus (repeat (first | exact Sub.nil | refine Sub.cons rfl ?_)))) (fun _ H => H) ?_
  rintro ⟨k, rs, cz, vr, er, ec⟩ ⟨hk, hlen, hk2, hrsR, hown, hok⟩
  dsimp only at hk hlen hk2 hrsR hown hok ⊢
  by_cases hlt : k < rules.length
  case neg =>
   obtain ⟨va, vc, rfl, -⟩ := hown.sli []
   repeat' (first | refine h0n ?_ | refine h0b ?_ | refine h0s ?_ | refine h1u ?_ | refine h1k ?_ | refine h1v ?_ | refine h2l ?_ | refine h0e rfl ?_ | (refine gR 4 (p_e (q_b (r:=by exact h1h q_o)) (h:=h0a ?_))))
   exact h0z ⟨k, rs, cz, _, er, ec⟩ ⟨hk2, hlen, hk2, hrsR, hown, hok⟩ (by (focus (repeat (first | exact Sub.nil | refine Sub.cons rfl ?_)))) (by intro w H; refine Sel.out ?_ H; (try simp only [List.cons_append, List.nil_append, List.append_assoc]); repeat (first | exact Sel.refl _ | exact Sel.nil _ | (with_reducible apply Sel.appS) | (apply Sel.cons; (focus (repeat (first | exact fd0 | (with_reducible assumption) | apply fdA | apply fdS))); (try simp only [zzE, zzF])) | apply Sel.drop | apply Sel.dropA))
  obtain ⟨j, q, bb, off, cs, T, fr, rfl, hj, hsz, hx⟩ := hrs.elem hlt
  obtain ⟨v, hv, hcs⟩ := hrg.at_ k hlt
  rw [hv] at hx
  have hrk := hrules _ (List.getElem_mem hlt)
  obtain ⟨ca, cc, rfl, hsc, hcl⟩ := hcs
  clear hv
  generalize rules[k] = r at *
  obtain ⟨rc1, ra1, re1, cds⟩ := r
  obtain ⟨hr1, hr2, hr3, hr4⟩ := hrk
  dsimp only at *
  obtain ⟨num, hnu, hnc, hnl⟩ := callC_at (rc1 % 30).toNat (by omega)
  have hac := fun (L : List Blk) => action_s (S:=S) (w0:=w0) (L:=L) ra1 re1 hr2 hr3
  obtain ⟨va, vc, rfl, -⟩ := hown.sli []
  have hcz : callC.toArray.size = 90 := by kernel_rfl
  generalize callC.toArray = CC at *
  by_cases h12 : 12 ≤ k
  ·repeat' (first | refine h0n ?_ | refine h0b ?_ | refine h0s ?_ | refine h1u ?_ | refine h1k ?_ | refine h1v ?_ | refine G_blk_y rfl ?_ | refine h0o ?_ | refine h0r ?_ | refine h2l ?_ | refine h0h rfl ?_ | (refine gR 4 (p_e (q_b (r:=by exact h1c q_o)) (h:=h0a ?_))) | (refine gR 5 (p_m (h:=p_e (by apply h0q; exact rfl; exact rfl; (focus (apply h2y Tryz.underlying44 sz_91; omega; omega; exact c_1))) (h:=q_e (by apply h3m (t:=91); exact rfl; (focus (repeat (first | (with_reducible assumption) | apply fdA | apply fdS))); kernel_rfl; kernel_rfl; exact sz_91; (with_reducible assumption); (with_reducible assumption)) ?_))) <;> (try refine h0c ?_; (refine h0k (t:=91) rfl Tryz.zeroValue91 ?_; intro nb hnb; (try simp only [Value.cells]))) <;> (try refine q_a ?_) <;> (try refine h0c ?_; (refine q_W ?_)) <;> (try refine h0a ?_)) | (refine gR 6 (p_m (h:=p_e (q_b (r:=by exact rb_geq_t q_o)) (h:=h0a ?_)))))
   exact h0z ⟨k, rs, cz, _, er, ec⟩ ⟨hk2, hlen, hk2, hrsR, hown, hok⟩ (by (focus (repeat (first | exact Sub.nil | refine Sub.cons rfl ?_)))) (by intro w H; refine Sel.out ?_ H; (try simp only [List.cons_append, List.nil_append, List.append_assoc]); repeat (first | exact Sel.refl _ | exact Sel.nil _ | (with_reducible apply Sel.appS) | (apply Sel.cons; (focus (repeat (first | exact fd0 | (with_reducible assumption) | apply fdA | apply fdS))); (try simp only [zzE, zzF])) | apply Sel.drop | apply Sel.dropA))
  repeat' (first | (refine h2n (id:=7) ?_) | refine h0n ?_ | refine h0b ?_ | refine h0o ?_ | refine h0r ?_ | refine h0h rfl ?_ | refine h0e rfl ?_ | (refine gR 4 (p_e (q_b (r:=by exact h1c q_o)) (h:=h0a ?_))) | (refine gR 5 (p_m (h:=p_e (by apply h0q; exact rfl; exact rfl; (focus (apply h2y Tryz.underlying44 sz_91; omega; omega; exact c_1))) (h:=q_e (by apply h3m (t:=91); exact rfl; (focus (repeat (first | (with_reducible assumption) | apply fdA | apply fdS))); kernel_rfl; kernel_rfl; exact sz_91; (with_reducible assumption); (with_reducible assumption)) ?_))) <;> (try refine h0c ?_; (refine h0k (t:=91) rfl Tryz.zeroValue91 ?_; intro nb hnb; (try simp only [Value.cells]))) <;> (try refine q_a ?_) <;> (try refine h0c ?_; (refine q_W ?_)) <;> (try refine h0a ?_)) | (refine gR 6 (p_m (h:=p_e (q_b (r:=by exact rb_geq_f q_o)) (h:=h0a ?_)))))
  refine ⟨?_⟩
  obtain ⟨n6, rfl⟩ : ∃ x, x = nb := ⟨_, rfl⟩
  refine h3g (γ:=Nat × Int) (fun g => 0 ≤ g.2 ∧ actOk g.2 = true) (fun g => [(7, .pointer (some ⟨g.1, 0, none⟩))]) [(1, _), (2, _), (3, _), (4, _), (6, _), (38, _), (39, _), (40, _)]
   (fun g => rlB g.1 (num : Nat) g.2 (.slice none 0 0) :: ⟨true, n6, .cells #[.int .u8 rc1, .int .u8 ra1, .int .u8 re1, .slice ca cds.length cc] 91 (0, 0)⟩ :: (er ++ (pcB n4 (mB8 n0) act (.slice va rs.length vc) (hd &&& 51199) (.slice none 0 0) (.slice none 0 0) :: ⟨true, nbC, .cells CC 93 (0, 0)⟩ :: ⟨true, n2, .cells #[.string ⟨#[]⟩, .int .u32 0, .slice none 0 0, .int .u16 0, .slice none 0 0, .slice none 0 0] 36 (0, 0)⟩ :: smB n1 nm df en (.slice (some ⟨bb, off, none⟩) rules.length rc) hd (.slice pa paths.length pc) (.slice ga rights.length gc) (.slice qa ports.length qc) :: (ec ++ L)))) (.cons rfl (.cons rfl (.cons rfl (.cons rfl (.cons rfl (.cons rfl (.cons rfl (.cons rfl .nil)))))))) ?_ ?_
  ·repeat' (first | refine h0s ?_ | ((refine h2a (id:=7) (m:=19) (by kernel_rfl) rfl (q_u 0 (x:=by exact h0g rfl) (h:=q_u 1 (x:=by exact q_f fo_91_0) (h:=q_u 2 (x:=by exact q_l) (h:=?_))))) <;> (try refine q_u 3 (x:=by apply h4g; exact rfl; (focus (apply h4d Tryz.underlying5 Tryz.underlying3; first | (refine IntWalk.i64_in _ ?_; omega) | (refine IntWalk.u8_in _ ?_; omega) | (refine IntWalk.u16_in _ ?_; omega) | (refine IntWalk.u32_in _ ?_; omega) | (refine IntWalk.u64_in _ ?_; omega) | (refine IntWalk.i32_in _ ?_; omega) | exact rfl))) (h:=?_)) <;> (try refine q_u 4 (x:=by exact h0g rfl) (h:=q_u 5 (x:=by apply h0d; exact rfl; exact (fun _ => BigFrame.builtin_len ..); apply h0j Tryz.underlying86; exact h5a) (h:=q_u 6 (x:=by exact q_b (r:=by apply rb_rem; omega; omega; exact c_5)) (h:=q_u 7 (x:=by apply h0q; exact rfl; exact rfl; (focus (apply h2y Tryz.underlying86 sz_93; omega; omega; exact c_1))) (h:=q_u 8 (x:=by exact q_g fo_93_0) (h:=q_u 9 (x:=by apply h1m (t:=3); exact rfl; (focus (repeat (first | exact fd0 | apply fdA | apply fdS))); kernel_rfl; kernel_rfl; (with_reducible assumption)) (h:=?_))))))) <;> (try refine q_u 10 (x:=by apply h4g; exact rfl; (focus (apply h4d Tryz.underlying3 Tryz.underlying28; first | (refine IntWalk.i64_in _ ?_; omega) | (refine IntWalk.u8_in _ ?_; omega) | (refine IntWalk.u16_in _ ?_; omega) | (refine IntWalk.u32_in _ ?_; omega) | (refine IntWalk.u64_in _ ?_; omega) | (refine IntWalk.i32_in _ ?_; omega) | exact rfl))) (h:=?_)) <;> (try refine q_u 11 (x:=by exact q_f fo_91_1) (h:=q_u 12 (x:=by exact q_l) (h:=q_u 13 (x:=by exact q_f fo_91_2) (h:=q_u 14 (x:=by exact q_l) (h:=?_))))) <;> (try refine h2d (i:=15) (j:=17) rfl rfl (by kernel_rfl) ?_ ?_ <;> (first | (refine TagA.mk ?_; (((refine q_c 25 (c:=by apply hac) (h:=?_); rintro _ _ ⟨a2, rfl, ha2, rfl⟩; (try simp only [zzE, zzF])); refine h0y (fun _ H => H) ?_) <;> (try refine q_u 16 (x:=by exact h0i (t:=73) (fun vs => (match vs with | [(_, x0), (_, x1)] => [x0, x1, Value.slice none 0 0] | _ => [])) rfl (fun w => by kernel_rfl)) (h:=?_); (try simp only [Value.cells]); (try simp only [zzC, zzN])) <;> (try refine q_r 17 ?_; (refine h0k (t:=73) rfl Tryz.zeroValue73 ?_; intro nb hnb; (try simp only [Value.cells])); refine h0y h4k ?_) <;> (try refine q_r 18 ?_; (refine q_W ?_); refine h0y h4k ?_) <;> (try refine h0w (by kernel_rfl) ?_))) | (refine TagB.mk ?_; (((refine h0k (t:=73) rfl Tryz.zeroValue73 ?_; intro nb hnb; (try simp only [Value.cells])); refine h0y h4k ?_) <;> (try refine q_r 15 ?_; (refine q_c 25 (c:=by apply hac) (h:=?_); rintro _ _ ⟨a2, rfl, ha2, rfl⟩; (try simp only [zzE, zzF])); refine h0y h4k ?_) <;> (try refine q_t 16 (e:=h4k) (x:=by exact h0i (t:=73) (fun vs => (match vs with | [(_, x0), (_, x1)] => [x0, x1, Value.slice none 0 0] | _ => [])) rfl (fun w => by kernel_rfl)) (h:=?_); (try simp only [Value.cells]); (try simp only [zzC, zzN])) <;> (try refine q_r 18 ?_; (refine q_W ?_); refine h0y h4k ?_) <;> (try refine h0w (by kernel_rfl) ?_)))))))
   all_goals exact h0z (_, a2) ha2 (by (focus (repeat (first | exact Sub.nil | refine Sub.cons rfl ?_)))) c_27
  clear hac hnu hx
  rintro ⟨n7, a2⟩ ⟨ha20, ha2⟩
  dsimp only
  repeat' (first | (refine h2v (id:=2) ?_) | refine h0n ?_ | refine h0b ?_ | (refine gR 8 (p_e (q_f fo_91_3) (h:=p_e q_l (h:=p_e (by apply h0d; exact rfl; exact (fun _ => BigFrame.builtin_len ..); apply h0j Tryz.underlying89; exact h5a) (h:=p_m (h:=h0a ?_)))))))
  refine ⟨?_⟩
  refine h3g (γ:=List Cnd × Value × List Blk) (fun g => Own 99 4 g.2.1 g.1.length (cndC g.1) g.2.2 ∧ g.1.length ≤ 4 ∧ ∀ c ∈ g.1, CndG c) (fun _ => []) [(1, _), (2, _), (3, _), (4, _), (7, _), (38, _), (39, _), (40, _)]
   (fun g => g.2.2 ++ (rlB n7 (num : Nat) a2 g.2.1 :: (er ++ (pcB n4 (mB8 n0) act (.slice va rs.length vc) (hd &&& 51199) (.slice none 0 0) (.slice none 0 0) :: ⟨true, nbC, .cells CC 93 (0, 0)⟩ :: ⟨true, n2, .cells #[.string ⟨#[]⟩, .int .u32 0, .slice none 0 0, .int .u16 0, .slice none 0 0, .slice none 0 0] 36 (0, 0)⟩ :: smB n1 nm df en (.slice (some ⟨bb, off, none⟩) rules.length rc) hd (.slice pa paths.length pc) (.slice ga rights.length gc) (.slice qa ports.length qc) :: (ec ++ L))))) (.cons rfl (.cons rfl (.cons rfl (.cons rfl (.cons rfl (.cons rfl (.cons rfl (.cons rfl .nil)))))))) ?_ ?_
  ·refine h0o ?_
   refine h2w (γ:=Nat × List Cnd × Value × List Blk) (fun g => g.1 ≤ cds.length ∧ Own 99 4 g.2.2.1 g.2.1.length (cndC g.2.1) g.2.2.2 ∧ g.2.1.length = min g.1 4 ∧ ∀ c ∈ g.2.1, CndG c) (fun g => cds.length - g.1) (fun g => [(67, .int .i64 (g.1 : Nat))]) [(1, _), (2, _), (3, _), (4, _), (7, _), (38, _), (39, _), (40, _), (65, _), (66, _)]
    (fun g => g.2.2.2 ++ (rlB n7 (num : Nat) a2 g.2.2.1 :: (er ++ (pcB n4 (mB8 n0) act (.slice va rs.length vc) (hd &&& 51199) (.slice none 0 0) (.slice none 0 0) :: ⟨true, nbC, .cells CC 93 (0, 0)⟩ :: ⟨true, n2, .cells #[.string ⟨#[]⟩, .int .u32 0, .slice none 0 0, .int .u16 0, .slice none 0 0, .slice none 0 0] 36 (0, 0)⟩ :: smB n1 nm df en (.slice (some ⟨bb, off, none⟩) rules.length rc) hd (.slice pa paths.length pc) (.slice ga rights.length gc) (.slice qa ports.length qc) :: (ec ++ L))))) (0, [], .slice none 0 0, []) (.cons rfl (.cons rfl (.cons rfl (.cons rfl (.cons rfl (.cons rfl (.cons rfl (.cons rfl (.cons rfl (.cons rfl .nil)))))))))) ⟨Nat.zero_le _, Own.nil _ _, rfl, fun _ h => by cases h⟩ (by (focus (repeat (first | exact Sub.nil | refine Sub.cons rfl ?_)))) c_24 ?_
   rintro ⟨j, cs, v, e⟩ ⟨hj2, hown2, hl2', hcg⟩
   dsimp only at hj2 hown2 hl2' hcg ⊢
   by_cases hlt2 : j < cds.length
   case neg =>
    obtain ⟨sa, sc, rfl, -⟩ := hown2.sli []
    repeat' (first | refine h0n ?_ | refine h0b ?_ | refine h0s ?_ | refine h1u ?_ | refine h1k ?_ | refine h1v ?_ | refine h2l ?_ | refine h0e rfl ?_ | (refine gR 9 (p_e (q_b (r:=by exact h1h q_o)) (h:=h0a ?_))))
    exact h0z (cs, _, e) ⟨hown2, by dsimp only; omega, hcg⟩ (by (focus (repeat (first | exact Sub.nil | refine Sub.cons rfl ?_)))) (by intro w H; refine Sel.out ?_ H; (try simp only [List.cons_append, List.nil_append, List.append_assoc]); repeat (first | exact Sel.refl _ | exact Sel.nil _ | (with_reducible apply Sel.appS) | (apply Sel.cons; (focus (repeat (first | exact fd0 | (with_reducible assumption) | apply fdA | apply fdS))); (try simp only [zzE, zzF])) | apply Sel.drop | apply Sel.dropA))
   obtain ⟨j3, q3, bb3, off3, cs3, T3, fr3, rfl, hj3, hsz3, hx3⟩ := hsc.elem hlt2
   rw [scC_at _ _ hlt2] at hx3
   have hcj := hr4 _ (List.getElem_mem hlt2)
   generalize cds[j] = cd at *
   obtain ⟨xa, xo, xm, xv⟩ := cd
   obtain ⟨y1, y2, y3, y4⟩ := hcj
   dsimp only at y1 y2 y3 y4 hx3
   have hcd := fun (L : List Blk) => cond_s (S:=S) (w0:=w0) (L:=L) xa xo xm xv y1 y2 y3 y4
   unfold maxLen at hcl
   by_cases hj4 : j < 4
   case neg =>
    obtain ⟨sa, sc, rfl, -⟩ := hown2.sli []
    repeat' (first | refine h0n ?_ | refine h0b ?_ | refine h0s ?_ | refine h1b ?_ | refine h0o ?_ | refine h0r ?_ | refine h0h rfl ?_ | refine h0e rfl ?_ | (refine gR 9 (p_e (q_b (r:=by exact h1c q_o)) (h:=h0a ?_))) | (refine gR 10 (p_m (h:=p_e (by apply h0q; exact rfl; exact rfl; (focus (apply h2y Tryz.underlying89 sz_95; omega; omega; exact c_1))) (h:=q_e (by apply h3m (t:=95); exact rfl; (focus (repeat (first | (with_reducible assumption) | apply fdA | apply fdS))); kernel_rfl; kernel_rfl; exact sz_95; (with_reducible assumption); (with_reducible assumption)) ?_))) <;> (try refine h0c ?_; (refine h0k (t:=95) rfl Tryz.zeroValue95 ?_; intro nb hnb; (try simp only [Value.cells]))) <;> (try refine q_a ?_) <;> (try refine h0c ?_; (refine q_W ?_)) <;> (try refine h0a ?_)) | (refine gR 11 (p_m (h:=p_e (q_b (r:=by exact h1h q_o)) (h:=h0a ?_)))) | (refine gR 13 ?_ <;> (try refine q_e (q_b (r:=by apply h1q; exact c_5; (focus (refine IntWalk.i64_in _ ?_; omega)))) ?_) <;> (try refine p_m (h:=h0a ?_))))
    exact h0z (j + 1, cs, _, e) ⟨⟨by show j + 1 ≤ _; omega, hown2, by show cs.length = min (j + 1) 4; omega, hcg⟩, by show _ - (j + 1) < _ - j; omega⟩ (by (focus (repeat (first | exact Sub.nil | refine Sub.cons rfl ?_)))) (by intro w H; refine Sel.out ?_ H; (try simp only [List.cons_append, List.nil_append, List.append_assoc]); repeat (first | exact Sel.refl _ | exact Sel.nil _ | (with_reducible apply Sel.appS) | (apply Sel.cons; (focus (repeat (first | exact fd0 | (with_reducible assumption) | apply fdA | apply fdS))); (try simp only [zzE, zzF])) | apply Sel.drop | apply Sel.dropA))
   have hfi : ∀ (c : Cnd) v e, Own 99 4 v (cs.length + 1) (cndC cs ++ c.cells) e → Own 99 4 v (cs ++ [c]).length (cndC (cs ++ [c])) e := fun c v e h => by
    rw [cndC_snoc, List.length_append]; exact h
   have hl3' : ∀ c : Cnd, (cs ++ [c]).length = min (j + 1) 4 := fun c => by rw [List.length_append, hl2']; simp only [List.length_cons, List.length_nil]; omega
   rcases h2z hown2 with ⟨rfl, h0, hx, rfl⟩ | ⟨g, capg, cur, rfl, rfl, q1, q2, q3, q4⟩
   ·rw [hx] at hfi
    rw [h0] at hfi
    clear hown2
    (try simp only [zzC, zzN])
    repeat' (first | refine h0n ?_ | refine h0b ?_ | refine h0s ?_ | refine h1b ?_ | refine h0o ?_ | refine h0r ?_ | refine h0h rfl ?_ | (refine gR 9 (p_e (q_b (r:=by exact h1c q_o)) (h:=h0a ?_))) | (refine gR 10 (p_m (h:=p_e (by apply h0q; exact rfl; exact rfl; (focus (apply h2y Tryz.underlying89 sz_95; omega; omega; exact c_1))) (h:=q_e (by apply h3m (t:=95); exact rfl; (focus (repeat (first | (with_reducible assumption) | apply fdA | apply fdS))); kernel_rfl; kernel_rfl; exact sz_95; (with_reducible assumption); (with_reducible assumption)) ?_))) <;> (try refine h0c ?_; (refine h0k (t:=95) rfl Tryz.zeroValue95 ?_; intro nb hnb; (try simp only [Value.cells]))) <;> (try refine q_a ?_) <;> (try refine h0c ?_; (refine q_W ?_)) <;> (try refine h0a ?_)) | (refine gR 11 (p_m (h:=p_e (q_b (r:=by exact h1c q_o)) (h:=h0a ?_)))) | ((refine h3d (pre:=[]) (id:=12) (m:=8) rfl (by kernel_rfl) rfl (q_t 0 (e:=h3i) (x:=by exact q_f h2u) (h:=?_))) <;> (try refine h2d (i:=1) (j:=2) rfl rfl (by kernel_rfl) ?_ ?_ <;> (first | (refine TagA.mk ?_; (((refine q_k q_l ?_); refine h0y h3i ?_) <;> (try refine q_r 2 ?_; (refine q_k (q_L sz_95) ?_); refine h0y h3i ?_) <;> (try refine q_r 3 ?_; (refine q_c 26 (c:=by apply hcd) (h:=?_); rintro _ _ ⟨c2, rfl, hc2, rfl⟩; (try simp only [zzE, zzF])); refine h0y h3i ?_) <;> (try refine q_r 4 ?_; (refine h0l (t:=71) (m:=1) (e:=99) (fun vs => (match vs with | [(_, x0)] => x0.cells.toList | _ => [])) rfl rfl (fun w => by kernel_rfl) ?_; intro nb hnb; (try simp only [Value.cells]); (try simp only [zzC, zzN])); refine h0y h3i ?_) <;> (try refine q_r 5 ?_; (apply h2i; exact rfl; exact Tryz.underlying71; exact h3w; exact h3u; exact h3v; exact h3x; exact rfl; exact rfl; exact rfl; exact Own.nil _ _; exact fd0; exact Nat.le_of_ble_eq_true rfl; exact c_25; exact rfl; exact c_21; omega; (exact fun _ H => H); exact rfl; exact c_14; exact c_4; intro vA eA hownA; obtain ⟨gA, capA, curA, rfl, rfl, hA1, hA2, hA3, hA4⟩ := hownA.some (by omega); (try simp only [zzC, zzN])); refine h0y h3i ?_) <;> (try refine q_t 6 (e:=h3i) (x:=by exact q_f h2u) (h:=?_)) <;> (try refine q_r 7 ?_; (refine q_S ?_); refine h0y h3i ?_) <;> (try refine h0w (by kernel_rfl) ?_))) | (refine TagB.mk ?_; (((refine q_k (q_L sz_95) ?_); refine h0y h3i ?_) <;> (try refine h2d (i:=1) (j:=3) rfl rfl (by kernel_rfl) ?_ ?_ <;> (first | (refine TagA.mk ?_; (((refine q_k q_l ?_); refine h0y h3i ?_) <;> (try refine q_r 3 ?_; (refine q_c 26 (c:=by apply hcd) (h:=?_); rintro _ _ ⟨c2, rfl, hc2, rfl⟩; (try simp only [zzE, zzF])); refine h0y h3i ?_) <;> (try refine q_r 4 ?_; (refine h0l (t:=71) (m:=1) (e:=99) (fun vs => (match vs with | [(_, x0)] => x0.cells.toList | _ => [])) rfl rfl (fun w => by kernel_rfl) ?_; intro nb hnb; (try simp only [Value.cells]); (try simp only [zzC, zzN])); refine h0y h3i ?_) <;> (try refine q_r 5 ?_; (apply h2i; exact rfl; exact Tryz.underlying71; exact h3w; exact h3u; exact h3v; exact h3x; exact rfl; exact rfl; exact rfl; exact Own.nil _ _; exact fd0; exact Nat.le_of_ble_eq_true rfl; exact c_25; exact rfl; exact c_21; omega; (exact fun _ H => H); exact rfl; exact c_14; exact c_4; intro vA eA hownA; obtain ⟨gA, capA, curA, rfl, rfl, hA1, hA2, hA3, hA4⟩ := hownA.some (by omega); (try simp only [zzC, zzN])); refine h0y h3i ?_) <;> (try refine q_t 6 (e:=h3i) (x:=by exact q_f h2u) (h:=?_)) <;> (try refine q_r 7 ?_; (refine q_S ?_); refine h0y h3i ?_) <;> (try refine h0w (by kernel_rfl) ?_))) | (refine TagB.mk ?_; (((refine q_c 26 (c:=by apply hcd) (h:=?_); rintro _ _ ⟨c2, rfl, hc2, rfl⟩; (try simp only [zzE, zzF])); refine h0y h3i ?_) <;> (try refine h2d (i:=1) (j:=4) rfl rfl (by kernel_rfl) ?_ ?_ <;> (first | (refine TagA.mk ?_; (((refine q_k q_l ?_); refine h0y h3i ?_) <;> (try refine q_r 4 ?_; (refine h0l (t:=71) (m:=1) (e:=99) (fun vs => (match vs with | [(_, x0)] => x0.cells.toList | _ => [])) rfl rfl (fun w => by kernel_rfl) ?_; intro nb hnb; (try simp only [Value.cells]); (try simp only [zzC, zzN])); refine h0y h3i ?_) <;> (try refine q_r 5 ?_; (apply h2i; exact rfl; exact Tryz.underlying71; exact h3w; exact h3u; exact h3v; exact h3x; exact rfl; exact rfl; exact rfl; exact Own.nil _ _; exact fd0; exact Nat.le_of_ble_eq_true rfl; exact c_25; exact rfl; exact c_21; omega; (exact fun _ H => H); exact rfl; exact c_14; exact c_4; intro vA eA hownA; obtain ⟨gA, capA, curA, rfl, rfl, hA1, hA2, hA3, hA4⟩ := hownA.some (by omega); (try simp only [zzC, zzN])); refine h0y h3i ?_) <;> (try refine q_t 6 (e:=h3i) (x:=by exact q_f h2u) (h:=?_)) <;> (try refine q_r 7 ?_; (refine q_S ?_); refine h0y h3i ?_) <;> (try refine h0w (by kernel_rfl) ?_))) | (refine TagB.mk ?_; (((refine h0l (t:=71) (m:=1) (e:=99) (fun vs => (match vs with | [(_, x0)] => x0.cells.toList | _ => [])) rfl rfl (fun w => by kernel_rfl) ?_; intro nb hnb; (try simp only [Value.cells]); (try simp only [zzC, zzN])); refine h0y h3i ?_) <;> (try refine q_r 1 ?_; (refine q_k q_l ?_); refine h0y h3i ?_) <;> (try refine q_r 5 ?_; (apply h2i; exact rfl; exact Tryz.underlying71; exact h3w; exact h3u; exact h3v; exact h3x; exact rfl; exact rfl; exact rfl; exact Own.nil _ _; exact fd0; exact Nat.le_of_ble_eq_true rfl; exact c_25; exact rfl; exact c_21; omega; (exact fun _ H => H); exact rfl; exact c_14; exact c_4; intro vA eA hownA; obtain ⟨gA, capA, curA, rfl, rfl, hA1, hA2, hA3, hA4⟩ := hownA.some (by omega); (try simp only [zzC, zzN])); refine h0y h3i ?_) <;> (try refine q_t 6 (e:=h3i) (x:=by exact q_f h2u) (h:=?_)) <;> (try refine q_r 7 ?_; (refine q_S ?_); refine h0y h3i ?_) <;> (try refine h0w (by kernel_rfl) ?_)))))))))))))) | (refine gR 13 ?_ <;> (try refine q_e (q_b (r:=by apply h1q; exact c_5; (focus (refine IntWalk.i64_in _ ?_; omega)))) ?_) <;> (try refine p_m (h:=h0a ?_))))
    all_goals exact h0z (j + 1, cs ++ [c2], _, _) ⟨⟨by show j + 1 ≤ _; omega, hfi c2 _ _ (h4i (g:=gA) hA1 hA2 hA3 hA4), hl3' c2, mem_app1 hcg hc2⟩, by show _ - (j + 1) < _ - j; omega⟩ (by (focus (repeat (first | exact Sub.nil | refine Sub.cons rfl ?_)))) c_22
   ·rw [← q4] at hfi
    clear hown2
    (try simp only [zzC, zzN])
    repeat' (first | refine h0n ?_ | refine h0b ?_ | refine h0s ?_ | refine h1b ?_ | refine h0o ?_ | refine h0r ?_ | refine h0h rfl ?_ | (refine gR 9 (p_e (q_b (r:=by exact h1c q_o)) (h:=h0a ?_))) | (refine gR 10 (p_m (h:=p_e (by apply h0q; exact rfl; exact rfl; (focus (apply h2y Tryz.underlying89 sz_95; omega; omega; exact c_1))) (h:=q_e (by apply h3m (t:=95); exact rfl; (focus (repeat (first | (with_reducible assumption) | apply fdA | apply fdS))); kernel_rfl; kernel_rfl; exact sz_95; (with_reducible assumption); (with_reducible assumption)) ?_))) <;> (try refine h0c ?_; (refine h0k (t:=95) rfl Tryz.zeroValue95 ?_; intro nb hnb; (try simp only [Value.cells]))) <;> (try refine q_a ?_) <;> (try refine h0c ?_; (refine q_W ?_)) <;> (try refine h0a ?_)) | (refine gR 11 (p_m (h:=p_e (q_b (r:=by exact h1c q_o)) (h:=h0a ?_)))) | ((refine h3d (pre:=[]) (id:=12) (m:=8) rfl (by kernel_rfl) rfl (q_t 0 (e:=h3i) (x:=by exact q_f h2u) (h:=?_))) <;> (try refine h2d (i:=1) (j:=2) rfl rfl (by kernel_rfl) ?_ ?_ <;> (first | (refine TagA.mk ?_; (((refine q_k q_l ?_); refine h0y h3i ?_) <;> (try refine q_r 2 ?_; (refine q_k (q_L sz_95) ?_); refine h0y h3i ?_) <;> (try refine q_r 3 ?_; (refine q_c 26 (c:=by apply hcd) (h:=?_); rintro _ _ ⟨c2, rfl, hc2, rfl⟩; (try simp only [zzE, zzF])); refine h0y h3i ?_) <;> (try refine q_r 4 ?_; (refine h0l (t:=71) (m:=1) (e:=99) (fun vs => (match vs with | [(_, x0)] => x0.cells.toList | _ => [])) rfl rfl (fun w => by kernel_rfl) ?_; intro nb hnb; (try simp only [Value.cells]); (try simp only [zzC, zzN])); refine h0y h3i ?_) <;> (try refine q_r 5 ?_; (apply h1o; exact rfl; exact Tryz.underlying71; exact h3w; exact h3u; exact h3v; exact h3x; exact rfl; exact rfl; exact rfl; exact h3c; (with_reducible assumption); (with_reducible assumption); (with_reducible assumption); exact fd0; exact Nat.le_of_ble_eq_true rfl; exact c_25; exact rfl; exact c_21; omega; exact rfl; exact c_14; exact c_4; (try simp only [zzE, zzF]); intro vA eA hownA; obtain ⟨gA, capA, curA, rfl, rfl, hA1, hA2, hA3, hA4⟩ := hownA.some (by omega); (try simp only [zzC, zzN])); refine h0y h3i ?_) <;> (try refine q_t 6 (e:=h3i) (x:=by exact q_f h2u) (h:=?_)) <;> (try refine q_r 7 ?_; (refine q_S ?_); refine h0y h3i ?_) <;> (try refine h0w (by kernel_rfl) ?_))) | (refine TagB.mk ?_; (((refine q_k (q_L sz_95) ?_); refine h0y h3i ?_) <;> (try refine h2d (i:=1) (j:=3) rfl rfl (by kernel_rfl) ?_ ?_ <;> (first | (refine TagA.mk ?_; (((refine q_k q_l ?_); refine h0y h3i ?_) <;> (try refine q_r 3 ?_; (refine q_c 26 (c:=by apply hcd) (h:=?_); rintro _ _ ⟨c2, rfl, hc2, rfl⟩; (try simp only [zzE, zzF])); refine h0y h3i ?_) <;> (try refine q_r 4 ?_; (refine h0l (t:=71) (m:=1) (e:=99) (fun vs => (match vs with | [(_, x0)] => x0.cells.toList | _ => [])) rfl rfl (fun w => by kernel_rfl) ?_; intro nb hnb; (try simp only [Value.cells]); (try simp only [zzC, zzN])); refine h0y h3i ?_) <;> (try refine q_r 5 ?_; (apply h1o; exact rfl; exact Tryz.underlying71; exact h3w; exact h3u; exact h3v; exact h3x; exact rfl; exact rfl; exact rfl; exact h3c; (with_reducible assumption); (with_reducible assumption); (with_reducible assumption); exact fd0; exact Nat.le_of_ble_eq_true rfl; exact c_25; exact rfl; exact c_21; omega; exact rfl; exact c_14; exact c_4; (try simp only [zzE, zzF]); intro vA eA hownA; obtain ⟨gA, capA, curA, rfl, rfl, hA1, hA2, hA3, hA4⟩ := hownA.some (by omega); (try simp only [zzC, zzN])); refine h0y h3i ?_) <;> (try refine q_t 6 (e:=h3i) (x:=by exact q_f h2u) (h:=?_)) <;> (try refine q_r 7 ?_; (refine q_S ?_); refine h0y h3i ?_) <;> (try refine h0w (by kernel_rfl) ?_))) | (refine TagB.mk ?_; (((refine q_c 26 (c:=by apply hcd) (h:=?_); rintro _ _ ⟨c2, rfl, hc2, rfl⟩; (try simp only [zzE, zzF])); refine h0y h3i ?_) <;> (try refine h2d (i:=1) (j:=4) rfl rfl (by kernel_rfl) ?_ ?_ <;> (first | (refine TagA.mk ?_; (((refine q_k q_l ?_); refine h0y h3i ?_) <;> (try refine q_r 4 ?_; (refine h0l (t:=71) (m:=1) (e:=99) (fun vs => (match vs with | [(_, x0)] => x0.cells.toList | _ => [])) rfl rfl (fun w => by kernel_rfl) ?_; intro nb hnb; (try simp only [Value.cells]); (try simp only [zzC, zzN])); refine h0y h3i ?_) <;> (try refine q_r 5 ?_; (apply h1o; exact rfl; exact Tryz.underlying71; exact h3w; exact h3u; exact h3v; exact h3x; exact rfl; exact rfl; exact rfl; exact h3c; (with_reducible assumption); (with_reducible assumption); (with_reducible assumption); exact fd0; exact Nat.le_of_ble_eq_true rfl; exact c_25; exact rfl; exact c_21; omega; exact rfl; exact c_14; exact c_4; (try simp only [zzE, zzF]); intro vA eA hownA; obtain ⟨gA, capA, curA, rfl, rfl, hA1, hA2, hA3, hA4⟩ := hownA.some (by omega); (try simp only [zzC, zzN])); refine h0y h3i ?_) <;> (try refine q_t 6 (e:=h3i) (x:=by exact q_f h2u) (h:=?_)) <;> (try refine q_r 7 ?_; (refine q_S ?_); refine h0y h3i ?_) <;> (try refine h0w (by kernel_rfl) ?_))) | (refine TagB.mk ?_; (((refine h0l (t:=71) (m:=1) (e:=99) (fun vs => (match vs with | [(_, x0)] => x0.cells.toList | _ => [])) rfl rfl (fun w => by kernel_rfl) ?_; intro nb hnb; (try simp only [Value.cells]); (try simp only [zzC, zzN])); refine h0y h3i ?_) <;> (try refine q_r 1 ?_; (refine q_k q_l ?_); refine h0y h3i ?_) <;> (try refine q_r 5 ?_; (apply h1o; exact rfl; exact Tryz.underlying71; exact h3w; exact h3u; exact h3v; exact h3x; exact rfl; exact rfl; exact rfl; exact h3c; (with_reducible assumption); (with_reducible assumption); (with_reducible assumption); exact fd0; exact Nat.le_of_ble_eq_true rfl; exact c_25; exact rfl; exact c_21; omega; exact rfl; exact c_14; exact c_4; (try simp only [zzE, zzF]); intro vA eA hownA; obtain ⟨gA, capA, curA, rfl, rfl, hA1, hA2, hA3, hA4⟩ := hownA.some (by omega); (try simp only [zzC, zzN])); refine h0y h3i ?_) <;> (try refine q_t 6 (e:=h3i) (x:=by exact q_f h2u) (h:=?_)) <;> (try refine q_r 7 ?_; (refine q_S ?_); refine h0y h3i ?_) <;> (try refine h0w (by kernel_rfl) ?_)))))))))))))) | (refine gR 13 ?_ <;> (try refine q_e (q_b (r:=by apply h1q; exact c_5; (focus (refine IntWalk.i64_in _ ?_; omega)))) ?_) <;> (try refine p_m (h:=h0a ?_))))
    all_goals exact h0z (j + 1, cs ++ [c2], _, _) ⟨⟨by show j + 1 ≤ _; omega, hfi c2 _ _ (h4i (g:=gA) hA1 hA2 hA3 hA4), hl3' c2, mem_app1 hcg hc2⟩, by show _ - (j + 1) < _ - j; omega⟩ (by (focus (repeat (first | exact Sub.nil | refine Sub.cons rfl ?_)))) c_22
  rintro ⟨cs, v, e⟩ ⟨hown2, hle4, hcg⟩
  dsimp only at hown2 hle4 hcg ⊢
  obtain ⟨sa, sc, rfl, -⟩ := hown2.sli []
  refine h5t (L' := er ++ (rlB n7 (num : Nat) a2 (.slice sa cs.length sc) :: pcB n4 (mB8 n0) act (.slice va rs.length vc) (hd &&& 51199) (.slice none 0 0) (.slice none 0 0) :: ⟨true, nbC, .cells CC 93 (0, 0)⟩ :: ⟨true, n2, .cells #[.string ⟨#[]⟩, .int .u32 0, .slice none 0 0, .int .u16 0, .slice none 0 0, .slice none 0 0] 36 (0, 0)⟩ :: smB n1 nm df en (.slice (some ⟨bb, off, none⟩) rules.length rc) hd (.slice pa paths.length pc) (.slice ga rights.length gc) (.slice qa ports.length qc) :: (e ++ (ec ++ L)))) (fun w H => HP.re2 (env:=[e, [_], er, [_, _, _, _], ec, L]) [0, 1, 2, 3, 4, 5] [2, 1, 3, 0, 4, 5] (by decide) rfl rfl H) ?_
  have hrule : RulOk ⟨(num : Nat), a2, cs⟩ ∧ ∀ c ∈ cs, c.mask ≤ 18446744073709551615 ∧ c.val ≤ 18446744073709551615 := ⟨⟨hnc, ha20, ha2, by dsimp only; omega, fun c hc => (hcg c hc).1⟩, fun c hc => (hcg c hc).2⟩
  have hok' : ∀ r ∈ rs ++ [(⟨(num : Nat), a2, cs⟩ : RulP)], RulOk r ∧ ∀ c ∈ r.conds, c.mask ≤ 18446744073709551615 ∧ c.val ≤ 18446744073709551615 := mem_app1 hok hrule
  have hrs' : RulsR (rs ++ [(⟨(num : Nat), a2, cs⟩ : RulP)]) (cz ++ [.int .u32 (num : Nat), .int .u32 a2, .slice sa cs.length sc]) (e ++ ec) := .snoc hrsR hown2
  have hlen' : (rs ++ [(⟨(num : Nat), a2, cs⟩ : RulP)]).length = k + 1 := by rw [List.length_append, hlen]; rfl
  have hfi : ∀ v' e', Own 73 3 v' (rs.length + 1) (cz ++ [.int .u32 (num : Nat), .int .u32 a2, .slice sa cs.length sc]) e' → Own 73 3 v' (rs ++ [(⟨(num : Nat), a2, cs⟩ : RulP)]).length (cz ++ [.int .u32 (num : Nat), .int .u32 a2, .slice sa cs.length sc]) e' := fun _ _ h => by rw [List.length_append]; exact h
  clear hown2 hcg hrule hrsR hok hle4 hsc
  rcases h2z hown with ⟨hv0, h0, hx, rfl⟩ | ⟨g, capg, cur, hv0, rfl, q1, q2, q3, q4⟩
  ·injection hv0 with v1 v2 v3
   subst v1 v3
   rw [hx] at hfi hrs'
   rw [h0] at hfi ⊢
   clear hown
   (try simp only [zzC, zzN])
   repeat' (first | refine h0b ?_ | refine h0s ?_ | refine h1b ?_ | (refine gR 14 (p_e (q_f h3o) (h:=p_e q_l (h:=q_e (q_L sz_73) ?_))) <;> (try refine h0c ?_; (refine h0l (t:=30) (m:=1) (e:=73) (fun vs => (match vs with | [(_, x0)] => x0.cells.toList | _ => [])) rfl rfl (fun w => by kernel_rfl) ?_; intro nb hnb; (try simp only [Value.cells]); (try simp only [zzC, zzN]))) <;> (try refine h0c ?_; (apply h2i; exact rfl; exact Tryz.underlying30; exact inf_73_i; exact inf_73_z; exact inf_73_s; exact inf_73_b; exact rfl; exact rfl; exact rfl; exact Own.nil _ _; exact fd0; exact Nat.le_of_ble_eq_true rfl; exact c_25; exact rfl; exact c_21; omega; (exact fun _ H => H); exact rfl; exact c_14; exact c_4; intro vA eA hownA; obtain ⟨gA, capA, curA, rfl, rfl, hA1, hA2, hA3, hA4⟩ := hownA.some (by omega); (try simp only [zzC, zzN]))) <;> (try refine q_e (q_f h3o) ?_) <;> (try refine h0c ?_; (refine q_S ?_)) <;> (try refine h0a ?_)) | (refine gR 15 ?_ <;> (try refine q_e (q_b (r:=by apply h1q; exact c_5; (focus (refine IntWalk.i64_in _ ?_; omega)))) ?_) <;> (try refine p_m (h:=h0a ?_))))
   all_goals exact h0z ⟨k + 1, rs ++ [(⟨(num : Nat), a2, cs⟩ : RulP)], _, _, _, e ++ ec⟩ ⟨⟨by show k + 1 ≤ _; omega, hlen', by show k + 1 ≤ 12; omega, hrs', hfi _ _ (h4i (g:=gA) hA1 hA2 hA3 hA4), hok'⟩, by show _ - (k + 1) < _ - k; omega⟩ (by (focus (repeat (first | exact Sub.nil | refine Sub.cons rfl ?_)))) (by intro w H; refine Sel.out ?_ H; (try simp only [List.cons_append, List.nil_append, List.append_assoc]); repeat (first | exact Sel.refl _ | exact Sel.nil _ | (with_reducible apply Sel.appS) | (apply Sel.cons; (focus (repeat (first | exact fd0 | (with_reducible assumption) | apply fdA | apply fdS))); (try simp only [zzE, zzF])) | apply Sel.drop | apply Sel.dropA))
  ·injection hv0 with v1 v2 v3
   subst v1 v3
   rw [← q4] at hfi hrs'
   clear hown
   (try simp only [zzC, zzN])
   repeat' (first | refine h0b ?_ | refine h0s ?_ | refine h1b ?_ | (refine gR 14 (p_e (q_f h3o) (h:=p_e q_l (h:=q_e (q_L sz_73) ?_))) <;> (try refine h0c ?_; (refine h0l (t:=30) (m:=1) (e:=73) (fun vs => (match vs with | [(_, x0)] => x0.cells.toList | _ => [])) rfl rfl (fun w => by kernel_rfl) ?_; intro nb hnb; (try simp only [Value.cells]); (try simp only [zzC, zzN]))) <;> (try refine h0c ?_; (apply h1o; exact rfl; exact Tryz.underlying30; exact inf_73_i; exact inf_73_z; exact inf_73_s; exact inf_73_b; exact rfl; exact rfl; exact rfl; exact h3c; (with_reducible assumption); (with_reducible assumption); (with_reducible assumption); exact fd0; exact Nat.le_of_ble_eq_true rfl; exact c_25; exact rfl; exact c_21; omega; exact rfl; exact c_14; exact c_4; (try simp only [zzE, zzF]); intro vA eA hownA; obtain ⟨gA, capA, curA, rfl, rfl, hA1, hA2, hA3, hA4⟩ := hownA.some (by omega); (try simp only [zzC, zzN]))) <;> (try refine q_e (q_f h3o) ?_) <;> (try refine h0c ?_; (refine q_S ?_)) <;> (try refine h0a ?_)) | (refine gR 15 ?_ <;> (try refine q_e (q_b (r:=by apply h1q; exact c_5; (focus (refine IntWalk.i64_in _ ?_; omega)))) ?_) <;> (try refine p_m (h:=h0a ?_))))
   all_goals exact h0z ⟨k + 1, rs ++ [(⟨(num : Nat), a2, cs⟩ : RulP)], _, _, _, e ++ ec⟩ ⟨⟨by show k + 1 ≤ _; omega, hlen', by show k + 1 ≤ 12; omega, hrs', hfi _ _ (h4i (g:=gA) hA1 hA2 hA3 hA4), hok'⟩, by show _ - (k + 1) < _ - k; omega⟩ (by (focus (repeat (first | exact Sub.nil | refine Sub.cons rfl ?_)))) (by intro w H; refine Sel.out ?_ H; (try simp only [List.cons_append, List.nil_append, List.append_assoc]); repeat (first | exact Sel.refl _ | exact Sel.nil _ | (with_reducible apply Sel.appS) | (apply Sel.cons; (focus (repeat (first | exact fd0 | (with_reducible assumption) | apply fdA | apply fdS))); (try simp only [zzE, zzF])) | apply Sel.drop | apply Sel.dropA))
 -- PATHS
 rintro ⟨k1, rs, cz, vr, er, ec⟩ ⟨-, hrl, hr12, hrsR, hownR, hrok⟩
 dsimp only at hrl hr12 hrsR hownR hrok ⊢
 obtain ⟨va, vc, rfl, -⟩ := hownR.sli []
 refine h5t (L' := pcB n4 (mB8 n0) act (.slice va rs.length vc) (hd &&& 51199) (.slice none 0 0) (.slice none 0 0) :: ⟨true, n2, .cells #[.string ⟨#[]⟩, .int .u32 0, .slice none 0 0, .int .u16 0, .slice none 0 0, .slice none 0 0] 36 (0, 0)⟩ :: smB n1 nm df en (.slice ra rules.length rc) hd (.slice pa paths.length pc) (.slice ga rights.length gc) (.slice qa ports.length qc) :: (er ++ (ec ++ L))) (fun w H => HP.re2 (env:=[er, [_, _, _], ec, L]) [0, 1, 2, 3] [1, 0, 2, 3] (by decide) rfl rfl H) ?_
 have hps2 : Sli (er ++ (ec ++ L)) pa paths.length 1 (u8l paths) := (hps.upA ec).upA er
 have hgs2 : Sli (er ++ (ec ++ L)) ga rights.length 1 (u16g rights) := (hgs.upA ec).upA er
 have hqs2 : Sli (er ++ (ec ++ L)) qa ports.length 1 (u8l ports) := (hqs.upA ec).upA er
 clear hrg hrs hps hgs hqs hrules hl1
 generalize hL2 : er ++ (ec ++ L) = L2 at hps2 hgs2 hqs2 ⊢
 generalize hHD : hd &&& 51199 = HD at *
 have hrp := fun (i : Nat) (hi : i ≤ maxLen) (L : List Blk) (i1 i2 : Nat) (wp wq : Value) a b c => hrf L i1 i2 n4 (.slice va rs.length vc) wq wp (mB8 n0) act HD a b c hhd2 i hi 2047 (by omega)
 have hrq := fun (i : Nat) (hi : i ≤ maxLen) (L : List Blk) (i1 i2 : Nat) (wp wq : Value) a b c => hrf L i1 i2 n4 (.slice va rs.length vc) wq wp (mB8 n0) act HD a b c hhd2 i hi 49152 (by omega)
 have z20 : ((2047 : Nat) : Int) = 2047 := rfl
 have z49 : ((49152 : Nat) : Int) = 49152 := rfl
 simp only [z20] at hrp
 simp only [z49] at hrq
 have hdi := fun (L : List Blk) => dirs_c (S:=S) (w0:=w0) (L:=L)
 clear hrf z20 z49
 unfold maxLen at hrp hrq
 repeat' (first | (refine h2v (id:=4) ?_) | refine h0n ?_ | refine h0b ?_ | (refine gR 16 ?_ <;> (try refine h0c ?_; (refine K1_makeMap rfl ?_; intro nb hnb)) <;> (try refine p_a (h:=h0a ?_))) | (refine gR 17 (p_e (by apply E_makeFunc; exact rfl; exact rfl) (h:=p_a (h:=h0a ?_)))) | (refine gR 18 (p_e (q_f fo_48_5) (h:=p_e q_l (h:=p_e (by apply h0d; exact rfl; exact (fun _ => BigFrame.builtin_len ..); apply h0j Tryz.underlying45; exact h5a) (h:=p_m (h:=h0a ?_)))))))
 refine ⟨?_⟩
 obtain ⟨nbM, rfl⟩ : ∃ x, x = nb := ⟨_, rfl⟩
 refine h3g (γ:=SmpG) (SmpI paths.length HD) (fun _ => []) [(1, _), (2, _), (4, _), (11, _)]
  (fun g => g.ep ++ (pcB n4 (mB8 n0) act (.slice va rs.length vc) HD g.vp (.slice none 0 0) :: ⟨true, n2, .cells #[.string ⟨#[]⟩, .int .u32 0, .slice none 0 0, .int .u16 0, .slice none 0 0, .slice none 0 0] 36 (0, 0)⟩ :: smB n1 nm df en (.slice ra rules.length rc) hd (.slice pa paths.length pc) (.slice ga rights.length gc) (.slice qa ports.length qc) :: L2)) (.cons rfl (.cons rfl (.cons rfl (.cons rfl .nil)))) ?_ ?_
 ·-- PATHLOOP
  refine h0o ?_
  refine h2w (γ:=SmpG) (SmpI paths.length HD) (fun g => paths.length - g.k) (fun g => [(94, .int .i64 (g.k : Nat))]) [(1, _), (2, _), (4, _), (10, _), (11, _), (92, _), (93, _)]
   (fun g => g.ep ++ (pcB n4 (mB8 n0) act (.slice va rs.length vc) HD g.vp (.slice none 0 0) :: h2t nbM g.kvs :: ⟨true, n2, .cells #[.string ⟨#[]⟩, .int .u32 0, .slice none 0 0, .int .u16 0, .slice none 0 0, .slice none 0 0] 36 (0, 0)⟩ :: smB n1 nm df en (.slice ra rules.length rc) hd (.slice pa paths.length pc) (.slice ga rights.length gc) (.slice qa ports.length qc) :: L2)) ⟨0, [], .slice none 0 0, [], []⟩ (.cons rfl (.cons rfl (.cons rfl (.cons rfl (.cons rfl (.cons rfl (.cons rfl .nil))))))) ⟨Nat.zero_le _, Nat.zero_le _, Own.nil _ _, MapS.nil _, (fun _ h => by cases h), .nil, (fun _ h => by cases h)⟩ (by (focus (repeat (first | exact Sub.nil | refine Sub.cons rfl ?_)))) c_23 ?_
  rintro ⟨k, ps, vp, ep, kvs⟩ ⟨hk, hlen, hown, hmap, hok, hnd, hdir⟩
  dsimp only at hk hlen hown hmap hok hnd hdir ⊢
  by_cases hlt : k < paths.length
  case neg =>
   obtain ⟨ya, yc, rfl, -⟩ := hown.sli []
   repeat' (first | refine h0n ?_ | refine h0b ?_ | refine h0s ?_ | refine h1u ?_ | refine h1k ?_ | refine h1v ?_ | refine h2l ?_ | refine h0e rfl ?_ | (refine gR 19 (p_e (q_b (r:=by exact h1h q_o)) (h:=h0a ?_))))
   exact h0z ⟨k, ps, _, ep, kvs⟩ ⟨hk, hlen, hown, hmap, hok, hnd, hdir⟩ (by (focus (repeat (first | exact Sub.nil | refine Sub.cons rfl ?_)))) (by intro w H; refine Sel.out ?_ H; (try simp only [List.cons_append, List.nil_append, List.append_assoc]); repeat (first | exact Sel.refl _ | exact Sel.nil _ | (with_reducible apply Sel.appS) | (apply Sel.cons; (focus (repeat (first | exact fd0 | (with_reducible assumption) | apply fdA | apply fdS))); (try simp only [zzE, zzF])) | apply Sel.drop | apply Sel.dropA))
  obtain ⟨i0, q, b, off, cs, T, fr, rfl, hi0, hsz, hx⟩ := hps2.elem1 hlt
  obtain ⟨x, hxe⟩ : ∃ x, x = paths[k] := ⟨_, rfl⟩
  have hxr : 0 ≤ x ∧ x < 256 := hxe ▸ hpaths _ (List.getElem_mem hlt)
  rw [u8l, List.getElem?_map, List.getElem?_eq_getElem hlt, Option.map_some, ← hxe] at hx
  clear hxe
  obtain ⟨p, hp1, hp2, hp3⟩ := dirL_at (x % 6).toNat (by omega)
  have hds : dirC.size = 6 := rfl
  generalize dirC = DC at *
  obtain ⟨rr, hl1, hl2, hl3⟩ := hmap.look .string keyT keyT_same p
  obtain ⟨ya, yc, rfl, -⟩ := hown.sli []
  have hrp := hrp k (by omega)
  repeat' (first | (refine h2n (id:=23) ?_) | refine h0n ?_ | refine h0b ?_ | refine h0o ?_ | refine h0r ?_ | refine h0h rfl ?_ | (refine gR 19 (p_e (q_b (r:=by exact h1c q_o)) (h:=h0a ?_))) | (refine gR 20 (p_m (h:=p_e (by apply h0q; exact rfl; exact rfl; (focus (apply h2y Tryz.underlying45 sz_5; omega; omega; exact c_1))) (h:=p_e (by apply h1m (t:=5); exact rfl; (focus (repeat (first | (with_reducible assumption) | apply fdA | apply fdS))); kernel_rfl; kernel_rfl; (with_reducible assumption)) (h:=p_a (h:=p_a (h:=h0a ?_))))))) | (refine gR 21 ?_ <;> (try refine h0c ?_; (refine q_c 28 (c:=by apply hdi) (h:=?_); rintro _ _ ⟨nbD, rfl, rfl⟩; (try simp only [zzE, zzF]))) <;> (try refine q_m ?_) <;> (try refine q_e (by apply h4g; exact rfl; (focus (apply h4d Tryz.underlying5 Tryz.underlying3; first | (refine IntWalk.i64_in _ ?_; omega) | (refine IntWalk.u8_in _ ?_; omega) | (refine IntWalk.u16_in _ ?_; omega) | (refine IntWalk.u32_in _ ?_; omega) | (refine IntWalk.u64_in _ ?_; omega) | (refine IntWalk.i32_in _ ?_; omega) | exact rfl))) ?_) <;> (try refine h0c ?_; (refine q_c 28 (c:=by apply hdi) (h:=?_); rintro _ _ ⟨nbD, rfl, rfl⟩; (try simp only [zzE, zzF]))) <;> (try refine p_e (by apply h0d; exact rfl; exact (fun _ => BigFrame.builtin_len ..); apply h0j Tryz.underlying56; exact h5a) (h:=p_e (q_b (r:=by apply rb_rem; omega; omega; exact c_5)) (h:=p_e (by apply h0q; exact rfl; exact rfl; (focus (apply h2y Tryz.underlying56 sz_9; omega; omega; exact c_1))) (h:=p_e (by apply h1m (t:=9); exact rfl; exact h3c; kernel_rfl; kernel_rfl; (with_reducible assumption)) (h:=p_a (h:=h0a ?_))))))) | (refine gR 22 (p_m (h:=q_m ?_)) <;> (try refine h0c ?_; (apply K1_callvc (F:=27); kernel_rfl; exact rfl; exact rfl; exact rfl; exact rfl; (apply hrp; (focus (focus (repeat (first | exact fd0 | apply fdA | apply fdS)))); (focus (focus (repeat (first | exact fd0 | apply fdA | apply fdS)))); (focus (focus (repeat (first | (with_reducible assumption) | apply Sli.up | apply Sli.upA))))); rintro _ _ ⟨r, rfl, hr, rfl⟩)) <;> (try refine p_a (h:=h0a ?_))))
  refine ⟨?_⟩
  clear hrp hdi hrq
  by_cases h1 : p ∈ ps.map (·.1)
  ·replace hl2 := hl2.trans (congrArg Value.bool (dec_t h1))
   repeat' (first | refine h0b ?_ | refine h0s ?_ | refine h1b ?_ | refine h0r ?_ | refine h0e rfl ?_ | (refine gR 23 (p_m (h:=p_m (h:=p_e (by apply h5c; exact rfl; exact rfl; (focus (repeat (first | exact fd0 | apply fdA | apply fdS))); exact Tryz.underlying82; exact Tryz.underlying9; exact trivial; exact Tryz.zeroValue4; (with_reducible assumption); (with_reducible assumption)) (h:=p_e (by apply E_un; exact rfl; exact h3j) (h:=p_m (h:=p_z (h:=p_z (h:=p_p (h:=h0a ?_)))))))))) | (refine gR 26 ?_ <;> (try refine q_e (q_b (r:=by apply h1q; exact c_5; (focus (refine IntWalk.i64_in _ ?_; omega)))) ?_) <;> (try refine p_m (h:=h0a ?_))))
   exact h0z ⟨k + 1, ps, _, ep, kvs⟩ ⟨⟨by show k + 1 ≤ _; omega, by show ps.length ≤ k + 1; omega, hown, hmap, hok, hnd, hdir⟩, by show _ - (k + 1) < _ - k; omega⟩ (by (focus (repeat (first | exact Sub.nil | refine Sub.cons rfl ?_)))) (by intro w H; refine Sel.out ?_ H; (try simp only [List.cons_append, List.nil_append, List.append_assoc]); repeat (first | exact Sel.refl _ | exact Sel.nil _ | (with_reducible apply Sel.appS) | (apply Sel.cons; (focus (repeat (first | exact fd0 | (with_reducible assumption) | apply fdA | apply fdS))); (try simp only [zzE, zzF])) | apply Sel.drop | apply Sel.dropA))
  replace hl2 := hl2.trans (congrArg Value.bool (dec_f h1))
  by_cases h2 : r = 0
  ·have h20 : ((r : Nat) : Int) = 0 := by omega
   repeat' (first | refine h0b ?_ | refine h0s ?_ | refine h1b ?_ | refine h0r ?_ | refine h0e rfl ?_ | (refine gR 23 (p_m (h:=p_m (h:=p_e (by apply h5c; exact rfl; exact rfl; (focus (repeat (first | exact fd0 | apply fdA | apply fdS))); exact Tryz.underlying82; exact Tryz.underlying9; exact trivial; exact Tryz.zeroValue4; (with_reducible assumption); (with_reducible assumption)) (h:=p_e (by apply E_un; exact rfl; exact h4l) (h:=p_m (h:=q_y (h0g rfl) ?_)))))) <;> (try refine q_y (by exact q_b (r:=by refine h2x ?_; first | rfl | (with_reducible assumption) | (decide; done) | omega)) ?_) <;> (try refine p_p (h:=h0a ?_))) | (refine gR 26 ?_ <;> (try refine q_e (q_b (r:=by apply h1q; exact c_5; (focus (refine IntWalk.i64_in _ ?_; omega)))) ?_) <;> (try refine p_m (h:=h0a ?_))))
   exact h0z ⟨k + 1, ps, _, ep, kvs⟩ ⟨⟨by show k + 1 ≤ _; omega, by show ps.length ≤ k + 1; omega, hown, hmap, hok, hnd, hdir⟩, by show _ - (k + 1) < _ - k; omega⟩ (by (focus (repeat (first | exact Sub.nil | refine Sub.cons rfl ?_)))) (by intro w H; refine Sel.out ?_ H; (try simp only [List.cons_append, List.nil_append, List.append_assoc]); repeat (first | exact Sel.refl _ | exact Sel.nil _ | (with_reducible apply Sel.appS) | (apply Sel.cons; (focus (repeat (first | exact fd0 | (with_reducible assumption) | apply fdA | apply fdS))); (try simp only [zzE, zzF])) | apply Sel.drop | apply Sel.dropA))
  have h20 : ¬ ((r : Nat) : Int) = 0 := by omega
  have hl7 : ps.length ≤ 6 := by
   have := nd_len (ps.map (·.1)) dirL hnd (fun y hy => by obtain ⟨z, hz, rfl⟩ := List.mem_map.1 hy; exact hdir z hz)
   rw [List.length_map] at this
   exact this
  have hfi : ∀ v e, Own 104 2 v (ps.length + 1) (pthC ps ++ [.string (mB8 p), .int .u16 (r : Nat)]) e → Own 104 2 v (ps ++ [(p, r)]).length (pthC (ps ++ [(p, r)])) e := fun v e h => by
   rw [pthC_snoc, List.length_append]; exact h
  have hok' : ∀ z ∈ ps ++ [(p, r)], Pt.pathF z.1 = true ∧ z.2 ≠ 0 ∧ z.2 &&& HD = z.2 ∧ z.2 &&& 2047 = z.2 := mem_app1 hok ⟨hp2, h2, hr.1, hr.2⟩
  have hdir' : ∀ z ∈ ps ++ [(p, r)], z.1 ∈ dirL := mem_app1 hdir hp3
  have hnd' : ((ps ++ [(p, r)]).map (·.1)).Nodup := by rw [List.map_append]; exact nd_app hnd h1
  have hmap' : MapS keyT (updE kvs (keyT p) (.bool true) rr) ((ps ++ [(p, r)]).map (·.1)) := by rw [List.map_append]; exact hl3
  have hle' : (ps ++ [(p, r)]).length ≤ k + 1 := by rw [List.length_append]; simp only [List.length_cons, List.length_nil]; omega
  clear hmap hok hnd hdir hl3
  rcases h2z hown with ⟨hv0, h0, hx, rfl⟩ | ⟨g, capg, cur, hv0, rfl, q1, q2, q3, q4⟩
  ·injection hv0 with v1 v2 v3
   subst v1 v3
   rw [hx, h0] at hfi
   rw [h0]
   clear hown
   (try simp only [zzC, zzN])
   repeat' (first | refine h0n ?_ | refine h0b ?_ | refine h0s ?_ | refine h1b ?_ | refine h0h rfl ?_ | (refine gR 23 (p_m (h:=p_m (h:=p_e (by apply h5c; exact rfl; exact rfl; exact h3c; exact Tryz.underlying82; exact Tryz.underlying9; exact trivial; exact Tryz.zeroValue4; (with_reducible assumption); (with_reducible assumption)) (h:=p_e (by apply E_un; exact rfl; exact h4l) (h:=p_m (h:=p_y (h0g rfl) (h:=p_y (q_b (r:=by exact h3h q_o)) (h:=p_p (h:=h0a ?_)))))))))) | (refine gR 24 (p_m (h:=q_m ?_)) <;> (try refine h0c ?_; (apply h4s; exact rfl; exact rfl; exact rfl; exact h3c; exact Tryz.underlying82; exact Tryz.underlying9; exact trivial; (with_reducible assumption); (try simp only [List.set_cons_succ]); (try simp only [List.set_cons_zero]))) <;> (try refine h0a ?_)) | (refine gR 25 (p_e (q_f h3z) (h:=p_e q_l (h:=p_m (h:=q_m ?_)))) <;> (try refine q_e (by exact h0i (t:=104) (fun vs => (match vs with | [(_, x0), (_, x1)] => [x0, x1] | _ => [])) rfl (fun w => by kernel_rfl)) ?_; (try simp only [Value.cells]); (try simp only [zzC, zzN])) <;> (try refine h0c ?_; (refine h0l (t:=33) (m:=1) (e:=104) (fun vs => (match vs with | [(_, x0)] => x0.cells.toList | _ => [])) rfl rfl (fun w => by kernel_rfl) ?_; intro nb hnb; (try simp only [Value.cells]); (try simp only [zzC, zzN]))) <;> (try refine h0c ?_; (apply h2i; exact rfl; exact Tryz.underlying33; exact inf_104_i; exact inf_104_z; exact inf_104_s; exact inf_104_b; exact rfl; exact rfl; exact rfl; exact Own.nil _ _; exact fd0; exact Nat.le_of_ble_eq_true rfl; exact c_25; exact rfl; exact c_21; omega; (exact fun _ H => H); exact rfl; exact c_14; exact c_4; intro vA eA hownA; obtain ⟨gA, capA, curA, rfl, rfl, hA1, hA2, hA3, hA4⟩ := hownA.some (by omega); (try simp only [zzC, zzN]))) <;> (try refine q_e (q_f h3z) ?_) <;> (try refine h0c ?_; (refine q_S ?_)) <;> (try refine h0a ?_)) | (refine gR 26 ?_ <;> (try refine q_e (q_b (r:=by apply h1q; exact c_5; (focus (refine IntWalk.i64_in _ ?_; omega)))) ?_) <;> (try refine p_m (h:=h0a ?_))))
   all_goals exact h0z ⟨k + 1, ps ++ [(p, r)], _, _, _⟩ ⟨⟨by show k + 1 ≤ _; omega, hle', hfi _ _ (h4i (g:=gA) hA1 hA2 hA3 hA4), hmap', hok', hnd', hdir'⟩, by show _ - (k + 1) < _ - k; omega⟩ (by (focus (repeat (first | exact Sub.nil | refine Sub.cons rfl ?_)))) (by intro w H; refine Sel.out ?_ H; (try simp only [List.cons_append, List.nil_append, List.append_assoc]); repeat (first | exact Sel.refl _ | exact Sel.nil _ | (with_reducible apply Sel.appS) | (apply Sel.cons; (focus (repeat (first | exact fd0 | (with_reducible assumption) | apply fdA | apply fdS))); (try simp only [zzE, zzF])) | apply Sel.drop | apply Sel.dropA))
  ·injection hv0 with v1 v2 v3
   subst v1 v3
   rw [← q4] at hfi
   clear hown
   (try simp only [zzC, zzN])
   repeat' (first | refine h0n ?_ | refine h0b ?_ | refine h0s ?_ | refine h1b ?_ | refine h0h rfl ?_ | (refine gR 23 (p_m (h:=p_m (h:=p_e (by apply h5c; exact rfl; exact rfl; exact h3c; exact Tryz.underlying82; exact Tryz.underlying9; exact trivial; exact Tryz.zeroValue4; (with_reducible assumption); (with_reducible assumption)) (h:=p_e (by apply E_un; exact rfl; exact h4l) (h:=p_m (h:=p_y (h0g rfl) (h:=p_y (q_b (r:=by exact h3h q_o)) (h:=p_p (h:=h0a ?_)))))))))) | (refine gR 24 (p_m (h:=q_m ?_)) <;> (try refine h0c ?_; (apply h4s; exact rfl; exact rfl; exact rfl; exact h3c; exact Tryz.underlying82; exact Tryz.underlying9; exact trivial; (with_reducible assumption); (try simp only [List.set_cons_succ]); (try simp only [List.set_cons_zero]))) <;> (try refine h0a ?_)) | (refine gR 25 (p_e (q_f h3z) (h:=p_e q_l (h:=p_m (h:=q_m ?_)))) <;> (try refine q_e (by exact h0i (t:=104) (fun vs => (match vs with | [(_, x0), (_, x1)] => [x0, x1] | _ => [])) rfl (fun w => by kernel_rfl)) ?_; (try simp only [Value.cells]); (try simp only [zzC, zzN])) <;> (try refine h0c ?_; (refine h0l (t:=33) (m:=1) (e:=104) (fun vs => (match vs with | [(_, x0)] => x0.cells.toList | _ => [])) rfl rfl (fun w => by kernel_rfl) ?_; intro nb hnb; (try simp only [Value.cells]); (try simp only [zzC, zzN]))) <;> (try refine h0c ?_; (apply h1o; exact rfl; exact Tryz.underlying33; exact inf_104_i; exact inf_104_z; exact inf_104_s; exact inf_104_b; exact rfl; exact rfl; exact rfl; exact h3c; (with_reducible assumption); (with_reducible assumption); (with_reducible assumption); exact fd0; exact Nat.le_of_ble_eq_true rfl; exact c_25; exact rfl; exact c_21; omega; exact rfl; exact c_14; exact c_4; (try simp only [zzE, zzF]); intro vA eA hownA; obtain ⟨gA, capA, curA, rfl, rfl, hA1, hA2, hA3, hA4⟩ := hownA.some (by omega); (try simp only [zzC, zzN]))) <;> (try refine q_e (q_f h3z) ?_) <;> (try refine h0c ?_; (refine q_S ?_)) <;> (try refine h0a ?_)) | (refine gR 26 ?_ <;> (try refine q_e (q_b (r:=by apply h1q; exact c_5; (focus (refine IntWalk.i64_in _ ?_; omega)))) ?_) <;> (try refine p_m (h:=h0a ?_))))
   all_goals exact h0z ⟨k + 1, ps ++ [(p, r)], _, _, _⟩ ⟨⟨by show k + 1 ≤ _; omega, hle', hfi _ _ (h4i (g:=gA) hA1 hA2 hA3 hA4), hmap', hok', hnd', hdir'⟩, by show _ - (k + 1) < _ - k; omega⟩ (by (focus (repeat (first | exact Sub.nil | refine Sub.cons rfl ?_)))) (by intro w H; refine Sel.out ?_ H; (try simp only [List.cons_append, List.nil_append, List.append_assoc]); repeat (first | exact Sel.refl _ | exact Sel.nil _ | (with_reducible apply Sel.appS) | (apply Sel.cons; (focus (repeat (first | exact fd0 | (with_reducible assumption) | apply fdA | apply fdS))); (try simp only [zzE, zzF])) | apply Sel.drop | apply Sel.dropA))
 -- PORTS
 rintro ⟨k2, ps, vp, ep, kvs⟩ ⟨hpk, hpl, hownP, -, hpok, hpnd, hpdir⟩
 dsimp only at hpk hpl hownP hpok hpnd hpdir ⊢
 obtain ⟨wa, wc, rfl, -⟩ := hownP.sli []
 refine h5t (L' := pcB n4 (mB8 n0) act (.slice va rs.length vc) HD (.slice wa ps.length wc) (.slice none 0 0) :: ⟨true, n2, .cells #[.string ⟨#[]⟩, .int .u32 0, .slice none 0 0, .int .u16 0, .slice none 0 0, .slice none 0 0] 36 (0, 0)⟩ :: smB n1 nm df en (.slice ra rules.length rc) hd (.slice pa paths.length pc) (.slice ga rights.length gc) (.slice qa ports.length qc) :: (ep ++ L2)) (fun w H => HP.re2 (env:=[ep, [_, _, _], L2]) [0, 1, 2] [1, 0, 2] (by decide) rfl rfl H) ?_
 have hgs3 : Sli (ep ++ L2) ga rights.length 1 (u16g rights) := hgs2.upA ep
 have hqs3 : Sli (ep ++ L2) qa ports.length 1 (u8l ports) := hqs2.upA ep
 clear hps2 hgs2 hqs2 hrp hdi
 generalize hL3 : ep ++ L2 = L3 at hgs3 hqs3 ⊢
 repeat' (first | (refine h2v (id:=6) ?_) | refine h0n ?_ | refine h0b ?_ | (refine gR 27 ?_ <;> (try refine h0c ?_; (refine K1_makeMap rfl ?_; intro nb hnb)) <;> (try refine p_a (h:=h0a ?_))) | (refine gR 28 (p_e (q_f fo_48_7) (h:=p_e q_l (h:=p_e (by apply h0d; exact rfl; exact (fun _ => BigFrame.builtin_len ..); apply h0j Tryz.underlying45; exact h5a) (h:=p_m (h:=h0a ?_)))))))
 refine ⟨?_⟩
 obtain ⟨nbN, rfl⟩ : ∃ x, x = nb := ⟨_, rfl⟩
 refine h3g (γ:=SmqG) (SmqI ports.length HD) (fun _ => []) [(2, _), (4, _)]
  (fun g => g.ep ++ (pcB n4 (mB8 n0) act (.slice va rs.length vc) HD (.slice wa ps.length wc) g.vp :: ⟨true, n2, .cells #[.string ⟨#[]⟩, .int .u32 0, .slice none 0 0, .int .u16 0, .slice none 0 0, .slice none 0 0] 36 (0, 0)⟩ :: L3)) (.cons rfl (.cons rfl .nil)) ?_ ?_
 ·-- PORTLOOP
  refine h0o ?_
  refine h2w (γ:=SmqG) (SmqI ports.length HD) (fun g => ports.length - g.k) (fun g => [(133, .int .i64 (g.k : Nat))]) [(2, _), (4, _), (11, _), (16, _), (131, _), (132, _)]
   (fun g => g.ep ++ (pcB n4 (mB8 n0) act (.slice va rs.length vc) HD (.slice wa ps.length wc) g.vp :: h2t nbN g.kvs :: ⟨true, n2, .cells #[.string ⟨#[]⟩, .int .u32 0, .slice none 0 0, .int .u16 0, .slice none 0 0, .slice none 0 0] 36 (0, 0)⟩ :: smB n1 nm df en (.slice ra rules.length rc) hd (.slice pa paths.length pc) (.slice ga rights.length gc) (.slice qa ports.length qc) :: L3)) ⟨0, [], .slice none 0 0, [], []⟩ (.cons rfl (.cons rfl (.cons rfl (.cons rfl (.cons rfl (.cons rfl .nil)))))) ⟨Nat.zero_le _, Nat.zero_le _, Own.nil _ _, MapS.nil _, (fun _ h => by cases h), .nil, (fun _ h => by cases h)⟩ (by (focus (repeat (first | exact Sub.nil | refine Sub.cons rfl ?_)))) c_23 ?_
  clear hownP hpok hpnd hpdir hpl hpk
  rintro ⟨k, qs, vq, eq, kvs⟩ ⟨hk, hlen, hown, hmap, hok, hnd, hdir⟩
  dsimp only at hk hlen hown hmap hok hnd hdir ⊢
  by_cases hlt : k < ports.length
  case neg =>
   obtain ⟨ya, yc, rfl, -⟩ := hown.sli []
   repeat' (first | refine h0n ?_ | refine h0b ?_ | refine h0s ?_ | refine h1u ?_ | refine h1k ?_ | refine h1v ?_ | refine h2l ?_ | refine h0e rfl ?_ | (refine gR 29 (p_e (q_b (r:=by exact h1h q_o)) (h:=h0a ?_))))
   exact h0z ⟨k, qs, _, eq, kvs⟩ ⟨hk, hlen, hown, hmap, hok, hnd, hdir⟩ (by (focus (repeat (first | exact Sub.nil | refine Sub.cons rfl ?_)))) (by intro w H; refine Sel.out ?_ H; (try simp only [List.cons_append, List.nil_append, List.append_assoc]); repeat (first | exact Sel.refl _ | exact Sel.nil _ | (with_reducible apply Sel.appS) | (apply Sel.cons; (focus (repeat (first | exact fd0 | (with_reducible assumption) | apply fdA | apply fdS))); (try simp only [zzE, zzF])) | apply Sel.drop | apply Sel.dropA))
  obtain ⟨i0, q, b, off, cs, T, fr, rfl, hi0, hsz, hx⟩ := hqs3.elem1 hlt
  obtain ⟨x, hxe⟩ : ∃ x, x = ports[k] := ⟨_, rfl⟩
  have hxr : 0 ≤ x ∧ x < 256 := hxe ▸ hports _ (List.getElem_mem hlt)
  rw [u8l, List.getElem?_map, List.getElem?_eq_getElem hlt, Option.map_some, ← hxe] at hx
  clear hxe
  obtain ⟨p, hp⟩ : ∃ p : Nat, p = (80 + x % 4).toNat := ⟨_, rfl⟩
  have hpe : keyP p = .int .u16 (80 + x % 4) := by
   show Value.int .u16 ((p : Nat) : Int) = _
   rw [show ((p : Nat) : Int) = 80 + x % 4 by omega]
  obtain ⟨rr, hl1, hl2, hl3⟩ := hmap.look (.int .u16) keyP keyP_same p
  rw [hpe] at hl1 hl3
  obtain ⟨ya, yc, rfl, -⟩ := hown.sli []
  have hrq := hrq k (by omega)
  repeat' (first | (refine h2n (id:=33) ?_) | refine h0n ?_ | refine h0b ?_ | refine h0o ?_ | refine h0r ?_ | refine h0h rfl ?_ | (refine gR 29 (p_e (q_b (r:=by exact h1c q_o)) (h:=h0a ?_))) | (refine gR 30 (p_m (h:=p_e (by apply h0q; exact rfl; exact rfl; (focus (apply h2y Tryz.underlying45 sz_5; omega; omega; exact c_1))) (h:=p_e (by apply h1m (t:=5); exact rfl; (focus (repeat (first | (with_reducible assumption) | apply fdA | apply fdS))); kernel_rfl; kernel_rfl; (with_reducible assumption)) (h:=p_a (h:=p_a (h:=h0a ?_))))))) | (refine gR 31 (p_m (h:=q_e (q_b (r:=by apply rb_rem; omega; omega; exact c_5)) ?_)) <;> (try refine q_e (q_b (r:=by apply h1q; exact c_5; (focus (refine IntWalk.u8_in _ ?_; omega)))) ?_) <;> (try refine q_e (by apply h4g; exact rfl; (focus (apply h4d Tryz.underlying5 Tryz.underlying31; first | (refine IntWalk.i64_in _ ?_; omega) | (refine IntWalk.u8_in _ ?_; omega) | (refine IntWalk.u16_in _ ?_; omega) | (refine IntWalk.u32_in _ ?_; omega) | (refine IntWalk.u64_in _ ?_; omega) | (refine IntWalk.i32_in _ ?_; omega) | exact rfl))) ?_) <;> (try refine p_a (h:=h0a ?_))) | (refine gR 32 (p_m (h:=q_m ?_)) <;> (try refine h0c ?_; (apply K1_callvc (F:=27); kernel_rfl; exact rfl; exact rfl; exact rfl; exact rfl; (apply hrq; (focus (focus (repeat (first | exact fd0 | apply fdA | apply fdS)))); (focus (focus (repeat (first | exact fd0 | apply fdA)))); (focus (focus (repeat (first | (with_reducible assumption) | apply Sli.up | apply Sli.upA))))); rintro _ _ ⟨r, rfl, hr, rfl⟩)) <;> (try refine p_a (h:=h0a ?_))))
  refine ⟨?_⟩
  clear hrq
  by_cases h1 : p ∈ qs.map (·.1)
  ·replace hl2 := hl2.trans (congrArg Value.bool (dec_t h1))
   repeat' (first | refine h0b ?_ | refine h0s ?_ | refine h1b ?_ | refine h0r ?_ | refine h0e rfl ?_ | (refine gR 33 (p_m (h:=p_m (h:=p_e (by apply h5c; exact rfl; exact rfl; (focus (repeat (first | exact fd0 | apply fdA | apply fdS))); exact Tryz.underlying83; exact Tryz.underlying31; exact rfl; exact Tryz.zeroValue4; (with_reducible assumption); (with_reducible assumption)) (h:=p_e (by apply E_un; exact rfl; exact h3j) (h:=p_m (h:=p_z (h:=p_z (h:=p_p (h:=h0a ?_)))))))))) | (refine gR 36 ?_ <;> (try refine q_e (q_b (r:=by apply h1q; exact c_5; (focus (refine IntWalk.i64_in _ ?_; omega)))) ?_) <;> (try refine p_m (h:=h0a ?_))))
   exact h0z ⟨k + 1, qs, _, eq, kvs⟩ ⟨⟨by show k + 1 ≤ _; omega, by show qs.length ≤ k + 1; omega, hown, hmap, hok, hnd, hdir⟩, by show _ - (k + 1) < _ - k; omega⟩ (by (focus (repeat (first | exact Sub.nil | refine Sub.cons rfl ?_)))) (by intro w H; refine Sel.out ?_ H; (try simp only [List.cons_append, List.nil_append, List.append_assoc]); repeat (first | exact Sel.refl _ | exact Sel.nil _ | (with_reducible apply Sel.appS) | (apply Sel.cons; (focus (repeat (first | exact fd0 | (with_reducible assumption) | apply fdA | apply fdS))); (try simp only [zzE, zzF])) | apply Sel.drop | apply Sel.dropA))
  replace hl2 := hl2.trans (congrArg Value.bool (dec_f h1))
  by_cases h2 : r = 0
  ·have h20 : ((r : Nat) : Int) = 0 := by omega
   repeat' (first | refine h0b ?_ | refine h0s ?_ | refine h1b ?_ | refine h0r ?_ | refine h0e rfl ?_ | (refine gR 33 (p_m (h:=p_m (h:=p_e (by apply h5c; exact rfl; exact rfl; (focus (repeat (first | exact fd0 | apply fdA | apply fdS))); exact Tryz.underlying83; exact Tryz.underlying31; exact rfl; exact Tryz.zeroValue4; (with_reducible assumption); (with_reducible assumption)) (h:=p_e (by apply E_un; exact rfl; exact h4l) (h:=p_m (h:=q_y (h0g rfl) ?_)))))) <;> (try refine q_y (by exact q_b (r:=by refine h2x ?_; first | rfl | (with_reducible assumption) | (decide; done) | omega)) ?_) <;> (try refine p_p (h:=h0a ?_))) | (refine gR 36 ?_ <;> (try refine q_e (q_b (r:=by apply h1q; exact c_5; (focus (refine IntWalk.i64_in _ ?_; omega)))) ?_) <;> (try refine p_m (h:=h0a ?_))))
   exact h0z ⟨k + 1, qs, _, eq, kvs⟩ ⟨⟨by show k + 1 ≤ _; omega, by show qs.length ≤ k + 1; omega, hown, hmap, hok, hnd, hdir⟩, by show _ - (k + 1) < _ - k; omega⟩ (by (focus (repeat (first | exact Sub.nil | refine Sub.cons rfl ?_)))) (by intro w H; refine Sel.out ?_ H; (try simp only [List.cons_append, List.nil_append, List.append_assoc]); repeat (first | exact Sel.refl _ | exact Sel.nil _ | (with_reducible apply Sel.appS) | (apply Sel.cons; (focus (repeat (first | exact fd0 | (with_reducible assumption) | apply fdA | apply fdS))); (try simp only [zzE, zzF])) | apply Sel.drop | apply Sel.dropA))
  have h20 : ¬ ((r : Nat) : Int) = 0 := by omega
  have hl7 : qs.length ≤ 4 := by
   have := nd_len (qs.map (·.1)) [80, 81, 82, 83] hnd (fun y hy => by obtain ⟨z, hz, rfl⟩ := List.mem_map.1 hy; exact hdir z hz)
   rw [List.length_map] at this
   exact this
  have hfi : ∀ v e, Own 106 2 v (qs.length + 1) (porC qs ++ [.int .u16 (80 + x % 4), .int .u16 (r : Nat)]) e → Own 106 2 v (qs ++ [(p, r)]).length (porC (qs ++ [(p, r)])) e := fun v e h => by
   rw [porC_snoc, List.length_append, show (Value.int .u16 ((p : Nat) : Int)) = .int .u16 (80 + x % 4) from hpe]; exact h
  have hok' : ∀ z ∈ qs ++ [(p, r)], z.1 < 65536 ∧ z.2 ≠ 0 ∧ z.2 &&& HD = z.2 ∧ z.2 &&& 49152 = z.2 := mem_app1 hok ⟨by dsimp only; omega, h2, hr.1, hr.2⟩
  have hdir' : ∀ z ∈ qs ++ [(p, r)], z.1 ∈ [80, 81, 82, 83] := mem_app1 hdir (by
   dsimp only
   obtain h | h | h | h : p = 80 ∨ p = 81 ∨ p = 82 ∨ p = 83 := by omega
   all_goals simp [h])
  have hnd' : ((qs ++ [(p, r)]).map (·.1)).Nodup := by rw [List.map_append]; exact nd_app hnd h1
  have hmap' : MapS keyP (updE kvs (.int .u16 (80 + x % 4)) (.bool true) rr) ((qs ++ [(p, r)]).map (·.1)) := by rw [List.map_append]; exact hl3
  have hle' : (qs ++ [(p, r)]).length ≤ k + 1 := by rw [List.length_append]; simp only [List.length_cons, List.length_nil]; omega
  clear hmap hok hnd hdir hl3 hpe
  rcases h2z hown with ⟨hv0, h0, hx, rfl⟩ | ⟨g, capg, cur, hv0, rfl, q1, q2, q3, q4⟩
  ·injection hv0 with v1 v2 v3
   subst v1 v3
   rw [hx, h0] at hfi
   rw [h0]
   clear hown
   (try simp only [zzC, zzN])
   repeat' (first | refine h0n ?_ | refine h0b ?_ | refine h0s ?_ | refine h1b ?_ | refine h0h rfl ?_ | (refine gR 33 (p_m (h:=p_m (h:=p_e (by apply h5c; exact rfl; exact rfl; exact h3c; exact Tryz.underlying83; exact Tryz.underlying31; exact rfl; exact Tryz.zeroValue4; (with_reducible assumption); (with_reducible assumption)) (h:=p_e (by apply E_un; exact rfl; exact h4l) (h:=p_m (h:=p_y (h0g rfl) (h:=p_y (q_b (r:=by exact h3h q_o)) (h:=p_p (h:=h0a ?_)))))))))) | (refine gR 34 (p_m (h:=q_m ?_)) <;> (try refine h0c ?_; (apply h4s; exact rfl; exact rfl; exact rfl; exact h3c; exact Tryz.underlying83; exact Tryz.underlying31; exact rfl; (with_reducible assumption); (try simp only [List.set_cons_succ]); (try simp only [List.set_cons_zero]))) <;> (try refine h0a ?_)) | (refine gR 35 (p_e (q_f h3y) (h:=p_e q_l (h:=p_m (h:=q_m ?_)))) <;> (try refine q_e (by exact h0i (t:=106) (fun vs => (match vs with | [(_, x0), (_, x1)] => [x0, x1] | _ => [])) rfl (fun w => by kernel_rfl)) ?_; (try simp only [Value.cells]); (try simp only [zzC, zzN])) <;> (try refine h0c ?_; (refine h0l (t:=34) (m:=1) (e:=106) (fun vs => (match vs with | [(_, x0)] => x0.cells.toList | _ => [])) rfl rfl (fun w => by kernel_rfl) ?_; intro nb hnb; (try simp only [Value.cells]); (try simp only [zzC, zzN]))) <;> (try refine h0c ?_; (apply h2i; exact rfl; exact Tryz.underlying34; exact inf_106_i; exact inf_106_z; exact inf_106_s; exact inf_106_b; exact rfl; exact rfl; exact rfl; exact Own.nil _ _; exact fd0; exact Nat.le_of_ble_eq_true rfl; exact c_25; exact rfl; exact c_21; omega; (exact fun _ H => H); exact rfl; exact c_14; exact c_4; intro vA eA hownA; obtain ⟨gA, capA, curA, rfl, rfl, hA1, hA2, hA3, hA4⟩ := hownA.some (by omega); (try simp only [zzC, zzN]))) <;> (try refine q_e (q_f h3y) ?_) <;> (try refine h0c ?_; (refine q_S ?_)) <;> (try refine h0a ?_)) | (refine gR 36 ?_ <;> (try refine q_e (q_b (r:=by apply h1q; exact c_5; (focus (refine IntWalk.i64_in _ ?_; omega)))) ?_) <;> (try refine p_m (h:=h0a ?_))))
   all_goals exact h0z ⟨k + 1, qs ++ [(p, r)], _, _, _⟩ ⟨⟨by show k + 1 ≤ _; omega, hle', hfi _ _ (h4i (g:=gA) hA1 hA2 hA3 hA4), hmap', hok', hnd', hdir'⟩, by show _ - (k + 1) < _ - k; omega⟩ (by (focus (repeat (first | exact Sub.nil | refine Sub.cons rfl ?_)))) (by intro w H; refine Sel.out ?_ H; (try simp only [List.cons_append, List.nil_append, List.append_assoc]); repeat (first | exact Sel.refl _ | exact Sel.nil _ | (with_reducible apply Sel.appS) | (apply Sel.cons; (focus (repeat (first | exact fd0 | (with_reducible assumption) | apply fdA | apply fdS))); (try simp only [zzE, zzF])) | apply Sel.drop | apply Sel.dropA))
  ·injection hv0 with v1 v2 v3
   subst v1 v3
   rw [← q4] at hfi
   clear hown
   (try simp only [zzC, zzN])
   repeat' (first | refine h0n ?_ | refine h0b ?_ | refine h0s ?_ | refine h1b ?_ | refine h0h rfl ?_ | (refine gR 33 (p_m (h:=p_m (h:=p_e (by apply h5c; exact rfl; exact rfl; exact h3c; exact Tryz.underlying83; exact Tryz.underlying31; exact rfl; exact Tryz.zeroValue4; (with_reducible assumption); (with_reducible assumption)) (h:=p_e (by apply E_un; exact rfl; exact h4l) (h:=p_m (h:=p_y (h0g rfl) (h:=p_y (q_b (r:=by exact h3h q_o)) (h:=p_p (h:=h0a ?_)))))))))) | (refine gR 34 (p_m (h:=q_m ?_)) <;> (try refine h0c ?_; (apply h4s; exact rfl; exact rfl; exact rfl; exact h3c; exact Tryz.underlying83; exact Tryz.underlying31; exact rfl; (with_reducible assumption); (try simp only [List.set_cons_succ]); (try simp only [List.set_cons_zero]))) <;> (try refine h0a ?_)) | (refine gR 35 (p_e (q_f h3y) (h:=p_e q_l (h:=p_m (h:=q_m ?_)))) <;> (try refine q_e (by exact h0i (t:=106) (fun vs => (match vs with | [(_, x0), (_, x1)] => [x0, x1] | _ => [])) rfl (fun w => by kernel_rfl)) ?_; (try simp only [Value.cells]); (try simp only [zzC, zzN])) <;> (try refine h0c ?_; (refine h0l (t:=34) (m:=1) (e:=106) (fun vs => (match vs with | [(_, x0)] => x0.cells.toList | _ => [])) rfl rfl (fun w => by kernel_rfl) ?_; intro nb hnb; (try simp only [Value.cells]); (try simp only [zzC, zzN]))) <;> (try refine h0c ?_; (apply h1o; exact rfl; exact Tryz.underlying34; exact inf_106_i; exact inf_106_z; exact inf_106_s; exact inf_106_b; exact rfl; exact rfl; exact rfl; exact h3c; (with_reducible assumption); (with_reducible assumption); (with_reducible assumption); exact fd0; exact Nat.le_of_ble_eq_true rfl; exact c_25; exact rfl; exact c_21; omega; exact rfl; exact c_14; exact c_4; (try simp only [zzE, zzF]); intro vA eA hownA; obtain ⟨gA, capA, curA, rfl, rfl, hA1, hA2, hA3, hA4⟩ := hownA.some (by omega); (try simp only [zzC, zzN]))) <;> (try refine q_e (q_f h3y) ?_) <;> (try refine h0c ?_; (refine q_S ?_)) <;> (try refine h0a ?_)) | (refine gR 36 ?_ <;> (try refine q_e (q_b (r:=by apply h1q; exact c_5; (focus (refine IntWalk.i64_in _ ?_; omega)))) ?_) <;> (try refine p_m (h:=h0a ?_))))
   all_goals exact h0z ⟨k + 1, qs ++ [(p, r)], _, _, _⟩ ⟨⟨by show k + 1 ≤ _; omega, hle', hfi _ _ (h4i (g:=gA) hA1 hA2 hA3 hA4), hmap', hok', hnd', hdir'⟩, by show _ - (k + 1) < _ - k; omega⟩ (by (focus (repeat (first | exact Sub.nil | refine Sub.cons rfl ?_)))) (by intro w H; refine Sel.out ?_ H; (try simp only [List.cons_append, List.nil_append, List.append_assoc]); repeat (first | exact Sel.refl _ | exact Sel.nil _ | (with_reducible apply Sel.appS) | (apply Sel.cons; (focus (repeat (first | exact fd0 | (with_reducible assumption) | apply fdA | apply fdS))); (try simp only [zzE, zzF])) | apply Sel.drop | apply Sel.dropA))
 clear hrq
 rintro ⟨k3, qs, vq, eq, kvq⟩ ⟨hqk, hql, hownQ, -, hqok, hqnd, hqdir⟩
 dsimp only at hqk hql hownQ hqok hqnd hqdir ⊢
 obtain ⟨xa, xc, rfl, -⟩ := hownQ.sli []
 refine h5t (L' := pcB n4 (mB8 n0) act (.slice va rs.length vc) HD (.slice wa ps.length wc) (.slice xa qs.length xc) :: ⟨true, n2, .cells #[.string ⟨#[]⟩, .int .u32 0, .slice none 0 0, .int .u16 0, .slice none 0 0, .slice none 0 0] 36 (0, 0)⟩ :: (eq ++ L3)) (fun w H => HP.re2 (env:=[eq, [_, _], L3]) [0, 1, 2] [1, 0, 2] (by decide) rfl rfl H) ?_
 repeat' (first | refine h0n ?_ | refine h0b ?_ | refine h1a ?_ | (refine gR 37 (q_e (q_L sz_36) ?_) <;> (try refine h0c ?_; (refine q_W ?_)) <;> (try refine h0a ?_)))
 (apply h4y Tryz.results12; exact rfl; (focus (repeat (first | exact fd0 | (with_reducible assumption) | apply fdA | apply fdS))); kernel_rfl; kernel_rfl; exact sz_36; exact c_16)
 have hpl6 : ps.length ≤ 6 := by
  have := nd_len (ps.map (·.1)) dirL hpnd (fun y hy => by obtain ⟨z, hz, rfl⟩ := List.mem_map.1 hy; exact hpdir z hz)
  rw [List.length_map] at this
  exact this
 have hql4 : qs.length ≤ 4 := by
  have := nd_len (qs.map (·.1)) [80, 81, 82, 83] hqnd (fun y hy => by obtain ⟨z, hz, rfl⟩ := List.mem_map.1 hy; exact hqdir z hz)
  rw [List.length_map] at this
  exact this
 refine ⟨_, ⟨⟨.slice va rs.length vc, .slice wa ps.length wc, .slice xa qs.length xc, cz, er, ec, ep, eq⟩, ⟨n0, act, rs, HD, ps, qs⟩, rfl, ⟨hrsR, hownR, hownP, hownQ, hhd2, by dsimp only; omega, by dsimp only; omega, by dsimp only; omega⟩, ⟨hw0, hact0, hact, fun r hr => (hrok r hr).1, by dsimp only; rw [← hHD, Nat.and_assoc, Nat.and_self], by dsimp only; omega, by dsimp only; omega, by dsimp only; omega, hpok, hpnd, hqok, hqnd⟩, ⟨fun r hr => (hrok r hr).2⟩, ⟨rfl, by dsimp only; omega, by dsimp only; omega, by dsimp only; omega⟩, rfl⟩, fun w H => ?_⟩
 subst hL3 hL2
 have H2 : HP S w0 w (eq ++ (ep ++ (er ++ (ec ++ L)))) := by
  revert w
  intro w H; refine H.sub ?_; (try simp only [zzC, zzN]); repeat (first | exact List.Sublist.refl _ | refine List.Sublist.cons _ ?_)
 exact HP.re2 (env:=[eq, ep, er, ec, L]) [0, 1, 2, 3, 4] [2, 1, 0, 3, 4] (by decide) rfl (by unfold PoD.blocks; simp [flatB]) H2
abbrev GCnd.rc (c : GCnd) : List Value := [.int .i64 c.arg, .int .i64 (c.op : Nat), .int .u64 (c.mask : Nat), .int .u64 (c.val : Nat)]
def rgC (cs : List GCnd) : List Value := cs.flatMap GCnd.rc
def rpC (ps : List (List UInt8 × Nat)) : List Value := ps.flatMap fun p => [.string (mB8 p.1), .int .i64 (p.2 : Nat)]
def rqC (ps : List (Nat × Nat)) : List Value := ps.flatMap fun p => [.int .i64 (p.1 : Nat), .int .i64 (p.2 : Nat)]
inductive RefR : List GRul → List Value → List Blk → Prop
 | nil : RefR [] [] []
 | snoc {rs : List GRul} {cz : List Value} {ec : List Blk} {r : GRul} {v : Value} {e : List Blk} (h : RefR rs cz ec) (ho : Own 136 4 v r.conds.length (rgC r.conds) e) : RefR (rs ++ [r]) (cz ++ [.int .u32 r.num, .int .u32 r.act, v]) (e ++ ec)
structure RfD where
 vr : Value
 vp : Value
 vq : Value
 cz : List Value
 er : List Blk
 ec : List Blk
 ep : List Blk
 eq : List Blk
structure RfD.ok (d : RfD) (P : GPol) : Prop where
 rs : RefR P.rules d.cz d.ec
 vr : Own 130 3 d.vr P.rules.length d.cz d.er
 vp : Own 132 2 d.vp P.paths.length (rpC P.paths) d.ep
 vq : Own 134 2 d.vq P.ports.length (rqC P.ports) d.eq
def RfD.blocks (d : RfD) : List Blk := d.er ++ (d.ep ++ (d.eq ++ d.ec))
def RCnS (L : List Blk) (v : Value) (cs : List GCnd) : Prop := ∃ a c, v = .slice a cs.length c ∧ Sli L a cs.length 4 (rgC cs) ∧ cs.length ≤ maxLen
def RRlG (L : List Blk) : List GRul → List Value → Prop
 | [], cz => cz = []
 | r :: rs, cz => ∃ v cz', cz = .int .u32 r.num :: .int .u32 r.act :: v :: cz' ∧ RCnS L v r.conds ∧ RRlG L rs cz'
structure RfS (L : List Blk) (P : GPol) (vr vp vq : Value) : Prop where
 rs : ∃ a c cz, vr = .slice a P.rules.length c ∧ Sli L a P.rules.length 3 cz ∧ RRlG L P.rules cz
 ps : ∃ a c, vp = .slice a P.paths.length c ∧ Sli L a P.paths.length 2 (rpC P.paths)
 qs : ∃ a c, vq = .slice a P.ports.length c ∧ Sli L a P.ports.length 2 (rqC P.ports)
 l1 : P.rules.length ≤ maxLen
 l2 : P.paths.length ≤ maxLen
 l3 : P.ports.length ≤ maxLen
theorem RCnS.upA {L : List Blk} {v : Value} {cs : List GCnd} (h : RCnS L v cs) (e : List Blk) : RCnS (e ++ L) v cs := let ⟨a, c, h1, h2, h3⟩ := h; ⟨a, c, h1, h2.upA e, h3⟩
theorem RCnS.left {L e : List Blk} {v : Value} {cs : List GCnd} (h : RCnS e v cs) : RCnS (e ++ L) v cs := let ⟨a, c, h1, h2, h3⟩ := h; ⟨a, c, h1, h2.left, h3⟩
theorem RRlG.upA {L : List Blk} (e : List Blk) : ∀ {rs : List GRul} {cz : List Value}, RRlG L rs cz → RRlG (e ++ L) rs cz
 | [], _, h => h
 | _ :: _, _, ⟨v, cz', h1, h2, h3⟩ => ⟨v, cz', h1, h2.upA e, RRlG.upA e h3⟩
theorem RRlG.left {L e : List Blk} : ∀ {rs : List GRul} {cz : List Value}, RRlG e rs cz → RRlG (e ++ L) rs cz
 | [], _, h => h
 | _ :: _, _, ⟨v, cz', h1, h2, h3⟩ => ⟨v, cz', h1, h2.left, RRlG.left h3⟩
theorem RfS.upA {L : List Blk} {P : GPol} {vr vp vq : Value} (h : RfS L P vr vp vq) (e : List Blk) : RfS (e ++ L) P vr vp vq := by
 obtain ⟨⟨a, c, cz, h1, h2, h3⟩, ⟨a2, c2, h4, h5⟩, ⟨a3, c3, h6, h7⟩, l1, l2, l3⟩ := h
 exact ⟨⟨a, c, cz, h1, h2.upA e, h3.upA e⟩, ⟨a2, c2, h4, h5.upA e⟩, ⟨a3, c3, h6, h7.upA e⟩, l1, l2, l3⟩
theorem RfS.left {L e : List Blk} {P : GPol} {vr vp vq : Value} (h : RfS e P vr vp vq) : RfS (e ++ L) P vr vp vq := by
 obtain ⟨⟨a, c, cz, h1, h2, h3⟩, ⟨a2, c2, h4, h5⟩, ⟨a3, c3, h6, h7⟩, l1, l2, l3⟩ := h
 exact ⟨⟨a, c, cz, h1, h2.left, h3.left⟩, ⟨a2, c2, h4, h5.left⟩, ⟨a3, c3, h6, h7.left⟩, l1, l2, l3⟩
theorem RRlG.at_ {L : List Blk} : ∀ {rs : List GRul} {cz : List Value} (_ : RRlG L rs cz) (k : Nat) (hk : k < rs.length), ∃ v, (cz.drop (k * 3)).take 3 = [.int .u32 (rs[k]).num, .int .u32 (rs[k]).act, v] ∧ RCnS L v (rs[k]).conds
 | r :: rs, cz, ⟨v, cz', h1, h2, h3⟩, 0, _ => ⟨v, by rw [h1]; rfl, h2⟩
 | r :: rs, cz, ⟨v, cz', h1, h2, h3⟩, k + 1, hk => by
  obtain ⟨v', e1, e2⟩ := RRlG.at_ h3 k (by simpa using hk)
  exact ⟨v', by rw [h1, show (k + 1) * 3 = 3 + k * 3 by omega, ← List.drop_drop]; exact e1, e2⟩
theorem RRlG.snoc {L : List Blk} {v : Value} {r : GRul} : ∀ {rs : List GRul} {cz : List Value}, RRlG L rs cz → RCnS L v r.conds → RRlG L (rs ++ [r]) (cz ++ [.int .u32 r.num, .int .u32 r.act, v])
 | [], cz, h, hc => by
  obtain rfl : cz = [] := h
  exact ⟨v, [], rfl, hc, rfl⟩
 | _ :: _, _, ⟨v2, cz', h1, h2, h3⟩, hc => ⟨v2, _, by rw [h1]; rfl, h2, RRlG.snoc h3 hc⟩
theorem RefR.g {rs : List GRul} {cz : List Value} {ec : List Blk} (h : RefR rs cz ec) (hl : ∀ r ∈ rs, r.conds.length ≤ maxLen) : RRlG ec rs cz := by
 induction h with
 | nil => rfl
 | @snoc rs cz ec r v e _ ho ih =>
  obtain ⟨a, c, hv, hs⟩ := ho.sli ec
  exact RRlG.snoc (RRlG.upA e (ih fun q hq => hl q (List.mem_append_left _ hq))) ⟨a, c, hv, hs, hl r (List.mem_append_right _ (List.mem_singleton.2 rfl))⟩
structure FewG (P : GPol) : Prop where
 conds : ∀ r ∈ P.rules, r.conds.length ≤ 20
 path : ∀ p ∈ P.paths, p.1.length ≤ 200
 l1 : P.rules.length ≤ 80
 l2 : P.paths.length ≤ 50
 l3 : P.ports.length ≤ 50
 nm : P.nm.length ≤ 100
theorem pred_lt : ∀ k : Fin 5, ∀ x : Fin 256, 1 ≤ k.val → h4v k.val (UInt8.ofNat x.val) = true → x.val < 128 := by decide +kernel
theorem w_lt {w : W3} (h : WOk w) : ∀ x ∈ w.2.1, x.toNat < 128 := by
 intro x hx
 obtain ⟨c, r, -, -, hk⟩ := h.good.word
 have hk4 : h1s c = 1 ∨ h1s c = 2 ∨ h1s c = 3 ∨ h1s c = 4 := by
  unfold h1s
  split
  ·left; rfl
  ·split
   ·right; left; rfl
   ·split
    ·right; right; left; rfl
    ·right; right; right; rfl
 have h1 := h.good.pred x hx
 have e : (UInt8.ofNat x.toNat) = x := by simp
 have hl : x.toNat < 256 := x.toNat_lt
 rw [hk] at hk4
 refine pred_lt ⟨(tk0 w).kind, by omega⟩ ⟨x.toNat, hl⟩ (by show 1 ≤ (tk0 w).kind; omega) ?_
 dsimp only
 rw [e]
 exact h1
theorem polT_byte (P : Pol) (h : PolOk P) (hr : PolRn P) : ∀ x ∈ polT P, x.toNat < 128 := by
 have hL := (polL_ok P h hr).1
 intro x hx
 obtain ⟨ws, hws, hx⟩ := List.mem_flatMap.1 hx
 have hok := hL.ok ws hws
 rcases List.mem_append.1 hx with hx | hx
 ·cases ws with
  | nil => cases hx
  | cons w r =>
   rcases List.mem_append.1 hx with hx | hx
   ·exact w_lt (hok w (List.mem_cons_self ..)) x hx
   ·obtain ⟨v, hv, hx⟩ := List.mem_flatMap.1 hx
    rcases List.mem_cons.1 hx with rfl | hx
    ·decide
    ·exact w_lt (hok v (List.mem_cons_of_mem _ hv)) x hx
 ·rw [List.mem_singleton.1 hx]; decide
structure SubB (X L : List Blk) : Prop where
 mem : ∀ b ∈ X, b ∈ L
theorem SubB.refl (X : List Blk) : SubB X X := ⟨fun _ h => h⟩
theorem SubB.left (X R : List Blk) : SubB X (X ++ R) := ⟨fun _ h => List.mem_append_left _ h⟩
theorem SubB.app {X R Y : List Blk} (h : SubB X R) : SubB (Y ++ X) (Y ++ R) := ⟨fun b hb => (List.mem_append.1 hb).elim (fun h => List.mem_append_left _ h) (fun hx => List.mem_append_right _ (h.mem b hx))⟩
theorem SubB.up {X L : List Blk} {x : Blk} (h : SubB X L) : SubB X (x :: L) := ⟨fun b hb => List.mem_cons_of_mem _ (h.mem b hb)⟩
theorem SubB.upA {X L e : List Blk} (h : SubB X L) : SubB X (e ++ L) := ⟨fun b hb => List.mem_append_right _ (h.mem b hb)⟩
theorem Sli.mono {X L : List Blk} {a : Option Addr} {n size : Nat} {xs : List Value} (h : Sli X a n size xs) (hs : SubB X L) : Sli L a n size xs := by
 refine ⟨h.1, ?_⟩
 rcases h.2 with h1 | ⟨i, q, b, off, cs, T, fr, h1, h2, h3⟩
 ·exact Or.inl h1
 ·obtain ⟨j, hj⟩ := List.mem_iff_getElem?.1 (hs.mem _ (List.mem_iff_getElem?.2 ⟨i, h2⟩))
  exact Or.inr ⟨j, q, b, off, cs, T, fr, h1, hj, h3⟩
theorem CndS.mono {X L : List Blk} {v : Value} {cs : List GCnd} (h : CndS X v cs) (hs : SubB X L) : CndS L v cs := let ⟨a, c, h1, h2, h3⟩ := h; ⟨a, c, h1, h2.mono hs, h3⟩
theorem RulsG.mono {X L : List Blk} (hs : SubB X L) : ∀ {rs : List GRul} {cz : List Value}, RulsG X rs cz → RulsG L rs cz
 | [], _, h => h
 | _ :: _, _, ⟨v, cz', h1, h2, h3⟩ => ⟨v, cz', h1, h2.mono hs, RulsG.mono hs h3⟩
theorem PolS.mono {X L : List Blk} {P : GPol} {vr vp vq : Value} (h : PolS X P vr vp vq) (hs : SubB X L) : PolS L P vr vp vq := by
 obtain ⟨⟨a, c, cz, h1, h2, h3⟩, ⟨a2, c2, h4, h5⟩, ⟨a3, c3, h6, h7⟩, l1, l2, l3⟩ := h
 exact ⟨⟨a, c, cz, h1, h2.mono hs, h3.mono hs⟩, ⟨a2, c2, h4, h5.mono hs⟩, ⟨a3, c3, h6, h7.mono hs⟩, l1, l2, l3⟩
theorem RCnS.mono {X L : List Blk} {v : Value} {cs : List GCnd} (h : RCnS X v cs) (hs : SubB X L) : RCnS L v cs := let ⟨a, c, h1, h2, h3⟩ := h; ⟨a, c, h1, h2.mono hs, h3⟩
theorem RRlG.mono {X L : List Blk} (hs : SubB X L) : ∀ {rs : List GRul} {cz : List Value}, RRlG X rs cz → RRlG L rs cz
 | [], _, h => h
 | _ :: _, _, ⟨v, cz', h1, h2, h3⟩ => ⟨v, cz', h1, h2.mono hs, RRlG.mono hs h3⟩
theorem RfS.mono {X L : List Blk} {P : GPol} {vr vp vq : Value} (h : RfS X P vr vp vq) (hs : SubB X L) : RfS L P vr vp vq := by
 obtain ⟨⟨a, c, cz, h1, h2, h3⟩, ⟨a2, c2, h4, h5⟩, ⟨a3, c3, h6, h7⟩, l1, l2, l3⟩ := h
 exact ⟨⟨a, c, cz, h1, h2.mono hs, h3.mono hs⟩, ⟨a2, c2, h4, h5.mono hs⟩, ⟨a3, c3, h6, h7.mono hs⟩, l1, l2, l3⟩
def GCnd.c (c : GCnd) : Cnd := ⟨c.arg.toNat, c.op, c.mask, c.val⟩
def GRul.r (r : GRul) : RulP := ⟨r.num, r.act, r.conds.map GCnd.c⟩
def GPol.p (P : GPol) : Pol := ⟨P.nm, P.df, P.rules.map GRul.r, P.hd, P.paths, P.ports⟩
theorem SCndS.mono {X L : List Blk} {v : Value} {cs : List SCnd} (h : SCndS X v cs) (hs : SubB X L) : SCndS L v cs := let ⟨a, c, h1, h2, h3⟩ := h; ⟨a, c, h1, h2.mono hs, h3⟩
theorem SRulG.mono {X L : List Blk} (hs : SubB X L) : ∀ {rs : List SRul} {cz : List Value}, SRulG X rs cz → SRulG L rs cz
 | [], _, h => h
 | _ :: _, _, ⟨v, cz', h1, h2, h3⟩ => ⟨v, cz', h1, h2.mono hs, SRulG.mono hs h3⟩
theorem SPolS.mono {X L : List Blk} {s : SPol} {vr vp vg vq : Value} (h : SPolS X s vr vp vg vq) (hs : SubB X L) : SPolS L s vr vp vg vq := by
 obtain ⟨⟨a, c, cz, h1, h2, h3⟩, ⟨a2, c2, h4, h5⟩, ⟨a3, c3, h6, h7⟩, ⟨a4, c4, h8, h9⟩, l1, l2, l3, l4⟩ := h
 exact ⟨⟨a, c, cz, h1, h2.mono hs, h3.mono hs⟩, ⟨a2, c2, h4, h5.mono hs⟩, ⟨a3, c3, h6, h7.mono hs⟩, ⟨a4, c4, h8, h9.mono hs⟩, l1, l2, l3, l4⟩
theorem smpol_m {S w0 L X} (s : SPol) (h : s.ok) (vr vp vg vq : Value) (hS : SPolS X s vr vp vg vq) (hX : SubB X L) :
  Fn Tryz.prog 12 #[.agg #[.int .u8 s.nm, .int .u8 s.df, .int .u8 s.en, vr, .int .u16 (s.hd : Nat), vp, vg, vq]] S w0 L fun v L' => ∃ (P : Pol) (r1 p1 q1 : Option Addr) (r3 p3 q3 : Nat) (E : List Blk), v = .agg #[.string (mB8 P.nm), .int .u32 P.df, .slice r1 P.rules.length r3, .int .u16 (P.hd : Nat), .slice p1 P.paths.length p3, .slice q1 P.ports.length q3] ∧ PolOk P ∧ PolRn P ∧ PolS E P.g (.slice r1 P.rules.length r3) (.slice p1 P.paths.length p3) (.slice q1 P.ports.length q3) ∧ (P.hd = s.hd &&& 51199 ∧ P.rules.length ≤ 12 ∧ P.paths.length ≤ s.paths.length ∧ P.ports.length ≤ s.ports.length) ∧ E ++ L = L' := by
 refine (smpol_c (S:=S) (w0:=w0) s h vr vp vg vq (hS.mono hX)).mono ?_
 rintro v L' ⟨d, P, rfl, hd, hok, hrn, hi, rfl⟩
 have hS := hd.polS (pol_cl hok)
 obtain ⟨r1, r3, p1, p3, q1, q3, e1, e2, e3⟩ := hd.sl
 rw [e1, e2, e3] at hS
 exact ⟨_, ⟨P, r1, p1, q1, r3, p3, q3, _, by rw [e1, e2, e3], hok, hrn, hS, hi, rfl⟩, fun _ H => H⟩
theorem mB8_get {l : List UInt8} {p : Nat} (h : p < (mB8 l).size) (h2 : p < l.length) : (mB8 l)[p]'h = l[p] := rfl
structure GPolR (P : GPol) : Prop where
 nm : P.nm.length ≤ maxLen
 df : 0 ≤ P.df ∧ P.df < 4294967296
 rules : ∀ r ∈ P.rules, r.ok
 hd : P.hd < 65536
 paths : ∀ p ∈ P.paths, p.1.length ≤ maxLen ∧ p.2 < 65536
 ports : ∀ p ∈ P.ports, p.1 < 65536 ∧ p.2 < 65536
theorem GPolR.ok {P : GPol} (h : GPolR P) (hf : FewG P) : P.ok := by
 refine ⟨?_, h.df, h.rules, h.hd, ?_, h.ports⟩
 ·have := hf.nm; omega
 ·intro p hp
  have := hf.path p hp
  exact ⟨by omega, (h.paths p hp).2⟩
theorem lexAll_out (ps : List (List UInt8)) : ∀ (n : Nat) (a : List Tk) (ts : List Tk), h2j n ps a = (ts, none) → ∃ u, ts = a ++ u ∧ ∀ b, h2j n ps b = (b ++ u, none) := by
 induction ps with
 | nil =>
  intro n a ts h
  rw [h2j] at h
  injection h with h1 h2
  exact ⟨[], by rw [← h1, List.append_nil], fun b => by rw [h2j, List.append_nil]⟩
 | cons p ps ih =>
  intro n a ts h
  rw [h2j] at h
  rcases hq : lexLn (n + 1) (h4n 35 p) with ⟨us, o⟩
  cases o with
  | some w => rw [hq] at h; cases w; cases h
  | none =>
   rw [hq] at h
   dsimp only at h
   obtain ⟨u, h1, h2⟩ := ih _ _ _ h
   by_cases hn : us = []
   ·rw [if_pos hn] at h1
    refine ⟨u, h1, fun b => ?_⟩
    rw [h2j, hq]
    dsimp only
    rw [if_pos hn, h2]
   ·rw [if_neg hn] at h1
    refine ⟨us ++ [⟨0, [], 0, n + 1, (h4n 35 p).length + 1⟩] ++ u, by rw [h1]; simp, fun b => ?_⟩
    rw [h2j, hq]
    dsimp only
    rw [if_neg hn, h2]; simp
theorem lex_rest (D : List (List W3)) (h : LinesOk D) (rest : List UInt8) (hl : (lnsT D ++ rest).length ≤ 65536) {U : List Tk} (hU : h2j D.length (h0v 10 rest) [] = (U, none)) : ∃ A, lexF (lnsT D ++ rest) = (A ++ U, none) ∧ A.map kn = (toks D).map kn := by
 have e : ((D.map gapG).map pcs).flatMap (fun p => p ++ [10]) = lnsT D := by
  unfold lnsT
  rw [List.map_map, List.flatMap_map]
  congr 1
  funext ws
  rw [Function.comp_apply, pcs_gapG]
 have hW : ∀ g ∈ D.map gapG, g ≠ [] ∧ Apart g ∧ NoW g := by
  intro g hg
  obtain ⟨ws, hws, rfl⟩ := List.mem_map.1 hg
  refine ⟨?_, apart_gapG ws (h.ok ws hws), no_gapG ws (h.ok ws hws)⟩
  cases hx : ws with
  | nil => exact absurd hx (h.ne ws hws)
  | cons w r => simp [gapG]
 refine ⟨accN 0 (D.map gapG), ?_, accN_kn D 0⟩
 unfold lexF
 rw [if_neg (by omega), ← e, split_lines _ (fun w hw => (hW w hw).2.2), lexAll_lines _ hW, List.length_map, Nat.zero_add, List.nil_append]
 obtain ⟨u, h1, h2⟩ := lexAll_out _ _ _ _ hU
 rw [h2, h1, List.nil_append]
theorem lns_count (D : List (List W3)) (h : LinesOk D) : (lnsT D).count 10 = D.length := by
 have e : ((D.map gapG).map pcs).flatMap (fun p => p ++ [10]) = lnsT D := by
  unfold lnsT
  rw [List.map_map, List.flatMap_map]
  congr 1
  funext ws
  rw [Function.comp_apply, pcs_gapG]
 have h1 := split_lines (D.map gapG) (fun g hg => by
  obtain ⟨ws, hws, rfl⟩ := List.mem_map.1 hg
  exact no_gapG ws (h.ok ws hws)) []
 rw [e, List.append_nil] at h1
 have h2 := congrArg List.length h1
 rw [splitC_len, List.length_append, List.length_map, List.length_map] at h2
 have h3 : (h0v 10 ([] : List UInt8)).length = 1 := rfl
 omega
abbrev Sf (a : List Tk) (s : PS) : Prop := s.1 <:+ a
theorem tl_sf {a l : List Tk} (h : l <:+ a) : l.tail <:+ a := (List.tail_suffix l).trans h
theorem take_sf {a : List Tk} {s : PS} (k : Nat) (h : Sf a s) : Sf a (h0u k s).2 := tl_sf h
theorem word_sf {a : List Tk} {s : PS} (h : Sf a s) : Sf a (h1r s).2 := tl_sf h
theorem key_sf {a : List Tk} {s : PS} (k : List UInt8) (h : Sf a s) : Sf a (keyF k s) := tl_sf h
theorem act_sf {a : List Tk} {s : PS} (h : Sf a s) : Sf a (actF s).2 := by
 have h1 := word_sf h
 have h2 := take_sf 2 h1
 unfold actF
 split
 ·exact h1
 ·split
  ·exact h1
  ·split
   ·exact h1
   ·split
    ·split
     ·exact h2
     ·exact h2
    ·exact h1
theorem msk_sf {a : List Tk} {s : PS} (o : Nat) (h : Sf a s) : Sf a (mskF o s).2 := by
 unfold mskF
 split
 ·exact take_sf 4 (take_sf 2 h)
 ·exact h
theorem cnd_sf {a : List Tk} {s : PS} (h : Sf a s) : Sf a (cndF s).2 := by
 unfold cndF sgnS valF
 exact take_sf 2 (msk_sf _ (take_sf (s:=((h1r s).2.1, argW s)) 4 (word_sf h)))
theorem cnds_sf {a : List Tk} (f : Nat) : ∀ (key : List UInt8) (s : PS) (out : List Cnd), Sf a s → Sf a (h4b f key s out).2 := by
 induction f with
 | zero => intro key s out h; exact h
 | succ f ih =>
  intro key s out h
  unfold h4b
  split
  ·exact h
  ·exact ih _ _ _ (cnd_sf (key_sf key h))
theorem set_sf {a : List Tk} {s : PS} (k : Nat) (h : Sf a s) : Sf a (setF k s).2 := tl_sf h
theorem line_sf {a : List Tk} {P : Pol} {s : PS} (h : Sf a s) : Sf a (h4h P s).2 := by
 have h1 := take_sf 1 h
 unfold h4h lineW
 split
 ·exact cnds_sf (s:=(rul2 (h0u 1 s).2).2) _ _ _ (act_sf (s:=rul1 (h0u 1 s).2) (word_sf h1))
 ·split
  ·exact set_sf (s:=((h0u 1 s).2.1, w0z)) 0 h1
  ·split
   ·exact set_sf (s:=ben1 (h0u 1 s).2) 0 (take_sf 3 h1)
   ·split
    ·exact set_sf (s:=por1 (h0u 1 s).2) 0 (take_sf 2 h1)
    ·exact h1
theorem lines_sf {a : List Tk} (f : Nat) : ∀ q : Pol × PS, Sf a q.2 → Sf a (h1l f q).2 := by
 induction f with
 | zero => intro q h; exact h
 | succ f ih =>
  intro q h
  unfold h1l
  split
  ·exact h
  ·exact ih _ (take_sf 0 (line_sf h))
theorem polS_sf {a : List Tk} {s : PS} (h : Sf a s) : Sf a (polS s).2 :=
 take_sf 0 (act_sf (s:=keyF tDefault (h0u 0 (nmS s)).2) (key_sf tDefault (take_sf (s:=nmS s) 0 (word_sf (key_sf tPolicy h)))))
theorem linesGo_end (f : Nat) {q : Pol × PS} (h : q.2.1 = [] ∨ q.2.2 ≠ (0, 0, 0)) : h1l f q = q := by
 cases f with
 | zero => rfl
 | succ f => rw [h1l, if_pos h]
theorem linesGo_add (a b : Nat) : ∀ q : Pol × PS, h1l (a + b) q = h1l b (h1l a q) := by
 induction a with
 | zero => intro q; rw [Nat.zero_add]; rfl
 | succ a ih =>
  intro q
  by_cases h : q.2.1 = [] ∨ q.2.2 ≠ (0, 0, 0)
  ·rw [linesGo_end _ h, linesGo_end _ h, linesGo_end _ h]
  ·rw [show a + 1 + b = (a + b) + 1 by omega, h1l, if_neg h, ih]
   congr 1
   rw [h1l, if_neg h]
theorem all_mid (P : Pol) (h : PolOk P) (E : List (List W3)) : ∃ n, h1l n (polS (toks (polL P ++ E), w0z)) = (P, (toks E, w0z)) := by
 have e1 : toks (polL P ++ E) = tk0 (wN tPolicy) :: tk0 (wN P.nm) :: ⟨0, [], 0, 1, 1⟩ :: tk0 (wN tDefault) :: ((actL P.df).map tk0 ++ (⟨0, [], 0, 1, 1⟩ :: toks (P.rules.map rulL ++ (hanL P.hd ++ (P.paths.map benL ++ (P.ports.map porL ++ E)))))) := by
  unfold polL
  rw [List.cons_append, List.cons_append, toks_cons, toks_cons]; simp
 rw [e1]
 generalize hD : toks (P.rules.map rulL ++ (hanL P.hd ++ (P.paths.map benL ++ (P.ports.map porL ++ E)))) = D
 have e2 : ∀ r, h1r (tk0 (wN P.nm) :: r, w0z) = (tk0 (wN P.nm), (r, w0z)) := fun r => word_tk _ r (word_nc h.nm)
 have e3 : (tk0 (wN P.nm)).text = P.nm := rfl
 have hn : nmS (tk0 (wN tPolicy) :: tk0 (wN P.nm) :: ⟨0, [], 0, 1, 1⟩ :: tk0 (wN tDefault) :: ((actL P.df).map tk0 ++ (⟨0, [], 0, 1, 1⟩ :: D)), w0z) = (⟨0, [], 0, 1, 1⟩ :: tk0 (wN tDefault) :: ((actL P.df).map tk0 ++ (⟨0, [], 0, 1, 1⟩ :: D)), w0z) := by
  unfold nmS
  rw [key_tk, e2]
  dsimp only
  rw [e3, h.nm, if_neg (fun h => by cases h.2)]
 have hdf : dfS (tk0 (wN tPolicy) :: tk0 (wN P.nm) :: ⟨0, [], 0, 1, 1⟩ :: tk0 (wN tDefault) :: ((actL P.df).map tk0 ++ (⟨0, [], 0, 1, 1⟩ :: D)), w0z) = (P.df, (⟨0, [], 0, 1, 1⟩ :: D, w0z)) := by
  unfold dfS
  rw [hn, take_end]
  dsimp only
  rw [key_tk, act_tk P.df h.df0 h.df]
 unfold polS
 rw [hdf, key_tk, e2]
 dsimp only
 rw [take_end, e3]
 dsimp only
 refine ⟨P.rules.length + ((hanL P.hd).length + (P.paths.length + (P.ports.length + 0))), ?_⟩
 rw [← hD]
 have hh : ∀ (Q : Pol) (E : List (List W3)) (g : Nat), Q.hd = 0 → h1l ((hanL P.hd).length + g) (Q, (toks (hanL P.hd ++ E), w0z)) = h1l g ({ Q with hd := P.hd }, (toks E, w0z)) := by
  intro Q E g hq
  unfold hanL
  by_cases h0 : P.hd ≠ 0
  ·rw [if_pos h0]
   have hk : ∀ tl, lineW Q (tk0 (wN tHandle)) ([wN (rgT P.hd)].map tk0 ++ (⟨0, [], 0, 1, 1⟩ :: tl), w0z) = ({ Q with hd := P.hd }, (⟨0, [], 0, 1, 1⟩ :: tl, w0z)) := by
    intro tl
    unfold lineW
    rw [if_neg (by decide), if_pos (show (tk0 (wN tHandle)).text = tHandle from rfl), hq]
    have e := han_tk (tk0 (wN tHandle)) P.hd h0 h.hd tl
    show (_, (hanF 0 (tk0 (wN tHandle)) (tk0 (wN (rgT P.hd)) :: (⟨0, [], 0, 1, 1⟩ :: tl), w0z)).2) = _
    rw [e]
    show (({ Q with hd := (hanF 0 (tk0 (wN tHandle)) (tk0 (wN (rgT P.hd)) :: (⟨0, [], 0, 1, 1⟩ :: tl), w0z)).1 } : Pol), _) = _
    rw [e]
   show h1l (1 + g) (Q, (toks ([wN tHandle, wN (rgT P.hd)] :: E), w0z)) = _
   rw [Nat.add_comm, line_tk (ws:=[wN tHandle, wN (rgT P.hd)]) (P' := { Q with hd := P.hd }) (k:=tHandle) (r:=[wN (rgT P.hd)]) rfl hk]
  ·rw [if_neg h0]
   have h1 : P.hd = 0 := by omega
   have e : ({ Q with hd := P.hd } : Pol) = Q := by rw [h1, ← hq]
   rw [e]
   show h1l (0 + g) (Q, (toks E, w0z)) = _
   rw [Nat.zero_add]
 rw [lines_rules P _ P.rules ⟨P.nm, P.df, [], 0, [], []⟩ _ h.rules (by simpa using h.l1)]
 dsimp only [List.nil_append]
 rw [hh ⟨P.nm, P.df, P.rules, 0, [], []⟩ _ _ rfl]
 dsimp only
 rw [lines_paths _ P.paths ⟨P.nm, P.df, P.rules, P.hd, [], []⟩ _ h.hd h.paths (by simpa using h.pnd) (by simpa using h.l2)]
 dsimp only [List.nil_append]
 rw [lines_ports E P.ports ⟨P.nm, P.df, P.rules, P.hd, P.paths, []⟩ _ h.hd h.ports (by simpa using h.qnd) (by simpa using h.l3)]
 rfl
theorem all_rest (P : Pol) (h : PolOk P) (A R : List Tk) (E : List (List W3)) (hA : A.map kn = (toks (polL P)).map kn) (hR : R.map kn = (toks E).map kn) : ∃ f, R.length < f ∧ allP (A ++ R, w0z) = h1l f (P, (R, w0z)) := by
 obtain ⟨n, hn⟩ := all_mid P h E
 have hs : Rs (A ++ R, w0z) (toks (polL P ++ E), w0z) := ⟨by
  show (A ++ R).map kn = _
  rw [toks_app, List.map_append, List.map_append, hA, hR], Iff.rfl⟩
 have h1 := keyF_r (k:=tPolicy) hs
 obtain ⟨h2, h3, h4⟩ := wordT_r h1
 have ht := (h4q h2).2.1
 have h5 : Rs (nmS (A ++ R, w0z)) (nmS (toks (polL P ++ E), w0z)) := ⟨h3, ite_r (by rw [h4, ht]) (h4w (by omega) (by omega)) h4⟩
 obtain ⟨g1, g2⟩ := actF_r (keyF_r (k:=tDefault) (h5n (k:=0) h5).2)
 have g3 : Rs (polS (A ++ R, w0z)).2 (polS (toks (polL P ++ E), w0z)).2 := (h5n (k:=0) g2).2
 have e : (polS (A ++ R, w0z)).1 = (polS (toks (polL P ++ E), w0z)).1 := by
  show (⟨_, _, [], 0, [], []⟩ : Pol) = ⟨_, _, [], 0, [], []⟩
  rw [ht, show (dfS (A ++ R, w0z)).1 = (dfS (toks (polL P ++ E), w0z)).1 from g1]
 have hsf : Sf (A ++ R) (polS (A ++ R, w0z)).2 := polS_sf (List.suffix_refl _)
 have hall : allP (A ++ R, w0z) = h1l ((polS (A ++ R, w0z)).2.1.length + 1) (polS (A ++ R, w0z)) := rfl
 rw [hall]
 generalize polS (A ++ R, w0z) = q at *
 generalize polS (toks (polL P ++ E), w0z) = q' at *
 obtain ⟨Q, s⟩ := q
 obtain ⟨Q', s'⟩ := q'
 dsimp only at *
 subst e
 obtain ⟨r1, r2, r3⟩ := linesGo_r n Q s s' g3
 rw [hn] at r1 r2 r3
 have r5 : (h1l n (Q, s)).2.2 = (0, 0, 0) := r3.2 rfl
 have hz : (h1l n (Q, s)).2.1 <:+ A ++ R := lines_sf n _ hsf
 have hl : (h1l n (Q, s)).2.1.length = R.length := by
  have e1 := congrArg List.length r2
  have e2 := congrArg List.length hR
  rw [List.length_map, List.length_map] at e1 e2
  dsimp only at e1 e2
  omega
 have r4 : (h1l n (Q, s)).2.1 = R := by
  have := List.suffix_of_suffix_length_le hz (List.suffix_append A R) (by omega)
  exact this.eq_of_length hl
 have hq : h1l n (Q, s) = (P, (R, w0z)) := Prod.ext r1 (Prod.ext r4 r5)
 refine ⟨s.1.length + 1 + R.length, by omega, ?_⟩
 rw [linesGo_fuel (s.1.length + 1) (n + (s.1.length + 1 + R.length)) (Q, s) (by show s.1.length < _; omega) (by show s.1.length < _; omega), linesGo_add, hq]
def grp : List Tk → List (List W3)
 | [] => []
 | t :: r => if t.kind = 0 then [] :: grp r else match grp r with
  | [] => [[kn t]]
  | ws :: R => (kn t :: ws) :: R
theorem pol_rest (P : Pol) (h : PolOk P) (hr : PolRn P) (rest : List UInt8) (hlen : rest.length ≤ 10000) {U : List Tk} (hl : h2j (polL P).length (h0v 10 rest) [] = (U, none)) (hU : U.map kn = (toks (grp U)).map kn) {w : Wr} (hw0 : w ≠ (0, 0, 0)) {k : Nat} (hw : (h1l k (P, (U, w0z))).2.2 = w) (hk : k ≤ U.length) : polF (polT P ++ rest) = (zPol, w) := by
 obtain ⟨h1, h2⟩ := polL_ok P h hr
 obtain ⟨A, h3, h4⟩ := lex_rest (polL P) h1 rest (by rw [List.length_append]; unfold polT at h2; omega) hl
 obtain ⟨f, hf, h5⟩ := all_rest P h A U (grp U) h4 hU
 have h6 : (allP (A ++ U, (0, 0, 0))).2.2 = w := by
  have e : f = k + (f - k) := by omega
  show (allP (A ++ U, w0z)).2.2 = w
  rw [h5, e, linesGo_add, linesGo_end _ (Or.inr (by rw [hw]; exact hw0)), hw]
 unfold polF polT
 rw [h3]
 dsimp only
 rw [h6, if_neg hw0]
theorem lineP_call {P : Pol} {s : PS} (h : (h0u 1 s).1.text = tCall) : (h4h P s).2 = (rulF (h0u 1 s).1 P.rules (h0u 1 s).2).2 := by
 unfold h4h lineW
 rw [if_pos h]
theorem failW_keep {w : Wr} (h : w ≠ (0, 0, 0)) (t : Tk) (e : Nat) : h2c w t e = w := by unfold h2c; rw [if_neg h]
theorem rul_bad {at_ : Tk} {rs : List RulP} {s : PS} {w : Wr} (h : (rul3 s).2.2 = w) (h0 : w ≠ (0, 0, 0)) : (rulF at_ rs s).2.2 = w := by
 show (if 64 < rs.length + 1 then h2c (rul3 s).2.2 at_ 205 else (rul3 s).2.2) = w
 rw [h]
 split
 ·exact failW_keep h0 _ _
 ·rfl
def badW (U : List Tk) : Wr := if (U.headD zTk).text = tCall then (rul3 (h0u 1 (U, w0z)).2).2.2 else (h0u 0 (h4h ⟨[], 0, [], 16390, [], []⟩ (U, w0z)).2).2.2
theorem bad_line {nm : List UInt8} {df : Int} {rs : List RulP} {U : List Tk} {w : Wr} (h : badW U = w) (h0 : w ≠ (0, 0, 0)) (hne : U ≠ []) : (h1l 1 (⟨nm, df, rs, 16390, [], []⟩, (U, w0z))).2.2 = w := by
 rw [h1l, if_neg (fun h => h.elim hne (fun h => h rfl))]
 show (h0u 0 (h4h ⟨nm, df, rs, 16390, [], []⟩ (U, w0z)).2).2.2 = w
 unfold badW at h
 split at h
 ·rename_i hc
  show (if ((h4h ⟨nm, df, rs, 16390, [], []⟩ (U, w0z)).2.1.headD zTk).kind = 0 then (h4h ⟨nm, df, rs, 16390, [], []⟩ (U, w0z)).2.2 else h2c (h4h ⟨nm, df, rs, 16390, [], []⟩ (U, w0z)).2.2 _ 203) = w
  have hl : (h4h ⟨nm, df, rs, 16390, [], []⟩ (U, w0z)).2.2 = w := by
   rw [lineP_call (s:=(U, w0z)) hc]
   exact rul_bad h h0
  rw [hl]
  split
  ·rfl
  ·exact failW_keep h0 _ _
 ·rename_i hc
  rw [← h]
  have e : (h4h ⟨nm, df, rs, 16390, [], []⟩ (U, w0z)).2 = (h4h ⟨[], 0, [], 16390, [], []⟩ (U, w0z)).2 := by
   unfold h4h lineW
   rw [if_neg (show ¬ (h0u 1 (U, w0z)).1.text = tCall from hc), if_neg (show ¬ (h0u 1 (U, w0z)).1.text = tCall from hc)]
   split
   ·rfl
   ·split
    ·rfl
    ·split
     ·rfl
     ·rfl
  rw [e]
def tlB : List UInt8 := [10, 99, 97, 108, 108, 32, 114, 101, 97, 100, 32, 97, 108, 108, 111, 119, 10]
structure BadL (b : List UInt8) (c e : Nat) : Prop where
 all : ∀ m : Nat, (h2j m (h0v 10 (b ++ tlB)) []).2 = none ∧ (h2j m (h0v 10 (b ++ tlB)) []).1.map kn = (toks (grp (h2j m (h0v 10 (b ++ tlB)) []).1)).map kn ∧ badW (h2j m (h0v 10 (b ++ tlB)) []).1 = (m + 1, c, e) ∧ (h2j m (h0v 10 (b ++ tlB)) []).1.isEmpty = false
 len : decide (b.length ≤ 1000) = true
theorem bl_0 : BadL [102, 111, 111] 1 202 := ⟨fun m => ⟨by kernel_rfl, by kernel_rfl, by kernel_rfl, by kernel_rfl⟩, by kernel_rfl⟩
theorem bl_1 : BadL [55] 1 203 := ⟨fun m => ⟨by kernel_rfl, by kernel_rfl, by kernel_rfl, by kernel_rfl⟩, by kernel_rfl⟩
theorem bl_2 : BadL [99, 97, 108, 108] 5 203 := ⟨fun m => ⟨by kernel_rfl, by kernel_rfl, by kernel_rfl, by kernel_rfl⟩, by kernel_rfl⟩
theorem bl_3 : BadL [99, 97, 108, 108, 32, 110, 111, 99, 97, 108, 108, 32, 97, 108, 108, 111, 119] 6 38 := ⟨fun m => ⟨by kernel_rfl, by kernel_rfl, by kernel_rfl, by kernel_rfl⟩, by kernel_rfl⟩
theorem bl_4 : BadL [99, 97, 108, 108, 32, 111, 112, 101, 110, 44, 114, 101, 97, 100, 32, 97, 108, 108, 111, 119] 6 203 := ⟨fun m => ⟨by kernel_rfl, by kernel_rfl, by kernel_rfl, by kernel_rfl⟩, by kernel_rfl⟩
theorem bl_5 : BadL [99, 97, 108, 108, 32, 111, 112, 101, 110] 10 203 := ⟨fun m => ⟨by kernel_rfl, by kernel_rfl, by kernel_rfl, by kernel_rfl⟩, by kernel_rfl⟩
theorem bl_6 : BadL [99, 97, 108, 108, 32, 111, 112, 101, 110, 32, 108, 101, 116] 11 202 := ⟨fun m => ⟨by kernel_rfl, by kernel_rfl, by kernel_rfl, by kernel_rfl⟩, by kernel_rfl⟩
theorem bl_7 : BadL [99, 97, 108, 108, 32, 111, 112, 101, 110, 32, 101, 114, 114, 110, 111] 16 203 := ⟨fun m => ⟨by kernel_rfl, by kernel_rfl, by kernel_rfl, by kernel_rfl⟩, by kernel_rfl⟩
theorem bl_8 : BadL [99, 97, 108, 108, 32, 111, 112, 101, 110, 32, 101, 114, 114, 110, 111, 32, 48] 17 204 := ⟨fun m => ⟨by kernel_rfl, by kernel_rfl, by kernel_rfl, by kernel_rfl⟩, by kernel_rfl⟩
theorem bl_9 : BadL [99, 97, 108, 108, 32, 111, 112, 101, 110, 32, 101, 114, 114, 110, 111, 32, 52, 48, 57, 54] 17 204 := ⟨fun m => ⟨by kernel_rfl, by kernel_rfl, by kernel_rfl, by kernel_rfl⟩, by kernel_rfl⟩
theorem bl_10 : BadL [99, 97, 108, 108, 32, 111, 112, 101, 110, 32, 107, 105, 108, 108, 32, 55] 16 203 := ⟨fun m => ⟨by kernel_rfl, by kernel_rfl, by kernel_rfl, by kernel_rfl⟩, by kernel_rfl⟩
theorem bl_11 : BadL [99, 97, 108, 108, 32, 111, 112, 101, 110, 32, 107, 105, 108, 108, 32, 97, 110, 100, 32, 97, 114, 103, 48, 32, 61, 61, 32, 49] 16 203 := ⟨fun m => ⟨by kernel_rfl, by kernel_rfl, by kernel_rfl, by kernel_rfl⟩, by kernel_rfl⟩
theorem bl_12 : BadL [99, 97, 108, 108, 32, 111, 112, 101, 110, 32, 107, 105, 108, 108, 32, 105, 102, 32, 97, 114, 103, 54, 32, 61, 61, 32, 49] 19 202 := ⟨fun m => ⟨by kernel_rfl, by kernel_rfl, by kernel_rfl, by kernel_rfl⟩, by kernel_rfl⟩
theorem bl_13 : BadL [99, 97, 108, 108, 32, 111, 112, 101, 110, 32, 107, 105, 108, 108, 32, 105, 102, 32, 97, 114, 103, 48, 32, 49] 24 203 := ⟨fun m => ⟨by kernel_rfl, by kernel_rfl, by kernel_rfl, by kernel_rfl⟩, by kernel_rfl⟩
theorem bl_14 : BadL [99, 97, 108, 108, 32, 111, 112, 101, 110, 32, 107, 105, 108, 108, 32, 105, 102, 32, 97, 114, 103, 48, 32, 61, 61] 26 203 := ⟨fun m => ⟨by kernel_rfl, by kernel_rfl, by kernel_rfl, by kernel_rfl⟩, by kernel_rfl⟩
theorem bl_15 : BadL [99, 97, 108, 108, 32, 111, 112, 101, 110, 32, 107, 105, 108, 108, 32, 105, 102, 32, 97, 114, 103, 48, 32, 38, 32, 48, 32, 61, 61, 32, 48] 31 204 := ⟨fun m => ⟨by kernel_rfl, by kernel_rfl, by kernel_rfl, by kernel_rfl⟩, by kernel_rfl⟩
theorem bl_16 : BadL [99, 97, 108, 108, 32, 111, 112, 101, 110, 32, 107, 105, 108, 108, 32, 105, 102, 32, 97, 114, 103, 48, 32, 38, 32, 50, 32, 61, 61, 32, 49] 31 204 := ⟨fun m => ⟨by kernel_rfl, by kernel_rfl, by kernel_rfl, by kernel_rfl⟩, by kernel_rfl⟩
theorem bl_17 : BadL [99, 97, 108, 108, 32, 111, 112, 101, 110, 32, 107, 105, 108, 108, 32, 105, 102, 32, 97, 114, 103, 48, 32, 38, 32, 50, 32, 33, 61, 32, 49] 28 203 := ⟨fun m => ⟨by kernel_rfl, by kernel_rfl, by kernel_rfl, by kernel_rfl⟩, by kernel_rfl⟩
theorem bl_18 : BadL [99, 97, 108, 108, 32, 111, 112, 101, 110, 32, 107, 105, 108, 108, 32, 105, 102, 32, 97, 114, 103, 48, 32, 61, 61, 32, 49, 32, 105, 102, 32, 97, 114, 103, 49, 32, 61, 61, 32, 49] 29 203 := ⟨fun m => ⟨by kernel_rfl, by kernel_rfl, by kernel_rfl, by kernel_rfl⟩, by kernel_rfl⟩
theorem bl_19 : BadL [104, 97, 110, 100, 108, 101, 32, 114, 101, 97, 100] 1 206 := ⟨fun m => ⟨by kernel_rfl, by kernel_rfl, by kernel_rfl, by kernel_rfl⟩, by kernel_rfl⟩
theorem bl_20 : BadL [98, 101, 110, 101, 97, 116, 104, 32, 97, 32, 114, 101, 97, 100] 9 203 := ⟨fun m => ⟨by kernel_rfl, by kernel_rfl, by kernel_rfl, by kernel_rfl⟩, by kernel_rfl⟩
theorem bl_21 : BadL [98, 101, 110, 101, 97, 116, 104, 32, 47, 97, 47, 47, 98, 32, 114, 101, 97, 100] 9 203 := ⟨fun m => ⟨by kernel_rfl, by kernel_rfl, by kernel_rfl, by kernel_rfl⟩, by kernel_rfl⟩
theorem bl_22 : BadL [98, 101, 110, 101, 97, 116, 104, 32, 47, 97, 32, 101, 120, 101, 99] 12 204 := ⟨fun m => ⟨by kernel_rfl, by kernel_rfl, by kernel_rfl, by kernel_rfl⟩, by kernel_rfl⟩
theorem bl_23 : BadL [98, 101, 110, 101, 97, 116, 104, 32, 47, 97, 32, 114, 101, 101, 100] 12 202 := ⟨fun m => ⟨by kernel_rfl, by kernel_rfl, by kernel_rfl, by kernel_rfl⟩, by kernel_rfl⟩
theorem bl_24 : BadL [98, 101, 110, 101, 97, 116, 104, 32, 47, 97, 32, 114, 101, 97, 100, 44, 114, 101, 97, 100] 12 206 := ⟨fun m => ⟨by kernel_rfl, by kernel_rfl, by kernel_rfl, by kernel_rfl⟩, by kernel_rfl⟩
theorem bl_25 : BadL [98, 101, 110, 101, 97, 116, 104, 32, 47, 97, 32, 98, 105, 110, 100] 12 204 := ⟨fun m => ⟨by kernel_rfl, by kernel_rfl, by kernel_rfl, by kernel_rfl⟩, by kernel_rfl⟩
theorem bl_26 : BadL [112, 111, 114, 116, 32, 54, 53, 53, 51, 54, 32, 98, 105, 110, 100] 6 204 := ⟨fun m => ⟨by kernel_rfl, by kernel_rfl, by kernel_rfl, by kernel_rfl⟩, by kernel_rfl⟩
theorem bl_27 : BadL [112, 111, 114, 116, 32, 56, 48, 32, 99, 111, 110, 110, 101, 99, 116] 9 204 := ⟨fun m => ⟨by kernel_rfl, by kernel_rfl, by kernel_rfl, by kernel_rfl⟩, by kernel_rfl⟩
theorem bl_28 : BadL [112, 111, 114, 116, 32, 56, 48, 32, 114, 101, 97, 100] 9 204 := ⟨fun m => ⟨by kernel_rfl, by kernel_rfl, by kernel_rfl, by kernel_rfl⟩, by kernel_rfl⟩
theorem bl_29 : BadL [112, 111, 114, 116, 32, 120, 32, 98, 105, 110, 100] 6 203 := ⟨fun m => ⟨by kernel_rfl, by kernel_rfl, by kernel_rfl, by kernel_rfl⟩, by kernel_rfl⟩
theorem bl_30 : BadL [98, 101, 110, 101, 97, 116, 104, 32, 47, 97, 32, 114, 101, 97, 100, 32, 49] 17 203 := ⟨fun m => ⟨by kernel_rfl, by kernel_rfl, by kernel_rfl, by kernel_rfl⟩, by kernel_rfl⟩
theorem bl_31 : BadL [99, 97, 108, 108, 32, 111, 112, 101, 110, 32, 107, 105, 108, 108, 32, 105, 102, 32, 97, 114, 103, 48, 32, 61, 61, 32, 49, 32, 97, 110, 100, 32, 97, 114, 103, 48, 32, 61, 61, 32, 49, 32, 97, 110, 100, 32, 97, 114, 103, 48, 32, 61, 61, 32, 49, 32, 97, 110, 100, 32, 97, 114, 103, 48, 32, 61, 61, 32, 49, 32, 97, 110, 100, 32, 97, 114, 103, 48, 32, 61, 61, 32, 49, 32, 97, 110, 100, 32, 97, 114, 103, 48, 32, 61, 61, 32, 49, 32, 97, 110, 100, 32, 97, 114, 103, 48, 32, 61, 61, 32, 49] 99 205 := ⟨fun m => ⟨by kernel_rfl, by kernel_rfl, by kernel_rfl, by kernel_rfl⟩, by kernel_rfl⟩
theorem BadL.pol {b : List UInt8} {c e : Nat} (h : BadL b c e) (P : Pol) (hp : PolOk P) (hr : PolRn P) (h1 : P.hd = 16390) (h2 : P.paths = []) (h3 : P.ports = []) : polF (polT P ++ (b ++ tlB)) = (zPol, ((polL P).length + 1, c, e)) := by
 obtain ⟨g1, g2, g3, g4⟩ := h.all (polL P).length
 have hl := of_decide_eq_true h.len
 obtain ⟨nm, df, rs, hd, ps, qs⟩ := P
 dsimp only at h1 h2 h3
 subst h1 h2 h3
 have hne : (h2j (polL ⟨nm, df, rs, 16390, [], []⟩).length (h0v 10 (b ++ tlB)) []).1 ≠ [] := fun hx => by rw [hx] at g4; cases g4
 have h0 : (((polL ⟨nm, df, rs, 16390, [], []⟩).length + 1, c, e) : Wr) ≠ (0, 0, 0) := fun hx => by injection hx with hx; omega
 refine pol_rest _ hp hr (b ++ tlB) ?_ (U:=(h2j (polL ⟨nm, df, rs, 16390, [], []⟩).length (h0v 10 (b ++ tlB)) []).1) (Prod.ext rfl g1) g2 h0 (k:=1) (bad_line g3 h0 hne) ?_
 ·rw [List.length_append]
  have : tlB.length = 17 := rfl
  omega
 ·exact List.length_pos_iff.2 hne
def t2B : List UInt8 := [98, 101, 110, 101, 97, 116, 104, 32, 47, 97, 32, 114, 101, 97, 100, 10, 112, 111, 114, 116, 32, 56, 48, 32, 98, 105, 110, 100, 10, 98, 101, 110, 101, 97, 116, 104, 32, 47, 97, 32, 119, 114, 105, 116, 101, 10]
def t3B : List UInt8 := [112, 111, 114, 116, 32, 56, 48, 32, 98, 105, 110, 100, 10, 112, 111, 114, 116, 32, 56, 48, 32, 98, 105, 110, 100, 10]
theorem t2B_ok (m : Nat) (nm : List UInt8) (df : Int) (rs : List RulP) : (h2j m (h0v 10 t2B) []).2 = none ∧ (h2j m (h0v 10 t2B) []).1.map kn = (toks (grp (h2j m (h0v 10 t2B) []).1)).map kn ∧ (h1l 3 (⟨nm, df, rs, 16390, [], []⟩, ((h2j m (h0v 10 t2B) []).1, w0z))).2.2 = (m + 3, 9, 206) ∧ decide (3 ≤ (h2j m (h0v 10 t2B) []).1.length) = true := ⟨by kernel_rfl, by kernel_rfl, by kernel_rfl, by kernel_rfl⟩
theorem t2B_pol (P : Pol) (hp : PolOk P) (hr : PolRn P) (h1 : P.hd = 16390) (h2 : P.paths = []) (h3 : P.ports = []) : polF (polT P ++ t2B) = (zPol, ((polL P).length + 3, 9, 206)) := by
 obtain ⟨g1, g2, g3, g4⟩ := t2B_ok (polL P).length P.nm P.df P.rules
 obtain ⟨nm, df, rs, hd, ps, qs⟩ := P
 dsimp only at h1 h2 h3
 subst h1 h2 h3
 have h0 : (((polL ⟨nm, df, rs, 16390, [], []⟩).length + 3, 9, 206) : Wr) ≠ (0, 0, 0) := fun hx => by injection hx with hx; omega
 exact pol_rest _ hp hr t2B (by decide) (U:=(h2j (polL ⟨nm, df, rs, 16390, [], []⟩).length (h0v 10 t2B) []).1) (Prod.ext rfl g1) g2 h0 (k:=3) g3 (of_decide_eq_true g4)
theorem t3B_ok (m : Nat) (nm : List UInt8) (df : Int) (rs : List RulP) : (h2j m (h0v 10 t3B) []).2 = none ∧ (h2j m (h0v 10 t3B) []).1.map kn = (toks (grp (h2j m (h0v 10 t3B) []).1)).map kn ∧ (h1l 2 (⟨nm, df, rs, 16390, [], []⟩, ((h2j m (h0v 10 t3B) []).1, w0z))).2.2 = (m + 2, 6, 206) ∧ decide (2 ≤ (h2j m (h0v 10 t3B) []).1.length) = true := ⟨by kernel_rfl, by kernel_rfl, by kernel_rfl, by kernel_rfl⟩
theorem t3B_pol (P : Pol) (hp : PolOk P) (hr : PolRn P) (h1 : P.hd = 16390) (h2 : P.paths = []) (h3 : P.ports = []) : polF (polT P ++ t3B) = (zPol, ((polL P).length + 2, 6, 206)) := by
 obtain ⟨g1, g2, g3, g4⟩ := t3B_ok (polL P).length P.nm P.df P.rules
 obtain ⟨nm, df, rs, hd, ps, qs⟩ := P
 dsimp only at h1 h2 h3
 subst h1 h2 h3
 have h0 : (((polL ⟨nm, df, rs, 16390, [], []⟩).length + 2, 6, 206) : Wr) ≠ (0, 0, 0) := fun hx => by injection hx with hx; omega
 exact pol_rest _ hp hr t3B (by decide) (U:=(h2j (polL ⟨nm, df, rs, 16390, [], []⟩).length (h0v 10 t3B) []).1) (Prod.ext rfl g1) g2 h0 (k:=2) g3 (of_decide_eq_true g4)
abbrev BlC : List Value := .string ⟨#[102, 111, 111]⟩ :: .int .i64 1 :: .int .i64 202 :: .string ⟨#[55]⟩ :: .int .i64 1 :: .int .i64 203 :: .string ⟨#[99, 97, 108, 108]⟩ :: .int .i64 5 :: .int .i64 203 :: .string ⟨#[99, 97, 108, 108, 32, 110, 111, 99, 97, 108, 108, 32, 97, 108, 108, 111, 119]⟩ :: .int .i64 6 :: .int .i64 38 :: .string ⟨#[99, 97, 108, 108, 32, 111, 112, 101, 110, 44, 114, 101, 97, 100, 32, 97, 108, 108, 111, 119]⟩ :: .int .i64 6 :: .int .i64 203 :: .string ⟨#[99, 97, 108, 108, 32, 111, 112, 101, 110]⟩ :: .int .i64 10 :: .int .i64 203 :: .string ⟨#[99, 97, 108, 108, 32, 111, 112, 101, 110, 32, 108, 101, 116]⟩ :: .int .i64 11 :: .int .i64 202 :: .string ⟨#[99, 97, 108, 108, 32, 111, 112, 101, 110, 32, 101, 114, 114, 110, 111]⟩ :: .int .i64 16 :: .int .i64 203 :: .string ⟨#[99, 97, 108, 108, 32, 111, 112, 101, 110, 32, 101, 114, 114, 110, 111, 32, 48]⟩ :: .int .i64 17 :: .int .i64 204 :: .string ⟨#[99, 97, 108, 108, 32, 111, 112, 101, 110, 32, 101, 114, 114, 110, 111, 32, 52, 48, 57, 54]⟩ :: .int .i64 17 :: .int .i64 204 :: .string ⟨#[99, 97, 108, 108, 32, 111, 112, 101, 110, 32, 107, 105, 108, 108, 32, 55]⟩ :: .int .i64 16 :: .int .i64 203 :: .string ⟨#[99, 97, 108, 108, 32, 111, 112, 101, 110, 32, 107, 105, 108, 108, 32, 97, 110, 100, 32, 97, 114, 103, 48, 32, 61, 61, 32, 49]⟩ :: .int .i64 16 :: .int .i64 203 :: .string ⟨#[99, 97, 108, 108, 32, 111, 112, 101, 110, 32, 107, 105, 108, 108, 32, 105, 102, 32, 97, 114, 103, 54, 32, 61, 61, 32, 49]⟩ :: .int .i64 19 :: .int .i64 202 :: .string ⟨#[99, 97, 108, 108, 32, 111, 112, 101, 110, 32, 107, 105, 108, 108, 32, 105, 102, 32, 97, 114, 103, 48, 32, 49]⟩ :: .int .i64 24 :: .int .i64 203 :: .string ⟨#[99, 97, 108, 108, 32, 111, 112, 101, 110, 32, 107, 105, 108, 108, 32, 105, 102, 32, 97, 114, 103, 48, 32, 61, 61]⟩ :: .int .i64 26 :: .int .i64 203 :: .string ⟨#[99, 97, 108, 108, 32, 111, 112, 101, 110, 32, 107, 105, 108, 108, 32, 105, 102, 32, 97, 114, 103, 48, 32, 38, 32, 48, 32, 61, 61, 32, 48]⟩ :: .int .i64 31 :: .int .i64 204 :: .string ⟨#[99, 97, 108, 108, 32, 111, 112, 101, 110, 32, 107, 105, 108, 108, 32, 105, 102, 32, 97, 114, 103, 48, 32, 38, 32, 50, 32, 61, 61, 32, 49]⟩ :: .int .i64 31 :: .int .i64 204 :: .string ⟨#[99, 97, 108, 108, 32, 111, 112, 101, 110, 32, 107, 105, 108, 108, 32, 105, 102, 32, 97, 114, 103, 48, 32, 38, 32, 50, 32, 33, 61, 32, 49]⟩ :: .int .i64 28 :: .int .i64 203 :: .string ⟨#[99, 97, 108, 108, 32, 111, 112, 101, 110, 32, 107, 105, 108, 108, 32, 105, 102, 32, 97, 114, 103, 48, 32, 61, 61, 32, 49, 32, 105, 102, 32, 97, 114, 103, 49, 32, 61, 61, 32, 49]⟩ :: .int .i64 29 :: .int .i64 203 :: .string ⟨#[104, 97, 110, 100, 108, 101, 32, 114, 101, 97, 100]⟩ :: .int .i64 1 :: .int .i64 206 :: .string ⟨#[98, 101, 110, 101, 97, 116, 104, 32, 97, 32, 114, 101, 97, 100]⟩ :: .int .i64 9 :: .int .i64 203 :: .string ⟨#[98, 101, 110, 101, 97, 116, 104, 32, 47, 97, 47, 47, 98, 32, 114, 101, 97, 100]⟩ :: .int .i64 9 :: .int .i64 203 :: .string ⟨#[98, 101, 110, 101, 97, 116, 104, 32, 47, 97, 32, 101, 120, 101, 99]⟩ :: .int .i64 12 :: .int .i64 204 :: .string ⟨#[98, 101, 110, 101, 97, 116, 104, 32, 47, 97, 32, 114, 101, 101, 100]⟩ :: .int .i64 12 :: .int .i64 202 :: .string ⟨#[98, 101, 110, 101, 97, 116, 104, 32, 47, 97, 32, 114, 101, 97, 100, 44, 114, 101, 97, 100]⟩ :: .int .i64 12 :: .int .i64 206 :: .string ⟨#[98, 101, 110, 101, 97, 116, 104, 32, 47, 97, 32, 98, 105, 110, 100]⟩ :: .int .i64 12 :: .int .i64 204 :: .string ⟨#[112, 111, 114, 116, 32, 54, 53, 53, 51, 54, 32, 98, 105, 110, 100]⟩ :: .int .i64 6 :: .int .i64 204 :: .string ⟨#[112, 111, 114, 116, 32, 56, 48, 32, 99, 111, 110, 110, 101, 99, 116]⟩ :: .int .i64 9 :: .int .i64 204 :: .string ⟨#[112, 111, 114, 116, 32, 56, 48, 32, 114, 101, 97, 100]⟩ :: .int .i64 9 :: .int .i64 204 :: .string ⟨#[112, 111, 114, 116, 32, 120, 32, 98, 105, 110, 100]⟩ :: .int .i64 6 :: .int .i64 203 :: .string ⟨#[98, 101, 110, 101, 97, 116, 104, 32, 47, 97, 32, 114, 101, 97, 100, 32, 49]⟩ :: .int .i64 17 :: .int .i64 203 :: .string ⟨#[99, 97, 108, 108, 32, 111, 112, 101, 110, 32, 107, 105, 108, 108, 32, 105, 102, 32, 97, 114, 103, 48, 32, 61, 61, 32, 49, 32, 97, 110, 100, 32, 97, 114, 103, 48, 32, 61, 61, 32, 49, 32, 97, 110, 100, 32, 97, 114, 103, 48, 32, 61, 61, 32, 49, 32, 97, 110, 100, 32, 97, 114, 103, 48, 32, 61, 61, 32, 49, 32, 97, 110, 100, 32, 97, 114, 103, 48, 32, 61, 61, 32, 49, 32, 97, 110, 100, 32, 97, 114, 103, 48, 32, 61, 61, 32, 49, 32, 97, 110, 100, 32, 97, 114, 103, 48, 32, 61, 61, 32, 49]⟩ :: .int .i64 99 :: .int .i64 205 :: []
def BlW (i : Nat) : Prop := ∃ (t : ByteArray) (c e : Nat), (BlC.drop (i * 3)).take 3 = [.string t, .int .i64 (c : Nat), .int .i64 (e : Nat)] ∧ t.size ≤ 1000 ∧ BadL (lB t) c e
theorem bw_0 : BlW 0 := ⟨⟨#[102, 111, 111]⟩, 1, 202, rfl, by decide, bl_0⟩
theorem bw_1 : BlW 1 := ⟨⟨#[55]⟩, 1, 203, rfl, by decide, bl_1⟩
theorem bw_2 : BlW 2 := ⟨⟨#[99, 97, 108, 108]⟩, 5, 203, rfl, by decide, bl_2⟩
theorem bw_3 : BlW 3 := ⟨⟨#[99, 97, 108, 108, 32, 110, 111, 99, 97, 108, 108, 32, 97, 108, 108, 111, 119]⟩, 6, 38, rfl, by decide, bl_3⟩
theorem bw_4 : BlW 4 := ⟨⟨#[99, 97, 108, 108, 32, 111, 112, 101, 110, 44, 114, 101, 97, 100, 32, 97, 108, 108, 111, 119]⟩, 6, 203, rfl, by decide, bl_4⟩
theorem bw_5 : BlW 5 := ⟨⟨#[99, 97, 108, 108, 32, 111, 112, 101, 110]⟩, 10, 203, rfl, by decide, bl_5⟩
theorem bw_6 : BlW 6 := ⟨⟨#[99, 97, 108, 108, 32, 111, 112, 101, 110, 32, 108, 101, 116]⟩, 11, 202, rfl, by decide, bl_6⟩
theorem bw_7 : BlW 7 := ⟨⟨#[99, 97, 108, 108, 32, 111, 112, 101, 110, 32, 101, 114, 114, 110, 111]⟩, 16, 203, rfl, by decide, bl_7⟩
theorem bw_8 : BlW 8 := ⟨⟨#[99, 97, 108, 108, 32, 111, 112, 101, 110, 32, 101, 114, 114, 110, 111, 32, 48]⟩, 17, 204, rfl, by decide, bl_8⟩
theorem bw_9 : BlW 9 := ⟨⟨#[99, 97, 108, 108, 32, 111, 112, 101, 110, 32, 101, 114, 114, 110, 111, 32, 52, 48, 57, 54]⟩, 17, 204, rfl, by decide, bl_9⟩
theorem bw_10 : BlW 10 := ⟨⟨#[99, 97, 108, 108, 32, 111, 112, 101, 110, 32, 107, 105, 108, 108, 32, 55]⟩, 16, 203, rfl, by decide, bl_10⟩
theorem bw_11 : BlW 11 := ⟨⟨#[99, 97, 108, 108, 32, 111, 112, 101, 110, 32, 107, 105, 108, 108, 32, 97, 110, 100, 32, 97, 114, 103, 48, 32, 61, 61, 32, 49]⟩, 16, 203, rfl, by decide, bl_11⟩
theorem bw_12 : BlW 12 := ⟨⟨#[99, 97, 108, 108, 32, 111, 112, 101, 110, 32, 107, 105, 108, 108, 32, 105, 102, 32, 97, 114, 103, 54, 32, 61, 61, 32, 49]⟩, 19, 202, rfl, by decide, bl_12⟩
theorem bw_13 : BlW 13 := ⟨⟨#[99, 97, 108, 108, 32, 111, 112, 101, 110, 32, 107, 105, 108, 108, 32, 105, 102, 32, 97, 114, 103, 48, 32, 49]⟩, 24, 203, rfl, by decide, bl_13⟩
theorem bw_14 : BlW 14 := ⟨⟨#[99, 97, 108, 108, 32, 111, 112, 101, 110, 32, 107, 105, 108, 108, 32, 105, 102, 32, 97, 114, 103, 48, 32, 61, 61]⟩, 26, 203, rfl, by decide, bl_14⟩
theorem bw_15 : BlW 15 := ⟨⟨#[99, 97, 108, 108, 32, 111, 112, 101, 110, 32, 107, 105, 108, 108, 32, 105, 102, 32, 97, 114, 103, 48, 32, 38, 32, 48, 32, 61, 61, 32, 48]⟩, 31, 204, rfl, by decide, bl_15⟩
theorem bw_16 : BlW 16 := ⟨⟨#[99, 97, 108, 108, 32, 111, 112, 101, 110, 32, 107, 105, 108, 108, 32, 105, 102, 32, 97, 114, 103, 48, 32, 38, 32, 50, 32, 61, 61, 32, 49]⟩, 31, 204, rfl, by decide, bl_16⟩
theorem bw_17 : BlW 17 := ⟨⟨#[99, 97, 108, 108, 32, 111, 112, 101, 110, 32, 107, 105, 108, 108, 32, 105, 102, 32, 97, 114, 103, 48, 32, 38, 32, 50, 32, 33, 61, 32, 49]⟩, 28, 203, rfl, by decide, bl_17⟩
theorem bw_18 : BlW 18 := ⟨⟨#[99, 97, 108, 108, 32, 111, 112, 101, 110, 32, 107, 105, 108, 108, 32, 105, 102, 32, 97, 114, 103, 48, 32, 61, 61, 32, 49, 32, 105, 102, 32, 97, 114, 103, 49, 32, 61, 61, 32, 49]⟩, 29, 203, rfl, by decide, bl_18⟩
theorem bw_19 : BlW 19 := ⟨⟨#[104, 97, 110, 100, 108, 101, 32, 114, 101, 97, 100]⟩, 1, 206, rfl, by decide, bl_19⟩
theorem bw_20 : BlW 20 := ⟨⟨#[98, 101, 110, 101, 97, 116, 104, 32, 97, 32, 114, 101, 97, 100]⟩, 9, 203, rfl, by decide, bl_20⟩
theorem bw_21 : BlW 21 := ⟨⟨#[98, 101, 110, 101, 97, 116, 104, 32, 47, 97, 47, 47, 98, 32, 114, 101, 97, 100]⟩, 9, 203, rfl, by decide, bl_21⟩
theorem bw_22 : BlW 22 := ⟨⟨#[98, 101, 110, 101, 97, 116, 104, 32, 47, 97, 32, 101, 120, 101, 99]⟩, 12, 204, rfl, by decide, bl_22⟩
theorem bw_23 : BlW 23 := ⟨⟨#[98, 101, 110, 101, 97, 116, 104, 32, 47, 97, 32, 114, 101, 101, 100]⟩, 12, 202, rfl, by decide, bl_23⟩
theorem bw_24 : BlW 24 := ⟨⟨#[98, 101, 110, 101, 97, 116, 104, 32, 47, 97, 32, 114, 101, 97, 100, 44, 114, 101, 97, 100]⟩, 12, 206, rfl, by decide, bl_24⟩
theorem bw_25 : BlW 25 := ⟨⟨#[98, 101, 110, 101, 97, 116, 104, 32, 47, 97, 32, 98, 105, 110, 100]⟩, 12, 204, rfl, by decide, bl_25⟩
theorem bw_26 : BlW 26 := ⟨⟨#[112, 111, 114, 116, 32, 54, 53, 53, 51, 54, 32, 98, 105, 110, 100]⟩, 6, 204, rfl, by decide, bl_26⟩
theorem bw_27 : BlW 27 := ⟨⟨#[112, 111, 114, 116, 32, 56, 48, 32, 99, 111, 110, 110, 101, 99, 116]⟩, 9, 204, rfl, by decide, bl_27⟩
theorem bw_28 : BlW 28 := ⟨⟨#[112, 111, 114, 116, 32, 56, 48, 32, 114, 101, 97, 100]⟩, 9, 204, rfl, by decide, bl_28⟩
theorem bw_29 : BlW 29 := ⟨⟨#[112, 111, 114, 116, 32, 120, 32, 98, 105, 110, 100]⟩, 6, 203, rfl, by decide, bl_29⟩
theorem bw_30 : BlW 30 := ⟨⟨#[98, 101, 110, 101, 97, 116, 104, 32, 47, 97, 32, 114, 101, 97, 100, 32, 49]⟩, 17, 203, rfl, by decide, bl_30⟩
theorem bw_31 : BlW 31 := ⟨⟨#[99, 97, 108, 108, 32, 111, 112, 101, 110, 32, 107, 105, 108, 108, 32, 105, 102, 32, 97, 114, 103, 48, 32, 61, 61, 32, 49, 32, 97, 110, 100, 32, 97, 114, 103, 48, 32, 61, 61, 32, 49, 32, 97, 110, 100, 32, 97, 114, 103, 48, 32, 61, 61, 32, 49, 32, 97, 110, 100, 32, 97, 114, 103, 48, 32, 61, 61, 32, 49, 32, 97, 110, 100, 32, 97, 114, 103, 48, 32, 61, 61, 32, 49, 32, 97, 110, 100, 32, 97, 114, 103, 48, 32, 61, 61, 32, 49, 32, 97, 110, 100, 32, 97, 114, 103, 48, 32, 61, 61, 32, 49]⟩, 99, 205, rfl, by decide, bl_31⟩
theorem bl_all (i : Nat) (h : i < 32) : BlW i := by
 obtain rfl | rfl | rfl | rfl | rfl | rfl | rfl | rfl | rfl | rfl | rfl | rfl | rfl | rfl | rfl | rfl | rfl | rfl | rfl | rfl | rfl | rfl | rfl | rfl | rfl | rfl | rfl | rfl | rfl | rfl | rfl | rfl : i = 0 ∨ i = 1 ∨ i = 2 ∨ i = 3 ∨ i = 4 ∨ i = 5 ∨ i = 6 ∨ i = 7 ∨ i = 8 ∨ i = 9 ∨ i = 10 ∨ i = 11 ∨ i = 12 ∨ i = 13 ∨ i = 14 ∨ i = 15 ∨ i = 16 ∨ i = 17 ∨ i = 18 ∨ i = 19 ∨ i = 20 ∨ i = 21 ∨ i = 22 ∨ i = 23 ∨ i = 24 ∨ i = 25 ∨ i = 26 ∨ i = 27 ∨ i = 28 ∨ i = 29 ∨ i = 30 ∨ i = 31 := by omega
 ·exact bw_0
 ·exact bw_1
 ·exact bw_2
 ·exact bw_3
 ·exact bw_4
 ·exact bw_5
 ·exact bw_6
 ·exact bw_7
 ·exact bw_8
 ·exact bw_9
 ·exact bw_10
 ·exact bw_11
 ·exact bw_12
 ·exact bw_13
 ·exact bw_14
 ·exact bw_15
 ·exact bw_16
 ·exact bw_17
 ·exact bw_18
 ·exact bw_19
 ·exact bw_20
 ·exact bw_21
 ·exact bw_22
 ·exact bw_23
 ·exact bw_24
 ·exact bw_25
 ·exact bw_26
 ·exact bw_27
 ·exact bw_28
 ·exact bw_29
 ·exact bw_30
 ·exact bw_31
end Go.Proofs.YtecbgehooembmaaGreatDoor
