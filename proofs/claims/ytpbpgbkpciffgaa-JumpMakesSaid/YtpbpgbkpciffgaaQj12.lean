/- The law JumpMakes returns true at every input and leaves its arguments as they were. No condition. -/
import Derived.Test.YtpbpgbkpciffgaaQj11
set_option maxRecDepth 100000
namespace Go.Proofs.Ytpbpgbkpciffgaa
open Go Go.RowKit
theorem hereB_c {S w0 L} (b : Nat) (n : Int) (l : List Prt) (hle : l.length ≤ 1000) (v : Value) (e : List Blk) (ho : Own 88 7 v l.length (h3z l) e) (to : Int) :
  Fn Try.prog 41 #[.pointer (some ⟨b, 0, none⟩), .int .i64 to] S w0 (buB b v n :: (e ++ L)) fun r L' => r = h5a [] ∧ ∃ v' e', Own 88 7 v' (l ++ [(⟨1, to, 0, ⟨0, 0, 0, 0⟩⟩ : Prt)]).length (h3z (l ++ [(⟨1, to, 0, ⟨0, 0, 0, 0⟩⟩ : Prt)])) e' ∧ buB b v' n :: (e' ++ L) = L' := by
 have hp := putP_c (S:=S) (w0:=w0) (L:=L) b n l hle v e ho ⟨1, to, 0, ⟨0, 0, 0, 0⟩⟩
 simp only [Prt.v] at hp
 refine Fn2 Try.func41 Try.ntmps41 rfl rfl ?_
 repeat' (refine gR 0 (p_m (h:=q_m ?_)) <;> (try refine q_e (by exact h1s (t:=88) (fun vs => (match vs with | [(_, x0), (_, x1)] => [x0, x1, Value.int .i64 0, Value.int .u16 0, Value.int .u8 0, Value.int .u8 0, Value.int .u32 0] | _ => [])) rfl (fun w => by kernel_rfl)) ?_; (try simp only [Value.cells]); (try simp only [zzC, zzN])) <;> (try refine h0a ?_; (refine h1i (F:=58) (by kernel_rfl) rfl rfl hp ?_; rintro _ _ ⟨rfl, v', e', ho', rfl⟩)) <;> (try refine h0b ?_))
 (first | refine h2k Try.results41 .nil ?_ | refine h6k Try.results41 .nil ?_)
 exact ⟨_, ⟨rfl, v', e', ho', rfl⟩, fun _ H => H⟩
theorem gotoB_c {S w0 L} (b : Nat) (n : Int) (l : List Prt) (hle : l.length ≤ 1000) (v : Value) (e : List Blk) (ho : Own 88 7 v l.length (h3z l) e) (to : Int) :
  Fn Try.prog 40 #[.pointer (some ⟨b, 0, none⟩), .int .i64 to] S w0 (buB b v n :: (e ++ L)) fun r L' => r = h5a [] ∧ ∃ v' e', Own 88 7 v' (l ++ [(⟨4, to, 0, ⟨0, 0, 0, 0⟩⟩ : Prt)]).length (h3z (l ++ [(⟨4, to, 0, ⟨0, 0, 0, 0⟩⟩ : Prt)])) e' ∧ buB b v' n :: (e' ++ L) = L' := by
 have hp := putP_c (S:=S) (w0:=w0) (L:=L) b n l hle v e ho ⟨4, to, 0, ⟨0, 0, 0, 0⟩⟩
 simp only [Prt.v] at hp
 refine Fn2 Try.func40 Try.ntmps40 rfl rfl ?_
 repeat' (refine gR 0 (p_m (h:=q_m ?_)) <;> (try refine q_e (by exact h1s (t:=88) (fun vs => (match vs with | [(_, x0), (_, x1)] => [x0, x1, Value.int .i64 0, Value.int .u16 0, Value.int .u8 0, Value.int .u8 0, Value.int .u32 0] | _ => [])) rfl (fun w => by kernel_rfl)) ?_; (try simp only [Value.cells]); (try simp only [zzC, zzN])) <;> (try refine h0a ?_; (refine h1i (F:=58) (by kernel_rfl) rfl rfl hp ?_; rintro _ _ ⟨rfl, v', e', ho', rfl⟩)) <;> (try refine h0b ?_))
 (first | refine h2k Try.results40 .nil ?_ | refine h6k Try.results40 .nil ?_)
 exact ⟨_, ⟨rfl, v', e', ho', rfl⟩, fun _ H => H⟩
theorem flatP_cell (l : List Prt) : (h3z l).all (·.oneCell') = true := by
 induction l with
 | nil => rfl
 | cons i l ih =>
  simp only [h3z, List.flatMap_cons, List.all_append] at ih ⊢
  rw [ih, Bool.and_true]
  rfl
theorem own_sla {E size : Nat} {v : Value} {n : Nat} {xs : List Value} {e : List Blk} (h : Own E size v n xs e) : ∃ a cap, v = .slice a n cap ∧ n ≤ cap ∧ ∀ L, Sli (e ++ L) a n size xs := by
 obtain ⟨a, cap, h1, h2, _⟩ := own_slc h []
 refine ⟨a, cap, h1, h2, fun L => ?_⟩
 obtain ⟨a', cap', h1', _, h3⟩ := own_slc h L
 rw [h1] at h1'; cases h1'
 exact h3
theorem partsB_c {S w0 L} {i j : Nat} (b g cap : Nat) (n : Int) (l : List Prt) (hle : l.length ≤ 1000) (cur : Array Value) (hsz : cur.size = cap * 7) (hcap : l.length ≤ cap) (htk : cur.toList.take (l.length * 7) = h3z l)
  (hi : L[i]? = some (buB b (.slice (some ⟨g, 0, none⟩) l.length cap) n)) (hj : L[j]? = some ⟨true, g, .cells cur 88 (0, 0)⟩) :
  Fn Try.prog 42 #[.pointer (some ⟨b, 0, none⟩)] S w0 L fun r L' => ∃ e, Own 88 7 r l.length (h3z l) e ∧ e ++ L = L' := by
 have hone := flatP_cell l
 have htk2 : (cur.toList.drop 0).take (l.length * 7) = h3z l := by rw [List.drop_zero]; exact htk
 have hsz2 : 0 + l.length * 7 ≤ cur.size := by omega
 generalize hfl : h3z l = fl at *
 clear hfl
 refine Fn1 Try.func42 Try.ntmps42 rfl rfl ?_
 repeat' (first | refine h1k ?_ | refine h0k ?_ | refine h1j ?_ | refine h2v ?_ | refine h0n rfl ?_ | (refine gR 0 (p_a (h:=h0b ?_))) | (refine gR 1 (p_m (h:=p_e (q_b (r:=by exact rb_peq_sn Try.underlying158)) (h:=h0b ?_)))) | (refine gR 3 ?_ <;> (try refine h0a ?_; (refine h0r (t:=82) (m:=0) (e:=88) (fun vs => (match vs with | [] => [] | _ => [])) rfl rfl (fun w => by kernel_rfl) ?_; intro nb hnb; (try simp only [Value.cells]); (try simp only [zzC, zzN]))) <;> (try refine p_m (h:=p_n (h:=p_e (q_f fo_127_0) (h:=q_e (by apply h0l (t:=82); exact rfl; exact c_22; kernel_rfl; kernel_rfl; exact rfl) ?_)))) <;> (try refine h0a ?_; (apply h3o; exact rfl; exact Try.underlying82; exact h3v; exact h3t; exact h3u; exact h3w; exact rfl; exact rfl; exact rfl; exact fd0; exact Nat.le_of_ble_eq_true rfl; exact Nat.le_of_ble_eq_true rfl; exact rfl; exact c_22; (with_reducible assumption); (with_reducible assumption); (with_reducible assumption); exact h6j; omega; exact rfl; exact c_19; exact c_8; (try simp only [zzE, zzF]); intro vA eA hownA)) <;> (try refine p_a (h:=h0b ?_))))
 (refine h2k Try.results42 (.tmp rfl .nil) ?_)
 exact ⟨_, ⟨eA, hownA, rfl⟩, fun _ H => H⟩
theorem awake_mk : make [⟨2, 0, 0, ⟨6, 0, 0, 7⟩⟩] = (0, [⟨6, 0, 0, 7⟩]) := rfl
theorem awake_td : tidy [⟨4, 1, 0, ⟨0, 0, 0, 0⟩⟩, ⟨1, 1, 0, ⟨0, 0, 0, 0⟩⟩] = [] := by
 have h1 : once [⟨4, 1, 0, ⟨0, 0, 0, 0⟩⟩, ⟨1, 1, 0, ⟨0, 0, 0, 0⟩⟩] = [⟨1, 1, 0, ⟨0, 0, 0, 0⟩⟩] := rfl
 have h2 : once [⟨1, 1, 0, ⟨0, 0, 0, 0⟩⟩] = [] := rfl
 have h3 : once [] = [] := rfl
 rw [tidy.eq_1, h1, if_neg (by decide), tidy.eq_1, h2, if_neg (by decide), tidy.eq_1, h3, if_pos rfl]
set_option maxHeartbeats 1000000 in
theorem awake13_c {S w0 L} : Fn Try.prog 22 #[] S w0 L fun r L' => r = .bool true ∧ L = L' := by
 have hmk := fun (L : List Blk) (nb : Nat) => make_c (S:=S) (w0:=w0) (L:=⟨true, nb, .cells (h3z [⟨2, 0, 0, ⟨6, 0, 0, 7⟩⟩]).toArray 88 (0, 0)⟩ :: L) [⟨2, 0, 0, ⟨6, 0, 0, 7⟩⟩] (by intro p hp; simp at hp; subst hp; exact ⟨by decide, by decide, by decide, ⟨by decide, by decide, by decide, by decide⟩⟩) (by decide) (some ⟨nb, 0, none⟩) 1 (Sli.of (i:=0) rfl (by simp [flatP_len]) (by rw [List.drop_zero, List.take_of_length_le (by simp [flatP_len])]))
 rw [awake_mk] at hmk
 simp only [h3z, List.flatMap_cons, List.flatMap_nil, Prt.cells, List.cons_append, List.nil_append, List.length_cons, List.length_nil, Nat.zero_add] at hmk
 have hret := fun (L : List Blk) (k : Int) => return_c (S:=S) (w0:=w0) (L:=L) k
 simp only [Ins.v] at hret
 have hnew := fun (L : List Blk) (b : Nat) (lv : Value) => newB_c (S:=S) (w0:=w0) (L:=L) b lv 0 (by omega)
 have hgo := fun (L : List Blk) (b : Nat) => gotoB_c (S:=S) (w0:=w0) (L:=L) b 1 [] (by simp) (.slice none 0 0) [] (Own.nil _ _) 1
 refine Fn0 Try.func22 Try.ntmps22 rfl ?_
 repeat' (first | (refine h4s (id:=4) ?_) | refine h1k ?_ | refine h0k ?_ | (refine gR 0 (p_a (h:=h0b ?_))) | (refine gR 1 ?_ <;> (try refine h0a ?_; (refine h0u (t:=127) rfl Try.zeroValue127 ?_; intro nb hnb; (try simp only [Value.cells]))) <;> (try refine h0b ?_)) | (refine gR 2 ?_ <;> (try refine h0a ?_; (refine h1i (F:=39) (by kernel_rfl) rfl rfl (hnew _ _ _) ?_; rintro _ _ ⟨rfl, rfl⟩)) <;> (try refine p_a (h:=h0b ?_))) | (refine gR 3 (q_m ?_) <;> (try refine h0a ?_; (refine h1i (F:=40) (by kernel_rfl) rfl rfl (hgo _ _) ?_; rintro _ _ ⟨rfl, v1, e1, ho1, rfl⟩)) <;> (try refine h0b ?_)))
 refine ⟨?_⟩
 have hhe := fun (L : List Blk) (b : Nat) => hereB_c (S:=S) (w0:=w0) (L:=L) b 1 _ (by simp) _ _ ho1 1
 repeat' (first | (refine h4s (id:=5) ?_) | refine h1k ?_ | refine h0k ?_ | (refine gR 4 (q_m ?_) <;> (try refine h0a ?_; (refine h1i (F:=41) (by kernel_rfl) rfl rfl (hhe _ _) ?_; rintro _ _ ⟨rfl, v2, e2, ho2, rfl⟩)) <;> (try refine h0b ?_)))
 refine ⟨?_⟩
 rcases h5k ho2 with ⟨_, h0, _, _⟩ | ⟨g, capg, cur, rfl, rfl, q1, q2, q3, q4⟩
 ·simp at h0
 (try simp only [zzC, zzN])
 have hpa := fun (L : List Blk) (b i j : Nat) (h1 : L[i]? = some (buB b (.slice (some ⟨g, 0, none⟩) 2 capg) 1)) (h2 : L[j]? = some ⟨true, g, .cells cur 88 (0, 0)⟩) => partsB_c (S:=S) (w0:=w0) b g capg 1 [⟨4, 1, 0, ⟨0, 0, 0, 0⟩⟩, ⟨1, 1, 0, ⟨0, 0, 0, 0⟩⟩] (by simp) cur q3 q1 q4 h1 h2
 simp only [List.length_cons, List.length_nil, Nat.zero_add, Nat.reduceAdd] at hpa
 have htd := fun (L : List Blk) (a : Option Addr) (cap : Nat) (h : Sli L a 2 7 (h3z [⟨4, 1, 0, ⟨0, 0, 0, 0⟩⟩, ⟨1, 1, 0, ⟨0, 0, 0, 0⟩⟩])) => tidy_c (S:=S) (w0:=w0) (L:=L) [⟨4, 1, 0, ⟨0, 0, 0, 0⟩⟩, ⟨1, 1, 0, ⟨0, 0, 0, 0⟩⟩] (by intro p hp; simp at hp; rcases hp with rfl | rfl <;> exact ⟨by decide, by decide, by decide, ⟨by decide, by decide, by decide, by decide⟩⟩) (by decide) a cap h
 rw [awake_td] at htd
 simp only [List.length_cons, List.length_nil, Nat.zero_add, Nat.reduceAdd] at htd
 (try simp only [List.length_cons, List.length_nil, Nat.zero_add, Nat.reduceAdd])
 repeat' (first | refine h1k ?_ | refine h0k ?_ | refine h2v ?_ | (refine gR 5 ?_ <;> (try refine h0a ?_; (refine h1i (F:=11) (by kernel_rfl) rfl rfl (hret _ _) ?_; rintro _ _ ⟨rfl, rfl⟩)) <;> (try refine q_e (by exact h1s (t:=88) (fun vs => (match vs with | [(_, x0), (_, x1)] => [x0, Value.int .i64 0, Value.int .i64 0] ++ x1.cells.toList | _ => [])) rfl (fun w => by kernel_rfl)) ?_; (try simp only [Value.cells]); (try simp only [zzC, zzN])) <;> (try refine h0a ?_; (refine h0r (t:=82) (m:=1) (e:=88) (fun vs => (match vs with | [(_, x0)] => x0.cells.toList | _ => [])) rfl rfl (fun w => by kernel_rfl) ?_; intro nb hnb; (try simp only [Value.cells]); (try simp only [zzC, zzN]))) <;> (try refine h0a ?_; (refine h1i (F:=24) (by kernel_rfl) rfl rfl (hmk _ _) ?_; rintro _ _ ⟨vm, em, rfl, hom, rfl⟩; obtain ⟨am, cm, rfl, hcm, hsm⟩ := own_sla hom)) <;> (try refine p_m (h:=p_x (h:=p_x (h:=p_a (h:=p_a (h:=h0b ?_))))))) | (refine gR 6 (q_m ?_) <;> (try refine q_e (by exact q_b (r:=by refine h0g ?_; first | rfl | (with_reducible assumption) | (decide; done) | omega)) ?_) <;> (try refine q_m ?_) <;> (try refine h0a ?_; (refine h2i rfl rfl rfl ?_; (refine q_c 42 (c:=by apply hpa; (focus (repeat (first | exact fd0 | apply fdA | apply fdS))); (focus (repeat (first | exact fd0 | apply fdA | apply fdS)))) (h:=?_); rintro _ _ ⟨e3, ho3, rfl⟩; obtain ⟨a3, c3, rfl, hc3, hs3⟩ := own_sla ho3))) <;> (try refine q_y (by apply h0m; exact rfl; exact (fun _ => BigFrame.builtin_len ..); apply h0i Try.underlying82; exact h4a) ?_) <;> (try refine q_y (by exact q_b (r:=by refine h0g ?_; first | rfl | (with_reducible assumption) | (decide; done) | omega)) ?_) <;> (try refine p_p (h:=q_m ?_)) <;> (try refine h0a ?_; (refine h2i rfl rfl rfl ?_; (refine q_c 42 (c:=by apply hpa; (focus (repeat (first | exact fd0 | apply fdA | apply fdS))); (focus (repeat (first | exact fd0 | apply fdA | apply fdS)))) (h:=?_); rintro _ _ ⟨e3, ho3, rfl⟩; obtain ⟨a3, c3, rfl, hc3, hs3⟩ := own_sla ho3))) <;> (try refine h0a ?_; (refine h2i rfl rfl rfl ?_; (refine h1i (F:=28) (by kernel_rfl) rfl rfl (htd _ _ _ (hs3 _)) ?_; rintro _ _ ⟨e4, ho4, rfl⟩; obtain ⟨a4, c4, rfl, hc4, hs4⟩ := own_sla ho4))) <;> (try refine q_y (by apply h0m; exact rfl; exact (fun _ => BigFrame.builtin_len ..); apply h0i Try.underlying82; exact h4a) ?_) <;> (try refine q_y (by exact q_b (r:=by refine h0g ?_; first | rfl | (with_reducible assumption) | (decide; done) | omega)) ?_) <;> (try refine p_p (h:=p_m (h:=q_y (h0c rfl) ?_))) <;> (try refine q_y (by exact q_b (r:=by refine h0g ?_; first | rfl | (with_reducible assumption) | (decide; done) | omega)) ?_) <;> (try refine p_p (h:=p_m (h:=p_y (h0c rfl) (h:=q_y (by apply h0m; exact rfl; exact (fun _ => BigFrame.builtin_len ..); apply h0i Try.underlying45; exact h4a) ?_)))) <;> (try refine q_y (by exact q_b (r:=by refine h0g ?_; first | rfl | (with_reducible assumption) | (decide; done) | omega)) ?_) <;> (try refine p_p (h:=p_a (h:=h0b ?_)))))
 (refine h2k Try.results22 (.tmp rfl .nil) ?_)
 exact ⟨_, ⟨rfl, rfl⟩, by intro w H; refine H.sub ?_; (try simp only [zzC, zzN]); repeat (first | exact List.Sublist.refl _ | refine List.Sublist.cons _ ?_ | refine List.sublist_append_of_sublist_right ?_)⟩
set_option maxHeartbeats 2000000 in
theorem ref04_c {S w0 L} (r : Rec) (hr : r.ok) : Fn Try.prog 48 #[.agg r.cells.toArray] S w0 L fun v L' => v = .agg ((ofF r).map (Value.int .u32)).toArray ∧ L = L' := by
 have hof := fun (L : List Blk) => of_c (S:=S) (w0:=w0) (L:=L) r hr
 have hlen := ofF_len hr
 obtain ⟨xs, hxs⟩ : ∃ xs, xs = ofF r := ⟨_, rfl⟩
 rw [← hxs] at hof hlen ⊢
 clear hxs
 obtain ⟨y0, y1, y2, y3, y4, y5, y6, y7, y8, y9, y10, y11, y12, y13, y14, y15, rfl⟩ : ∃ y0 y1 y2 y3 y4 y5 y6 y7 y8 y9 y10 y11 y12 y13 y14 y15, xs = [y0, y1, y2, y3, y4, y5, y6, y7, y8, y9, y10, y11, y12, y13, y14, y15] := by
  match xs, hlen with
  | [y0, y1, y2, y3, y4, y5, y6, y7, y8, y9, y10, y11, y12, y13, y14, y15], _ => exact ⟨_, _, _, _, _, _, _, _, _, _, _, _, _, _, _, _, rfl⟩
 obtain ⟨num, arch, at_, args⟩ := r
 obtain ⟨b0, b1, b2, b3, b4, b5, rfl⟩ : ∃ b0 b1 b2 b3 b4 b5, args = [b0, b1, b2, b3, b4, b5] := by
  match args, hr.len with
  | [_, _, _, _, _, _], _ => exact ⟨_, _, _, _, _, _, rfl⟩
 have hcl : Rec.cells ⟨num, arch, at_, [b0, b1, b2, b3, b4, b5]⟩ = [.int .u32 num, .int .u32 arch, .int .u64 at_, .int .u64 b0, .int .u64 b1, .int .u64 b2, .int .u64 b3, .int .u64 b4, .int .u64 b5] := rfl
 rw [hcl]
 simp only [List.map] at hof ⊢
 clear hr hlen hcl
 refine Fn1 Try.func48 Try.ntmps48 rfl rfl ?_
 repeat' (first | refine h1k ?_ | refine h0k ?_ | refine h2v ?_ | (refine gR 0 ?_ <;> (try refine h0a ?_; (refine h3e (t:=26) rfl rfl ?_; intro nb hnb; (try simp only [Value.cells]))) <;> (try refine h0a ?_; (refine h0u (t:=143) rfl Try.zeroValue143 ?_; intro nb hnb; (try simp only [Value.cells]))) <;> (try refine h0b ?_)) | (refine gR 1 (p_e (q_f fo_26_0) (h:=p_e q_l (h:=p_e (q_f fo_26_1) (h:=p_e q_l (h:=p_e (q_f fo_26_2) (h:=p_e q_l (h:=p_e (q_f fo_26_3) (h:=q_e (q_L sz_24) ?_)))))))) <;> (try refine h0a ?_; (refine h1i (F:=69) (by kernel_rfl) rfl rfl (hof _) ?_; rintro _ _ ⟨rfl, rfl⟩)) <;> (try refine h0a ?_; (refine q_W ?_)) <;> (try refine h0b ?_)))
 (apply h6f Try.results48; exact rfl; (focus (repeat (first | exact fd0 | (with_reducible assumption) | apply fdA | apply fdS))); kernel_rfl; kernel_rfl; exact sz_143; exact c_20)
 exact ⟨_, ⟨rfl, rfl⟩, by intro w H; refine H.sub ?_; (try simp only [zzC, zzN]); repeat (first | exact List.Sublist.refl _ | refine List.Sublist.cons _ ?_)⟩
abbrev bxP (b : Nat) (v : Value) : Blk := ⟨true, b, .cells #[v] 82 (0, 0)⟩
theorem place_c {S w0} (L : List Blk) (bb i : Nat) (l : List Prt) (hl : ∀ p ∈ l, p.ok) (hm : l.length ≤ 100000) (n : Int) (a : Option Addr) (cap : Nat) (hi : L[i]? = some (bxP bb (.slice a l.length cap))) (hs : Sli L a l.length 7 (h3z l)) :
  Fn Try.prog 49 #[.int .i64 n, .pointer (some ⟨bb, 0, none⟩)] S w0 L fun v L' => v = .int .i64 (plc l n : Nat) ∧ L = L' := by
 have hl' := Lib.hid hl
 clear hl
 have hi' := hi
 refine Fn2 Try.func49 Try.ntmps49 rfl rfl ?_
 repeat' (first | refine h1k ?_ | refine h0k ?_ | refine h0q ?_ | (refine gR 0 (p_a (h:=h0b ?_))) | (refine gR 1 (p_e (by apply h0l (t:=82); exact rfl; exact c_25; kernel_rfl; kernel_rfl; exact rfl) (h:=p_e (by apply h0m; exact rfl; exact (fun _ => BigFrame.builtin_len ..); apply h0i Try.underlying82; exact h4a) (h:=p_m (h:=h0b ?_))))))
 refine h4g (γ:=Nat) (fun m => m ≤ l.length ∧ after n l = after n (l.drop m)) (fun m => l.length - m) (fun m => [(8, .int .i64 (m : Nat))]) [(0, _), (1, _), (6, _), (7, _)] (fun _ => L) 0 (.cons rfl (.cons rfl (.cons rfl (.cons rfl .nil)))) ⟨by omega, by simp⟩ (by (focus (repeat (first | exact Sub.nil | refine Sub.cons rfl ?_)))) (fun _ H => H) ?_
 rintro m ⟨hm : m ≤ l.length, hpx : after n l = after n (l.drop m)⟩
 have hpx' := Lib.hid hpx
 clear hpx
 dsimp only [List.cons_append, List.nil_append]
 by_cases h : m < l.length
 ·obtain ⟨i0, q, b, off, cs, T, fr, rfl, hi0, hsz, hx⟩ := hs.elem h
  rw [flatP_at l m h] at hx
  have hd := Lib.hid (List.drop_eq_getElem_cons h)
  have hpo := hl'.out _ (List.getElem_mem h)
  generalize l[m] = p at *
  obtain ⟨kd, to, els, cd, jt, jf, kk⟩ := p
  simp only [Prt.cells] at hx
  have hk0 := hpo.kind
  dsimp only at hk0
  clear hpo
  by_cases he : kd = 1 ∧ to = n
  ·obtain ⟨rfl, rfl⟩ := he
   repeat' (first | refine h1k ?_ | refine h0k ?_ | refine h2o ?_ | refine h1n ?_ | refine h1u ?_ | refine h0q ?_ | refine h1j ?_ | refine h2v ?_ | refine h0o rfl ?_ | (refine gR 2 (p_e (q_b (r:=by exact h0t q_o)) (h:=h0b ?_))) | (refine gR 3 (p_m (h:=p_e (by apply h0f; exact rfl; exact rfl; (focus (apply h1z Try.underlying82 h3q; omega; omega; exact c_2))) (h:=q_e (by apply h0x (t:=88); exact rfl; exact c_25; kernel_rfl; kernel_rfl; exact h3q; (with_reducible assumption); (with_reducible assumption)) ?_))) <;> (try refine h0a ?_; (refine h0u (t:=88) rfl Try.zeroValue88 ?_; intro nb hnb; (try simp only [Value.cells]))) <;> (try refine q_a ?_) <;> (try refine h0a ?_; (refine q_W ?_)) <;> (try refine h0b ?_)) | (refine gR 4 (p_e (q_f h2z) (h:=q_e q_l ?_)) <;> (try refine q_e (by exact q_b (r:=by refine h0g ?_; first | rfl | (with_reducible assumption) | (decide; done) | omega)) ?_) <;> (try refine p_m (h:=p_y (q_f h4d) (h:=p_y q_l (h:=q_y (h0c rfl) ?_)))) <;> (try refine q_y (by exact q_b (r:=by refine h0g ?_; first | rfl | (with_reducible assumption) | (decide; done) | omega)) ?_) <;> (try refine p_p (h:=h0b ?_))) | (refine gR 5 (p_m (h:=p_a (h:=h0b ?_)))))
   (refine h2k Try.results49 (.tmp rfl .nil) ?_)
   refine ⟨_, ⟨?_, rfl⟩, by intro w H; refine Sel.out ?_ H; (try simp only [zzC, zzN]); repeat (first | exact Sel.refl _ | apply Sel.drop)⟩
   have h2 := hpx'.out
   rw [hd.out, h5s (p:=⟨1, to, els, ⟨cd, jt, jf, kk⟩⟩) ⟨rfl, rfl⟩] at h2
   have h3 := congrArg List.length h2
   rw [List.length_cons, List.length_drop] at h3
   simp only [h5a]
   congr 2
   unfold plc; omega
  ·have hn : after n (l.drop m) = after n (l.drop (m + 1)) := by rw [hd.out, h3y he]
   by_cases hk1 : kd = 1
   ·have hto : to ≠ n := fun e => he ⟨hk1, e⟩
    repeat' (first | refine h1k ?_ | refine h0k ?_ | refine h1g ?_ | refine h0y ?_ | refine h0q ?_ | refine h1j ?_ | refine h0o rfl ?_ | refine h0n rfl ?_ | (refine gR 2 (p_e (q_b (r:=by exact h0t q_o)) (h:=h0b ?_))) | (refine gR 3 (p_m (h:=p_e (by apply h0f; exact rfl; exact rfl; (focus (apply h1z Try.underlying82 h3q; omega; omega; exact c_2))) (h:=q_e (by apply h0x (t:=88); exact rfl; exact c_25; kernel_rfl; kernel_rfl; exact h3q; (with_reducible assumption); (with_reducible assumption)) ?_))) <;> (try refine h0a ?_; (refine h0u (t:=88) rfl Try.zeroValue88 ?_; intro nb hnb; (try simp only [Value.cells]))) <;> (try refine q_a ?_) <;> (try refine h0a ?_; (refine q_W ?_)) <;> (try refine h0b ?_)) | (refine gR 4 (p_e (q_f h2z) (h:=q_e q_l ?_)) <;> (try refine q_e (by exact q_b (r:=by refine h0g ?_; first | rfl | (with_reducible assumption) | (decide; done) | omega)) ?_) <;> (try refine p_m (h:=p_y (q_f h4d) (h:=p_y q_l (h:=p_y (h0c rfl) (h:=p_y (q_b (r:=by exact h0e q_o)) (h:=p_p (h:=h0b ?_)))))))) | (refine gR 6 ?_ <;> (try refine q_e (q_b (r:=by apply h0w; exact c_9; (focus (refine IntWalk.i64_in _ ?_; omega)))) ?_) <;> (try refine p_m (h:=h0b ?_))))
    exact h2u (m + 1) ⟨⟨by omega, hpx'.out.trans hn⟩, by omega⟩ (by (focus (repeat (first | exact Sub.nil | refine Sub.cons rfl ?_)))) (by intro w H; refine Sel.out ?_ H; (try simp only [zzC, zzN]); repeat (first | exact Sel.refl _ | apply Sel.drop))
   ·repeat' (first | refine h1k ?_ | refine h0k ?_ | refine h1g ?_ | refine h0y ?_ | refine h0q ?_ | refine h1j ?_ | refine h0o rfl ?_ | refine h0n rfl ?_ | (refine gR 2 (p_e (q_b (r:=by exact h0t q_o)) (h:=h0b ?_))) | (refine gR 3 (p_m (h:=p_e (by apply h0f; exact rfl; exact rfl; (focus (apply h1z Try.underlying82 h3q; omega; omega; exact c_2))) (h:=q_e (by apply h0x (t:=88); exact rfl; exact c_25; kernel_rfl; kernel_rfl; exact h3q; (with_reducible assumption); (with_reducible assumption)) ?_))) <;> (try refine h0a ?_; (refine h0u (t:=88) rfl Try.zeroValue88 ?_; intro nb hnb; (try simp only [Value.cells]))) <;> (try refine q_a ?_) <;> (try refine h0a ?_; (refine q_W ?_)) <;> (try refine h0b ?_)) | (refine gR 4 (p_e (q_f h2z) (h:=p_e q_l (h:=p_e (q_b (r:=by exact h0e q_o)) (h:=p_m (h:=p_z (h:=p_z (h:=p_z (h:=p_z (h:=p_p (h:=h0b ?_))))))))))) | (refine gR 6 ?_ <;> (try refine q_e (q_b (r:=by apply h0w; exact c_9; (focus (refine IntWalk.i64_in _ ?_; omega)))) ?_) <;> (try refine p_m (h:=h0b ?_))))
    exact h2u (m + 1) ⟨⟨by omega, hpx'.out.trans hn⟩, by omega⟩ (by (focus (repeat (first | exact Sub.nil | refine Sub.cons rfl ?_)))) (by intro w H; refine Sel.out ?_ H; (try simp only [zzC, zzN]); repeat (first | exact Sel.refl _ | apply Sel.drop))
 ·repeat' (first | refine h1k ?_ | refine h0k ?_ | refine h1y ?_ | refine h1m ?_ | refine h1t ?_ | refine h2p ?_ | refine h2v ?_ | refine h0n rfl ?_ | (refine gR 2 (p_e (q_b (r:=by exact h1q q_o)) (h:=h0b ?_))) | (refine gR 7 (p_e (by apply h0l (t:=82); exact rfl; exact c_25; kernel_rfl; kernel_rfl; exact rfl) (h:=p_e (by apply h0m; exact rfl; exact (fun _ => BigFrame.builtin_len ..); apply h0i Try.underlying82; exact h4a) (h:=p_a (h:=h0b ?_))))))
  (refine h2k Try.results49 (.tmp rfl .nil) ?_)
  refine ⟨_, ⟨?_, rfl⟩, by intro w H; refine Sel.out ?_ H; (try simp only [zzC, zzN]); repeat (exact Sel.refl _)⟩
  have h2 := hpx'.out
  rw [List.drop_eq_nil_of_le (by omega)] at h2
  simp only [h5a]
  congr 2
  unfold plc
  rw [h2]
  simp [after]
set_option maxHeartbeats 4000000 in
theorem prun_c {S w0 L} (l : List Prt) (hl : ∀ p ∈ l, p.ok) (hm : l.length ≤ 100000) (hok : okP l) (hg : Good l) (r : Rec) (hr : r.ok) (v : Int) (hb : Big r l 0 v) (a : Option Addr) (cap : Nat) (hs : Sli L a l.length 7 (h3z l)) :
  Fn Try.prog 29 #[.slice a l.length cap, .agg r.cells.toArray] S w0 L fun u L' => u = .int .u32 v ∧ L = L' := by
 have hl' := Lib.hid hl
 have hb' := Lib.hid hb
 have hok' := Lib.hid hok
 have hg' := Lib.hid hg
 clear hl hb hok hg
 have hr4 := fun (L : List Blk) => ref04_c (S:=S) (w0:=w0) (L:=L) r hr
 have hrr := fun (L : List Blk) (x c k : Int) (hx : 0 ≤ x ∧ x < 4294967296) (hk : 0 ≤ k ∧ k < 4294967296) (hc : c = 21 ∨ c = 37 ∨ c = 53 ∨ c = 69) (a : Option Addr) (cap : Nat) (hs : Sli L a 4 4 (flatI (ask4 x c k))) => refRun_c (S:=S) (w0:=w0) (L:=L) (ask4 x c k) (ask4_flt hx hk hc) r hr a cap hs
 have hwd := fun (k : Int) h1 h2 h3 => word_eq (r:=r) hr (k:=k) h1 h2 h3
 have hol := ofF_len hr
 have hin := ofF_in hr
 obtain ⟨xs, hxs⟩ : ∃ xs, xs = ofF r := ⟨_, rfl⟩
 rw [← hxs] at hr4 hrr hwd hol hin
 clear hxs
 have hgt : ∀ k : Nat, k < 16 → (xs.map (Value.int .u32))[k]? = some (.int .u32 (xs.getD k 0)) ∧ (0 ≤ xs.getD k 0 ∧ xs.getD k 0 < 4294967296) := fun k hk => by
  have e : xs.getD k 0 = xs[k] := by simp [List.getD_eq_getElem?_getD, List.getElem?_eq_getElem (show k < xs.length by omega)]
  rw [e]
  exact ⟨by simp [List.getElem?_eq_getElem (show k < xs.length by omega)], hin _ (List.getElem_mem _)⟩
 obtain ⟨y0, y1, y2, y3, y4, y5, y6, y7, y8, y9, y10, y11, y12, y13, y14, y15, rfl⟩ : ∃ y0 y1 y2 y3 y4 y5 y6 y7 y8 y9 y10 y11 y12 y13 y14 y15, xs = [y0, y1, y2, y3, y4, y5, y6, y7, y8, y9, y10, y11, y12, y13, y14, y15] := by
  match xs, hol with
  | [y0, y1, y2, y3, y4, y5, y6, y7, y8, y9, y10, y11, y12, y13, y14, y15], _ => exact ⟨_, _, _, _, _, _, _, _, _, _, _, _, _, _, _, _, rfl⟩
 have hgt' := Lib.hid hgt
 clear hgt hin hol
 simp only [List.map] at hr4 hrr
 obtain ⟨b0, b1, b2, b3, b4, b5, hargs⟩ : ∃ b0 b1 b2 b3 b4 b5, r.args = [b0, b1, b2, b3, b4, b5] := by
  match r.args, hr.len with
  | [_, _, _, _, _, _], _ => exact ⟨_, _, _, _, _, _, rfl⟩
 have hcl : Rec.cells r = [.int .u32 r.num, .int .u32 r.arch, .int .u64 r.at_, .int .u64 b0, .int .u64 b1, .int .u64 b2, .int .u64 b3, .int .u64 b4, .int .u64 b5] := by rw [Rec.cells, hargs]; rfl
 rw [hcl] at hr4 ⊢
 clear hcl hargs
 have hs0 := hs
 refine Fn2 Try.func29 Try.ntmps29 rfl rfl ?_
 repeat' (first | refine h1k ?_ | refine h0k ?_ | refine h0q ?_ | (refine gR 0 ?_ <;> (try refine h0a ?_; (refine h3e (t:=82) rfl rfl ?_; intro nb hnb; (try simp only [Value.cells]))) <;> (try refine h0a ?_; (refine h3e (t:=26) rfl rfl ?_; intro nb hnb; (try simp only [Value.cells]))) <;> (try refine p_a (h:=h0b ?_))) | (refine gR 1 (p_a (h:=h0b ?_))) | (refine gR 2 (q_e (q_L sz_26) ?_) <;> (try refine h0a ?_; (refine h1i (F:=48) (by kernel_rfl) rfl rfl (hr4 _) ?_; rintro _ _ ⟨rfl, rfl⟩)) <;> (try refine h0a ?_; (refine h0u (t:=143) rfl Try.zeroValue143 ?_; intro nb hnb; (try simp only [Value.cells]))) <;> (try refine h0a ?_; (refine q_W ?_)) <;> (try refine h0b ?_)) | (refine gR 3 (p_a (h:=h0b ?_))) | (refine gR 4 (p_e (by apply E_makeFunc; exact rfl; exact rfl) (h:=p_a (h:=h0b ?_)))))
 rename_i nbL hnL nbR hnR
 have hs1 := (hs.up (bxP nbL (.slice a l.length cap))).up ⟨true, nb, .cells #[.int .u32 y0, .int .u32 y1, .int .u32 y2, .int .u32 y3, .int .u32 y4, .int .u32 y5, .int .u32 y6, .int .u32 y7, .int .u32 y8, .int .u32 y9, .int .u32 y10, .int .u32 y11, .int .u32 y12, .int .u32 y13, .int .u32 y14, .int .u32 y15] 143 (0, 0)⟩
 refine h4g (γ:=Nat × Int) (fun g => g.1 ≤ l.length ∧ (0 ≤ g.2 ∧ g.2 < 4294967296) ∧ Big r (l.drop g.1) g.2 v) (fun g => l.length - g.1) (fun g => [(7, .int .i64 (g.1 : Nat)), (5, .int .u32 g.2)]) [(2, _), (6, _), (8, _)]
  (fun _ => ⟨true, nb, .cells #[.int .u32 y0, .int .u32 y1, .int .u32 y2, .int .u32 y3, .int .u32 y4, .int .u32 y5, .int .u32 y6, .int .u32 y7, .int .u32 y8, .int .u32 y9, .int .u32 y10, .int .u32 y11, .int .u32 y12, .int .u32 y13, .int .u32 y14, .int .u32 y15] 143 (0, 0)⟩ :: bxP nbL (.slice a l.length cap) :: L) (0, 0) (.cons rfl (.cons rfl (.cons rfl .nil))) ⟨by simp, by simp, hb'.out⟩ (by (focus (repeat (first | exact Sub.nil | refine Sub.cons rfl ?_)))) c_27 ?_
 clear hb'
 rintro ⟨k, x⟩ ⟨hk : k ≤ l.length, hx : 0 ≤ x ∧ x < 4294967296, hb : Big r (l.drop k) x v⟩
 dsimp only [List.cons_append, List.nil_append]
 by_cases hlt : k < l.length
 rotate_left
 ·rw [List.drop_eq_nil_of_le (by omega)] at hb
  obtain rfl : v = 2147483648 := by cases hb; rfl
  repeat' (first | refine h1k ?_ | refine h0k ?_ | refine h1y ?_ | refine h1m ?_ | refine h1t ?_ | refine h2p ?_ | refine h2v ?_ | refine h0n rfl ?_ | (refine gR 5 (p_m (h:=p_e q_l (h:=p_e (by apply h0m; exact rfl; exact (fun _ => BigFrame.builtin_len ..); apply h0i Try.underlying82; exact h4a) (h:=p_e (q_b (r:=by exact h1q q_o)) (h:=h0b ?_)))))) | (refine gR 22 (p_a (h:=h0b ?_))))
  (refine h2k Try.results29 (.tmp rfl .nil) ?_)
  exact ⟨_, ⟨rfl, rfl⟩, by intro w H; refine Sel.out ?_ H; (try simp only [zzC, zzN]); repeat (first | exact Sel.refl _ | apply Sel.drop)⟩
 rw [List.drop_eq_getElem_cons hlt] at hb
 have hsuf : okP (l[k] :: l.drop (k + 1)) := by
  rw [← List.drop_eq_getElem_cons hlt]
  have e : l = l.take k ++ l.drop k := (List.take_append_drop ..).symm
  exact (okP_app (e ▸ hok'.out)).1
 have hc := Lib.hid (big_cases hsuf (hg'.out _ (List.getElem_mem hlt)) hb)
 have hfw := Lib.hid (fun (n : Int) => plc_fwd hok'.out hlt (n:=n))
 clear hsuf hb
 obtain ⟨i0, q, b, off, cs, T, fr, rfl, hi0, hsz, hxx⟩ := hs1.elem hlt
 rw [flatP_at l k hlt] at hxx
 have hpo := hl'.out _ (List.getElem_mem hlt)
 have hlast := Lib.hid (fun (h : l.drop (k + 1) = l.drop (k + 1)) => h)
 generalize l[k] = p at *
 obtain ⟨kd, to, els, cd, jt, jf, kk⟩ := p
 simp only [Prt.cells] at hxx
 have hi1 := hpo.ins
 have hik := hi1.k
 have hic := hi1.c
 dsimp only at hc hik hic
 clear hpo hi1
 rcases hc.out with ⟨rfl, hb⟩ | ⟨rfl, hn, hb⟩ | ⟨rfl, hcd, hb⟩ | ⟨rfl, rfl, rfl⟩ | ⟨rfl, rfl, ⟨h4, h0, h60⟩, hb⟩ | ⟨rfl, rfl, hb⟩
 ·clear hc
  have hb2 := Lib.hid hb
  clear hb
  repeat' (first | refine h1k ?_ | refine h0k ?_ | refine h1g ?_ | refine h0y ?_ | refine h0q ?_ | refine h1j ?_ | refine h0o rfl ?_ | refine h0n rfl ?_ | (refine gR 5 (p_m (h:=p_e q_l (h:=p_e (by apply h0m; exact rfl; exact (fun _ => BigFrame.builtin_len ..); apply h0i Try.underlying82; exact h4a) (h:=p_e (q_b (r:=by exact h0t q_o)) (h:=h0b ?_)))))) | (refine gR 6 (p_e q_l (h:=p_m (h:=p_e (by apply h0f; exact rfl; exact rfl; (focus (apply h1z Try.underlying82 h3q; omega; omega; exact c_2))) (h:=q_e (by apply h0x (t:=88); exact rfl; exact c_25; kernel_rfl; kernel_rfl; exact h3q; (with_reducible assumption); (with_reducible assumption)) ?_)))) <;> (try refine h0a ?_; (refine h0u (t:=88) rfl Try.zeroValue88 ?_; intro nb hnb; (try simp only [Value.cells]))) <;> (try refine h0a ?_; (refine q_W ?_)) <;> (try refine h0b ?_)) | (refine gR 7 (q_m ?_) <;> (try refine q_e (q_b (r:=by apply h0w; exact c_9; (focus (refine IntWalk.i64_in _ ?_; omega)))) ?_) <;> (try refine p_a (h:=h0b ?_))) | (refine gR 8 (p_e (q_f h2z) (h:=p_e q_l (h:=h0b ?_)))) | (refine gR 9 (p_e (q_b (r:=by exact h0e q_o)) (h:=p_a (h:=h0b ?_)))) | (refine gR 11 (p_e (q_b (r:=by exact h0e q_o)) (h:=p_a (h:=h0b ?_)))) | (refine gR 16 (p_e (q_b (r:=by exact h0e q_o)) (h:=p_a (h:=h0b ?_)))))
  exact h2u (k + 1, x) ⟨⟨by simp; omega, hx, hb2.out⟩, by simp; omega⟩ (by (focus (repeat (first | exact Sub.nil | refine Sub.cons rfl ?_)))) c_27
 ·clear hc
  obtain ⟨f1, f2, f3⟩ := hfw.out _ hn
  have hb2 := Lib.hid hb
  clear hb hn
  repeat' (first | refine h1k ?_ | refine h0k ?_ | refine h1g ?_ | refine h0y ?_ | refine h0q ?_ | refine h1j ?_ | refine h0o rfl ?_ | (refine gR 5 (p_m (h:=p_e q_l (h:=p_e (by apply h0m; exact rfl; exact (fun _ => BigFrame.builtin_len ..); apply h0i Try.underlying82; exact h4a) (h:=p_e (q_b (r:=by exact h0t q_o)) (h:=h0b ?_)))))) | (refine gR 6 (p_e q_l (h:=p_m (h:=p_e (by apply h0f; exact rfl; exact rfl; (focus (apply h1z Try.underlying82 h3q; omega; omega; exact c_2))) (h:=q_e (by apply h0x (t:=88); exact rfl; exact c_25; kernel_rfl; kernel_rfl; exact h3q; (with_reducible assumption); (with_reducible assumption)) ?_)))) <;> (try refine h0a ?_; (refine h0u (t:=88) rfl Try.zeroValue88 ?_; intro nb hnb; (try simp only [Value.cells]))) <;> (try refine h0a ?_; (refine q_W ?_)) <;> (try refine h0b ?_)) | (refine gR 7 (q_m ?_) <;> (try refine q_e (q_b (r:=by apply h0w; exact c_9; (focus (refine IntWalk.i64_in _ ?_; omega)))) ?_) <;> (try refine p_a (h:=h0b ?_))) | (refine gR 8 (p_e (q_f h2z) (h:=p_e q_l (h:=h0b ?_)))) | (refine gR 9 ?_ <;> (try refine q_e (by exact q_b (r:=by refine h0g ?_; first | rfl | (with_reducible assumption) | (decide; done) | omega)) ?_) <;> (try refine p_a (h:=h0b ?_))) | (refine gR 10 (p_m (h:=p_e (q_f h4d) (h:=q_e q_l ?_))) <;> (try refine h0a ?_; (apply K1_callvc (F:=49); kernel_rfl; exact rfl; exact rfl; exact rfl; exact rfl; (apply place_c (l:=l) (hl:=hl'.out) (hm:=hm); (focus exact h6c); (focus (focus (repeat (first | (with_reducible assumption) | apply Sli.up))))); rintro _ _ ⟨rfl, rfl⟩)) <;> (try refine p_a (h:=h0b ?_))))
  exact h2u (plc l to, x) ⟨⟨by simp; omega, hx, by dsimp only; rw [f3]; exact hb2.out⟩, by simp; omega⟩ (by (focus (repeat (first | exact Sub.nil | refine Sub.cons rfl ?_)))) c_27
 ·clear hc
  have h4 := ask4_run (a:=x) (c:=cd) (k:=kk) hcd r
  repeat' (first | (refine h4s (id:=13) ?_) | refine h1k ?_ | refine h0k ?_ | refine h0q ?_ | refine h1j ?_ | refine h0o rfl ?_ | refine h0n rfl ?_ | (refine gR 5 (p_m (h:=p_e q_l (h:=p_e (by apply h0m; exact rfl; exact (fun _ => BigFrame.builtin_len ..); apply h0i Try.underlying82; exact h4a) (h:=p_e (q_b (r:=by exact h0t q_o)) (h:=h0b ?_)))))) | (refine gR 6 (p_e q_l (h:=p_m (h:=p_e (by apply h0f; exact rfl; exact rfl; (focus (apply h1z Try.underlying82 h3q; omega; omega; exact c_2))) (h:=q_e (by apply h0x (t:=88); exact rfl; exact c_25; kernel_rfl; kernel_rfl; exact h3q; (with_reducible assumption); (with_reducible assumption)) ?_)))) <;> (try refine h0a ?_; (refine h0u (t:=88) rfl Try.zeroValue88 ?_; intro nb hnb; (try simp only [Value.cells]))) <;> (try refine h0a ?_; (refine q_W ?_)) <;> (try refine h0b ?_)) | (refine gR 7 (q_m ?_) <;> (try refine q_e (q_b (r:=by apply h0w; exact c_9; (focus (refine IntWalk.i64_in _ ?_; omega)))) ?_) <;> (try refine p_a (h:=h0b ?_))) | (refine gR 8 (p_e (q_f h2z) (h:=p_e q_l (h:=h0b ?_)))) | (refine gR 9 (p_e (q_b (r:=by exact h0e q_o)) (h:=p_a (h:=h0b ?_)))) | (refine gR 11 ?_ <;> (try refine q_e (by exact q_b (r:=by refine h0g ?_; first | rfl | (with_reducible assumption) | (decide; done) | omega)) ?_) <;> (try refine p_a (h:=h0b ?_))) | (refine gR 12 (q_m ?_) <;> (try refine q_e (by exact h1s (t:=149) (fun vs => (match vs with | [(_, x0), (_, x1)] => [x0, Value.int .i64 0, Value.int .i64 0, x1] | _ => [])) rfl (fun w => by kernel_rfl)) ?_; (try simp only [Value.cells]); (try simp only [zzC, zzN])) <;> (try refine p_e (q_f h3r) (h:=p_e (q_g h1p) (h:=q_e q_l ?_))) <;> (try refine q_e (by apply h2l; exact rfl; (focus (apply h2j Try.underlying41 Try.underlying3; first | (refine IntWalk.i64_in _ ?_; omega) | (refine IntWalk.u8_in _ ?_; omega) | (refine IntWalk.u16_in _ ?_; omega) | (refine IntWalk.u32_in _ ?_; omega) | (refine IntWalk.u64_in _ ?_; omega) | (refine IntWalk.i32_in _ ?_; omega) | exact rfl))) ?_) <;> (try refine p_e (q_f h3r) (h:=p_e (q_g h1o) (h:=q_e q_l ?_))) <;> (try refine q_e (by exact h1s (t:=149) (fun vs => (match vs with | [(_, x0), (_, x1), (_, x2), (_, x3)] => [x0, x1, x2, x3] | _ => [])) rfl (fun w => by kernel_rfl)) ?_; (try simp only [Value.cells]); (try simp only [zzC, zzN])) <;> (try refine q_e (by exact h1s (t:=149) (fun vs => (match vs with | [(_, x0), (_, x1)] => [x0, Value.int .i64 0, Value.int .i64 0, x1] | _ => [])) rfl (fun w => by kernel_rfl)) ?_; (try simp only [Value.cells]); (try simp only [zzC, zzN])) <;> (try refine q_e (by exact h1s (t:=149) (fun vs => (match vs with | [(_, x0), (_, x1)] => [x0, Value.int .i64 0, Value.int .i64 0, x1] | _ => [])) rfl (fun w => by kernel_rfl)) ?_; (try simp only [Value.cells]); (try simp only [zzC, zzN])) <;> (try refine h0a ?_; (refine h0r (t:=150) (m:=4) (e:=149) (fun vs => (match vs with | [(_, x0), (_, x1), (_, x2), (_, x3)] => x0.cells.toList ++ (x1.cells.toList ++ (x2.cells.toList ++ x3.cells.toList)) | _ => [])) rfl rfl (fun w => by kernel_rfl) ?_; intro nb hnb; (try simp only [Value.cells]); (try simp only [zzC, zzN]))) <;> (try refine q_e (q_L sz_143) ?_) <;> (try refine h0a ?_; (refine h1i (F:=50) (by kernel_rfl) rfl rfl (hrr _ x cd kk hx hik hcd _ _ (Sli.of (i:=0) rfl (by simp) rfl)) ?_; rintro _ _ ⟨rfl, rfl⟩)) <;> (try refine p_m (h:=p_x (h:=p_x (h:=p_a (h:=p_a (h:=h0b ?_))))))))
  refine ⟨?_⟩
  rw [h4]
  rcases hb with ⟨hc, hn, hb⟩ | ⟨hc, hn, hb⟩
  ·obtain ⟨f1, f2, f3⟩ := hfw.out _ hn
   rw [if_pos (show cnd x ⟨cd, 0, 0, kk⟩ = true from hc)]
   have hb2 := Lib.hid hb
   clear hb hn hc h4
   repeat' (first | refine h0k ?_ | refine h1g ?_ | refine h0y ?_ | refine h0o rfl ?_ | (refine gR 13 (q_m ?_) <;> (try refine q_e (by exact q_b (r:=by refine h0g ?_; first | rfl | (with_reducible assumption) | (decide; done) | omega)) ?_) <;> (try refine h0b ?_)) | (refine gR 14 (p_m (h:=p_e (q_f h4d) (h:=q_e q_l ?_))) <;> (try refine h0a ?_; (apply K1_callvc (F:=49); kernel_rfl; exact rfl; exact rfl; exact rfl; exact rfl; (apply place_c (l:=l) (hl:=hl'.out) (hm:=hm); (focus exact h6c); (focus (focus (repeat (first | (with_reducible assumption) | apply Sli.up))))); rintro _ _ ⟨rfl, rfl⟩)) <;> (try refine p_a (h:=h0b ?_))))
   exact h2u (plc l to, x) ⟨⟨by simp; omega, hx, by dsimp only; rw [f3]; exact hb2.out⟩, by simp; omega⟩ (by (focus (repeat (first | exact Sub.nil | refine Sub.cons rfl ?_)))) c_27
  ·obtain ⟨f1, f2, f3⟩ := hfw.out _ hn
   rw [if_neg (by rw [show cnd x ⟨cd, 0, 0, kk⟩ = false from hc]; simp)]
   have hb2 := Lib.hid hb
   clear hb hn hc h4
   repeat' (first | refine h0k ?_ | refine h1g ?_ | refine h0y ?_ | refine h0n rfl ?_ | (refine gR 13 (p_m (h:=p_e (q_b (r:=by exact h0e q_o)) (h:=h0b ?_)))) | (refine gR 15 (p_m (h:=p_e (q_f fo_88_2) (h:=q_e q_l ?_))) <;> (try refine h0a ?_; (apply K1_callvc (F:=49); kernel_rfl; exact rfl; exact rfl; exact rfl; exact rfl; (apply place_c (l:=l) (hl:=hl'.out) (hm:=hm); (focus exact h6c); (focus (focus (repeat (first | (with_reducible assumption) | apply Sli.up))))); rintro _ _ ⟨rfl, rfl⟩)) <;> (try refine p_a (h:=h0b ?_))))
   exact h2u (plc l els, x) ⟨⟨by simp; omega, hx, by dsimp only; rw [f3]; exact hb2.out⟩, by simp; omega⟩ (by (focus (repeat (first | exact Sub.nil | refine Sub.cons rfl ?_)))) c_27
 ·clear hc
  have hcl6 := h5i (S:=S) (w0:=w0) (L:=L) 6 (by omega)
  repeat' (first | refine h1k ?_ | refine h0k ?_ | refine h2o ?_ | refine h1n ?_ | refine h1u ?_ | refine h0q ?_ | refine h1j ?_ | refine h2v ?_ | refine h0o rfl ?_ | refine h0n rfl ?_ | (refine gR 5 (p_m (h:=p_e q_l (h:=p_e (by apply h0m; exact rfl; exact (fun _ => BigFrame.builtin_len ..); apply h0i Try.underlying82; exact h4a) (h:=p_e (q_b (r:=by exact h0t q_o)) (h:=h0b ?_)))))) | (refine gR 6 (p_e q_l (h:=p_m (h:=p_e (by apply h0f; exact rfl; exact rfl; (focus (apply h1z Try.underlying82 h3q; omega; omega; exact c_2))) (h:=q_e (by apply h0x (t:=88); exact rfl; exact c_25; kernel_rfl; kernel_rfl; exact h3q; (with_reducible assumption); (with_reducible assumption)) ?_)))) <;> (try refine h0a ?_; (refine h0u (t:=88) rfl Try.zeroValue88 ?_; intro nb hnb; (try simp only [Value.cells]))) <;> (try refine h0a ?_; (refine q_W ?_)) <;> (try refine h0b ?_)) | (refine gR 7 (q_m ?_) <;> (try refine q_e (q_b (r:=by apply h0w; exact c_9; (focus (refine IntWalk.i64_in _ ?_; omega)))) ?_) <;> (try refine p_a (h:=h0b ?_))) | (refine gR 8 (p_e (q_f h2z) (h:=p_e q_l (h:=h0b ?_)))) | (refine gR 9 (p_e (q_b (r:=by exact h0e q_o)) (h:=p_a (h:=h0b ?_)))) | (refine gR 11 (p_e (q_b (r:=by exact h0e q_o)) (h:=p_a (h:=h0b ?_)))) | (refine gR 16 ?_ <;> (try refine q_e (by exact q_b (r:=by refine h0g ?_; first | rfl | (with_reducible assumption) | (decide; done) | omega)) ?_) <;> (try refine p_a (h:=h0b ?_))) | (refine gR 18 (p_e (q_f h3r) (h:=p_e (q_g h1p) (h:=q_e q_l ?_))) <;> (try refine h0a ?_; (refine h1i (F:=51) (by kernel_rfl) rfl rfl (h5i _ (by omega)) ?_; rintro _ _ ⟨rfl, rfl⟩)) <;> (try refine q_e (by exact q_b (r:=by refine h0g ?_; first | rfl | (with_reducible assumption) | (decide; done) | omega)) ?_) <;> (try refine p_a (h:=h0b ?_))) | (refine gR 19 (p_e (q_f h3r) (h:=p_e (q_g h1o) (h:=p_e q_l (h:=p_a (h:=h0b ?_)))))))
  (refine h2k Try.results29 (.tmp rfl .nil) ?_)
  exact ⟨_, ⟨rfl, rfl⟩, by intro w H; refine Sel.out ?_ H; (try simp only [zzC, zzN]); repeat (first | exact Sel.refl _ | apply Sel.drop)⟩
 ·clear hc
  obtain ⟨q1, q2⟩ := hgt'.out (kk / 4 % 16).toNat (by omega)
  rw [hwd kk h0 h4 h60] at hb
  have hb2 := Lib.hid hb
  clear hb
  generalize [y0, y1, y2, y3, y4, y5, y6, y7, y8, y9, y10, y11, y12, y13, y14, y15].getD (kk / 4 % 16).toNat 0 = y at *
  have q3 : #[Value.int .u32 y0, .int .u32 y1, .int .u32 y2, .int .u32 y3, .int .u32 y4, .int .u32 y5, .int .u32 y6, .int .u32 y7, .int .u32 y8, .int .u32 y9, .int .u32 y10, .int .u32 y11, .int .u32 y12, .int .u32 y13, .int .u32 y14, .int .u32 y15].toList[(kk / 4 % 16).toNat]? = some (.int .u32 y) := q1
  clear q1
  repeat' (first | refine h1k ?_ | refine h0k ?_ | refine h1g ?_ | refine h0y ?_ | refine h0q ?_ | refine h1j ?_ | refine h0o rfl ?_ | refine h0n rfl ?_ | (refine gR 5 (p_m (h:=p_e q_l (h:=p_e (by apply h0m; exact rfl; exact (fun _ => BigFrame.builtin_len ..); apply h0i Try.underlying82; exact h4a) (h:=p_e (q_b (r:=by exact h0t q_o)) (h:=h0b ?_)))))) | (refine gR 6 (p_e q_l (h:=p_m (h:=p_e (by apply h0f; exact rfl; exact rfl; (focus (apply h1z Try.underlying82 h3q; omega; omega; exact c_2))) (h:=q_e (by apply h0x (t:=88); exact rfl; exact c_25; kernel_rfl; kernel_rfl; exact h3q; (with_reducible assumption); (with_reducible assumption)) ?_)))) <;> (try refine h0a ?_; (refine h0u (t:=88) rfl Try.zeroValue88 ?_; intro nb hnb; (try simp only [Value.cells]))) <;> (try refine h0a ?_; (refine q_W ?_)) <;> (try refine h0b ?_)) | (refine gR 7 (q_m ?_) <;> (try refine q_e (q_b (r:=by apply h0w; exact c_9; (focus (refine IntWalk.i64_in _ ?_; omega)))) ?_) <;> (try refine p_a (h:=h0b ?_))) | (refine gR 8 (p_e (q_f h2z) (h:=p_e q_l (h:=h0b ?_)))) | (refine gR 9 (p_e (q_b (r:=by exact h0e q_o)) (h:=p_a (h:=h0b ?_)))) | (refine gR 11 (p_e (q_b (r:=by exact h0e q_o)) (h:=p_a (h:=h0b ?_)))) | (refine gR 16 ?_ <;> (try refine q_e (by exact q_b (r:=by refine h0g ?_; first | rfl | (with_reducible assumption) | (decide; done) | omega)) ?_) <;> (try refine p_a (h:=h0b ?_))) | (refine gR 18 (p_e (q_f h3r) (h:=p_e (q_g h1p) (h:=q_e q_l ?_))) <;> (try refine h0a ?_; (refine h1i (F:=51) (by kernel_rfl) rfl rfl (h5i _ (by omega)) ?_; rintro _ _ ⟨rfl, rfl⟩)) <;> (try refine p_e (q_b (r:=by exact h0e q_o)) (h:=p_a (h:=h0b ?_)))) | (refine gR 20 (p_e (q_f h3r) (h:=p_e (q_g h1p) (h:=q_e q_l ?_))) <;> (try refine q_e (by exact q_b (r:=by refine h0g ?_; first | rfl | (with_reducible assumption) | (decide; done) | omega)) ?_) <;> (try refine p_a (h:=h0b ?_))) | (refine gR 21 (p_e (q_f h3r) (h:=p_e (q_g h1o) (h:=q_e q_l ?_))) <;> (try refine q_e (q_b (r:=by apply h4q; omega; omega; exact c_9; (focus (refine IntWalk.u32_in _ ?_; omega)))) ?_) <;> (try refine p_e (q_b (r:=by apply h1x; omega; omega; exact c_9)) (h:=p_e (by apply h0f; exact rfl; exact rfl; (focus (apply h5p Try.underlying143 sz_22; omega; omega; exact c_2))) (h:=p_e (by apply h0l (t:=22); exact rfl; exact h6c; kernel_rfl; kernel_rfl; (with_reducible assumption)) (h:=p_a (h:=h0b ?_)))))))
  exact h2u (k + 1, y) ⟨⟨by simp; omega, q2, hb2.out⟩, by simp; omega⟩ (by (focus (repeat (first | exact Sub.nil | refine Sub.cons rfl ?_)))) c_27
 ·clear hc
  have hb2 := Lib.hid hb
  clear hb
  have hia := iand_le x kk hx.1
  repeat' (first | refine h1k ?_ | refine h0k ?_ | refine h1g ?_ | refine h0y ?_ | refine h0q ?_ | refine h1j ?_ | refine h0o rfl ?_ | refine h0n rfl ?_ | (refine gR 5 (p_m (h:=p_e q_l (h:=p_e (by apply h0m; exact rfl; exact (fun _ => BigFrame.builtin_len ..); apply h0i Try.underlying82; exact h4a) (h:=p_e (q_b (r:=by exact h0t q_o)) (h:=h0b ?_)))))) | (refine gR 6 (p_e q_l (h:=p_m (h:=p_e (by apply h0f; exact rfl; exact rfl; (focus (apply h1z Try.underlying82 h3q; omega; omega; exact c_2))) (h:=q_e (by apply h0x (t:=88); exact rfl; exact c_25; kernel_rfl; kernel_rfl; exact h3q; (with_reducible assumption); (with_reducible assumption)) ?_)))) <;> (try refine h0a ?_; (refine h0u (t:=88) rfl Try.zeroValue88 ?_; intro nb hnb; (try simp only [Value.cells]))) <;> (try refine h0a ?_; (refine q_W ?_)) <;> (try refine h0b ?_)) | (refine gR 7 (q_m ?_) <;> (try refine q_e (q_b (r:=by apply h0w; exact c_9; (focus (refine IntWalk.i64_in _ ?_; omega)))) ?_) <;> (try refine p_a (h:=h0b ?_))) | (refine gR 8 (p_e (q_f h2z) (h:=p_e q_l (h:=h0b ?_)))) | (refine gR 9 (p_e (q_b (r:=by exact h0e q_o)) (h:=p_a (h:=h0b ?_)))) | (refine gR 11 (p_e (q_b (r:=by exact h0e q_o)) (h:=p_a (h:=h0b ?_)))) | (refine gR 16 ?_ <;> (try refine q_e (by exact q_b (r:=by refine h0g ?_; first | rfl | (with_reducible assumption) | (decide; done) | omega)) ?_) <;> (try refine p_a (h:=h0b ?_))) | (refine gR 18 (p_e (q_f h3r) (h:=p_e (q_g h1p) (h:=q_e q_l ?_))) <;> (try refine h0a ?_; (refine h1i (F:=51) (by kernel_rfl) rfl rfl (h5i _ (by omega)) ?_; rintro _ _ ⟨rfl, rfl⟩)) <;> (try refine p_e (q_b (r:=by exact h0e q_o)) (h:=p_a (h:=h0b ?_)))) | (refine gR 20 (p_e (q_f h3r) (h:=p_e (q_g h1p) (h:=p_e q_l (h:=p_e (q_b (r:=by exact h0e q_o)) (h:=p_a (h:=h0b ?_))))))) | (refine gR 17 (p_m (h:=p_e (q_f h3r) (h:=p_e (q_g h1o) (h:=q_e q_l ?_)))) <;> (try refine q_e (q_b (r:=by refine h5e ?_ ?_; (focus (refine ⟨rfl, ⟨?_, ?_⟩⟩; omega; (focus (simp only [IntKind.bits]; omega)))); (focus (refine ⟨rfl, ⟨?_, ?_⟩⟩; omega; (focus (simp only [IntKind.bits]; omega)))))) ?_) <;> (try refine p_a (h:=h0b ?_))))
  exact h2u (k + 1, iand x kk) ⟨⟨by simp; omega, by simp; omega, hb2.out⟩, by simp; omega⟩ (by (focus (repeat (first | exact Sub.nil | refine Sub.cons rfl ?_)))) c_27
structure Prt.small (p : Prt) : Prop where
 ok : p.ok
 to : 0 ≤ p.to ∧ p.to ≤ 200
 els : 0 ≤ p.els ∧ p.els ≤ 200
theorem small_app {a b : List Prt} (ha : ∀ p ∈ a, p.small) (hb : ∀ p ∈ b, p.small) : ∀ p ∈ a ++ b, p.small := by
 intro p hp
 rcases List.mem_append.1 hp with h | h
 ·exact ha p h
 ·exact hb p h
theorem small_one {p : Prt} (h : p.small) : ∀ q ∈ [p], q.small := by
 intro q hq
 rw [List.mem_singleton.1 hq]; exact h
theorem small_of {k t e : Int} {i : Ins} (hk : 0 ≤ k ∧ k < 256) (ht : 0 ≤ t ∧ t ≤ 200) (he : 0 ≤ e ∧ e ≤ 200) (hi : i.ok) : (⟨k, t, e, i⟩ : Prt).small :=
 ⟨⟨hk, by dsimp only; omega, by dsimp only; omega, hi⟩, ht, he⟩
theorem zI_ok : zI.ok := ⟨by decide, by decide, by decide, by decide⟩
theorem small_tl1 (pad n : Nat) (hn : n ≤ 6) : ∀ p ∈ tl1 pad n, p.small := by
 unfold tl1
 refine small_app ?_ ?_
 ·intro p hp
  rw [List.eq_of_mem_replicate hp]
  exact small_of (by omega) (by omega) (by omega) ⟨by decide, by decide, by decide, by decide⟩
 ·intro p hp
  rcases List.mem_cons.1 hp with rfl | h
  ·exact small_of (by omega) (by omega) (by omega) zI_ok
  ·split at h
   ·rw [List.mem_singleton.1 h]
    exact small_of (by omega) (by omega) (by omega) ⟨by dsimp only; omega, by dsimp only; omega, by dsimp only; omega, by dsimp only; omega⟩
   ·simp at h
theorem small_tails (pad n : Nat) (hn : n ≤ 6) : ∀ p ∈ h6h pad n, p.small := by
 induction n with
 | zero => intro p hp; simp [h6h] at hp
 | succ n ih =>
  rw [h6h]
  exact small_app (ih (by omega)) (small_tl1 pad (n + 1) hn)
theorem small_heads (l : List SPt) (hl : ∀ p ∈ l, p.ok) (i : Nat) (hi : i + l.length ≤ 60) : ∀ p ∈ h5r l i, p.small := by
 induction l generalizing i with
 | nil => intro p hp; simp [h5r] at hp
 | cons q r ih =>
  have hq := hl q (List.mem_cons_self ..)
  have hh := hq.how
  have ht := hq.to
  have hk := hq.k
  rw [List.length_cons] at hi
  rw [h5r]
  refine small_app ?_ (ih (fun p hp => hl p (List.mem_cons_of_mem _ hp)) (i + 1) (by omega))
  unfold hd1
  split
  ·exact small_one (small_of (by omega) (by omega) (by omega) ⟨by dsimp only; omega, by dsimp only; omega, by dsimp only; omega, by dsimp only; omega⟩)
  split
  ·exact small_one (small_of (by omega) (by omega) (by omega) zI_ok)
  ·intro p hp
   have hc : 0 ≤ ifCode q.how ∧ ifCode q.how < 65536 := by unfold ifCode; (repeat' split) <;> omega
   have h1 : 0 ≤ ifTo q i ∧ ifTo q i ≤ 200 := by unfold ifTo; split <;> omega
   have h2 : 0 ≤ ifOt q i ∧ ifOt q i ≤ 200 := by unfold ifOt; split <;> omega
   rcases List.mem_cons.1 hp with rfl | h
   ·exact small_of (by omega) h1 h2 ⟨hc, by dsimp only; omega, by dsimp only; omega, by dsimp only; omega⟩
   ·rw [List.mem_singleton.1 h]
    exact small_of (by omega) (by omega) (by omega) zI_ok
theorem partsF_small (l : List SPt) (hl : ∀ p ∈ l, p.ok) (pad : Nat) : ∀ p ∈ partsF l pad, p.small := by
 unfold partsF
 refine small_app (small_heads _ (fun p hp => hl p (List.mem_of_mem_take hp)) 0 (by rw [List.length_take]; omega)) (small_app (small_tails pad 6 (Nat.le_refl _)) (small_one ?_))
 exact small_of (by omega) (by omega) (by omega) ⟨by decide, by decide, by decide, by decide⟩
theorem tidy_all : ∀ (n : Nat) (l : List Prt), l.length ≤ n → (∀ p ∈ l, p.ok) → (∀ p ∈ tidy l, p.ok) ∧ (tidy l).length ≤ l.length := by
 intro n
 induction n with
 | zero =>
  intro l hn hl
  have h1 := once_len l
  have h2 := once_ok hl
  rw [tidy, if_pos (by omega)]
  exact ⟨h2, h1⟩
 | succ n ih =>
  intro l hn hl
  have h1 := once_len l
  have h2 := once_ok hl
  by_cases h : (once l).length = l.length
  ·rw [tidy, if_pos h]; exact ⟨h2, h1⟩
  ·rw [tidy, if_neg h]
   obtain ⟨h3, h4⟩ := ih (once l) (by omega) h2
   exact ⟨h3, by omega⟩
theorem runGo_le (l : List Ins) (f : Nat) (m : Mch) (n : Nat) : (h5u l f m n).2 ≤ n + f := by
 induction f generalizing m n with
 | zero => exact Nat.le_refl _
 | succ f ih =>
  rw [h5u]
  split
  ·dsimp only; omega
  ·have := ih (stp { m with pos := m.pos + 1 } (l.getD m.pos.toNat ⟨0, 0, 0, 0⟩)) (n + 1)
   omega
theorem runF_le (l : List Ins) (r : Rec) : (runF l r).2 ≤ l.length := by
 have := runGo_le l l.length (m0 r) 0
 unfold runF
 dsimp only
 omega
theorem rec_len {r : Rec} (h : r.ok) : r.cells.length = 9 := by simp [Rec.cells, h.len]
def flatR (l : List Rec) : List Value := l.flatMap Rec.cells
theorem flatR_at {l : List Rec} (hl : ∀ r ∈ l, r.ok) (k : Nat) (h : k < l.length) : ((flatR l).drop (k * 9)).take 9 = (l[k]).cells := by
 induction l generalizing k with
 | nil => simp at h
 | cons i l ih =>
  have h2 := rec_len (hl i (List.mem_cons_self ..))
  have hf : flatR (i :: l) = i.cells ++ flatR l := rfl
  cases k with
  | zero => rw [hf, Nat.zero_mul, List.drop_zero, ← h2, List.take_left]; rfl
  | succ k =>
   have h1 := ih (fun r hr => hl r (List.mem_cons_of_mem _ hr)) k (by simpa using h)
   rw [hf, show (k + 1) * 9 = i.cells.length + k * 9 by rw [h2]; omega, ← List.drop_drop, List.drop_left]
   exact h1
theorem lit4_get (x : Int) : ∃ v : Nat, v ≤ 260 ∧ #[Value.int .i64 0, .int .i64 1, .int .i64 40, .int .i64 260].toList[(x % 4).toNat]? = some (.int .i64 (v : Nat)) := by
 have : x % 4 = 0 ∨ x % 4 = 1 ∨ x % 4 = 2 ∨ x % 4 = 3 := by omega
 rcases this with h | h | h | h <;> rw [h]
 ·exact ⟨0, by omega, rfl⟩
 ·exact ⟨1, by omega, rfl⟩
 ·exact ⟨40, by omega, rfl⟩
 ·exact ⟨260, by omega, rfl⟩
structure Zk (LL : List Blk) (x z : List Prt) (az : Option Addr) : Prop where
 ok : ∀ p ∈ z, p.ok
 len : z.length ≤ 100000
 sl : Sli LL az z.length 7 (h3z z)
 mkz : make z = (0, (co z).reverse)
 ck : check (co z).reverse = (0, 0)
 iok : ∀ i ∈ (co z).reverse, i.ok
 says : ∀ r v, Big r x 0 v → (runF (co z).reverse r).1 = v
theorem zk_of {LL : List Blk} {x z : List Prt} {az : Option Addr} (hz : Right z) (hk : ∀ p ∈ z, p.ok) (hl : z.length ≤ 100000) (hw : wt z ≤ 4096) (hs : Sli LL az z.length 7 (h3z z)) (hb : ∀ r a v, Big r x a v → Big r z a v) : Zk LL x z az := by
 obtain ⟨h1, h2, h3⟩ := make_fit hz.ok hz.good hk hz.lr hw
 exact ⟨hk, hl, hs, h1, h2, h3, fun r v h => make_says hz.ok hz.good hz.lr hw (hb r 0 v h)⟩
set_option maxHeartbeats 4000000 in
theorem jumpMakes_c {S w0 L} (l : List SPt) (hl : ∀ p ∈ l, p.ok) (hm : l.length ≤ maxLen) (a : Option Addr) (cap : Nat) (hs : Sli L a l.length 6 (flatQ l)) (pad : Int) (hp : 0 ≤ pad ∧ pad < 256) (rs : List Rec) (hr : ∀ r ∈ rs, r.ok) (hm2 : rs.length ≤ maxLen) (a2 : Option Addr) (cap2 : Nat) (hs2 : Sli L a2 rs.length 9 (flatR rs)) :
  Fn Try.prog 6 #[.slice a l.length cap, .int .u8 pad, .slice a2 rs.length cap2] S w0 L fun u L' => u = .bool true ∧ L = L' := by
 have hr' := Lib.hid hr
 unfold maxLen at hm2
 by_cases h6 : 6 < rs.length
 ·clear hl hr
  refine Fn3 Try.func6 Try.ntmps6 rfl rfl ?_
  repeat' (first | refine h1k ?_ | refine h0k ?_ | refine h1n ?_ | refine h1j ?_ | refine h2v ?_ | refine h0o rfl ?_ | refine h0n rfl ?_ | (refine gR 0 (p_a (h:=h0b ?_))) | (refine gR 1 ?_ <;> (try refine h0a ?_; (refine h1i (F:=22) (by kernel_rfl) rfl rfl (awake13_c) ?_; rintro _ _ ⟨rfl, rfl⟩)) <;> (try refine p_e (by apply E_un; exact rfl; exact h4b) (h:=h0b ?_))) | (refine gR 3 (p_m (h:=p_e (by apply h0m; exact rfl; exact (fun _ => BigFrame.builtin_len ..); apply h0i Try.underlying95; exact h4a) (h:=p_e (q_b (r:=by exact h5g q_o)) (h:=h0b ?_))))) | (refine gR 4 (p_a (h:=h0b ?_))))
  (refine h2k Try.results6 (.tmp rfl .nil) ?_)
  exact ⟨_, ⟨rfl, rfl⟩, by intro w H; refine H.sub ?_; (try simp only [zzC, zzN]); repeat (exact List.Sublist.refl _)⟩
 obtain ⟨pn, hpn, hg4⟩ := lit4_get pad
 have hpt := fun (M : List Blk) (h : Sli M a l.length 6 (flatQ l)) => parts_c (S:=S) (w0:=w0) (L:=M) l hl hm a cap h pn (by omega)
 have hxk : ∀ p ∈ partsF l pn, p.ok := fun p hp => (partsF_small l hl pn p hp).ok
 have hxl := partsF_len l pn
 have hxr := right_parts hl pn
 have hxw := wt_parts l pn (by omega)
 obtain ⟨hyr, hyw, hyl, hyb⟩ := tidy_right _ (partsF l pn) (Nat.le_refl _) hxr
 obtain ⟨hyk, _⟩ := tidy_all _ (partsF l pn) (Nat.le_refl _) hxk
 generalize partsF l pn = x at *
 have htx := fun (M : List Blk) (a : Option Addr) (cap : Nat) (h : Sli M a x.length 7 (h3z x)) => tidy_c (S:=S) (w0:=w0) x hxk (by omega) a cap h
 generalize tidy x = y at *
 have hsp := (hs.up ⟨true, 0, .cells #[] 0 (0, 0)⟩)
 clear hsp
 have hzx := Lib.hid (fun (LL : List Blk) (az : Option Addr) (h : Sli LL az x.length 7 (h3z x)) => zk_of (x:=x) hxr hxk (by omega) hxw h (fun _ _ _ h => h))
 have hzy := Lib.hid (fun (LL : List Blk) (az : Option Addr) (h : Sli LL az y.length 7 (h3z y)) => zk_of (x:=x) hyr hyk (by omega) (by omega) h hyb)
 have hrun := Lib.hid (fun (r : Rec) (hr : r.ok) => (big_all r x.length x 0 (Nat.le_refl _) hxr.ok).imp fun v hb => (⟨hb, fun (M : List Blk) (a : Option Addr) (cap : Nat) (h : Sli M a x.length 7 (h3z x)) => prun_c (S:=S) (w0:=w0) (L:=M) x hxk (by omega) hxr.ok hxr.good r hr v hb a cap h⟩ : Big r x 0 v ∧ _))
 clear hxr hxk hxw hyr hyk hyw hyb hl
 refine Fn3 Try.func6 Try.ntmps6 rfl rfl ?_
 repeat' (first | (refine h4s (id:=9) ?_) | refine h1k ?_ | refine h0k ?_ | refine h1j ?_ | refine h0n rfl ?_ | (refine gR 0 (p_a (h:=h0b ?_))) | (refine gR 1 ?_ <;> (try refine h0a ?_; (refine h1i (F:=22) (by kernel_rfl) rfl rfl (awake13_c) ?_; rintro _ _ ⟨rfl, rfl⟩)) <;> (try refine p_e (by apply E_un; exact rfl; exact h4b) (h:=h0b ?_))) | (refine gR 3 (p_m (h:=p_e (by apply h0m; exact rfl; exact (fun _ => BigFrame.builtin_len ..); apply h0i Try.underlying95; exact h4a) (h:=p_e (q_b (r:=by exact h4j q_o)) (h:=h0b ?_))))) | (refine gR 5 (q_m ?_) <;> (try refine h0a ?_; (refine h0r (t:=97) (m:=4) (e:=3) (fun vs => (match vs with | [(_, x0), (_, x1), (_, x2), (_, x3)] => [x0, x1, x2, x3] | _ => [])) rfl rfl (fun w => by kernel_rfl) ?_; intro nb hnb; (try simp only [Value.cells]); (try simp only [zzC, zzN]))) <;> (try refine p_m (h:=p_e (q_b (r:=by apply h1x; omega; omega; exact c_9)) (h:=p_e (by apply h0f; exact rfl; exact rfl; (focus (apply h1z Try.underlying97 sz_3; omega; omega; exact c_2))) (h:=q_e (by apply h0l (t:=3); exact rfl; exact fd0; kernel_rfl; kernel_rfl; (with_reducible assumption)) ?_)))) <;> (try refine h0a ?_; (refine h1i (F:=27) (by kernel_rfl) rfl rfl (hpt _ (by (focus (repeat (first | (with_reducible assumption) | apply Sli.up))))) ?_; rintro _ _ ⟨e, hown, rfl⟩; obtain ⟨ax, cx, rfl, hcx, hsx⟩ := own_sla hown)) <;> (try refine p_a (h:=h0b ?_))) | (refine gR 6 (q_m ?_) <;> (try refine h0a ?_; (refine h1i (F:=28) (by kernel_rfl) rfl rfl (htx _ _ _ (hsx _)) ?_; rintro _ _ ⟨e2, hown2, rfl⟩; obtain ⟨ay, cy, rfl, hcy, hsy⟩ := own_sla hown2)) <;> (try refine p_a (h:=h0b ?_))) | (refine gR 7 (p_m (h:=p_e (by apply h0m; exact rfl; exact (fun _ => BigFrame.builtin_len ..); apply h0i Try.underlying82; exact h4a) (h:=p_m (h:=p_e (by apply h0m; exact rfl; exact (fun _ => BigFrame.builtin_len ..); apply h0i Try.underlying82; exact h4a) (h:=p_e (q_b (r:=by exact h4j q_o)) (h:=h0b ?_))))))))
 refine ⟨?_⟩
 clear hpt htx hown hown2 hg4
 have hX := (hsx (⟨true, nb, .cells #[.int .i64 0, .int .i64 1, .int .i64 40, .int .i64 260] 3 (0, 0)⟩ :: L)).upA e2
 have hY := hsy (e ++ ⟨true, nb, .cells #[.int .i64 0, .int .i64 1, .int .i64 40, .int .i64 260] 3 (0, 0)⟩ :: L)
 have hR := ((hs2.up ⟨true, nb, .cells #[.int .i64 0, .int .i64 1, .int .i64 40, .int .i64 260] 3 (0, 0)⟩).upA e).upA e2
 have hLs : L.Sublist (e2 ++ (e ++ ⟨true, nb, .cells #[.int .i64 0, .int .i64 1, .int .i64 40, .int .i64 260] 3 (0, 0)⟩ :: L)) := ((List.sublist_cons_self _ L).trans (List.sublist_append_right e _)).trans (List.sublist_append_right e2 _)
 clear hsx hsy hnb
 generalize e2 ++ (e ++ ⟨true, nb, .cells #[.int .i64 0, .int .i64 1, .int .i64 40, .int .i64 260] 3 (0, 0)⟩ :: L) = LL at *
 have zx := Lib.hid (hzx.out LL ax hX)
 have zy := Lib.hid (hzy.out LL ay hY)
 clear hzx hzy hY
 repeat' (first | refine h0k ?_ | refine h0q ?_ | (refine gR 9 (p_m (h:=q_m ?_)) <;> (try refine h0a ?_; (refine h0r (t:=99) (m:=2) (e:=82) (fun vs => (match vs with | [(_, x0), (_, x1)] => [x0, x1] | _ => [])) rfl rfl (fun w => by kernel_rfl) ?_; intro nb hnb; (try simp only [Value.cells]); (try simp only [zzC, zzN]))) <;> (try refine p_e (by apply h0m; exact rfl; exact (fun _ => BigFrame.builtin_len ..); apply h0i Try.underlying99; exact h4a) (h:=p_m (h:=h0b ?_)))))
 obtain ⟨nbP, rfl⟩ : ∃ x, x = nb := ⟨_, rfl⟩
 refine h4g (γ:=Nat) (fun j => j ≤ 2) (fun j => 2 - j) (fun j => [(42, .int .i64 (j : Nat))]) [(2, _), (7, _), (40, _), (41, _)] (fun _ => ⟨true, nbP, .cells #[.slice ax x.length cx, .slice ay y.length cy] 82 (0, 0)⟩ :: LL) 0 (.cons rfl (.cons rfl (.cons rfl (.cons rfl .nil)))) (by omega) (by (focus (repeat (first | exact Sub.nil | refine Sub.cons rfl ?_)))) (fun _ H => H) ?_
 rintro j (hj : j ≤ 2)
 dsimp only [List.cons_append, List.nil_append]
 by_cases hj2 : j = 2
 ·subst hj2
  repeat' (first | refine h1k ?_ | refine h0k ?_ | refine h1y ?_ | refine h1m ?_ | refine h1t ?_ | refine h2p ?_ | refine h2v ?_ | refine h0n rfl ?_ | (refine gR 10 (p_e (q_b (r:=by exact h1q q_o)) (h:=h0b ?_))) | (refine gR 26 (p_a (h:=h0b ?_))))
  (refine h2k Try.results6 (.tmp rfl .nil) ?_)
  exact ⟨_, ⟨rfl, rfl⟩, fun w H => H.tail.sub hLs⟩
 repeat' (first | (refine h4s (id:=11) ?_) | refine h1k ?_ | refine h0k ?_ | refine h0q ?_ | refine h1j ?_ | refine h0o rfl ?_ | (refine gR 10 (p_e (q_b (r:=by exact h0t q_o)) (h:=h0b ?_))))
 refine ⟨?_⟩
 refine G_meetk (γ:=List Prt × Option Addr × Nat) (fun g => Zk LL x g.1 g.2.1) (fun g => [(10, .slice g.2.1 g.1.length g.2.2)]) [(2, _), (7, _), (40, _), (41, _), (42, _)] (fun _ => ⟨true, nbP, .cells #[.slice ax x.length cx, .slice ay y.length cy] 82 (0, 0)⟩ :: LL) (.cons rfl (.cons rfl (.cons rfl (.cons rfl (.cons rfl .nil))))) ?_ ?_
 ·by_cases hj0 : j = 0
  ·subst hj0
   repeat' (first | refine h1g ?_ | (refine gR 11 (p_e (by apply h0f; exact rfl; exact rfl; (focus (apply h1z Try.underlying99 sz_82; omega; omega; exact c_2))) (h:=p_e q_l (h:=p_a (h:=h0b ?_))))))
   exact h2u (x, ax, cx) zx.out (by (focus (repeat (first | exact Sub.nil | refine Sub.cons rfl ?_)))) (fun _ H => H)
  ·obtain rfl : j = 1 := by omega
   repeat' (first | refine h1g ?_ | (refine gR 11 (p_e (by apply h0f; exact rfl; exact rfl; (focus (apply h1z Try.underlying99 sz_82; omega; omega; exact c_2))) (h:=p_e q_l (h:=p_a (h:=h0b ?_))))))
   exact h2u (y, ay, cy) zy.out (by (focus (repeat (first | exact Sub.nil | refine Sub.cons rfl ?_)))) (fun _ H => H)
 clear zx zy
 rintro ⟨z, az, cz⟩ hz
 obtain ⟨hzk, hzl, hzs, hmk, hck, hik, hsay⟩ := hz
 dsimp only at hzk hzl hzs hmk hck hik hsay
 dsimp only [List.cons_append, List.nil_append]
 have hmkc := fun (M : List Blk) (h : Sli M az z.length 7 (h3z z)) => make_c (S:=S) (w0:=w0) (L:=M) z hzk h6j az cz h
 rw [hmk] at hmkc
 dsimp only at hmkc
 have hlen := check_len hck
 generalize (co z).reverse = code at *
 have hld := fun (M : List Blk) (a : Option Addr) (c : Nat) (h : Sli M a code.length 4 (flat code)) => vload_ok (S:=S) (w0:=w0) (L:=M) code hik a c h hck
 clear hmk hck hzk
 repeat' (first | (refine h4s (id:=18) ?_) | refine h1k ?_ | refine h0k ?_ | refine h1j ?_ | refine h0n rfl ?_ | (refine gR 12 (q_m ?_) <;> (try refine h0a ?_; (refine h1i (F:=24) (by kernel_rfl) rfl rfl (hmkc _ (hzs.up _)) ?_; rintro _ _ ⟨_, e3, rfl, hown3, rfl⟩; obtain ⟨av, cv, rfl, hcv, hsv⟩ := own_sla hown3)) <;> (try refine p_m (h:=p_x (h:=p_x (h:=p_a (h:=p_a (h:=h0b ?_))))))) | (refine gR 13 (q_m ?_) <;> (try refine q_e (by exact q_b (r:=by refine h4c ?_; first | rfl | (with_reducible assumption) | (decide; done) | omega)) ?_) <;> (try refine h0b ?_)) | (refine gR 15 (q_m ?_) <;> (try refine h0a ?_; (refine h1i (F:=10) (by kernel_rfl) rfl rfl (hld _ _ _ (hsv _)) ?_; rintro _ _ ⟨n1, g1, c1, cur1, hc1, rfl, rfl⟩)) <;> (try refine p_m (h:=p_x (h:=q_x ?_))) <;> (try refine h0a ?_; (refine h0u (t:=38) rfl Try.zeroValue38 ?_; intro nb hnb; (try simp only [Value.cells]))) <;> (try refine q_a ?_) <;> (try refine h0a ?_; (refine q_W ?_)) <;> (try refine h0b ?_)) | (refine gR 16 (q_e (q_L h4f) ?_) <;> (try refine q_e (by exact h1s (t:=38) (fun vs => (match vs with | [] => [Value.int .i64 0, Value.int .i64 0] | _ => [])) rfl (fun w => by kernel_rfl)) ?_; (try simp only [Value.cells]); (try simp only [zzC, zzN])) <;> (try refine p_e (by apply E_bin_agg (op:=.neq) (t:=38); exact rfl; exact rfl; kernel_rfl; (apply rb_neq_agg Try.underlying38 (by kernel_rfl); apply EqF.int; (focus (simp)); exact Try.underlying3; exact rfl; exact rfl; exact rfl; exact EqF.int1 (by simp) Try.underlying30 rfl rfl rfl)) (h:=h0b ?_))))
 refine ⟨?_⟩
 clear hmkc hld
 refine G_blocks (L' := flB n1 (.slice (some ⟨g1, 0, none⟩) code.length c1) 0 0 :: srB g1 cur1 :: (e3 ++ ⟨true, nbP, .cells #[.slice ax x.length cx, .slice ay y.length cy] 82 (0, 0)⟩ :: LL)) (fun w H => H.tail) ?_
 repeat' (first | refine h0k ?_ | refine h0q ?_ | (refine gR 18 (p_m (h:=p_e (by apply h0m; exact rfl; exact (fun _ => BigFrame.builtin_len ..); apply h0i Try.underlying95; exact h4a) (h:=p_m (h:=h0b ?_))))))
 refine h4g (γ:=Nat × Nat) (fun g => g.1 ≤ rs.length ∧ g.2 ≤ g.1 * 4096) (fun g => rs.length - g.1) (fun g => [(63, .int .i64 (g.1 : Nat))]) [(2, _), (7, _), (13, _), (40, _), (41, _), (42, _), (61, _), (62, _)]
  (fun q => flB n1 (.slice (some ⟨g1, 0, none⟩) code.length c1) (q.1 : Nat) (q.2 : Nat) :: srB g1 cur1 :: (e3 ++ ⟨true, nbP, .cells #[.slice ax x.length cx, .slice ay y.length cy] 82 (0, 0)⟩ :: LL)) (0, 0) (.cons rfl (.cons rfl (.cons rfl (.cons rfl (.cons rfl (.cons rfl (.cons rfl (.cons rfl .nil)))))))) ⟨Nat.zero_le _, Nat.zero_le _⟩ (by (focus (repeat (first | exact Sub.nil | refine Sub.cons rfl ?_)))) (by intro w H; refine Sel.out ?_ H; (try simp only [zzC, zzN]); repeat (exact Sel.refl _)) ?_
 rintro ⟨k, t⟩ ⟨hk : k ≤ rs.length, ht : t ≤ k * 4096⟩
 dsimp only [List.cons_append, List.nil_append]
 by_cases hkl : k < rs.length
 rotate_left
 ·repeat' (first | refine h1k ?_ | refine h0k ?_ | refine h1g ?_ | refine h1y ?_ | refine h1m ?_ | refine h0y ?_ | refine h1t ?_ | refine h2p ?_ | refine h0n rfl ?_ | (refine gR 19 (p_e (q_b (r:=by exact h1q q_o)) (h:=h0b ?_))) | (refine gR 25 ?_ <;> (try refine q_e (q_b (r:=by apply h0w; exact c_9; (focus (refine IntWalk.i64_in _ ?_; omega)))) ?_) <;> (try refine p_m (h:=h0b ?_))))
  exact h2u (j + 1) ⟨by omega, by omega⟩ (by (focus (repeat (first | exact Sub.nil | refine Sub.cons rfl ?_)))) (fun w H => H.tail.tail.dropA)
 have hR2 := ((((hR.up ⟨true, nbP, .cells #[.slice ax x.length cx, .slice ay y.length cy] 82 (0, 0)⟩).upA e3).up (srB g1 cur1)).up (flB n1 (.slice (some ⟨g1, 0, none⟩) code.length c1) (k : Nat) (t : Nat)))
 obtain ⟨i0, q, b, off, cs, T, fr, rfl, hi0, hsz, hx⟩ := hR2.elem hkl
 rw [flatR_at hr'.out k hkl] at hx
 have hrk := hr'.out _ (List.getElem_mem hkl)
 generalize rs[k] = r at *
 obtain ⟨v, hb, hpr⟩ := hrun.out r hrk
 have hsv2 := hsay r v hb
 have hst := runF_le code r
 have hk20 : k ≤ 6 := by omega
 have ht20 : t ≤ 6 * 4096 := Nat.le_trans ht (Nat.mul_le_mul_right _ hk20)
 have hr1 := fun (L : List Blk) (i j : Nat) (h1 : L[i]? = some (flB n1 (.slice (some ⟨g1, 0, none⟩) code.length c1) (k : Nat) (t : Nat))) (h2 : (L.eraseIdx i)[j]? = some (srB g1 cur1)) => run_d (S:=S) (w0:=w0) (r:=r) h1 h2 hik (by omega) hc1 hrk (by omega) (by omega)
 generalize runF code r = rf at *
 obtain ⟨act, steps⟩ := rf
 dsimp only at hr1 hst hsv2
 subst hsv2
 clear hb
 have hxs := (hX.up ⟨true, nbP, .cells #[.slice ax x.length cx, .slice ay y.length cy] 82 (0, 0)⟩).upA e3
 obtain ⟨num, arch, at_, args⟩ := r
 obtain ⟨b0, b1, b2, b3, b4, b5, rfl⟩ : ∃ b0 b1 b2 b3 b4 b5, args = [b0, b1, b2, b3, b4, b5] := by
  match args, hrk.len with
  | [_, _, _, _, _, _], _ => exact ⟨_, _, _, _, _, _, rfl⟩
 have hcl : Rec.cells ⟨num, arch, at_, [b0, b1, b2, b3, b4, b5]⟩ = [.int .u32 num, .int .u32 arch, .int .u64 at_, .int .u64 b0, .int .u64 b1, .int .u64 b2, .int .u64 b3, .int .u64 b4, .int .u64 b5] := rfl
 simp only [hcl] at hx hr1 hpr
 clear hcl hrk
 repeat' (first | refine h1k ?_ | refine h0k ?_ | refine h1g ?_ | refine h0y ?_ | refine h0q ?_ | refine h1j ?_ | refine h0o rfl ?_ | refine h0n rfl ?_ | (refine gR 19 (p_e (q_b (r:=by exact h0t q_o)) (h:=h0b ?_))) | (refine gR 20 (p_e (by apply h0f; exact rfl; exact rfl; (focus (apply h1z Try.underlying95 sz_26; omega; omega; exact c_2))) (h:=q_e (by apply h0x (t:=26); exact rfl; exact c_25; kernel_rfl; kernel_rfl; exact sz_26; (with_reducible assumption); (with_reducible assumption)) ?_)) <;> (try refine h0a ?_; (refine h0u (t:=26) rfl Try.zeroValue26 ?_; intro nb hnb; (try simp only [Value.cells]))) <;> (try refine h0a ?_; (refine q_W ?_)) <;> (try refine h0b ?_)) | (refine gR 21 (p_m (h:=q_e (q_L sz_26) ?_)) <;> (try refine h0a ?_; (refine q_c 26 (c:=by apply hr1; exact c_12; exact c_12) (h:=?_); rintro _ _ ⟨rfl, rfl⟩; (try simp only [zzE, zzF]))) <;> (try refine p_m (h:=p_x (h:=p_x (h:=p_a (h:=p_a (h:=h0b ?_))))))) | (refine gR 22 (p_m (h:=p_m (h:=q_e (q_L sz_26) ?_))) <;> (try refine h0a ?_; (refine h1i (F:=29) (by kernel_rfl) rfl rfl (hpr _ _ _ (by (focus (repeat (first | (with_reducible assumption) | apply Sli.up))))) ?_; rintro _ _ ⟨rfl, rfl⟩)) <;> (try refine q_e (by exact q_b (r:=by refine h4c ?_; first | rfl | (with_reducible assumption) | (decide; done) | omega)) ?_) <;> (try refine h0b ?_)) | (refine gR 24 ?_ <;> (try refine q_e (q_b (r:=by apply h0w; exact c_9; (focus (refine IntWalk.i64_in _ ?_; omega)))) ?_) <;> (try refine p_m (h:=h0b ?_))))
 exact h2u (k + 1, t + steps) ⟨⟨by dsimp only; omega, by dsimp only; omega⟩, by dsimp only; omega⟩ (by (focus (repeat (first | exact Sub.nil | refine Sub.cons rfl ?_)))) (by intro w H; refine Sel.out ?_ H; (try simp only [zzC, zzN]); repeat (first | exact Sel.refl _ | (apply Sel.cons; exact fd0; (try simp only [zzE, zzF])) | apply Sel.drop))
theorem wf_u8 {a : Int} (h : (Lit.int .u8 a).wf = true) : 0 ≤ a ∧ a < 256 := by
 simp [Lit.wf, IntKind.min, IntKind.max, IntKind.signed, IntKind.bits] at h; omega
theorem wf_u16 {a : Int} (h : (Lit.int .u16 a).wf = true) : 0 ≤ a ∧ a < 65536 := by
 simp [Lit.wf, IntKind.min, IntKind.max, IntKind.signed, IntKind.bits] at h; omega
theorem wf_u32 {a : Int} (h : (Lit.int .u32 a).wf = true) : 0 ≤ a ∧ a < 4294967296 := by
 simp [Lit.wf, IntKind.min, IntKind.max, IntKind.signed, IntKind.bits] at h; omega
theorem wf_u64 {a : Int} (h : (Lit.int .u64 a).wf = true) : 0 ≤ a ∧ a < 18446744073709551616 := by
 simp [Lit.wf, IntKind.min, IntKind.max, IntKind.signed, IntKind.bits] at h; omega
theorem HP.read {w : World} {L : List Blk} (h : ∀ p ∈ L, p.wr = false ∧ w.heap[p.b]? = some p.o) : HP [] w w L :=
 ⟨rfl, rfl, rfl, Nat.le_refl _, fun _ _ _ => rfl, fun p hp => (h p hp).2, fun p hp hw => by simp [(h p hp).1] at hw,
  List.pairwise_of_forall_mem_list fun p hp q hq hw => by rcases hw with hw | hw <;> simp [(h p hp).1, (h q hq).1] at hw⟩
theorem mapM_some {α β : Type} {f : α → Option β} : ∀ {l : List α} {ys : List β}, l.mapM f = some ys → ∀ (i : Nat) (x : α), l[i]? = some x → ∃ y, f x = some y ∧ ys[i]? = some y
 | [], _, _, i, x, hx => by simp at hx
 | a :: l, ys, h, i, x, hx => by
  simp only [List.mapM_cons, Option.pure_def, Option.bind_eq_bind, Option.bind_eq_some_iff] at h
  obtain ⟨y, hy, ys', hys, e⟩ := h
  obtain rfl := Option.some.inj e
  cases i with
  | zero => simp at hx; subst hx; exact ⟨y, hy, by simp⟩
  | succ i => simp at hx; simpa using mapM_some hys i x hx
theorem mapM_len {α β : Type} {f : α → Option β} : ∀ {l : List α} {ys : List β}, l.mapM f = some ys → ys.length = l.length
 | [], ys, h => by simp at h; simp [h]
 | a :: l, ys, h => by
  simp only [List.mapM_cons, Option.pure_def, Option.bind_eq_bind, Option.bind_eq_some_iff] at h
  obtain ⟨y, hy, ys', hys, e⟩ := h
  obtain rfl := Option.some.inj e
  simp [mapM_len hys]
section
variable {H : Type} {enc : TypeId × Value → H} {P : Program} {w : World} {base : Nat} {spare : Nat → Bool} {held : Bool}
theorem trod_fields {t : TypeId} {fs : Array Field} {fuel : Nat} {cs : List Value} {x : DataW H × List MemPlace} (ht : P.underlying t = some (.struct fs))
  (h : DataW.trod enc P w base spare held fuel t cs = some x) :
  ∃ n, fuel = n + 1 ∧ cs.length = P.cellsOf t ∧ ∀ (i : Nat) (f : Field), fs.toList[i]? = some f → ∃ y, DataW.trod enc P w base spare held n f.type ((cs.drop f.offset).take (P.cellsOf f.type)) = some y := by
 cases fuel with
 | zero => simp [DataW.trod] at h
 | succ n =>
  refine ⟨n, rfl, ?_⟩
  unfold DataW.trod at h
  simp only [ht] at h
  split at h
  ·rename_i hlen
   simp only [Option.map_eq_some_iff] at h
   obtain ⟨xs, hxs, _⟩ := h
   exact ⟨hlen, fun i f hf => let ⟨y, hy, _⟩ := mapM_some hxs i f hf; ⟨y, hy⟩⟩
  ·simp at h
theorem trod_slice {t e : TypeId} {fuel : Nat} {a : Option Addr} {len cap : Nat} {x : DataW H × List MemPlace} (ht : P.underlying t = some (.slice e))
  (h : DataW.trod enc P w base spare held fuel t [.slice a len cap] = some x) :
  (a = none ∧ len = 0 ∧ cap = 0) ∨
  ∃ p n, a = some p ∧ fuel = n + 1 ∧ len ≤ cap ∧ cap ≤ maxLen ∧ ∀ i, i < len → ∃ cs y, w.cells? base (p.add (i * P.cellsOf e)) (P.cellsOf e) = some cs ∧ DataW.trod enc P w base spare held n e cs = some y := by
 cases fuel with
 | zero => simp [DataW.trod] at h
 | succ n =>
  cases a with
  | none =>
   left
   unfold DataW.trod at h
   simp only [ht] at h
   cases len <;> cases cap <;> simp_all
  | some p =>
   right
   unfold DataW.trod at h
   simp only [ht] at h
   split at h
   ·rename_i hc
    simp only [Option.bind_eq_some_iff] at h
    obtain ⟨elems, hel, _⟩ := h
    refine ⟨p, n, rfl, rfl, hc.2.1, hc.2.2, fun i hi => ?_⟩
    obtain ⟨y, hy, _⟩ := mapM_some hel i i (by simp [hi])
    simp only [Option.bind_eq_some_iff] at hy
    obtain ⟨cs, hcs, hy⟩ := hy
    exact ⟨cs, y, hcs, hy⟩
   ·simp at h
theorem cells?_get {a : Addr} {n : Nat} {cs : List Value} (h : w.cells? base a n = some cs) : base ≤ a.block ∧ cs.length = n ∧ ∀ j, j < n → w.cell? (a.add j) = cs[j]? := by
 unfold World.cells? at h
 split at h
 ·rename_i hb
  refine ⟨hb, by simpa using mapM_len h, fun j hj => ?_⟩
  obtain ⟨y, hy, hy'⟩ := mapM_some h j j (by simp [hj])
  rw [hy, hy']
 ·simp at h
theorem h3g {t : TypeId} {k : IntKind} {fuel : Nat} {c : Value} {y : DataW H × List MemPlace} (ht : P.underlying t = some (.int k)) (h : DataW.trod enc P w base spare held fuel t [c] = some y) :
  ∃ n, c = .int k n ∧ (Lit.int k n).wf = true := by
 cases fuel with
 | zero => simp [DataW.trod] at h
 | succ f =>
  unfold DataW.trod at h
  rw [ht] at h
  cases c <;> simp_all
theorem add_none (b off n : Nat) : (⟨b, off, none⟩ : Addr).add n = ⟨b, off + n, none⟩ := by unfold Addr.add; split <;> simp_all
theorem slice_block {t e : TypeId} {fuel : Nat} {a : Option Addr} {len cap : Nat} {x : DataW H × List MemPlace} (ht : P.underlying t = some (.slice e)) {sz : Nat} (hsz : P.cellsOf e = sz) (h0 : 0 < sz)
  (h : DataW.trod enc P w base spare held fuel t [.slice a len cap] = some x) (hlen : 0 < len) :
  ∃ b off acs T fr n, a = some ⟨b, off, none⟩ ∧ w.heap[b]? = some (.cells acs T fr) ∧ len ≤ cap ∧ cap ≤ maxLen ∧
   ∀ i, i < len → ∃ cs y, cs.length = sz ∧ DataW.trod enc P w base spare held n e cs = some y ∧ off + i * sz + sz ≤ acs.size ∧ acs.extract (off + i * sz) (off + i * sz + sz) = cs.toArray := by
 rcases trod_slice ht h with ⟨_, h1, _⟩ | ⟨p, n, rfl, _, hlc, hcm, hel⟩
 ·omega
 ·rw [hsz] at hel
  obtain ⟨cs0, y0, hc0, _⟩ := hel 0 hlen
  obtain ⟨_, hl0, hg0⟩ := cells?_get hc0
  obtain ⟨v, hv⟩ : ∃ v, cs0[0]? = some v := ⟨_, List.getElem?_eq_getElem (by omega)⟩
  have hcell := hg0 0 h0
  rw [hv] at hcell
  obtain ⟨b, off, spot⟩ := p
  have hsp : spot = none := by simpa [Addr.add] using World.cell?_spot hcell
  subst hsp
  simp only [add_none, Nat.zero_mul, Nat.add_zero] at hcell
  obtain ⟨acs, T, fr, hb⟩ : ∃ acs T fr, w.heap[b]? = some (.cells acs T fr) := by
   unfold World.cell? at hcell
   cases hq : w.heap[b]? with
   | none => simp [hq] at hcell
   | some ob =>
    cases ob with
    | cells acs T fr => exact ⟨acs, T, fr, rfl⟩
    | _ => simp [hq] at hcell
  refine ⟨b, off, acs, T, fr, n, rfl, hb, hlc, hcm, fun i hi => ?_⟩
  obtain ⟨cs, y, hcs, hy⟩ := hel i hi
  obtain ⟨_, hl, hg⟩ := cells?_get hcs
  have hget : ∀ j, j < sz → acs[off + i * sz + j]? = cs[j]? := by
   intro j hj
   have := hg j hj
   simp only [add_none] at this
   rw [cell_of_row w b _ acs T fr hb] at this
   exact this
  have hsize : off + i * sz + sz ≤ acs.size := by
   have := hget (sz - 1) (by omega)
   rw [List.getElem?_eq_getElem (by omega)] at this
   have h3 := Array.getElem?_eq_some_iff.1 this
   obtain ⟨h3, _⟩ := h3
   omega
  refine ⟨cs, y, hl, hy, hsize, ?_⟩
  apply Array.ext_getElem?
  intro j
  by_cases hj : j < sz
  ·rw [Array.getElem?_extract, if_pos (by omega), hget j hj]
   simp
  ·rw [Array.getElem?_extract, if_neg (by omega)]
   simp; omega
end
theorem lst_6 {cs : List Value} (h : cs.length = 6) : ∃ c0 c1 c2 c3 c4 c5, cs = [c0, c1, c2, c3, c4, c5] := by
 match cs, h with
 | [_, _, _, _, _, _], _ => exact ⟨_, _, _, _, _, _, rfl⟩
theorem lst_9 {cs : List Value} (h : cs.length = 9) : ∃ c0 c1 c2 c3 c4 c5 c6 c7 c8, cs = [c0, c1, c2, c3, c4, c5, c6, c7, c8] := by
 match cs, h with
 | [_, _, _, _, _, _, _, _, _], _ => exact ⟨_, _, _, _, _, _, _, _, _, rfl⟩
section
variable {H : Type} {enc : TypeId × Value → H} {P : Program} {w : World} {base : Nat} {spare : Nat → Bool} {held : Bool}
theorem trod_elems {n : Nat} {t e : TypeId} {fuel : Nat} {cs : List Value} {x : DataW H × List MemPlace} (ht : P.underlying t = some (.array n e)) (h : DataW.trod enc P w base spare held fuel t cs = some x) :
  ∃ m, fuel = m + 1 ∧ cs.length = P.cellsOf t ∧ ∀ i, i < n → ∃ y, DataW.trod enc P w base spare held m e ((cs.drop (i * P.cellsOf e)).take (P.cellsOf e)) = some y := by
 obtain ⟨xs, m, h1, _, h3, h4, h5⟩ := DataW.trod_array ht h
 exact ⟨m, h1, h3, fun i hi => ⟨xs[i]'(by omega), by rw [h5 i hi]; exact List.getElem?_eq_getElem (by omega)⟩⟩
def ROnly (w : World) (B : List Blk) : Prop := ∀ p ∈ B, p.wr = false ∧ w.heap[p.b]? = some p.o
theorem ROnly.nil {w : World} : ROnly w [] := by simp [ROnly]
theorem ROnly.app {w : World} {B C : List Blk} (h : ROnly w B) (h2 : ROnly w C) : ROnly w (B ++ C) := fun p hp => by
 rcases List.mem_append.1 hp with hp | hp
 ·exact h p hp
 ·exact h2 p hp
theorem HP.ro {w : World} {B : List Blk} (h : ROnly w B) : HP [] w w B := HP.read h
theorem Sli.app {L M : List Blk} {a : Option Addr} {len size : Nat} {cells : List Value} (h : Sli L a len size cells) : Sli (L ++ M) a len size cells := h.left
theorem slice_list {X : Type} {cells : X → List Value} {ok : X → Prop} {t e : TypeId} {sz fuel : Nat} {a : Option Addr} {len cap : Nat} {x : DataW H × List MemPlace} (ht : P.underlying t = some (.slice e)) (hsz : P.cellsOf e = sz) (h0 : 0 < sz)
  (hcl : ∀ x, ok x → (cells x).length = sz) (hel : ∀ n cs y, DataW.trod enc P w base spare held n e cs = some y → ∃ x, cs = cells x ∧ ok x) (h : DataW.trod enc P w base spare held fuel t [.slice a len cap] = some x) :
  ∃ (l : List X) (B : List Blk), l.length = len ∧ (∀ x ∈ l, ok x) ∧ Sli B a len sz (l.flatMap cells) ∧ ROnly w B ∧ len ≤ maxLen ∧ len ≤ cap ∧ cap ≤ maxLen := by
 by_cases hl : 0 < len
 ·obtain ⟨b, off, acs, T, fr, n, rfl, hb, h1, h2, hall⟩ := slice_block ht hsz h0 h hl
  have key : ∀ m, m ≤ len → ∃ l : List X, l.length = m ∧ (∀ x ∈ l, ok x) ∧ (acs.toList.drop off).take (m * sz) = l.flatMap cells := by
   intro m
   induction m with
   | zero => intro _; exact ⟨[], rfl, by simp, by simp⟩
   | succ m ih =>
    intro hm
    obtain ⟨l, e1, e2, e3⟩ := ih (by omega)
    obtain ⟨cs, y, hc1, hc2, hc3, hc4⟩ := hall m (by omega)
    obtain ⟨x, rfl, hx⟩ := hel _ _ _ hc2
    refine ⟨l ++ [x], by simp [e1], ?_, ?_⟩
    ·intro z hz
     rcases List.mem_append.1 hz with hz | hz
     ·exact e2 z hz
     ·rw [List.mem_singleton.1 hz]; exact hx
    ·rw [List.flatMap_append, ← e3, Nat.add_mul, Nat.one_mul, List.take_add, List.drop_drop]
     congr 1
     have := congrArg Array.toList hc4
     simp only [Array.toList_extract, List.extract_eq_take_drop] at this
     rw [Nat.add_sub_cancel_left] at this
     simpa using this
  obtain ⟨l, e1, e2, e3⟩ := key len (Nat.le_refl _)
  obtain ⟨_, _, _, _, hc3, _⟩ := hall (len - 1) (by omega)
  have hmul : (len - 1) * sz + sz = len * sz := by
   obtain ⟨q, rfl⟩ : ∃ q, len = q + 1 := ⟨len - 1, by omega⟩
   rw [Nat.add_sub_cancel, Nat.add_mul, Nat.one_mul]
  refine ⟨l, [⟨false, b, .cells acs T fr⟩], e1, e2, Sli.of (i:=0) rfl (by omega) e3, ?_, by omega, by omega, by omega⟩
  intro p hp
  rw [List.mem_singleton.1 hp]
  exact ⟨rfl, hb⟩
 ·rcases trod_slice ht h with ⟨rfl, rfl, rfl⟩ | ⟨p, n, rfl, _, h2, h3, _⟩
  ·exact ⟨[], [], rfl, by simp, ⟨by simp, .inl rfl⟩, ROnly.nil, by omega, by omega, by omega⟩
  ·obtain rfl : len = 0 := by omega
   exact ⟨[], [], rfl, by simp, ⟨by simp, .inl rfl⟩, ROnly.nil, by omega, by omega, by omega⟩
end
set_option linter.unusedVariables false in
theorem open_142 {H : Type} {enc : TypeId × Value → H} {w : World} {base : Nat} {spare : Nat → Bool} {held : Bool} {fuel : Nat} {cs : List Value} {x : DataW H × List MemPlace} (h : DataW.trod enc Try.prog w base spare held fuel 142 cs = some x) :
  ∃ (a0 : Int) (a1 : Int) (a2 : Int) (a3 : Int) (a4 : Int) (a5 : Int), cs = [Value.int .u8 a0, Value.int .u8 a1, Value.int .u8 a2, Value.int .u8 a3, Value.int .u8 a4, Value.int .u16 a5] ∧ (0 ≤ a0 ∧ a0 < 256) ∧ (0 ≤ a1 ∧ a1 < 256) ∧ (0 ≤ a2 ∧ a2 < 256) ∧ (0 ≤ a3 ∧ a3 < 256) ∧ (0 ≤ a4 ∧ a4 < 256) ∧ (0 ≤ a5 ∧ a5 < 65536) := by
 obtain ⟨n, rfl, hlen, hf⟩ := trod_fields Try.underlying142 h
 rw [(by kernel_rfl : Try.prog.cellsOf 142 = 6)] at hlen
 obtain ⟨c0, c1, c2, c3, c4, c5, rfl⟩ := lst_6 hlen
 have e5 : Try.prog.cellsOf 5 = 1 := by kernel_rfl
 have e41 : Try.prog.cellsOf 41 = 1 := by kernel_rfl
 obtain ⟨y0, h0⟩ := hf 0 _ rfl
 (try simp only [e5] at h0); (try simp only [Nat.reduceMul] at h0); (try simp only [List.drop_succ_cons] at h0); (try simp only [List.drop_zero] at h0); (try simp only [List.take_succ_cons] at h0); (try simp only [List.take_zero] at h0)
 obtain ⟨a0, rfl, ba0⟩ := h3g Try.underlying5 h0
 replace ba0 := wf_u8 ba0
 obtain ⟨y1, h1⟩ := hf 1 _ rfl
 (try simp only [e5] at h1); (try simp only [Nat.reduceMul] at h1); (try simp only [List.drop_succ_cons] at h1); (try simp only [List.drop_zero] at h1); (try simp only [List.take_succ_cons] at h1); (try simp only [List.take_zero] at h1)
 obtain ⟨a1, rfl, ba1⟩ := h3g Try.underlying5 h1
 replace ba1 := wf_u8 ba1
 obtain ⟨y2, h2⟩ := hf 2 _ rfl
 (try simp only [e5] at h2); (try simp only [Nat.reduceMul] at h2); (try simp only [List.drop_succ_cons] at h2); (try simp only [List.drop_zero] at h2); (try simp only [List.take_succ_cons] at h2); (try simp only [List.take_zero] at h2)
 obtain ⟨a2, rfl, ba2⟩ := h3g Try.underlying5 h2
 replace ba2 := wf_u8 ba2
 obtain ⟨y3, h3⟩ := hf 3 _ rfl
 (try simp only [e5] at h3); (try simp only [Nat.reduceMul] at h3); (try simp only [List.drop_succ_cons] at h3); (try simp only [List.drop_zero] at h3); (try simp only [List.take_succ_cons] at h3); (try simp only [List.take_zero] at h3)
 obtain ⟨a3, rfl, ba3⟩ := h3g Try.underlying5 h3
 replace ba3 := wf_u8 ba3
 obtain ⟨y4, h4⟩ := hf 4 _ rfl
 (try simp only [e5] at h4); (try simp only [Nat.reduceMul] at h4); (try simp only [List.drop_succ_cons] at h4); (try simp only [List.drop_zero] at h4); (try simp only [List.take_succ_cons] at h4); (try simp only [List.take_zero] at h4)
 obtain ⟨a4, rfl, ba4⟩ := h3g Try.underlying5 h4
 replace ba4 := wf_u8 ba4
 obtain ⟨y5, h5⟩ := hf 5 _ rfl
 (try simp only [e41] at h5); (try simp only [Nat.reduceMul] at h5); (try simp only [List.drop_succ_cons] at h5); (try simp only [List.drop_zero] at h5); (try simp only [List.take_succ_cons] at h5); (try simp only [List.take_zero] at h5)
 obtain ⟨a5, rfl, ba5⟩ := h3g Try.underlying41 h5
 replace ba5 := wf_u16 ba5
 exact ⟨a0, a1, a2, a3, a4, a5, rfl, ba0, ba1, ba2, ba3, ba4, ba5⟩
theorem spt_open {H : Type} {enc : TypeId × Value → H} {w : World} {base : Nat} {spare : Nat → Bool} {held : Bool} {fuel : Nat} {cs : List Value} {x : DataW H × List MemPlace} (h : DataW.trod enc Try.prog w base spare held fuel 142 cs = some x) : ∃ p : SPt, cs = p.cells ∧ p.ok := by
 obtain ⟨a0, a1, a2, a3, a4, a5, rfl, h0, h1, h2, h3, h4, h5⟩ := open_142 h
 exact ⟨⟨a0, a1, a2, a3, a4, a5⟩, rfl, ⟨h0, h1, h2, h3, h4, h5⟩⟩
set_option linter.unusedVariables false in
theorem open_24 {H : Type} {enc : TypeId × Value → H} {w : World} {base : Nat} {spare : Nat → Bool} {held : Bool} {fuel : Nat} {cs : List Value} {x : DataW H × List MemPlace} (h : DataW.trod enc Try.prog w base spare held fuel 24 cs = some x) :
  ∃ (a0 : Int) (a1 : Int) (a2 : Int) (a3 : Int) (a4 : Int) (a5 : Int), cs = [Value.int .u64 a0, Value.int .u64 a1, Value.int .u64 a2, Value.int .u64 a3, Value.int .u64 a4, Value.int .u64 a5] ∧ (0 ≤ a0 ∧ a0 < 18446744073709551616) ∧ (0 ≤ a1 ∧ a1 < 18446744073709551616) ∧ (0 ≤ a2 ∧ a2 < 18446744073709551616) ∧ (0 ≤ a3 ∧ a3 < 18446744073709551616) ∧ (0 ≤ a4 ∧ a4 < 18446744073709551616) ∧ (0 ≤ a5 ∧ a5 < 18446744073709551616) := by
 obtain ⟨n, rfl, hlen, hf⟩ := trod_elems Try.underlying24 h
 rw [(by kernel_rfl : Try.prog.cellsOf 24 = 6)] at hlen
 obtain ⟨c0, c1, c2, c3, c4, c5, rfl⟩ := lst_6 hlen
 have e23 : Try.prog.cellsOf 23 = 1 := by kernel_rfl
 obtain ⟨y0, h0⟩ := hf 0 (by omega)
 (try simp only [e23] at h0); (try simp only [Nat.reduceMul] at h0); (try simp only [List.drop_succ_cons] at h0); (try simp only [List.drop_zero] at h0); (try simp only [List.take_succ_cons] at h0); (try simp only [List.take_zero] at h0)
 obtain ⟨a0, rfl, ba0⟩ := h3g Try.underlying23 h0
 replace ba0 := wf_u64 ba0
 obtain ⟨y1, h1⟩ := hf 1 (by omega)
 (try simp only [e23] at h1); (try simp only [Nat.reduceMul] at h1); (try simp only [List.drop_succ_cons] at h1); (try simp only [List.drop_zero] at h1); (try simp only [List.take_succ_cons] at h1); (try simp only [List.take_zero] at h1)
 obtain ⟨a1, rfl, ba1⟩ := h3g Try.underlying23 h1
 replace ba1 := wf_u64 ba1
 obtain ⟨y2, h2⟩ := hf 2 (by omega)
 (try simp only [e23] at h2); (try simp only [Nat.reduceMul] at h2); (try simp only [List.drop_succ_cons] at h2); (try simp only [List.drop_zero] at h2); (try simp only [List.take_succ_cons] at h2); (try simp only [List.take_zero] at h2)
 obtain ⟨a2, rfl, ba2⟩ := h3g Try.underlying23 h2
 replace ba2 := wf_u64 ba2
 obtain ⟨y3, h3⟩ := hf 3 (by omega)
 (try simp only [e23] at h3); (try simp only [Nat.reduceMul] at h3); (try simp only [List.drop_succ_cons] at h3); (try simp only [List.drop_zero] at h3); (try simp only [List.take_succ_cons] at h3); (try simp only [List.take_zero] at h3)
 obtain ⟨a3, rfl, ba3⟩ := h3g Try.underlying23 h3
 replace ba3 := wf_u64 ba3
 obtain ⟨y4, h4⟩ := hf 4 (by omega)
 (try simp only [e23] at h4); (try simp only [Nat.reduceMul] at h4); (try simp only [List.drop_succ_cons] at h4); (try simp only [List.drop_zero] at h4); (try simp only [List.take_succ_cons] at h4); (try simp only [List.take_zero] at h4)
 obtain ⟨a4, rfl, ba4⟩ := h3g Try.underlying23 h4
 replace ba4 := wf_u64 ba4
 obtain ⟨y5, h5⟩ := hf 5 (by omega)
 (try simp only [e23] at h5); (try simp only [Nat.reduceMul] at h5); (try simp only [List.drop_succ_cons] at h5); (try simp only [List.drop_zero] at h5); (try simp only [List.take_succ_cons] at h5); (try simp only [List.take_zero] at h5)
 obtain ⟨a5, rfl, ba5⟩ := h3g Try.underlying23 h5
 replace ba5 := wf_u64 ba5
 exact ⟨a0, a1, a2, a3, a4, a5, rfl, ba0, ba1, ba2, ba3, ba4, ba5⟩
set_option linter.unusedVariables false in
theorem open_26 {H : Type} {enc : TypeId × Value → H} {w : World} {base : Nat} {spare : Nat → Bool} {held : Bool} {fuel : Nat} {cs : List Value} {x : DataW H × List MemPlace} (h : DataW.trod enc Try.prog w base spare held fuel 26 cs = some x) :
  ∃ (a0 : Int) (a1 : Int) (a2 : Int) (a3 : Int) (a4 : Int) (a5 : Int) (a6 : Int) (a7 : Int) (a8 : Int), cs = [Value.int .u32 a0, Value.int .u32 a1, Value.int .u64 a2, Value.int .u64 a3, Value.int .u64 a4, Value.int .u64 a5, Value.int .u64 a6, Value.int .u64 a7, Value.int .u64 a8] ∧ (0 ≤ a0 ∧ a0 < 4294967296) ∧ (0 ≤ a1 ∧ a1 < 4294967296) ∧ (0 ≤ a2 ∧ a2 < 18446744073709551616) ∧ (0 ≤ a3 ∧ a3 < 18446744073709551616) ∧ (0 ≤ a4 ∧ a4 < 18446744073709551616) ∧ (0 ≤ a5 ∧ a5 < 18446744073709551616) ∧ (0 ≤ a6 ∧ a6 < 18446744073709551616) ∧ (0 ≤ a7 ∧ a7 < 18446744073709551616) ∧ (0 ≤ a8 ∧ a8 < 18446744073709551616) := by
 obtain ⟨n, rfl, hlen, hf⟩ := trod_fields Try.underlying26 h
 rw [(by kernel_rfl : Try.prog.cellsOf 26 = 9)] at hlen
 obtain ⟨c0, c1, c2, c3, c4, c5, c6, c7, c8, rfl⟩ := lst_9 hlen
 have e22 : Try.prog.cellsOf 22 = 1 := by kernel_rfl
 have e23 : Try.prog.cellsOf 23 = 1 := by kernel_rfl
 have e24 : Try.prog.cellsOf 24 = 6 := by kernel_rfl
 obtain ⟨y0, h0⟩ := hf 0 _ rfl
 (try simp only [e22] at h0); (try simp only [Nat.reduceMul] at h0); (try simp only [List.drop_succ_cons] at h0); (try simp only [List.drop_zero] at h0); (try simp only [List.take_succ_cons] at h0); (try simp only [List.take_zero] at h0)
 obtain ⟨a0, rfl, ba0⟩ := h3g Try.underlying22 h0
 replace ba0 := wf_u32 ba0
 obtain ⟨y1, h1⟩ := hf 1 _ rfl
 (try simp only [e22] at h1); (try simp only [Nat.reduceMul] at h1); (try simp only [List.drop_succ_cons] at h1); (try simp only [List.drop_zero] at h1); (try simp only [List.take_succ_cons] at h1); (try simp only [List.take_zero] at h1)
 obtain ⟨a1, rfl, ba1⟩ := h3g Try.underlying22 h1
 replace ba1 := wf_u32 ba1
 obtain ⟨y2, h2⟩ := hf 2 _ rfl
 (try simp only [e23] at h2); (try simp only [Nat.reduceMul] at h2); (try simp only [List.drop_succ_cons] at h2); (try simp only [List.drop_zero] at h2); (try simp only [List.take_succ_cons] at h2); (try simp only [List.take_zero] at h2)
 obtain ⟨a2, rfl, ba2⟩ := h3g Try.underlying23 h2
 replace ba2 := wf_u64 ba2
 obtain ⟨y3, h3⟩ := hf 3 _ rfl
 (try simp only [e24] at h3); (try simp only [Nat.reduceMul] at h3); (try simp only [List.drop_succ_cons] at h3); (try simp only [List.drop_zero] at h3); (try simp only [List.take_succ_cons] at h3); (try simp only [List.take_zero] at h3)
 obtain ⟨a3, a4, a5, a6, a7, a8, q3, ba3, ba4, ba5, ba6, ba7, ba8⟩ := open_24 h3
 simp only [List.cons.injEq, and_true] at q3
 obtain ⟨rfl, rfl, rfl, rfl, rfl, rfl⟩ := q3
 exact ⟨a0, a1, a2, a3, a4, a5, a6, a7, a8, rfl, ba0, ba1, ba2, ba3, ba4, ba5, ba6, ba7, ba8⟩
theorem rec_openR {H : Type} {enc : TypeId × Value → H} {w : World} {base : Nat} {spare : Nat → Bool} {held : Bool} {fuel : Nat} {cs : List Value} {x : DataW H × List MemPlace} (h : DataW.trod enc Try.prog w base spare held fuel 26 cs = some x) : ∃ r : Rec, cs = r.cells ∧ r.ok := by
 obtain ⟨a0, a1, a2, a3, a4, a5, a6, a7, a8, rfl, h0, h1, h2, h3, h4, h5, h6, h7, h8⟩ := open_26 h
 refine ⟨⟨a0, a1, a2, [a3, a4, a5, a6, a7, a8]⟩, rfl, ⟨h0, h1, h2, rfl, ?_⟩⟩
 intro a ha
 simp only [List.mem_cons, List.not_mem_nil, or_false] at ha
 rcases ha with rfl | rfl | rfl | rfl | rfl | rfl <;> assumption
theorem rec_lenR {r : Rec} (h : r.ok) : r.cells.length = 9 := by simp [Rec.cells, h.len]
end Go.Proofs.Ytpbpgbkpciffgaa
namespace Go.Proofs.Ytpbpgbkpciffgaa
open Go.ChangeShapes Go.WideShapes Go.ChangeAt Go.RowKit
theorem ownJumpMakes : ownKnob Try.prog.godebug = none := by kernel_rfl
theorem laidJumpMakes : laidOutB Try.prog = true := by kernel_rfl
theorem jumpMakes_lifted (os : Os) (started : os.Started) (H : Type) (enc : TypeId × Value → H) :
  ReturnsInHanded {} Try.checked os 6 .any (Rows.jumpMakesSpec.pre6 enc Try.prog Try.f6 Rows.jumpMakesRow.domain false) (Rows.jumpMakesSpec.post enc Try.prog Try.f6 false true false false) := by
 refine returnsInHanded_of_change (C:=Try.checked) ownJumpMakes started (by kernel_rfl) Try.func6
  (ChangeSpec.witness6 (enc:=enc) (C:=Try.checked) false ⟨#[], #[.slice none 0 0, .int .u8 0, .slice none 0 0], []⟩ 8 (by kernel_rfl) (by kernel_rfl) (by kernel_rfl) (by kernel_rfl)) ?_
 intro W base args ds gs before hval0 hW hcnd _
 have hval : ∀ (j : Nat) t v, Try.f6.params[j]? = some t → args[j]? = some v → Value.okWide Try.prog W .any base t v := hval0
 have hW' := hW
 obtain ⟨p, q, hA0, hV, rfl, hfz, hnd⟩ := hW
 have hA : DataW.TrodAll enc Try.prog W 0 (fun _ => true) true Try.f6.params.toList args.toList ds p := hA0
 rw [Try.params6] at hA hval
 obtain ⟨v0, vs0, d0, ds0, p0, q0, hargs, rfl, rfl, h0, r0⟩ := trodAll_cons hA
 obtain ⟨v1, vs1, d1, ds1, p1, q1, rfl, rfl, rfl, h1, r1⟩ := trodAll_cons r0
 obtain ⟨v2, vs2, d2, ds2, p2, q2, rfl, rfl, rfl, h2, r2⟩ := trodAll_cons r1
 obtain ⟨rfl, rfl, rfl⟩ := trodAll_nil r2
 obtain rfl : args = #[v0, v1, v2] := by cases args; simp_all
 obtain ⟨rfl, rfl⟩ := trodVars_none hV
 have k0 := h0
 have lt0 : ∀ x ∈ p0, x.block < W.heap.size := by obtain ⟨m, hm⟩ := k0; exact DataW.trod_lt m _ _ _ hm
 have k1 := h1
 have lt1 : ∀ x ∈ p1, x.block < W.heap.size := by obtain ⟨m, hm⟩ := k1; exact DataW.trod_lt m _ _ _ hm
 have k2 := h2
 have lt2 : ∀ x ∈ p2, x.block < W.heap.size := by obtain ⟨m, hm⟩ := k2; exact DataW.trod_lt m _ _ _ hm
 obtain ⟨a1, rfl, rfl, rfl, w1⟩ := open_int Try.underlying5 (hval 1 5 v1 rfl rfl) h1
 have b1 := wf_u8 w1
 obtain ⟨A0, len0, C0, rfl⟩ := okWide_slice Try.underlying94 (hval 0 94 v0 rfl rfl)
 obtain ⟨f0, hf0⟩ := h0
 obtain ⟨a0, B0, rfl, b0, s0, ro0, m0, q0⟩ := slice_list (cells:=SPt.cells) (ok:=SPt.ok) Try.underlying94 (sz:=6) (by kernel_rfl) (by omega) (fun _ _ => rfl) (fun _ _ _ h => spt_open h) (by simpa [Value.cells] using hf0)
 obtain ⟨A2, len2, C2, rfl⟩ := okWide_slice Try.underlying95 (hval 2 95 v2 rfl rfl)
 obtain ⟨f2, hf2⟩ := h2
 obtain ⟨a2, B2, rfl, b2, s2, ro2, m2, q2⟩ := slice_list (cells:=Rec.cells) (ok:=Rec.ok) Try.underlying95 (sz:=9) (by kernel_rfl) (by omega) (fun _ h => rec_lenR h) (fun _ _ _ h => rec_openR h) (by simpa [Value.cells] using hf2)
 have S0 := (Sli.left (L:=B2) s0)
 have S2 := (s2).upA B0
 clear hA0 hval0
 refine ((jumpMakes_c (S:=[]) (w0:=W) (L:=(B0 ++ B2)) a0 b0 m0 A0 C0 S0 a1 b1 a2 b2 m2 A2 C2 S2).out W (HP.ro (ro0.app ro2))).mono fun e W' ⟨v, L', he, ⟨hv, _⟩, H'⟩ => ?_
 subst he hv
 have bel := H'.below
 exact ⟨_, rfl, _, _, _, [], _, [], hW', trodAll_mk1 (shut_bool Try.underlying4 _), (trodAll_cons_mk (Below.trod laidJumpMakes (by kernel_rfl) (of_decide_eq_true (by kernel_rfl)) k0 bel lt0) (trodAll_cons_mk (Below.trod laidJumpMakes (by kernel_rfl) (of_decide_eq_true (by kernel_rfl)) k1 bel lt1) (trodAll_cons_mk (Below.trod laidJumpMakes (by kernel_rfl) (of_decide_eq_true (by kernel_rfl)) k2 bel lt2) trodAll_mk0))), rfl, bel.frame _, fun h => by cases h⟩
theorem jumpMakes_holds : Rows.JumpMakesSaid :=
 OpenClaim.holds_of_wide 6 Try.f6 rfl rfl rfl rfl rfl rfl rfl ⟨rfl, rfl, rfl, rfl, rfl⟩ rfl rfl rfl rfl rfl (by kernel_rfl) Try.func6 (by kernel_rfl)
  (of_decide_eq_true (by kernel_rfl)) (by unfold Func.isWrapper; first | (rw [if_pos (by decide +kernel)]; kernel_rfl) | (rw [if_neg (by decide +kernel)]; exact ⟨rfl, rfl⟩))
  (fun os started H enc _ => jumpMakes_lifted os started H enc)
#print axioms jumpMakes_holds
end Go.Proofs.Ytpbpgbkpciffgaa
