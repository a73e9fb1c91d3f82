/- Part 6 of what the last text of this claim leans on: rules of walks, contracts, plain facts. Conditions: those of each statement. -/
import Derived.Test.YtecbgehooembmaaGreatDoorQo5
set_option maxRecDepth 100000
namespace Go.Proofs.YtecbgehooembmaaGreatDoor
open Go Go.RowKit
abbrev bpB (n : Nat) (t : List UInt8) (r : Nat) : Blk := ⟨true, n, .cells #[.string (mB8 t), .int .u16 (r : Nat)] 104 (0, 0)⟩
theorem EnS.put {S : List Nat} {w0 : World} {ct rb m : Nat} {L0 T : List Blk} (e : List Blk) (h : EnS ct rb m L0 T) : ∃ T2, EnS ct rb m (e ++ L0) T2 ∧ ∀ w, ∀ A : List Blk, HP S w0 w (A ++ (e ++ T)) → HP S w0 w (A ++ T2) := by
 obtain ⟨m1, m2, o, rfl⟩ := h
 refine ⟨_, ⟨m1, m2, o, rfl⟩, fun w A H => H.perm (List.Perm.append_left _ ?_)⟩
 exact (List.perm_append_comm_assoc ..).trans (List.Perm.append_left _ (List.perm_append_comm_assoc ..))
theorem EnS.get {S : List Nat} {w0 : World} {ct rb m : Nat} {L0 T2 : List Blk} (e : List Blk) (h : EnS ct rb m (e ++ L0) T2) : ∃ T, EnS ct rb m L0 T ∧ ∀ w, ∀ A : List Blk, HP S w0 w (A ++ T2) → HP S w0 w (A ++ (e ++ T)) := by
 obtain ⟨m1, m2, o, rfl⟩ := h
 refine ⟨_, ⟨m1, m2, o, rfl⟩, fun w A H => H.perm (List.Perm.append_left _ ?_)⟩
 exact (List.Perm.append_left _ (List.perm_append_comm_assoc ..)).trans (List.perm_append_comm_assoc ..)
theorem pthC_snoc (ps : List (List UInt8 × Nat)) (s : List UInt8) (n : Nat) : pthC (ps ++ [(s, n)]) = pthC ps ++ [.string (mB8 s), .int .u16 (n : Nat)] := by simp [pthC]
theorem setF_lt (kd : Nat) (s : PS) : (setF kd s).1 < 65536 := parseF_lt _ 0 (Nat.zero_lt_succ _)
set_option maxHeartbeats 2000000 in
theorem beneath_c {S w0} (hd : Nat) (hhd : hd < 65536) (ps : List (List UInt8 × Nat)) (o1 o2 o3 vp o6 o8 : Value) (ep : List Blk) (mb : Nat) (kvs : List (Value × Value)) (t : Tk) (b pb ct rb m : Nat) (L0 T : List Blk)
  (hlen : ps.length ≤ 64) (hO : Own 104 2 vp ps.length (pthC ps) ep) (hM : MapS keyT kvs (ps.map (·.1))) (hT : EnS ct rb m L0 T) (a : Option Addr) (c : Nat) (l : List Tk) (w : Wr) (x : Blk) (h : TkS x a c l) :
  Fn Tryz.prog 83 #[.pointer (some ⟨b, 0, none⟩), .agg t.cells.toArray] S w0 (h3m mb kvs :: (ep ++ (rdB b (.pointer (some ⟨pb, 0, none⟩)) a l.length c w ⟨o1, o2, o3, .int .u16 (hd : Nat), vp, o6, .map (some mb), o8⟩ :: x :: prB pb ct rb :: T))) fun v L' => ∃ a' c' T' kvs' vp' ep', v = .tuple #[] ∧ TkS x a' c' (benF hd t ps (l, w)).2.1 ∧ EnS ct rb m L0 T' ∧ MapS keyT kvs' ((benF hd t ps (l, w)).1.map (·.1)) ∧ Own 104 2 vp' (benF hd t ps (l, w)).1.length (pthC (benF hd t ps (l, w)).1) ep' ∧ h3m mb kvs' :: (ep' ++ (rdB b (.pointer (some ⟨pb, 0, none⟩)) a' (benF hd t ps (l, w)).2.1.length c' (benF hd t ps (l, w)).2.2 ⟨o1, o2, o3, .int .u16 (hd : Nat), vp', o6, .map (some mb), o8⟩ :: x :: prB pb ct rb :: T')) = L' := by
 have htk := fun (L : List Blk) (i j : Nat) h1 h2 => take_d (S:=S) (w0:=w0) (L:=L) 3 (by decide) (i:=i) (j:=j) (b:=b) (c:=c) (p:=.pointer (some ⟨pb, 0, none⟩)) (a:=a) (l:=l) (w:=w) (o:=⟨o1, o2, o3, .int .u16 (hd : Nat), vp, o6, .map (some mb), o8⟩) (x:=x) h1 h2 h
 have hok := (h6f (k:=3) (s:=(l, w)) h.ok)
 have e1 : ben1 (l, w) = ((h0z 3 (l, w)).2.1, if (h0z 3 (l, w)).2.2 = (0, 0, 0) ∧ Pt.pathF (h0z 3 (l, w)).1.text = false then h2v (h0z 3 (l, w)).2.2 (h0z 3 (l, w)).1 203 else (h0z 3 (l, w)).2.2) := rfl
 unfold benF ben3 ben2
 rw [e1]
 clear e1 h
 generalize h0z 3 (l, w) = Q at *
 obtain ⟨tt, r, f1, f2, f3⟩ := Q
 dsimp only at *
 have hlk := hM.look .string keyT keyT_same tt.text
 clear hM
 obtain ⟨rr, hl1, hl2, hl3⟩ := hlk
 have hpa := fun (L : List Blk) => pathL_c (S:=S) (w0:=w0) (L:=L) (mB8 tt.text) (by rw [h1t]; have := hok.1.text; omega)
 rw [h4g] at hpa
 clear hok
 have hfl := fun (L : List Blk) (i : Nat) (a' : Option Addr) (c' : Nat) h1 => h5n (S:=S) (w0:=w0) (L:=L) (i:=i) (b:=b) (n:=r.length) (c:=c') (p:=(.pointer (some ⟨pb, 0, none⟩))) (a:=a') (w:=(f1, f2, f3)) (o:=⟨o1, o2, o3, .int .u16 (hd : Nat), vp, o6, .map (some mb), o8⟩) h1 tt 203
 have hq := wr_eq f1 f2 f3
 obtain ⟨T2, hT2, hput⟩ := hT.put (S:=S) (w0:=w0) ep
 refine Fn.weak (L2:=h3m mb kvs :: rdB b (.pointer (some ⟨pb, 0, none⟩)) a l.length c w ⟨o1, o2, o3, .int .u16 (hd : Nat), vp, o6, .map (some mb), o8⟩ :: x :: prB pb ct rb :: T2) (fun w H => hput w [_, _, _, _] (H.perm ?_)) ?_
 ·exact List.Perm.cons _ (List.perm_append_comm_assoc ep [_, _, _] T)
 clear hT hput
 generalize hg : (if (f1, f2, f3) = ((0, 0, 0) : Wr) ∧ Pt.pathF tt.text = false then h2v (f1, f2, f3) tt 203 else (f1, f2, f3)) = g at *
 obtain ⟨g1, g2, g3⟩ := g
 have hst := fun (x1 x2 : Blk) (a1 : Option Addr) (c1 : Nat) h => set_e (S:=S) (w0:=w0) [x1, x2, h3m mb kvs] (hd &&& 2047) (by have := Nat.and_le_left (n:=hd) (m:=2047); omega) b pb ct rb m _ T2 hT2 a1 c1 r (g1, g2, g3) ⟨o1, o2, o3, .int .u16 (hd : Nat), vp, o6, .map (some mb), o8⟩ x h
 have hst4 := fun (x0 x1 x2 : Blk) (a1 : Option Addr) (c1 : Nat) h => set_e (S:=S) (w0:=w0) [x0, x1, x2, h3m mb kvs] (hd &&& 2047) (by have := Nat.and_le_left (n:=hd) (m:=2047); omega) b pb ct rb m _ T2 hT2 a1 c1 r (g1, g2, g3) ⟨o1, o2, o3, .int .u16 (hd : Nat), vp, o6, .map (some mb), o8⟩ x h
 have hlt := setF_lt (hd &&& 2047) (r, (g1, g2, g3))
 generalize setF (hd &&& 2047) (r, (g1, g2, g3)) = Q at *
 obtain ⟨st, r2, k1, k2, k3⟩ := Q
 rw [← iand_nat] at hst hst4
 dsimp only [List.cons_append, List.nil_append] at *
 have hf6 := fun (L : List Blk) (i : Nat) (a' : Option Addr) (c' : Nat) h1 => h5n (S:=S) (w0:=w0) (L:=L) (i:=i) (b:=b) (n:=r2.length) (c:=c') (p:=(.pointer (some ⟨pb, 0, none⟩))) (a:=a') (w:=(k1, k2, k3)) (o:=⟨o1, o2, o3, .int .u16 (hd : Nat), vp, o6, .map (some mb), o8⟩) h1 tt 206
 generalize hu : (if tt.text ∈ ps.map (·.1) then h2v (k1, k2, k3) tt 206 else (k1, k2, k3)) = u at *
 obtain ⟨u1, u2, u3⟩ := u
 have hf5 := fun (L : List Blk) (i : Nat) (a' : Option Addr) (c' : Nat) (v : Value) h1 => h5n (S:=S) (w0:=w0) (L:=L) (i:=i) (b:=b) (n:=r2.length) (c:=c') (p:=(.pointer (some ⟨pb, 0, none⟩))) (a:=a') (w:=(u1, u2, u3)) (o:=⟨o1, o2, o3, .int .u16 (hd : Nat), v, o6, .map (some mb), o8⟩) h1 t 205
 have hfin : ∀ v e, Own 104 2 v (ps.length + 1) (pthC ps ++ [.string (mB8 tt.text), .int .u16 (st : Nat)]) e → Own 104 2 v (ps ++ [(tt.text, st)]).length (pthC (ps ++ [(tt.text, st)])) e := fun v e ho => by
  rw [pthC_snoc, List.length_append]; exact ho
 rw [show ps.map (·.1) ++ [tt.text] = (ps ++ [(tt.text, st)]).map (·.1) by rw [List.map_append]; rfl] at hl3
 generalize ps ++ [(tt.text, st)] = ps2 at *
 obtain ⟨w1, w2, w3⟩ := w
 obtain ⟨tk, tx, nu, li, co⟩ := t
 obtain ⟨sk, sx, sn, sl, sc⟩ := tt
 dsimp only [Tk.cells] at *
 refine Fn2 Tryz.func83 Tryz.ntmps83 rfl rfl ?_
 repeat' (first | (refine h2h (id:=1) ?_) | refine h0p ?_ | refine h0e ?_ | (refine gR 0 ?_ <;> (try refine h0f ?_; (refine h5b (t:=166) rfl rfl ?_; intro nb hnb; (try simp only [Value.cells]))) <;> (try refine h0d ?_)))
 refine ⟨?_⟩
 obtain ⟨nb3, rfl⟩ : ∃ x, x = nb := ⟨_, rfl⟩
 repeat' (first | (refine h2h (id:=2) ?_) | refine h0p ?_ | refine h0e ?_ | (refine gR 1 (q_m ?_) <;> (try refine h0f ?_; (refine q_c 53 (c:=by apply htk; exact c_9; exact c_9) (h:=?_); rintro _ _ ⟨a1, c1, rfl, hts, rfl⟩; (try simp only [zzE, zzF]))) <;> (try refine h0f ?_; (refine h0i (t:=166) rfl Tryz.zeroValue166 ?_; intro nb hnb; (try simp only [Value.cells]))) <;> (try refine h0f ?_; (refine q_W ?_)) <;> (try refine h0d ?_)))
 refine ⟨?_⟩
 obtain ⟨nb4, rfl⟩ : ∃ x, x = nb := ⟨_, rfl⟩
 refine h2z (γ:=Bool) (fun q => q = decide ((f1, f2, f3) = ((0, 0, 0) : Wr) ∧ Pt.pathF sx = false)) (fun q => [(19, .bool q)]) [(0, _), (3, _), (4, _)]
  (fun _ => tkBl nb4 ⟨sk, sx, sn, sl, sc⟩ :: tkBl nb3 ⟨tk, tx, nu, li, co⟩ :: h3m mb kvs :: rdB b (.pointer (some ⟨pb, 0, none⟩)) a1 r.length c1 (f1, f2, f3) ⟨o1, o2, o3, .int .u16 (hd : Nat), vp, o6, .map (some mb), o8⟩ :: x :: prB pb ct rb :: T2) (.cons rfl (.cons rfl (.cons rfl .nil))) ?_ ?_
 ·by_cases hz : (f1, f2, f3) = ((0, 0, 0) : Wr)
  ·rw [decide_eq_true hz] at hq
   cases hp : Pt.pathF sx with
   | true =>
    rw [hp] at hpa
    repeat' (first | refine h0t ?_ | (refine gR 2 (p_m (h:=p_n (h:=p_e (q_f h3r) (h:=q_e (q_L h3z) ?_)))) <;> (try refine q_e (by exact h0s (t:=25) (fun vs => (match vs with | [] => [Value.int .i64 0, Value.int .i64 0, Value.int .i64 0] | _ => [])) rfl (fun w => by kernel_rfl)) ?_; (try simp only [Value.cells]); (try simp only [zzC, zzN])) <;> (try refine p_e (by apply h1s (op:=.eql) (t:=25); exact rfl; exact rfl; kernel_rfl; (with_reducible assumption)) (h:=p_m (h:=p_y (q_f h1m) (h:=q_y q_l ?_)))) <;> (try refine h0f ?_; (refine h1x rfl rfl rfl ?_; (refine q_c 66 (c:=by apply hpa) (h:=?_); rintro _ _ ⟨rfl, rfl⟩; (try simp only [zzE, zzF])))) <;> (try refine p_y (by apply E_un; exact rfl; exact h4a) (h:=p_p (h:=h0d ?_)))))
    exact h0w false (decide_eq_false (fun h => by cases h.2)).symm (by (focus (repeat (first | exact Sub.nil | refine Sub.cons rfl ?_)))) c_23
   | false =>
    rw [hp] at hpa
    repeat' (first | refine h0t ?_ | (refine gR 2 (p_m (h:=p_n (h:=p_e (q_f h3r) (h:=q_e (q_L h3z) ?_)))) <;> (try refine q_e (by exact h0s (t:=25) (fun vs => (match vs with | [] => [Value.int .i64 0, Value.int .i64 0, Value.int .i64 0] | _ => [])) rfl (fun w => by kernel_rfl)) ?_; (try simp only [Value.cells]); (try simp only [zzC, zzN])) <;> (try refine p_e (by apply h1s (op:=.eql) (t:=25); exact rfl; exact rfl; kernel_rfl; (with_reducible assumption)) (h:=p_m (h:=p_y (q_f h1m) (h:=q_y q_l ?_)))) <;> (try refine h0f ?_; (refine h1x rfl rfl rfl ?_; (refine q_c 66 (c:=by apply hpa) (h:=?_); rintro _ _ ⟨rfl, rfl⟩; (try simp only [zzE, zzF])))) <;> (try refine p_y (by apply E_un; exact rfl; exact h4z) (h:=p_p (h:=h0d ?_)))))
    exact h0w true (decide_eq_true ⟨hz, trivial⟩).symm (by (focus (repeat (first | exact Sub.nil | refine Sub.cons rfl ?_)))) c_23
  ·rw [decide_eq_false hz] at hq
   repeat' (first | refine h0t ?_ | (refine gR 2 (p_m (h:=p_n (h:=p_e (q_f h3r) (h:=q_e (q_L h3z) ?_)))) <;> (try refine q_e (by exact h0s (t:=25) (fun vs => (match vs with | [] => [Value.int .i64 0, Value.int .i64 0, Value.int .i64 0] | _ => [])) rfl (fun w => by kernel_rfl)) ?_; (try simp only [Value.cells]); (try simp only [zzC, zzN])) <;> (try refine p_e (by apply h1s (op:=.eql) (t:=25); exact rfl; exact rfl; kernel_rfl; (with_reducible assumption)) (h:=p_m (h:=p_z (h:=p_z (h:=p_z (h:=p_z (h:=p_p (h:=h0d ?_))))))))))
   exact h0w false (decide_eq_false (fun h => hz h.1)).symm (by (focus (repeat (first | exact Sub.nil | refine Sub.cons rfl ?_)))) c_23
 clear hq hpa
 rintro q hB
 simp only [List.cons_append, List.nil_append]
 refine h2z (γ:=Unit) (fun _ => True) (fun _ => []) [(0, _), (3, _), (4, _)]
  (fun _ => tkBl nb4 ⟨sk, sx, sn, sl, sc⟩ :: tkBl nb3 ⟨tk, tx, nu, li, co⟩ :: h3m mb kvs :: rdB b (.pointer (some ⟨pb, 0, none⟩)) a1 r.length c1 (g1, g2, g3) ⟨o1, o2, o3, .int .u16 (hd : Nat), vp, o6, .map (some mb), o8⟩ :: x :: prB pb ct rb :: T2) (.cons rfl (.cons rfl (.cons rfl .nil))) ?_ ?_
 ·by_cases hc : (f1, f2, f3) = ((0, 0, 0) : Wr) ∧ Pt.pathF sx = false
  ·rw [decide_eq_true hc] at hB
   rw [if_pos hc] at hg
   rw [hg] at hfl
   subst hB
   clear hc hg
   repeat' (first | refine h0t ?_ | refine h0j rfl ?_ | (refine gR 3 (p_m (h:=q_e (q_L h2k) ?_)) <;> (try refine h0f ?_; (refine q_c 52 (c:=by apply hfl; exact c_9) (h:=?_); rintro _ _ ⟨rfl, rfl⟩; (try simp only [zzE, zzF]))) <;> (try refine h0d ?_)))
   exact h0w () trivial (by (focus (repeat (first | exact Sub.nil | refine Sub.cons rfl ?_)))) c_23
  ·rw [decide_eq_false hc] at hB
   rw [if_neg hc] at hg
   injection hg with y1 y2
   injection y2 with y2 y3
   subst hB y1 y2 y3
   clear hc
   repeat' (first | refine h0t ?_ | refine h0u ?_ | refine h0h rfl ?_)
   exact h0w () trivial (by (focus (repeat (first | exact Sub.nil | refine Sub.cons rfl ?_)))) c_27
 clear hB q hg hfl htk
 rintro - -
 simp only [List.cons_append, List.nil_append]
 refine h0p ?_
 refine h2z (γ:=Nat × Option Addr × Nat × List Blk) (fun g => TkS x g.2.1 g.2.2.1 r2 ∧ EnS ct rb m (ep ++ L0) g.2.2.2) (fun g => [(5, .pointer (some ⟨g.1, 0, none⟩))]) [(0, _), (3, _), (4, _)]
  (fun g => bpB g.1 sx st :: tkBl nb4 ⟨sk, sx, sn, sl, sc⟩ :: tkBl nb3 ⟨tk, tx, nu, li, co⟩ :: h3m mb kvs :: rdB b (.pointer (some ⟨pb, 0, none⟩)) g.2.1 r2.length g.2.2.1 (k1, k2, k3) ⟨o1, o2, o3, .int .u16 (hd : Nat), vp, o6, .map (some mb), o8⟩ :: x :: prB pb ct rb :: g.2.2.2) (.cons rfl (.cons rfl (.cons rfl .nil))) ?_ ?_
 ·repeat' (first | refine h0t ?_ | ((refine h2t (pre:=[_, _, _]) (id:=4) (m:=13) rfl (by kernel_rfl) rfl (q_t 0 (e:=h2x) (x:=by exact q_f h1m) (h:=q_t 1 (e:=h2x) (x:=by exact q_l) (h:=q_t 2 (e:=h2x) (x:=by exact h0m rfl) (h:=q_t 3 (e:=h2x) (x:=by exact h0m rfl) (h:=q_t 4 (e:=h2x) (x:=by exact h0l rfl) (h:=q_t 5 (e:=h2x) (x:=by exact q_f h2j) (h:=q_t 6 (e:=h2x) (x:=by exact q_g h5o) (h:=?_))))))))) <;> (try refine h2d (i:=7) (j:=11) rfl rfl (by kernel_rfl) ?_ ?_ <;> (first | (refine TagA.mk ?_; (((refine q_k q_l ?_); refine h1g h2x ?_) <;> (try refine q_t 8 (e:=h2x) (x:=by exact q_b (r:=by refine rb_and ?_ ?_; (focus (refine ⟨rfl, ⟨?_, ?_⟩⟩; omega; (focus (simp only [IntKind.bits]; omega)))); (focus (refine ⟨rfl, ⟨?_, ?_⟩⟩; omega; (focus (simp only [IntKind.bits]; omega)))))) (h:=?_)) <;> (try refine h2d (i:=9) (j:=11) rfl rfl (by kernel_rfl) ?_ ?_ <;> (first | (refine TagA.mk ?_; (((refine q_c 100 (c:=by apply hst; (with_reducible assumption)) (h:=?_); rintro _ _ ⟨a2, c2, T3, rfl, hts2, hT3, rfl⟩; (try simp only [zzE, zzF])); refine h1g h2x ?_) <;> (try refine q_t 10 (e:=h2x) (x:=by exact h0s (t:=104) (fun vs => (match vs with | [(_, x0), (_, x1)] => [x0, x1] | _ => [])) rfl (fun w => by kernel_rfl)) (h:=?_); (try simp only [Value.cells]); (try simp only [zzC, zzN])) <;> (try refine q_r 11 ?_; (refine h0i (t:=104) rfl Tryz.zeroValue104 ?_; intro nb hnb; (try simp only [Value.cells])); refine h1g c_8 ?_) <;> (try refine q_r 12 ?_; (refine q_W ?_); refine h1g c_8 ?_) <;> (try refine h1e (by kernel_rfl) ?_))) | (refine TagB.mk ?_; (((refine h0i (t:=104) rfl Tryz.zeroValue104 ?_; intro nb hnb; (try simp only [Value.cells])); refine h1g c_8 ?_) <;> (try refine q_r 9 ?_; (refine q_c 100 (c:=by apply hst4; (with_reducible assumption)) (h:=?_); rintro _ _ ⟨a2, c2, T3, rfl, hts2, hT3, rfl⟩; (try simp only [zzE, zzF])); refine h1g c_8 ?_) <;> (try refine q_t 10 (e:=c_8) (x:=by exact h0s (t:=104) (fun vs => (match vs with | [(_, x0), (_, x1)] => [x0, x1] | _ => [])) rfl (fun w => by kernel_rfl)) (h:=?_); (try simp only [Value.cells]); (try simp only [zzC, zzN])) <;> (try refine q_r 12 ?_; (refine q_W ?_); refine h1g c_8 ?_) <;> (try refine h1e (by kernel_rfl) ?_))))))) | (refine TagB.mk ?_; (((refine h0i (t:=104) rfl Tryz.zeroValue104 ?_; intro nb hnb; (try simp only [Value.cells])); refine h1g c_8 ?_) <;> (try refine q_r 7 ?_; (refine q_k q_l ?_); refine h1g c_8 ?_) <;> (try refine q_t 8 (e:=c_8) (x:=by exact q_b (r:=by refine rb_and ?_ ?_; (focus (refine ⟨rfl, ⟨?_, ?_⟩⟩; omega; (focus (simp only [IntKind.bits]; omega)))); (focus (refine ⟨rfl, ⟨?_, ?_⟩⟩; omega; (focus (simp only [IntKind.bits]; omega)))))) (h:=?_)) <;> (try refine q_r 9 ?_; (refine q_c 100 (c:=by apply hst4; (with_reducible assumption)) (h:=?_); rintro _ _ ⟨a2, c2, T3, rfl, hts2, hT3, rfl⟩; (try simp only [zzE, zzF])); refine h1g c_8 ?_) <;> (try refine q_t 10 (e:=c_8) (x:=by exact h0s (t:=104) (fun vs => (match vs with | [(_, x0), (_, x1)] => [x0, x1] | _ => [])) rfl (fun w => by kernel_rfl)) (h:=?_); (try simp only [Value.cells]); (try simp only [zzC, zzN])) <;> (try refine q_r 12 ?_; (refine q_W ?_); refine h1g c_8 ?_) <;> (try refine h1e (by kernel_rfl) ?_)))))))
  all_goals exact h0w (_, a2, c2, T3) ⟨hts2, hT3⟩ (by (focus (repeat (first | exact Sub.nil | refine Sub.cons rfl ?_)))) c_27
 clear hst hst4 hts hT2 T2 a1 c1
 rintro ⟨nb5, a2, c2, T3⟩ ⟨hts2, hT3⟩
 dsimp only [List.cons_append, List.nil_append] at *
 repeat' (first | (refine G_markc (t:=40) ?_) | refine h0p ?_ | refine h0e ?_ | ((refine h2q (id:=5) (m:=7) (by kernel_rfl) rfl (q_u 0 (x:=by exact h0m rfl) (h:=q_u 1 (x:=by exact h0l rfl) (h:=q_u 2 (x:=by exact q_f fo_85_4) (h:=q_u 3 (x:=by exact q_l) (h:=q_u 4 (x:=by exact q_f fo_104_0) (h:=q_u 5 (x:=by exact q_l) (h:=q_u 6 (x:=by apply h5s; exact rfl; exact rfl; exact h3n; exact Tryz.underlying82; exact Tryz.underlying9; exact trivial; exact Tryz.zeroValue4; (with_reducible assumption); (with_reducible assumption)) (h:=h1e (by kernel_rfl) ?_)))))))))))
 refine ⟨?_⟩
 refine h2z (γ:=Unit) (fun _ => True) (fun _ => []) [(0, _), (3, _), (5, _)]
  (fun _ => bpB nb5 sx st :: tkBl nb3 ⟨tk, tx, nu, li, co⟩ :: h3m mb kvs :: rdB b (.pointer (some ⟨pb, 0, none⟩)) a2 r2.length c2 (u1, u2, u3) ⟨o1, o2, o3, .int .u16 (hd : Nat), vp, o6, .map (some mb), o8⟩ :: x :: prB pb ct rb :: T3) (.cons rfl (.cons rfl (.cons rfl .nil))) ?_ ?_
 ·by_cases hc : sx ∈ ps.map (·.1)
  ·rw [if_pos hc] at hu
   rw [hu] at hf6
   clear hu hfin
   refine h5v rfl (fun _ => ?_) (fun hn => absurd hc hn)
   clear hc
   repeat' (first | refine h0t ?_ | (refine gR 6 (p_m (h:=q_e (q_L h2k) ?_)) <;> (try refine h0f ?_; (refine q_c 52 (c:=by apply hf6; exact c_9) (h:=?_); rintro _ _ ⟨rfl, rfl⟩; (try simp only [zzE, zzF]))) <;> (try refine h0d ?_)))
   exact h0w () trivial (by (focus (repeat (first | exact Sub.nil | refine Sub.cons rfl ?_)))) c_22
  ·rw [if_neg hc] at hu
   injection hu with y1 y2
   injection y2 with y2 y3
   subst y1 y2 y3
   refine h5v rfl (fun hn => absurd hn hc) (fun _ => ?_)
   clear hc
   repeat' (first | refine h0t ?_ | refine h0u ?_)
   exact h0w () trivial (by (focus (repeat (first | exact Sub.nil | refine Sub.cons rfl ?_)))) c_22
 clear hf6 hu hl2 k1 k2 k3
 rintro - -
 dsimp only [List.cons_append, List.nil_append]
 repeat' (first | (refine h2h (id:=8) ?_) | refine h0p ?_ | refine h0e ?_ | ((apply h4c (i:=2) (id:=7) (m:=7); exact c_11; kernel_rfl; exact rfl) <;> (try refine q_t 0 (e:=c_2) (x:=by exact h0m rfl) (h:=q_t 1 (e:=c_2) (x:=by exact h0l rfl) (h:=q_t 2 (e:=c_2) (x:=by exact q_f fo_85_4) (h:=q_t 3 (e:=c_2) (x:=by exact q_l) (h:=q_t 4 (e:=c_2) (x:=by exact q_f fo_104_0) (h:=q_t 5 (e:=c_2) (x:=by exact q_l) (h:=?_))))))) <;> (try refine q_r 6 ?_; (apply h5i; exact rfl; exact rfl; exact rfl; exact h3n; exact Tryz.underlying82; exact Tryz.underlying9; exact trivial; (with_reducible assumption); (try simp only [List.set_cons_succ]); (try simp only [List.set_cons_zero])); refine h1g c_2 ?_) <;> (try refine h1e (by kernel_rfl) ?_)))
 refine ⟨?_⟩
 obtain ⟨T4, hT4, hget⟩ := hT3.get (S:=S) (w0:=w0) ep
 refine h3y (L' := ep ++ (bpB nb5 sx st :: tkBl nb3 ⟨tk, tx, nu, li, co⟩ :: h3m mb (updE kvs (keyT sx) (.bool true) rr) :: rdB b (.pointer (some ⟨pb, 0, none⟩)) a2 r2.length c2 (u1, u2, u3) ⟨o1, o2, o3, .int .u16 (hd : Nat), vp, o6, .map (some mb), o8⟩ :: x :: prB pb ct rb :: T4)) (fun w H => ((hget w [_, _, _, _, _, _] H).perm (List.perm_append_comm_assoc [_, _, _, _, _, _] ep T4))) ?_
 clear hget hT3 T3
 have hl3' := Lib.hid hl3
 have hT4' := Lib.hid hT4
 have hts' := Lib.hid hts2
 clear hl3 hT4 hts2 hl1
 by_cases hm : 32 < ps.length + 1
 ·rw [if_pos hm]
  generalize h2v (u1, u2, u3) _ 205 = fw at *
  obtain ⟨z1, z2, z3⟩ := fw
  rcases h3i hO with ⟨rfl, h0, hx, rfl⟩ | ⟨g, capg, cur, rfl, rfl, q1, q2, q3, q4⟩
  ·omega
  ·rw [← q4] at hfin
   clear hO
   (try simp only [zzC, zzN])
   repeat' (first | refine h0p ?_ | refine h0e ?_ | refine h0j rfl ?_ | ((apply h4t (i:=4) (j:=0) (id:=8) (m:=13); exact c_11; kernel_rfl; exact rfl) <;> (try refine q_t 0 (e:=c_3) (x:=by exact h0m rfl) (h:=q_t 1 (e:=c_3) (x:=by exact h0m rfl) (h:=q_t 2 (e:=c_3) (x:=by exact h0l rfl) (h:=q_t 3 (e:=c_3) (x:=by exact q_f h2j) (h:=q_t 4 (e:=c_3) (x:=by exact q_g h3u) (h:=q_t 6 (e:=c_3) (x:=by exact q_L sz_104) (h:=?_))))))) <;> (try refine h2d (i:=5) (j:=7) rfl rfl (by kernel_rfl) ?_ ?_ <;> (first | (refine TagA.mk ?_; (((refine q_k q_l ?_); refine h1g c_3 ?_) <;> (try refine q_r 7 ?_; (refine h0o (t:=33) (m:=1) (e:=104) (fun vs => (match vs with | [(_, x0)] => x0.cells.toList | _ => [])) rfl rfl (fun w => by kernel_rfl) ?_; intro nb hnb; (try simp only [Value.cells]); (try simp only [zzC, zzN])); refine h1g c_3 ?_) <;> (try refine q_r 8 ?_; (apply h1z; exact rfl; exact Tryz.underlying33; exact h5r; exact h6l; exact h6m; exact h6n; exact rfl; exact rfl; exact rfl; exact h3n; (with_reducible assumption); (with_reducible assumption); (with_reducible assumption); exact fd0; exact Nat.le_of_ble_eq_true rfl; exact c_25; exact rfl; exact h5u; omega; exact rfl; exact h6c; exact c_4; (try simp only [zzE, zzF]); intro vA eA hownA; obtain ⟨gA, capA, curA, rfl, rfl, hA1, hA2, hA3, hA4⟩ := hownA.some (by omega); (try simp only [zzC, zzN])); refine h1g c_3 ?_) <;> (try refine q_t 9 (e:=c_3) (x:=by exact h0l rfl) (h:=q_t 10 (e:=c_3) (x:=by exact q_f h2j) (h:=q_t 11 (e:=c_3) (x:=by exact q_g h3u) (h:=?_)))) <;> (try refine q_r 12 ?_; (refine q_S ?_); refine h1g c_3 ?_) <;> (try refine h1e (by kernel_rfl) ?_))) | (refine TagB.mk ?_; (((refine h0o (t:=33) (m:=1) (e:=104) (fun vs => (match vs with | [(_, x0)] => x0.cells.toList | _ => [])) rfl rfl (fun w => by kernel_rfl) ?_; intro nb hnb; (try simp only [Value.cells]); (try simp only [zzC, zzN])); refine h1g c_3 ?_) <;> (try refine q_r 5 ?_; (refine q_k q_l ?_); refine h1g c_3 ?_) <;> (try refine q_r 8 ?_; (apply h1z; exact rfl; exact Tryz.underlying33; exact h5r; exact h6l; exact h6m; exact h6n; exact rfl; exact rfl; exact rfl; exact h3n; (with_reducible assumption); (with_reducible assumption); (with_reducible assumption); exact fd0; exact Nat.le_of_ble_eq_true rfl; exact c_25; exact rfl; exact h5u; omega; exact rfl; exact h6c; exact c_4; (try simp only [zzE, zzF]); intro vA eA hownA; obtain ⟨gA, capA, curA, rfl, rfl, hA1, hA2, hA3, hA4⟩ := hownA.some (by omega); (try simp only [zzC, zzN])); refine h1g c_3 ?_) <;> (try refine q_t 9 (e:=c_3) (x:=by exact h0l rfl) (h:=q_t 10 (e:=c_3) (x:=by exact q_f h2j) (h:=q_t 11 (e:=c_3) (x:=by exact q_g h3u) (h:=?_)))) <;> (try refine q_r 12 ?_; (refine q_S ?_); refine h1g c_3 ?_) <;> (try refine h1e (by kernel_rfl) ?_)))))) | (refine gR 9 (p_m (h:=p_n (h:=p_e (q_f h2j) (h:=p_e (q_g h3u) (h:=p_e q_l (h:=p_e (by apply h0g; exact rfl; exact (fun _ => BigFrame.builtin_len ..); apply h0k Tryz.underlying33; exact h4y) (h:=p_e (q_b (r:=by exact h1y q_o)) (h:=h0d ?_))))))))) | (refine gR 10 (p_m (h:=q_e (q_L h2k) ?_)) <;> (try refine h0f ?_; (refine q_c 52 (c:=by apply hf5; exact c_9) (h:=?_); rintro _ _ ⟨rfl, rfl⟩; (try simp only [zzE, zzF]))) <;> (try refine h0d ?_)))
   all_goals
    (first | refine h0v Tryz.results83 .nil ?_ | refine h2w Tryz.results83 .nil ?_)
    exact ⟨_, ⟨a2, c2, T4, _, _, _, rfl, hts'.out, hT4'.out, hl3'.out, hfin _ _ (h4f (g:=gA) hA1 hA2 hA3 hA4), rfl⟩, by intro w H; refine Sel.out ?_ H; (try simp only [zzC, zzN]); repeat (first | exact Sel.refl _ | (apply Sel.cons; exact h3n; (try simp only [zzE, zzF])) | apply Sel.drop)⟩
 ·rw [if_neg hm]
  clear hf5
  rcases h3i hO with ⟨rfl, h0, hx, rfl⟩ | ⟨g, capg, cur, rfl, rfl, q1, q2, q3, q4⟩
  ·rw [hx, h0] at hfin
   clear hO
   (try simp only [zzC, zzN])
   repeat' (first | refine h0p ?_ | refine h0e ?_ | refine h0u ?_ | refine h0h rfl ?_ | ((apply h4c (i:=3) (id:=8) (m:=13); exact c_11; kernel_rfl; exact rfl) <;> (try refine q_t 0 (e:=c_2) (x:=by exact h0m rfl) (h:=q_t 1 (e:=c_2) (x:=by exact h0m rfl) (h:=q_t 2 (e:=c_2) (x:=by exact h0l rfl) (h:=q_t 3 (e:=c_2) (x:=by exact q_f h2j) (h:=q_t 4 (e:=c_2) (x:=by exact q_g h3u) (h:=q_t 6 (e:=c_2) (x:=by exact q_L sz_104) (h:=?_))))))) <;> (try refine h2d (i:=5) (j:=7) rfl rfl (by kernel_rfl) ?_ ?_ <;> (first | (refine TagA.mk ?_; (((refine q_k q_l ?_); refine h1g c_2 ?_) <;> (try refine q_r 7 ?_; (refine h0o (t:=33) (m:=1) (e:=104) (fun vs => (match vs with | [(_, x0)] => x0.cells.toList | _ => [])) rfl rfl (fun w => by kernel_rfl) ?_; intro nb hnb; (try simp only [Value.cells]); (try simp only [zzC, zzN])); refine h1g c_2 ?_) <;> (try refine q_r 8 ?_; (apply h2m; exact rfl; exact Tryz.underlying33; exact h5r; exact h6l; exact h6m; exact h6n; exact rfl; exact rfl; exact rfl; exact Own.nil _ _; exact fd0; exact Nat.le_of_ble_eq_true rfl; exact c_25; exact rfl; exact h5u; omega; (exact fun _ H => H); exact rfl; exact h6c; exact c_4; intro vA eA hownA; obtain ⟨gA, capA, curA, rfl, rfl, hA1, hA2, hA3, hA4⟩ := hownA.some (by omega); (try simp only [zzC, zzN])); refine h1g c_2 ?_) <;> (try refine q_t 9 (e:=c_2) (x:=by exact h0l rfl) (h:=q_t 10 (e:=c_2) (x:=by exact q_f h2j) (h:=q_t 11 (e:=c_2) (x:=by exact q_g h3u) (h:=?_)))) <;> (try refine q_r 12 ?_; (refine q_S ?_); refine h1g c_2 ?_) <;> (try refine h1e (by kernel_rfl) ?_))) | (refine TagB.mk ?_; (((refine h0o (t:=33) (m:=1) (e:=104) (fun vs => (match vs with | [(_, x0)] => x0.cells.toList | _ => [])) rfl rfl (fun w => by kernel_rfl) ?_; intro nb hnb; (try simp only [Value.cells]); (try simp only [zzC, zzN])); refine h1g c_2 ?_) <;> (try refine q_r 5 ?_; (refine q_k q_l ?_); refine h1g c_2 ?_) <;> (try refine q_r 8 ?_; (apply h2m; exact rfl; exact Tryz.underlying33; exact h5r; exact h6l; exact h6m; exact h6n; exact rfl; exact rfl; exact rfl; exact Own.nil _ _; exact fd0; exact Nat.le_of_ble_eq_true rfl; exact c_25; exact rfl; exact h5u; omega; (exact fun _ H => H); exact rfl; exact h6c; exact c_4; intro vA eA hownA; obtain ⟨gA, capA, curA, rfl, rfl, hA1, hA2, hA3, hA4⟩ := hownA.some (by omega); (try simp only [zzC, zzN])); refine h1g c_2 ?_) <;> (try refine q_t 9 (e:=c_2) (x:=by exact h0l rfl) (h:=q_t 10 (e:=c_2) (x:=by exact q_f h2j) (h:=q_t 11 (e:=c_2) (x:=by exact q_g h3u) (h:=?_)))) <;> (try refine q_r 12 ?_; (refine q_S ?_); refine h1g c_2 ?_) <;> (try refine h1e (by kernel_rfl) ?_)))))) | (refine gR 9 (p_m (h:=p_n (h:=p_e (q_f h2j) (h:=p_e (q_g h3u) (h:=p_e q_l (h:=p_e (by apply h0g; exact rfl; exact (fun _ => BigFrame.builtin_len ..); apply h0k Tryz.underlying33; exact h4y) (h:=p_e (q_b (r:=by exact h2f q_o)) (h:=h0d ?_))))))))))
   all_goals
    (first | refine h0v Tryz.results83 .nil ?_ | refine h2w Tryz.results83 .nil ?_)
    exact ⟨_, ⟨a2, c2, T4, _, _, _, rfl, hts'.out, hT4'.out, hl3'.out, hfin _ _ (h4f (g:=gA) hA1 hA2 hA3 hA4), rfl⟩, by intro w H; refine Sel.out ?_ H; (try simp only [zzC, zzN]); repeat (first | exact Sel.refl _ | (apply Sel.cons; exact h3n; (try simp only [zzE, zzF])) | apply Sel.drop)⟩
  ·rw [← q4] at hfin
   clear hO
   (try simp only [zzC, zzN])
   repeat' (first | refine h0p ?_ | refine h0e ?_ | refine h0u ?_ | refine h0h rfl ?_ | ((apply h4t (i:=4) (j:=0) (id:=8) (m:=13); exact c_11; kernel_rfl; exact rfl) <;> (try refine q_t 0 (e:=c_3) (x:=by exact h0m rfl) (h:=q_t 1 (e:=c_3) (x:=by exact h0m rfl) (h:=q_t 2 (e:=c_3) (x:=by exact h0l rfl) (h:=q_t 3 (e:=c_3) (x:=by exact q_f h2j) (h:=q_t 4 (e:=c_3) (x:=by exact q_g h3u) (h:=q_t 6 (e:=c_3) (x:=by exact q_L sz_104) (h:=?_))))))) <;> (try refine h2d (i:=5) (j:=7) rfl rfl (by kernel_rfl) ?_ ?_ <;> (first | (refine TagA.mk ?_; (((refine q_k q_l ?_); refine h1g c_3 ?_) <;> (try refine q_r 7 ?_; (refine h0o (t:=33) (m:=1) (e:=104) (fun vs => (match vs with | [(_, x0)] => x0.cells.toList | _ => [])) rfl rfl (fun w => by kernel_rfl) ?_; intro nb hnb; (try simp only [Value.cells]); (try simp only [zzC, zzN])); refine h1g c_3 ?_) <;> (try refine q_r 8 ?_; (apply h1z; exact rfl; exact Tryz.underlying33; exact h5r; exact h6l; exact h6m; exact h6n; exact rfl; exact rfl; exact rfl; exact h3n; (with_reducible assumption); (with_reducible assumption); (with_reducible assumption); exact fd0; exact Nat.le_of_ble_eq_true rfl; exact c_25; exact rfl; exact h5u; omega; exact rfl; exact h6c; exact c_4; (try simp only [zzE, zzF]); intro vA eA hownA; obtain ⟨gA, capA, curA, rfl, rfl, hA1, hA2, hA3, hA4⟩ := hownA.some (by omega); (try simp only [zzC, zzN])); refine h1g c_3 ?_) <;> (try refine q_t 9 (e:=c_3) (x:=by exact h0l rfl) (h:=q_t 10 (e:=c_3) (x:=by exact q_f h2j) (h:=q_t 11 (e:=c_3) (x:=by exact q_g h3u) (h:=?_)))) <;> (try refine q_r 12 ?_; (refine q_S ?_); refine h1g c_3 ?_) <;> (try refine h1e (by kernel_rfl) ?_))) | (refine TagB.mk ?_; (((refine h0o (t:=33) (m:=1) (e:=104) (fun vs => (match vs with | [(_, x0)] => x0.cells.toList | _ => [])) rfl rfl (fun w => by kernel_rfl) ?_; intro nb hnb; (try simp only [Value.cells]); (try simp only [zzC, zzN])); refine h1g c_3 ?_) <;> (try refine q_r 5 ?_; (refine q_k q_l ?_); refine h1g c_3 ?_) <;> (try refine q_r 8 ?_; (apply h1z; exact rfl; exact Tryz.underlying33; exact h5r; exact h6l; exact h6m; exact h6n; exact rfl; exact rfl; exact rfl; exact h3n; (with_reducible assumption); (with_reducible assumption); (with_reducible assumption); exact fd0; exact Nat.le_of_ble_eq_true rfl; exact c_25; exact rfl; exact h5u; omega; exact rfl; exact h6c; exact c_4; (try simp only [zzE, zzF]); intro vA eA hownA; obtain ⟨gA, capA, curA, rfl, rfl, hA1, hA2, hA3, hA4⟩ := hownA.some (by omega); (try simp only [zzC, zzN])); refine h1g c_3 ?_) <;> (try refine q_t 9 (e:=c_3) (x:=by exact h0l rfl) (h:=q_t 10 (e:=c_3) (x:=by exact q_f h2j) (h:=q_t 11 (e:=c_3) (x:=by exact q_g h3u) (h:=?_)))) <;> (try refine q_r 12 ?_; (refine q_S ?_); refine h1g c_3 ?_) <;> (try refine h1e (by kernel_rfl) ?_)))))) | (refine gR 9 (p_m (h:=p_n (h:=p_e (q_f h2j) (h:=p_e (q_g h3u) (h:=p_e q_l (h:=p_e (by apply h0g; exact rfl; exact (fun _ => BigFrame.builtin_len ..); apply h0k Tryz.underlying33; exact h4y) (h:=p_e (q_b (r:=by exact h2f q_o)) (h:=h0d ?_))))))))))
   all_goals
    (first | refine h0v Tryz.results83 .nil ?_ | refine h2w Tryz.results83 .nil ?_)
    exact ⟨_, ⟨a2, c2, T4, _, _, _, rfl, hts'.out, hT4'.out, hl3'.out, hfin _ _ (h4f (g:=gA) hA1 hA2 hA3 hA4), rfl⟩, by intro w H; refine Sel.out ?_ H; (try simp only [zzC, zzN]); repeat (first | exact Sel.refl _ | (apply Sel.cons; exact h3n; (try simp only [zzE, zzF])) | apply Sel.drop)⟩
def por1 (s : PS) : PS := ((h0z 2 s).2.1, if 65535 < (h0z 2 s).1.num then h2v (h0z 2 s).2.2 (h0z 2 s).1 204 else (h0z 2 s).2.2)
def porN (s : PS) : Nat := (h0z 2 s).1.num % 65536
def por2 (hd : Nat) (s : PS) : Nat × PS := setF (hd &&& 49152) (por1 s)
def por3 (hd : Nat) (ps : List (Nat × Nat)) (s : PS) : Wr := if porN s ∈ ps.map (·.1) then h2v (por2 hd s).2.2 (h0z 2 s).1 206 else (por2 hd s).2.2
def porF (hd : Nat) (at_ : Tk) (ps : List (Nat × Nat)) (s : PS) : List (Nat × Nat) × PS := (ps ++ [(porN s, (por2 hd s).1)], (por2 hd s).2.1, if 32 < ps.length + 1 then h2v (por3 hd ps s) at_ 205 else por3 hd ps s)
def porC (ps : List (Nat × Nat)) : List Value := ps.flatMap fun p => [.int .u16 (p.1 : Nat), .int .u16 (p.2 : Nat)]
def rulC (s : PS) : Option Cll := nameF (mB8 (h2g s).1.text) clls
def cnO : Option Cll → Int
 | some c => c.num
 | none => 0
def rulN (s : PS) : Int := cnO (rulC s)
def rul1 (s : PS) : PS := ((h2g s).2.1, if (rulC s).isSome then (h2g s).2.2 else h2v (h2g s).2.2 (h2g s).1 38)
def rul2 (s : PS) : Int × PS := actF (rul1 s)
def rul3 (s : PS) : List Cnd × PS := h4v ((rul2 s).2.1.length + 1) tIf (rul2 s).2 []
def rulF (at_ : Tk) (rs : List RulP) (s : PS) : List RulP × PS := (rs ++ [⟨rulN s, (rul2 s).1, (rul3 s).1⟩], (rul3 s).2.1, if 64 < rs.length + 1 then h2v (rul3 s).2.2 at_ 205 else (rul3 s).2.2)
def tCall : List UInt8 := [99, 97, 108, 108]
def tHandle : List UInt8 := [104, 97, 110, 100, 108, 101]
def tBeneath : List UInt8 := [98, 101, 110, 101, 97, 116, 104]
def tPort : List UInt8 := [112, 111, 114, 116]
def tPolicy : List UInt8 := [112, 111, 108, 105, 99, 121]
def tDefault : List UInt8 := [100, 101, 102, 97, 117, 108, 116]
def lineW (p : Pol) (t : Tk) (s : PS) : Pol × PS :=
 if t.text = tCall then ({ p with rules := (rulF t p.rules s).1 }, (rulF t p.rules s).2)
 else if t.text = tHandle then ({ p with hd := (hanF p.hd t s).1 }, (hanF p.hd t s).2)
 else if t.text = tBeneath then ({ p with paths := (benF p.hd t p.paths s).1 }, (benF p.hd t p.paths s).2)
 else if t.text = tPort then ({ p with ports := (porF p.hd t p.ports s).1 }, (porF p.hd t p.ports s).2)
 else (p, s.1, h2v s.2 t 202)
def lineP (p : Pol) (s : PS) : Pol × PS := lineW p (h0z 1 s).1 (h0z 1 s).2
def h2u : Nat → Pol × PS → Pol × PS
 | 0, q => q
 | f + 1, q => if q.2.1 = [] ∨ q.2.2 ≠ (0, 0, 0) then q else h2u f ((lineP q.1 q.2).1, (h0z 0 (lineP q.1 q.2).2).2)
def nmS (s : PS) : PS := ((h2g (keyF tPolicy s)).2.1, if (h2g (keyF tPolicy s)).2.2 = (0, 0, 0) ∧ Wd.wordF (mB8 (h2g (keyF tPolicy s)).1.text) = false then h2v (h2g (keyF tPolicy s)).2.2 (h2g (keyF tPolicy s)).1 202 else (h2g (keyF tPolicy s)).2.2)
def dfS (s : PS) : Int × PS := actF (keyF tDefault (h0z 0 (nmS s)).2)
def polS (s : PS) : Pol × PS := (⟨(h2g (keyF tPolicy s)).1.text, (dfS s).1, [], 0, [], []⟩, (h0z 0 (dfS s).2).2)
def allP (s : PS) : Pol × PS := h2u ((polS s).2.1.length + 1) (polS s)
def polF (l : List UInt8) : Pol × Wr := match (lexF l).2 with
 | some w => (zPol, w)
 | none => if (allP ((lexF l).1, (0, 0, 0))).2.2 = (0, 0, 0) then ((allP ((lexF l).1, (0, 0, 0))).1, (0, 0, 0)) else (zPol, (allP ((lexF l).1, (0, 0, 0))).2.2)
abbrev bqB (n : Nat) (p : Nat) (r : Nat) : Blk := ⟨true, n, .cells #[.int .u16 (p : Nat), .int .u16 (r : Nat)] 106 (0, 0)⟩
theorem porC_snoc (ps : List (Nat × Nat)) (s : Nat) (n : Nat) : porC (ps ++ [(s, n)]) = porC ps ++ [.int .u16 (s : Nat), .int .u16 (n : Nat)] := by simp [porC]
theorem wrap16 (n : Nat) : IntKind.u16.wrap (n : Int) = ((n % 65536 : Nat) : Int) := by
 rw [IntKind.wrap_u16]; omega
set_option maxHeartbeats 2000000 in
theorem port_c {S w0} (hd : Nat) (hhd : hd < 65536) (ps : List (Nat × Nat)) (o1 o2 o3 vp o5 o7 : Value) (ep : List Blk) (mb : Nat) (kvs : List (Value × Value)) (t : Tk) (b pb ct rb m : Nat) (L0 T : List Blk)
  (hlen : ps.length ≤ 64) (hO : Own 106 2 vp ps.length (porC ps) ep) (hM : MapS keyP kvs (ps.map (·.1))) (hT : EnS ct rb m L0 T) (a : Option Addr) (c : Nat) (l : List Tk) (w : Wr) (x : Blk) (h : TkS x a c l) :
  Fn Tryz.prog 84 #[.pointer (some ⟨b, 0, none⟩), .agg t.cells.toArray] S w0 (h3m mb kvs :: (ep ++ (rdB b (.pointer (some ⟨pb, 0, none⟩)) a l.length c w ⟨o1, o2, o3, .int .u16 (hd : Nat), o5, vp, o7, .map (some mb)⟩ :: x :: prB pb ct rb :: T))) fun v L' => ∃ a' c' T' kvs' vp' ep', v = .tuple #[] ∧ TkS x a' c' (porF hd t ps (l, w)).2.1 ∧ EnS ct rb m L0 T' ∧ MapS keyP kvs' ((porF hd t ps (l, w)).1.map (·.1)) ∧ Own 106 2 vp' (porF hd t ps (l, w)).1.length (porC (porF hd t ps (l, w)).1) ep' ∧ h3m mb kvs' :: (ep' ++ (rdB b (.pointer (some ⟨pb, 0, none⟩)) a' (porF hd t ps (l, w)).2.1.length c' (porF hd t ps (l, w)).2.2 ⟨o1, o2, o3, .int .u16 (hd : Nat), o5, vp', o7, .map (some mb)⟩ :: x :: prB pb ct rb :: T')) = L' := by
 have htk := fun (L : List Blk) (i j : Nat) h1 h2 => take_d (S:=S) (w0:=w0) (L:=L) 2 (by decide) (i:=i) (j:=j) (b:=b) (c:=c) (p:=.pointer (some ⟨pb, 0, none⟩)) (a:=a) (l:=l) (w:=w) (o:=⟨o1, o2, o3, .int .u16 (hd : Nat), o5, vp, o7, .map (some mb)⟩) (x:=x) h1 h2 h
 have hok := (h6f (k:=2) (s:=(l, w)) h.ok)
 have e1 : por1 (l, w) = ((h0z 2 (l, w)).2.1, if 65535 < (h0z 2 (l, w)).1.num then h2v (h0z 2 (l, w)).2.2 (h0z 2 (l, w)).1 204 else (h0z 2 (l, w)).2.2) := rfl
 unfold porF por3 por2 porN
 rw [e1]
 clear e1 h
 generalize h0z 2 (l, w) = Q at *
 obtain ⟨tt, r, f1, f2, f3⟩ := Q
 dsimp only at *
 have hlk := hM.look (.int .u16) keyP keyP_same (tt.num % 65536)
 clear hM
 obtain ⟨rr, hl1, hl2, hl3⟩ := hlk
 have hnu := hok.1.num
 have hwr := wrap16 tt.num
 clear hok
 have hfl := fun (L : List Blk) (i : Nat) (a' : Option Addr) (c' : Nat) h1 => h5n (S:=S) (w0:=w0) (L:=L) (i:=i) (b:=b) (n:=r.length) (c:=c') (p:=(.pointer (some ⟨pb, 0, none⟩))) (a:=a') (w:=(f1, f2, f3)) (o:=⟨o1, o2, o3, .int .u16 (hd : Nat), o5, vp, o7, .map (some mb)⟩) h1 tt 204
 obtain ⟨T2, hT2, hput⟩ := hT.put (S:=S) (w0:=w0) ep
 refine Fn.weak (L2:=h3m mb kvs :: rdB b (.pointer (some ⟨pb, 0, none⟩)) a l.length c w ⟨o1, o2, o3, .int .u16 (hd : Nat), o5, vp, o7, .map (some mb)⟩ :: x :: prB pb ct rb :: T2) (fun w H => hput w [_, _, _, _] (H.perm ?_)) ?_
 ·exact List.Perm.cons _ (List.perm_append_comm_assoc ep [_, _, _] T)
 clear hT hput
 generalize hg : (if 65535 < tt.num then h2v (f1, f2, f3) tt 204 else (f1, f2, f3)) = g at *
 obtain ⟨g1, g2, g3⟩ := g
 have hst := fun (x1 x2 : Blk) (a1 : Option Addr) (c1 : Nat) h => set_e (S:=S) (w0:=w0) [x1, x2, h3m mb kvs] (hd &&& 49152) (by have := Nat.and_le_left (n:=hd) (m:=49152); omega) b pb ct rb m _ T2 hT2 a1 c1 r (g1, g2, g3) ⟨o1, o2, o3, .int .u16 (hd : Nat), o5, vp, o7, .map (some mb)⟩ x h
 have hst4 := fun (x0 x1 x2 : Blk) (a1 : Option Addr) (c1 : Nat) h => set_e (S:=S) (w0:=w0) [x0, x1, x2, h3m mb kvs] (hd &&& 49152) (by have := Nat.and_le_left (n:=hd) (m:=49152); omega) b pb ct rb m _ T2 hT2 a1 c1 r (g1, g2, g3) ⟨o1, o2, o3, .int .u16 (hd : Nat), o5, vp, o7, .map (some mb)⟩ x h
 have hlt := setF_lt (hd &&& 49152) (r, (g1, g2, g3))
 generalize setF (hd &&& 49152) (r, (g1, g2, g3)) = Q at *
 obtain ⟨st, r2, k1, k2, k3⟩ := Q
 rw [← iand_nat] at hst hst4
 dsimp only [List.cons_append, List.nil_append] at *
 have hf6 := fun (L : List Blk) (i : Nat) (a' : Option Addr) (c' : Nat) h1 => h5n (S:=S) (w0:=w0) (L:=L) (i:=i) (b:=b) (n:=r2.length) (c:=c') (p:=(.pointer (some ⟨pb, 0, none⟩))) (a:=a') (w:=(k1, k2, k3)) (o:=⟨o1, o2, o3, .int .u16 (hd : Nat), o5, vp, o7, .map (some mb)⟩) h1 tt 206
 generalize hu : (if tt.num % 65536 ∈ ps.map (·.1) then h2v (k1, k2, k3) tt 206 else (k1, k2, k3)) = u at *
 obtain ⟨u1, u2, u3⟩ := u
 have hf5 := fun (L : List Blk) (i : Nat) (a' : Option Addr) (c' : Nat) (v : Value) h1 => h5n (S:=S) (w0:=w0) (L:=L) (i:=i) (b:=b) (n:=r2.length) (c:=c') (p:=(.pointer (some ⟨pb, 0, none⟩))) (a:=a') (w:=(u1, u2, u3)) (o:=⟨o1, o2, o3, .int .u16 (hd : Nat), o5, v, o7, .map (some mb)⟩) h1 t 205
 generalize hpn : tt.num % 65536 = pn at *
 have hfin : ∀ v e, Own 106 2 v (ps.length + 1) (porC ps ++ [.int .u16 (pn : Nat), .int .u16 (st : Nat)]) e → Own 106 2 v (ps ++ [(pn, st)]).length (porC (ps ++ [(pn, st)])) e := fun v e ho => by
  rw [porC_snoc, List.length_append]; exact ho
 rw [show ps.map (·.1) ++ [pn] = (ps ++ [(pn, st)]).map (·.1) by rw [List.map_append]; rfl] at hl3
 generalize ps ++ [(pn, st)] = ps2 at *
 obtain ⟨w1, w2, w3⟩ := w
 obtain ⟨tk, tx, nu, li, co⟩ := t
 obtain ⟨sk, sx, sn, sl, sc⟩ := tt
 dsimp only [Tk.cells] at *
 clear hpn
 refine Fn2 Tryz.func84 Tryz.ntmps84 rfl rfl ?_
 repeat' (first | (refine h2h (id:=1) ?_) | refine h0p ?_ | refine h0e ?_ | (refine gR 0 ?_ <;> (try refine h0f ?_; (refine h5b (t:=166) rfl rfl ?_; intro nb hnb; (try simp only [Value.cells]))) <;> (try refine h0d ?_)))
 refine ⟨?_⟩
 obtain ⟨nb3, rfl⟩ : ∃ x, x = nb := ⟨_, rfl⟩
 repeat' (first | (refine G_markc (t:=10) ?_) | refine h0p ?_ | refine h0e ?_ | (refine gR 1 (q_m ?_) <;> (try refine h0f ?_; (refine q_c 53 (c:=by apply htk; exact c_9; exact c_9) (h:=?_); rintro _ _ ⟨a1, c1, rfl, hts, rfl⟩; (try simp only [zzE, zzF]))) <;> (try refine h0f ?_; (refine h0i (t:=166) rfl Tryz.zeroValue166 ?_; intro nb hnb; (try simp only [Value.cells]))) <;> (try refine h0f ?_; (refine q_W ?_)) <;> (try refine h0d ?_)) | (refine gR 2 (p_e (q_f h4q) (h:=p_e q_l (h:=p_e (q_b (r:=by exact rb_gtr)) (h:=h0d ?_))))))
 refine ⟨?_⟩
 obtain ⟨nb4, rfl⟩ : ∃ x, x = nb := ⟨_, rfl⟩
 refine h2z (γ:=Unit) (fun _ => True) (fun _ => []) [(0, _), (3, _), (4, _)]
  (fun _ => tkBl nb4 ⟨sk, sx, sn, sl, sc⟩ :: tkBl nb3 ⟨tk, tx, nu, li, co⟩ :: h3m mb kvs :: rdB b (.pointer (some ⟨pb, 0, none⟩)) a1 r.length c1 (g1, g2, g3) ⟨o1, o2, o3, .int .u16 (hd : Nat), o5, vp, o7, .map (some mb)⟩ :: x :: prB pb ct rb :: T2) (.cons rfl (.cons rfl (.cons rfl .nil))) ?_ ?_
 ·by_cases hc : 65535 < sn
  ·rw [if_pos hc] at hg
   rw [hg] at hfl
   clear hg
   refine h5v rfl (fun _ => ?_) (fun hn => (by omega : False).elim)
   repeat' (first | refine h0t ?_ | (refine gR 3 (p_m (h:=q_e (q_L h2k) ?_)) <;> (try refine h0f ?_; (refine q_c 52 (c:=by apply hfl; exact c_9) (h:=?_); rintro _ _ ⟨rfl, rfl⟩; (try simp only [zzE, zzF]))) <;> (try refine h0d ?_)))
   exact h0w () trivial (by (focus (repeat (first | exact Sub.nil | refine Sub.cons rfl ?_)))) c_23
  ·rw [if_neg hc] at hg
   injection hg with y1 y2
   injection y2 with y2 y3
   subst y1 y2 y3
   refine h5v rfl (fun hn => (by omega : False).elim) (fun _ => ?_)
   repeat' (first | refine h0t ?_ | refine h0u ?_)
   exact h0w () trivial (by (focus (repeat (first | exact Sub.nil | refine Sub.cons rfl ?_)))) c_23
 clear hg hfl htk
 rintro - -
 simp only [List.cons_append, List.nil_append]
 refine h0p ?_
 refine h2z (γ:=Nat × Option Addr × Nat × List Blk) (fun g => TkS x g.2.1 g.2.2.1 r2 ∧ EnS ct rb m (ep ++ L0) g.2.2.2) (fun g => [(5, .pointer (some ⟨g.1, 0, none⟩))]) [(0, _), (3, _), (4, _)]
  (fun g => bqB g.1 pn st :: tkBl nb4 ⟨sk, sx, sn, sl, sc⟩ :: tkBl nb3 ⟨tk, tx, nu, li, co⟩ :: h3m mb kvs :: rdB b (.pointer (some ⟨pb, 0, none⟩)) g.2.1 r2.length g.2.2.1 (k1, k2, k3) ⟨o1, o2, o3, .int .u16 (hd : Nat), o5, vp, o7, .map (some mb)⟩ :: x :: prB pb ct rb :: g.2.2.2) (.cons rfl (.cons rfl (.cons rfl .nil))) ?_ ?_
 ·repeat' (first | refine h0t ?_ | ((refine h2t (pre:=[_, _, _]) (id:=4) (m:=14) rfl (by kernel_rfl) rfl (q_t 0 (e:=h2x) (x:=by exact q_f h4q) (h:=q_t 1 (e:=h2x) (x:=by exact q_l) (h:=q_t 2 (e:=h2x) (x:=by apply h4l; exact rfl; (focus (apply h4r Tryz.underlying97 Tryz.underlying31; exact hwr))) (h:=q_t 3 (e:=h2x) (x:=by exact h0m rfl) (h:=q_t 4 (e:=h2x) (x:=by exact h0m rfl) (h:=q_t 5 (e:=h2x) (x:=by exact h0l rfl) (h:=q_t 6 (e:=h2x) (x:=by exact q_f h2j) (h:=q_t 7 (e:=h2x) (x:=by exact q_g h5o) (h:=?_)))))))))) <;> (try refine h2d (i:=8) (j:=12) rfl rfl (by kernel_rfl) ?_ ?_ <;> (first | (refine TagA.mk ?_; (((refine q_k q_l ?_); refine h1g h2x ?_) <;> (try refine q_t 9 (e:=h2x) (x:=by exact q_b (r:=by refine rb_and ?_ ?_; (focus (refine ⟨rfl, ⟨?_, ?_⟩⟩; omega; (focus (simp only [IntKind.bits]; omega)))); (focus (refine ⟨rfl, ⟨?_, ?_⟩⟩; omega; (focus (simp only [IntKind.bits]; omega)))))) (h:=?_)) <;> (try refine h2d (i:=10) (j:=12) rfl rfl (by kernel_rfl) ?_ ?_ <;> (first | (refine TagA.mk ?_; (((refine q_c 100 (c:=by apply hst; (with_reducible assumption)) (h:=?_); rintro _ _ ⟨a2, c2, T3, rfl, hts2, hT3, rfl⟩; (try simp only [zzE, zzF])); refine h1g h2x ?_) <;> (try refine q_t 11 (e:=h2x) (x:=by exact h0s (t:=106) (fun vs => (match vs with | [(_, x0), (_, x1)] => [x0, x1] | _ => [])) rfl (fun w => by kernel_rfl)) (h:=?_); (try simp only [Value.cells]); (try simp only [zzC, zzN])) <;> (try refine q_r 12 ?_; (refine h0i (t:=106) rfl Tryz.zeroValue106 ?_; intro nb hnb; (try simp only [Value.cells])); refine h1g c_8 ?_) <;> (try refine q_r 13 ?_; (refine q_W ?_); refine h1g c_8 ?_) <;> (try refine h1e (by kernel_rfl) ?_))) | (refine TagB.mk ?_; (((refine h0i (t:=106) rfl Tryz.zeroValue106 ?_; intro nb hnb; (try simp only [Value.cells])); refine h1g c_8 ?_) <;> (try refine q_r 10 ?_; (refine q_c 100 (c:=by apply hst4; (with_reducible assumption)) (h:=?_); rintro _ _ ⟨a2, c2, T3, rfl, hts2, hT3, rfl⟩; (try simp only [zzE, zzF])); refine h1g c_8 ?_) <;> (try refine q_t 11 (e:=c_8) (x:=by exact h0s (t:=106) (fun vs => (match vs with | [(_, x0), (_, x1)] => [x0, x1] | _ => [])) rfl (fun w => by kernel_rfl)) (h:=?_); (try simp only [Value.cells]); (try simp only [zzC, zzN])) <;> (try refine q_r 13 ?_; (refine q_W ?_); refine h1g c_8 ?_) <;> (try refine h1e (by kernel_rfl) ?_))))))) | (refine TagB.mk ?_; (((refine h0i (t:=106) rfl Tryz.zeroValue106 ?_; intro nb hnb; (try simp only [Value.cells])); refine h1g c_8 ?_) <;> (try refine q_r 8 ?_; (refine q_k q_l ?_); refine h1g c_8 ?_) <;> (try refine q_t 9 (e:=c_8) (x:=by exact q_b (r:=by refine rb_and ?_ ?_; (focus (refine ⟨rfl, ⟨?_, ?_⟩⟩; omega; (focus (simp only [IntKind.bits]; omega)))); (focus (refine ⟨rfl, ⟨?_, ?_⟩⟩; omega; (focus (simp only [IntKind.bits]; omega)))))) (h:=?_)) <;> (try refine q_r 10 ?_; (refine q_c 100 (c:=by apply hst4; (with_reducible assumption)) (h:=?_); rintro _ _ ⟨a2, c2, T3, rfl, hts2, hT3, rfl⟩; (try simp only [zzE, zzF])); refine h1g c_8 ?_) <;> (try refine q_t 11 (e:=c_8) (x:=by exact h0s (t:=106) (fun vs => (match vs with | [(_, x0), (_, x1)] => [x0, x1] | _ => [])) rfl (fun w => by kernel_rfl)) (h:=?_); (try simp only [Value.cells]); (try simp only [zzC, zzN])) <;> (try refine q_r 13 ?_; (refine q_W ?_); refine h1g c_8 ?_) <;> (try refine h1e (by kernel_rfl) ?_)))))))
  all_goals exact h0w (_, a2, c2, T3) ⟨hts2, hT3⟩ (by (focus (repeat (first | exact Sub.nil | refine Sub.cons rfl ?_)))) c_27
 clear hst hst4 hts hT2 T2 a1 c1 hwr
 rintro ⟨nb5, a2, c2, T3⟩ ⟨hts2, hT3⟩
 dsimp only [List.cons_append, List.nil_append] at *
 repeat' (first | (refine G_markc (t:=32) ?_) | refine h0p ?_ | refine h0e ?_ | ((refine h2q (id:=5) (m:=7) (by kernel_rfl) rfl (q_u 0 (x:=by exact h0m rfl) (h:=q_u 1 (x:=by exact h0l rfl) (h:=q_u 2 (x:=by exact q_f fo_85_5) (h:=q_u 3 (x:=by exact q_l) (h:=q_u 4 (x:=by exact q_f fo_106_0) (h:=q_u 5 (x:=by exact q_l) (h:=q_u 6 (x:=by apply h5s; exact rfl; exact rfl; exact h3n; exact Tryz.underlying83; exact Tryz.underlying31; exact rfl; exact Tryz.zeroValue4; (with_reducible assumption); (with_reducible assumption)) (h:=h1e (by kernel_rfl) ?_)))))))))))
 refine ⟨?_⟩
 refine h2z (γ:=Unit) (fun _ => True) (fun _ => []) [(0, _), (3, _), (5, _)]
  (fun _ => bqB nb5 pn st :: tkBl nb3 ⟨tk, tx, nu, li, co⟩ :: h3m mb kvs :: rdB b (.pointer (some ⟨pb, 0, none⟩)) a2 r2.length c2 (u1, u2, u3) ⟨o1, o2, o3, .int .u16 (hd : Nat), o5, vp, o7, .map (some mb)⟩ :: x :: prB pb ct rb :: T3) (.cons rfl (.cons rfl (.cons rfl .nil))) ?_ ?_
 ·by_cases hc : pn ∈ ps.map (·.1)
  ·rw [if_pos hc] at hu
   rw [hu] at hf6
   clear hu hfin
   refine h5v rfl (fun _ => ?_) (fun hn => absurd hc hn)
   clear hc
   repeat' (first | refine h0t ?_ | (refine gR 6 (p_m (h:=q_e (q_L h2k) ?_)) <;> (try refine h0f ?_; (refine q_c 52 (c:=by apply hf6; exact c_9) (h:=?_); rintro _ _ ⟨rfl, rfl⟩; (try simp only [zzE, zzF]))) <;> (try refine h0d ?_)))
   exact h0w () trivial (by (focus (repeat (first | exact Sub.nil | refine Sub.cons rfl ?_)))) c_22
  ·rw [if_neg hc] at hu
   injection hu with y1 y2
   injection y2 with y2 y3
   subst y1 y2 y3
   refine h5v rfl (fun hn => absurd hn hc) (fun _ => ?_)
   clear hc
   repeat' (first | refine h0t ?_ | refine h0u ?_)
   exact h0w () trivial (by (focus (repeat (first | exact Sub.nil | refine Sub.cons rfl ?_)))) c_22
 clear hf6 hu hl2 k1 k2 k3
 rintro - -
 dsimp only [List.cons_append, List.nil_append]
 repeat' (first | (refine h2h (id:=8) ?_) | refine h0p ?_ | refine h0e ?_ | ((apply h4c (i:=2) (id:=7) (m:=7); exact c_11; kernel_rfl; exact rfl) <;> (try refine q_t 0 (e:=c_2) (x:=by exact h0m rfl) (h:=q_t 1 (e:=c_2) (x:=by exact h0l rfl) (h:=q_t 2 (e:=c_2) (x:=by exact q_f fo_85_5) (h:=q_t 3 (e:=c_2) (x:=by exact q_l) (h:=q_t 4 (e:=c_2) (x:=by exact q_f fo_106_0) (h:=q_t 5 (e:=c_2) (x:=by exact q_l) (h:=?_))))))) <;> (try refine q_r 6 ?_; (apply h5i; exact rfl; exact rfl; exact rfl; exact h3n; exact Tryz.underlying83; exact Tryz.underlying31; exact rfl; (with_reducible assumption); (try simp only [List.set_cons_succ]); (try simp only [List.set_cons_zero])); refine h1g c_2 ?_) <;> (try refine h1e (by kernel_rfl) ?_)))
 refine ⟨?_⟩
 obtain ⟨T4, hT4, hget⟩ := hT3.get (S:=S) (w0:=w0) ep
 refine h3y (L' := ep ++ (bqB nb5 pn st :: tkBl nb3 ⟨tk, tx, nu, li, co⟩ :: h3m mb (updE kvs (keyP pn) (.bool true) rr) :: rdB b (.pointer (some ⟨pb, 0, none⟩)) a2 r2.length c2 (u1, u2, u3) ⟨o1, o2, o3, .int .u16 (hd : Nat), o5, vp, o7, .map (some mb)⟩ :: x :: prB pb ct rb :: T4)) (fun w H => ((hget w [_, _, _, _, _, _] H).perm (List.perm_append_comm_assoc [_, _, _, _, _, _] ep T4))) ?_
 clear hget hT3 T3
 have hl3' := Lib.hid hl3
 have hT4' := Lib.hid hT4
 have hts' := Lib.hid hts2
 clear hl3 hT4 hts2 hl1
 by_cases hm : 32 < ps.length + 1
 ·rw [if_pos hm]
  generalize h2v (u1, u2, u3) _ 205 = fw at *
  obtain ⟨z1, z2, z3⟩ := fw
  rcases h3i hO with ⟨rfl, h0, hx, rfl⟩ | ⟨g, capg, cur, rfl, rfl, q1, q2, q3, q4⟩
  ·omega
  ·rw [← q4] at hfin
   clear hO
   (try simp only [zzC, zzN])
   repeat' (first | refine h0p ?_ | refine h0e ?_ | refine h0j rfl ?_ | ((apply h4t (i:=4) (j:=0) (id:=8) (m:=13); exact c_11; kernel_rfl; exact rfl) <;> (try refine q_t 0 (e:=c_3) (x:=by exact h0m rfl) (h:=q_t 1 (e:=c_3) (x:=by exact h0m rfl) (h:=q_t 2 (e:=c_3) (x:=by exact h0l rfl) (h:=q_t 3 (e:=c_3) (x:=by exact q_f h2j) (h:=q_t 4 (e:=c_3) (x:=by exact q_g h3t) (h:=q_t 6 (e:=c_3) (x:=by exact q_L sz_106) (h:=?_))))))) <;> (try refine h2d (i:=5) (j:=7) rfl rfl (by kernel_rfl) ?_ ?_ <;> (first | (refine TagA.mk ?_; (((refine q_k q_l ?_); refine h1g c_3 ?_) <;> (try refine q_r 7 ?_; (refine h0o (t:=34) (m:=1) (e:=106) (fun vs => (match vs with | [(_, x0)] => x0.cells.toList | _ => [])) rfl rfl (fun w => by kernel_rfl) ?_; intro nb hnb; (try simp only [Value.cells]); (try simp only [zzC, zzN])); refine h1g c_3 ?_) <;> (try refine q_r 8 ?_; (apply h1z; exact rfl; exact Tryz.underlying34; exact h5q; exact h6i; exact h6j; exact h6k; exact rfl; exact rfl; exact rfl; exact h3n; (with_reducible assumption); (with_reducible assumption); (with_reducible assumption); exact fd0; exact Nat.le_of_ble_eq_true rfl; exact c_25; exact rfl; exact h5u; omega; exact rfl; exact h6c; exact c_4; (try simp only [zzE, zzF]); intro vA eA hownA; obtain ⟨gA, capA, curA, rfl, rfl, hA1, hA2, hA3, hA4⟩ := hownA.some (by omega); (try simp only [zzC, zzN])); refine h1g c_3 ?_) <;> (try refine q_t 9 (e:=c_3) (x:=by exact h0l rfl) (h:=q_t 10 (e:=c_3) (x:=by exact q_f h2j) (h:=q_t 11 (e:=c_3) (x:=by exact q_g h3t) (h:=?_)))) <;> (try refine q_r 12 ?_; (refine q_S ?_); refine h1g c_3 ?_) <;> (try refine h1e (by kernel_rfl) ?_))) | (refine TagB.mk ?_; (((refine h0o (t:=34) (m:=1) (e:=106) (fun vs => (match vs with | [(_, x0)] => x0.cells.toList | _ => [])) rfl rfl (fun w => by kernel_rfl) ?_; intro nb hnb; (try simp only [Value.cells]); (try simp only [zzC, zzN])); refine h1g c_3 ?_) <;> (try refine q_r 5 ?_; (refine q_k q_l ?_); refine h1g c_3 ?_) <;> (try refine q_r 8 ?_; (apply h1z; exact rfl; exact Tryz.underlying34; exact h5q; exact h6i; exact h6j; exact h6k; exact rfl; exact rfl; exact rfl; exact h3n; (with_reducible assumption); (with_reducible assumption); (with_reducible assumption); exact fd0; exact Nat.le_of_ble_eq_true rfl; exact c_25; exact rfl; exact h5u; omega; exact rfl; exact h6c; exact c_4; (try simp only [zzE, zzF]); intro vA eA hownA; obtain ⟨gA, capA, curA, rfl, rfl, hA1, hA2, hA3, hA4⟩ := hownA.some (by omega); (try simp only [zzC, zzN])); refine h1g c_3 ?_) <;> (try refine q_t 9 (e:=c_3) (x:=by exact h0l rfl) (h:=q_t 10 (e:=c_3) (x:=by exact q_f h2j) (h:=q_t 11 (e:=c_3) (x:=by exact q_g h3t) (h:=?_)))) <;> (try refine q_r 12 ?_; (refine q_S ?_); refine h1g c_3 ?_) <;> (try refine h1e (by kernel_rfl) ?_)))))) | (refine gR 9 (p_m (h:=p_n (h:=p_e (q_f h2j) (h:=p_e (q_g h3t) (h:=p_e q_l (h:=p_e (by apply h0g; exact rfl; exact (fun _ => BigFrame.builtin_len ..); apply h0k Tryz.underlying34; exact h4y) (h:=p_e (q_b (r:=by exact h1y q_o)) (h:=h0d ?_))))))))) | (refine gR 10 (p_m (h:=q_e (q_L h2k) ?_)) <;> (try refine h0f ?_; (refine q_c 52 (c:=by apply hf5; exact c_9) (h:=?_); rintro _ _ ⟨rfl, rfl⟩; (try simp only [zzE, zzF]))) <;> (try refine h0d ?_)))
   all_goals
    (first | refine h0v Tryz.results84 .nil ?_ | refine h2w Tryz.results84 .nil ?_)
    exact ⟨_, ⟨a2, c2, T4, _, _, _, rfl, hts'.out, hT4'.out, hl3'.out, hfin _ _ (h4f (g:=gA) hA1 hA2 hA3 hA4), rfl⟩, by intro w H; refine Sel.out ?_ H; (try simp only [zzC, zzN]); repeat (first | exact Sel.refl _ | (apply Sel.cons; exact h3n; (try simp only [zzE, zzF])) | apply Sel.drop)⟩
 ·rw [if_neg hm]
  clear hf5
  rcases h3i hO with ⟨rfl, h0, hx, rfl⟩ | ⟨g, capg, cur, rfl, rfl, q1, q2, q3, q4⟩
  ·rw [hx, h0] at hfin
   clear hO
   (try simp only [zzC, zzN])
   repeat' (first | refine h0p ?_ | refine h0e ?_ | refine h0u ?_ | refine h0h rfl ?_ | ((apply h4c (i:=3) (id:=8) (m:=13); exact c_11; kernel_rfl; exact rfl) <;> (try refine q_t 0 (e:=c_2) (x:=by exact h0m rfl) (h:=q_t 1 (e:=c_2) (x:=by exact h0m rfl) (h:=q_t 2 (e:=c_2) (x:=by exact h0l rfl) (h:=q_t 3 (e:=c_2) (x:=by exact q_f h2j) (h:=q_t 4 (e:=c_2) (x:=by exact q_g h3t) (h:=q_t 6 (e:=c_2) (x:=by exact q_L sz_106) (h:=?_))))))) <;> (try refine h2d (i:=5) (j:=7) rfl rfl (by kernel_rfl) ?_ ?_ <;> (first | (refine TagA.mk ?_; (((refine q_k q_l ?_); refine h1g c_2 ?_) <;> (try refine q_r 7 ?_; (refine h0o (t:=34) (m:=1) (e:=106) (fun vs => (match vs with | [(_, x0)] => x0.cells.toList | _ => [])) rfl rfl (fun w => by kernel_rfl) ?_; intro nb hnb; (try simp only [Value.cells]); (try simp only [zzC, zzN])); refine h1g c_2 ?_) <;> (try refine q_r 8 ?_; (apply h2m; exact rfl; exact Tryz.underlying34; exact h5q; exact h6i; exact h6j; exact h6k; exact rfl; exact rfl; exact rfl; exact Own.nil _ _; exact fd0; exact Nat.le_of_ble_eq_true rfl; exact c_25; exact rfl; exact h5u; omega; (exact fun _ H => H); exact rfl; exact h6c; exact c_4; intro vA eA hownA; obtain ⟨gA, capA, curA, rfl, rfl, hA1, hA2, hA3, hA4⟩ := hownA.some (by omega); (try simp only [zzC, zzN])); refine h1g c_2 ?_) <;> (try refine q_t 9 (e:=c_2) (x:=by exact h0l rfl) (h:=q_t 10 (e:=c_2) (x:=by exact q_f h2j) (h:=q_t 11 (e:=c_2) (x:=by exact q_g h3t) (h:=?_)))) <;> (try refine q_r 12 ?_; (refine q_S ?_); refine h1g c_2 ?_) <;> (try refine h1e (by kernel_rfl) ?_))) | (refine TagB.mk ?_; (((refine h0o (t:=34) (m:=1) (e:=106) (fun vs => (match vs with | [(_, x0)] => x0.cells.toList | _ => [])) rfl rfl (fun w => by kernel_rfl) ?_; intro nb hnb; (try simp only [Value.cells]); (try simp only [zzC, zzN])); refine h1g c_2 ?_) <;> (try refine q_r 5 ?_; (refine q_k q_l ?_); refine h1g c_2 ?_) <;> (try refine q_r 8 ?_; (apply h2m; exact rfl; exact Tryz.underlying34; exact h5q; exact h6i; exact h6j; exact h6k; exact rfl; exact rfl; exact rfl; exact Own.nil _ _; exact fd0; exact Nat.le_of_ble_eq_true rfl; exact c_25; exact rfl; exact h5u; omega; (exact fun _ H => H); exact rfl; exact h6c; exact c_4; intro vA eA hownA; obtain ⟨gA, capA, curA, rfl, rfl, hA1, hA2, hA3, hA4⟩ := hownA.some (by omega); (try simp only [zzC, zzN])); refine h1g c_2 ?_) <;> (try refine q_t 9 (e:=c_2) (x:=by exact h0l rfl) (h:=q_t 10 (e:=c_2) (x:=by exact q_f h2j) (h:=q_t 11 (e:=c_2) (x:=by exact q_g h3t) (h:=?_)))) <;> (try refine q_r 12 ?_; (refine q_S ?_); refine h1g c_2 ?_) <;> (try refine h1e (by kernel_rfl) ?_)))))) | (refine gR 9 (p_m (h:=p_n (h:=p_e (q_f h2j) (h:=p_e (q_g h3t) (h:=p_e q_l (h:=p_e (by apply h0g; exact rfl; exact (fun _ => BigFrame.builtin_len ..); apply h0k Tryz.underlying34; exact h4y) (h:=p_e (q_b (r:=by exact h2f q_o)) (h:=h0d ?_))))))))))
   all_goals
    (first | refine h0v Tryz.results84 .nil ?_ | refine h2w Tryz.results84 .nil ?_)
    exact ⟨_, ⟨a2, c2, T4, _, _, _, rfl, hts'.out, hT4'.out, hl3'.out, hfin _ _ (h4f (g:=gA) hA1 hA2 hA3 hA4), rfl⟩, by intro w H; refine Sel.out ?_ H; (try simp only [zzC, zzN]); repeat (first | exact Sel.refl _ | (apply Sel.cons; exact h3n; (try simp only [zzE, zzF])) | apply Sel.drop)⟩
  ·rw [← q4] at hfin
   clear hO
   (try simp only [zzC, zzN])
   repeat' (first | refine h0p ?_ | refine h0e ?_ | refine h0u ?_ | refine h0h rfl ?_ | ((apply h4t (i:=4) (j:=0) (id:=8) (m:=13); exact c_11; kernel_rfl; exact rfl) <;> (try refine q_t 0 (e:=c_3) (x:=by exact h0m rfl) (h:=q_t 1 (e:=c_3) (x:=by exact h0m rfl) (h:=q_t 2 (e:=c_3) (x:=by exact h0l rfl) (h:=q_t 3 (e:=c_3) (x:=by exact q_f h2j) (h:=q_t 4 (e:=c_3) (x:=by exact q_g h3t) (h:=q_t 6 (e:=c_3) (x:=by exact q_L sz_106) (h:=?_))))))) <;> (try refine h2d (i:=5) (j:=7) rfl rfl (by kernel_rfl) ?_ ?_ <;> (first | (refine TagA.mk ?_; (((refine q_k q_l ?_); refine h1g c_3 ?_) <;> (try refine q_r 7 ?_; (refine h0o (t:=34) (m:=1) (e:=106) (fun vs => (match vs with | [(_, x0)] => x0.cells.toList | _ => [])) rfl rfl (fun w => by kernel_rfl) ?_; intro nb hnb; (try simp only [Value.cells]); (try simp only [zzC, zzN])); refine h1g c_3 ?_) <;> (try refine q_r 8 ?_; (apply h1z; exact rfl; exact Tryz.underlying34; exact h5q; exact h6i; exact h6j; exact h6k; exact rfl; exact rfl; exact rfl; exact h3n; (with_reducible assumption); (with_reducible assumption); (with_reducible assumption); exact fd0; exact Nat.le_of_ble_eq_true rfl; exact c_25; exact rfl; exact h5u; omega; exact rfl; exact h6c; exact c_4; (try simp only [zzE, zzF]); intro vA eA hownA; obtain ⟨gA, capA, curA, rfl, rfl, hA1, hA2, hA3, hA4⟩ := hownA.some (by omega); (try simp only [zzC, zzN])); refine h1g c_3 ?_) <;> (try refine q_t 9 (e:=c_3) (x:=by exact h0l rfl) (h:=q_t 10 (e:=c_3) (x:=by exact q_f h2j) (h:=q_t 11 (e:=c_3) (x:=by exact q_g h3t) (h:=?_)))) <;> (try refine q_r 12 ?_; (refine q_S ?_); refine h1g c_3 ?_) <;> (try refine h1e (by kernel_rfl) ?_))) | (refine TagB.mk ?_; (((refine h0o (t:=34) (m:=1) (e:=106) (fun vs => (match vs with | [(_, x0)] => x0.cells.toList | _ => [])) rfl rfl (fun w => by kernel_rfl) ?_; intro nb hnb; (try simp only [Value.cells]); (try simp only [zzC, zzN])); refine h1g c_3 ?_) <;> (try refine q_r 5 ?_; (refine q_k q_l ?_); refine h1g c_3 ?_) <;> (try refine q_r 8 ?_; (apply h1z; exact rfl; exact Tryz.underlying34; exact h5q; exact h6i; exact h6j; exact h6k; exact rfl; exact rfl; exact rfl; exact h3n; (with_reducible assumption); (with_reducible assumption); (with_reducible assumption); exact fd0; exact Nat.le_of_ble_eq_true rfl; exact c_25; exact rfl; exact h5u; omega; exact rfl; exact h6c; exact c_4; (try simp only [zzE, zzF]); intro vA eA hownA; obtain ⟨gA, capA, curA, rfl, rfl, hA1, hA2, hA3, hA4⟩ := hownA.some (by omega); (try simp only [zzC, zzN])); refine h1g c_3 ?_) <;> (try refine q_t 9 (e:=c_3) (x:=by exact h0l rfl) (h:=q_t 10 (e:=c_3) (x:=by exact q_f h2j) (h:=q_t 11 (e:=c_3) (x:=by exact q_g h3t) (h:=?_)))) <;> (try refine q_r 12 ?_; (refine q_S ?_); refine h1g c_3 ?_) <;> (try refine h1e (by kernel_rfl) ?_)))))) | (refine gR 9 (p_m (h:=p_n (h:=p_e (q_f h2j) (h:=p_e (q_g h3t) (h:=p_e q_l (h:=p_e (by apply h0g; exact rfl; exact (fun _ => BigFrame.builtin_len ..); apply h0k Tryz.underlying34; exact h4y) (h:=p_e (q_b (r:=by exact h2f q_o)) (h:=h0d ?_))))))))))
   all_goals
    (first | refine h0v Tryz.results84 .nil ?_ | refine h2w Tryz.results84 .nil ?_)
    exact ⟨_, ⟨a2, c2, T4, _, _, _, rfl, hts'.out, hT4'.out, hl3'.out, hfin _ _ (h4f (g:=gA) hA1 hA2 hA3 hA4), rfl⟩, by intro w H; refine Sel.out ?_ H; (try simp only [zzC, zzN]); repeat (first | exact Sel.refl _ | (apply Sel.cons; exact h3n; (try simp only [zzE, zzF])) | apply Sel.drop)⟩
theorem cond_d {S w0 L} {i j : Nat} {b c : Nat} {p : Value} {a : Option Addr} {l : List Tk} {w : Wr} {o : O8} {x : Blk} (h1 : L[i]? = some (rdB b p a l.length c w o)) (h2 : (L.eraseIdx i)[j]? = some x) (h : TkS x a c l) :
  Fn Tryz.prog 99 #[.pointer (some ⟨b, 0, none⟩)] S w0 L fun v L' => ∃ a' c', v = .agg (cndF (l, w)).1.cells.toArray ∧ TkS x a' c' (cndF (l, w)).2.1 ∧ rdB b p a' (cndF (l, w)).2.1.length c' (cndF (l, w)).2.2 o :: x :: (L.eraseIdx i).eraseIdx j = L' := Fn.at2 h1 h2 (cond_c b p a c l w o x h)
theorem action_d {S w0 L} {i j : Nat} {b c : Nat} {p : Value} {a : Option Addr} {l : List Tk} {w : Wr} {o : O8} {x : Blk} (h1 : L[i]? = some (rdB b p a l.length c w o)) (h2 : (L.eraseIdx i)[j]? = some x) (h : TkS x a c l) :
  Fn Tryz.prog 54 #[.pointer (some ⟨b, 0, none⟩)] S w0 L fun v L' => ∃ a' c', v = .int .u32 (actF (l, w)).1 ∧ TkS x a' c' (actF (l, w)).2.1 ∧ rdB b p a' (actF (l, w)).2.1.length c' (actF (l, w)).2.2 o :: x :: (L.eraseIdx i).eraseIdx j = L' := Fn.at2 h1 h2 (action_c b p a c l w o x h)
def cndC (cs : List Cnd) : List Value := cs.flatMap Cnd.cells
theorem cndC_snoc (cs : List Cnd) (c : Cnd) : cndC (cs ++ [c]) = cndC cs ++ c.cells := by simp [cndC]
abbrev rlB (n : Nat) (num act : Int) (v : Value) : Blk := ⟨true, n, .cells #[.int .u32 num, .int .u32 act, v] 73 (0, 0)⟩
theorem failW_ne (w : Wr) (t : Tk) (e : Nat) (he : e ≠ 0) : h2v w t e ≠ (0, 0, 0) := by
 unfold h2v
 split
 ·intro h
  injection h with _ h
  injection h with _ h
  exact he h
 ·assumption
theorem cndF_len (s : PS) : (cndF s).2.1.length ≤ s.1.length - 2 := by
 have e1 : ∀ a o m s, (valF a o m s).2.1 = s.1.tail := fun _ _ _ _ => rfl
 have e2 : ∀ o s, (mskF o s).2.1.length ≤ s.1.length := by
  intro o s
  unfold mskF
  split
  ·show s.1.tail.tail.length ≤ _
   simp only [List.length_tail]; omega
  ·exact Nat.le_refl _
 unfold cndF sgnS
 rw [e1, List.length_tail]
 have := e2 (opOf (h0z 4 ((h2g s).2.1, argW s)).1.text) (h0z 4 ((h2g s).2.1, argW s)).2
 have e3 : (h0z 4 ((h2g s).2.1, argW s)).2.1 = s.1.tail.tail := rfl
 rw [e3] at this
 simp only [List.length_tail] at this ⊢
 omega
theorem keyF_tl (k : List UInt8) (s : PS) : (keyF k s).1 = s.1.tail := rfl
theorem cndsGo_fuel (f : Nat) : ∀ (f' : Nat) (key : List UInt8) (s : PS) (out : List Cnd), s.1.length < f → s.1.length < f' → h4v f key s out = h4v f' key s out := by
 induction f with
 | zero => intro f' key s out h; omega
 | succ f ih =>
  intro f' key s out h h'
  cases f' with
  | zero => omega
  | succ f' =>
   unfold h4v
   split
   ·rfl
   ·rename_i hn
    have hl := cndF_len (keyF key s)
    rw [keyF_tl, List.length_tail] at hl
    have : s.1.length ≠ 0 := fun h0 => hn (Or.inl (List.eq_nil_of_length_eq_zero h0))
    exact ih _ _ _ _ (by show (cndF (keyF key s)).2.1.length < f; omega) (by show (cndF (keyF key s)).2.1.length < f'; omega)
structure RlG where
 key : List UInt8
 cs : List Cnd
 v : Value
 e : List Blk
 a : Option Addr
 c : Nat
 l : List Tk
 w : Wr
structure RlI (Z : List Cnd × PS) (x : Blk) (g : RlG) : Prop where
 ts : TkS x g.a g.c g.l
 own : Own 99 4 g.v g.cs.length (cndC g.cs) g.e
 le : g.cs.length ≤ 7
 lw : g.w = (0, 0, 0) → g.cs.length ≤ 6
 eq : h4v (g.l.length + 1) g.key (g.l, g.w) g.cs = Z
theorem cndsGo_stop {key : List UInt8} {l : List Tk} {w : Wr} {cs : List Cnd} (h : l = [] ∨ (l.headD zTk).kind = 0 ∨ w ≠ (0, 0, 0)) : h4v (l.length + 1) key (l, w) cs = (cs, (l, w)) := by
 unfold h4v
 rw [if_pos h]
theorem cndsGo_go {key : List UInt8} {t : Tk} {r r2 : List Tk} {cs : List Cnd} {cd : Cnd} {k : Wr} (h : t.kind ≠ 0) (hc : cndF (keyF key (t :: r, (0, 0, 0))) = (cd, r2, k)) :
  h4v ((t :: r).length + 1) key (t :: r, (0, 0, 0)) cs = h4v (r2.length + 1) tAnd (r2, if 6 < cs.length + 1 then h2v k t 205 else k) (cs ++ [cd]) := by
 have hl := cndF_len (keyF key (t :: r, (0, 0, 0)))
 rw [hc, keyF_tl, List.length_tail] at hl
 have e1 : ∀ f, h4v (f + 1) key (t :: r, (0, 0, 0)) cs = h4v f tAnd (r2, if 6 < cs.length + 1 then h2v k t 205 else k) (cs ++ [cd]) := by
  intro f
  rw [h4v, if_neg (by simp [h]), hc]
  rw [List.length_append]
  rfl
 rw [e1]
 refine cndsGo_fuel _ _ _ _ _ ?_ ?_
 ·show r2.length < _
  have : (t :: r).length = r.length + 1 := rfl
  simp only at hl
  omega
 ·exact Nat.lt_succ_self _
theorem TkS.head {x : Blk} {a : Option Addr} {c : Nat} {t : Tk} {r : List Tk} (h : TkS x a c (t :: r)) : ∃ q bb off cs T fr, a = some ⟨bb, off, none⟩ ∧ x = ⟨q, bb, .cells cs T fr⟩ ∧ off + (r.length + 1) * 5 ≤ cs.size ∧ (cs.toList.drop off).take 5 = t.cells ∧ cs.toList[off]? = some (.int .u8 (t.kind : Nat)) := by
 rcases h.sl.2 with h0 | ⟨i0, q, bb, off, cs, T, fr, rfl, hi0, hsz, hcs⟩
 ·rw [List.length_cons] at h0; omega
 have hx5 : (cs.toList.drop off).take 5 = t.cells := by
  have h2 := (flatTk_at _ t r rfl).1
  rw [← hcs, List.take_take, Nat.min_eq_left (by rw [List.length_cons]; omega)] at h2
  exact h2
 obtain rfl : x = ⟨q, bb, .cells cs T fr⟩ := by
  cases i0 with
  | zero => exact Option.some.inj hi0
  | succ i => simp at hi0
 refine ⟨q, bb, off, cs, T, fr, rfl, rfl, by rw [List.length_cons] at hsz; exact hsz, hx5, ?_⟩
 have h3 : ((cs.toList.drop off).take 5)[0]? = some (.int .u8 (t.kind : Nat)) := by rw [hx5]; rfl
 rw [List.getElem?_take_of_lt (by omega), List.getElem?_drop, Nat.add_zero] at h3
 exact h3
theorem EnS.swap {S : List Nat} {w0 : World} {ct rb m : Nat} {L0 T : List Blk} (er e : List Blk) (h : EnS ct rb m (er ++ L0) T) : ∃ T2, EnS ct rb m (e ++ L0) T2 ∧ ∀ w, ∀ A : List Blk, HP S w0 w (e ++ (A ++ T)) → HP S w0 w (er ++ (A ++ T2)) := by
 obtain ⟨T4, hT4, hget⟩ := h.get (S:=S) (w0:=w0) er
 obtain ⟨T5, hT5, hput⟩ := hT4.put (S:=S) (w0:=w0) e
 refine ⟨T5, hT5, fun w A H => ?_⟩
 have h1 := hget w (e ++ A) (by rw [List.append_assoc]; exact H)
 have hp : ((e ++ A) ++ (er ++ T4)).Perm ((er ++ A) ++ (e ++ T4)) := by
  refine (List.perm_append_comm_assoc (e ++ A) er T4).trans ?_
  rw [List.append_assoc, List.append_assoc]
  exact List.Perm.append_left _ (List.perm_append_comm_assoc ..)
 have h2 := hput w (er ++ A) (h1.perm hp)
 rw [List.append_assoc] at h2
 exact h2
theorem gotV_num (o : Option Cll) : ∃ s a, gotV o = h2y [.agg #[.int .u32 (cnO o), .string s, .int .i64 a], .bool o.isSome] := by
 cases o with
 | none => exact ⟨_, _, rfl⟩
 | some c => exact ⟨c.name, c.args, rfl⟩
set_option maxHeartbeats 2000000 in
theorem rule_c {S w0} (rs : List RulP) (cz : List Value) (o1 o2 vr o4 o5 o6 o7 o8 : Value) (er : List Blk) (t : Tk) (b pb ct rb m : Nat) (L0 T : List Blk) (hm : m ≤ 100000)
  (hlen : rs.length ≤ 64) (hO : Own 73 3 vr rs.length cz er) (hT : EnS ct rb m L0 T) (a : Option Addr) (c : Nat) (l : List Tk) (w : Wr) (x : Blk) (h : TkS x a c l) :
  Fn Tryz.prog 81 #[.pointer (some ⟨b, 0, none⟩), .agg t.cells.toArray] S w0 (er ++ (rdB b (.pointer (some ⟨pb, 0, none⟩)) a l.length c w ⟨o1, o2, vr, o4, o5, o6, o7, o8⟩ :: x :: prB pb ct rb :: T)) fun v L' => ∃ a' c' T' vr' er' vc ec, v = .tuple #[] ∧ TkS x a' c' (rulF t rs (l, w)).2.1 ∧ EnS ct rb (m + 1) (ec ++ L0) T' ∧ Own 99 4 vc (rul3 (l, w)).1.length (cndC (rul3 (l, w)).1) ec ∧ Own 73 3 vr' (rs.length + 1) (cz ++ [.int .u32 (rulN (l, w)), .int .u32 (rul2 (l, w)).1, vc]) er' ∧ er' ++ (rdB b (.pointer (some ⟨pb, 0, none⟩)) a' (rulF t rs (l, w)).2.1.length c' (rulF t rs (l, w)).2.2 ⟨o1, o2, vr', o4, o5, o6, o7, o8⟩ :: x :: prB pb ct rb :: T') = L' := by
 have hwd := fun (L : List Blk) (i j : Nat) h1 h2 => word_d (S:=S) (w0:=w0) (L:=L) (i:=i) (j:=j) (b:=b) (c:=c) (p:=.pointer (some ⟨pb, 0, none⟩)) (a:=a) (l:=l) (w:=w) (o:=⟨o1, o2, vr, o4, o5, o6, o7, o8⟩) (x:=x) h1 h2 h
 have hok := (wordT_ok (s:=(l, w)) h.ok).2
 unfold rulF rul3 rul2 rul1 rulN rulC
 clear h
 generalize h2g (l, w) = Q at *
 obtain ⟨tt, r, f1, f2, f3⟩ := Q
 dsimp only at *
 obtain ⟨T2, hT2, hput⟩ := hT.put (S:=S) (w0:=w0) er
 refine Fn.weak (L2:=rdB b (.pointer (some ⟨pb, 0, none⟩)) a l.length c w ⟨o1, o2, vr, o4, o5, o6, o7, o8⟩ :: x :: prB pb ct rb :: T2) (fun w H => hput w [_, _, _] (H.perm ?_)) ?_
 ·exact List.perm_append_comm_assoc er [_, _, _] T
 clear hT hput
 have hn5 := fun (x1 x2 x3 x4 x5 : Blk) => named_t (S:=S) (w0:=w0) [x1, x2, x3, x4, x5] hT2 hm (mB8 tt.text)
 have hn6 := fun (x1 x2 x3 x4 x5 x6 : Blk) => named_t (S:=S) (w0:=w0) [x1, x2, x3, x4, x5, x6] hT2 hm (mB8 tt.text)
 generalize nameF (mB8 tt.text) clls = cl at *
 obtain ⟨cna, car, hgv⟩ := gotV_num cl
 rw [hgv] at hn5 hn6
 clear hgv
 generalize cnO cl = cn at *
 generalize cl.isSome = ok at *
 have hfl := fun (L : List Blk) (i : Nat) (a' : Option Addr) (c' : Nat) h1 => h5n (S:=S) (w0:=w0) (L:=L) (i:=i) (b:=b) (n:=r.length) (c:=c') (p:=(.pointer (some ⟨pb, 0, none⟩))) (a:=a') (w:=(f1, f2, f3)) (o:=⟨o1, o2, vr, o4, o5, o6, o7, o8⟩) h1 tt 38
 generalize hg : (if ok = true then (f1, f2, f3) else h2v (f1, f2, f3) tt 38) = g at *
 obtain ⟨g1, g2, g3⟩ := g
 have hac := fun (L : List Blk) (i j : Nat) (a : Option Addr) (c : Nat) h1 h2 h => action_d (S:=S) (w0:=w0) (L:=L) (i:=i) (j:=j) (b:=b) (c:=c) (p:=.pointer (some ⟨pb, 0, none⟩)) (a:=a) (l:=r) (w:=(g1, g2, g3)) (o:=⟨o1, o2, vr, o4, o5, o6, o7, o8⟩) (x:=x) h1 h2 h
 generalize actF (r, (g1, g2, g3)) = Q at *
 obtain ⟨act, r2, k1, k2, k3⟩ := Q
 dsimp only at *
 generalize hZ : h4v (r2.length + 1) tIf (r2, (k1, k2, k3)) [] = Z at *
 obtain ⟨zc, z, u1, u2, u3⟩ := Z
 have hf5 := fun (L : List Blk) (i : Nat) (a' : Option Addr) (c' : Nat) (v : Value) h1 => h5n (S:=S) (w0:=w0) (L:=L) (i:=i) (b:=b) (n:=z.length) (c:=c') (p:=(.pointer (some ⟨pb, 0, none⟩))) (a:=a') (w:=(u1, u2, u3)) (o:=⟨o1, o2, v, o4, o5, o6, o7, o8⟩) h1 t 205
 obtain ⟨w1, w2, w3⟩ := w
 obtain ⟨tk, tx, nu, li, co⟩ := t
 obtain ⟨sk, sx, sn, sl, sc⟩ := tt
 dsimp only [Tk.cells, List.cons_append, List.nil_append] at *
 refine Fn2 Tryz.func81 Tryz.ntmps81 rfl rfl ?_
 repeat' (first | (refine h2h (id:=1) ?_) | refine h0p ?_ | refine h0e ?_ | (refine gR 0 ?_ <;> (try refine h0f ?_; (refine h5b (t:=166) rfl rfl ?_; intro nb hnb; (try simp only [Value.cells]))) <;> (try refine h0d ?_)))
 refine ⟨?_⟩
 obtain ⟨nb3, rfl⟩ : ∃ x, x = nb := ⟨_, rfl⟩
 repeat' (first | (refine h2h (id:=2) ?_) | refine h0p ?_ | refine h0e ?_ | (refine gR 1 (q_m ?_) <;> (try refine h0f ?_; (refine q_c 51 (c:=by apply hwd; exact c_9; exact c_9) (h:=?_); rintro _ _ ⟨a1, c1, rfl, hts, rfl⟩; (try simp only [zzE, zzF]))) <;> (try refine h0f ?_; (refine h0i (t:=166) rfl Tryz.zeroValue166 ?_; intro nb hnb; (try simp only [Value.cells]))) <;> (try refine h0f ?_; (refine q_W ?_)) <;> (try refine h0d ?_)))
 refine ⟨?_⟩
 obtain ⟨nb4, rfl⟩ : ∃ x, x = nb := ⟨_, rfl⟩
 clear hwd
 refine h2z (γ:=Nat × List Blk) (fun g => EnS ct rb (m + 1) (er ++ L0) g.2) (fun g => [(5, .pointer (some ⟨g.1, 0, none⟩)), (6, .bool ok)]) [(0, _), (3, _), (4, _)]
  (fun g => ⟨true, g.1, .cells #[.int .u32 cn, .string cna, .int .i64 car] 116 (0, 0)⟩ :: tkBl nb4 ⟨sk, sx, sn, sl, sc⟩ :: tkBl nb3 ⟨tk, tx, nu, li, co⟩ :: rdB b (.pointer (some ⟨pb, 0, none⟩)) a1 r.length c1 (f1, f2, f3) ⟨o1, o2, vr, o4, o5, o6, o7, o8⟩ :: x :: prB pb ct rb :: g.2) (.cons rfl (.cons rfl (.cons rfl .nil))) ?_ ?_
 ·repeat' (first | refine h0t ?_ | ((refine h2t (pre:=[_, _, _, _, _]) (id:=2) (m:=16) rfl (by kernel_rfl) rfl (q_t 0 (e:=h2x) (x:=by exact h0m rfl) (h:=q_t 1 (e:=h2x) (x:=by exact h0l rfl) (h:=q_t 2 (e:=h2x) (x:=by exact q_f fo_85_0) (h:=q_t 3 (e:=h2x) (x:=by exact q_l) (h:=q_t 4 (e:=h2x) (x:=by exact h0l rfl) (h:=q_t 5 (e:=h2x) (x:=by exact q_f fo_77_0) (h:=q_t 6 (e:=h2x) (x:=by exact q_l) (h:=q_t 7 (e:=h2x) (x:=by exact q_f h1m) (h:=q_t 8 (e:=h2x) (x:=by exact q_l) (h:=?_))))))))))) <;> (try refine h2d (i:=9) (j:=13) rfl rfl (by kernel_rfl) ?_ ?_ <;> (first | (refine TagA.mk ?_; (((refine q_c 98 (c:=by apply hn5) (h:=?_); rintro _ _ ⟨T3, rfl, hT3, rfl⟩; (try simp only [zzE, zzF])); refine h1g h2x ?_) <;> (try refine q_t 10 (e:=h2x) (x:=by exact h0m rfl) (h:=q_t 11 (e:=h2x) (x:=by exact h4d rfl rfl) (h:=q_t 12 (e:=h2x) (x:=by exact h4d rfl rfl) (h:=?_)))) <;> (try refine q_r 13 ?_; (refine h0i (t:=116) rfl Tryz.zeroValue116 ?_; intro nb hnb; (try simp only [Value.cells])); refine h1g c_8 ?_) <;> (try refine q_r 14 ?_; (refine q_W ?_); refine h1g c_8 ?_) <;> (try refine q_t 15 (e:=c_8) (x:=by exact h3g rfl) (h:=h1e (by kernel_rfl) ?_)))) | (refine TagB.mk ?_; (((refine h0i (t:=116) rfl Tryz.zeroValue116 ?_; intro nb hnb; (try simp only [Value.cells])); refine h1g c_8 ?_) <;> (try refine q_r 9 ?_; (refine q_c 98 (c:=by apply hn6) (h:=?_); rintro _ _ ⟨T3, rfl, hT3, rfl⟩; (try simp only [zzE, zzF])); refine h1g c_8 ?_) <;> (try refine q_t 10 (e:=c_8) (x:=by exact h0m rfl) (h:=q_t 11 (e:=c_8) (x:=by exact h4d rfl rfl) (h:=q_t 12 (e:=c_8) (x:=by exact h4d rfl rfl) (h:=?_)))) <;> (try refine q_r 14 ?_; (refine q_W ?_); refine h1g c_8 ?_) <;> (try refine q_t 15 (e:=c_8) (x:=by exact h3g rfl) (h:=h1e (by kernel_rfl) ?_))))))))
  all_goals exact h0w (_, T3) hT3 (by (focus (repeat (first | exact Sub.nil | refine Sub.cons rfl ?_)))) c_23
 clear hn5 hn6 hT2 T2
 rintro ⟨nb5, T3⟩ hT3
 dsimp only [List.cons_append, List.nil_append] at *
 repeat' (first | (refine G_markc (t:=26) ?_) | refine h0p ?_ | refine h0e ?_ | (refine gR 3 (p_m (h:=p_e (by apply E_un; exact rfl; exact ru_not) (h:=h0d ?_)))))
 refine ⟨?_⟩
 refine h2z (γ:=Unit) (fun _ => True) (fun _ => []) [(0, _), (3, _), (5, _)]
  (fun _ => ⟨true, nb5, .cells #[.int .u32 cn, .string cna, .int .i64 car] 116 (0, 0)⟩ :: tkBl nb3 ⟨tk, tx, nu, li, co⟩ :: rdB b (.pointer (some ⟨pb, 0, none⟩)) a1 r.length c1 (g1, g2, g3) ⟨o1, o2, vr, o4, o5, o6, o7, o8⟩ :: x :: prB pb ct rb :: T3) (.cons rfl (.cons rfl (.cons rfl .nil))) ?_ ?_
 ·cases ok with
  | true =>
   rw [if_pos rfl] at hg
   injection hg with y1 y2
   injection y2 with y2 y3
   subst y1 y2 y3
   repeat' (first | refine h0t ?_ | refine h0u ?_ | refine h0h rfl ?_)
   exact h0w () trivial (by (focus (repeat (first | exact Sub.nil | refine Sub.cons rfl ?_)))) c_22
  | false =>
   rw [if_neg Bool.false_ne_true] at hg
   rw [hg] at hfl
   clear hg
   repeat' (first | refine h0t ?_ | refine h0j rfl ?_ | (refine gR 4 (p_m (h:=q_e (q_L h2k) ?_)) <;> (try refine h0f ?_; (refine q_c 52 (c:=by apply hfl; exact c_9) (h:=?_); rintro _ _ ⟨rfl, rfl⟩; (try simp only [zzE, zzF]))) <;> (try refine h0d ?_)))
   exact h0w () trivial (by (focus (repeat (first | exact Sub.nil | refine Sub.cons rfl ?_)))) c_22
 clear hfl hg ok f1 f2 f3
 rintro - -
 simp only [List.cons_append, List.nil_append]
 refine h0p ?_
 refine h2z (γ:=Nat × Option Addr × Nat) (fun g => TkS x g.2.1 g.2.2 r2) (fun g => [(7, .pointer (some ⟨g.1, 0, none⟩))]) [(0, _), (3, _)]
  (fun g => rlB g.1 cn act (.slice none 0 0) :: tkBl nb3 ⟨tk, tx, nu, li, co⟩ :: rdB b (.pointer (some ⟨pb, 0, none⟩)) g.2.1 r2.length g.2.2 (k1, k2, k3) ⟨o1, o2, vr, o4, o5, o6, o7, o8⟩ :: x :: prB pb ct rb :: T3) (.cons rfl (.cons rfl .nil)) ?_ ?_
 ·repeat' (first | refine h0t ?_ | ((apply h4t (i:=2) (j:=2) (id:=5) (m:=7); exact c_11; kernel_rfl; exact rfl) <;> (try refine q_t 0 (e:=c_3) (x:=by exact q_f fo_116_0) (h:=q_t 1 (e:=c_3) (x:=by exact q_l) (h:=q_t 2 (e:=c_3) (x:=by exact h0m rfl) (h:=?_)))) <;> (try refine h2d (i:=3) (j:=5) rfl rfl (by kernel_rfl) ?_ ?_ <;> (first | (refine TagA.mk ?_; (((refine q_c 54 (c:=by apply hac; exact c_9; exact c_9; (with_reducible assumption)) (h:=?_); rintro _ _ ⟨a2, c2, rfl, hts2, rfl⟩; (try simp only [zzE, zzF])); refine h1g c_7 ?_) <;> (try refine q_t 4 (e:=c_7) (x:=by exact h0s (t:=73) (fun vs => (match vs with | [(_, x0), (_, x1)] => [x0, x1, Value.slice none 0 0] | _ => [])) rfl (fun w => by kernel_rfl)) (h:=?_); (try simp only [Value.cells]); (try simp only [zzC, zzN])) <;> (try refine q_r 5 ?_; (refine h0i (t:=73) rfl Tryz.zeroValue73 ?_; intro nb hnb; (try simp only [Value.cells])); refine h1g c_7 ?_) <;> (try refine q_r 6 ?_; (refine q_W ?_); refine h1g c_7 ?_) <;> (try refine h1e (by kernel_rfl) ?_))) | (refine TagB.mk ?_; (((refine h0i (t:=73) rfl Tryz.zeroValue73 ?_; intro nb hnb; (try simp only [Value.cells])); refine h1g c_3 ?_) <;> (try refine q_r 3 ?_; (refine q_c 54 (c:=by apply hac; exact c_9; exact c_9; (with_reducible assumption)) (h:=?_); rintro _ _ ⟨a2, c2, rfl, hts2, rfl⟩; (try simp only [zzE, zzF])); refine h1g c_7 ?_) <;> (try refine q_t 4 (e:=c_7) (x:=by exact h0s (t:=73) (fun vs => (match vs with | [(_, x0), (_, x1)] => [x0, x1, Value.slice none 0 0] | _ => [])) rfl (fun w => by kernel_rfl)) (h:=?_); (try simp only [Value.cells]); (try simp only [zzC, zzN])) <;> (try refine q_r 6 ?_; (refine q_W ?_); refine h1g c_7 ?_) <;> (try refine h1e (by kernel_rfl) ?_)))))))
  all_goals exact h0w (_, a2, c2) hts2 (by (focus (repeat (first | exact Sub.nil | refine Sub.cons rfl ?_)))) c_22
 clear hac hts a1 c1
 rintro ⟨nb7, a2, c2⟩ hts2
 dsimp only [List.cons_append, List.nil_append] at *
 repeat' (first | (refine h2r (id:=0) ?_) | refine h0p ?_ | refine h0e ?_ | (refine gR 6 (p_a (h:=h0d ?_))))
 refine ⟨?_⟩
 refine h2z (γ:=Value × List Blk × Option Addr × Nat) (fun g => Own 99 4 g.1 zc.length (cndC zc) g.2.1 ∧ TkS x g.2.2.1 g.2.2.2 z ∧ zc.length ≤ 7) (fun _ => []) [(0, _), (3, _), (7, _)]
  (fun g => g.2.1 ++ (rlB nb7 cn act g.1 :: tkBl nb3 ⟨tk, tx, nu, li, co⟩ :: rdB b (.pointer (some ⟨pb, 0, none⟩)) g.2.2.1 z.length g.2.2.2 (u1, u2, u3) ⟨o1, o2, vr, o4, o5, o6, o7, o8⟩ :: x :: prB pb ct rb :: T3)) (.cons rfl (.cons rfl (.cons rfl .nil))) ?_ ?_
 ·refine h0r ?_
  refine h2s (γ:=RlG) (RlI (zc, z, u1, u2, u3) x) (fun g => g.l.length) (fun g => [(8, .string (mB8 g.key))]) [(0, _), (3, _), (7, _)]
   (fun g => g.e ++ (rlB nb7 cn act g.v :: tkBl nb3 ⟨tk, tx, nu, li, co⟩ :: rdB b (.pointer (some ⟨pb, 0, none⟩)) g.a g.l.length g.c g.w ⟨o1, o2, vr, o4, o5, o6, o7, o8⟩ :: x :: prB pb ct rb :: T3)) ⟨tIf, [], .slice none 0 0, [], a2, c2, r2, (k1, k2, k3)⟩ (.cons rfl (.cons rfl (.cons rfl .nil))) ⟨hts2, Own.nil _ _, Nat.zero_le _, fun _ => Nat.zero_le _, hZ⟩ (by (focus (repeat (first | exact Sub.nil | refine Sub.cons rfl ?_)))) c_27 ?_
  clear hts2 hZ hf5 hT3 hO hlen
  rintro ⟨key, cs, v, e, a3, c3, l3, p1, p2, p3⟩ ⟨hts, hown, hle, hlw, heq⟩
  dsimp only at *
  have hxt := fun h => (cndsGo_stop (key:=key) (l:=l3) (w:=(p1, p2, p3)) (cs:=cs) h).symm.trans heq
  have hq := wr_eq p1 p2 p3
  cases l3 with
  | nil =>
   have h1 := hxt (Or.inl rfl)
   injection h1 with y1 y2
   injection y2 with y2 y3
   injection y3 with y3 y4
   injection y4 with y4 y5
   subst y1 y2 y3 y4 y5
   clear hxt heq hlw hq
   rw [List.length_nil]
   repeat' (first | refine h0p ?_ | refine h0e ?_ | refine h0t ?_ | refine h1u ?_ | refine h1n ?_ | refine h1v ?_ | refine h2o ?_ | refine h0h rfl ?_ | (refine gR 7 (p_m (h:=p_n (h:=p_e (q_f h4m) (h:=p_e (by apply h1l (t:=78); exact rfl; (focus (repeat (first | exact fd0 | apply fdA | apply fdS))); kernel_rfl; kernel_rfl; exact rfl) (h:=p_e (by apply h0g; exact rfl; exact (fun _ => BigFrame.builtin_len ..); apply h0k Tryz.underlying78; exact h4y) (h:=p_e (q_b (r:=by exact h2f q_o)) (h:=p_m (h:=p_z (h:=p_z (h:=p_z (h:=p_z (h:=p_z (h:=p_z (h:=p_z (h:=p_z (h:=p_p (h:=p_m (h:=p_z (h:=p_z (h:=p_z (h:=p_z (h:=p_z (h:=p_z (h:=p_p (h:=h0d ?_)))))))))))))))))))))))))))
   exact h0w (v, e, a3, c3) ⟨hown, hts, hle⟩ (by (focus (repeat (first | exact Sub.nil | refine Sub.cons rfl ?_)))) c_27
  | cons t1 r3 =>
   obtain ⟨q, bb, off, xs, XT, fr, rfl, rfl, hsz, hx5, hx0⟩ := hts.head
   obtain ⟨jk, jx, jn, jl, jc⟩ := t1
   dsimp only [Tk.cells] at hx5 hx0
   have hcm := hts.cm
   unfold maxLen at hcm
   by_cases hk : jk = 0
   ·have h1 := hxt (Or.inr (Or.inl hk))
    injection h1 with y1 y2
    injection y2 with y2 y3
    injection y3 with y3 y4
    injection y4 with y4 y5
    subst y1 y2 y3 y4 y5
    have hts' := Lib.hid hts
    clear hxt heq hlw hq hts
    rw [List.length_cons]
    repeat' (first | refine h0p ?_ | refine h0e ?_ | refine h0t ?_ | refine h1u ?_ | refine h1n ?_ | refine h1v ?_ | refine h2o ?_ | refine h0h rfl ?_ | (refine gR 7 (p_m (h:=p_n (h:=p_e (q_f h4m) (h:=p_e (by apply h1l (t:=78); exact rfl; (focus (repeat (first | exact fd0 | apply fdA | apply fdS))); kernel_rfl; kernel_rfl; exact rfl) (h:=p_e (by apply h0g; exact rfl; exact (fun _ => BigFrame.builtin_len ..); apply h0k Tryz.underlying78; exact h4y) (h:=p_e (q_b (r:=by exact h1y q_o)) (h:=p_m (h:=p_y (h0m rfl) (h:=p_y (h0l rfl) (h:=p_y (q_f h4m) (h:=p_y (by apply h1l (t:=78); exact rfl; (focus (repeat (first | exact fd0 | apply fdA | apply fdS))); kernel_rfl; kernel_rfl; exact rfl) (h:=p_y (by apply h0n; exact rfl; exact rfl; (focus (apply h3e Tryz.underlying78 h2k; omega; omega; exact c_1))) (h:=p_y (q_g h4k) (h:=q_y (by apply h1l (t:=164); exact rfl; (focus (repeat (first | exact fd0 | apply fdA | apply fdS))); kernel_rfl; kernel_rfl; (with_reducible assumption)) ?_)))))))))))))) <;> (try refine q_y (by exact q_b (r:=by refine h3o ?_; first | rfl | (with_reducible assumption) | (decide; done) | omega)) ?_) <;> (try refine p_p (h:=p_m (h:=p_z (h:=p_z (h:=p_z (h:=p_z (h:=p_z (h:=p_z (h:=p_p (h:=h0d ?_))))))))))))
    exact h0w (v, e, _, c3) ⟨hown, hts'.out, hle⟩ (by (focus (repeat (first | exact Sub.nil | refine Sub.cons rfl ?_)))) c_27
   by_cases hw : (p1, p2, p3) = ((0, 0, 0) : Wr)
   ·rw [hw] at heq
    have hlw' := hlw hw
    rw [decide_eq_true hw] at hq
    injection hw with y1 y2
    injection y2 with y2 y3
    subst y1 y2 y3
    clear hxt hlw
    have hky := fun (L : List Blk) (i j : Nat) h1 h2 => key_d (S:=S) (w0:=w0) key (L:=L) (i:=i) (j:=j) (b:=b) (c:=c3) (p:=.pointer (some ⟨pb, 0, none⟩)) (w:=(0, 0, 0)) (o:=⟨o1, o2, vr, o4, o5, o6, o7, o8⟩) h1 h2 hts
    have hkk := fun (cd : Cnd) (r2 : List Tk) (k : Wr) hc => cndsGo_go (key:=key) (t:=⟨jk, jx, jn, jl, jc⟩) (r:=r3) (cs:=cs) (cd:=cd) (r2:=r2) (k:=k) hk hc
    have hok1 := hts.ok
    have hkt := keyF_tl key (⟨jk, jx, jn, jl, jc⟩ :: r3, (0, 0, 0))
    generalize hK : keyF key (⟨jk, jx, jn, jl, jc⟩ :: r3, (0, 0, 0)) = K at *
    obtain ⟨rk, m1, m2, m3⟩ := K
    dsimp only [List.tail_cons] at hkt
    replace hkt := hkt.symm
    subst hkt
    have hcd := fun (L : List Blk) (i j : Nat) (a : Option Addr) (c : Nat) h1 h2 h => cond_d (S:=S) (w0:=w0) (L:=L) (i:=i) (j:=j) (b:=b) (c:=c) (p:=.pointer (some ⟨pb, 0, none⟩)) (a:=a) (l:=r3) (w:=(m1, m2, m3)) (o:=⟨o1, o2, vr, o4, o5, o6, o7, o8⟩) (x:=⟨q, bb, .cells xs XT fr⟩) h1 h2 h
    have hcl := cndF_len (r3, (m1, m2, m3))
    generalize hC : cndF (r3, (m1, m2, m3)) = C at *
    obtain ⟨cd, r4, n1, n2, n3⟩ := C
    replace hkk := (hkk _ _ _ rfl).symm.trans heq
    have hfm := fun (L : List Blk) (i : Nat) (a' : Option Addr) (c' : Nat) h1 => h5n (S:=S) (w0:=w0) (L:=L) (i:=i) (b:=b) (n:=r4.length) (c:=c') (p:=(.pointer (some ⟨pb, 0, none⟩))) (a:=a') (w:=(n1, n2, n3)) (o:=⟨o1, o2, vr, o4, o5, o6, o7, o8⟩) h1 ⟨jk, jx, jn, jl, jc⟩ 205
    have hfi : ∀ v e, Own 99 4 v (cs.length + 1) (cndC cs ++ cd.cells) e → Own 99 4 v (cs ++ [cd]).length (cndC (cs ++ [cd])) e := fun v e h => by
     rw [cndC_snoc, List.length_append]; exact h
    have hcl2 : (cs ++ [cd]).length = cs.length + 1 := List.length_append
    generalize cs ++ [cd] = cs2 at *
    clear hC hK heq hok1
    obtain ⟨ca, cop, cmk, cvl⟩ := cd
    dsimp only [Tk.cells, Cnd.cells] at *
    rw [List.length_cons] at *
    by_cases hm6 : 6 < cs.length + 1
    ·rw [if_pos hm6] at hkk
     have hne := failW_ne (n1, n2, n3) ⟨jk, jx, jn, jl, jc⟩ 205 (by omega)
     generalize h2v (n1, n2, n3) _ 205 = fw at *
     obtain ⟨z1, z2, z3⟩ := fw
     rcases h3i hown with ⟨rfl, h0, hx, rfl⟩ | ⟨g, capg, cur, rfl, rfl, q1, q2, q3, q4⟩
     ·omega
     ·rw [← q4] at hfi
      clear hown hts
      (try simp only [zzC, zzN])
      repeat' (first | refine h0p ?_ | refine h0e ?_ | refine h0t ?_ | refine h0x ?_ | refine h0r ?_ | refine h0u ?_ | refine h0j rfl ?_ | (refine gR 7 (p_m (h:=p_n (h:=p_e (q_f h4m) (h:=p_e q_l (h:=p_e (by apply h0g; exact rfl; exact (fun _ => BigFrame.builtin_len ..); apply h0k Tryz.underlying78; exact h4y) (h:=p_e (q_b (r:=by exact h1y q_o)) (h:=p_m (h:=p_y (h0m rfl) (h:=p_y (h0l rfl) (h:=p_y (q_f h4m) (h:=p_y q_l (h:=p_y (by apply h0n; exact rfl; exact rfl; (focus (apply h3e Tryz.underlying78 h2k; omega; omega; exact c_1))) (h:=p_y (q_g h4k) (h:=p_y (by apply h1l (t:=164); exact rfl; exact h3n; kernel_rfl; kernel_rfl; (with_reducible assumption)) (h:=p_y (q_b (r:=by exact h3v q_o)) (h:=p_p (h:=p_m (h:=p_y (h0m rfl) (h:=p_y (h0l rfl) (h:=p_y (q_f h3r) (h:=q_y (q_L h3z) ?_))))))))))))))))))))) <;> (try refine q_y (by exact h0s (t:=25) (fun vs => (match vs with | [] => [Value.int .i64 0, Value.int .i64 0, Value.int .i64 0] | _ => [])) rfl (fun w => by kernel_rfl)) ?_; (try simp only [Value.cells]); (try simp only [zzC, zzN])) <;> (try refine p_y (by apply h1s (op:=.eql) (t:=25); exact rfl; exact rfl; kernel_rfl; (with_reducible assumption)) (h:=p_p (h:=h0d ?_)))) | (refine gR 9 (p_m (h:=p_n (h:=p_e (q_f h4m) (h:=p_e q_l (h:=p_e (by apply h0n; exact rfl; exact rfl; (focus (apply h3e Tryz.underlying78 h2k; omega; omega; exact c_1))) (h:=q_e (by apply h3p (t:=166); exact rfl; exact h3n; kernel_rfl; kernel_rfl; exact h2k; (focus (omega)); (with_reducible assumption)) ?_)))))) <;> (try refine h0f ?_; (refine h0i (t:=166) rfl Tryz.zeroValue166 ?_; intro nb hnb; (try simp only [Value.cells]))) <;> (try refine h0f ?_; (refine q_W ?_)) <;> (try refine h0d ?_)) | (refine gR 10 (p_m (h:=q_m ?_)) <;> (try refine h0f ?_; (refine q_c 50 (c:=by apply hky; exact c_9; exact c_9) (h:=?_); rintro _ _ ⟨a5, c5, rfl, hts5, rfl⟩; (try simp only [zzE, zzF]))) <;> (try refine h0d ?_)) | ((refine h2t (pre:=[]) (id:=11) (m:=8) rfl (by kernel_rfl) rfl (q_t 0 (e:=h3w) (x:=by exact q_f h3f) (h:=q_t 2 (e:=h3w) (x:=by exact h0m rfl) (h:=?_)))) <;> (try refine h2d (i:=1) (j:=3) rfl rfl (by kernel_rfl) ?_ ?_ <;> (first | (refine TagA.mk ?_; (((refine q_k q_l ?_); refine h1g h3w ?_) <;> (try refine q_r 3 ?_; (refine q_c 99 (c:=by apply hcd; exact h5z; exact h5z; (with_reducible assumption)) (h:=?_); rintro _ _ ⟨a6, c6, rfl, hts6, rfl⟩; (try simp only [zzE, zzF])); refine h1g h3w ?_) <;> (try refine q_r 4 ?_; (refine h0o (t:=71) (m:=1) (e:=99) (fun vs => (match vs with | [(_, x0)] => x0.cells.toList | _ => [])) rfl rfl (fun w => by kernel_rfl) ?_; intro nb hnb; (try simp only [Value.cells]); (try simp only [zzC, zzN])); refine h1g h3w ?_) <;> (try refine q_r 5 ?_; (apply h1z; exact rfl; exact Tryz.underlying71; exact h4b; exact h4h; exact h4i; exact h4j; exact rfl; exact rfl; exact rfl; exact h3n; (with_reducible assumption); (with_reducible assumption); (with_reducible assumption); exact fd0; exact Nat.le_of_ble_eq_true rfl; exact c_25; exact rfl; exact h5u; omega; exact rfl; exact h6c; exact c_4; (try simp only [zzE, zzF]); intro vA eA hownA; obtain ⟨gA, capA, curA, rfl, rfl, hA1, hA2, hA3, hA4⟩ := hownA.some (by omega); (try simp only [zzC, zzN])); refine h1g h3w ?_) <;> (try refine q_t 6 (e:=h3w) (x:=by exact q_f h3f) (h:=?_)) <;> (try refine q_r 7 ?_; (refine q_S ?_); refine h1g h3w ?_) <;> (try refine h1e (by kernel_rfl) ?_))) | (refine TagB.mk ?_; (((refine q_c 99 (c:=by apply hcd; exact h5z; exact h5z; (with_reducible assumption)) (h:=?_); rintro _ _ ⟨a6, c6, rfl, hts6, rfl⟩; (try simp only [zzE, zzF])); refine h1g h3w ?_) <;> (try refine h2d (i:=1) (j:=4) rfl rfl (by kernel_rfl) ?_ ?_ <;> (first | (refine TagA.mk ?_; (((refine q_k q_l ?_); refine h1g h3w ?_) <;> (try refine q_r 4 ?_; (refine h0o (t:=71) (m:=1) (e:=99) (fun vs => (match vs with | [(_, x0)] => x0.cells.toList | _ => [])) rfl rfl (fun w => by kernel_rfl) ?_; intro nb hnb; (try simp only [Value.cells]); (try simp only [zzC, zzN])); refine h1g h3w ?_) <;> (try refine q_r 5 ?_; (apply h1z; exact rfl; exact Tryz.underlying71; exact h4b; exact h4h; exact h4i; exact h4j; exact rfl; exact rfl; exact rfl; exact h3n; (with_reducible assumption); (with_reducible assumption); (with_reducible assumption); exact fd0; exact Nat.le_of_ble_eq_true rfl; exact c_25; exact rfl; exact h5u; omega; exact rfl; exact h6c; exact c_4; (try simp only [zzE, zzF]); intro vA eA hownA; obtain ⟨gA, capA, curA, rfl, rfl, hA1, hA2, hA3, hA4⟩ := hownA.some (by omega); (try simp only [zzC, zzN])); refine h1g h3w ?_) <;> (try refine q_t 6 (e:=h3w) (x:=by exact q_f h3f) (h:=?_)) <;> (try refine q_r 7 ?_; (refine q_S ?_); refine h1g h3w ?_) <;> (try refine h1e (by kernel_rfl) ?_))) | (refine TagB.mk ?_; (((refine h0o (t:=71) (m:=1) (e:=99) (fun vs => (match vs with | [(_, x0)] => x0.cells.toList | _ => [])) rfl rfl (fun w => by kernel_rfl) ?_; intro nb hnb; (try simp only [Value.cells]); (try simp only [zzC, zzN])); refine h1g h3w ?_) <;> (try refine q_r 1 ?_; (refine q_k q_l ?_); refine h1g h3w ?_) <;> (try refine q_r 5 ?_; (apply h1z; exact rfl; exact Tryz.underlying71; exact h4b; exact h4h; exact h4i; exact h4j; exact rfl; exact rfl; exact rfl; exact h3n; (with_reducible assumption); (with_reducible assumption); (with_reducible assumption); exact fd0; exact Nat.le_of_ble_eq_true rfl; exact c_25; exact rfl; exact h5u; omega; exact rfl; exact h6c; exact c_4; (try simp only [zzE, zzF]); intro vA eA hownA; obtain ⟨gA, capA, curA, rfl, rfl, hA1, hA2, hA3, hA4⟩ := hownA.some (by omega); (try simp only [zzC, zzN])); refine h1g h3w ?_) <;> (try refine q_t 6 (e:=h3w) (x:=by exact q_f h3f) (h:=?_)) <;> (try refine q_r 7 ?_; (refine q_S ?_); refine h1g h3w ?_) <;> (try refine h1e (by kernel_rfl) ?_)))))))))) | (refine gR 12 (p_e (q_f h3f) (h:=p_e q_l (h:=p_e (by apply h0g; exact rfl; exact (fun _ => BigFrame.builtin_len ..); apply h0k Tryz.underlying71; exact h4y) (h:=p_e (q_b (r:=by exact h1y q_o)) (h:=h0d ?_)))))) | (refine gR 13 (p_m (h:=q_e (q_L h2k) ?_)) <;> (try refine h0f ?_; (refine q_c 52 (c:=by apply hfm; exact c_9) (h:=?_); rintro _ _ ⟨rfl, rfl⟩; (try simp only [zzE, zzF]))) <;> (try refine h0d ?_)) | (refine gR 8 (p_a (h:=h0d ?_))))
      all_goals exact h0w ⟨tAnd, cs2, _, _, a6, c6, r4, z1, z2, z3⟩ ⟨⟨hts6, hfi _ _ (h4f (g:=gA) hA1 hA2 hA3 hA4), by show cs2.length ≤ 7; omega, fun h => absurd h hne, hkk⟩, by show r4.length < r3.length + 1; omega⟩ (by (focus (repeat (first | exact Sub.nil | refine Sub.cons rfl ?_)))) c_22
    ·rw [if_neg hm6] at hkk
     clear hfm
     rcases h3i hown with ⟨rfl, h0, hx, rfl⟩ | ⟨g, capg, cur, rfl, rfl, q1, q2, q3, q4⟩
     ·rw [hx] at hfi
      rw [h0] at hfi hcl2
      clear hown hts
      (try simp only [zzC, zzN])
      repeat' (first | refine h0p ?_ | refine h0e ?_ | refine h0t ?_ | refine h0x ?_ | refine h0r ?_ | refine h0u ?_ | refine h0j rfl ?_ | refine h0h rfl ?_ | (refine gR 7 (p_m (h:=p_n (h:=p_e (q_f h4m) (h:=p_e q_l (h:=p_e (by apply h0g; exact rfl; exact (fun _ => BigFrame.builtin_len ..); apply h0k Tryz.underlying78; exact h4y) (h:=p_e (q_b (r:=by exact h1y q_o)) (h:=p_m (h:=p_y (h0m rfl) (h:=p_y (h0l rfl) (h:=p_y (q_f h4m) (h:=p_y q_l (h:=p_y (by apply h0n; exact rfl; exact rfl; (focus (apply h3e Tryz.underlying78 h2k; omega; omega; exact c_1))) (h:=p_y (q_g h4k) (h:=p_y (by apply h1l (t:=164); exact rfl; exact h3n; kernel_rfl; kernel_rfl; (with_reducible assumption)) (h:=p_y (q_b (r:=by exact h3v q_o)) (h:=p_p (h:=p_m (h:=p_y (h0m rfl) (h:=p_y (h0l rfl) (h:=p_y (q_f h3r) (h:=q_y (q_L h3z) ?_))))))))))))))))))))) <;> (try refine q_y (by exact h0s (t:=25) (fun vs => (match vs with | [] => [Value.int .i64 0, Value.int .i64 0, Value.int .i64 0] | _ => [])) rfl (fun w => by kernel_rfl)) ?_; (try simp only [Value.cells]); (try simp only [zzC, zzN])) <;> (try refine p_y (by apply h1s (op:=.eql) (t:=25); exact rfl; exact rfl; kernel_rfl; (with_reducible assumption)) (h:=p_p (h:=h0d ?_)))) | (refine gR 9 (p_m (h:=p_n (h:=p_e (q_f h4m) (h:=p_e q_l (h:=p_e (by apply h0n; exact rfl; exact rfl; (focus (apply h3e Tryz.underlying78 h2k; omega; omega; exact c_1))) (h:=q_e (by apply h3p (t:=166); exact rfl; exact h3n; kernel_rfl; kernel_rfl; exact h2k; (focus (omega)); (with_reducible assumption)) ?_)))))) <;> (try refine h0f ?_; (refine h0i (t:=166) rfl Tryz.zeroValue166 ?_; intro nb hnb; (try simp only [Value.cells]))) <;> (try refine h0f ?_; (refine q_W ?_)) <;> (try refine h0d ?_)) | (refine gR 10 (p_m (h:=q_m ?_)) <;> (try refine h0f ?_; (refine q_c 50 (c:=by apply hky; exact c_9; exact c_9) (h:=?_); rintro _ _ ⟨a5, c5, rfl, hts5, rfl⟩; (try simp only [zzE, zzF]))) <;> (try refine h0d ?_)) | ((refine h2t (pre:=[]) (id:=11) (m:=8) rfl (by kernel_rfl) rfl (q_t 0 (e:=h3w) (x:=by exact q_f h3f) (h:=q_t 2 (e:=h3w) (x:=by exact h0m rfl) (h:=?_)))) <;> (try refine h2d (i:=1) (j:=3) rfl rfl (by kernel_rfl) ?_ ?_ <;> (first | (refine TagA.mk ?_; (((refine q_k q_l ?_); refine h1g h3w ?_) <;> (try refine q_r 3 ?_; (refine q_c 99 (c:=by apply hcd; exact h5z; exact h5z; (with_reducible assumption)) (h:=?_); rintro _ _ ⟨a6, c6, rfl, hts6, rfl⟩; (try simp only [zzE, zzF])); refine h1g h3w ?_) <;> (try refine q_r 4 ?_; (refine h0o (t:=71) (m:=1) (e:=99) (fun vs => (match vs with | [(_, x0)] => x0.cells.toList | _ => [])) rfl rfl (fun w => by kernel_rfl) ?_; intro nb hnb; (try simp only [Value.cells]); (try simp only [zzC, zzN])); refine h1g h3w ?_) <;> (try refine q_r 5 ?_; (apply h2m; exact rfl; exact Tryz.underlying71; exact h4b; exact h4h; exact h4i; exact h4j; exact rfl; exact rfl; exact rfl; exact Own.nil _ _; exact fd0; exact Nat.le_of_ble_eq_true rfl; exact c_25; exact rfl; exact h5u; omega; (exact fun _ H => H); exact rfl; exact h6c; exact c_4; intro vA eA hownA; obtain ⟨gA, capA, curA, rfl, rfl, hA1, hA2, hA3, hA4⟩ := hownA.some (by omega); (try simp only [zzC, zzN])); refine h1g h3w ?_) <;> (try refine q_t 6 (e:=h3w) (x:=by exact q_f h3f) (h:=?_)) <;> (try refine q_r 7 ?_; (refine q_S ?_); refine h1g h3w ?_) <;> (try refine h1e (by kernel_rfl) ?_))) | (refine TagB.mk ?_; (((refine q_c 99 (c:=by apply hcd; exact h5z; exact h5z; (with_reducible assumption)) (h:=?_); rintro _ _ ⟨a6, c6, rfl, hts6, rfl⟩; (try simp only [zzE, zzF])); refine h1g h3w ?_) <;> (try refine h2d (i:=1) (j:=4) rfl rfl (by kernel_rfl) ?_ ?_ <;> (first | (refine TagA.mk ?_; (((refine q_k q_l ?_); refine h1g h3w ?_) <;> (try refine q_r 4 ?_; (refine h0o (t:=71) (m:=1) (e:=99) (fun vs => (match vs with | [(_, x0)] => x0.cells.toList | _ => [])) rfl rfl (fun w => by kernel_rfl) ?_; intro nb hnb; (try simp only [Value.cells]); (try simp only [zzC, zzN])); refine h1g h3w ?_) <;> (try refine q_r 5 ?_; (apply h2m; exact rfl; exact Tryz.underlying71; exact h4b; exact h4h; exact h4i; exact h4j; exact rfl; exact rfl; exact rfl; exact Own.nil _ _; exact fd0; exact Nat.le_of_ble_eq_true rfl; exact c_25; exact rfl; exact h5u; omega; (exact fun _ H => H); exact rfl; exact h6c; exact c_4; intro vA eA hownA; obtain ⟨gA, capA, curA, rfl, rfl, hA1, hA2, hA3, hA4⟩ := hownA.some (by omega); (try simp only [zzC, zzN])); refine h1g h3w ?_) <;> (try refine q_t 6 (e:=h3w) (x:=by exact q_f h3f) (h:=?_)) <;> (try refine q_r 7 ?_; (refine q_S ?_); refine h1g h3w ?_) <;> (try refine h1e (by kernel_rfl) ?_))) | (refine TagB.mk ?_; (((refine h0o (t:=71) (m:=1) (e:=99) (fun vs => (match vs with | [(_, x0)] => x0.cells.toList | _ => [])) rfl rfl (fun w => by kernel_rfl) ?_; intro nb hnb; (try simp only [Value.cells]); (try simp only [zzC, zzN])); refine h1g h3w ?_) <;> (try refine q_r 1 ?_; (refine q_k q_l ?_); refine h1g h3w ?_) <;> (try refine q_r 5 ?_; (apply h2m; exact rfl; exact Tryz.underlying71; exact h4b; exact h4h; exact h4i; exact h4j; exact rfl; exact rfl; exact rfl; exact Own.nil _ _; exact fd0; exact Nat.le_of_ble_eq_true rfl; exact c_25; exact rfl; exact h5u; omega; (exact fun _ H => H); exact rfl; exact h6c; exact c_4; intro vA eA hownA; obtain ⟨gA, capA, curA, rfl, rfl, hA1, hA2, hA3, hA4⟩ := hownA.some (by omega); (try simp only [zzC, zzN])); refine h1g h3w ?_) <;> (try refine q_t 6 (e:=h3w) (x:=by exact q_f h3f) (h:=?_)) <;> (try refine q_r 7 ?_; (refine q_S ?_); refine h1g h3w ?_) <;> (try refine h1e (by kernel_rfl) ?_)))))))))) | (refine gR 12 (p_e (q_f h3f) (h:=p_e q_l (h:=p_e (by apply h0g; exact rfl; exact (fun _ => BigFrame.builtin_len ..); apply h0k Tryz.underlying71; exact h4y) (h:=p_e (q_b (r:=by exact h2f q_o)) (h:=h0d ?_)))))) | (refine gR 8 (p_a (h:=h0d ?_))))
      all_goals exact h0w ⟨tAnd, cs2, _, _, a6, c6, r4, n1, n2, n3⟩ ⟨⟨hts6, hfi _ _ (h4f (g:=gA) hA1 hA2 hA3 hA4), by show cs2.length ≤ 7; omega, fun _ => by show cs2.length ≤ 6; omega, hkk⟩, by show r4.length < r3.length + 1; omega⟩ (by (focus (repeat (first | exact Sub.nil | refine Sub.cons rfl ?_)))) c_22
     ·rw [← q4] at hfi
      clear hown hts
      (try simp only [zzC, zzN])
      repeat' (first | refine h0p ?_ | refine h0e ?_ | refine h0t ?_ | refine h0x ?_ | refine h0r ?_ | refine h0u ?_ | refine h0j rfl ?_ | refine h0h rfl ?_ | (refine gR 7 (p_m (h:=p_n (h:=p_e (q_f h4m) (h:=p_e q_l (h:=p_e (by apply h0g; exact rfl; exact (fun _ => BigFrame.builtin_len ..); apply h0k Tryz.underlying78; exact h4y) (h:=p_e (q_b (r:=by exact h1y q_o)) (h:=p_m (h:=p_y (h0m rfl) (h:=p_y (h0l rfl) (h:=p_y (q_f h4m) (h:=p_y q_l (h:=p_y (by apply h0n; exact rfl; exact rfl; (focus (apply h3e Tryz.underlying78 h2k; omega; omega; exact c_1))) (h:=p_y (q_g h4k) (h:=p_y (by apply h1l (t:=164); exact rfl; exact h3n; kernel_rfl; kernel_rfl; (with_reducible assumption)) (h:=p_y (q_b (r:=by exact h3v q_o)) (h:=p_p (h:=p_m (h:=p_y (h0m rfl) (h:=p_y (h0l rfl) (h:=p_y (q_f h3r) (h:=q_y (q_L h3z) ?_))))))))))))))))))))) <;> (try refine q_y (by exact h0s (t:=25) (fun vs => (match vs with | [] => [Value.int .i64 0, Value.int .i64 0, Value.int .i64 0] | _ => [])) rfl (fun w => by kernel_rfl)) ?_; (try simp only [Value.cells]); (try simp only [zzC, zzN])) <;> (try refine p_y (by apply h1s (op:=.eql) (t:=25); exact rfl; exact rfl; kernel_rfl; (with_reducible assumption)) (h:=p_p (h:=h0d ?_)))) | (refine gR 9 (p_m (h:=p_n (h:=p_e (q_f h4m) (h:=p_e q_l (h:=p_e (by apply h0n; exact rfl; exact rfl; (focus (apply h3e Tryz.underlying78 h2k; omega; omega; exact c_1))) (h:=q_e (by apply h3p (t:=166); exact rfl; exact h3n; kernel_rfl; kernel_rfl; exact h2k; (focus (omega)); (with_reducible assumption)) ?_)))))) <;> (try refine h0f ?_; (refine h0i (t:=166) rfl Tryz.zeroValue166 ?_; intro nb hnb; (try simp only [Value.cells]))) <;> (try refine h0f ?_; (refine q_W ?_)) <;> (try refine h0d ?_)) | (refine gR 10 (p_m (h:=q_m ?_)) <;> (try refine h0f ?_; (refine q_c 50 (c:=by apply hky; exact c_9; exact c_9) (h:=?_); rintro _ _ ⟨a5, c5, rfl, hts5, rfl⟩; (try simp only [zzE, zzF]))) <;> (try refine h0d ?_)) | ((refine h2t (pre:=[]) (id:=11) (m:=8) rfl (by kernel_rfl) rfl (q_t 0 (e:=h3w) (x:=by exact q_f h3f) (h:=q_t 2 (e:=h3w) (x:=by exact h0m rfl) (h:=?_)))) <;> (try refine h2d (i:=1) (j:=3) rfl rfl (by kernel_rfl) ?_ ?_ <;> (first | (refine TagA.mk ?_; (((refine q_k q_l ?_); refine h1g h3w ?_) <;> (try refine q_r 3 ?_; (refine q_c 99 (c:=by apply hcd; exact h5z; exact h5z; (with_reducible assumption)) (h:=?_); rintro _ _ ⟨a6, c6, rfl, hts6, rfl⟩; (try simp only [zzE, zzF])); refine h1g h3w ?_) <;> (try refine q_r 4 ?_; (refine h0o (t:=71) (m:=1) (e:=99) (fun vs => (match vs with | [(_, x0)] => x0.cells.toList | _ => [])) rfl rfl (fun w => by kernel_rfl) ?_; intro nb hnb; (try simp only [Value.cells]); (try simp only [zzC, zzN])); refine h1g h3w ?_) <;> (try refine q_r 5 ?_; (apply h1z; exact rfl; exact Tryz.underlying71; exact h4b; exact h4h; exact h4i; exact h4j; exact rfl; exact rfl; exact rfl; exact h3n; (with_reducible assumption); (with_reducible assumption); (with_reducible assumption); exact fd0; exact Nat.le_of_ble_eq_true rfl; exact c_25; exact rfl; exact h5u; omega; exact rfl; exact h6c; exact c_4; (try simp only [zzE, zzF]); intro vA eA hownA; obtain ⟨gA, capA, curA, rfl, rfl, hA1, hA2, hA3, hA4⟩ := hownA.some (by omega); (try simp only [zzC, zzN])); refine h1g h3w ?_) <;> (try refine q_t 6 (e:=h3w) (x:=by exact q_f h3f) (h:=?_)) <;> (try refine q_r 7 ?_; (refine q_S ?_); refine h1g h3w ?_) <;> (try refine h1e (by kernel_rfl) ?_))) | (refine TagB.mk ?_; (((refine q_c 99 (c:=by apply hcd; exact h5z; exact h5z; (with_reducible assumption)) (h:=?_); rintro _ _ ⟨a6, c6, rfl, hts6, rfl⟩; (try simp only [zzE, zzF])); refine h1g h3w ?_) <;> (try refine h2d (i:=1) (j:=4) rfl rfl (by kernel_rfl) ?_ ?_ <;> (first | (refine TagA.mk ?_; (((refine q_k q_l ?_); refine h1g h3w ?_) <;> (try refine q_r 4 ?_; (refine h0o (t:=71) (m:=1) (e:=99) (fun vs => (match vs with | [(_, x0)] => x0.cells.toList | _ => [])) rfl rfl (fun w => by kernel_rfl) ?_; intro nb hnb; (try simp only [Value.cells]); (try simp only [zzC, zzN])); refine h1g h3w ?_) <;> (try refine q_r 5 ?_; (apply h1z; exact rfl; exact Tryz.underlying71; exact h4b; exact h4h; exact h4i; exact h4j; exact rfl; exact rfl; exact rfl; exact h3n; (with_reducible assumption); (with_reducible assumption); (with_reducible assumption); exact fd0; exact Nat.le_of_ble_eq_true rfl; exact c_25; exact rfl; exact h5u; omega; exact rfl; exact h6c; exact c_4; (try simp only [zzE, zzF]); intro vA eA hownA; obtain ⟨gA, capA, curA, rfl, rfl, hA1, hA2, hA3, hA4⟩ := hownA.some (by omega); (try simp only [zzC, zzN])); refine h1g h3w ?_) <;> (try refine q_t 6 (e:=h3w) (x:=by exact q_f h3f) (h:=?_)) <;> (try refine q_r 7 ?_; (refine q_S ?_); refine h1g h3w ?_) <;> (try refine h1e (by kernel_rfl) ?_))) | (refine TagB.mk ?_; (((refine h0o (t:=71) (m:=1) (e:=99) (fun vs => (match vs with | [(_, x0)] => x0.cells.toList | _ => [])) rfl rfl (fun w => by kernel_rfl) ?_; intro nb hnb; (try simp only [Value.cells]); (try simp only [zzC, zzN])); refine h1g h3w ?_) <;> (try refine q_r 1 ?_; (refine q_k q_l ?_); refine h1g h3w ?_) <;> (try refine q_r 5 ?_; (apply h1z; exact rfl; exact Tryz.underlying71; exact h4b; exact h4h; exact h4i; exact h4j; exact rfl; exact rfl; exact rfl; exact h3n; (with_reducible assumption); (with_reducible assumption); (with_reducible assumption); exact fd0; exact Nat.le_of_ble_eq_true rfl; exact c_25; exact rfl; exact h5u; omega; exact rfl; exact h6c; exact c_4; (try simp only [zzE, zzF]); intro vA eA hownA; obtain ⟨gA, capA, curA, rfl, rfl, hA1, hA2, hA3, hA4⟩ := hownA.some (by omega); (try simp only [zzC, zzN])); refine h1g h3w ?_) <;> (try refine q_t 6 (e:=h3w) (x:=by exact q_f h3f) (h:=?_)) <;> (try refine q_r 7 ?_; (refine q_S ?_); refine h1g h3w ?_) <;> (try refine h1e (by kernel_rfl) ?_)))))))))) | (refine gR 12 (p_e (q_f h3f) (h:=p_e q_l (h:=p_e (by apply h0g; exact rfl; exact (fun _ => BigFrame.builtin_len ..); apply h0k Tryz.underlying71; exact h4y) (h:=p_e (q_b (r:=by exact h2f q_o)) (h:=h0d ?_)))))) | (refine gR 8 (p_a (h:=h0d ?_))))
      all_goals exact h0w ⟨tAnd, cs2, _, _, a6, c6, r4, n1, n2, n3⟩ ⟨⟨hts6, hfi _ _ (h4f (g:=gA) hA1 hA2 hA3 hA4), by show cs2.length ≤ 7; omega, fun _ => by show cs2.length ≤ 6; omega, hkk⟩, by show r4.length < r3.length + 1; omega⟩ (by (focus (repeat (first | exact Sub.nil | refine Sub.cons rfl ?_)))) c_22
   ·have h1 := hxt (Or.inr (Or.inr hw))
    rw [decide_eq_false hw] at hq
    injection h1 with y1 y2
    injection y2 with y2 y3
    injection y3 with y3 y4
    injection y4 with y4 y5
    subst y1 y2 y3 y4 y5
    have hts' := Lib.hid hts
    clear hxt heq hlw hts
    rw [List.length_cons]
    repeat' (first | refine h0p ?_ | refine h0e ?_ | refine h0t ?_ | refine h1u ?_ | refine h1n ?_ | refine h1v ?_ | refine h2o ?_ | refine h0h rfl ?_ | (refine gR 7 (p_m (h:=p_n (h:=p_e (q_f h4m) (h:=p_e (by apply h1l (t:=78); exact rfl; (focus (repeat (first | exact fd0 | apply fdA | apply fdS))); kernel_rfl; kernel_rfl; exact rfl) (h:=p_e (by apply h0g; exact rfl; exact (fun _ => BigFrame.builtin_len ..); apply h0k Tryz.underlying78; exact h4y) (h:=p_e (q_b (r:=by exact h1y q_o)) (h:=p_m (h:=p_y (h0m rfl) (h:=p_y (h0l rfl) (h:=p_y (q_f h4m) (h:=p_y (by apply h1l (t:=78); exact rfl; (focus (repeat (first | exact fd0 | apply fdA | apply fdS))); kernel_rfl; kernel_rfl; exact rfl) (h:=p_y (by apply h0n; exact rfl; exact rfl; (focus (apply h3e Tryz.underlying78 h2k; omega; omega; exact c_1))) (h:=p_y (q_g h4k) (h:=p_y (by apply h1l (t:=164); exact rfl; (focus (repeat (first | exact fd0 | apply fdA | apply fdS))); kernel_rfl; kernel_rfl; (with_reducible assumption)) (h:=p_y (q_b (r:=by exact h3v q_o)) (h:=p_p (h:=p_m (h:=p_y (h0m rfl) (h:=p_y (h0l rfl) (h:=p_y (q_f h3r) (h:=q_y (by apply h3p (t:=25); exact rfl; (focus (repeat (first | exact fd0 | apply fdA | apply fdS))); kernel_rfl; kernel_rfl; exact h3z; exact Nat.le_of_ble_eq_true rfl; exact c_25) ?_))))))))))))))))))))) <;> (try refine q_y (by exact h0s (t:=25) (fun vs => (match vs with | [] => [Value.int .i64 0, Value.int .i64 0, Value.int .i64 0] | _ => [])) rfl (fun w => by kernel_rfl)) ?_; (try simp only [Value.cells]); (try simp only [zzC, zzN])) <;> (try refine p_y (by apply h1s (op:=.eql) (t:=25); exact rfl; exact rfl; kernel_rfl; (with_reducible assumption)) (h:=p_p (h:=h0d ?_)))))
    exact h0w (v, e, _, c3) ⟨hown, hts'.out, hle⟩ (by (focus (repeat (first | exact Sub.nil | refine Sub.cons rfl ?_)))) c_27
 clear hts2 hZ
 rintro ⟨v, e, a4, c4⟩ ⟨hown, hts, hle⟩
 dsimp only [List.cons_append, List.nil_append] at *
 obtain ⟨T5, hT5, hsw⟩ := hT3.swap (S:=S) (w0:=w0) er e
 obtain ⟨va, vc, hv, -⟩ := hown.sli []
 subst hv
 refine h3y (L' := er ++ (rlB nb7 cn act (.slice va zc.length vc) :: tkBl nb3 ⟨tk, tx, nu, li, co⟩ :: rdB b (.pointer (some ⟨pb, 0, none⟩)) a4 z.length c4 (u1, u2, u3) ⟨o1, o2, vr, o4, o5, o6, o7, o8⟩ :: x :: prB pb ct rb :: T5)) (fun w H => hsw w [_, _, _, _, _] H) ?_
 have hT5' := Lib.hid hT5
 have hts' := Lib.hid hts
 have hown' := Lib.hid hown
 clear hsw hT3 hT5 hts hown T3
 have hfin : ∀ v' e', Own 73 3 v' (rs.length + 1) (cz ++ [.int .u32 cn, .int .u32 act, .slice va zc.length vc]) e' → Own 73 3 v' (rs.length + 1) (cz ++ [.int .u32 cn, .int .u32 act, .slice va zc.length vc]) e' := fun _ _ h => h
 by_cases hm : 64 < rs.length + 1
 ·rw [if_pos hm]
  generalize h2v (u1, u2, u3) _ 205 = fw at *
  obtain ⟨z1, z2, z3⟩ := fw
  rcases h3i hO with ⟨rfl, h0, hx, rfl⟩ | ⟨g, capg, cur, rfl, rfl, q1, q2, q3, q4⟩
  ·omega
  ·subst q4
   clear hO
   (try simp only [zzC, zzN])
   repeat' (first | refine h0p ?_ | refine h0e ?_ | refine h0j rfl ?_ | ((apply h4t (i:=3) (j:=0) (id:=14) (m:=13); exact c_11; kernel_rfl; exact rfl) <;> (try refine q_t 0 (e:=c_3) (x:=by exact h0m rfl) (h:=q_t 1 (e:=c_3) (x:=by exact h0m rfl) (h:=q_t 2 (e:=c_3) (x:=by exact h0l rfl) (h:=q_t 3 (e:=c_3) (x:=by exact q_f h2j) (h:=q_t 4 (e:=c_3) (x:=by exact q_g h3s) (h:=q_t 6 (e:=c_3) (x:=by exact q_L sz_73) (h:=?_))))))) <;> (try refine h2d (i:=5) (j:=7) rfl rfl (by kernel_rfl) ?_ ?_ <;> (first | (refine TagA.mk ?_; (((refine q_k q_l ?_); refine h1g c_3 ?_) <;> (try refine q_r 7 ?_; (refine h0o (t:=30) (m:=1) (e:=73) (fun vs => (match vs with | [(_, x0)] => x0.cells.toList | _ => [])) rfl rfl (fun w => by kernel_rfl) ?_; intro nb hnb; (try simp only [Value.cells]); (try simp only [zzC, zzN])); refine h1g c_3 ?_) <;> (try refine q_r 8 ?_; (apply h1z; exact rfl; exact Tryz.underlying30; exact inf_73_i; exact inf_73_z; exact inf_73_s; exact inf_73_b; exact rfl; exact rfl; exact rfl; exact h3n; (with_reducible assumption); (with_reducible assumption); (with_reducible assumption); exact fd0; exact Nat.le_of_ble_eq_true rfl; exact c_25; exact rfl; exact h5u; omega; exact rfl; exact h6c; exact c_4; (try simp only [zzE, zzF]); intro vA eA hownA; obtain ⟨gA, capA, curA, rfl, rfl, hA1, hA2, hA3, hA4⟩ := hownA.some (by omega); (try simp only [zzC, zzN])); refine h1g c_3 ?_) <;> (try refine q_t 9 (e:=c_3) (x:=by exact h0l rfl) (h:=q_t 10 (e:=c_3) (x:=by exact q_f h2j) (h:=q_t 11 (e:=c_3) (x:=by exact q_g h3s) (h:=?_)))) <;> (try refine q_r 12 ?_; (refine q_S ?_); refine h1g c_3 ?_) <;> (try refine h1e (by kernel_rfl) ?_))) | (refine TagB.mk ?_; (((refine h0o (t:=30) (m:=1) (e:=73) (fun vs => (match vs with | [(_, x0)] => x0.cells.toList | _ => [])) rfl rfl (fun w => by kernel_rfl) ?_; intro nb hnb; (try simp only [Value.cells]); (try simp only [zzC, zzN])); refine h1g c_3 ?_) <;> (try refine q_r 5 ?_; (refine q_k q_l ?_); refine h1g c_3 ?_) <;> (try refine q_r 8 ?_; (apply h1z; exact rfl; exact Tryz.underlying30; exact inf_73_i; exact inf_73_z; exact inf_73_s; exact inf_73_b; exact rfl; exact rfl; exact rfl; exact h3n; (with_reducible assumption); (with_reducible assumption); (with_reducible assumption); exact fd0; exact Nat.le_of_ble_eq_true rfl; exact c_25; exact rfl; exact h5u; omega; exact rfl; exact h6c; exact c_4; (try simp only [zzE, zzF]); intro vA eA hownA; obtain ⟨gA, capA, curA, rfl, rfl, hA1, hA2, hA3, hA4⟩ := hownA.some (by omega); (try simp only [zzC, zzN])); refine h1g c_3 ?_) <;> (try refine q_t 9 (e:=c_3) (x:=by exact h0l rfl) (h:=q_t 10 (e:=c_3) (x:=by exact q_f h2j) (h:=q_t 11 (e:=c_3) (x:=by exact q_g h3s) (h:=?_)))) <;> (try refine q_r 12 ?_; (refine q_S ?_); refine h1g c_3 ?_) <;> (try refine h1e (by kernel_rfl) ?_)))))) | (refine gR 15 (p_m (h:=p_n (h:=p_e (q_f h2j) (h:=p_e (q_g h3s) (h:=p_e q_l (h:=p_e (by apply h0g; exact rfl; exact (fun _ => BigFrame.builtin_len ..); apply h0k Tryz.underlying30; exact h4y) (h:=p_e (q_b (r:=by exact h1y q_o)) (h:=h0d ?_))))))))) | (refine gR 16 (p_m (h:=q_e (q_L h2k) ?_)) <;> (try refine h0f ?_; (refine q_c 52 (c:=by apply hf5; exact c_9) (h:=?_); rintro _ _ ⟨rfl, rfl⟩; (try simp only [zzE, zzF]))) <;> (try refine h0d ?_)))
   all_goals
    (first | refine h0v Tryz.results81 .nil ?_ | refine h2w Tryz.results81 .nil ?_)
    exact ⟨_, ⟨a4, c4, T5, _, _, _, e, rfl, hts'.out, hT5'.out, hown'.out, hfin _ _ (h4f (g:=gA) hA1 hA2 hA3 hA4), rfl⟩, by intro w H; refine Sel.out ?_ H; (try simp only [zzC, zzN]); repeat (first | exact Sel.refl _ | (apply Sel.cons; exact h3n; (try simp only [zzE, zzF])) | apply Sel.drop)⟩
 ·rw [if_neg hm]
  clear hf5
  rcases h3i hO with ⟨rfl, h0, hx, rfl⟩ | ⟨g, capg, cur, rfl, rfl, q1, q2, q3, q4⟩
  ·subst hx
   rw [h0] at hfin ⊢
   clear hO
   (try simp only [zzC, zzN])
   repeat' (first | refine h0p ?_ | refine h0e ?_ | refine h0u ?_ | refine h0h rfl ?_ | ((apply h4c (i:=2) (id:=14) (m:=13); exact c_11; kernel_rfl; exact rfl) <;> (try refine q_t 0 (e:=c_2) (x:=by exact h0m rfl) (h:=q_t 1 (e:=c_2) (x:=by exact h0m rfl) (h:=q_t 2 (e:=c_2) (x:=by exact h0l rfl) (h:=q_t 3 (e:=c_2) (x:=by exact q_f h2j) (h:=q_t 4 (e:=c_2) (x:=by exact q_g h3s) (h:=q_t 6 (e:=c_2) (x:=by exact q_L sz_73) (h:=?_))))))) <;> (try refine h2d (i:=5) (j:=7) rfl rfl (by kernel_rfl) ?_ ?_ <;> (first | (refine TagA.mk ?_; (((refine q_k q_l ?_); refine h1g c_2 ?_) <;> (try refine q_r 7 ?_; (refine h0o (t:=30) (m:=1) (e:=73) (fun vs => (match vs with | [(_, x0)] => x0.cells.toList | _ => [])) rfl rfl (fun w => by kernel_rfl) ?_; intro nb hnb; (try simp only [Value.cells]); (try simp only [zzC, zzN])); refine h1g c_2 ?_) <;> (try refine q_r 8 ?_; (apply h2m; exact rfl; exact Tryz.underlying30; exact inf_73_i; exact inf_73_z; exact inf_73_s; exact inf_73_b; exact rfl; exact rfl; exact rfl; exact Own.nil _ _; exact fd0; exact Nat.le_of_ble_eq_true rfl; exact c_25; exact rfl; exact h5u; omega; (exact fun _ H => H); exact rfl; exact h6c; exact c_4; intro vA eA hownA; obtain ⟨gA, capA, curA, rfl, rfl, hA1, hA2, hA3, hA4⟩ := hownA.some (by omega); (try simp only [zzC, zzN])); refine h1g c_2 ?_) <;> (try refine q_t 9 (e:=c_2) (x:=by exact h0l rfl) (h:=q_t 10 (e:=c_2) (x:=by exact q_f h2j) (h:=q_t 11 (e:=c_2) (x:=by exact q_g h3s) (h:=?_)))) <;> (try refine q_r 12 ?_; (refine q_S ?_); refine h1g c_2 ?_) <;> (try refine h1e (by kernel_rfl) ?_))) | (refine TagB.mk ?_; (((refine h0o (t:=30) (m:=1) (e:=73) (fun vs => (match vs with | [(_, x0)] => x0.cells.toList | _ => [])) rfl rfl (fun w => by kernel_rfl) ?_; intro nb hnb; (try simp only [Value.cells]); (try simp only [zzC, zzN])); refine h1g c_2 ?_) <;> (try refine q_r 5 ?_; (refine q_k q_l ?_); refine h1g c_2 ?_) <;> (try refine q_r 8 ?_; (apply h2m; exact rfl; exact Tryz.underlying30; exact inf_73_i; exact inf_73_z; exact inf_73_s; exact inf_73_b; exact rfl; exact rfl; exact rfl; exact Own.nil _ _; exact fd0; exact Nat.le_of_ble_eq_true rfl; exact c_25; exact rfl; exact h5u; omega; (exact fun _ H => H); exact rfl; exact h6c; exact c_4; intro vA eA hownA; obtain ⟨gA, capA, curA, rfl, rfl, hA1, hA2, hA3, hA4⟩ := hownA.some (by omega); (try simp only [zzC, zzN])); refine h1g c_2 ?_) <;> (try refine q_t 9 (e:=c_2) (x:=by exact h0l rfl) (h:=q_t 10 (e:=c_2) (x:=by exact q_f h2j) (h:=q_t 11 (e:=c_2) (x:=by exact q_g h3s) (h:=?_)))) <;> (try refine q_r 12 ?_; (refine q_S ?_); refine h1g c_2 ?_) <;> (try refine h1e (by kernel_rfl) ?_)))))) | (refine gR 15 (p_m (h:=p_n (h:=p_e (q_f h2j) (h:=p_e (q_g h3s) (h:=p_e q_l (h:=p_e (by apply h0g; exact rfl; exact (fun _ => BigFrame.builtin_len ..); apply h0k Tryz.underlying30; exact h4y) (h:=p_e (q_b (r:=by exact h2f q_o)) (h:=h0d ?_))))))))))
   all_goals
    (first | refine h0v Tryz.results81 .nil ?_ | refine h2w Tryz.results81 .nil ?_)
    exact ⟨_, ⟨a4, c4, T5, _, _, _, e, rfl, hts'.out, hT5'.out, hown'.out, hfin _ _ (h4f (g:=gA) hA1 hA2 hA3 hA4), rfl⟩, by intro w H; refine Sel.out ?_ H; (try simp only [zzC, zzN]); repeat (first | exact Sel.refl _ | (apply Sel.cons; exact h3n; (try simp only [zzE, zzF])) | apply Sel.drop)⟩
  ·subst q4
   clear hO
   (try simp only [zzC, zzN])
   repeat' (first | refine h0p ?_ | refine h0e ?_ | refine h0u ?_ | refine h0h rfl ?_ | ((apply h4t (i:=3) (j:=0) (id:=14) (m:=13); exact c_11; kernel_rfl; exact rfl) <;> (try refine q_t 0 (e:=c_3) (x:=by exact h0m rfl) (h:=q_t 1 (e:=c_3) (x:=by exact h0m rfl) (h:=q_t 2 (e:=c_3) (x:=by exact h0l rfl) (h:=q_t 3 (e:=c_3) (x:=by exact q_f h2j) (h:=q_t 4 (e:=c_3) (x:=by exact q_g h3s) (h:=q_t 6 (e:=c_3) (x:=by exact q_L sz_73) (h:=?_))))))) <;> (try refine h2d (i:=5) (j:=7) rfl rfl (by kernel_rfl) ?_ ?_ <;> (first | (refine TagA.mk ?_; (((refine q_k q_l ?_); refine h1g c_3 ?_) <;> (try refine q_r 7 ?_; (refine h0o (t:=30) (m:=1) (e:=73) (fun vs => (match vs with | [(_, x0)] => x0.cells.toList | _ => [])) rfl rfl (fun w => by kernel_rfl) ?_; intro nb hnb; (try simp only [Value.cells]); (try simp only [zzC, zzN])); refine h1g c_3 ?_) <;> (try refine q_r 8 ?_; (apply h1z; exact rfl; exact Tryz.underlying30; exact inf_73_i; exact inf_73_z; exact inf_73_s; exact inf_73_b; exact rfl; exact rfl; exact rfl; exact h3n; (with_reducible assumption); (with_reducible assumption); (with_reducible assumption); exact fd0; exact Nat.le_of_ble_eq_true rfl; exact c_25; exact rfl; exact h5u; omega; exact rfl; exact h6c; exact c_4; (try simp only [zzE, zzF]); intro vA eA hownA; obtain ⟨gA, capA, curA, rfl, rfl, hA1, hA2, hA3, hA4⟩ := hownA.some (by omega); (try simp only [zzC, zzN])); refine h1g c_3 ?_) <;> (try refine q_t 9 (e:=c_3) (x:=by exact h0l rfl) (h:=q_t 10 (e:=c_3) (x:=by exact q_f h2j) (h:=q_t 11 (e:=c_3) (x:=by exact q_g h3s) (h:=?_)))) <;> (try refine q_r 12 ?_; (refine q_S ?_); refine h1g c_3 ?_) <;> (try refine h1e (by kernel_rfl) ?_))) | (refine TagB.mk ?_; (((refine h0o (t:=30) (m:=1) (e:=73) (fun vs => (match vs with | [(_, x0)] => x0.cells.toList | _ => [])) rfl rfl (fun w => by kernel_rfl) ?_; intro nb hnb; (try simp only [Value.cells]); (try simp only [zzC, zzN])); refine h1g c_3 ?_) <;> (try refine q_r 5 ?_; (refine q_k q_l ?_); refine h1g c_3 ?_) <;> (try refine q_r 8 ?_; (apply h1z; exact rfl; exact Tryz.underlying30; exact inf_73_i; exact inf_73_z; exact inf_73_s; exact inf_73_b; exact rfl; exact rfl; exact rfl; exact h3n; (with_reducible assumption); (with_reducible assumption); (with_reducible assumption); exact fd0; exact Nat.le_of_ble_eq_true rfl; exact c_25; exact rfl; exact h5u; omega; exact rfl; exact h6c; exact c_4; (try simp only [zzE, zzF]); intro vA eA hownA; obtain ⟨gA, capA, curA, rfl, rfl, hA1, hA2, hA3, hA4⟩ := hownA.some (by omega); (try simp only [zzC, zzN])); refine h1g c_3 ?_) <;> (try refine q_t 9 (e:=c_3) (x:=by exact h0l rfl) (h:=q_t 10 (e:=c_3) (x:=by exact q_f h2j) (h:=q_t 11 (e:=c_3) (x:=by exact q_g h3s) (h:=?_)))) <;> (try refine q_r 12 ?_; (refine q_S ?_); refine h1g c_3 ?_) <;> (try refine h1e (by kernel_rfl) ?_)))))) | (refine gR 15 (p_m (h:=p_n (h:=p_e (q_f h2j) (h:=p_e (q_g h3s) (h:=p_e q_l (h:=p_e (by apply h0g; exact rfl; exact (fun _ => BigFrame.builtin_len ..); apply h0k Tryz.underlying30; exact h4y) (h:=p_e (q_b (r:=by exact h2f q_o)) (h:=h0d ?_))))))))))
   all_goals
    (first | refine h0v Tryz.results81 .nil ?_ | refine h2w Tryz.results81 .nil ?_)
    exact ⟨_, ⟨a4, c4, T5, _, _, _, e, rfl, hts'.out, hT5'.out, hown'.out, hfin _ _ (h4f (g:=gA) hA1 hA2 hA3 hA4), rfl⟩, by intro w H; refine Sel.out ?_ H; (try simp only [zzC, zzN]); repeat (first | exact Sel.refl _ | (apply Sel.cons; exact h3n; (try simp only [zzE, zzF])) | apply Sel.drop)⟩
def flatB : List (List Blk) → List Blk
 | [] => []
 | [x] => x
 | x :: y :: r => x ++ flatB (y :: r)
theorem flatB_eq : ∀ l : List (List Blk), flatB l = l.flatten
 | [] => rfl
 | [x] => by simp [flatB]
 | x :: y :: r => by rw [flatB, flatB_eq (y :: r)]; simp
theorem HP.re {S : List Nat} {w0 w : World} (env : List (List Blk)) (is js : List Nat) (h : is.Perm js) (H : HP S w0 w (flatB (is.map fun i => env.getD i []))) : HP S w0 w (flatB (js.map fun i => env.getD i [])) := by
 rw [flatB_eq] at H ⊢
 exact H.perm ((h.map _).flatten)
inductive RulsR : List RulP → List Value → List Blk → Prop
 | nil : RulsR [] [] []
 | snoc {rs : List RulP} {cz : List Value} {ec : List Blk} {r : RulP} {v : Value} {e : List Blk} : RulsR rs cz ec → Own 99 4 v r.conds.length (cndC r.conds) e → RulsR (rs ++ [r]) (cz ++ [.int .u32 r.num, .int .u32 r.act, v]) (e ++ ec)
structure RdD where
 a : Option Addr
 c : Nat
 vr : Value
 vp : Value
 vq : Value
 mh : Nat
 mp : Nat
 kh : List (Value × Value)
 kp : List (Value × Value)
 er : List Blk
 ec : List Blk
 ep : List Blk
 eq : List Blk
 T : List Blk
 cz : List Value
abbrev RdD.o (d : RdD) (P : Pol) : O8 := ⟨.string (mB8 P.nm), .int .u32 P.df, d.vr, .int .u16 (P.hd : Nat), d.vp, d.vq, .map (some d.mh), .map (some d.mp)⟩
def RdD.blocks (d : RdD) (b pb ct rb : Nat) (P : Pol) (s : PS) (x : Blk) : List Blk :=
 rdB b (.pointer (some ⟨pb, 0, none⟩)) d.a s.1.length d.c s.2 (d.o P) :: x :: prB pb ct rb :: h3m d.mh d.kh :: h3m d.mp d.kp :: (d.er ++ (d.ep ++ (d.eq ++ d.T)))
structure RdD.ok (d : RdD) (ct rb m : Nat) (L0 : List Blk) (P : Pol) (s : PS) (x : Blk) : Prop where
 ts : TkS x d.a d.c s.1
 rs : RulsR P.rules d.cz d.ec
 vr : Own 73 3 d.vr P.rules.length d.cz d.er
 kh : MapS keyT d.kh (P.paths.map (·.1))
 vp : Own 104 2 d.vp P.paths.length (pthC P.paths) d.ep
 kp : MapS keyP d.kp (P.ports.map (·.1))
 vq : Own 106 2 d.vq P.ports.length (porC P.ports) d.eq
 T : EnS ct rb (m + P.rules.length) (d.ec ++ L0) d.T
 hd : P.hd < 65536
 l1 : P.rules.length ≤ 65
 l2 : P.paths.length ≤ 33
 l3 : P.ports.length ≤ 33
theorem EnS.re {ct rb m : Nat} {L0 T : List Blk} (L1 : List Blk) (h : EnS ct rb m L0 T) (hp : L0.Perm L1) : ∃ T2, EnS ct rb m L1 T2 ∧ T.Perm T2 := by
 obtain ⟨m1, m2, o, rfl⟩ := h
 exact ⟨_, ⟨m1, m2, o, rfl⟩, List.Perm.append_left _ (List.Perm.append_left _ hp)⟩
theorem RdD.put {S : List Nat} {w0 : World} {d : RdD} {b pb ct rb m : Nat} {L0 : List Blk} {P : Pol} {s : PS} {x : Blk} (e : List Blk) (h : d.ok ct rb m L0 P s x) :
  ∃ T2, RdD.ok { d with T := T2 } ct rb m (e ++ L0) P s x ∧ ∀ w, HP S w0 w (e ++ d.blocks b pb ct rb P s x) → HP S w0 w (RdD.blocks { d with T := T2 } b pb ct rb P s x) := by
 obtain ⟨T1, h1, hp1⟩ := h.T.put (S:=S) (w0:=w0) e
 obtain ⟨T2, h2, hp2⟩ := h1.re (d.ec ++ (e ++ L0)) (List.perm_append_comm_assoc ..)
 refine ⟨T2, ⟨h.ts, h.rs, h.vr, h.kh, h.vp, h.kp, h.vq, h2, h.hd, h.l1, h.l2, h.l3⟩, fun w H => ?_⟩
 unfold RdD.blocks at H ⊢
 dsimp only
 have H1 := hp1 w ([_, _, _, _, _] ++ (d.er ++ (d.ep ++ d.eq))) (HP.re (env:=[e, [rdB b (.pointer (some ⟨pb, 0, none⟩)) d.a s.1.length d.c s.2 (d.o P), x, prB pb ct rb, h3m d.mh d.kh, h3m d.mp d.kp], d.er, d.ep, d.eq, d.T]) [0, 1, 2, 3, 4, 5] [1, 2, 3, 4, 0, 5] (by decide) H |> fun H => by
  simp only [List.map_cons, List.map_nil, flatB, List.getD_cons_zero, List.getD_cons_succ, List.cons_append, List.nil_append, List.append_assoc] at H ⊢
  exact H)
 refine (H1.perm (List.Perm.append_left _ hp2)).perm ?_
 simp only [List.cons_append, List.nil_append, List.append_assoc]
 exact List.Perm.refl _
theorem RdD.get {S : List Nat} {w0 : World} {d : RdD} {b pb ct rb m : Nat} {L0 : List Blk} {P : Pol} {s : PS} {x : Blk} (e : List Blk) (h : d.ok ct rb m (e ++ L0) P s x) :
  ∃ T2, RdD.ok { d with T := T2 } ct rb m L0 P s x ∧ ∀ w, HP S w0 w (d.blocks b pb ct rb P s x) → HP S w0 w (e ++ RdD.blocks { d with T := T2 } b pb ct rb P s x) := by
 obtain ⟨T1, h1, hp1⟩ := h.T.re (e ++ (d.ec ++ L0)) (List.perm_append_comm_assoc ..)
 obtain ⟨T2, h2, hp2⟩ := h1.get (S:=S) (w0:=w0) e
 refine ⟨T2, ⟨h.ts, h.rs, h.vr, h.kh, h.vp, h.kp, h.vq, h2, h.hd, h.l1, h.l2, h.l3⟩, fun w H => ?_⟩
 unfold RdD.blocks at H ⊢
 dsimp only
 have H1 : HP S w0 w (([rdB b (.pointer (some ⟨pb, 0, none⟩)) d.a s.1.length d.c s.2 (d.o P), x, prB pb ct rb, h3m d.mh d.kh, h3m d.mp d.kp] ++ (d.er ++ (d.ep ++ d.eq))) ++ T1) := by
  refine H.perm ?_
  simp only [List.cons_append, List.nil_append, List.append_assoc]
  exact .cons _ (.cons _ (.cons _ (.cons _ (.cons _ (List.Perm.append_left _ (List.Perm.append_left _ (List.Perm.append_left _ hp1)))))))
 have H2 := hp2 w _ H1
 refine HP.re (env:=[e, [rdB b (.pointer (some ⟨pb, 0, none⟩)) d.a s.1.length d.c s.2 (d.o P), x, prB pb ct rb, h3m d.mh d.kh, h3m d.mp d.kp], d.er, d.ep, d.eq, T2]) [1, 2, 3, 4, 0, 5] [0, 1, 2, 3, 4, 5] (by decide) ?_
 simp only [List.map_cons, List.map_nil, flatB, List.getD_cons_zero, List.getD_cons_succ, List.cons_append, List.nil_append, List.append_assoc] at H2 ⊢
 exact H2
theorem HP.re2 {S : List Nat} {w0 w : World} {A B : List Blk} (env : List (List Blk)) (is js : List Nat) (h : is.Perm js) (hA : A = flatB (is.map fun i => env.getD i [])) (hB : flatB (js.map fun i => env.getD i []) = B) (H : HP S w0 w A) : HP S w0 w B := by
 subst hA hB
 exact H.re env is js h
def LnR (S : List Nat) (w0 : World) (b pb ct rb m : Nat) (L0 : List Blk) (x : Blk) (F : Nat) (args : Array Value) (d : RdD) (P : Pol) (s : PS) (P' : Pol) (s' : PS) : Prop :=
 Fn Tryz.prog F args S w0 (d.blocks b pb ct rb P s x) fun v L' => v = .tuple #[] ∧ ∃ d' : RdD, d'.ok ct rb m L0 P' s' x ∧ d'.blocks b pb ct rb P' s' x = L'
theorem handle_s {S w0} {b pb ct rb m : Nat} {L0 : List Blk} {x : Blk} {d : RdD} {P : Pol} {s : PS} (h : d.ok ct rb m L0 P s x) (t : Tk) :
  LnR S w0 b pb ct rb m L0 x 82 #[.pointer (some ⟨b, 0, none⟩), .agg t.cells.toArray] d P s { P with hd := (hanF P.hd t s).1 } (hanF P.hd t s).2 := by
 obtain ⟨l, w⟩ := s
 obtain ⟨T2, hT2, hput⟩ := h.T.put (S:=S) (w0:=w0) ([h3m d.mh d.kh, h3m d.mp d.kp] ++ (d.er ++ (d.ep ++ d.eq)))
 refine Fn.weak (fun w' H => hput w' [_, _, _] ?_) ((handle_c (S:=S) (w0:=w0) P.hd (.string (mB8 P.nm)) (.int .u32 P.df) d.vr d.vp d.vq (.map (some d.mh)) (.map (some d.mp)) t b pb ct rb _ _ T2 hT2 d.a d.c l w x h.ts).mono ?_)
 ·unfold RdD.blocks at H
  simp only [List.cons_append, List.nil_append, List.append_assoc] at H ⊢
  exact H
 ·rintro v L' ⟨a', c', T', rfl, hts, hT', rfl⟩
  obtain ⟨T3, hT3, hget⟩ := hT'.get (S:=S) (w0:=w0) ([h3m d.mh d.kh, h3m d.mp d.kp] ++ (d.er ++ (d.ep ++ d.eq)))
  refine ⟨_, ⟨rfl, { d with a := a', c := c', T := T3 }, ⟨hts, h.rs, h.vr, h.kh, h.vp, h.kp, h.vq, hT3, show (hanF P.hd t (l, w)).1 < 65536 from setF_lt 51199 _, h.l1, h.l2, h.l3⟩, rfl⟩, fun w' H => ?_⟩
  have H1 := hget w' [_, _, _] H
  unfold RdD.blocks
  simp only [List.cons_append, List.nil_append, List.append_assoc] at H1 ⊢
  exact H1
theorem beneath_s {S w0} {b pb ct rb m : Nat} {L0 : List Blk} {x : Blk} {d : RdD} {P : Pol} {s : PS} (h : d.ok ct rb m L0 P s x) (t : Tk) (hl : P.paths.length ≤ 32) :
  LnR S w0 b pb ct rb m L0 x 83 #[.pointer (some ⟨b, 0, none⟩), .agg t.cells.toArray] d P s { P with paths := (benF P.hd t P.paths s).1 } (benF P.hd t P.paths s).2 := by
 obtain ⟨l, w⟩ := s
 obtain ⟨T2, hT2, hput⟩ := h.T.put (S:=S) (w0:=w0) ([h3m d.mp d.kp] ++ (d.er ++ d.eq))
 refine Fn.weak (fun w' H => ?_) ((beneath_c (S:=S) (w0:=w0) P.hd h.hd P.paths (.string (mB8 P.nm)) (.int .u32 P.df) d.vr d.vp d.vq (.map (some d.mp)) d.ep d.mh d.kh t b pb ct rb _ _ T2 (by omega) h.vp h.kh hT2 d.a d.c l w x h.ts).mono ?_)
 ·have H1 := hput w' (h3m d.mh d.kh :: (d.ep ++ [rdB b (.pointer (some ⟨pb, 0, none⟩)) d.a l.length d.c w (d.o P), x, prB pb ct rb])) (HP.re2 (env:=[[rdB b (.pointer (some ⟨pb, 0, none⟩)) d.a l.length d.c w (d.o P), x, prB pb ct rb], [h3m d.mh d.kh], [h3m d.mp d.kp], d.er, d.ep, d.eq, d.T]) [0, 1, 2, 3, 4, 5, 6] [1, 4, 0, 2, 3, 5, 6] (by decide) (by simp [flatB, RdD.blocks]) (by simp [flatB]) H)
  simp only [List.cons_append, List.nil_append, List.append_assoc] at H1
  exact H1
 ·rintro v L' ⟨a', c', T', kvs', vp', ep', rfl, hts, hT', hM, hO, rfl⟩
  obtain ⟨T3, hT3, hget⟩ := hT'.get (S:=S) (w0:=w0) ([h3m d.mp d.kp] ++ (d.er ++ d.eq))
  refine ⟨_, ⟨rfl, { d with a := a', c := c', T := T3, kh := kvs', vp := vp', ep := ep' }, ⟨hts, h.rs, h.vr, hM, hO, h.kp, h.vq, hT3, h.hd, h.l1, ?_, h.l3⟩, rfl⟩, fun w' H => ?_⟩
  ·show (P.paths ++ [_]).length ≤ 33
   rw [List.length_append]
   exact Nat.succ_le_succ hl
  have H1 := hget w' (h3m d.mh kvs' :: (ep' ++ [_, _, _])) (by simp only [List.cons_append, List.nil_append, List.append_assoc]; exact H)
  refine HP.re2 (env:=[[rdB b (.pointer (some ⟨pb, 0, none⟩)) a' (benF P.hd t P.paths (l, w)).2.1.length c' (benF P.hd t P.paths (l, w)).2.2 ⟨.string (mB8 P.nm), .int .u32 P.df, d.vr, .int .u16 (P.hd : Nat), vp', d.vq, .map (some d.mh), .map (some d.mp)⟩, x, prB pb ct rb], [h3m d.mh kvs'], [h3m d.mp d.kp], d.er, ep', d.eq, T3]) [1, 4, 0, 2, 3, 5, 6] [0, 1, 2, 3, 4, 5, 6] (by decide) ?_ ?_ H1
  ·simp [flatB]
  ·simp [flatB, RdD.blocks]
theorem port_s {S w0} {b pb ct rb m : Nat} {L0 : List Blk} {x : Blk} {d : RdD} {P : Pol} {s : PS} (h : d.ok ct rb m L0 P s x) (t : Tk) (hl : P.ports.length ≤ 32) :
  LnR S w0 b pb ct rb m L0 x 84 #[.pointer (some ⟨b, 0, none⟩), .agg t.cells.toArray] d P s { P with ports := (porF P.hd t P.ports s).1 } (porF P.hd t P.ports s).2 := by
 obtain ⟨l, w⟩ := s
 obtain ⟨T2, hT2, hput⟩ := h.T.put (S:=S) (w0:=w0) ([h3m d.mh d.kh] ++ (d.er ++ d.ep))
 refine Fn.weak (fun w' H => ?_) ((port_c (S:=S) (w0:=w0) P.hd h.hd P.ports (.string (mB8 P.nm)) (.int .u32 P.df) d.vr d.vq d.vp (.map (some d.mh)) d.eq d.mp d.kp t b pb ct rb _ _ T2 (by omega) h.vq h.kp hT2 d.a d.c l w x h.ts).mono ?_)
 ·have H1 := hput w' (h3m d.mp d.kp :: (d.eq ++ [rdB b (.pointer (some ⟨pb, 0, none⟩)) d.a l.length d.c w (d.o P), x, prB pb ct rb])) (HP.re2 (env:=[[rdB b (.pointer (some ⟨pb, 0, none⟩)) d.a l.length d.c w (d.o P), x, prB pb ct rb], [h3m d.mh d.kh], [h3m d.mp d.kp], d.er, d.ep, d.eq, d.T]) [0, 1, 2, 3, 4, 5, 6] [2, 5, 0, 1, 3, 4, 6] (by decide) (by simp [flatB, RdD.blocks]) (by simp [flatB]) H)
  simp only [List.cons_append, List.nil_append, List.append_assoc] at H1
  exact H1
 ·rintro v L' ⟨a', c', T', kvs', vp', ep', rfl, hts, hT', hM, hO, rfl⟩
  obtain ⟨T3, hT3, hget⟩ := hT'.get (S:=S) (w0:=w0) ([h3m d.mh d.kh] ++ (d.er ++ d.ep))
  refine ⟨_, ⟨rfl, { d with a := a', c := c', T := T3, kp := kvs', vq := vp', eq := ep' }, ⟨hts, h.rs, h.vr, h.kh, h.vp, hM, hO, hT3, h.hd, h.l1, h.l2, ?_⟩, rfl⟩, fun w' H => ?_⟩
  ·show (P.ports ++ [_]).length ≤ 33
   rw [List.length_append]
   exact Nat.succ_le_succ hl
  have H1 := hget w' (h3m d.mp kvs' :: (ep' ++ [_, _, _])) (by simp only [List.cons_append, List.nil_append, List.append_assoc]; exact H)
  refine HP.re2 (env:=[[rdB b (.pointer (some ⟨pb, 0, none⟩)) a' (porF P.hd t P.ports (l, w)).2.1.length c' (porF P.hd t P.ports (l, w)).2.2 ⟨.string (mB8 P.nm), .int .u32 P.df, d.vr, .int .u16 (P.hd : Nat), d.vp, vp', .map (some d.mh), .map (some d.mp)⟩, x, prB pb ct rb], [h3m d.mh d.kh], [h3m d.mp kvs'], d.er, d.ep, ep', T3]) [2, 5, 0, 1, 3, 4, 6] [0, 1, 2, 3, 4, 5, 6] (by decide) ?_ ?_ H1
  ·simp [flatB]
  ·simp [flatB, RdD.blocks]
theorem rule_s {S w0} {b pb ct rb m : Nat} {L0 : List Blk} {x : Blk} {d : RdD} {P : Pol} {s : PS} (h : d.ok ct rb m L0 P s x) (t : Tk) (hl : P.rules.length ≤ 64) (hm : m ≤ 90000) :
  LnR S w0 b pb ct rb m L0 x 81 #[.pointer (some ⟨b, 0, none⟩), .agg t.cells.toArray] d P s { P with rules := (rulF t P.rules s).1 } (rulF t P.rules s).2 := by
 obtain ⟨l, w⟩ := s
 obtain ⟨T2, hT2, hput⟩ := h.T.put (S:=S) (w0:=w0) ([h3m d.mh d.kh, h3m d.mp d.kp] ++ (d.ep ++ d.eq))
 refine Fn.weak (fun w' H => ?_) ((rule_c (S:=S) (w0:=w0) P.rules d.cz (.string (mB8 P.nm)) (.int .u32 P.df) d.vr (.int .u16 (P.hd : Nat)) d.vp d.vq (.map (some d.mh)) (.map (some d.mp)) d.er t b pb ct rb _ _ T2 (by omega) hl h.vr hT2 d.a d.c l w x h.ts).mono ?_)
 ·have H1 := hput w' (d.er ++ [rdB b (.pointer (some ⟨pb, 0, none⟩)) d.a l.length d.c w (d.o P), x, prB pb ct rb]) (HP.re2 (env:=[[rdB b (.pointer (some ⟨pb, 0, none⟩)) d.a l.length d.c w (d.o P), x, prB pb ct rb], [h3m d.mh d.kh], [h3m d.mp d.kp], d.er, d.ep, d.eq, d.T]) [0, 1, 2, 3, 4, 5, 6] [3, 0, 1, 2, 4, 5, 6] (by decide) (by simp [flatB, RdD.blocks]) (by simp [flatB]) H)
  simp only [List.cons_append, List.nil_append, List.append_assoc] at H1
  exact H1
 ·rintro v L' ⟨a', c', T', vr', er', vc, ec, rfl, hts, hT', hC, hO, rfl⟩
  obtain ⟨T1, hT1, hp1⟩ := hT'.re (([h3m d.mh d.kh, h3m d.mp d.kp] ++ (d.ep ++ d.eq)) ++ ((ec ++ d.ec) ++ L0)) (by
   rw [List.append_assoc ec]
   exact List.perm_append_comm_assoc ..)
  obtain ⟨T3, hT3, hget⟩ := hT1.get (S:=S) (w0:=w0) ([h3m d.mh d.kh, h3m d.mp d.kp] ++ (d.ep ++ d.eq))
  have hlr : (rulF t P.rules (l, w)).1.length = P.rules.length + 1 := List.length_append
  refine ⟨_, ⟨rfl, { d with a := a', c := c', T := T3, vr := vr', er := er', ec := ec ++ d.ec, cz := d.cz ++ [.int .u32 (rulN (l, w)), .int .u32 (rul2 (l, w)).1, vc] }, ⟨hts, RulsR.snoc h.rs hC, ?_, h.kh, h.vp, h.kp, h.vq, ?_, h.hd, ?_, h.l2, h.l3⟩, rfl⟩, fun w' H => ?_⟩
  ·show Own _ 3 vr' (rulF t P.rules (l, w)).1.length _ er'
   rw [hlr]; exact hO
  ·show EnS ct rb (m + (rulF t P.rules (l, w)).1.length) _ T3
   rw [hlr, ← Nat.add_assoc]; exact hT3
  ·show (rulF t P.rules (l, w)).1.length ≤ 65
   omega
  have H1 := hget w' (er' ++ [_, _, _]) (by
   simp only [List.cons_append, List.nil_append, List.append_assoc]
   exact H.perm (List.Perm.append_left _ (.cons _ (.cons _ (.cons _ hp1)))))
  refine HP.re2 (env:=[[rdB b (.pointer (some ⟨pb, 0, none⟩)) a' (rulF t P.rules (l, w)).2.1.length c' (rulF t P.rules (l, w)).2.2 ⟨.string (mB8 P.nm), .int .u32 P.df, vr', .int .u16 (P.hd : Nat), d.vp, d.vq, .map (some d.mh), .map (some d.mp)⟩, x, prB pb ct rb], [h3m d.mh d.kh], [h3m d.mp d.kp], er', d.ep, d.eq, T3]) [3, 0, 1, 2, 4, 5, 6] [0, 1, 2, 3, 4, 5, 6] (by decide) ?_ ?_ H1
  ·simp [flatB]
  ·simp [flatB, RdD.blocks]
end Go.Proofs.YtecbgehooembmaaGreatDoor
