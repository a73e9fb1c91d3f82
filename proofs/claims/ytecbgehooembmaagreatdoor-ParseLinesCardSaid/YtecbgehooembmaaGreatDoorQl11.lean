/- The law ParseLines returns true at every input and leaves its arguments as they were. No condition. -/
import Derived.Test.YtecbgehooembmaaGreatDoorQl10
set_option maxRecDepth 100000
namespace Go.Proofs.YtecbgehooembmaaGreatDoor
open Go Go.RowKit
theorem wr_nsame (a b c : Int) : RBin Tryz.prog .neq 25 (.agg #[.int .i64 a, .int .i64 b, .int .i64 c]) (.agg #[.int .i64 a, .int .i64 b, .int .i64 c]) (.bool false) := by
 apply RBin.mk
 intro w
 go_simp
def pln (s : SPol) : SPol := { s with hd := 16390, paths := [], ports := [] }
theorem pln_ok {s : SPol} (h : s.ok) : (pln s).ok := ⟨h.nm, h.df, h.en, h.rules, by show 16390 < 65536; omega, (fun x hx => by cases hx), h.rights, (fun x hx => by cases hx)⟩
theorem pln_s {L : List Blk} {s : SPol} {vr vp vg vq : Value} (h : SPolS L s vr vp vg vq) : SPolS L (pln s) vr (.slice none 0 0) vg (.slice none 0 0) := ⟨h.rs, ⟨none, 0, rfl, Sli.nil _ _⟩, h.gs, ⟨none, 0, rfl, Sli.nil _ _⟩, h.l1, Nat.zero_le _, h.l3, Nat.zero_le _⟩
theorem pln_p {P : Pol} {s : SPol} (h : P.hd = (pln s).hd &&& 51199 ∧ P.rules.length ≤ 12 ∧ P.paths.length ≤ (pln s).paths.length ∧ P.ports.length ≤ (pln s).ports.length) : P.hd = 16390 ∧ P.paths = [] ∧ P.ports = [] := by
 obtain ⟨h1, -, h2, h3⟩ := h
 exact ⟨h1.trans (show 16390 &&& 51199 = 16390 by decide), List.eq_nil_of_length_eq_zero (Nat.le_zero.1 h2), List.eq_nil_of_length_eq_zero (Nat.le_zero.1 h3)⟩
theorem cnt_take {l : List UInt8} {p : Nat} (h : p < l.length) : (l.take (p + 1)).count 10 = (l.take p).count 10 + if l[p] = 10 then 1 else 0 := by
 rw [List.take_succ_eq_append_getElem h, List.count_append, List.count_singleton]
 simp
theorem cnt_le (l : List UInt8) (p : Nat) : (l.take p).count 10 ≤ p := Nat.le_trans List.count_le_length (by rw [List.length_take]; omega)
set_option maxHeartbeats 4000000 in
theorem parseLines_c {S w0 L} (s : SPol) (hs : s.ok) (svr svp svg svq : Value) (hS : SPolS L s svr svp svg svq) (k : Int) (hk : 0 ≤ k ∧ k < 256) :
  Fn Tryz.prog 4 #[.agg #[.int .u8 s.nm, .int .u8 s.df, .int .u8 s.en, svr, .int .u16 (s.hd : Nat), svp, svg, svq], .int .u8 k] S w0 L fun v L' => v = .bool true ∧ L = L' := by
 have hS' := pln_s hS
 obtain ⟨⟨sa, sc, sz, rfl, -, -⟩, ⟨ta, tc, rfl, -⟩, ⟨ua, uc, rfl, -⟩, ⟨xa, xc, rfl, -⟩, -, -, -, -⟩ := id hS
 refine Fn2 Tryz.func4 Tryz.ntmps4 rfl rfl ?_
 repeat' (first | (refine h2n (id:=5) ?_) | refine h0n ?_ | refine h0b ?_ | refine h0r ?_ | refine h0e rfl ?_ | (refine gR 0 ?_ <;> (try refine h0c ?_; (refine h4t (t:=48) rfl rfl ?_; intro nb hnb; (try simp only [Value.cells]))) <;> (try refine p_a (h:=h0a ?_))) | (refine gR 1 ?_ <;> (try refine h0c ?_; (refine q_c 8 (c:=by apply awake10_c) (h:=?_); rintro _ _ ⟨rfl, rfl⟩; (try simp only [zzE, zzF]))) <;> (try refine p_e (by apply E_un; exact rfl; exact h3j) (h:=h0a ?_))) | (refine gR 3 (q_e (q_f fo_48_4) ?_) <;> (try refine h0c ?_; (refine q_S ?_)) <;> (try refine h0a ?_)) | (refine gR 4 (q_e (q_f fo_48_5) ?_) <;> (try refine h0c ?_; (refine q_S ?_)) <;> (try refine q_e (q_f fo_48_7) ?_) <;> (try refine h0c ?_; (refine q_S ?_)) <;> (try refine h0a ?_)))
 refine ⟨?_⟩
 obtain ⟨n2, rfl⟩ : ∃ x, x = nb := ⟨_, rfl⟩
 have hsp := fun (L' : List Blk) hX => smpol_m (S:=S) (w0:=w0) (L:=L') (X:=L) (pln s) (pln_ok hs) _ _ _ _ hS' hX
 dsimp only [pln] at hsp
 simp only [show ((16390 : Nat) : Int) = 16390 from rfl] at hsp
 have hxt := fun (P : Pol) (pb ct rb n : Nat) (L0 M L B E : List Blk) (r1 p1 q1 : Option Addr) (r3 p3 q3 : Nat) (h1 : PolOk P) (h2 : PolRn P) => text_t (S:=S) (w0:=w0) (pb:=pb) (ct:=ct) (rb:=rb) (n:=n) (L0:=L0) (M:=M) (L:=L) (B:=B) (E:=E) P h1 h2 (r1:=r1) (p1:=p1) (q1:=q1) (r3:=r3) (p3:=p3) (q3:=q3)
 have hcl := fun (pb ct rb n : Nat) (L0 M L B : List Blk) => calls_t (S:=S) (w0:=w0) (pb:=pb) (ct:=ct) (rb:=rb) (n:=n) (L0:=L0) (M:=M) (L:=L) (B:=B)
 repeat' (first | (refine h2n (id:=6) ?_) | refine h0n ?_ | refine h0b ?_ | (refine gR 5 ?_ <;> (try refine h0c ?_; (refine q_c 9 (c:=by apply new_q) (h:=?_); rintro _ _ ⟨pb, ct, rb, rfl, rfl⟩; (try simp only [zzE, zzF]))) <;> (try refine p_a (h:=h0a ?_))))
 refine ⟨?_⟩
 have hM : PrE pb ct rb 0 (⟨true, n2, .cells #[.int .u8 s.nm, .int .u8 s.df, .int .u8 s.en, .slice sa s.rules.length sc, .int .u16 16390, .slice none 0 0, .slice ua s.rights.length uc, .slice none 0 0] 48 (0, 0)⟩ :: L) (prB pb ct rb :: tbl0 ct 0 0 :: Rg.wrd0 rb :: ⟨true, n2, .cells #[.int .u8 s.nm, .int .u8 s.df, .int .u8 s.en, .slice sa s.rules.length sc, .int .u16 16390, .slice none 0 0, .slice ua s.rights.length uc, .slice none 0 0] 48 (0, 0)⟩ :: L) := ⟨0, 0, none, rfl⟩
 repeat' (first | (refine h2v (id:=0) ?_) | refine h0n ?_ | refine h0b ?_ | (refine gR 6 (q_e (q_L sz_48) ?_) <;> (try refine h0c ?_; (refine q_c 12 (c:=by apply hsp; (focus ((try simp only [zzC, zzN, List.append_assoc]); (repeat' (first | (with_reducible exact SubB.refl _) | (with_reducible apply SubB.up)))))) (h:=?_); rintro _ _ ⟨P, r1, p1, q1, r3, p3, q3, E, rfl, hok, hrn, hPS, hi2, rfl⟩; (try simp only [zzE, zzF]))) <;> (try refine q_m ?_) <;> (try refine h0c ?_; (refine q_c 11 (c:=by apply hcl; (with_reducible assumption); (focus ((try simp only [zzC, zzN]); (repeat' (with_reducible exact Tl.one _ _))))) (h:=?_); rintro _ _ ⟨rfl, rfl⟩; (try simp only [zzE, zzF]))) <;> (try refine h0c ?_; (refine q_c 13 (c:=by apply hxt; (with_reducible assumption); (with_reducible assumption); (with_reducible assumption); (with_reducible assumption); (focus (omega)); (focus ((try simp only [zzC, zzN]); (repeat' (with_reducible exact Tl.nil _))))) (h:=?_); rintro _ _ ⟨M2, rfl, hM2, rfl⟩; (try simp only [zzE, zzF]))) <;> (try refine p_a (h:=h0a ?_))) | (refine gR 7 (p_a (h:=h0a ?_))) | (refine gR 8 (q_m ?_) <;> (try refine h0c ?_; (refine K1_rangeStr rfl rfl Tryz.underlying9 ?_; intro nb hnb)) <;> (try refine h0a ?_)))
 refine ⟨?_⟩
 obtain ⟨nbI, rfl⟩ : ∃ x, x = nb := ⟨_, rfl⟩
 obtain ⟨L0, hL0⟩ : ∃ M : List Blk, M = (⟨true, n2, .cells #[.int .u8 s.nm, .int .u8 s.df, .int .u8 s.en, .slice sa s.rules.length sc, .int .u16 16390, .slice none 0 0, .slice ua s.rights.length uc, .slice none 0 0] 48 (0, 0)⟩ :: L) := ⟨_, rfl⟩
 rw [← hL0] at hM2
 have hLL : L.Sublist L0 := hL0 ▸ List.sublist_cons_self _ _
 obtain ⟨e1, e2, e3⟩ := pln_p (s:=s) hi2
 have hlr := hok.l1
 have hb := (polL_ok P hok hrn).2
 have hby := polT_byte P hok hrn
 have hcn : (polT P).count 10 = (polL P).length := lns_count (polL P) (polL_ok P hok hrn).1
 have hq2 := t2B_pol P hok hrn e1 e2 e3
 have hq3 := t3B_pol P hok hrn e1 e2 e3
 have hq1 := fun (b : List UInt8) (c e : Nat) (h : BadL b c e) => h.pol P hok hrn e1 e2 e3
 have hz : (mB8 (polT P)).size = (polT P).length := h2g _
 have hcm := cnt_le (polT P) (polT P).length
 rw [List.take_length, hcn] at hcm
 clear hsp hxt hM hL0 hi2 hPS hS' hS e1 e2 e3 hcl
 generalize hn0 : 0 + P.rules.length = n0 at hM2
 generalize (polL P).length = m at *
 generalize polT P = bs at *
 have hn1 : n0 ≤ 64 := by omega
 clear hn0 hlr hok hrn
 refine h0o ?_
 refine h2w (γ:=Nat) (fun p => p ≤ bs.length) (fun p => bs.length - p) (fun p => [(7, .int .i64 ((1 + (bs.take p).count 10 : Nat) : Int))]) [(1, _), (5, _), (6, _), (30, _)]
  (fun p => iterB nbI (mB8 bs) p :: (E ++ M2)) 0 (.cons rfl (.cons rfl (.cons rfl (.cons rfl .nil)))) (Nat.zero_le _) (by (focus (repeat (first | exact Sub.nil | refine Sub.cons rfl ?_)))) (fun _ H => H) ?_
 intro p hp
 (try dsimp only)
 by_cases hlp : p < bs.length
 ·have hlt8 : p < (mB8 bs).size := by omega
  have hc8 := hby _ (List.getElem_mem hlp)
  have hd := decode_ascii (mB8 bs) p hlt8 (by rw [mB8_get hlt8 hlp]; exact hc8)
  rw [mB8_get hlt8 hlp] at hd
  have hct := cnt_take hlp
  have hcl := cnt_le bs p
  generalize bs[p] = c at *
  have hd1 : ((Utf8.decode (mB8 bs) p).1 : Int) = c.toNat := by rw [hd]
  have hd2 : (Utf8.decode (mB8 bs) p).2 = 1 := by rw [hd]
  clear hd hq1 hq2 hq3
  repeat' (first | (refine h2n (id:=11) ?_) | refine h0n ?_ | refine h0b ?_ | refine h0o ?_ | refine h0r ?_ | refine h0h rfl ?_ | (refine gR 9 ?_ <;> (try refine h0c ?_; (apply K1_nextStr; exact rfl; exact rfl; exact fd0; omega; (try simp only [List.set_cons_succ]); (try simp only [List.set_cons_zero]))) <;> (try refine p_x (h:=h0a ?_))) | (refine gR 10 (p_x (h:=p_a (h:=h0a ?_)))))
  refine ⟨?_⟩
  rw [hd1, hd2]
  clear hd1 hd2
  by_cases c10 : c = 10
  ·have c1 : ((c.toNat : Nat) : Int) = 10 := by rw [c10]; rfl
   rw [if_pos c10] at hct
   repeat' (first | refine h0b ?_ | refine h0s ?_ | refine h1b ?_ | refine h0h rfl ?_ | (refine gR 11 (q_m ?_) <;> (try refine q_e (by exact q_b (r:=by refine h1f ?_; first | rfl | (with_reducible assumption) | (decide; done) | omega)) ?_) <;> (try refine h0a ?_)) | (refine gR 12 (q_m ?_) <;> (try refine q_e (q_b (r:=by apply h1q; exact c_5; (focus (refine IntWalk.i64_in _ ?_; omega)))) ?_) <;> (try refine p_a (h:=h0a ?_))))
   exact h0z (p + 1) ⟨by show p + 1 ≤ bs.length; omega, by show bs.length - (p + 1) < bs.length - p; omega⟩ (by (focus (repeat (first | exact Sub.nil | refine Sub.cons rfl ?_ | (refine Sub.cons (congrArg some ?_) ?_; (focus go_num)))))) c_27
  ·have n10 : ¬ ((c.toNat : Nat) : Int) = 10 := fun h => c10 (UInt8.toNat_inj.1 (by show c.toNat = 10; omega))
   rw [if_neg c10, Nat.add_zero] at hct
   repeat' (first | refine h0b ?_ | refine h0s ?_ | refine h1b ?_ | refine h0r ?_ | refine h0e rfl ?_ | (refine gR 11 (p_m (h:=p_e (q_b (r:=by exact h1g q_o)) (h:=h0a ?_)))))
   exact h0z (p + 1) ⟨by show p + 1 ≤ bs.length; omega, by show bs.length - (p + 1) < bs.length - p; omega⟩ (by (focus (repeat (first | exact Sub.nil | refine Sub.cons rfl ?_ | (refine Sub.cons (congrArg some ?_) ?_; (focus go_num)))))) c_27
 obtain rfl : p = bs.length := by omega
 rw [List.take_length, hcn]
 clear hby hcn hp hlp
 obtain ⟨csB, hcs⟩ : ∃ c : Array Value, c = BlC.toArray := ⟨_, rfl⟩
 repeat' (first | (refine h2n (id:=13) ?_) | refine h0n ?_ | refine h0b ?_ | refine h1u ?_ | refine h1k ?_ | refine h1v ?_ | refine h2l ?_ | refine h0e rfl ?_ | (refine gR 9 ?_ <;> (try refine h0c ?_; (apply K1_nextOver; exact rfl; exact rfl; exact fd0; omega)) <;> (try refine p_x (h:=h0a ?_))))
 refine ⟨?_⟩
 refine h3g (γ:=Nat) (fun _ => True) (fun g => [(10, .slice (some ⟨g, 0, none⟩) 32 32)]) [(1, _), (5, _), (6, _), (7, _)]
  (fun g => ⟨true, g, .cells csB 52 (0, 0)⟩ :: (E ++ M2)) (.cons rfl (.cons rfl (.cons rfl (.cons rfl .nil)))) ?_ ?_
 ·clear hq1 hq2 hq3
  repeat' (first | refine h0s ?_ | (refine gR 13 ?_ <;> (try refine q_e (by exact h0i (t:=52) (fun vs => (match vs with | [(_, x0), (_, x1), (_, x2)] => [x0, x1, x2] | _ => [])) rfl (fun w => by kernel_rfl)) ?_; (try simp only [Value.cells]); (try simp only [zzC, zzN])) <;> (try refine q_e (by exact h0i (t:=52) (fun vs => (match vs with | [(_, x0), (_, x1), (_, x2)] => [x0, x1, x2] | _ => [])) rfl (fun w => by kernel_rfl)) ?_; (try simp only [Value.cells]); (try simp only [zzC, zzN])) <;> (try refine q_e (by exact h0i (t:=52) (fun vs => (match vs with | [(_, x0), (_, x1), (_, x2)] => [x0, x1, x2] | _ => [])) rfl (fun w => by kernel_rfl)) ?_; (try simp only [Value.cells]); (try simp only [zzC, zzN])) <;> (try refine q_e (by exact h0i (t:=52) (fun vs => (match vs with | [(_, x0), (_, x1), (_, x2)] => [x0, x1, x2] | _ => [])) rfl (fun w => by kernel_rfl)) ?_; (try simp only [Value.cells]); (try simp only [zzC, zzN])) <;> (try refine q_e (by exact h0i (t:=52) (fun vs => (match vs with | [(_, x0), (_, x1), (_, x2)] => [x0, x1, x2] | _ => [])) rfl (fun w => by kernel_rfl)) ?_; (try simp only [Value.cells]); (try simp only [zzC, zzN])) <;> (try refine q_e (by exact h0i (t:=52) (fun vs => (match vs with | [(_, x0), (_, x1), (_, x2)] => [x0, x1, x2] | _ => [])) rfl (fun w => by kernel_rfl)) ?_; (try simp only [Value.cells]); (try simp only [zzC, zzN])) <;> (try refine q_e (by exact h0i (t:=52) (fun vs => (match vs with | [(_, x0), (_, x1), (_, x2)] => [x0, x1, x2] | _ => [])) rfl (fun w => by kernel_rfl)) ?_; (try simp only [Value.cells]); (try simp only [zzC, zzN])) <;> (try refine q_e (by exact h0i (t:=52) (fun vs => (match vs with | [(_, x0), (_, x1), (_, x2)] => [x0, x1, x2] | _ => [])) rfl (fun w => by kernel_rfl)) ?_; (try simp only [Value.cells]); (try simp only [zzC, zzN])) <;> (try refine q_e (by exact h0i (t:=52) (fun vs => (match vs with | [(_, x0), (_, x1), (_, x2)] => [x0, x1, x2] | _ => [])) rfl (fun w => by kernel_rfl)) ?_; (try simp only [Value.cells]); (try simp only [zzC, zzN])) <;> (try refine q_e (by exact h0i (t:=52) (fun vs => (match vs with | [(_, x0), (_, x1), (_, x2)] => [x0, x1, x2] | _ => [])) rfl (fun w => by kernel_rfl)) ?_; (try simp only [Value.cells]); (try simp only [zzC, zzN])) <;> (try refine q_e (by exact h0i (t:=52) (fun vs => (match vs with | [(_, x0), (_, x1), (_, x2)] => [x0, x1, x2] | _ => [])) rfl (fun w => by kernel_rfl)) ?_; (try simp only [Value.cells]); (try simp only [zzC, zzN])) <;> (try refine q_e (by exact h0i (t:=52) (fun vs => (match vs with | [(_, x0), (_, x1), (_, x2)] => [x0, x1, x2] | _ => [])) rfl (fun w => by kernel_rfl)) ?_; (try simp only [Value.cells]); (try simp only [zzC, zzN])) <;> (try refine q_e (by exact h0i (t:=52) (fun vs => (match vs with | [(_, x0), (_, x1), (_, x2)] => [x0, x1, x2] | _ => [])) rfl (fun w => by kernel_rfl)) ?_; (try simp only [Value.cells]); (try simp only [zzC, zzN])) <;> (try refine q_e (by exact h0i (t:=52) (fun vs => (match vs with | [(_, x0), (_, x1), (_, x2)] => [x0, x1, x2] | _ => [])) rfl (fun w => by kernel_rfl)) ?_; (try simp only [Value.cells]); (try simp only [zzC, zzN])) <;> (try refine q_e (by exact h0i (t:=52) (fun vs => (match vs with | [(_, x0), (_, x1), (_, x2)] => [x0, x1, x2] | _ => [])) rfl (fun w => by kernel_rfl)) ?_; (try simp only [Value.cells]); (try simp only [zzC, zzN])) <;> (try refine q_e (by exact h0i (t:=52) (fun vs => (match vs with | [(_, x0), (_, x1), (_, x2)] => [x0, x1, x2] | _ => [])) rfl (fun w => by kernel_rfl)) ?_; (try simp only [Value.cells]); (try simp only [zzC, zzN])) <;> (try refine q_e (by exact h0i (t:=52) (fun vs => (match vs with | [(_, x0), (_, x1), (_, x2)] => [x0, x1, x2] | _ => [])) rfl (fun w => by kernel_rfl)) ?_; (try simp only [Value.cells]); (try simp only [zzC, zzN])) <;> (try refine q_e (by exact h0i (t:=52) (fun vs => (match vs with | [(_, x0), (_, x1), (_, x2)] => [x0, x1, x2] | _ => [])) rfl (fun w => by kernel_rfl)) ?_; (try simp only [Value.cells]); (try simp only [zzC, zzN])) <;> (try refine q_e (by exact h0i (t:=52) (fun vs => (match vs with | [(_, x0), (_, x1), (_, x2)] => [x0, x1, x2] | _ => [])) rfl (fun w => by kernel_rfl)) ?_; (try simp only [Value.cells]); (try simp only [zzC, zzN])) <;> (try refine q_e (by exact h0i (t:=52) (fun vs => (match vs with | [(_, x0), (_, x1), (_, x2)] => [x0, x1, x2] | _ => [])) rfl (fun w => by kernel_rfl)) ?_; (try simp only [Value.cells]); (try simp only [zzC, zzN])) <;> (try refine q_e (by exact h0i (t:=52) (fun vs => (match vs with | [(_, x0), (_, x1), (_, x2)] => [x0, x1, x2] | _ => [])) rfl (fun w => by kernel_rfl)) ?_; (try simp only [Value.cells]); (try simp only [zzC, zzN])) <;> (try refine q_e (by exact h0i (t:=52) (fun vs => (match vs with | [(_, x0), (_, x1), (_, x2)] => [x0, x1, x2] | _ => [])) rfl (fun w => by kernel_rfl)) ?_; (try simp only [Value.cells]); (try simp only [zzC, zzN])) <;> (try refine q_e (by exact h0i (t:=52) (fun vs => (match vs with | [(_, x0), (_, x1), (_, x2)] => [x0, x1, x2] | _ => [])) rfl (fun w => by kernel_rfl)) ?_; (try simp only [Value.cells]); (try simp only [zzC, zzN])) <;> (try refine q_e (by exact h0i (t:=52) (fun vs => (match vs with | [(_, x0), (_, x1), (_, x2)] => [x0, x1, x2] | _ => [])) rfl (fun w => by kernel_rfl)) ?_; (try simp only [Value.cells]); (try simp only [zzC, zzN])) <;> (try refine q_e (by exact h0i (t:=52) (fun vs => (match vs with | [(_, x0), (_, x1), (_, x2)] => [x0, x1, x2] | _ => [])) rfl (fun w => by kernel_rfl)) ?_; (try simp only [Value.cells]); (try simp only [zzC, zzN])) <;> (try refine q_e (by exact h0i (t:=52) (fun vs => (match vs with | [(_, x0), (_, x1), (_, x2)] => [x0, x1, x2] | _ => [])) rfl (fun w => by kernel_rfl)) ?_; (try simp only [Value.cells]); (try simp only [zzC, zzN])) <;> (try refine q_e (by exact h0i (t:=52) (fun vs => (match vs with | [(_, x0), (_, x1), (_, x2)] => [x0, x1, x2] | _ => [])) rfl (fun w => by kernel_rfl)) ?_; (try simp only [Value.cells]); (try simp only [zzC, zzN])) <;> (try refine q_e (by exact h0i (t:=52) (fun vs => (match vs with | [(_, x0), (_, x1), (_, x2)] => [x0, x1, x2] | _ => [])) rfl (fun w => by kernel_rfl)) ?_; (try simp only [Value.cells]); (try simp only [zzC, zzN])) <;> (try refine q_e (by exact h0i (t:=52) (fun vs => (match vs with | [(_, x0), (_, x1), (_, x2)] => [x0, x1, x2] | _ => [])) rfl (fun w => by kernel_rfl)) ?_; (try simp only [Value.cells]); (try simp only [zzC, zzN])) <;> (try refine q_e (by exact h0i (t:=52) (fun vs => (match vs with | [(_, x0), (_, x1), (_, x2)] => [x0, x1, x2] | _ => [])) rfl (fun w => by kernel_rfl)) ?_; (try simp only [Value.cells]); (try simp only [zzC, zzN])) <;> (try refine q_e (by exact h0i (t:=52) (fun vs => (match vs with | [(_, x0), (_, x1), (_, x2)] => [x0, x1, x2] | _ => [])) rfl (fun w => by kernel_rfl)) ?_; (try simp only [Value.cells]); (try simp only [zzC, zzN])) <;> (try refine q_e (by exact h0i (t:=52) (fun vs => (match vs with | [(_, x0), (_, x1), (_, x2)] => [x0, x1, x2] | _ => [])) rfl (fun w => by kernel_rfl)) ?_; (try simp only [Value.cells]); (try simp only [zzC, zzN])) <;> (try refine h0c ?_; (refine h0l (t:=53) (m:=32) (e:=52) (fun vs => (match vs with | ((_, x0) :: (_, x1) :: (_, x2) :: (_, x3) :: (_, x4) :: (_, x5) :: (_, x6) :: (_, x7) :: (_, x8) :: (_, x9) :: (_, x10) :: (_, x11) :: (_, x12) :: (_, x13) :: (_, x14) :: (_, x15) :: (_, x16) :: (_, x17) :: (_, x18) :: (_, x19) :: (_, x20) :: (_, x21) :: (_, x22) :: (_, x23) :: (_, x24) :: (_, x25) :: (_, x26) :: (_, x27) :: (_, x28) :: (_, x29) :: (_, x30) :: (_, x31) :: []) => x0.cells.toList ++ (x1.cells.toList ++ (x2.cells.toList ++ (x3.cells.toList ++ (x4.cells.toList ++ (x5.cells.toList ++ (x6.cells.toList ++ (x7.cells.toList ++ (x8.cells.toList ++ (x9.cells.toList ++ (x10.cells.toList ++ (x11.cells.toList ++ (x12.cells.toList ++ (x13.cells.toList ++ (x14.cells.toList ++ (x15.cells.toList ++ (x16.cells.toList ++ (x17.cells.toList ++ (x18.cells.toList ++ (x19.cells.toList ++ (x20.cells.toList ++ (x21.cells.toList ++ (x22.cells.toList ++ (x23.cells.toList ++ (x24.cells.toList ++ (x25.cells.toList ++ (x26.cells.toList ++ (x27.cells.toList ++ (x28.cells.toList ++ (x29.cells.toList ++ (x30.cells.toList ++ x31.cells.toList)))))))))))))))))))))))))))))) | _ => [])) rfl rfl (fun w => by kernel_rfl) ?_; intro nb hnb; (try simp only [Value.cells]); (try simp only [zzC, zzN]))) <;> (try refine p_a (h:=h0a ?_))))
  refine h0z _ trivial (by (focus (repeat (first | exact Sub.nil | refine Sub.cons rfl ?_)))) ?_
  rw [hcs]
  intro w H
  exact H.sub ((List.sublist_cons_self _ _).cons_cons _)
 obtain ⟨t, c, e, hat, hts, hbl⟩ := bl_all (k % 32).toNat (by omega)
 have hb1 := hq1 _ _ _ hbl
 have hzB : csB.size = 96 := by rw [hcs]; rfl
 have hat2 : (csB.toList.drop ((k % 32).toNat * 3)).take 3 = [.string t, .int .i64 (c : Nat), .int .i64 (e : Nat)] := by rw [hcs]; exact hat
 clear hq1 hbl hat hcs
 rintro nbB -
 (try dsimp only)
 repeat' (first | (refine h2n (id:=15) ?_) | refine h0n ?_ | refine h0b ?_ | (refine gR 14 (p_m (h:=q_m ?_)) <;> (try refine q_e (by apply h4g; exact rfl; (focus (apply h4d Tryz.underlying5 Tryz.underlying3; first | (refine IntWalk.i64_in _ ?_; omega) | (refine IntWalk.u8_in _ ?_; omega) | (refine IntWalk.u16_in _ ?_; omega) | (refine IntWalk.u32_in _ ?_; omega) | (refine IntWalk.u64_in _ ?_; omega) | (refine IntWalk.i32_in _ ?_; omega) | exact rfl))) ?_) <;> (try refine p_m (h:=p_e (by apply h0d; exact rfl; exact (fun _ => BigFrame.builtin_len ..); apply h0j Tryz.underlying53; exact h5a) (h:=p_e (q_b (r:=by apply rb_rem; omega; omega; exact c_5)) (h:=p_e (by apply h0q; exact rfl; exact rfl; (focus (apply h2y Tryz.underlying53 sz_52; omega; omega; exact c_1))) (h:=q_e (by apply h3m (t:=52); exact rfl; exact fd0; kernel_rfl; kernel_rfl; exact sz_52; (focus (omega)); (with_reducible assumption)) ?_))))) <;> (try refine h0c ?_; (refine h0k (t:=52) rfl Tryz.zeroValue52 ?_; intro nb hnb; (try simp only [Value.cells]))) <;> (try refine h0c ?_; (refine q_W ?_)) <;> (try refine h0a ?_)))
 refine ⟨?_⟩
 obtain ⟨nbL, rfl⟩ : ∃ x, x = nb := ⟨_, rfl⟩
 clear hzB hat2 hk hs
 have d1 : (⟨#[10, 99, 97, 108, 108, 32, 114, 101, 97, 100, 32, 97, 108, 108, 111, 119, 10]⟩ : ByteArray).size = 17 := rfl
 have d2 : (⟨#[98, 101, 110, 101, 97, 116, 104, 32, 47, 97, 32, 114, 101, 97, 100, 10, 112, 111, 114, 116, 32, 56, 48, 32, 98, 105, 110, 100, 10, 98, 101, 110, 101, 97, 116, 104, 32, 47, 97, 32, 119, 114, 105, 116, 101, 10]⟩ : ByteArray).size = 46 := rfl
 have d3 : (⟨#[112, 111, 114, 116, 32, 56, 48, 32, 98, 105, 110, 100, 10, 112, 111, 114, 116, 32, 56, 48, 32, 98, 105, 110, 100, 10]⟩ : ByteArray).size = 26 := rfl
 have emp : mB8 ([] : List UInt8) = ⟨#[]⟩ := rfl
 have z0 : ((0 : Nat) : Int) = 0 := rfl
 obtain ⟨ln, hln⟩ : ∃ x, x = 1 + m := ⟨_, rfl⟩
 have hp1 : polF (lB (mB8 bs ++ t ++ ⟨#[10, 99, 97, 108, 108, 32, 114, 101, 97, 100, 32, 97, 108, 108, 111, 119, 10]⟩)) = (zPol, (ln, c, e)) := by
  rw [show (mB8 bs ++ t ++ ⟨#[10, 99, 97, 108, 108, 32, 114, 101, 97, 100, 32, 97, 108, 108, 111, 119, 10]⟩ : ByteArray) = mB8 (bs ++ (lB t ++ tlB)) from by rw [← List.append_assoc, ← h5f, ← h5f, mB8_lB]; rfl, h3n, hb1, hln, Nat.add_comm]
 have hp2 : polF (lB (mB8 bs ++ ⟨#[98, 101, 110, 101, 97, 116, 104, 32, 47, 97, 32, 114, 101, 97, 100, 10, 112, 111, 114, 116, 32, 56, 48, 32, 98, 105, 110, 100, 10, 98, 101, 110, 101, 97, 116, 104, 32, 47, 97, 32, 119, 114, 105, 116, 101, 10]⟩)) = (zPol, (ln + 2, 9, 206)) := by
  rw [show (mB8 bs ++ ⟨#[98, 101, 110, 101, 97, 116, 104, 32, 47, 97, 32, 114, 101, 97, 100, 10, 112, 111, 114, 116, 32, 56, 48, 32, 98, 105, 110, 100, 10, 98, 101, 110, 101, 97, 116, 104, 32, 47, 97, 32, 119, 114, 105, 116, 101, 10]⟩ : ByteArray) = mB8 (bs ++ t2B) from by rw [← h5f]; rfl, h3n, hq2, hln, show m + 3 = 1 + m + 2 by omega]
 have hp3 : polF (lB (mB8 bs ++ ⟨#[112, 111, 114, 116, 32, 56, 48, 32, 98, 105, 110, 100, 10, 112, 111, 114, 116, 32, 56, 48, 32, 98, 105, 110, 100, 10]⟩)) = (zPol, (ln + 1, 6, 206)) := by
  rw [show (mB8 bs ++ ⟨#[112, 111, 114, 116, 32, 56, 48, 32, 98, 105, 110, 100, 10, 112, 111, 114, 116, 32, 56, 48, 32, 98, 105, 110, 100, 10]⟩ : ByteArray) = mB8 (bs ++ t3B) from by rw [← h5f]; rfl, h3n, hq3, hln, show m + 2 = 1 + m + 1 by omega]
 clear hb1 hq2 hq3
 have hpa := fun (n : Nat) (M L B : List Blk) => parse_t (S:=S) (w0:=w0) (pb:=pb) (ct:=ct) (rb:=rb) (n:=n) (L0:=L0) (M:=M) (L:=L) (B:=B) (mB8 bs ++ t ++ ⟨#[10, 99, 97, 108, 108, 32, 114, 101, 97, 100, 32, 97, 108, 108, 111, 119, 10]⟩) (by rw [ByteArray.size_append, ByteArray.size_append]; omega) zPol ln c e hp1 (fun r h => by cases h)
 have hpb := fun (n : Nat) (M L B : List Blk) => parse_t (S:=S) (w0:=w0) (pb:=pb) (ct:=ct) (rb:=rb) (n:=n) (L0:=L0) (M:=M) (L:=L) (B:=B) (mB8 bs ++ ⟨#[98, 101, 110, 101, 97, 116, 104, 32, 47, 97, 32, 114, 101, 97, 100, 10, 112, 111, 114, 116, 32, 56, 48, 32, 98, 105, 110, 100, 10, 98, 101, 110, 101, 97, 116, 104, 32, 47, 97, 32, 119, 114, 105, 116, 101, 10]⟩) (by rw [ByteArray.size_append]; omega) zPol (ln + 2) 9 206 hp2 (fun r h => by cases h)
 have hpc := fun (n : Nat) (M L B : List Blk) => parse_t (S:=S) (w0:=w0) (pb:=pb) (ct:=ct) (rb:=rb) (n:=n) (L0:=L0) (M:=M) (L:=L) (B:=B) (mB8 bs ++ ⟨#[112, 111, 114, 116, 32, 56, 48, 32, 98, 105, 110, 100, 10, 112, 111, 114, 116, 32, 56, 48, 32, 98, 105, 110, 100, 10]⟩) (by rw [ByteArray.size_append]; omega) zPol (ln + 1) 6 206 hp3 (fun r h => by cases h)
 dsimp only [zPol, Pol.g] at hpa hpb hpc
 simp only [emp, z0, List.length_nil, show ((ln + 2 : Nat) : Int) = (ln : Int) + 2 by omega, show ((ln + 1 : Nat) : Int) = (ln : Int) + 1 by omega, show ((9 : Nat) : Int) = 9 from rfl, show ((6 : Nat) : Int) = 6 from rfl, show ((206 : Nat) : Int) = 206 from rfl] at hpa hpb hpc
 clear hp1 hp2 hp3 emp z0
 have hzz := fun (L : List Blk) (r1 p1 q1 : Option Addr) (r3 p3 q3 : Nat) => psame_z (S:=S) (w0:=w0) (L:=L) r1 p1 q1 r3 p3 q3
 have hr1 := wr_nsame (ln : Int) (c : Int) (e : Int)
 have hr2 := wr_same ((ln : Int) + 2) 9 206
 have hr3 := wr_same ((ln : Int) + 1) 6 206
 rw [← hln]
 have hl5 : ln ≤ 55001 := by omega
 clear hln hcm
 have d4 : (mB8 bs).size + (⟨#[98, 101, 110, 101, 97, 116, 104, 32, 47, 97, 32, 114, 101, 97, 100, 10, 112, 111, 114, 116, 32, 56, 48, 32, 98, 105, 110, 100, 10, 98, 101, 110, 101, 97, 116, 104, 32, 47, 97, 32, 119, 114, 105, 116, 101, 10]⟩ : ByteArray).size ≤ maxLen := by rw [d2, hz]; unfold maxLen; omega
 generalize mB8 bs = bt at *
 repeat' (first | (refine h2n (id:=16) ?_) | refine h0n ?_ | refine h0b ?_ | (refine gR 15 (p_m (h:=p_m (h:=p_e (q_f fo_52_0) (h:=p_e q_l (h:=p_e (q_b (r:=by apply h1j; exact rfl; (focus (omega)))) (h:=q_e (q_b (r:=by apply h1j; exact rfl; (focus (simp only [ByteArray.size_append]; omega)))) ?_)))))) <;> (try refine h0c ?_; ((refine q_c 10 (c:=by apply hpa; (with_reducible assumption); (focus (omega)); (focus ((try simp only [zzC, zzN]); (repeat' (first | (with_reducible exact Tl.one _ _) | (with_reducible apply Tl.cons)))))) (h:=?_); rintro _ _ ⟨r5, p5, q5, r6, p6, q6, E3, n6, M6, rfl, hS3, hn6, hM6, rfl⟩; (try simp only [zzE, zzF])); (try simp only [zzC, zzN]))) <;> (try refine p_m (h:=p_x (h:=q_x ?_))) <;> (try refine h0c ?_; (refine h0k (t:=36) rfl Tryz.zeroValue36 ?_; intro nb hnb; (try simp only [Value.cells]))) <;> (try refine h0c ?_; (refine h0k (t:=25) rfl Tryz.zeroValue25 ?_; intro nb hnb; (try simp only [Value.cells]))) <;> (try refine h0c ?_; (refine q_W ?_)) <;> (try refine h0c ?_; (refine q_W ?_)) <;> (try refine h0a ?_)))
 refine ⟨?_⟩
 clear hpa
 repeat' (first | (refine h2n (id:=18) ?_) | refine h0n ?_ | refine h0b ?_ | refine h0r ?_ | refine h0e rfl ?_ | (refine gR 16 (q_e (q_L sz_36) ?_) <;> (try refine q_e (by exact h0i (t:=36) (fun vs => (match vs with | [] => [Value.string ⟨#[]⟩, Value.int .u32 0, Value.slice none 0 0, Value.int .u16 0, Value.slice none 0 0, Value.slice none 0 0] | _ => [])) rfl (fun w => by kernel_rfl)) ?_; (try simp only [Value.cells]); (try simp only [zzC, zzN])) <;> (try refine h0c ?_; (refine q_c 14 (c:=by apply hzz) (h:=?_); rintro _ _ ⟨rfl, rfl⟩; (try simp only [zzE, zzF]))) <;> (try refine p_e (by apply E_un; exact rfl; exact h3j) (h:=p_m (h:=p_y (q_L h3l) (h:=p_y (h0g rfl) (h:=p_y (q_f fo_52_1) (h:=p_y q_l (h:=p_y (q_f fo_52_2) (h:=q_y q_l ?_)))))))) <;> (try refine q_y (by exact h0i (t:=25) (fun vs => (match vs with | [(_, x0), (_, x1), (_, x2)] => [x0, x1, x2] | _ => [])) rfl (fun w => by kernel_rfl)) ?_; (try simp only [Value.cells]); (try simp only [zzC, zzN])) <;> (try refine p_y (by apply h1i (op:=.neq) (t:=25); exact rfl; exact rfl; kernel_rfl; (with_reducible assumption)) (h:=p_p (h:=h0a ?_)))))
 refine ⟨?_⟩
 repeat' (first | (refine h2n (id:=19) ?_) | refine h0n ?_ | refine h0b ?_ | (refine gR 18 (p_m (h:=p_m (h:=q_e (q_b (r:=by apply h1j; exact rfl; (focus (assumption)))) ?_))) <;> (try refine h0c ?_; ((refine q_c 10 (c:=by apply hpb; (with_reducible assumption); (focus (omega)); (focus ((try simp only [zzC, zzN]); (repeat' (first | (with_reducible exact Tl.one _ _) | (with_reducible apply Tl.cons) | (with_reducible apply Tl.app)))))) (h:=?_); rintro _ _ ⟨r7, p7, q7, r8, p8, q8, E4, n7, M7, rfl, hS4, hn7, hM7, rfl⟩; (try simp only [zzE, zzF])); (try simp only [zzC, zzN]))) <;> (try refine p_m (h:=p_x (h:=q_x ?_))) <;> (try refine h0c ?_; (refine h0k (t:=36) rfl Tryz.zeroValue36 ?_; intro nb hnb; (try simp only [Value.cells]))) <;> (try refine h0c ?_; (refine h0k (t:=25) rfl Tryz.zeroValue25 ?_; intro nb hnb; (try simp only [Value.cells]))) <;> (try refine h0c ?_; (refine q_W ?_)) <;> (try refine h0c ?_; (refine q_W ?_)) <;> (try refine h0a ?_)))
 refine ⟨?_⟩
 clear hpb
 repeat' (first | (refine h2n (id:=20) ?_) | refine h0n ?_ | refine h0b ?_ | (refine gR 19 (p_m (h:=p_m (h:=q_e (q_b (r:=by apply h1j; exact rfl; (focus (omega)))) ?_))) <;> (try refine h0c ?_; ((refine q_c 10 (c:=by apply hpc; (with_reducible assumption); (focus (omega)); (focus ((try simp only [zzC, zzN]); (repeat' (first | (with_reducible exact Tl.one _ _) | (with_reducible apply Tl.cons) | (with_reducible apply Tl.app)))))) (h:=?_); rintro _ _ ⟨r9, p9, q9, r10, p10, q10, E5, n8, M8, rfl, hS5, hn8, hM8, rfl⟩; (try simp only [zzE, zzF])); (try simp only [zzC, zzN]))) <;> (try refine p_m (h:=p_x (h:=q_x ?_))) <;> (try refine h0c ?_; (refine h0k (t:=36) rfl Tryz.zeroValue36 ?_; intro nb hnb; (try simp only [Value.cells]))) <;> (try refine h0c ?_; (refine h0k (t:=25) rfl Tryz.zeroValue25 ?_; intro nb hnb; (try simp only [Value.cells]))) <;> (try refine h0c ?_; (refine q_W ?_)) <;> (try refine h0c ?_; (refine q_W ?_)) <;> (try refine h0a ?_)))
 refine ⟨?_⟩
 clear hpc
 repeat' (first | refine h0b ?_ | refine h1a ?_ | (refine gR 20 (p_e (q_L h3l) (h:=q_m ?_)) <;> (try refine q_e (q_b (r:=by apply h1q; exact c_5; (focus (refine IntWalk.i64_in _ ?_; omega)))) ?_) <;> (try refine q_e (by exact h0i (t:=25) (fun vs => (match vs with | [(_, x0), (_, x1), (_, x2)] => [x0, x1, x2] | _ => [])) rfl (fun w => by kernel_rfl)) ?_; (try simp only [Value.cells]); (try simp only [zzC, zzN])) <;> (try refine p_e (by apply h1i (op:=.eql) (t:=25); exact rfl; exact rfl; kernel_rfl; (with_reducible assumption)) (h:=p_m (h:=p_y (q_L h3l) (h:=q_y (h0g rfl) ?_)))) <;> (try refine q_y (q_b (r:=by apply h1q; exact c_5; (focus (refine IntWalk.i64_in _ ?_; omega)))) ?_) <;> (try refine q_y (by exact h0i (t:=25) (fun vs => (match vs with | [(_, x0), (_, x1), (_, x2)] => [x0, x1, x2] | _ => [])) rfl (fun w => by kernel_rfl)) ?_; (try simp only [Value.cells]); (try simp only [zzC, zzN])) <;> (try refine p_y (by apply h1i (op:=.eql) (t:=25); exact rfl; exact rfl; kernel_rfl; (with_reducible assumption)) (h:=p_p (h:=p_a (h:=h0a ?_))))))
 (refine h0p Tryz.results4 (.tmp rfl .nil) ?_)
 exact ⟨_, ⟨rfl, rfl⟩, fun w H => H.sub ((hLL.trans hM8.sub).trans (by repeat (first | exact List.Sublist.refl _ | refine List.Sublist.cons _ ?_ | refine List.Sublist.trans ?_ (List.sublist_append_right _ _))))⟩
theorem wf_u8 {a : Int} (h : (Lit.int .u8 a).wf = true) : 0 ≤ a ∧ a < 256 := by
 simp [Lit.wf, IntKind.min, IntKind.max, IntKind.signed, IntKind.bits] at h; omega
theorem wf_u16 {a : Int} (h : (Lit.int .u16 a).wf = true) : 0 ≤ a ∧ a < 65536 := by
 simp [Lit.wf, IntKind.min, IntKind.max, IntKind.signed, IntKind.bits] at h; omega
theorem HP.read {w : World} {L : List Blk} (h : ∀ p ∈ L, p.wr = false ∧ w.heap[p.b]? = some p.o) : HP [] w w L :=
 ⟨rfl, rfl, rfl, Nat.le_refl _, fun _ _ _ => rfl, fun p hp => (h p hp).2, fun p hp hw => by simp [(h p hp).1] at hw,
  List.pairwise_of_forall_mem_list fun p hp q hq hw => by rcases hw with hw | hw <;> simp [(h p hp).1, (h q hq).1] at hw⟩
theorem mapM_some {α β : Type} {f : α → Option β} : ∀ {l : List α} {ys : List β}, l.mapM f = some ys → ∀ (i : Nat) (x : α), l[i]? = some x → ∃ y, f x = some y ∧ ys[i]? = some y
 | [], _, _, i, x, hx => by simp at hx
 | a :: l, ys, h, i, x, hx => by
  simp only [List.mapM_cons, Option.pure_def, Option.bind_eq_bind, Option.bind_eq_some_iff] at h
  obtain ⟨y, hy, ys', hys, e⟩ := h
  obtain rfl := Option.some.inj e
  cases i with
  | zero => simp at hx; subst hx; exact ⟨y, hy, by simp⟩
  | succ i => simp at hx; simpa using mapM_some hys i x hx
theorem mapM_len {α β : Type} {f : α → Option β} : ∀ {l : List α} {ys : List β}, l.mapM f = some ys → ys.length = l.length
 | [], ys, h => by simp at h; simp [h]
 | a :: l, ys, h => by
  simp only [List.mapM_cons, Option.pure_def, Option.bind_eq_bind, Option.bind_eq_some_iff] at h
  obtain ⟨y, hy, ys', hys, e⟩ := h
  obtain rfl := Option.some.inj e
  simp [mapM_len hys]
section
variable {H : Type} {enc : TypeId × Value → H} {P : Program} {w : World} {base : Nat} {spare : Nat → Bool} {held : Bool}
theorem trod_fields {t : TypeId} {fs : Array Field} {fuel : Nat} {cs : List Value} {x : DataW H × List MemPlace} (ht : P.underlying t = some (.struct fs))
  (h : DataW.trod enc P w base spare held fuel t cs = some x) :
  ∃ n, fuel = n + 1 ∧ cs.length = P.cellsOf t ∧ ∀ (i : Nat) (f : Field), fs.toList[i]? = some f → ∃ y, DataW.trod enc P w base spare held n f.type ((cs.drop f.offset).take (P.cellsOf f.type)) = some y := by
 cases fuel with
 | zero => simp [DataW.trod] at h
 | succ n =>
  refine ⟨n, rfl, ?_⟩
  unfold DataW.trod at h
  simp only [ht] at h
  split at h
  ·rename_i hlen
   simp only [Option.map_eq_some_iff] at h
   obtain ⟨xs, hxs, _⟩ := h
   exact ⟨hlen, fun i f hf => let ⟨y, hy, _⟩ := mapM_some hxs i f hf; ⟨y, hy⟩⟩
  ·simp at h
theorem trod_slice {t e : TypeId} {fuel : Nat} {a : Option Addr} {len cap : Nat} {x : DataW H × List MemPlace} (ht : P.underlying t = some (.slice e))
  (h : DataW.trod enc P w base spare held fuel t [.slice a len cap] = some x) :
  (a = none ∧ len = 0 ∧ cap = 0) ∨
  ∃ p n, a = some p ∧ fuel = n + 1 ∧ len ≤ cap ∧ cap ≤ maxLen ∧ ∀ i, i < len → ∃ cs y, w.cells? base (p.add (i * P.cellsOf e)) (P.cellsOf e) = some cs ∧ DataW.trod enc P w base spare held n e cs = some y := by
 cases fuel with
 | zero => simp [DataW.trod] at h
 | succ n =>
  cases a with
  | none =>
   left
   unfold DataW.trod at h
   simp only [ht] at h
   cases len <;> cases cap <;> simp_all
  | some p =>
   right
   unfold DataW.trod at h
   simp only [ht] at h
   split at h
   ·rename_i hc
    simp only [Option.bind_eq_some_iff] at h
    obtain ⟨elems, hel, _⟩ := h
    refine ⟨p, n, rfl, rfl, hc.2.1, hc.2.2, fun i hi => ?_⟩
    obtain ⟨y, hy, _⟩ := mapM_some hel i i (by simp [hi])
    simp only [Option.bind_eq_some_iff] at hy
    obtain ⟨cs, hcs, hy⟩ := hy
    exact ⟨cs, y, hcs, hy⟩
   ·simp at h
theorem cells?_get {a : Addr} {n : Nat} {cs : List Value} (h : w.cells? base a n = some cs) : base ≤ a.block ∧ cs.length = n ∧ ∀ j, j < n → w.cell? (a.add j) = cs[j]? := by
 unfold World.cells? at h
 split at h
 ·rename_i hb
  refine ⟨hb, by simpa using mapM_len h, fun j hj => ?_⟩
  obtain ⟨y, hy, hy'⟩ := mapM_some h j j (by simp [hj])
  rw [hy, hy']
 ·simp at h
theorem h2o {t : TypeId} {k : IntKind} {fuel : Nat} {c : Value} {y : DataW H × List MemPlace} (ht : P.underlying t = some (.int k)) (h : DataW.trod enc P w base spare held fuel t [c] = some y) :
  ∃ n, c = .int k n ∧ (Lit.int k n).wf = true := by
 cases fuel with
 | zero => simp [DataW.trod] at h
 | succ f =>
  unfold DataW.trod at h
  rw [ht] at h
  cases c <;> simp_all
theorem add_none (b off n : Nat) : (⟨b, off, none⟩ : Addr).add n = ⟨b, off + n, none⟩ := by unfold Addr.add; split <;> simp_all
theorem slice_block {t e : TypeId} {fuel : Nat} {a : Option Addr} {len cap : Nat} {x : DataW H × List MemPlace} (ht : P.underlying t = some (.slice e)) {sz : Nat} (hsz : P.cellsOf e = sz) (h0 : 0 < sz)
  (h : DataW.trod enc P w base spare held fuel t [.slice a len cap] = some x) (hlen : 0 < len) :
  ∃ b off acs T fr n, a = some ⟨b, off, none⟩ ∧ w.heap[b]? = some (.cells acs T fr) ∧ len ≤ cap ∧ cap ≤ maxLen ∧
   ∀ i, i < len → ∃ cs y, cs.length = sz ∧ DataW.trod enc P w base spare held n e cs = some y ∧ off + i * sz + sz ≤ acs.size ∧ acs.extract (off + i * sz) (off + i * sz + sz) = cs.toArray := by
 rcases trod_slice ht h with ⟨_, h1, _⟩ | ⟨p, n, rfl, _, hlc, hcm, hel⟩
 ·omega
 ·rw [hsz] at hel
  obtain ⟨cs0, y0, hc0, _⟩ := hel 0 hlen
  obtain ⟨_, hl0, hg0⟩ := cells?_get hc0
  obtain ⟨v, hv⟩ : ∃ v, cs0[0]? = some v := ⟨_, List.getElem?_eq_getElem (by omega)⟩
  have hcell := hg0 0 h0
  rw [hv] at hcell
  obtain ⟨b, off, spot⟩ := p
  have hsp : spot = none := by simpa [Addr.add] using World.cell?_spot hcell
  subst hsp
  simp only [add_none, Nat.zero_mul, Nat.add_zero] at hcell
  obtain ⟨acs, T, fr, hb⟩ : ∃ acs T fr, w.heap[b]? = some (.cells acs T fr) := by
   unfold World.cell? at hcell
   cases hq : w.heap[b]? with
   | none => simp [hq] at hcell
   | some ob =>
    cases ob with
    | cells acs T fr => exact ⟨acs, T, fr, rfl⟩
    | _ => simp [hq] at hcell
  refine ⟨b, off, acs, T, fr, n, rfl, hb, hlc, hcm, fun i hi => ?_⟩
  obtain ⟨cs, y, hcs, hy⟩ := hel i hi
  obtain ⟨_, hl, hg⟩ := cells?_get hcs
  have hget : ∀ j, j < sz → acs[off + i * sz + j]? = cs[j]? := by
   intro j hj
   have := hg j hj
   simp only [add_none] at this
   rw [cell_of_row w b _ acs T fr hb] at this
   exact this
  have hsize : off + i * sz + sz ≤ acs.size := by
   have := hget (sz - 1) (by omega)
   rw [List.getElem?_eq_getElem (by omega)] at this
   have h3 := Array.getElem?_eq_some_iff.1 this
   obtain ⟨h3, _⟩ := h3
   omega
  refine ⟨cs, y, hl, hy, hsize, ?_⟩
  apply Array.ext_getElem?
  intro j
  by_cases hj : j < sz
  ·rw [Array.getElem?_extract, if_pos (by omega), hget j hj]
   simp
  ·rw [Array.getElem?_extract, if_neg (by omega)]
   simp; omega
end
theorem lst_4 {cs : List Value} (h : cs.length = 4) : ∃ c0 c1 c2 c3, cs = [c0, c1, c2, c3] := by
 match cs, h with
 | [_, _, _, _], _ => exact ⟨_, _, _, _, rfl⟩
theorem lst_8 {cs : List Value} (h : cs.length = 8) : ∃ c0 c1 c2 c3 c4 c5 c6 c7, cs = [c0, c1, c2, c3, c4, c5, c6, c7] := by
 match cs, h with
 | [_, _, _, _, _, _, _, _], _ => exact ⟨_, _, _, _, _, _, _, _, rfl⟩
section
variable {H : Type} {enc : TypeId × Value → H} {P : Program} {w : World} {base : Nat} {spare : Nat → Bool} {held : Bool}
theorem h4o {t e : TypeId} {fuel : Nat} {c : Value} {y : DataW H × List MemPlace} (ht : P.underlying t = some (.slice e)) (h : DataW.trod enc P w base spare held fuel t [c] = some y) : ∃ a len cap, c = .slice a len cap := by
 cases fuel with
 | zero => simp [DataW.trod] at h
 | succ f =>
  unfold DataW.trod at h
  rw [ht] at h
  cases c <;> simp_all
theorem trod_int_any {t : TypeId} {k : IntKind} {fuel : Nat} {cs : List Value} {y : DataW H × List MemPlace} (ht : P.underlying t = some (.int k)) (h : DataW.trod enc P w base spare held fuel t cs = some y) : ∃ n, cs = [.int k n] ∧ (Lit.int k n).wf = true := by
 have hc : ∃ c, cs = [c] := by
  cases fuel with
  | zero => simp [DataW.trod] at h
  | succ f =>
   unfold DataW.trod at h
   rw [ht] at h
   match cs, h with
   | [c], _ => exact ⟨c, rfl⟩
   | [], h => simp at h
   | _ :: _ :: _, h => simp at h
 obtain ⟨c, rfl⟩ := hc
 obtain ⟨n, rfl, hw⟩ := h2o ht h
 exact ⟨n, rfl, hw⟩
def ROnly (w : World) (B : List Blk) : Prop := ∀ p ∈ B, p.wr = false ∧ w.heap[p.b]? = some p.o
theorem ROnly.nil {w : World} : ROnly w [] := by simp [ROnly]
theorem ROnly.app {w : World} {B C : List Blk} (h : ROnly w B) (h2 : ROnly w C) : ROnly w (B ++ C) := fun p hp => by
 rcases List.mem_append.1 hp with hp | hp
 ·exact h p hp
 ·exact h2 p hp
theorem HP.ro {w : World} {B : List Blk} (h : ROnly w B) : HP [] w w B := HP.read h
theorem Sli.app {L M : List Blk} {a : Option Addr} {len size : Nat} {cells : List Value} (h : Sli L a len size cells) : Sli (L ++ M) a len size cells := h.left
theorem slice_list {X : Type} {cells : X → List Value} {ok : X → Prop} {t e : TypeId} {sz fuel : Nat} {a : Option Addr} {len cap : Nat} {x : DataW H × List MemPlace} (ht : P.underlying t = some (.slice e)) (hsz : P.cellsOf e = sz) (h0 : 0 < sz)
  (hcl : ∀ x, ok x → (cells x).length = sz) (hel : ∀ n cs y, DataW.trod enc P w base spare held n e cs = some y → ∃ x, cs = cells x ∧ ok x) (h : DataW.trod enc P w base spare held fuel t [.slice a len cap] = some x) :
  ∃ (l : List X) (B : List Blk), l.length = len ∧ (∀ x ∈ l, ok x) ∧ Sli B a len sz (l.flatMap cells) ∧ ROnly w B ∧ len ≤ maxLen ∧ len ≤ cap ∧ cap ≤ maxLen := by
 by_cases hl : 0 < len
 ·obtain ⟨b, off, acs, T, fr, n, rfl, hb, h1, h2, hall⟩ := slice_block ht hsz h0 h hl
  have key : ∀ m, m ≤ len → ∃ l : List X, l.length = m ∧ (∀ x ∈ l, ok x) ∧ (acs.toList.drop off).take (m * sz) = l.flatMap cells := by
   intro m
   induction m with
   | zero => intro _; exact ⟨[], rfl, by simp, by simp⟩
   | succ m ih =>
    intro hm
    obtain ⟨l, e1, e2, e3⟩ := ih (by omega)
    obtain ⟨cs, y, hc1, hc2, hc3, hc4⟩ := hall m (by omega)
    obtain ⟨x, rfl, hx⟩ := hel _ _ _ hc2
    refine ⟨l ++ [x], by simp [e1], ?_, ?_⟩
    ·intro z hz
     rcases List.mem_append.1 hz with hz | hz
     ·exact e2 z hz
     ·rw [List.mem_singleton.1 hz]; exact hx
    ·rw [List.flatMap_append, ← e3, Nat.add_mul, Nat.one_mul, List.take_add, List.drop_drop]
     congr 1
     have := congrArg Array.toList hc4
     simp only [Array.toList_extract, List.extract_eq_take_drop] at this
     rw [Nat.add_sub_cancel_left] at this
     simpa using this
  obtain ⟨l, e1, e2, e3⟩ := key len (Nat.le_refl _)
  obtain ⟨_, _, _, _, hc3, _⟩ := hall (len - 1) (by omega)
  have hmul : (len - 1) * sz + sz = len * sz := by
   obtain ⟨q, rfl⟩ : ∃ q, len = q + 1 := ⟨len - 1, by omega⟩
   rw [Nat.add_sub_cancel, Nat.add_mul, Nat.one_mul]
  refine ⟨l, [⟨false, b, .cells acs T fr⟩], e1, e2, Sli.of (i:=0) rfl (by omega) e3, ?_, by omega, by omega, by omega⟩
  intro p hp
  rw [List.mem_singleton.1 hp]
  exact ⟨rfl, hb⟩
 ·rcases trod_slice ht h with ⟨rfl, rfl, rfl⟩ | ⟨p, n, rfl, _, h2, h3, _⟩
  ·exact ⟨[], [], rfl, by simp, ⟨by simp, .inl rfl⟩, ROnly.nil, by omega, by omega, by omega⟩
  ·obtain rfl : len = 0 := by omega
   exact ⟨[], [], rfl, by simp, ⟨by simp, .inl rfl⟩, ROnly.nil, by omega, by omega, by omega⟩
end
section
variable {H : Type} {enc : TypeId × Value → H} {P : Program} {w : World} {base : Nat} {spare : Nat → Bool} {held : Bool}
theorem slice_listB {X : Type} {cells : X → List Value} {ok : List Blk → X → Prop} {t e : TypeId} {sz fuel : Nat} {a : Option Addr} {len cap : Nat} {x : DataW H × List MemPlace} (ht : P.underlying t = some (.slice e)) (hsz : P.cellsOf e = sz) (h0 : 0 < sz)
  (hl : ∀ B C x, ok B x → ok (B ++ C) x) (hr : ∀ B C x, ok C x → ok (B ++ C) x)
  (hel : ∀ n cs y, DataW.trod enc P w base spare held n e cs = some y → ∃ x B, cs = cells x ∧ ok B x ∧ ROnly w B) (h : DataW.trod enc P w base spare held fuel t [.slice a len cap] = some x) :
  ∃ (l : List X) (B : List Blk), l.length = len ∧ (∀ x ∈ l, ok B x) ∧ Sli B a len sz (l.flatMap cells) ∧ ROnly w B ∧ len ≤ maxLen ∧ len ≤ cap ∧ cap ≤ maxLen := by
 by_cases hln : 0 < len
 ·obtain ⟨b, off, acs, T, fr, n, rfl, hb, h1, h2, hall⟩ := slice_block ht hsz h0 h hln
  have key : ∀ m, m ≤ len → ∃ (l : List X) (B : List Blk), l.length = m ∧ (∀ x ∈ l, ok B x) ∧ (acs.toList.drop off).take (m * sz) = l.flatMap cells ∧ ROnly w B := by
   intro m
   induction m with
   | zero => intro _; exact ⟨[], [], rfl, by simp, by simp, ROnly.nil⟩
   | succ m ih =>
    intro hm
    obtain ⟨l, B, e1, e2, e3, e4⟩ := ih (by omega)
    obtain ⟨cs, y, hc1, hc2, hc3, hc4⟩ := hall m (by omega)
    obtain ⟨x, C, rfl, hx, hC⟩ := hel _ _ _ hc2
    refine ⟨l ++ [x], B ++ C, by simp [e1], ?_, ?_, e4.app hC⟩
    ·intro z hz
     rcases List.mem_append.1 hz with hz | hz
     ·exact hl _ _ _ (e2 z hz)
     ·rw [List.mem_singleton.1 hz]; exact hr _ _ _ hx
    ·rw [List.flatMap_append, ← e3, Nat.add_mul, Nat.one_mul, List.take_add, List.drop_drop]
     congr 1
     have := congrArg Array.toList hc4
     simp only [Array.toList_extract, List.extract_eq_take_drop] at this
     rw [Nat.add_sub_cancel_left] at this
     simpa using this
  obtain ⟨l, B, e1, e2, e3, e4⟩ := key len (Nat.le_refl _)
  obtain ⟨_, _, _, _, hc3, _⟩ := hall (len - 1) (by omega)
  have hmul : (len - 1) * sz + sz = len * sz := by
   obtain ⟨q, rfl⟩ : ∃ q, len = q + 1 := ⟨len - 1, by omega⟩
   rw [Nat.add_sub_cancel, Nat.add_mul, Nat.one_mul]
  refine ⟨l, [⟨false, b, .cells acs T fr⟩] ++ B, e1, fun x hx => hr _ _ _ (e2 x hx), Sli.of (i:=0) rfl (by omega) e3, ROnly.app ?_ e4, by omega, by omega, by omega⟩
  intro p hp
  rw [List.mem_singleton.1 hp]
  exact ⟨rfl, hb⟩
 ·rcases trod_slice ht h with ⟨rfl, rfl, rfl⟩ | ⟨p, n, rfl, _, h2, h3, _⟩
  ·exact ⟨[], [], rfl, by simp, ⟨by simp, .inl rfl⟩, ROnly.nil, by omega, by omega, by omega⟩
  ·obtain rfl : len = 0 := by omega
   exact ⟨[], [], rfl, by simp, ⟨by simp, .inl rfl⟩, ROnly.nil, by omega, by omega, by omega⟩
end
def u8ok (n : Int) : Prop := 0 ≤ n ∧ n < 256
def u8v (n : Int) : List Value := [.int .u8 n]
theorem u8v_flat (l : List Int) : l.flatMap u8v = u8l l := by induction l with | nil => rfl | cons n r ih => simpa [u8v, u8l] using ih
theorem u8_open {H : Type} {enc : TypeId × Value → H} {w : World} {base : Nat} {spare : Nat → Bool} {held : Bool} {fuel : Nat} {cs : List Value} {x : DataW H × List MemPlace} (h : DataW.trod enc Tryz.prog w base spare held fuel 5 cs = some x) : ∃ n : Int, cs = u8v n ∧ (0 ≤ n ∧ n < 256) := by
 obtain ⟨n, rfl, hw⟩ := trod_int_any Tryz.underlying5 h
 exact ⟨n, rfl, wf_u8 hw⟩
theorem i_nat {n : Int} {k : Int} (h : 0 ≤ n ∧ n < k) : ∃ m : Nat, n = (m : Int) := ⟨n.toNat, by omega⟩
set_option linter.unusedVariables false in
theorem open_95 {H : Type} {enc : TypeId × Value → H} {w : World} {base : Nat} {spare : Nat → Bool} {held : Bool} {fuel : Nat} {cs : List Value} {x : DataW H × List MemPlace} (h : DataW.trod enc Tryz.prog w base spare held fuel 95 cs = some x) :
  ∃ (a0 : Int) (a1 : Int) (a2 : Int) (a3 : Int), cs = [Value.int .u8 a0, Value.int .u8 a1, Value.int .u8 a2, Value.int .u8 a3] ∧ (0 ≤ a0 ∧ a0 < 256) ∧ (0 ≤ a1 ∧ a1 < 256) ∧ (0 ≤ a2 ∧ a2 < 256) ∧ (0 ≤ a3 ∧ a3 < 256) := by
 obtain ⟨n, rfl, hlen, hf⟩ := trod_fields Tryz.underlying95 h
 rw [(by kernel_rfl : Tryz.prog.cellsOf 95 = 4)] at hlen
 obtain ⟨c0, c1, c2, c3, rfl⟩ := lst_4 hlen
 have e5 : Tryz.prog.cellsOf 5 = 1 := by kernel_rfl
 obtain ⟨y0, h0⟩ := hf 0 _ rfl
 (try simp only [e5] at h0); (try simp only [Nat.reduceMul] at h0); (try simp only [List.drop_succ_cons] at h0); (try simp only [List.drop_zero] at h0); (try simp only [List.take_succ_cons] at h0); (try simp only [List.take_zero] at h0)
 obtain ⟨a0, rfl, ba0⟩ := h2o Tryz.underlying5 h0
 replace ba0 := wf_u8 ba0
 obtain ⟨y1, h1⟩ := hf 1 _ rfl
 (try simp only [e5] at h1); (try simp only [Nat.reduceMul] at h1); (try simp only [List.drop_succ_cons] at h1); (try simp only [List.drop_zero] at h1); (try simp only [List.take_succ_cons] at h1); (try simp only [List.take_zero] at h1)
 obtain ⟨a1, rfl, ba1⟩ := h2o Tryz.underlying5 h1
 replace ba1 := wf_u8 ba1
 obtain ⟨y2, h2⟩ := hf 2 _ rfl
 (try simp only [e5] at h2); (try simp only [Nat.reduceMul] at h2); (try simp only [List.drop_succ_cons] at h2); (try simp only [List.drop_zero] at h2); (try simp only [List.take_succ_cons] at h2); (try simp only [List.take_zero] at h2)
 obtain ⟨a2, rfl, ba2⟩ := h2o Tryz.underlying5 h2
 replace ba2 := wf_u8 ba2
 obtain ⟨y3, h3⟩ := hf 3 _ rfl
 (try simp only [e5] at h3); (try simp only [Nat.reduceMul] at h3); (try simp only [List.drop_succ_cons] at h3); (try simp only [List.drop_zero] at h3); (try simp only [List.take_succ_cons] at h3); (try simp only [List.take_zero] at h3)
 obtain ⟨a3, rfl, ba3⟩ := h2o Tryz.underlying5 h3
 replace ba3 := wf_u8 ba3
 exact ⟨a0, a1, a2, a3, rfl, ba0, ba1, ba2, ba3⟩
set_option linter.unusedVariables false in
theorem open_91 {H : Type} {enc : TypeId × Value → H} {w : World} {base : Nat} {spare : Nat → Bool} {held : Bool} {fuel : Nat} {cs : List Value} {x : DataW H × List MemPlace} (h : DataW.trod enc Tryz.prog w base spare held fuel 91 cs = some x) :
  ∃ (a0 : Int) (a1 : Int) (a2 : Int) (a3_a : Option Addr) (a3_l a3_c : Nat), cs = [Value.int .u8 a0, Value.int .u8 a1, Value.int .u8 a2, Value.slice a3_a a3_l a3_c] ∧ (0 ≤ a0 ∧ a0 < 256) ∧ (0 ≤ a1 ∧ a1 < 256) ∧ (0 ≤ a2 ∧ a2 < 256) ∧ (∃ fuel y, DataW.trod enc Tryz.prog w base spare held fuel 89 [Value.slice a3_a a3_l a3_c] = some y) := by
 obtain ⟨n, rfl, hlen, hf⟩ := trod_fields Tryz.underlying91 h
 rw [(by kernel_rfl : Tryz.prog.cellsOf 91 = 4)] at hlen
 obtain ⟨c0, c1, c2, c3, rfl⟩ := lst_4 hlen
 have e5 : Tryz.prog.cellsOf 5 = 1 := by kernel_rfl
 have e89 : Tryz.prog.cellsOf 89 = 1 := by kernel_rfl
 obtain ⟨y0, h0⟩ := hf 0 _ rfl
 (try simp only [e5] at h0); (try simp only [Nat.reduceMul] at h0); (try simp only [List.drop_succ_cons] at h0); (try simp only [List.drop_zero] at h0); (try simp only [List.take_succ_cons] at h0); (try simp only [List.take_zero] at h0)
 obtain ⟨a0, rfl, ba0⟩ := h2o Tryz.underlying5 h0
 replace ba0 := wf_u8 ba0
 obtain ⟨y1, h1⟩ := hf 1 _ rfl
 (try simp only [e5] at h1); (try simp only [Nat.reduceMul] at h1); (try simp only [List.drop_succ_cons] at h1); (try simp only [List.drop_zero] at h1); (try simp only [List.take_succ_cons] at h1); (try simp only [List.take_zero] at h1)
 obtain ⟨a1, rfl, ba1⟩ := h2o Tryz.underlying5 h1
 replace ba1 := wf_u8 ba1
 obtain ⟨y2, h2⟩ := hf 2 _ rfl
 (try simp only [e5] at h2); (try simp only [Nat.reduceMul] at h2); (try simp only [List.drop_succ_cons] at h2); (try simp only [List.drop_zero] at h2); (try simp only [List.take_succ_cons] at h2); (try simp only [List.take_zero] at h2)
 obtain ⟨a2, rfl, ba2⟩ := h2o Tryz.underlying5 h2
 replace ba2 := wf_u8 ba2
 obtain ⟨y3, h3⟩ := hf 3 _ rfl
 (try simp only [e89] at h3); (try simp only [Nat.reduceMul] at h3); (try simp only [List.drop_succ_cons] at h3); (try simp only [List.drop_zero] at h3); (try simp only [List.take_succ_cons] at h3); (try simp only [List.take_zero] at h3)
 obtain ⟨a3_a, a3_l, a3_c, rfl⟩ := h4o Tryz.underlying89 h3
 have ba3 : ∃ fuel y, DataW.trod enc Tryz.prog w base spare held fuel 89 [Value.slice a3_a a3_l a3_c] = some y := ⟨_, _, h3⟩
 exact ⟨a0, a1, a2, a3_a, a3_l, a3_c, rfl, ba0, ba1, ba2, ba3⟩
set_option linter.unusedVariables false in
theorem open_48 {H : Type} {enc : TypeId × Value → H} {w : World} {base : Nat} {spare : Nat → Bool} {held : Bool} {fuel : Nat} {cs : List Value} {x : DataW H × List MemPlace} (h : DataW.trod enc Tryz.prog w base spare held fuel 48 cs = some x) :
  ∃ (a0 : Int) (a1 : Int) (a2 : Int) (a3_a : Option Addr) (a3_l a3_c : Nat) (a4 : Int) (a5_a : Option Addr) (a5_l a5_c : Nat) (a6_a : Option Addr) (a6_l a6_c : Nat) (a7_a : Option Addr) (a7_l a7_c : Nat), cs = [Value.int .u8 a0, Value.int .u8 a1, Value.int .u8 a2, Value.slice a3_a a3_l a3_c, Value.int .u16 a4, Value.slice a5_a a5_l a5_c, Value.slice a6_a a6_l a6_c, Value.slice a7_a a7_l a7_c] ∧ (0 ≤ a0 ∧ a0 < 256) ∧ (0 ≤ a1 ∧ a1 < 256) ∧ (0 ≤ a2 ∧ a2 < 256) ∧ (∃ fuel y, DataW.trod enc Tryz.prog w base spare held fuel 44 [Value.slice a3_a a3_l a3_c] = some y) ∧ (0 ≤ a4 ∧ a4 < 65536) ∧ (∃ fuel y, DataW.trod enc Tryz.prog w base spare held fuel 45 [Value.slice a5_a a5_l a5_c] = some y) ∧ (∃ fuel y, DataW.trod enc Tryz.prog w base spare held fuel 46 [Value.slice a6_a a6_l a6_c] = some y) ∧ (∃ fuel y, DataW.trod enc Tryz.prog w base spare held fuel 45 [Value.slice a7_a a7_l a7_c] = some y) := by
 obtain ⟨n, rfl, hlen, hf⟩ := trod_fields Tryz.underlying48 h
 rw [(by kernel_rfl : Tryz.prog.cellsOf 48 = 8)] at hlen
 obtain ⟨c0, c1, c2, c3, c4, c5, c6, c7, rfl⟩ := lst_8 hlen
 have e5 : Tryz.prog.cellsOf 5 = 1 := by kernel_rfl
 have e31 : Tryz.prog.cellsOf 31 = 1 := by kernel_rfl
 have e44 : Tryz.prog.cellsOf 44 = 1 := by kernel_rfl
 have e45 : Tryz.prog.cellsOf 45 = 1 := by kernel_rfl
 have e46 : Tryz.prog.cellsOf 46 = 1 := by kernel_rfl
 obtain ⟨y0, h0⟩ := hf 0 _ rfl
 (try simp only [e5] at h0); (try simp only [Nat.reduceMul] at h0); (try simp only [List.drop_succ_cons] at h0); (try simp only [List.drop_zero] at h0); (try simp only [List.take_succ_cons] at h0); (try simp only [List.take_zero] at h0)
 obtain ⟨a0, rfl, ba0⟩ := h2o Tryz.underlying5 h0
 replace ba0 := wf_u8 ba0
 obtain ⟨y1, h1⟩ := hf 1 _ rfl
 (try simp only [e5] at h1); (try simp only [Nat.reduceMul] at h1); (try simp only [List.drop_succ_cons] at h1); (try simp only [List.drop_zero] at h1); (try simp only [List.take_succ_cons] at h1); (try simp only [List.take_zero] at h1)
 obtain ⟨a1, rfl, ba1⟩ := h2o Tryz.underlying5 h1
 replace ba1 := wf_u8 ba1
 obtain ⟨y2, h2⟩ := hf 2 _ rfl
 (try simp only [e5] at h2); (try simp only [Nat.reduceMul] at h2); (try simp only [List.drop_succ_cons] at h2); (try simp only [List.drop_zero] at h2); (try simp only [List.take_succ_cons] at h2); (try simp only [List.take_zero] at h2)
 obtain ⟨a2, rfl, ba2⟩ := h2o Tryz.underlying5 h2
 replace ba2 := wf_u8 ba2
 obtain ⟨y3, h3⟩ := hf 3 _ rfl
 (try simp only [e44] at h3); (try simp only [Nat.reduceMul] at h3); (try simp only [List.drop_succ_cons] at h3); (try simp only [List.drop_zero] at h3); (try simp only [List.take_succ_cons] at h3); (try simp only [List.take_zero] at h3)
 obtain ⟨a3_a, a3_l, a3_c, rfl⟩ := h4o Tryz.underlying44 h3
 have ba3 : ∃ fuel y, DataW.trod enc Tryz.prog w base spare held fuel 44 [Value.slice a3_a a3_l a3_c] = some y := ⟨_, _, h3⟩
 obtain ⟨y4, h4⟩ := hf 4 _ rfl
 (try simp only [e31] at h4); (try simp only [Nat.reduceMul] at h4); (try simp only [List.drop_succ_cons] at h4); (try simp only [List.drop_zero] at h4); (try simp only [List.take_succ_cons] at h4); (try simp only [List.take_zero] at h4)
 obtain ⟨a4, rfl, ba4⟩ := h2o Tryz.underlying31 h4
 replace ba4 := wf_u16 ba4
 obtain ⟨y5, h5⟩ := hf 5 _ rfl
 (try simp only [e45] at h5); (try simp only [Nat.reduceMul] at h5); (try simp only [List.drop_succ_cons] at h5); (try simp only [List.drop_zero] at h5); (try simp only [List.take_succ_cons] at h5); (try simp only [List.take_zero] at h5)
 obtain ⟨a5_a, a5_l, a5_c, rfl⟩ := h4o Tryz.underlying45 h5
 have ba5 : ∃ fuel y, DataW.trod enc Tryz.prog w base spare held fuel 45 [Value.slice a5_a a5_l a5_c] = some y := ⟨_, _, h5⟩
 obtain ⟨y6, h6⟩ := hf 6 _ rfl
 (try simp only [e46] at h6); (try simp only [Nat.reduceMul] at h6); (try simp only [List.drop_succ_cons] at h6); (try simp only [List.drop_zero] at h6); (try simp only [List.take_succ_cons] at h6); (try simp only [List.take_zero] at h6)
 obtain ⟨a6_a, a6_l, a6_c, rfl⟩ := h4o Tryz.underlying46 h6
 have ba6 : ∃ fuel y, DataW.trod enc Tryz.prog w base spare held fuel 46 [Value.slice a6_a a6_l a6_c] = some y := ⟨_, _, h6⟩
 obtain ⟨y7, h7⟩ := hf 7 _ rfl
 (try simp only [e45] at h7); (try simp only [Nat.reduceMul] at h7); (try simp only [List.drop_succ_cons] at h7); (try simp only [List.drop_zero] at h7); (try simp only [List.take_succ_cons] at h7); (try simp only [List.take_zero] at h7)
 obtain ⟨a7_a, a7_l, a7_c, rfl⟩ := h4o Tryz.underlying45 h7
 have ba7 : ∃ fuel y, DataW.trod enc Tryz.prog w base spare held fuel 45 [Value.slice a7_a a7_l a7_c] = some y := ⟨_, _, h7⟩
 exact ⟨a0, a1, a2, a3_a, a3_l, a3_c, a4, a5_a, a5_l, a5_c, a6_a, a6_l, a6_c, a7_a, a7_l, a7_c, rfl, ba0, ba1, ba2, ba3, ba4, ba5, ba6, ba7⟩
theorem u16_open {H : Type} {enc : TypeId × Value → H} {w : World} {base : Nat} {spare : Nat → Bool} {held : Bool} {fuel : Nat} {cs : List Value} {x : DataW H × List MemPlace} (h : DataW.trod enc Tryz.prog w base spare held fuel 31 cs = some x) : ∃ n : Int, cs = [.int .u16 n] ∧ (0 ≤ n ∧ n < 65536) := by
 obtain ⟨n, rfl, hw⟩ := trod_int_any Tryz.underlying31 h
 exact ⟨n, rfl, wf_u16 hw⟩
def u16v (n : Int) : List Value := [.int .u16 n]
theorem u16v_flat (l : List Int) : l.flatMap u16v = u16g l := by induction l with | nil => rfl | cons n r ih => simpa [u16v, u16g] using ih
theorem scond_open {H : Type} {enc : TypeId × Value → H} {w : World} {base : Nat} {spare : Nat → Bool} {held : Bool} {fuel : Nat} {cs : List Value} {x : DataW H × List MemPlace} (h : DataW.trod enc Tryz.prog w base spare held fuel 95 cs = some x) : ∃ c : SCnd, cs = c.cells ∧ c.ok := by
 obtain ⟨a0, a1, a2, a3, rfl, h0, h1, h2, h3⟩ := open_95 h
 exact ⟨⟨a0, a1, a2, a3⟩, rfl, h0, h1, h2, h3⟩
structure SRulV where
 r : SRul
 v : Value
def SRulV.cells (x : SRulV) : List Value := [.int .u8 x.r.c, .int .u8 x.r.a, .int .u8 x.r.e, x.v]
structure SRulV.ok (B : List Blk) (x : SRulV) : Prop where
 r : x.r.ok
 v : SCndS B x.v x.r.conds
theorem srul_open {H : Type} {enc : TypeId × Value → H} {w : World} {base : Nat} {spare : Nat → Bool} {held : Bool} {fuel : Nat} {cs : List Value} {x : DataW H × List MemPlace} (h : DataW.trod enc Tryz.prog w base spare held fuel 91 cs = some x) : ∃ (r : SRulV) (B : List Blk), cs = r.cells ∧ r.ok B ∧ ROnly w B := by
 obtain ⟨a0, a1, a2, a3a, a3l, a3c, rfl, h0, h1, h2, ⟨f3, y3, h3⟩⟩ := open_91 h
 obtain ⟨l1, B1, rfl, g1, s1, r1, m1, _, _⟩ := slice_list (cells:=SCnd.cells) (ok:=SCnd.ok) Tryz.underlying89 (sz:=4) (by kernel_rfl) (by omega) (fun _ _ => rfl) (fun _ _ _ h => scond_open h) h3
 exact ⟨⟨⟨a0, a1, a2, l1⟩, _⟩, B1, rfl, ⟨⟨h0, h1, h2, g1⟩, ⟨a3a, a3c, rfl, s1, m1⟩⟩, r1⟩
theorem srulG_of {B : List Blk} : ∀ l : List SRulV, (∀ x ∈ l, x.ok B) → SRulG B (l.map SRulV.r) (l.flatMap SRulV.cells)
 | [], _ => rfl
 | x :: r, h => ⟨x.v, r.flatMap SRulV.cells, rfl, (h x (List.mem_cons_self ..)).v, srulG_of r fun y hy => h y (List.mem_cons_of_mem _ hy)⟩
structure SmlV where
 s : SPol
 vr : Value
 vp : Value
 vg : Value
 vq : Value
abbrev SmlV.cells (x : SmlV) : List Value := [.int .u8 x.s.nm, .int .u8 x.s.df, .int .u8 x.s.en, x.vr, .int .u16 (x.s.hd : Nat), x.vp, x.vg, x.vq]
structure SmlV.ok (B : List Blk) (x : SmlV) : Prop where
 s : x.s.ok
 v : SPolS B x.s x.vr x.vp x.vg x.vq
theorem SmlV.ok.mono {B L : List Blk} {x : SmlV} (h : x.ok B) (hs : SubB B L) : x.ok L := ⟨h.s, h.v.mono hs⟩
theorem small_openP {H : Type} {enc : TypeId × Value → H} {w : World} {base : Nat} {spare : Nat → Bool} {held : Bool} {fuel : Nat} {cs : List Value} {x : DataW H × List MemPlace} (h : DataW.trod enc Tryz.prog w base spare held fuel 48 cs = some x) : ∃ (s : SmlV) (B : List Blk), cs = s.cells ∧ s.ok B ∧ ROnly w B := by
 obtain ⟨a0, a1, a2, a3a, a3l, a3c, a4, a5a, a5l, a5c, a6a, a6l, a6c, a7a, a7l, a7c, rfl, h0, h1, h2, ⟨f3, y3, h3⟩, h4, ⟨f5, y5, h5⟩, ⟨f6, y6, h6⟩, ⟨f7, y7, h7⟩⟩ := open_48 h
 obtain ⟨l3, B3, rfl, g3, s3, r3, m3, -, -⟩ := slice_listB (cells:=SRulV.cells) (ok:=SRulV.ok) Tryz.underlying44 (sz:=4) (by kernel_rfl) (by omega) (fun _ _ _ h => ⟨h.r, h.v.left⟩) (fun _ _ _ h => ⟨h.r, h.v.upA _⟩) (fun _ _ _ h => srul_open h) h3
 obtain ⟨l5, B5, rfl, g5, s5, r5, m5, -, -⟩ := slice_list (cells:=u8v) (ok:=u8ok) Tryz.underlying45 (sz:=1) (by kernel_rfl) (by omega) (fun _ _ => rfl) (fun _ _ _ h => u8_open h) h5
 obtain ⟨l6, B6, rfl, g6, s6, r6, m6, -, -⟩ := slice_list (cells:=u16v) (ok:=fun n : Int => 0 ≤ n ∧ n < 65536) Tryz.underlying46 (sz:=1) (by kernel_rfl) (by omega) (fun _ _ => rfl) (fun _ _ _ h => u16_open h) h6
 obtain ⟨l7, B7, rfl, g7, s7, r7, m7, -, -⟩ := slice_list (cells:=u8v) (ok:=u8ok) Tryz.underlying45 (sz:=1) (by kernel_rfl) (by omega) (fun _ _ => rfl) (fun _ _ _ h => u8_open h) h7
 rw [u8v_flat] at s5 s7
 rw [u16v_flat] at s6
 obtain ⟨hd, rfl⟩ := i_nat h4
 have e3 : (l3.map SRulV.r).length = l3.length := List.length_map ..
 refine ⟨⟨⟨a0, a1, a2, l3.map SRulV.r, hd, l5, l6, l7⟩, _, _, _, _⟩, B3 ++ (B5 ++ (B6 ++ B7)), rfl, ⟨⟨h0, h1, h2, ?_, by show hd < 65536; omega, g5, g6, g7⟩, ⟨⟨a3a, a3c, l3.flatMap SRulV.cells, by rw [e3], by rw [e3]; exact s3.left, (srulG_of l3 g3).left⟩, ⟨a5a, a5c, rfl, (s5.left).upA B3⟩, ⟨a6a, a6c, rfl, ((s6.left).upA B5).upA B3⟩, ⟨a7a, a7c, rfl, ((s7.upA B6).upA B5).upA B3⟩, by show (l3.map SRulV.r).length ≤ maxLen; rw [e3]; exact m3, m5, m6, m7⟩⟩, r3.app (r5.app (r6.app r7))⟩
 intro r hr
 obtain ⟨x, hx, rfl⟩ := List.mem_map.1 hr
 exact (g3 x hx).r
structure GRulV where
 r : GRul
 v : Value
def GRulV.cells (x : GRulV) : List Value := [.int .u32 x.r.num, .int .u32 x.r.act, x.v]
structure GRulV.ok (B : List Blk) (x : GRulV) : Prop where
 r : x.r.ok
 v : CndS B x.v x.r.conds
structure GplV where
 P : GPol
 vr : Value
 vp : Value
 vq : Value
abbrev GplV.cells (x : GplV) : List Value := polG x.P x.vr x.vp x.vq
structure GplV.ok (B : List Blk) (x : GplV) : Prop where
 r : GPolR x.P
 v : PolS B x.P x.vr x.vp x.vq
theorem GplV.ok.mono {B L : List Blk} {x : GplV} (h : x.ok B) (hs : SubB B L) : x.ok L := ⟨h.r, h.v.mono hs⟩
end Go.Proofs.YtecbgehooembmaaGreatDoor
namespace Go.Proofs.YtecbgehooembmaaGreatDoor
open Go.ChangeShapes Go.WideShapes Go.ChangeAt Go.RowKit
theorem ownParseLines : ownKnob Tryz.prog.godebug = none := by kernel_rfl
theorem laidParseLines : laidOutB Tryz.prog = true := by kernel_rfl
theorem parseLines_lifted (os : Os) (started : os.Started) (H : Type) (enc : TypeId × Value → H) :
  ReturnsInHanded {} Tryz.checked os 4 .any (fun w args => (Rows.parseLinesSpec.pre enc Tryz.prog Tryz.f4 [] false w args ∧ laidMetH Tryz.prog Rows.parseLinesRow.laid w) ∧ sizedMet enc Tryz.prog Tryz.f4 (OpenSpec.ofChange Rows.parseLinesSpec) false w args)
   (Rows.parseLinesSpec.post enc Tryz.prog Tryz.f4 false true false false) := by
 refine returnsInHanded_of_change_and (C:=Tryz.checked) (X:=fun w _ => laidMetH Tryz.prog Rows.parseLinesRow.laid w) (fun _ _ _ hh h => h.of_heap hh) ownParseLines started (by kernel_rfl) Tryz.func4
  (ChangeSpec.witness_shaped (enc:=enc) (C:=Tryz.checked) (os:=os) (X:=fun w _ => laidMetH Tryz.prog Rows.parseLinesRow.laid w) false (World.laidAll Tryz.prog os Rows.parseLinesRow.laid) #[.agg #[.int .u8 0, .int .u8 0, .int .u8 0, .slice none 0 0, .int .u16 0, .slice none 0 0, .slice none 0 0, .slice none 0 0], .int .u8 0] 8 (World.laidAll_os _ _ _)
   (World.shaped_of_ZipB (by kernel_rfl) (by kernel_rfl)) (by kernel_rfl) (by kernel_rfl) (by kernel_rfl)
   (by rw [MakeChecks.laidMetH_plain _ _ _ (by kernel_rfl)]; exact laidMet_laidAll _ (by kernel_rfl) (by kernel_rfl))) ?_
 intro W base args ds gs before hval0 hW _ _ _ _
 have hval : ∀ (j : Nat) t v, Tryz.f4.params[j]? = some t → args[j]? = some v → Value.okWide Tryz.prog W .any base t v := hval0
 have hW' := hW
 obtain ⟨p, q, hA0, hV, rfl, hfz, hnd⟩ := hW
 have hA : DataW.TrodAll enc Tryz.prog W 0 (fun _ => true) true Tryz.f4.params.toList args.toList ds p := hA0
 rw [Tryz.params4] at hA hval
 obtain ⟨v0, vs0, d0, ds0, p0, q0, hargs, rfl, rfl, h0, r0⟩ := trodAll_cons hA
 obtain ⟨v1, vs1, d1, ds1, p1, q1, rfl, rfl, rfl, h1, r1⟩ := trodAll_cons r0
 obtain ⟨rfl, rfl, rfl⟩ := trodAll_nil r1
 obtain rfl : args = #[v0, v1] := by cases args; simp_all
 obtain ⟨rfl, rfl⟩ := trodVars_none hV
 have k0 := h0
 have lt0 : ∀ x ∈ p0, x.block < W.heap.size := by obtain ⟨m, hm⟩ := k0; exact DataW.trod_lt m _ _ _ hm
 have k1 := h1
 have lt1 : ∀ x ∈ p1, x.block < W.heap.size := by obtain ⟨m, hm⟩ := k1; exact DataW.trod_lt m _ _ _ hm
 obtain ⟨a1, rfl, rfl, rfl, w1⟩ := open_int Tryz.underlying5 (hval 1 5 v1 rfl rfl) h1
 have b1 := wf_u8 w1
 obtain ⟨cs0, rfl, _⟩ := okWide_struct Tryz.underlying48 (hval 0 48 v0 rfl rfl)
 obtain ⟨f0, hf0⟩ := h0
 obtain ⟨a0, B0, e0, b0, ro0⟩ := small_openP hf0
 obtain rfl : cs0 = a0.cells.toArray := by apply Array.ext'; simpa [Value.cells] using e0
 have S0 := b0.mono (L:=B0) (SubB.refl _)
 clear hA0 hval0
 refine ((parseLines_c (S:=[]) (w0:=W) (L:=B0) a0.s S0.s a0.vr a0.vp a0.vg a0.vq S0.v a1 b1).out W (HP.ro ro0)).mono fun e W' ⟨v, L', he, ⟨hv, _⟩, H'⟩ => ?_
 subst he hv
 have bel := H'.below
 exact ⟨_, rfl, _, _, _, [], _, [], hW', trodAll_mk1 (shut_bool Tryz.underlying4 _), (trodAll_cons_mk (Below.trod laidParseLines (by kernel_rfl) (of_decide_eq_true (by kernel_rfl)) k0 bel lt0) (trodAll_cons_mk (Below.trod laidParseLines (by kernel_rfl) (of_decide_eq_true (by kernel_rfl)) k1 bel lt1) trodAll_mk0)), rfl, bel.frame _, fun h => by cases h⟩
theorem parseLines_said : Rows.ParseLinesSaid :=
 OpenClaim.holds_of_wide 4 Tryz.f4 rfl rfl rfl rfl rfl rfl rfl ⟨rfl, rfl, rfl, rfl, rfl⟩ rfl rfl rfl rfl rfl (by kernel_rfl) Tryz.func4 (by kernel_rfl)
  (of_decide_eq_true (by kernel_rfl)) (by unfold Func.isWrapper; first | (rw [if_pos (by decide +kernel)]; kernel_rfl) | (rw [if_neg (by decide +kernel)]; exact ⟨rfl, rfl⟩))
  (fun os started H enc _ => parseLines_lifted os started H enc)
theorem parseLines_plain (f : FuncId) (fn : Func) (hf : Tryz.pinned.checked.prog.funcNamed "pinfold/pinfoldlaw10.ParseLines" = some f) (hfn : Tryz.pinned.checked.prog.funcs[f]? = some fn) :
  false = Tryz.pinned.checked.prog.looks [] ∧ ∀ (j : Nat) t, fn.params[j]? = some t → Tryz.pinned.checked.prog.wantsStandIn t = false := by
 obtain rfl : f = 4 := Option.some.inj ((show Tryz.prog.funcNamed "pinfold/pinfoldlaw10.ParseLines" = some 4 by kernel_rfl).symm.trans hf) |>.symm
 obtain rfl : fn = Tryz.f4 := (Option.some.inj (Tryz.func4.symm.trans hfn)).symm
 refine ⟨by kernel_rfl, fun j t ht => ?_⟩
 rw [Tryz.params4] at ht
 have hm : t ∈ [48, 5] := by simpa using Array.mem_of_getElem? ht
 have hall : ([48, 5].all fun u => !Tryz.prog.wantsStandIn u) = true := by kernel_rfl
 exact (show Tryz.prog.wantsStandIn t = false by simpa using List.all_eq_true.1 hall t hm)
theorem parseLines_holds : Rows.ParseLinesCardSaid :=
 Claim7.holds_tied_plain_at .later [] _ _ _ _ parseLines_said (fun _ h => by cases h) (by kernel_rfl) (fun _ h => by cases h) parseLines_row_tie rfl ⟨rfl, rfl⟩ (by kernel_rfl) rfl parseLines_plain (by kernel_rfl)
#print axioms parseLines_holds
end Go.Proofs.YtecbgehooembmaaGreatDoor
