/- Part 4 of what the last text of this claim leans on: rules of walks, contracts, plain facts. Conditions: those of each statement. -/
import Derived.Test.YtecbgehooembmaaDoorQp3
set_option maxRecDepth 100000
namespace Go.Proofs.YtecbgehooembmaaDoor
open Go Go.RowKit
namespace Pt
def prn (y : UInt8) : Bool := decide (32 < y.toNat ∧ y.toNat < 127 ∧ y.toNat ≠ 35)
def h4k (p : List UInt8) : Bool := decide (¬ (p = [] ∨ p = [46] ∨ p = [46, 46] ∨ 14 < p.length))
def refGo (part : List UInt8) : List UInt8 → Bool
 | [] => h4k part
 | c :: r => if c = 47 then h4k part && refGo [] r else prn c && refGo (part ++ [c]) r
def pathF (l : List UInt8) : Bool := if l = [47] then true else if l.length < 2 ∨ l.length > 120 ∨ l.head? ≠ some 47 then false else refGo [] l.tail
theorem all_ne {l : List (List UInt8)} (h : l ≠ []) (f : List UInt8 → Bool) : l.all f = (f (l.headD []) && l.tail.all f) := by
 cases l with
 | nil => exact absurd rfl h
 | cons a r => rfl
theorem refGo_split (part r : List UInt8) : refGo part r = (r.all prn && (h4k (part ++ (h2x 47 r).headD []) && (h2x 47 r).tail.all h4k)) := by
 induction r generalizing part with
 | nil => simp [refGo, h2x]
 | cons c r ih =>
  rw [refGo, h2x]
  by_cases h : c = 47
  ·subst h
   have h47 : prn 47 = true := by decide
   rw [if_pos rfl, if_pos rfl, ih, List.all_cons, h47, List.headD_cons, List.tail_cons, List.append_nil, all_ne (splitC_ne 47 r), List.nil_append, Bool.true_and]
   cases h4k part <;> simp
  ·rw [if_neg h, if_neg h, ih, List.all_cons, List.headD_cons, List.tail_cons, List.append_assoc, List.singleton_append]
   cases prn c <;> simp
theorem ba_ix {s : ByteArray} {k : Nat} (h : k < s.size) : ∃ x : UInt8, s[k]? = some x ∧ (lB s).drop k = x :: (lB s).drop (k + 1) := by
 have hl := lB_len s
 refine ⟨s[k]'h, by simp [h], ?_⟩
 rw [List.drop_eq_getElem_cons (by omega)]; rfl
theorem u8_ne {x y : UInt8} (h : ¬ x = y) : ¬ ((x.toNat : Int) = (y.toNat : Int)) := by
 intro e
 exact h (UInt8.toNat_inj.1 (by omega))
theorem pth_tail {s : ByteArray} {x : UInt8} (hx : (lB s).drop 0 = x :: (lB s).drop (0 + 1)) : (lB s).head? = some x ∧ (lB s).tail = (lB s).drop 1 := by
 rw [List.drop_zero, Nat.zero_add] at hx
 constructor
 ·rw [hx]; rfl
 ·exact List.drop_one.symm
theorem pth_slash (s : ByteArray) (h : ¬ s = ⟨#[47]⟩) : ¬ lB s = [47] := by
 intro e
 apply h
 rw [← mB8_lB s, e]; rfl
theorem one_slash {s : ByteArray} (h1 : s.size = 1) {x : UInt8} (hx : (lB s).drop 0 = x :: (lB s).drop (0 + 1)) (h : ¬ s = ⟨#[47]⟩) : ¬ x = 47 := by
 intro e
 subst e
 apply h
 have hl := lB_len s
 rw [← mB8_lB s]
 rw [List.drop_zero, Nat.zero_add, List.drop_of_length_le (by omega)] at hx
 rw [hx]; rfl
set_option maxHeartbeats 1000000 in
theorem prn_c {S w0 L} (y : UInt8) : Fn Tryd.prog 44 #[.int .u8 (y.toNat : Int)] S w0 L fun v L' => v = .bool (prn y) ∧ L = L' := by
 have hy : y.toNat < 256 := y.toNat_lt
 have he : prn y = decide (32 < y.toNat ∧ y.toNat < 127 ∧ y.toNat ≠ 35) := rfl
 have he' := Lib.hid he
 clear he
 generalize y.toNat = n at *
 refine Fn1 Tryd.func44 Tryd.ntmps44 rfl rfl ?_
 repeat' (first | refine h0t ?_ | refine h0e ?_ | refine h1e ?_ | (refine gR 0 (p_a (h:=h0a ?_))) | (refine gR 1 (p_m (h:=p_e (q_b (r:=by exact h2d)) (h:=q_m ?_))) <;> (try refine h0b ?_; ((refine h0d rfl rfl (fun hc => ?_) (fun hc => ?_)) <;> (try subst hc) <;> (first | refine h0k rfl rfl rfl rfl ?_ | (refine h0f rfl rfl rfl ?_; (refine q_k (h0g rfl) ?_))))) <;> (try refine h0b ?_; (first | refine h0k rfl rfl rfl rfl ?_ | (refine h0f rfl rfl rfl ?_; (refine q_k (q_b (r:=by exact h2m)) ?_)))) <;> (try refine p_p (h:=q_m ?_)) <;> (try refine h0b ?_; (first | refine h0k rfl rfl rfl rfl ?_ | ((refine h0d rfl rfl (fun hc => ?_) (fun hc => ?_)) <;> (try subst hc) <;> (first | refine h0k rfl rfl rfl rfl ?_ | (refine h0f rfl rfl rfl ?_; (refine q_k (h0g rfl) ?_)))))) <;> (try refine h0b ?_; (first | refine h0k rfl rfl rfl rfl ?_ | (refine h0f rfl rfl rfl ?_; (refine q_k (q_b (r:=by exact h2r)) ?_)))) <;> (try refine p_p (h:=p_a (h:=h0a ?_)))))
 all_goals
  (refine h0z Tryd.results44 (.tmp rfl .nil) ?_)
  refine ⟨_, ⟨?_, rfl⟩, by intro w H; refine H.sub ?_; (try simp only [zzC, zzN]); repeat (exact List.Sublist.refl _)⟩
  rw [he'.out]
  refine congrArg Value.bool ?_
  first | (refine decide_eq_decide.2 ?_; omega) | (symm; apply decide_eq_false; omega) | (symm; apply decide_eq_true; omega)
set_option maxHeartbeats 2000000 in
theorem path_c {S w0 L} (s : ByteArray) (hs : s.size ≤ 1000) : Fn Tryd.prog 38 #[.string s] S w0 L fun v L' => v = .bool (pathF (lB s)) ∧ L = L' := by
 have hl := lB_len s
 refine Fn1 Tryd.func38 Tryd.ntmps38 rfl rfl ?_
 by_cases h0 : s.size = 0
 ·have hp : pathF (lB s) = false := by
   have : lB s = [] := List.eq_nil_of_length_eq_zero (by omega)
   rw [this]; rfl
  have hp' := Lib.hid hp
  clear hp
  repeat' (first | refine h0t ?_ | refine h0e ?_ | refine h0x ?_ | refine h1e ?_ | refine h0l rfl ?_ | (refine gR 0 (p_a (h:=h0a ?_))) | (refine gR 1 (p_m (h:=p_e (h0h rfl (fun _ => BigFrame.builtin_len ..) (h0n Tryd.underlying9)) (h:=p_e (q_b (r:=by exact h0q q_o)) (h:=p_m (h:=p_z (h:=p_z (h:=p_z (h:=p_p (h:=p_m (h:=p_z (h:=p_z (h:=p_z (h:=p_p (h:=h0a ?_))))))))))))))) | (refine gR 2 (p_a (h:=h0a ?_))))
  all_goals
   (refine h0z Tryd.results38 (.tmp rfl .nil) ?_)
   exact ⟨_, ⟨by rw [hp'.out]; rfl, rfl⟩, by intro w H; refine H.sub ?_; (try simp only [zzC, zzN]); repeat (exact List.Sublist.refl _)⟩
 obtain ⟨x, hx, hxd⟩ := ba_ix (s:=s) (k:=0) (by omega)
 have hxi : s[(0 : Int).toNat]? = some x := hx
 obtain ⟨hhd, htl⟩ := pth_tail hxd
 by_cases h120 : s.size > 120
 ·have hp : pathF (lB s) = false := by
   unfold pathF
   rw [if_neg (by intro e; rw [e] at hl; simp at hl; omega), if_pos (by omega)]
  have hp' := Lib.hid hp
  clear hp
  repeat' (first | refine h0t ?_ | refine h0e ?_ | refine h0x ?_ | refine h1e ?_ | refine h0l rfl ?_ | (refine gR 0 (p_a (h:=h0a ?_))) | (refine gR 1 (p_m (h:=p_e (h0h rfl (fun _ => BigFrame.builtin_len ..) (h0n Tryd.underlying9)) (h:=p_e (q_b (r:=by exact h0r q_o)) (h:=p_m (h:=p_y (h0g rfl) (h:=p_y (h0h rfl (fun _ => BigFrame.builtin_len ..) (h0n Tryd.underlying9)) (h:=p_y (q_b (r:=by exact h1c q_o)) (h:=p_p (h:=p_m (h:=p_z (h:=p_z (h:=p_z (h:=p_p (h:=h0a ?_))))))))))))))) | (refine gR 2 (p_a (h:=h0a ?_))))
  all_goals
   (refine h0z Tryd.results38 (.tmp rfl .nil) ?_)
   exact ⟨_, ⟨by rw [hp'.out]; rfl, rfl⟩, by intro w H; refine H.sub ?_; (try simp only [zzC, zzN]); repeat (exact List.Sublist.refl _)⟩
 by_cases h47 : x = 47
 case neg =>
  have hp : pathF (lB s) = false := by
   unfold pathF
   rw [if_neg (by intro e; rw [e] at hhd; simp at hhd; exact h47 hhd.symm), if_pos (by right; right; rw [hhd]; simpa using h47)]
  have hn : ¬ (x.toNat : Int) = 47 := u8_ne h47
  have hp' := Lib.hid hp
  clear hp
  repeat' (first | refine h0t ?_ | refine h0e ?_ | refine h0x ?_ | refine h1e ?_ | refine h0l rfl ?_ | (refine gR 0 (p_a (h:=h0a ?_))) | (refine gR 1 (p_m (h:=p_e (h0h rfl (fun _ => BigFrame.builtin_len ..) (h0n Tryd.underlying9)) (h:=p_e (q_b (r:=by exact h0r q_o)) (h:=p_m (h:=p_y (h0g rfl) (h:=p_y (h0h rfl (fun _ => BigFrame.builtin_len ..) (h0n Tryd.underlying9)) (h:=p_y (q_b (r:=by exact h0u q_o)) (h:=p_p (h:=p_m (h:=p_y (h0g rfl) (h:=p_y (by apply h1s; exact rfl; exact rfl; (focus (apply h1t Tryd.underlying9; omega; (with_reducible assumption)))) (h:=p_y (q_b (r:=by exact h1k q_o)) (h:=p_p (h:=h0a ?_))))))))))))))) | (refine gR 2 (p_a (h:=h0a ?_))))
  all_goals
   (refine h0z Tryd.results38 (.tmp rfl .nil) ?_)
   exact ⟨_, ⟨by rw [hp'.out]; rfl, rfl⟩, by intro w H; refine H.sub ?_; (try simp only [zzC, zzN]); repeat (exact List.Sublist.refl _)⟩
 subst h47
 have h47n : (((47 : UInt8).toNat : Nat) : Int) = 47 := rfl
 by_cases hsl : s = ⟨#[47]⟩
 ·subst hsl
  repeat' (first | refine h0t ?_ | refine h0e ?_ | refine h0x ?_ | refine h1a ?_ | refine h1e ?_ | refine h0l rfl ?_ | refine h0m rfl ?_ | (refine gR 0 (p_a (h:=h0a ?_))) | (refine gR 1 (p_m (h:=p_e (h0h rfl (fun _ => BigFrame.builtin_len ..) (h0n Tryd.underlying9)) (h:=p_e (q_b (r:=by exact h0r q_o)) (h:=p_m (h:=p_y (h0g rfl) (h:=p_y (h0h rfl (fun _ => BigFrame.builtin_len ..) (h0n Tryd.underlying9)) (h:=p_y (q_b (r:=by exact h0u q_o)) (h:=p_p (h:=p_m (h:=p_y (h0g rfl) (h:=q_y (by apply h1s; exact rfl; exact rfl; (focus (apply h1t Tryd.underlying9; omega; (with_reducible assumption)))) ?_))))))))))) <;> (try refine q_y (by exact q_b (r:=by refine h1g ?_; first | rfl | (with_reducible assumption) | (decide; done) | omega)) ?_) <;> (try refine p_p (h:=h0a ?_))) | (refine gR 3 (p_m (h:=p_e (q_b (r:=by exact h3r)) (h:=h0a ?_)))) | (refine gR 4 (p_a (h:=h0a ?_))))
  all_goals
   (refine h0z Tryd.results38 (.tmp rfl .nil) ?_)
   exact ⟨_, ⟨rfl, rfl⟩, by intro w H; refine H.sub ?_; (try simp only [zzC, zzN]); repeat (exact List.Sublist.refl _)⟩
 have h2 : 2 ≤ s.size := by
  rcases Nat.lt_or_ge s.size 2 with h | h
  ·exact absurd rfl (one_slash (by omega) hxd hsl)
  ·exact h
 have hp : pathF (lB s) = ((lB s).all prn && (h2x 47 ((lB s).drop 1)).all h4k) := by
  have h47 : prn 47 = true := by decide
  have hall : (lB s).all prn = ((lB s).drop 1).all prn := by
   have := hxd
   rw [List.drop_zero, Nat.zero_add] at this
   conv => lhs; rw [this]
   rw [List.all_cons, h47, Bool.true_and]
  unfold pathF
  rw [if_neg (pth_slash s hsl), if_neg (by rw [hhd]; simp; omega), refGo_split, htl, hall, all_ne (splitC_ne 47 _), List.nil_append]
 have hp' := Lib.hid hp
 clear hp
 repeat' (first | (refine h2g (id:=0) ?_) | refine h0t ?_ | refine h0e ?_ | refine h1a ?_ | refine h0m rfl ?_ | (refine gR 0 (p_a (h:=h0a ?_))) | (refine gR 1 (p_m (h:=p_e (h0h rfl (fun _ => BigFrame.builtin_len ..) (h0n Tryd.underlying9)) (h:=p_e (q_b (r:=by exact h0r q_o)) (h:=p_m (h:=p_y (h0g rfl) (h:=p_y (h0h rfl (fun _ => BigFrame.builtin_len ..) (h0n Tryd.underlying9)) (h:=p_y (q_b (r:=by exact h0u q_o)) (h:=p_p (h:=p_m (h:=p_y (h0g rfl) (h:=q_y (by apply h1s; exact rfl; exact rfl; (focus (apply h1t Tryd.underlying9; omega; (with_reducible assumption)))) ?_))))))))))) <;> (try refine q_y (by exact q_b (r:=by refine h1g ?_; first | rfl | (with_reducible assumption) | (decide; done) | omega)) ?_) <;> (try refine p_p (h:=h0a ?_))) | (refine gR 3 (p_m (h:=p_e (q_b (r:=by apply h1z; exact decide_eq_false (by assumption))) (h:=h0a ?_)))) | (refine gR 5 (p_m (h:=p_e (h0h rfl (fun _ => BigFrame.builtin_len ..) (h0n Tryd.underlying9)) (h:=p_m (h:=h0a ?_))))))
 refine ⟨?_⟩
 refine h0o ?_
 refine h2i (γ:=Nat) (fun k => k ≤ s.size ∧ (lB s).all prn = ((lB s).drop k).all prn) (fun k => s.size - k) (fun k => [(23, .int .i64 (k : Nat))]) [(0, _), (22, _)]
  (fun _ => L) 0 (.cons rfl (.cons rfl .nil)) ⟨Nat.zero_le _, rfl⟩ (by (focus (repeat (first | exact Sub.nil | refine Sub.cons rfl ?_)))) c_20 ?_
 rintro k ⟨(hk : k ≤ s.size), hgo⟩
 have hgo' := Lib.hid hgo
 clear hgo
 by_cases hlt : k < s.size
 ·obtain ⟨y, hy, hyd⟩ := ba_ix hlt
  have hyi : s[((k : Nat) : Int).toNat]? = some y := by rw [Int.toNat_natCast]; exact hy
  have hg := hgo'.out
  rw [hyd, List.all_cons] at hg
  have hg' := Lib.hid hg
  clear hyd hg
  have hpc := fun (L : List Blk) => prn_c (S:=S) (w0:=w0) (L:=L) y
  cases hpy : prn y
  ·rw [hpy] at hpc hg'
   have hf : (lB s).all prn = false := by rw [hg'.out]; rfl
   rw [hf] at hp'
   repeat' (first | refine h0t ?_ | refine h0e ?_ | refine h1x ?_ | refine h0x ?_ | refine h1m ?_ | refine h0o ?_ | refine h1a ?_ | refine h1e ?_ | refine h0l rfl ?_ | (refine gR 6 (p_e (q_b (r:=by exact h0q q_o)) (h:=h0a ?_))) | (refine gR 7 (p_m (h:=p_a (h:=h0a ?_)))) | (refine gR 8 (p_m (h:=p_m (h:=q_e (by apply h1s; exact rfl; exact rfl; (focus (apply h1t Tryd.underlying9; omega; (with_reducible assumption)))) ?_))) <;> (try refine h0b ?_; (refine h4a (F:=44) (by kernel_rfl) rfl rfl (hpc _) ?_; rintro _ _ ⟨rfl, rfl⟩)) <;> (try refine p_e (by apply h3g; exact rfl; exact h1y) (h:=h0a ?_))) | (refine gR 9 (p_a (h:=h0a ?_))))
   all_goals
    (refine h0z Tryd.results38 (.tmp rfl .nil) ?_)
    exact ⟨_, ⟨by rw [hp'.out]; rfl, rfl⟩, by intro w H; refine H.sub ?_; (try simp only [zzC, zzN]); repeat (exact List.Sublist.refl _)⟩
  ·rw [hpy] at hpc hg'
   repeat' (first | refine h0t ?_ | refine h0e ?_ | refine h1d ?_ | refine h1h ?_ | refine h0o ?_ | refine h1a ?_ | refine h0l rfl ?_ | refine h0m rfl ?_ | (refine gR 6 (p_e (q_b (r:=by exact h0q q_o)) (h:=h0a ?_))) | (refine gR 7 (p_m (h:=p_a (h:=h0a ?_)))) | (refine gR 8 (p_m (h:=p_m (h:=q_e (by apply h1s; exact rfl; exact rfl; (focus (apply h1t Tryd.underlying9; omega; (with_reducible assumption)))) ?_))) <;> (try refine h0b ?_; (refine h4a (F:=44) (by kernel_rfl) rfl rfl (hpc _) ?_; rintro _ _ ⟨rfl, rfl⟩)) <;> (try refine p_e (by apply h3g; exact rfl; exact h1f) (h:=h0a ?_))) | (refine gR 10 ?_ <;> (try refine q_e (q_b (r:=by apply h1q; exact c_4; (focus (refine IntWalk.i64_in _ ?_; omega)))) ?_) <;> (try refine p_m (h:=h0a ?_))))
   all_goals
    refine h1p (k + 1) ⟨⟨by show k + 1 ≤ _; omega, by rw [hg'.out, Bool.true_and]⟩, by show _ - (k + 1) < _ - k; omega⟩ (by (focus (repeat (first | exact Sub.nil | refine Sub.cons rfl ?_)))) c_20
 ·obtain rfl : k = s.size := by omega
  have hall : (lB s).all prn = true := by rw [hgo'.out, List.drop_of_length_le (by omega)]; rfl
  rw [hall, Bool.true_and] at hp'
  have hex : s.extract 1 s.size = mB8 ((lB s).drop 1) := ext_drop s 1
  have hlb : lB (s.extract 1 s.size) = (lB s).drop 1 := by rw [hex, lB_mB8]
  have hsp := fun (L : List Blk) => split1_c (S:=S) (w0:=w0) (L:=L) (s.extract 1 s.size) (by rw [← lB_len, hlb, List.length_drop]; omega) 47
  rw [hlb] at hsp
  have hPl : (h2x 47 ((lB s).drop 1)).length ≤ 1001 := by rw [splitC_len]; have := List.count_le_length (a:=(47 : UInt8)) (l:=(lB s).drop 1); rw [List.length_drop] at this; omega
  generalize h2x 47 ((lB s).drop 1) = P at *
  repeat' (first | (refine h2g (id:=2) ?_) | refine h0t ?_ | refine h0e ?_ | refine h1w ?_ | refine h1o ?_ | refine h1v ?_ | refine h2j ?_ | refine h0m rfl ?_ | (refine gR 6 (p_e (q_b (r:=by exact h0r q_o)) (h:=h0a ?_))) | (refine gR 11 (p_m (h:=q_e (by apply E_slice; exact rfl; exact rfl; exact rfl; exact rfl; (focus (apply r_sl_str Tryd.underlying9; (focus (apply bd_10; omega; omega; exact c_0)); exact rfl))) ?_)) <;> (try refine h0b ?_; (refine h4a (F:=45) (by kernel_rfl) rfl rfl (hsp _) ?_; rintro _ _ ⟨nb, rfl, rfl⟩)) <;> (try refine p_e (by apply h0h; exact rfl; exact (fun _ => BigFrame.builtin_len ..); apply h0j Tryd.underlying89; exact h3d) (h:=p_m (h:=h0a ?_)))))
  refine ⟨?_⟩
  refine h0o ?_
  refine h2i (γ:=Nat) (fun k => k ≤ P.length ∧ P.all h4k = (P.drop k).all h4k) (fun k => P.length - k) (fun k => [(36, .int .i64 (k : Nat))]) [(34, _), (35, _)]
   (fun _ => ⟨true, nb, .cells (strs P).toArray 9 (0, 0)⟩ :: L) 0 (.cons rfl (.cons rfl .nil)) ⟨Nat.zero_le _, rfl⟩ (by (focus (repeat (first | exact Sub.nil | refine Sub.cons rfl ?_)))) (fun _ H => H) ?_
  rintro k ⟨(hk : k ≤ P.length), hgo⟩
  have hgo' := Lib.hid hgo
  clear hgo
  by_cases hlt : k < P.length
  ·have hg := hgo'.out
   rw [List.drop_eq_getElem_cons hlt, List.all_cons] at hg
   have hcell : (strs P).toArray.toList[k]? = some (.string (mB8 P[k])) := by
    show (strs P)[k]? = _
    unfold strs
    rw [List.getElem?_map, List.getElem?_eq_getElem hlt]; rfl
   have hpsz : (mB8 P[k]).size = P[k].length := by rw [← lB_len, lB_mB8]
   generalize P[k] = p at *
   have hg' := Lib.hid hg
   clear hg
   by_cases e0 : p = [] ∨ p = [46] ∨ p = [46, 46] ∨ 14 < p.length
   ·have hf : P.all h4k = false := by rw [hg'.out]; have e9 : h4k p = false := decide_eq_false (fun h => h e0); rw [e9]; rfl
    have hf' := Lib.hid hf
    clear hf
    rcases e0 with rfl | rfl | rfl | e0
    ·repeat' (first | refine h0t ?_ | refine h0e ?_ | refine h1x ?_ | refine h0x ?_ | refine h1m ?_ | refine h0o ?_ | refine h1a ?_ | refine h1e ?_ | refine h0l rfl ?_ | (refine gR 12 (p_e (q_b (r:=by exact h0q q_o)) (h:=h0a ?_))) | (refine gR 13 (p_e (by apply h0s; exact rfl; exact rfl; (focus (apply h2h Tryd.underlying89 sz_9; omega; omega; exact c_1))) (h:=p_e (by apply h2b (t:=9); exact rfl; exact fd0; kernel_rfl; kernel_rfl; (with_reducible assumption)) (h:=p_a (h:=h0a ?_))))) | (refine gR 14 (p_m (h:=p_e (q_b (r:=by exact h3r)) (h:=p_m (h:=p_z (h:=p_z (h:=p_p (h:=p_m (h:=p_z (h:=p_z (h:=p_p (h:=p_m (h:=p_z (h:=p_z (h:=p_z (h:=p_p (h:=h0a ?_))))))))))))))))) | (refine gR 15 (p_a (h:=h0a ?_))))
     (refine h0z Tryd.results38 (.tmp rfl .nil) ?_)
     exact ⟨_, ⟨by rw [hp'.out, hf'.out]; rfl, rfl⟩, by intro w H; refine H.sub ?_; (try simp only [zzC, zzN]); repeat (first | exact List.Sublist.refl _ | refine List.Sublist.cons _ ?_)⟩
    ·repeat' (first | refine h0t ?_ | refine h0e ?_ | refine h1x ?_ | refine h0x ?_ | refine h1m ?_ | refine h0o ?_ | refine h1a ?_ | refine h1e ?_ | refine h0l rfl ?_ | (refine gR 12 (p_e (q_b (r:=by exact h0q q_o)) (h:=h0a ?_))) | (refine gR 13 (p_e (by apply h0s; exact rfl; exact rfl; (focus (apply h2h Tryd.underlying89 sz_9; omega; omega; exact c_1))) (h:=p_e (by apply h2b (t:=9); exact rfl; exact fd0; kernel_rfl; kernel_rfl; (with_reducible assumption)) (h:=p_a (h:=h0a ?_))))) | (refine gR 14 (p_m (h:=p_e (q_b (r:=by apply h1z; (focus (decide)))) (h:=p_m (h:=p_y (h0g rfl) (h:=p_y (q_b (r:=by exact h3r)) (h:=p_p (h:=p_m (h:=p_z (h:=p_z (h:=p_p (h:=p_m (h:=p_z (h:=p_z (h:=p_z (h:=p_p (h:=h0a ?_))))))))))))))))) | (refine gR 15 (p_a (h:=h0a ?_))))
     (refine h0z Tryd.results38 (.tmp rfl .nil) ?_)
     exact ⟨_, ⟨by rw [hp'.out, hf'.out]; rfl, rfl⟩, by intro w H; refine H.sub ?_; (try simp only [zzC, zzN]); repeat (first | exact List.Sublist.refl _ | refine List.Sublist.cons _ ?_)⟩
    ·repeat' (first | refine h0t ?_ | refine h0e ?_ | refine h1x ?_ | refine h0x ?_ | refine h1m ?_ | refine h0o ?_ | refine h1a ?_ | refine h1e ?_ | refine h0l rfl ?_ | (refine gR 12 (p_e (q_b (r:=by exact h0q q_o)) (h:=h0a ?_))) | (refine gR 13 (p_e (by apply h0s; exact rfl; exact rfl; (focus (apply h2h Tryd.underlying89 sz_9; omega; omega; exact c_1))) (h:=p_e (by apply h2b (t:=9); exact rfl; exact fd0; kernel_rfl; kernel_rfl; (with_reducible assumption)) (h:=p_a (h:=h0a ?_))))) | (refine gR 14 (p_m (h:=p_e (q_b (r:=by apply h1z; (focus (decide)))) (h:=p_m (h:=p_y (h0g rfl) (h:=p_y (q_b (r:=by apply h1z; (focus (decide)))) (h:=p_p (h:=p_m (h:=p_y (h0g rfl) (h:=p_y (q_b (r:=by exact h3r)) (h:=p_p (h:=p_m (h:=p_z (h:=p_z (h:=p_z (h:=p_p (h:=h0a ?_))))))))))))))))) | (refine gR 15 (p_a (h:=h0a ?_))))
     (refine h0z Tryd.results38 (.tmp rfl .nil) ?_)
     exact ⟨_, ⟨by rw [hp'.out, hf'.out]; rfl, rfl⟩, by intro w H; refine H.sub ?_; (try simp only [zzC, zzN]); repeat (first | exact List.Sublist.refl _ | refine List.Sublist.cons _ ?_)⟩
    ·have n0 : ¬ mB8 p = ⟨#[]⟩ := by intro e; have h9 := congrArg ByteArray.size e; rw [hpsz] at h9; have h8 : p.length = 0 := h9; omega
     have n1 : ¬ mB8 p = ⟨#[46]⟩ := by intro e; have h9 := congrArg ByteArray.size e; rw [hpsz] at h9; have h8 : p.length = 1 := h9; omega
     have n2 : ¬ mB8 p = ⟨#[46, 46]⟩ := by intro e; have h9 := congrArg ByteArray.size e; rw [hpsz] at h9; have h8 : p.length = 2 := h9; omega
     repeat' (first | refine h0t ?_ | refine h0e ?_ | refine h1x ?_ | refine h0x ?_ | refine h1m ?_ | refine h0o ?_ | refine h1a ?_ | refine h1e ?_ | refine h0l rfl ?_ | (refine gR 12 (p_e (q_b (r:=by exact h0q q_o)) (h:=h0a ?_))) | (refine gR 13 (p_e (by apply h0s; exact rfl; exact rfl; (focus (apply h2h Tryd.underlying89 sz_9; omega; omega; exact c_1))) (h:=p_e (by apply h2b (t:=9); exact rfl; exact fd0; kernel_rfl; kernel_rfl; (with_reducible assumption)) (h:=p_a (h:=h0a ?_))))) | (refine gR 14 (p_m (h:=p_e (q_b (r:=by apply h1z; exact decide_eq_false (by assumption))) (h:=p_m (h:=p_y (h0g rfl) (h:=p_y (q_b (r:=by apply h1z; exact decide_eq_false (by assumption))) (h:=p_p (h:=p_m (h:=p_y (h0g rfl) (h:=p_y (q_b (r:=by apply h1z; exact decide_eq_false (by assumption))) (h:=p_p (h:=p_m (h:=p_y (h0g rfl) (h:=p_y (h0h rfl (fun _ => BigFrame.builtin_len ..) (h0n Tryd.underlying9)) (h:=p_y (q_b (r:=by exact h1c q_o)) (h:=p_p (h:=h0a ?_))))))))))))))))) | (refine gR 15 (p_a (h:=h0a ?_))))
     (refine h0z Tryd.results38 (.tmp rfl .nil) ?_)
     exact ⟨_, ⟨by rw [hp'.out, hf'.out]; rfl, rfl⟩, by intro w H; refine H.sub ?_; (try simp only [zzC, zzN]); repeat (first | exact List.Sublist.refl _ | refine List.Sublist.cons _ ?_)⟩
   ·have hok : P.all h4k = (P.drop (k + 1)).all h4k := by rw [hg'.out]; have e9 : h4k p = true := decide_eq_true e0; rw [e9, Bool.true_and]
    have n0 : ¬ mB8 p = ⟨#[]⟩ := fun e => e0 (.inl (by rw [← lB_mB8 p, e]; rfl))
    have n1 : ¬ mB8 p = ⟨#[46]⟩ := fun e => e0 (.inr (.inl (by rw [← lB_mB8 p, e]; rfl)))
    have n2 : ¬ mB8 p = ⟨#[46, 46]⟩ := fun e => e0 (.inr (.inr (.inl (by rw [← lB_mB8 p, e]; rfl))))
    have n3 : ¬ 14 < p.length := fun e => e0 (.inr (.inr (.inr e)))
    have hok' := Lib.hid hok
    clear hok e0
    repeat' (first | refine h0t ?_ | refine h0e ?_ | refine h1d ?_ | refine h1h ?_ | refine h0o ?_ | refine h1a ?_ | refine h0l rfl ?_ | refine h0m rfl ?_ | (refine gR 12 (p_e (q_b (r:=by exact h0q q_o)) (h:=h0a ?_))) | (refine gR 13 (p_e (by apply h0s; exact rfl; exact rfl; (focus (apply h2h Tryd.underlying89 sz_9; omega; omega; exact c_1))) (h:=p_e (by apply h2b (t:=9); exact rfl; exact fd0; kernel_rfl; kernel_rfl; (with_reducible assumption)) (h:=p_a (h:=h0a ?_))))) | (refine gR 14 (p_m (h:=p_e (q_b (r:=by apply h1z; exact decide_eq_false (by assumption))) (h:=p_m (h:=p_y (h0g rfl) (h:=p_y (q_b (r:=by apply h1z; exact decide_eq_false (by assumption))) (h:=p_p (h:=p_m (h:=p_y (h0g rfl) (h:=p_y (q_b (r:=by apply h1z; exact decide_eq_false (by assumption))) (h:=p_p (h:=p_m (h:=p_y (h0g rfl) (h:=p_y (h0h rfl (fun _ => BigFrame.builtin_len ..) (h0n Tryd.underlying9)) (h:=p_y (q_b (r:=by exact h0u q_o)) (h:=p_p (h:=h0a ?_))))))))))))))))) | (refine gR 16 ?_ <;> (try refine q_e (q_b (r:=by apply h1q; exact c_4; (focus (refine IntWalk.i64_in _ ?_; omega)))) ?_) <;> (try refine p_m (h:=h0a ?_))))
    refine h1p (k + 1) ⟨⟨by show k + 1 ≤ _; omega, hok'.out⟩, by show _ - (k + 1) < _ - k; omega⟩ (by (focus (repeat (first | exact Sub.nil | refine Sub.cons rfl ?_)))) (fun _ H => H)
  ·obtain rfl : k = P.length := by omega
   have hf : P.all h4k = true := by rw [hgo'.out, List.drop_of_length_le (by omega)]; rfl
   have hf' := Lib.hid hf
   clear hf
   repeat' (first | refine h0t ?_ | refine h0e ?_ | refine h1w ?_ | refine h1o ?_ | refine h1v ?_ | refine h2j ?_ | refine h1e ?_ | refine h0m rfl ?_ | (refine gR 12 (p_e (q_b (r:=by exact h0r q_o)) (h:=h0a ?_))) | (refine gR 17 (p_a (h:=h0a ?_))))
   (refine h0z Tryd.results38 (.tmp rfl .nil) ?_)
   exact ⟨_, ⟨by rw [hp'.out, hf'.out]; rfl, rfl⟩, by intro w H; refine H.sub ?_; (try simp only [zzC, zzN]); repeat (first | exact List.Sublist.refl _ | refine List.Sublist.cons _ ?_)⟩
structure RpI (s : ByteArray) (g : Nat × List UInt8) : Prop where
 lo : 1 ≤ g.1
 hi : g.1 ≤ s.size + 1
 pl : g.2.length ≤ g.1
 go : if g.1 ≤ s.size then pathF (lB s) = refGo g.2 ((lB s).drop g.1) else pathF (lB s) = true
set_option maxHeartbeats 4000000 in
theorem rpath_c {S w0 L} (s : ByteArray) (hs : s.size ≤ 1000) : Fn Tryd.prog 30 #[.string s] S w0 L fun v L' => v = .bool (pathF (lB s)) ∧ L = L' := by
 have hl := lB_len s
 refine Fn1 Tryd.func30 Tryd.ntmps30 rfl rfl ?_
 by_cases hsl : s = ⟨#[47]⟩
 ·subst hsl
  repeat' (first | refine h0t ?_ | refine h0e ?_ | refine h0x ?_ | refine h1e ?_ | refine h0l rfl ?_ | (refine gR 0 (p_a (h:=h0a ?_))) | (refine gR 1 (p_m (h:=p_e (q_b (r:=by exact h3r)) (h:=h0a ?_)))) | (refine gR 2 (p_a (h:=h0a ?_))))
  all_goals
   (refine h0z Tryd.results30 (.tmp rfl .nil) ?_)
   exact ⟨_, ⟨rfl, rfl⟩, by intro w H; refine H.sub ?_; (try simp only [zzC, zzN]); repeat (exact List.Sublist.refl _)⟩
 by_cases h0 : s.size < 2 ∨ s.size > 120
 ·have hp : pathF (lB s) = false := by
   unfold pathF
   rw [if_neg (pth_slash s hsl), if_pos (by omega)]
  have hp' := Lib.hid hp
  clear hp
  rcases h0 with h0 | h0
  ·repeat' (first | refine h0t ?_ | refine h0e ?_ | refine h0x ?_ | refine h1a ?_ | refine h1e ?_ | refine h0l rfl ?_ | refine h0m rfl ?_ | (refine gR 0 (p_a (h:=h0a ?_))) | (refine gR 1 (p_m (h:=p_e (q_b (r:=by apply h1z; exact decide_eq_false (by assumption))) (h:=h0a ?_)))) | (refine gR 3 (p_m (h:=p_e (h0h rfl (fun _ => BigFrame.builtin_len ..) (h0n Tryd.underlying9)) (h:=p_e (q_b (r:=by exact h0q q_o)) (h:=p_m (h:=p_z (h:=p_z (h:=p_z (h:=p_p (h:=p_m (h:=p_z (h:=p_z (h:=p_z (h:=p_p (h:=h0a ?_))))))))))))))) | (refine gR 4 (p_a (h:=h0a ?_))))
   (refine h0z Tryd.results30 (.tmp rfl .nil) ?_)
   exact ⟨_, ⟨by rw [hp'.out]; rfl, rfl⟩, by intro w H; refine H.sub ?_; (try simp only [zzC, zzN]); repeat (exact List.Sublist.refl _)⟩
  ·repeat' (first | refine h0t ?_ | refine h0e ?_ | refine h0x ?_ | refine h1a ?_ | refine h1e ?_ | refine h0l rfl ?_ | refine h0m rfl ?_ | (refine gR 0 (p_a (h:=h0a ?_))) | (refine gR 1 (p_m (h:=p_e (q_b (r:=by apply h1z; exact decide_eq_false (by assumption))) (h:=h0a ?_)))) | (refine gR 3 (p_m (h:=p_e (h0h rfl (fun _ => BigFrame.builtin_len ..) (h0n Tryd.underlying9)) (h:=p_e (q_b (r:=by exact h0r q_o)) (h:=p_m (h:=p_y (h0g rfl) (h:=p_y (h0h rfl (fun _ => BigFrame.builtin_len ..) (h0n Tryd.underlying9)) (h:=p_y (q_b (r:=by exact h1c q_o)) (h:=p_p (h:=p_m (h:=p_z (h:=p_z (h:=p_z (h:=p_p (h:=h0a ?_))))))))))))))) | (refine gR 4 (p_a (h:=h0a ?_))))
   (refine h0z Tryd.results30 (.tmp rfl .nil) ?_)
   exact ⟨_, ⟨by rw [hp'.out]; rfl, rfl⟩, by intro w H; refine H.sub ?_; (try simp only [zzC, zzN]); repeat (exact List.Sublist.refl _)⟩
 obtain ⟨x, hx, hxd⟩ := ba_ix (s:=s) (k:=0) (by omega)
 have hxi : s[(0 : Int).toNat]? = some x := hx
 obtain ⟨hhd, htl⟩ := pth_tail hxd
 have hge : 2 ≤ s.size := by omega
 have hle : s.size ≤ 120 := by omega
 clear h0
 by_cases h47 : x = 47
 case neg =>
  have hp : pathF (lB s) = false := by
   unfold pathF
   rw [if_neg (pth_slash s hsl), if_pos (by right; right; rw [hhd]; simpa using h47)]
  have hn : ¬ (x.toNat : Int) = 47 := u8_ne h47
  have hp' := Lib.hid hp
  clear hp
  repeat' (first | refine h0t ?_ | refine h0e ?_ | refine h0x ?_ | refine h1a ?_ | refine h1e ?_ | refine h0l rfl ?_ | refine h0m rfl ?_ | (refine gR 0 (p_a (h:=h0a ?_))) | (refine gR 1 (p_m (h:=p_e (q_b (r:=by apply h1z; exact decide_eq_false (by assumption))) (h:=h0a ?_)))) | (refine gR 3 (p_m (h:=p_e (h0h rfl (fun _ => BigFrame.builtin_len ..) (h0n Tryd.underlying9)) (h:=p_e (q_b (r:=by exact h0r q_o)) (h:=p_m (h:=p_y (h0g rfl) (h:=p_y (h0h rfl (fun _ => BigFrame.builtin_len ..) (h0n Tryd.underlying9)) (h:=p_y (q_b (r:=by exact h0u q_o)) (h:=p_p (h:=p_m (h:=p_y (h0g rfl) (h:=p_y (by apply h1s; exact rfl; exact rfl; (focus (apply h1t Tryd.underlying9; omega; (with_reducible assumption)))) (h:=p_y (q_b (r:=by exact h1k q_o)) (h:=p_p (h:=h0a ?_))))))))))))))) | (refine gR 4 (p_a (h:=h0a ?_))))
  (refine h0z Tryd.results30 (.tmp rfl .nil) ?_)
  exact ⟨_, ⟨by rw [hp'.out]; rfl, rfl⟩, by intro w H; refine H.sub ?_; (try simp only [zzC, zzN]); repeat (exact List.Sublist.refl _)⟩
 subst h47
 have h47n : (((47 : UInt8).toNat : Nat) : Int) = 47 := rfl
 have hp : pathF (lB s) = refGo [] ((lB s).drop 1) := by
  unfold pathF
  rw [if_neg (pth_slash s hsl), if_neg (by rw [hhd]; simp; omega), htl]
 repeat' (first | (refine h2g (id:=0) ?_) | refine h0t ?_ | refine h0e ?_ | refine h1a ?_ | refine h0m rfl ?_ | (refine gR 0 (p_a (h:=h0a ?_))) | (refine gR 1 (p_m (h:=p_e (q_b (r:=by apply h1z; exact decide_eq_false (by assumption))) (h:=h0a ?_)))) | (refine gR 3 (p_m (h:=p_e (h0h rfl (fun _ => BigFrame.builtin_len ..) (h0n Tryd.underlying9)) (h:=p_e (q_b (r:=by exact h0r q_o)) (h:=p_m (h:=p_y (h0g rfl) (h:=p_y (h0h rfl (fun _ => BigFrame.builtin_len ..) (h0n Tryd.underlying9)) (h:=p_y (q_b (r:=by exact h0u q_o)) (h:=p_p (h:=p_m (h:=p_y (h0g rfl) (h:=q_y (by apply h1s; exact rfl; exact rfl; (focus (apply h1t Tryd.underlying9; omega; (with_reducible assumption)))) ?_))))))))))) <;> (try refine q_y (by exact q_b (r:=by refine h1g ?_; first | rfl | (with_reducible assumption) | (decide; done) | omega)) ?_) <;> (try refine p_p (h:=h0a ?_))) | (refine gR 5 (p_a (h:=h0a ?_))) | (refine gR 6 (p_a (h:=h0a ?_))))
 refine ⟨?_⟩
 refine h0o ?_
 refine h2i (γ:=Nat × List UInt8) (RpI s) (fun g => s.size + 1 - g.1) (fun g => [(3, .string (mB8 g.2)), (4, .int .i64 (g.1 : Nat))]) [(0, _)]
  (fun _ => L) (1, []) (.cons rfl .nil) ⟨Nat.le_refl _, by dsimp only; omega, Nat.zero_le _, by rw [if_pos (by dsimp only; omega)]; exact hp⟩ (by (focus (repeat (first | exact Sub.nil | refine Sub.cons rfl ?_)))) c_20 ?_
 rintro ⟨i, p⟩ ⟨hi1, hi2, hpl, hgo⟩
 dsimp only at hi1 hi2 hpl hgo ⊢
 clear hp
 by_cases hend : i = s.size + 1
 ·subst hend
  rw [if_neg (by omega)] at hgo
  have hgo' := Lib.hid hgo
  clear hgo
  repeat' (first | refine h0t ?_ | refine h0e ?_ | refine h1w ?_ | refine h1o ?_ | refine h1v ?_ | refine h2j ?_ | refine h1e ?_ | refine h0m rfl ?_ | (refine gR 7 (p_m (h:=p_m (h:=p_e (h0h rfl (fun _ => BigFrame.builtin_len ..) (h0n Tryd.underlying9)) (h:=p_e (q_b (r:=by exact h2l q_o)) (h:=h0a ?_)))))) | (refine gR 16 (p_a (h:=h0a ?_))))
  (refine h0z Tryd.results30 (.tmp rfl .nil) ?_)
  exact ⟨_, ⟨by rw [hgo'.out]; rfl, rfl⟩, by intro w H; refine H.sub ?_; (try simp only [zzC, zzN]); repeat (exact List.Sublist.refl _)⟩
 rw [if_pos (by omega)] at hgo
 have hpsz : (mB8 p).size = p.length := by rw [← lB_len, lB_mB8]
 by_cases hlt : i < s.size ∧ ∃ y : UInt8, s[i]? = some y ∧ ¬ y = 47
 ·obtain ⟨hlt, y, hy, hy47⟩ := hlt
  obtain ⟨y', hy', hyd⟩ := ba_ix hlt
  obtain rfl : y = y' := by rw [hy] at hy'; exact Option.some.inj hy'
  have hyi : s[((i : Nat) : Int).toNat]? = some y := by rw [Int.toNat_natCast]; exact hy
  have hyn : ¬ (y.toNat : Int) = 47 := u8_ne hy47
  have hyr : y.toNat < 256 := y.toNat_lt
  rw [hyd, refGo, if_neg hy47] at hgo
  have hgo' := Lib.hid hgo
  clear hgo hyd
  by_cases hpy : (32 < y.toNat ∧ y.toNat < 127 ∧ y.toNat ≠ 35)
  ·have e1 : prn y = true := decide_eq_true hpy
   rw [e1, Bool.true_and] at hgo'
   have e2 : mB8 p ++ (⟨#[y]⟩ : ByteArray) = mB8 (p ++ [y]) := by
    rw [← mB8_lB (mB8 p ++ (⟨#[y]⟩ : ByteArray))]; congr 1
   have e3 : (⟨#[y]⟩ : ByteArray).size = 1 := rfl
   repeat' (first | refine h0t ?_ | refine h0e ?_ | refine h1d ?_ | refine h1o ?_ | refine h1v ?_ | refine h0o ?_ | refine h1a ?_ | refine h2j ?_ | refine h0l rfl ?_ | refine h0m rfl ?_ | (refine gR 7 (p_m (h:=p_m (h:=p_e (h0h rfl (fun _ => BigFrame.builtin_len ..) (h0n Tryd.underlying9)) (h:=p_e (q_b (r:=by exact h1u q_o)) (h:=h0a ?_)))))) | (refine gR 9 (p_m (h:=p_m (h:=p_e (h0h rfl (fun _ => BigFrame.builtin_len ..) (h0n Tryd.underlying9)) (h:=p_e (q_b (r:=by exact h0q q_o)) (h:=p_m (h:=p_y (h0g rfl) (h:=p_y (h0g rfl) (h:=p_y (by apply h1s; exact rfl; exact rfl; (focus (apply h1t Tryd.underlying9; omega; (with_reducible assumption)))) (h:=p_y (q_b (r:=by exact h1k q_o)) (h:=p_p (h:=h0a ?_)))))))))))) | (refine gR 10 (p_m (h:=p_m (h:=p_e (by apply h1s; exact rfl; exact rfl; (focus (apply h1t Tryd.underlying9; omega; (with_reducible assumption)))) (h:=p_e (q_b (r:=by exact h0r q_o)) (h:=p_m (h:=p_y (h0g rfl) (h:=p_y (h0g rfl) (h:=p_y (by apply h1s; exact rfl; exact rfl; (focus (apply h1t Tryd.underlying9; omega; (with_reducible assumption)))) (h:=p_y (q_b (r:=by exact h0u q_o)) (h:=p_p (h:=p_m (h:=p_y (h0g rfl) (h:=p_y (h0g rfl) (h:=p_y (by apply h1s; exact rfl; exact rfl; (focus (apply h1t Tryd.underlying9; omega; (with_reducible assumption)))) (h:=p_y (q_b (r:=by exact h0y q_o)) (h:=p_p (h:=h0a ?_)))))))))))))))))) | (refine gR 12 (p_m (h:=p_m (h:=p_m (h:=q_e (by apply h1s; exact rfl; exact rfl; (focus (apply h1t Tryd.underlying9; omega; (with_reducible assumption)))) ?_)))) <;> (try refine h0b ?_; (refine h0w (t:=32) (m:=1) (e:=5) (fun vs => (match vs with | [(_, x0)] => [x0] | _ => [])) rfl rfl (fun w => by kernel_rfl) ?_; intro nb hnb; (try simp only [Value.cells]); (try simp only [zzC, zzN]))) <;> (try refine p_e (by apply E_byteStr1; exact rfl; exact Tryd.underlying32; exact Tryd.underlying5; exact Tryd.underlying9; exact fd0) (h:=p_e (q_b (r:=by apply h2z; exact rfl; omega)) (h:=p_a (h:=h0a ?_))))) | (refine gR 8 (q_m ?_) <;> (try refine q_e (q_b (r:=by apply h1q; exact c_4; (focus (refine IntWalk.i64_in _ ?_; omega)))) ?_) <;> (try refine p_a (h:=h0a ?_))))
   all_goals
    (try simp only [e2])
    refine h1p (i + 1, p ++ [y]) ⟨⟨by dsimp only; omega, by dsimp only; omega, by simp; omega, by rw [if_pos (by dsimp only; omega)]; exact hgo'.out⟩, by dsimp only; omega⟩ (by (focus (repeat (first | exact Sub.nil | refine Sub.cons rfl ?_)))) (by intro w H; refine H.sub ?_; (try simp only [zzC, zzN]); repeat (first | exact List.Sublist.refl _ | refine List.Sublist.cons _ ?_))
  ·have e1 : prn y = false := decide_eq_false hpy
   rw [e1, Bool.false_and] at hgo'
   repeat' (first | refine h0t ?_ | refine h0e ?_ | refine h1x ?_ | refine h0x ?_ | refine h1m ?_ | refine h0o ?_ | refine h1a ?_ | refine h1e ?_ | refine h0l rfl ?_ | (refine gR 7 (p_m (h:=p_m (h:=p_e (h0h rfl (fun _ => BigFrame.builtin_len ..) (h0n Tryd.underlying9)) (h:=p_e (q_b (r:=by exact h1u q_o)) (h:=h0a ?_)))))) | (refine gR 9 (p_m (h:=p_m (h:=p_e (h0h rfl (fun _ => BigFrame.builtin_len ..) (h0n Tryd.underlying9)) (h:=p_e (q_b (r:=by exact h0q q_o)) (h:=p_m (h:=p_y (h0g rfl) (h:=p_y (h0g rfl) (h:=p_y (by apply h1s; exact rfl; exact rfl; (focus (apply h1t Tryd.underlying9; omega; (with_reducible assumption)))) (h:=p_y (q_b (r:=by exact h1k q_o)) (h:=p_p (h:=h0a ?_)))))))))))) | (refine gR 10 (p_m (h:=p_m (h:=p_e (by apply h1s; exact rfl; exact rfl; (focus (apply h1t Tryd.underlying9; omega; (with_reducible assumption)))) (h:=p_e (q_b (r:=by exact h2m)) (h:=q_m ?_))))) <;> (try refine h0b ?_; ((refine h0d rfl rfl (fun hc => ?_) (fun hc => ?_)) <;> (try subst hc) <;> (first | refine h0k rfl rfl rfl rfl ?_ | (refine h0f rfl rfl rfl ?_; (refine q_k (h0g rfl) ?_))))) <;> (try refine h0b ?_; (first | refine h0k rfl rfl rfl rfl ?_ | (refine h0f rfl rfl rfl ?_; (refine q_k (h0g rfl) ?_)))) <;> (try refine h0b ?_; (first | refine h0k rfl rfl rfl rfl ?_ | (refine h0f rfl rfl rfl ?_; (refine q_k (by apply h1s; exact rfl; exact rfl; (focus (apply h1t Tryd.underlying9; omega; (with_reducible assumption)))) ?_)))) <;> (try refine h0b ?_; (first | refine h0k rfl rfl rfl rfl ?_ | (refine h0f rfl rfl rfl ?_; (refine q_k (q_b (r:=by exact h2d)) ?_)))) <;> (try refine p_p (h:=q_m ?_)) <;> (try refine h0b ?_; (first | refine h0k rfl rfl rfl rfl ?_ | ((refine h0d rfl rfl (fun hc => ?_) (fun hc => ?_)) <;> (try subst hc) <;> (first | refine h0k rfl rfl rfl rfl ?_ | (refine h0f rfl rfl rfl ?_; (refine q_k (h0g rfl) ?_)))))) <;> (try refine h0b ?_; (first | refine h0k rfl rfl rfl rfl ?_ | (refine h0f rfl rfl rfl ?_; (refine q_k (h0g rfl) ?_)))) <;> (try refine h0b ?_; (first | refine h0k rfl rfl rfl rfl ?_ | (refine h0f rfl rfl rfl ?_; (refine q_k (by apply h1s; exact rfl; exact rfl; (focus (apply h1t Tryd.underlying9; omega; (with_reducible assumption)))) ?_)))) <;> (try refine h0b ?_; (first | refine h0k rfl rfl rfl rfl ?_ | (refine h0f rfl rfl rfl ?_; (refine q_k (by exact q_b (r:=by refine h1l ?_; first | rfl | (with_reducible assumption) | (decide; done) | omega)) ?_)))) <;> (try refine p_p (h:=h0a ?_))) | (refine gR 11 (p_a (h:=h0a ?_))))
   all_goals
    (refine h0z Tryd.results30 (.tmp rfl .nil) ?_)
    exact ⟨_, ⟨by rw [hgo'.out]; rfl, rfl⟩, by intro w H; refine H.sub ?_; (try simp only [zzC, zzN]); repeat (exact List.Sublist.refl _)⟩
 ·have hgo2 : pathF (lB s) = if h4k p then (if i < s.size then refGo [] ((lB s).drop (i + 1)) else true) else false := by
   by_cases h : i < s.size
   ·obtain ⟨y', hy', hyd⟩ := ba_ix h
    have : y' = 47 := Classical.byContradiction fun h1 => hlt ⟨h, y', hy', h1⟩
    subst this
    rw [hgo, hyd, refGo, if_pos rfl, if_pos h]
    cases h4k p <;> rfl
   ·rw [hgo, List.drop_of_length_le (by omega), refGo, if_neg h]
    cases h4k p <;> rfl
  have hgo2' := Lib.hid hgo2
  clear hgo hgo2 hxd hhd htl hx
  have hcd : ¬ i < s.size ∨ (i < s.size ∧ s[((i : Nat) : Int).toNat]? = some 47) := by
   by_cases h : i < s.size
   ·obtain ⟨y', hy', hyd⟩ := ba_ix h
    have : y' = 47 := Classical.byContradiction fun h1 => hlt ⟨h, y', hy', h1⟩
    subst this
    exact .inr ⟨h, by rw [Int.toNat_natCast]; exact hy'⟩
   ·exact .inl h
  clear hlt
  by_cases e0 : p = [] ∨ p = [46] ∨ p = [46, 46] ∨ 14 < p.length
  ·have hf : pathF (lB s) = false := by
    have e9 : h4k p = false := decide_eq_false (fun h => h e0)
    rw [hgo2'.out, e9]; rfl
   have hf' := Lib.hid hf
   clear hf hgo2'
   rcases e0 with rfl | rfl | rfl | e0
   ·rcases hcd with hcd | ⟨hcd, hci⟩
    all_goals repeat' (first | refine h0t ?_ | refine h0e ?_ | refine h1x ?_ | refine h0x ?_ | refine h1m ?_ | refine h0o ?_ | refine h1a ?_ | refine h1e ?_ | refine h0l rfl ?_ | refine h0m rfl ?_ | (refine gR 7 (p_m (h:=p_m (h:=p_e (h0h rfl (fun _ => BigFrame.builtin_len ..) (h0n Tryd.underlying9)) (h:=p_e (q_b (r:=by exact h1u q_o)) (h:=h0a ?_)))))) | (refine gR 9 (p_m (h:=p_m (h:=p_e (h0h rfl (fun _ => BigFrame.builtin_len ..) (h0n Tryd.underlying9)) (h:=p_e (by exact q_b (r:=by first | (exact h0q q_o) | (exact h0r q_o))) (h:=q_m ?_))))) <;> (try refine h0b ?_; (first | refine h0k rfl rfl rfl rfl ?_ | (refine h0f rfl rfl rfl ?_; (refine q_k (h0g rfl) ?_)))) <;> (try refine h0b ?_; (first | refine h0k rfl rfl rfl rfl ?_ | (refine h0f rfl rfl rfl ?_; (refine q_k (h0g rfl) ?_)))) <;> (try refine h0b ?_; (first | refine h0k rfl rfl rfl rfl ?_ | (refine h0f rfl rfl rfl ?_; (refine q_k (by apply h1s; exact rfl; exact rfl; (focus (apply h1t Tryd.underlying9; omega; (with_reducible assumption)))) ?_)))) <;> (try refine h0b ?_; (first | refine h0k rfl rfl rfl rfl ?_ | (refine h0f rfl rfl rfl ?_; (refine q_k (by exact q_b (r:=by refine h1g ?_; first | rfl | (with_reducible assumption) | (decide; done) | omega)) ?_)))) <;> (try refine p_p (h:=h0a ?_))) | (refine gR 13 (p_m (h:=p_e (q_b (r:=by exact h3r)) (h:=p_m (h:=p_z (h:=p_z (h:=p_p (h:=p_m (h:=p_z (h:=p_z (h:=p_p (h:=p_m (h:=p_z (h:=p_z (h:=p_z (h:=p_p (h:=h0a ?_))))))))))))))))) | (refine gR 14 (p_a (h:=h0a ?_))))
    all_goals
     (refine h0z Tryd.results30 (.tmp rfl .nil) ?_)
     exact ⟨_, ⟨by rw [hf'.out]; rfl, rfl⟩, by intro w H; refine H.sub ?_; (try simp only [zzC, zzN]); repeat (exact List.Sublist.refl _)⟩
   ·rcases hcd with hcd | ⟨hcd, hci⟩
    all_goals repeat' (first | refine h0t ?_ | refine h0e ?_ | refine h1x ?_ | refine h0x ?_ | refine h1m ?_ | refine h0o ?_ | refine h1a ?_ | refine h1e ?_ | refine h0l rfl ?_ | refine h0m rfl ?_ | (refine gR 7 (p_m (h:=p_m (h:=p_e (h0h rfl (fun _ => BigFrame.builtin_len ..) (h0n Tryd.underlying9)) (h:=p_e (q_b (r:=by exact h1u q_o)) (h:=h0a ?_)))))) | (refine gR 9 (p_m (h:=p_m (h:=p_e (h0h rfl (fun _ => BigFrame.builtin_len ..) (h0n Tryd.underlying9)) (h:=p_e (by exact q_b (r:=by first | (exact h0q q_o) | (exact h0r q_o))) (h:=q_m ?_))))) <;> (try refine h0b ?_; (first | refine h0k rfl rfl rfl rfl ?_ | (refine h0f rfl rfl rfl ?_; (refine q_k (h0g rfl) ?_)))) <;> (try refine h0b ?_; (first | refine h0k rfl rfl rfl rfl ?_ | (refine h0f rfl rfl rfl ?_; (refine q_k (h0g rfl) ?_)))) <;> (try refine h0b ?_; (first | refine h0k rfl rfl rfl rfl ?_ | (refine h0f rfl rfl rfl ?_; (refine q_k (by apply h1s; exact rfl; exact rfl; (focus (apply h1t Tryd.underlying9; omega; (with_reducible assumption)))) ?_)))) <;> (try refine h0b ?_; (first | refine h0k rfl rfl rfl rfl ?_ | (refine h0f rfl rfl rfl ?_; (refine q_k (by exact q_b (r:=by refine h1g ?_; first | rfl | (with_reducible assumption) | (decide; done) | omega)) ?_)))) <;> (try refine p_p (h:=h0a ?_))) | (refine gR 13 (p_m (h:=p_e (q_b (r:=by apply h1z; (focus (decide)))) (h:=p_m (h:=p_y (h0g rfl) (h:=p_y (q_b (r:=by exact h3r)) (h:=p_p (h:=p_m (h:=p_z (h:=p_z (h:=p_p (h:=p_m (h:=p_z (h:=p_z (h:=p_z (h:=p_p (h:=h0a ?_))))))))))))))))) | (refine gR 14 (p_a (h:=h0a ?_))))
    all_goals
     (refine h0z Tryd.results30 (.tmp rfl .nil) ?_)
     exact ⟨_, ⟨by rw [hf'.out]; rfl, rfl⟩, by intro w H; refine H.sub ?_; (try simp only [zzC, zzN]); repeat (exact List.Sublist.refl _)⟩
   ·rcases hcd with hcd | ⟨hcd, hci⟩
    all_goals repeat' (first | refine h0t ?_ | refine h0e ?_ | refine h1x ?_ | refine h0x ?_ | refine h1m ?_ | refine h0o ?_ | refine h1a ?_ | refine h1e ?_ | refine h0l rfl ?_ | refine h0m rfl ?_ | (refine gR 7 (p_m (h:=p_m (h:=p_e (h0h rfl (fun _ => BigFrame.builtin_len ..) (h0n Tryd.underlying9)) (h:=p_e (q_b (r:=by exact h1u q_o)) (h:=h0a ?_)))))) | (refine gR 9 (p_m (h:=p_m (h:=p_e (h0h rfl (fun _ => BigFrame.builtin_len ..) (h0n Tryd.underlying9)) (h:=p_e (by exact q_b (r:=by first | (exact h0q q_o) | (exact h0r q_o))) (h:=q_m ?_))))) <;> (try refine h0b ?_; (first | refine h0k rfl rfl rfl rfl ?_ | (refine h0f rfl rfl rfl ?_; (refine q_k (h0g rfl) ?_)))) <;> (try refine h0b ?_; (first | refine h0k rfl rfl rfl rfl ?_ | (refine h0f rfl rfl rfl ?_; (refine q_k (h0g rfl) ?_)))) <;> (try refine h0b ?_; (first | refine h0k rfl rfl rfl rfl ?_ | (refine h0f rfl rfl rfl ?_; (refine q_k (by apply h1s; exact rfl; exact rfl; (focus (apply h1t Tryd.underlying9; omega; (with_reducible assumption)))) ?_)))) <;> (try refine h0b ?_; (first | refine h0k rfl rfl rfl rfl ?_ | (refine h0f rfl rfl rfl ?_; (refine q_k (by exact q_b (r:=by refine h1g ?_; first | rfl | (with_reducible assumption) | (decide; done) | omega)) ?_)))) <;> (try refine p_p (h:=h0a ?_))) | (refine gR 13 (p_m (h:=p_e (q_b (r:=by apply h1z; (focus (decide)))) (h:=p_m (h:=p_y (h0g rfl) (h:=p_y (q_b (r:=by apply h1z; (focus (decide)))) (h:=p_p (h:=p_m (h:=p_y (h0g rfl) (h:=p_y (q_b (r:=by exact h3r)) (h:=p_p (h:=p_m (h:=p_z (h:=p_z (h:=p_z (h:=p_p (h:=h0a ?_))))))))))))))))) | (refine gR 14 (p_a (h:=h0a ?_))))
    all_goals
     (refine h0z Tryd.results30 (.tmp rfl .nil) ?_)
     exact ⟨_, ⟨by rw [hf'.out]; rfl, rfl⟩, by intro w H; refine H.sub ?_; (try simp only [zzC, zzN]); repeat (exact List.Sublist.refl _)⟩
   ·have n0 : ¬ mB8 p = ⟨#[]⟩ := by intro e; have h9 := congrArg ByteArray.size e; rw [hpsz] at h9; have h8 : p.length = 0 := h9; omega
    have n1 : ¬ mB8 p = ⟨#[46]⟩ := by intro e; have h9 := congrArg ByteArray.size e; rw [hpsz] at h9; have h8 : p.length = 1 := h9; omega
    have n2 : ¬ mB8 p = ⟨#[46, 46]⟩ := by intro e; have h9 := congrArg ByteArray.size e; rw [hpsz] at h9; have h8 : p.length = 2 := h9; omega
    rcases hcd with hcd | ⟨hcd, hci⟩
    all_goals repeat' (first | refine h0t ?_ | refine h0e ?_ | refine h1x ?_ | refine h0x ?_ | refine h1m ?_ | refine h0o ?_ | refine h1a ?_ | refine h1e ?_ | refine h0l rfl ?_ | refine h0m rfl ?_ | (refine gR 7 (p_m (h:=p_m (h:=p_e (h0h rfl (fun _ => BigFrame.builtin_len ..) (h0n Tryd.underlying9)) (h:=p_e (q_b (r:=by exact h1u q_o)) (h:=h0a ?_)))))) | (refine gR 9 (p_m (h:=p_m (h:=p_e (h0h rfl (fun _ => BigFrame.builtin_len ..) (h0n Tryd.underlying9)) (h:=p_e (by exact q_b (r:=by first | (exact h0q q_o) | (exact h0r q_o))) (h:=q_m ?_))))) <;> (try refine h0b ?_; (first | refine h0k rfl rfl rfl rfl ?_ | (refine h0f rfl rfl rfl ?_; (refine q_k (h0g rfl) ?_)))) <;> (try refine h0b ?_; (first | refine h0k rfl rfl rfl rfl ?_ | (refine h0f rfl rfl rfl ?_; (refine q_k (h0g rfl) ?_)))) <;> (try refine h0b ?_; (first | refine h0k rfl rfl rfl rfl ?_ | (refine h0f rfl rfl rfl ?_; (refine q_k (by apply h1s; exact rfl; exact rfl; (focus (apply h1t Tryd.underlying9; omega; (with_reducible assumption)))) ?_)))) <;> (try refine h0b ?_; (first | refine h0k rfl rfl rfl rfl ?_ | (refine h0f rfl rfl rfl ?_; (refine q_k (by exact q_b (r:=by refine h1g ?_; first | rfl | (with_reducible assumption) | (decide; done) | omega)) ?_)))) <;> (try refine p_p (h:=h0a ?_))) | (refine gR 13 (p_m (h:=p_e (q_b (r:=by apply h1z; exact decide_eq_false (by assumption))) (h:=p_m (h:=p_y (h0g rfl) (h:=p_y (q_b (r:=by apply h1z; exact decide_eq_false (by assumption))) (h:=p_p (h:=p_m (h:=p_y (h0g rfl) (h:=p_y (q_b (r:=by apply h1z; exact decide_eq_false (by assumption))) (h:=p_p (h:=p_m (h:=p_y (h0g rfl) (h:=p_y (h0h rfl (fun _ => BigFrame.builtin_len ..) (h0n Tryd.underlying9)) (h:=p_y (q_b (r:=by exact h1c q_o)) (h:=p_p (h:=h0a ?_))))))))))))))))) | (refine gR 14 (p_a (h:=h0a ?_))))
    all_goals
     (refine h0z Tryd.results30 (.tmp rfl .nil) ?_)
     exact ⟨_, ⟨by rw [hf'.out]; rfl, rfl⟩, by intro w H; refine H.sub ?_; (try simp only [zzC, zzN]); repeat (exact List.Sublist.refl _)⟩
  ·have n0 : ¬ mB8 p = ⟨#[]⟩ := fun e => e0 (.inl (by rw [← lB_mB8 p, e]; rfl))
   have n1 : ¬ mB8 p = ⟨#[46]⟩ := fun e => e0 (.inr (.inl (by rw [← lB_mB8 p, e]; rfl)))
   have n2 : ¬ mB8 p = ⟨#[46, 46]⟩ := fun e => e0 (.inr (.inr (.inl (by rw [← lB_mB8 p, e]; rfl))))
   have n3 : ¬ 14 < p.length := fun e => e0 (.inr (.inr (.inr e)))
   have e9 : h4k p = true := decide_eq_true e0
   have hf : if i + 1 ≤ s.size then pathF (lB s) = refGo [] ((lB s).drop (i + 1)) else pathF (lB s) = true := by
    by_cases h : i < s.size
    ·rw [if_pos (by omega), hgo2'.out, e9, if_pos rfl, if_pos h]
    ·rw [if_neg (by omega), hgo2'.out, e9, if_pos rfl, if_neg h]
   have hf' := Lib.hid hf
   clear hf hgo2' e0
   rcases hcd with hcd | ⟨hcd, hci⟩
   all_goals repeat' (first | refine h0t ?_ | refine h0e ?_ | refine h1d ?_ | refine h1h ?_ | refine h0o ?_ | refine h1a ?_ | refine h0l rfl ?_ | refine h0m rfl ?_ | (refine gR 7 (p_m (h:=p_m (h:=p_e (h0h rfl (fun _ => BigFrame.builtin_len ..) (h0n Tryd.underlying9)) (h:=p_e (q_b (r:=by exact h1u q_o)) (h:=h0a ?_)))))) | (refine gR 9 (p_m (h:=p_m (h:=p_e (h0h rfl (fun _ => BigFrame.builtin_len ..) (h0n Tryd.underlying9)) (h:=p_e (by exact q_b (r:=by first | (exact h0q q_o) | (exact h0r q_o))) (h:=q_m ?_))))) <;> (try refine h0b ?_; (first | refine h0k rfl rfl rfl rfl ?_ | (refine h0f rfl rfl rfl ?_; (refine q_k (h0g rfl) ?_)))) <;> (try refine h0b ?_; (first | refine h0k rfl rfl rfl rfl ?_ | (refine h0f rfl rfl rfl ?_; (refine q_k (h0g rfl) ?_)))) <;> (try refine h0b ?_; (first | refine h0k rfl rfl rfl rfl ?_ | (refine h0f rfl rfl rfl ?_; (refine q_k (by apply h1s; exact rfl; exact rfl; (focus (apply h1t Tryd.underlying9; omega; (with_reducible assumption)))) ?_)))) <;> (try refine h0b ?_; (first | refine h0k rfl rfl rfl rfl ?_ | (refine h0f rfl rfl rfl ?_; (refine q_k (by exact q_b (r:=by refine h1g ?_; first | rfl | (with_reducible assumption) | (decide; done) | omega)) ?_)))) <;> (try refine p_p (h:=h0a ?_))) | (refine gR 13 (p_m (h:=p_e (q_b (r:=by apply h1z; exact decide_eq_false (by assumption))) (h:=p_m (h:=p_y (h0g rfl) (h:=p_y (q_b (r:=by apply h1z; exact decide_eq_false (by assumption))) (h:=p_p (h:=p_m (h:=p_y (h0g rfl) (h:=p_y (q_b (r:=by apply h1z; exact decide_eq_false (by assumption))) (h:=p_p (h:=p_m (h:=p_y (h0g rfl) (h:=p_y (h0h rfl (fun _ => BigFrame.builtin_len ..) (h0n Tryd.underlying9)) (h:=p_y (q_b (r:=by exact h0u q_o)) (h:=p_p (h:=h0a ?_))))))))))))))))) | (refine gR 15 (p_a (h:=h0a ?_))) | (refine gR 8 (q_m ?_) <;> (try refine q_e (q_b (r:=by apply h1q; exact c_4; (focus (refine IntWalk.i64_in _ ?_; omega)))) ?_) <;> (try refine p_a (h:=h0a ?_))))
   all_goals
    refine h1p (i + 1, []) ⟨⟨by dsimp only; omega, by dsimp only; omega, Nat.zero_le _, hf'.out⟩, by dsimp only; omega⟩ (by (focus (repeat (first | exact Sub.nil | refine Sub.cons rfl ?_)))) c_20
end Pt
def OnceR (T : TypeId) (b off : Nat) (Q : List Value → List Blk → Prop) (v : Value) (L' : List Blk) : Prop :=
 v = .tuple #[] ∧ ∃ cs L2, Q cs L2 ∧ cs[off]? = some (.int .u32 0) ∧ cs[off + 1]? = some (.int .i32 1) ∧ ⟨true, b, .cells cs.toArray T (0, 0)⟩ :: L2 = L'
def OnceD (T : TypeId) (b off : Nat) (Q : List Value → List Blk → Prop) (v : Value) (L' : List Blk) : Prop :=
 v = .tuple #[] ∧ ∃ cs L2, Q cs L2 ∧ ⟨true, b, .cells ((cs.set off (.int .u32 1)).set (off + 1) (.int .i32 0)).toArray T (0, 0)⟩ :: L2 = L'
set_option maxHeartbeats 1600000 in
theorem slow_c {S w0 L} {T : TypeId} {b off : Nat} {cs : List Value} {Q : List Value → List Blk → Prop} {fv : Value} (h0 : cs[off]? = some (.int .u32 0)) (h1 : cs[off + 1]? = some (.int .i32 0))
  (hf : Fn Tryd.prog 48 #[fv] S w0 (⟨true, b, .cells (cs.set (off + 1) (.int .i32 1)).toArray T (0, 0)⟩ :: L) (OnceR T b off Q)) :
  Fn Tryd.prog 52 #[.pointer (some ⟨b, off, none⟩), .func (.func 48) #[fv] #[]] S w0 (⟨true, b, .cells cs.toArray T (0, 0)⟩ :: L) (OnceD T b off Q) := .mk fun w H => by
 have a0 := H.cellc h0
 have a1 := H.cellc h1
 have f0 : w.frozen? ⟨b, off, none⟩ = false := H.frz
 have f1 : w.frozen? ⟨b, off + 1, none⟩ = false := H.frz
 have hl := run_call_load (P:=Tryd.prog) Tryd.func58 (by kernel_rfl) (by kernel_rfl) (by kernel_rfl) .u32 (by kernel_rfl) (w:=w.setCell ⟨b, off + 1, none⟩ (.int .i32 1)) (a:=⟨b, off, none⟩) (x:=0) ((World.cell?_setCell_other _ ⟨b, off + 1, none⟩ ⟨b, off, none⟩ _ (by simp)).trans a0)
 have hnot : ∀ (x : Bool) (w : World), (Op.unary .not (.bool x)).run Tryd.prog w = .ok (.bool (!x)) w := fun _ _ => rfl
 have H1 := H.setc (off:=off + 1) (.int .i32 1)
 have hcall := hf.out _ H1
 go_enter_defers Tryd.func52, Tryd.ntmps52
 have H2c : ∀ (e : Ending) (w' : World), (∃ v L', e = .returned v ∧ OnceR T b off Q v L' ∧ HP S w0 w' L') → ∃ cs' L2, e = .returned (.tuple #[]) ∧ Q cs' L2 ∧ cs'[off]? = some (.int .u32 0) ∧ cs'[off + 1]? = some (.int .i32 1) ∧ HP S w0 w' (⟨true, b, .cells cs'.toArray T (0, 0)⟩ :: L2) := by
  rintro e w' ⟨_, _, rfl, ⟨rfl, cs', L2, hQ, hc0, hc1, rfl⟩, H2⟩
  exact ⟨cs', L2, rfl, hQ, hc0, hc1, H2⟩
 have hcall2 := hcall.mono H2c
 clear hcall H2c hf H1
 go_wp2_with (first | (go_at_call 59; refine (lock_free ⟨b, off + 1, none⟩ _ (by go_simp) (by go_simp)).mono ?_; rintro e w' ⟨rfl, rfl⟩) | (go_at_call 48; refine hcall2.mono ?_; rintro e w' ⟨cs', L2, rfl, hQ, hc0, hc1, H2⟩) | (go_at_call 51; go_in))
 refine leaves_cons (f:=61) (args:=#[.pointer (some ⟨b, off, none⟩), .bool true]) (by simp) (by simp [go_sem]) ?_
 refine (store_deferred ⟨b, off, none⟩ (.int .u32 0) .returning _ (H2.cellc hc0) H2.frz).mono ?_
 rintro e u' w'' ⟨rfl, rfl, rfl⟩
 have H3 := (H2.drew).setc (off:=off) (.int .u32 1)
 have hc1' : (cs'.set off (.int .u32 1))[off + 1]? = some (.int .i32 1) := by rw [List.getElem?_set_ne (by omega)]; exact hc1
 refine leaves_cons (f:=60) (args:=#[.pointer (some ⟨b, off + 1, none⟩)]) (by simp [settle]) (by simp [go_sem]) ?_
 refine (unlock_deferred ⟨b, off + 1, none⟩ _ _ (H3.cellc hc1') H3.frz).mono ?_
 rintro e u' w'' ⟨rfl, rfl, rfl⟩
 have H4 := H3.setc (off:=off + 1) (.int .i32 0)
 show Leaves _ _ _ _ [] .returning _
 exact ⟨.tuple #[], results_none rfl _ _ _, _, _, rfl, ⟨rfl, cs', L2, hQ, rfl⟩, H4⟩
theorem do_first {S w0 L} {T : TypeId} {b off : Nat} {cs : List Value} {Q : List Value → List Blk → Prop} {fv : Value} (h0 : cs[off]? = some (.int .u32 0)) (h1 : cs[off + 1]? = some (.int .i32 0))
  (hf : Fn Tryd.prog 48 #[fv] S w0 (⟨true, b, .cells (cs.set (off + 1) (.int .i32 1)).toArray T (0, 0)⟩ :: L) (OnceR T b off Q)) :
  Fn Tryd.prog 47 #[.pointer (some ⟨b, off, none⟩), .func (.func 48) #[fv] #[]] S w0 (⟨true, b, .cells cs.toArray T (0, 0)⟩ :: L) (OnceD T b off Q) := .mk fun w H => by
 have hl := run_call_load (P:=Tryd.prog) Tryd.func58 (by kernel_rfl) (by kernel_rfl) (by kernel_rfl) .u32 (by kernel_rfl) (H.cellc h0)
 have hnot : ∀ (x : Bool) (w : World), (Op.unary .not (.bool x)).run Tryd.prog w = .ok (.bool (!x)) w := fun _ _ => rfl
 have hs := (slow_c h0 h1 hf).out w H
 clear hf
 go_enter Tryd.func47, Tryd.ntmps47
 go_wp2_with (first | (go_at_call 52; refine hs.mono ?_; rintro e w' ⟨v, L', rfl, hD, H2⟩) | (go_at_call 51; go_in))
 go_end0
 obtain ⟨rfl, hD⟩ := hD
 exact ⟨_, _, rfl, ⟨rfl, hD⟩, H2⟩
theorem do_done {S w0 L} {T : TypeId} {b off : Nat} {cs : List Value} {fv : Value} (h0 : cs[off]? = some (.int .u32 1)) :
  Fn Tryd.prog 47 #[.pointer (some ⟨b, off, none⟩), fv] S w0 (⟨true, b, .cells cs.toArray T (0, 0)⟩ :: L) fun v L' => v = .tuple #[] ∧ ⟨true, b, .cells cs.toArray T (0, 0)⟩ :: L = L' := .mk fun w H => by
 have hl := run_call_load (P:=Tryd.prog) Tryd.func58 (by kernel_rfl) (by kernel_rfl) (by kernel_rfl) .u32 (by kernel_rfl) (H.cellc h0)
 have hnot : ∀ (x : Bool) (w : World), (Op.unary .not (.bool x)).run Tryd.prog w = .ok (.bool (!x)) w := fun _ _ => rfl
 go_enter Tryd.func47, Tryd.ntmps47
 go_wp2
 go_end0
 exact ⟨_, _, rfl, ⟨rfl, rfl⟩, H⟩
section
variable {P : Program} {n : Nat} {l : List (Nat × Value)} {S : List Nat} {w0 : World} {L : List Blk} {d : Tmp} {ty : TypeId} {pos : String} {af : Array Edge}
theorem K1_aadd {ops : Array Oper} {kt : Kont} {K : Act → World → Prop} {F : FuncId} {fn : Func} {k : IntKind} {x y : Operand} {ats : Array TypeId} {i b off : Nat} {cs : Array Value} {T : TypeId} {u v : Int}
  (hf0 : P.funcs[F]? = some fn) (hname : (fn.name == "runtime.NumGoroutine") = false) (hb : fn.body.isNone = true) (hn : Extern.findNext fn = none) (he : Extern.find fn = some (Extern.Atomic.update (Op.intArith .add) k true)) (hd : Nat.blt d n = true)
  (hx : ev l x = some (.pointer (some ⟨b, off, none⟩))) (hy : ev l y = some (.int k v)) (hi : L[i]? = some ⟨true, b, .cells cs T (0, 0)⟩) (hv : cs.toList[off]? = some (.int k u))
  (h : G n ((d, .int k (k.wrap (u + v))) :: l) S w0 (L.set i ⟨true, b, .cells (cs.setIfInBounds off (.int k (k.wrap (u + v)))) T (0, 0)⟩) K) :
  G n l S w0 L (K1 P ops kt ⟨some d, .call { callee := .value (.func F), args := [x, y].toArray, argTypes := ats }, ty, pos, af, none⟩ K) := .mk fun a w hf H => h3u rfl <| by
 unfold Oper.wp
 rw [execOp_call_go, List.map_toArray]
 have e : [x, y].map a.eval = [.pointer (some ⟨b, off, none⟩), .int k v] := by simp [hf.eval hx, hf.eval hy]
 rw [e]
 have : (#[] ++ [Value.pointer (some ⟨b, off, none⟩), Value.int k v].toArray ++ #[] : Array Value) = #[.pointer (some ⟨b, off, none⟩), .int k v] := by simp
 rw [this, run_call_add hf0 hname hb hn k he ((cell_at H i hi).trans (by simpa using hv)) (by simp [frozen_at H i hi]) (s:=k.wrap (u + v)) (by simp [Op.intArith])]
 have H1 := H.turn i hi (w.setCell ⟨b, off, none⟩ (.int k (k.wrap (u + v)))) (.cells (cs.setIfInBounds off (.int k (k.wrap (u + v)))) T (0, 0)) rfl rfl rfl (by simp)
  (by rw [heap_setCell_same w b off cs T _ (H.at_ i hi)]) (fun q hq => heap_setCell_other w _ q _ hq)
 exact h.out _ _ (hf.put (some d) _ hd) H1
end
theorem aadd_c {S w0 L} (b off T : Nat) (cs : List Value) (u v : Int) (hv : cs.toArray.toList[off]? = some (.int .i64 u)) : Fn Tryd.prog 49 #[.pointer (some ⟨b, off, none⟩), .int .i64 v] S w0 (⟨true, b, .cells cs.toArray T (0, 0)⟩ :: L) fun r L' => r = .int .i64 (IntKind.i64.wrap (u + v)) ∧ ⟨true, b, .cells (cs.set off (.int .i64 (IntKind.i64.wrap (u + v)))).toArray T (0, 0)⟩ :: L = L' := by
 refine Fn2 Tryd.func49 Tryd.ntmps49 rfl rfl ?_
 repeat' (first | refine h0t ?_ | refine h0a ?_ | refine h0e ?_ | refine h1d ?_ | refine h1w ?_ | refine h1x ?_ | refine h1o ?_ | refine h0x ?_ | refine h1h ?_ | refine h1m ?_ | refine h1v ?_ | refine G_blk_y rfl ?_ | refine h0o ?_ | refine h1a ?_ | refine h2j ?_ | refine h1e ?_ | refine h0l rfl ?_ | refine h0m rfl ?_ | (refine gR 0 ?_ <;> (try refine h0b ?_; (first | (refine q_k (h1j rfl) ?_))) <;> (try refine h0a ?_)) | (refine gR 1 ?_ <;> (try refine h0b ?_; (first | (refine q_k (h0g rfl) ?_))) <;> (try refine h0b ?_; (first | (refine q_k (E_nilCheck rfl) ?_))) <;> (try refine h0b ?_; (first | (refine q_k (by first | (exact q_f fo_84_2) | (exact q_g fo_84_2)) ?_))) <;> (try refine h0b ?_; (first | (refine q_k (h0g rfl) ?_))) <;> (try refine h0b ?_; (first | (first | (refine K1_aadd (i:=0) Tryd.func54 (by kernel_rfl) (by kernel_rfl) (by kernel_rfl) (by kernel_rfl) rfl rfl rfl rfl hv ?_; (try simp only [List.set_cons_zero]); (try simp only [List.setIfInBounds_toArray]))))) <;> (try refine h0b ?_; (first | (refine q_k (h1j rfl) ?_))) <;> (try refine h0a ?_)) | ((first | (refine h3x rfl (fun hc => ?_) (fun hc => ?_)) | (refine h4d rfl (fun hc => ?_) (fun hc => ?_)) | (refine G_cond rfl (fun hc => ?_) (fun hc => ?_))) <;> (try subst hc)))
 (refine h0z Tryd.results49 (.tmp rfl .nil) ?_)
 exact ⟨_, ⟨rfl, rfl⟩, fun _ H => H⟩
structure Cll where
 num : Int
 name : ByteArray
 args : Int
def Cll.cells (c : Cll) : List Value := [.int .u32 c.num, .string c.name, .int .i64 c.args]
def Cll.v (c : Cll) : Value := .agg #[.int .u32 c.num, .string c.name, .int .i64 c.args]
def clls : List Cll := [
 ⟨0, ⟨#[114, 101, 97, 100]⟩, 2⟩,
 ⟨1, ⟨#[119, 114, 105, 116, 101]⟩, 2⟩,
 ⟨2, ⟨#[111, 112, 101, 110]⟩, 2⟩,
 ⟨3, ⟨#[99, 108, 111, 115, 101]⟩, 1⟩,
 ⟨4, ⟨#[115, 116, 97, 116]⟩, 1⟩,
 ⟨8, ⟨#[115, 101, 101, 107]⟩, 2⟩,
 ⟨32, ⟨#[100, 117, 112]⟩, 1⟩,
 ⟨39, ⟨#[112, 105, 100]⟩, 0⟩,
 ⟨41, ⟨#[115, 111, 99, 107, 101, 116]⟩, 0⟩,
 ⟨42, ⟨#[99, 111, 110, 110, 101, 99, 116]⟩, 2⟩,
 ⟨49, ⟨#[98, 105, 110, 100]⟩, 2⟩,
 ⟨50, ⟨#[108, 105, 115, 116, 101, 110]⟩, 1⟩,
 ⟨57, ⟨#[102, 111, 114, 107]⟩, 0⟩,
 ⟨60, ⟨#[101, 120, 105, 116]⟩, 1⟩,
 ⟨77, ⟨#[116, 114, 117, 110, 99, 97, 116, 101]⟩, 2⟩,
 ⟨78, ⟨#[114, 101, 97, 100, 100, 105, 114]⟩, 1⟩,
 ⟨79, ⟨#[99, 119, 100]⟩, 0⟩,
 ⟨80, ⟨#[99, 104, 100, 105, 114]⟩, 1⟩,
 ⟨82, ⟨#[114, 101, 110, 97, 109, 101]⟩, 2⟩,
 ⟨83, ⟨#[109, 107, 100, 105, 114]⟩, 1⟩,
 ⟨84, ⟨#[114, 109, 100, 105, 114]⟩, 1⟩,
 ⟨86, ⟨#[108, 105, 110, 107]⟩, 2⟩,
 ⟨87, ⟨#[117, 110, 108, 105, 110, 107]⟩, 1⟩,
 ⟨88, ⟨#[115, 121, 109, 108, 105, 110, 107]⟩, 2⟩,
 ⟨89, ⟨#[114, 101, 97, 100, 108, 105, 110, 107]⟩, 1⟩,
 ⟨157, ⟨#[112, 114, 99, 116, 108]⟩, 1⟩,
 ⟨165, ⟨#[109, 111, 117, 110, 116]⟩, 2⟩,
 ⟨166, ⟨#[117, 109, 111, 117, 110, 116]⟩, 1⟩,
 ⟨317, ⟨#[115, 101, 99, 99, 111, 109, 112]⟩, 1⟩,
 ⟨446, ⟨#[114, 101, 115, 116, 114, 105, 99, 116]⟩, 1⟩]
theorem clls_len : clls.length = 30 := rfl
def flatN (l : List Cll) : List Value := l.flatMap Cll.cells
theorem flatN_len (l : List Cll) : (flatN l).length = l.length * 3 := by
 induction l with
 | nil => rfl
 | cons i l ih => simp only [flatN, List.flatMap_cons, List.length_append, List.length_cons] at ih ⊢; rw [ih]; simp only [Cll.cells, List.length_cons, List.length_nil]; omega
theorem flatN_at (l : List Cll) (k : Nat) (h : k < l.length) : ((flatN l).drop (k * 3)).take 3 = (l[k]).cells := by
 induction l generalizing k with
 | nil => simp at h
 | cons i l ih =>
  cases k with
  | zero => simp [flatN, Cll.cells]
  | succ k =>
   have := ih k (by simpa using h)
   rw [show (k + 1) * 3 = k * 3 + 3 by omega]
   simpa [flatN, Cll.cells] using this
def byName (l : List Cll) : List (Value × Value) := l.map fun c => (.string c.name, c.v)
def byNum (l : List Cll) : List (Value × Value) := l.map fun c => (.int .u32 c.num, c.v)
abbrev tbl0 (b : Nat) (a m : Int) : Blk := ⟨true, b, .cells [.int .u32 0, .int .i32 0, .int .u32 0, .map none, .map none, .int .i64 a, .int .i64 m].toArray 86 (0, 0)⟩
abbrev tbl1 (b m1 m2 : Nat) (a m : Int) : Blk := ⟨true, b, .cells [.int .u32 1, .int .i32 0, .int .u32 0, .map (some m1), .map (some m2), .int .i64 a, .int .i64 m].toArray 86 (0, 0)⟩
theorem new_c {S w0 L} : Fn Tryd.prog 6 #[] S w0 L fun v L' => ∃ b, v = .pointer (some ⟨b, 0, none⟩) ∧ tbl0 b 0 0 :: L = L' := by
 refine Fn0 Tryd.func6 Tryd.ntmps6 rfl ?_
 repeat' (first | refine h0t ?_ | refine h0e ?_ | refine h1e ?_ | (refine gR 0 (p_a (h:=h0a ?_))) | (refine gR 1 ?_ <;> (try refine q_e (by exact h0v (t:=86) (fun vs => (match vs with | [] => [Value.int .u32 0, Value.int .i32 0, Value.int .u32 0, Value.map none, Value.map none, Value.int .i64 0, Value.int .i64 0] | _ => [])) rfl (fun w => by kernel_rfl)) ?_; (try simp only [Value.cells]); (try simp only [zzC, zzN])) <;> (try refine h0b ?_; (refine h2c (t:=86) rfl rfl ?_; intro nb hnb; (try simp only [Value.cells]))) <;> (try refine p_a (h:=h0a ?_))))
 (refine h0z Tryd.results6 (.tmp rfl .nil) ?_)
 exact ⟨_, ⟨_, rfl, rfl⟩, fun _ H => H⟩
set_option maxHeartbeats 2000000 in
theorem all_c {S w0 L} : Fn Tryd.prog 53 #[] S w0 L fun v L' => ∃ b, v = .slice (some ⟨b, 0, none⟩) 30 30 ∧ ⟨true, b, .cells (flatN clls).toArray 123 (0, 0)⟩ :: L = L' := by
 refine Fn0 Tryd.func53 Tryd.ntmps53 rfl ?_
 repeat' (first | refine h0t ?_ | refine h0e ?_ | refine h1e ?_ | (refine gR 0 (p_a (h:=h0a ?_))) | (refine gR 1 ?_ <;> (try refine q_e (by exact h0v (t:=123) (fun vs => (match vs with | [(_, x0), (_, x1), (_, x2)] => [x0, x1, x2] | _ => [])) rfl (fun w => by kernel_rfl)) ?_; (try simp only [Value.cells]); (try simp only [zzC, zzN])) <;> (try refine q_e (by exact h0v (t:=123) (fun vs => (match vs with | [(_, x0), (_, x1), (_, x2)] => [x0, x1, x2] | _ => [])) rfl (fun w => by kernel_rfl)) ?_; (try simp only [Value.cells]); (try simp only [zzC, zzN])) <;> (try refine q_e (by exact h0v (t:=123) (fun vs => (match vs with | [(_, x0), (_, x1), (_, x2)] => [x0, x1, x2] | _ => [])) rfl (fun w => by kernel_rfl)) ?_; (try simp only [Value.cells]); (try simp only [zzC, zzN])) <;> (try refine q_e (by exact h0v (t:=123) (fun vs => (match vs with | [(_, x0), (_, x1), (_, x2)] => [x0, x1, x2] | _ => [])) rfl (fun w => by kernel_rfl)) ?_; (try simp only [Value.cells]); (try simp only [zzC, zzN])) <;> (try refine q_e (by exact h0v (t:=123) (fun vs => (match vs with | [(_, x0), (_, x1), (_, x2)] => [x0, x1, x2] | _ => [])) rfl (fun w => by kernel_rfl)) ?_; (try simp only [Value.cells]); (try simp only [zzC, zzN])) <;> (try refine q_e (by exact h0v (t:=123) (fun vs => (match vs with | [(_, x0), (_, x1), (_, x2)] => [x0, x1, x2] | _ => [])) rfl (fun w => by kernel_rfl)) ?_; (try simp only [Value.cells]); (try simp only [zzC, zzN])) <;> (try refine q_e (by exact h0v (t:=123) (fun vs => (match vs with | [(_, x0), (_, x1), (_, x2)] => [x0, x1, x2] | _ => [])) rfl (fun w => by kernel_rfl)) ?_; (try simp only [Value.cells]); (try simp only [zzC, zzN])) <;> (try refine q_e (by exact h0v (t:=123) (fun vs => (match vs with | [(_, x0), (_, x1), (_, x2)] => [x0, x1, x2] | _ => [])) rfl (fun w => by kernel_rfl)) ?_; (try simp only [Value.cells]); (try simp only [zzC, zzN])) <;> (try refine q_e (by exact h0v (t:=123) (fun vs => (match vs with | [(_, x0), (_, x1), (_, x2)] => [x0, x1, x2] | _ => [])) rfl (fun w => by kernel_rfl)) ?_; (try simp only [Value.cells]); (try simp only [zzC, zzN])) <;> (try refine q_e (by exact h0v (t:=123) (fun vs => (match vs with | [(_, x0), (_, x1), (_, x2)] => [x0, x1, x2] | _ => [])) rfl (fun w => by kernel_rfl)) ?_; (try simp only [Value.cells]); (try simp only [zzC, zzN])) <;> (try refine q_e (by exact h0v (t:=123) (fun vs => (match vs with | [(_, x0), (_, x1), (_, x2)] => [x0, x1, x2] | _ => [])) rfl (fun w => by kernel_rfl)) ?_; (try simp only [Value.cells]); (try simp only [zzC, zzN])) <;> (try refine q_e (by exact h0v (t:=123) (fun vs => (match vs with | [(_, x0), (_, x1), (_, x2)] => [x0, x1, x2] | _ => [])) rfl (fun w => by kernel_rfl)) ?_; (try simp only [Value.cells]); (try simp only [zzC, zzN])) <;> (try refine q_e (by exact h0v (t:=123) (fun vs => (match vs with | [(_, x0), (_, x1), (_, x2)] => [x0, x1, x2] | _ => [])) rfl (fun w => by kernel_rfl)) ?_; (try simp only [Value.cells]); (try simp only [zzC, zzN])) <;> (try refine q_e (by exact h0v (t:=123) (fun vs => (match vs with | [(_, x0), (_, x1), (_, x2)] => [x0, x1, x2] | _ => [])) rfl (fun w => by kernel_rfl)) ?_; (try simp only [Value.cells]); (try simp only [zzC, zzN])) <;> (try refine q_e (by exact h0v (t:=123) (fun vs => (match vs with | [(_, x0), (_, x1), (_, x2)] => [x0, x1, x2] | _ => [])) rfl (fun w => by kernel_rfl)) ?_; (try simp only [Value.cells]); (try simp only [zzC, zzN])) <;> (try refine q_e (by exact h0v (t:=123) (fun vs => (match vs with | [(_, x0), (_, x1), (_, x2)] => [x0, x1, x2] | _ => [])) rfl (fun w => by kernel_rfl)) ?_; (try simp only [Value.cells]); (try simp only [zzC, zzN])) <;> (try refine q_e (by exact h0v (t:=123) (fun vs => (match vs with | [(_, x0), (_, x1), (_, x2)] => [x0, x1, x2] | _ => [])) rfl (fun w => by kernel_rfl)) ?_; (try simp only [Value.cells]); (try simp only [zzC, zzN])) <;> (try refine q_e (by exact h0v (t:=123) (fun vs => (match vs with | [(_, x0), (_, x1), (_, x2)] => [x0, x1, x2] | _ => [])) rfl (fun w => by kernel_rfl)) ?_; (try simp only [Value.cells]); (try simp only [zzC, zzN])) <;> (try refine q_e (by exact h0v (t:=123) (fun vs => (match vs with | [(_, x0), (_, x1), (_, x2)] => [x0, x1, x2] | _ => [])) rfl (fun w => by kernel_rfl)) ?_; (try simp only [Value.cells]); (try simp only [zzC, zzN])) <;> (try refine q_e (by exact h0v (t:=123) (fun vs => (match vs with | [(_, x0), (_, x1), (_, x2)] => [x0, x1, x2] | _ => [])) rfl (fun w => by kernel_rfl)) ?_; (try simp only [Value.cells]); (try simp only [zzC, zzN])) <;> (try refine q_e (by exact h0v (t:=123) (fun vs => (match vs with | [(_, x0), (_, x1), (_, x2)] => [x0, x1, x2] | _ => [])) rfl (fun w => by kernel_rfl)) ?_; (try simp only [Value.cells]); (try simp only [zzC, zzN])) <;> (try refine q_e (by exact h0v (t:=123) (fun vs => (match vs with | [(_, x0), (_, x1), (_, x2)] => [x0, x1, x2] | _ => [])) rfl (fun w => by kernel_rfl)) ?_; (try simp only [Value.cells]); (try simp only [zzC, zzN])) <;> (try refine q_e (by exact h0v (t:=123) (fun vs => (match vs with | [(_, x0), (_, x1), (_, x2)] => [x0, x1, x2] | _ => [])) rfl (fun w => by kernel_rfl)) ?_; (try simp only [Value.cells]); (try simp only [zzC, zzN])) <;> (try refine q_e (by exact h0v (t:=123) (fun vs => (match vs with | [(_, x0), (_, x1), (_, x2)] => [x0, x1, x2] | _ => [])) rfl (fun w => by kernel_rfl)) ?_; (try simp only [Value.cells]); (try simp only [zzC, zzN])) <;> (try refine q_e (by exact h0v (t:=123) (fun vs => (match vs with | [(_, x0), (_, x1), (_, x2)] => [x0, x1, x2] | _ => [])) rfl (fun w => by kernel_rfl)) ?_; (try simp only [Value.cells]); (try simp only [zzC, zzN])) <;> (try refine q_e (by exact h0v (t:=123) (fun vs => (match vs with | [(_, x0), (_, x1), (_, x2)] => [x0, x1, x2] | _ => [])) rfl (fun w => by kernel_rfl)) ?_; (try simp only [Value.cells]); (try simp only [zzC, zzN])) <;> (try refine q_e (by exact h0v (t:=123) (fun vs => (match vs with | [(_, x0), (_, x1), (_, x2)] => [x0, x1, x2] | _ => [])) rfl (fun w => by kernel_rfl)) ?_; (try simp only [Value.cells]); (try simp only [zzC, zzN])) <;> (try refine q_e (by exact h0v (t:=123) (fun vs => (match vs with | [(_, x0), (_, x1), (_, x2)] => [x0, x1, x2] | _ => [])) rfl (fun w => by kernel_rfl)) ?_; (try simp only [Value.cells]); (try simp only [zzC, zzN])) <;> (try refine q_e (by exact h0v (t:=123) (fun vs => (match vs with | [(_, x0), (_, x1), (_, x2)] => [x0, x1, x2] | _ => [])) rfl (fun w => by kernel_rfl)) ?_; (try simp only [Value.cells]); (try simp only [zzC, zzN])) <;> (try refine q_e (by exact h0v (t:=123) (fun vs => (match vs with | [(_, x0), (_, x1), (_, x2)] => [x0, x1, x2] | _ => [])) rfl (fun w => by kernel_rfl)) ?_; (try simp only [Value.cells]); (try simp only [zzC, zzN])) <;> (try refine h0b ?_; (refine h0w (t:=137) (m:=30) (e:=123) (fun vs => (match vs with | [(_, x0), (_, x1), (_, x2), (_, x3), (_, x4), (_, x5), (_, x6), (_, x7), (_, x8), (_, x9), (_, x10), (_, x11), (_, x12), (_, x13), (_, x14), (_, x15), (_, x16), (_, x17), (_, x18), (_, x19), (_, x20), (_, x21), (_, x22), (_, x23), (_, x24), (_, x25), (_, x26), (_, x27), (_, x28), (_, x29)] => x0.cells.toList ++ (x1.cells.toList ++ (x2.cells.toList ++ (x3.cells.toList ++ (x4.cells.toList ++ (x5.cells.toList ++ (x6.cells.toList ++ (x7.cells.toList ++ (x8.cells.toList ++ (x9.cells.toList ++ (x10.cells.toList ++ (x11.cells.toList ++ (x12.cells.toList ++ (x13.cells.toList ++ (x14.cells.toList ++ (x15.cells.toList ++ (x16.cells.toList ++ (x17.cells.toList ++ (x18.cells.toList ++ (x19.cells.toList ++ (x20.cells.toList ++ (x21.cells.toList ++ (x22.cells.toList ++ (x23.cells.toList ++ (x24.cells.toList ++ (x25.cells.toList ++ (x26.cells.toList ++ (x27.cells.toList ++ (x28.cells.toList ++ x29.cells.toList)))))))))))))))))))))))))))) | _ => [])) rfl rfl (fun w => by kernel_rfl) ?_; intro nb hnb; (try simp only [Value.cells]); (try simp only [zzC, zzN]))) <;> (try refine p_a (h:=h0a ?_))))
 (refine h0z Tryd.results53 (.tmp rfl .nil) ?_)
 exact ⟨_, ⟨_, rfl, rfl⟩, fun _ H => H⟩
theorem fd_app_none {d : TypeDesc} {k : Value} {a : List (Value × Value)} {i : Nat} (h : ∀ p ∈ a, Instr.sameNow d k p.1 = some false) : fd d k a i = some none := by
 induction a generalizing i with
 | nil => rfl
 | cons p r ih =>
  simp only [fd, h p (by simp)]
  exact ih (fun q hq => h q (by simp [hq]))
theorem names_new : ∀ k : Fin 30, ∀ c ∈ clls.take k.val, (clls[k.val]'(by have := k.isLt; rw [clls_len]; exact this)).name ≠ c.name ∧ (clls[k.val]'(by have := k.isLt; rw [clls_len]; exact this)).num ≠ c.num := by decide +kernel
theorem fd_name {l : List Cll} {s : ByteArray} (h : ∀ c ∈ l, s ≠ c.name) : fd .string (.string s) (byName l) 0 = some none := by
 apply fd_app_none
 intro p hp
 obtain ⟨c, hc, rfl⟩ := List.mem_map.1 hp
 simp [Instr.sameNow, ba_beq, h c hc]
theorem fd_num {l : List Cll} {s : Int} (h : ∀ c ∈ l, s ≠ c.num) : fd (.int .u32) (.int .u32 s) (byNum l) 0 = some none := by
 apply fd_app_none
 intro p hp
 obtain ⟨c, hc, rfl⟩ := List.mem_map.1 hp
 simp [Instr.sameNow, h c hc]
set_option maxHeartbeats 1000000 in
theorem fill_c {S w0 L} (b : Nat) (sm a m : Int) (hm : 0 ≤ m ∧ m < 4000000000000000000) : Fn Tryd.prog 48 #[.pointer (some ⟨b, 0, none⟩)] S w0 (⟨true, b, .cells [.int .u32 0, .int .i32 1, .int .u32 sm, .map none, .map none, .int .i64 a, .int .i64 m].toArray 86 (0, 0)⟩ :: L)
  (OnceR 86 b 0 fun cs L2 => ∃ m1 m2, cs = [.int .u32 0, .int .i32 1, .int .u32 sm, .map (some m1), .map (some m2), .int .i64 a, .int .i64 (m + 1)] ∧ L2 = mapB m1 (byName clls) :: mapB m2 (byNum clls) :: L) := by
 have e1 : IntKind.i64.wrap (m + 1) = m + 1 := IntWalk.i64_in _ (by omega)
 refine Fn1 Tryd.func48 Tryd.ntmps48 rfl rfl ?_
 repeat' (first | (refine h2g (id:=0) ?_) | refine h0t ?_ | refine h0e ?_ | (refine gR 0 (p_m (h:=q_m ?_)) <;> (try refine h0b ?_; (refine K1_makeMap rfl ?_; intro nb hnb)) <;> (try refine h0b ?_; (refine K1_makeMap rfl ?_; intro nb hnb)) <;> (try refine p_n (h:=q_e (q_f fo_86_1) ?_)) <;> (try refine h0b ?_; (refine q_S ?_)) <;> (try refine p_n (h:=q_e (q_f fo_86_2) ?_)) <;> (try refine h0b ?_; (refine q_S ?_)) <;> (try refine h0a ?_)) | (refine gR 1 ?_ <;> (try refine h0b ?_; (refine q_c 53 (c:=by apply all_c) (h:=?_); rintro _ _ ⟨bs, rfl, rfl⟩; (try simp only [zzE, zzF]))) <;> (try refine p_e (by apply h0h; exact rfl; exact (fun _ => BigFrame.builtin_len ..); apply h0j Tryd.underlying137; exact h3d) (h:=p_m (h:=h0a ?_)))))
 refine ⟨?_⟩
 obtain ⟨m2, rfl⟩ : ∃ x, x = nb := ⟨_, rfl⟩
 obtain ⟨m1, rfl⟩ : ∃ x, x = nb := ⟨_, rfl⟩
 refine h0o ?_
 refine h2i (γ:=Nat) (fun k => k ≤ 30) (fun k => 30 - k) (fun k => [(14, .int .i64 (k : Nat))]) [(0, _), (12, _), (13, _)]
  (fun k => ⟨true, b, .cells [.int .u32 0, .int .i32 1, .int .u32 sm, .map (some m1), .map (some m2), .int .i64 a, .int .i64 m].toArray 86 (0, 0)⟩ :: mapB m1 (byName (clls.take k)) :: mapB m2 (byNum (clls.take k)) :: ⟨true, bs, .cells (flatN clls).toArray 123 (0, 0)⟩ :: L)
  0 (.cons rfl (.cons rfl (.cons rfl .nil))) (Nat.zero_le _) (by (focus (repeat (first | exact Sub.nil | refine Sub.cons rfl ?_)))) ?_ ?_
 ·intro w H
  exact (((H.pick (i:=3) rfl).perm (.cons _ (.cons _ (.swap _ _ _)))).perm (.cons _ (.swap _ _ _))).perm (.cons _ (.cons _ (.swap _ _ _)))
 intro k (hk : k ≤ 30)
 simp only [List.cons_append, List.nil_append]
 by_cases hlt : k < 30
 ·have hx := flatN_at clls k hlt
  have hsz : k * 3 + 3 ≤ (flatN clls).toArray.size := by rw [List.size_toArray, flatN_len, clls_len]; omega
  have hnn := names_new ⟨k, hlt⟩
  have hs1 : clls.take (k + 1) = clls.take k ++ [clls[k]'(by rw [clls_len]; exact hlt)] := by rw [List.take_add_one, List.getElem?_eq_getElem]; rfl
  dsimp only at hnn
  generalize hc : clls[k]'(by rw [clls_len]; exact hlt) = c at *
  have hf1 := fd_name (l:=clls.take k) (s:=c.name) (fun q hq => (hnn q hq).1)
  have hf2 := fd_num (l:=clls.take k) (s:=c.num) (fun q hq => (hnn q hq).2)
  obtain ⟨num, name, args⟩ := c
  simp only [Cll.cells] at hx hf1 hf2
  have hs1' := Lib.hid hs1
  clear hs1 hnn hc
  repeat' (first | refine h0t ?_ | refine h0e ?_ | refine h1d ?_ | refine h1h ?_ | refine h0o ?_ | refine h1a ?_ | refine h0l rfl ?_ | (refine gR 2 (p_e (q_b (r:=by exact h0q q_o)) (h:=h0a ?_))) | (refine gR 3 (p_e (by apply h0s; exact rfl; exact rfl; (focus (apply h2h Tryd.underlying137 sz_123; omega; omega; exact c_1))) (h:=q_e (by apply h1r (t:=123); exact rfl; exact c_23; kernel_rfl; kernel_rfl; exact sz_123; (with_reducible assumption); (with_reducible assumption)) ?_)) <;> (try refine h0b ?_; (refine h1b (t:=123) rfl Tryd.zeroValue123 ?_; intro nb hnb; (try simp only [Value.cells]))) <;> (try refine h0b ?_; (refine q_W ?_)) <;> (try refine h0a ?_)) | ((apply G_regionHc (i:=2) (j:=2) (id:=4) (m:=20); (focus ((try simp only [zzE, zzF]); exact rfl)); kernel_rfl; exact rfl) <;> (try refine q_t 0 (e:=c_2) (x:=by exact h0g rfl) (h:=q_t 1 (e:=c_2) (x:=by exact E_nilCheck rfl) (h:=q_t 2 (e:=c_2) (x:=by exact q_f fo_86_1) (h:=q_t 3 (e:=c_2) (x:=by exact q_l) (h:=q_t 4 (e:=c_2) (x:=by exact q_f fo_123_1) (h:=q_t 5 (e:=c_2) (x:=by exact q_l) (h:=q_t 6 (e:=c_2) (x:=by exact h0g rfl) (h:=q_t 7 (e:=c_2) (x:=by exact E_nilCheck rfl) (h:=q_t 8 (e:=c_2) (x:=by exact q_f fo_86_2) (h:=q_t 9 (e:=c_2) (x:=by exact q_l) (h:=q_t 10 (e:=c_2) (x:=by exact q_f fo_123_0) (h:=q_t 11 (e:=c_2) (x:=by exact q_l) (h:=q_t 12 (e:=c_2) (x:=by exact q_L sz_123) (h:=q_t 13 (e:=c_2) (x:=by exact q_L sz_123) (h:=?_))))))))))))))) <;> (try refine q_r 14 ?_; (apply K1_mapEntry; exact rfl; exact rfl; exact rfl; exact c_23; exact Tryd.underlying80; exact Tryd.underlying9; exact trivial; exact Tryd.zeroValue123; (with_reducible assumption); (try simp only [List.set_cons_succ]); (try simp only [List.set_cons_zero])); refine h2a c_2 ?_) <;> (try refine q_t 15 (e:=c_2) (x:=by exact h2u rfl rfl) (h:=?_)) <;> (try refine q_r 16 ?_; (apply K1_entryStoreL; exact rfl; exact rfl; exact rfl; exact c_23; (try simp only [List.set_cons_succ]); (try simp only [List.set_cons_zero])); refine h2a c_2 ?_) <;> (try refine q_r 17 ?_; (apply K1_mapEntry; exact rfl; exact rfl; exact rfl; exact c_23; exact Tryd.underlying81; exact Tryd.underlying22; exact rfl; exact Tryd.zeroValue123; (with_reducible assumption); (try simp only [List.set_cons_succ]); (try simp only [List.set_cons_zero])); refine h2a c_2 ?_) <;> (try refine q_t 18 (e:=c_2) (x:=by exact h2u rfl rfl) (h:=?_)) <;> (try refine q_r 19 ?_; (apply K1_entryStoreL; exact rfl; exact rfl; exact rfl; exact c_23; (try simp only [List.set_cons_succ]); (try simp only [List.set_cons_zero])); refine h2a c_2 ?_) <;> (try refine h2e (by kernel_rfl) ?_)) | (refine gR 5 ?_ <;> (try refine q_e (q_b (r:=by apply h1q; exact c_4; (focus (refine IntWalk.i64_in _ ?_; omega)))) ?_) <;> (try refine p_m (h:=h0a ?_))))
  refine h1p (k + 1) ⟨by omega, by omega⟩ (by (focus (repeat (first | exact Sub.nil | refine Sub.cons rfl ?_)))) ?_
  have eb : byName (clls.take (k + 1)) = byName (clls.take k) ++ [(Value.string name, Value.agg #[.int .u32 num, .string name, .int .i64 args])] := by rw [hs1'.out, byName, List.map_append]; rfl
  have en : byNum (clls.take (k + 1)) = byNum (clls.take k) ++ [(Value.int .u32 num, Value.agg #[.int .u32 num, .string name, .int .i64 args])] := by rw [hs1'.out, byNum, List.map_append]; rfl
  rw [eb, en]
  exact fun _ H => H.tail
 ·obtain rfl : k = 30 := by omega
  have ha1 := fun (L : List Blk) => aadd_c (S:=S) (w0:=w0) (L:=L) b 6 86 [.int .u32 0, .int .i32 1, .int .u32 sm, .map (some m1), .map (some m2), .int .i64 a, .int .i64 m] m 1 rfl
  simp only [e1, List.set_cons_succ, List.set_cons_zero] at ha1
  rw [show clls.take 30 = clls from List.take_of_length_le (Nat.le_refl _)]
  repeat' (first | refine h0t ?_ | refine h0e ?_ | refine h1w ?_ | refine h1o ?_ | refine h1v ?_ | refine h2j ?_ | refine h0m rfl ?_ | (refine gR 2 (p_e (q_b (r:=by exact h0r q_o)) (h:=h0a ?_))) | (refine gR 6 (p_m (h:=p_n (h:=q_e (q_f fo_86_4) ?_))) <;> (try refine h0b ?_; (refine h4a (F:=49) (by kernel_rfl) rfl rfl (ha1 _) ?_; rintro _ _ ⟨rfl, rfl⟩)) <;> (try refine h0a ?_)))
  (first | refine h0z Tryd.results48 .nil ?_ | refine G_done_n Tryd.results48 .nil ?_)
  refine ⟨_, ⟨rfl, _, mapB m1 (byName clls) :: mapB m2 (byNum clls) :: L, ⟨m1, m2, rfl, rfl⟩, rfl, rfl, rfl⟩, by intro w H; refine H.sub ?_; (try simp only [zzC, zzN]); repeat (first | exact List.Sublist.refl _ | refine List.Sublist.cons_cons _ ?_ | refine List.Sublist.cons _ ?_)⟩
theorem ask0_c {S w0 L} (b : Nat) (a m : Int) (ha : 0 ≤ a ∧ a < 4000000000000000000) (hm : 0 ≤ m ∧ m < 4000000000000000000) : Fn Tryd.prog 43 #[.pointer (some ⟨b, 0, none⟩)] S w0 (tbl0 b a m :: L) fun v L' => ∃ m1 m2, v = .bool true ∧ tbl1 b m1 m2 (a + 1) (m + 1) :: mapB m1 (byName clls) :: mapB m2 (byNum clls) :: L = L' := by
 have e1 : IntKind.i64.wrap (a + 1) = a + 1 := IntWalk.i64_in _ (by omega)
 have hdo := do_first (S:=S) (w0:=w0) (L:=L) (T:=86) (b:=b) (off:=0) (cs:=[.int .u32 0, .int .i32 0, .int .u32 0, .map none, .map none, .int .i64 a, .int .i64 m]) rfl rfl (fill_c (L:=L) b 0 a m hm)
 have ha1 := fun (L : List Blk) (m1 m2 : Nat) => aadd_c (S:=S) (w0:=w0) (L:=L) b 5 86 [.int .u32 1, .int .i32 0, .int .u32 0, .map (some m1), .map (some m2), .int .i64 a, .int .i64 (m + 1)] a 1 rfl
 simp only [e1, List.set_cons_succ, List.set_cons_zero] at ha1
 refine Fn1 Tryd.func43 Tryd.ntmps43 rfl rfl ?_
 repeat' (first | refine h0t ?_ | refine h0e ?_ | refine h1a ?_ | refine h1e ?_ | refine h0m rfl ?_ | (refine gR 0 (p_a (h:=h0a ?_))) | (refine gR 1 (p_m (h:=p_e (q_b (r:=by exact h4j Tryd.underlying42)) (h:=h0a ?_)))) | (refine gR 3 (p_m (h:=p_n (h:=p_e (q_f fo_86_0) (h:=p_m (h:=q_e (by apply E_makeFunc; exact rfl; exact rfl) ?_))))) <;> (try refine h0b ?_; (refine h4a (F:=47) (by kernel_rfl) rfl rfl hdo ?_; rintro _ _ ⟨rfl, cs', L2, ⟨m1, m2, rfl, rfl⟩, rfl⟩; simp only [List.set_cons_zero, List.set_cons_succ, Nat.zero_add])) <;> (try refine h0a ?_)) | (refine gR 4 (p_m (h:=p_n (h:=q_e (q_f fo_86_3) ?_))) <;> (try refine h0b ?_; (refine h4a (F:=49) (by kernel_rfl) rfl rfl (ha1 _ _ _) ?_; rintro _ _ ⟨rfl, rfl⟩)) <;> (try refine h0a ?_)) | (refine gR 5 (p_a (h:=h0a ?_))))
 (refine h0z Tryd.results43 (.tmp rfl .nil) ?_)
 exact ⟨_, ⟨m1, m2, rfl, rfl⟩, fun _ H => H⟩
theorem ask1_c {S w0 L} (b m1 m2 : Nat) (a m : Int) (ha : 0 ≤ a ∧ a < 4000000000000000000) : Fn Tryd.prog 43 #[.pointer (some ⟨b, 0, none⟩)] S w0 (tbl1 b m1 m2 a m :: L) fun v L' => v = .bool true ∧ tbl1 b m1 m2 (a + 1) m :: L = L' := by
 have e1 : IntKind.i64.wrap (a + 1) = a + 1 := IntWalk.i64_in _ (by omega)
 have hdo := fun fv => do_done (S:=S) (w0:=w0) (L:=L) (T:=86) (b:=b) (off:=0) (cs:=[.int .u32 1, .int .i32 0, .int .u32 0, .map (some m1), .map (some m2), .int .i64 a, .int .i64 m]) (fv:=fv) rfl
 have ha1 := fun (L : List Blk) => aadd_c (S:=S) (w0:=w0) (L:=L) b 5 86 [.int .u32 1, .int .i32 0, .int .u32 0, .map (some m1), .map (some m2), .int .i64 a, .int .i64 m] a 1 rfl
 simp only [e1, List.set_cons_succ, List.set_cons_zero] at ha1
 refine Fn1 Tryd.func43 Tryd.ntmps43 rfl rfl ?_
 repeat' (first | refine h0t ?_ | refine h0e ?_ | refine h1a ?_ | refine h1e ?_ | refine h0m rfl ?_ | (refine gR 0 (p_a (h:=h0a ?_))) | (refine gR 1 (p_m (h:=p_e (q_b (r:=by exact h4j Tryd.underlying42)) (h:=h0a ?_)))) | (refine gR 3 (p_m (h:=p_n (h:=p_e (q_f fo_86_0) (h:=p_m (h:=q_e (by apply E_makeFunc; exact rfl; exact rfl) ?_))))) <;> (try refine h0b ?_; (refine h4a (F:=47) (by kernel_rfl) rfl rfl (hdo _) ?_; rintro _ _ ⟨rfl, rfl⟩)) <;> (try refine h0a ?_)) | (refine gR 4 (p_m (h:=p_n (h:=q_e (q_f fo_86_3) ?_))) <;> (try refine h0b ?_; (refine h4a (F:=49) (by kernel_rfl) rfl rfl (ha1 _) ?_; rintro _ _ ⟨rfl, rfl⟩)) <;> (try refine h0a ?_)) | (refine gR 5 (p_a (h:=h0a ?_))))
 (refine h0z Tryd.results43 (.tmp rfl .nil) ?_)
 exact ⟨_, ⟨rfl, rfl⟩, fun _ H => H⟩
def cllV : Option Cll → Value
 | some c => .agg #[.int .u32 c.num, .string c.name, .int .i64 c.args]
 | none => .agg #[.int .u32 0, .string ⟨#[]⟩, .int .i64 0]
def h3f (n : Int) : List Cll → Option Cll
 | [] => none
 | c :: r => if n = c.num then some c else h3f n r
def zC : Value := .agg #[.int .u32 0, .string ⟨#[]⟩, .int .i64 0]
theorem fd_byNum (s : Int) (l : List Cll) (i : Nat) : ∃ r, fd (.int .u32) (.int .u32 s) (byNum l) i = some r ∧ found r zC = cllV (h3f s l) ∧ r.isSome = (h3f s l).isSome := by
 induction l generalizing i with
 | nil => exact ⟨none, rfl, rfl, rfl⟩
 | cons c r ih =>
  by_cases h : s = c.num
  ·exact ⟨some (i, c.v), by simp [byNum, fd, Instr.sameNow, h], by simp [h3f, h, found, cllV, Cll.v], by simp [h3f, h]⟩
  ·obtain ⟨q, h1, h2, h3⟩ := ih (i + 1)
   exact ⟨q, by
    have e : (s == c.num) = false := by simpa using h
    simpa [byNum, fd, Instr.sameNow, e] using h1, by simpa [h3f, h] using h2, by simpa [h3f, h] using h3⟩
theorem cllV_agg (o : Option Cll) : ∃ n s a, cllV o = .agg #[.int .u32 n, .string s, .int .i64 a] := by
 cases o with
 | none => exact ⟨_, _, _, rfl⟩
 | some c => exact ⟨_, _, _, rfl⟩
def gotV (o : Option Cll) : Value := tupleOf [cllV o, .bool o.isSome]
theorem numbered1_c {S w0 L} (b m1 m2 : Nat) (a m : Int) (ha : 0 ≤ a ∧ a < 4000000000000000000) (s : Int) : Fn Tryd.prog 37 #[.pointer (some ⟨b, 0, none⟩), .int .u32 s] S w0 (tbl1 b m1 m2 a m :: mapB m1 (byName clls) :: mapB m2 (byNum clls) :: L) fun v L' => v = gotV (h3f s clls) ∧ tbl1 b m1 m2 (a + 1) m :: mapB m1 (byName clls) :: mapB m2 (byNum clls) :: L = L' := by
 have hk := fun (L : List Blk) => ask1_c (S:=S) (w0:=w0) (L:=L) b m1 m2 a m ha
 obtain ⟨r, hr, hv, hb⟩ := fd_byNum s clls 0
 have hg : gotV (h3f s clls) = tupleOf [cllV (h3f s clls), .bool (h3f s clls).isSome] := rfl
 obtain ⟨cn, cs, ca, hc⟩ := cllV_agg (h3f s clls)
 rw [hg, hc]
 rw [hc] at hv
 generalize clls = cl at *
 generalize (h3f s cl).isSome = fb at *
 clear hg hc
 unfold zC at hv
 refine Fn2 Tryd.func37 Tryd.ntmps37 rfl rfl ?_
 repeat' (first | refine h0t ?_ | refine h0e ?_ | refine h1a ?_ | refine h1e ?_ | refine h0m rfl ?_ | (refine gR 0 ?_ <;> (try refine h0b ?_; (refine h1b (t:=123) rfl Tryd.zeroValue123 ?_; intro nb hnb; (try simp only [Value.cells]))) <;> (try refine p_a (h:=h0a ?_))) | (refine gR 1 (q_m ?_) <;> (try refine h0b ?_; (refine h4a (F:=43) (by kernel_rfl) rfl rfl ((hk _).swp) ?_; rintro _ _ ⟨rfl, rfl⟩)) <;> (try refine p_e (by apply h3g; exact rfl; exact h1f) (h:=h0a ?_))) | (refine gR 3 (p_m (h:=p_n (h:=p_e (q_f fo_86_2) (h:=p_e q_l (h:=p_m (h:=p_e (by apply E_lookup; exact rfl; exact rfl; exact c_23; exact Tryd.underlying81; exact Tryd.underlying22; exact rfl; exact Tryd.zeroValue123; (with_reducible assumption); (with_reducible assumption); (with_reducible assumption)) (h:=p_m (h:=p_x (h:=q_x ?_))))))))) <;> (try refine h0b ?_; (refine h1b (t:=123) rfl Tryd.zeroValue123 ?_; intro nb hnb; (try simp only [Value.cells]))) <;> (try refine h0b ?_; (refine q_W ?_)) <;> (try refine p_a (h:=h0a ?_))) | (refine gR 4 (p_e (q_L sz_123) (h:=q_m ?_)) <;> (try refine h0b ?_; (refine q_W ?_)) <;> (try refine p_a (h:=h0a ?_))))
 (apply h0z Tryd.results37; (focus (apply Res.agg; exact rfl; (focus (repeat (first | exact fd0 | (with_reducible assumption) | apply fdA | apply fdS))); kernel_rfl; kernel_rfl; exact c_8; exact sz_123; apply Res.tmp; exact rfl; exact Res.nil)))
 exact ⟨_, ⟨rfl, rfl⟩, by intro w H; refine H.sub ?_; (try simp only [zzC, zzN]); repeat (first | exact List.Sublist.refl _ | refine List.Sublist.cons _ ?_)⟩
theorem numbered0_c {S w0 L} (b : Nat) (a m : Int) (ha : 0 ≤ a ∧ a < 4000000000000000000) (hm : 0 ≤ m ∧ m < 4000000000000000000) (s : Int) : Fn Tryd.prog 37 #[.pointer (some ⟨b, 0, none⟩), .int .u32 s] S w0 (tbl0 b a m :: L) fun v L' => ∃ m1 m2, v = gotV (h3f s clls) ∧ tbl1 b m1 m2 (a + 1) (m + 1) :: mapB m1 (byName clls) :: mapB m2 (byNum clls) :: L = L' := by
 have hk := fun (L : List Blk) (i : Nat) (h1 : L[i]? = some (tbl0 b a m)) => Fn.at1 h1 (ask0_c (S:=S) (w0:=w0) (L:=L.eraseIdx i) b a m ha hm)
 obtain ⟨r, hr, hv, hb⟩ := fd_byNum s clls 0
 have hg : gotV (h3f s clls) = tupleOf [cllV (h3f s clls), .bool (h3f s clls).isSome] := rfl
 obtain ⟨cn, cs, ca, hc⟩ := cllV_agg (h3f s clls)
 rw [hg, hc]
 rw [hc] at hv
 generalize clls = cl at *
 generalize (h3f s cl).isSome = fb at *
 clear hg hc
 unfold zC at hv
 refine Fn2 Tryd.func37 Tryd.ntmps37 rfl rfl ?_
 repeat' (first | refine h0t ?_ | refine h0e ?_ | refine h1a ?_ | refine h1e ?_ | refine h0m rfl ?_ | (refine gR 0 ?_ <;> (try refine h0b ?_; (refine h1b (t:=123) rfl Tryd.zeroValue123 ?_; intro nb hnb; (try simp only [Value.cells]))) <;> (try refine p_a (h:=h0a ?_))) | (refine gR 1 (q_m ?_) <;> (try refine h0b ?_; (refine q_c 43 (c:=by apply hk; (focus ((try simp only [zzE, zzF]); exact c_23))) (h:=?_); rintro _ _ ⟨m1, m2, rfl, rfl⟩; (try simp only [zzE, zzF]))) <;> (try refine p_e (by apply h3g; exact rfl; exact h1f) (h:=h0a ?_))) | (refine gR 3 (p_m (h:=p_n (h:=p_e (q_f fo_86_2) (h:=p_e q_l (h:=p_m (h:=p_e (by apply E_lookup; exact rfl; exact rfl; exact c_23; exact Tryd.underlying81; exact Tryd.underlying22; exact rfl; exact Tryd.zeroValue123; (with_reducible assumption); (with_reducible assumption); (with_reducible assumption)) (h:=p_m (h:=p_x (h:=q_x ?_))))))))) <;> (try refine h0b ?_; (refine h1b (t:=123) rfl Tryd.zeroValue123 ?_; intro nb hnb; (try simp only [Value.cells]))) <;> (try refine h0b ?_; (refine q_W ?_)) <;> (try refine p_a (h:=h0a ?_))) | (refine gR 4 (p_e (q_L sz_123) (h:=q_m ?_)) <;> (try refine h0b ?_; (refine q_W ?_)) <;> (try refine p_a (h:=h0a ?_))))
 (apply h0z Tryd.results37; (focus (apply Res.agg; exact rfl; (focus (repeat (first | exact fd0 | (with_reducible assumption) | apply fdA | apply fdS))); kernel_rfl; kernel_rfl; exact c_8; exact sz_123; apply Res.tmp; exact rfl; exact Res.nil)))
 exact ⟨_, ⟨m1, m2, rfl, rfl⟩, by intro w H; refine H.sub ?_; (try simp only [zzC, zzN]); repeat (first | exact List.Sublist.refl _ | refine List.Sublist.cons_cons _ ?_ | refine List.Sublist.cons _ ?_)⟩
def Cll.rcells (c : Cll) : List Value := [.int .i64 c.num, .string c.name, .int .i64 c.args]
def flatR (l : List Cll) : List Value := l.flatMap Cll.rcells
theorem flatR_len (l : List Cll) : (flatR l).length = l.length * 3 := by
 induction l with
 | nil => rfl
 | cons i l ih => simp only [flatR, List.flatMap_cons, List.length_append, List.length_cons] at ih ⊢; rw [ih]; simp only [Cll.rcells, List.length_cons, List.length_nil]; omega
theorem flatR_at (l : List Cll) (k : Nat) (h : k < l.length) : ((flatR l).drop (k * 3)).take 3 = (l[k]).rcells := by
 induction l generalizing k with
 | nil => simp at h
 | cons i l ih =>
  cases k with
  | zero => simp [flatR, Cll.rcells]
  | succ k =>
   have := ih k (by simpa using h)
   rw [show (k + 1) * 3 = k * 3 + 3 by omega]
   simpa [flatR, Cll.rcells] using this
def refV : Option Cll → Value
 | some c => .agg #[.int .i64 c.num, .string c.name, .int .i64 c.args]
 | none => .agg #[.int .i64 0, .string ⟨#[]⟩, .int .i64 0]
def rgotV (o : Option Cll) : Value := tupleOf [refV o, .bool o.isSome]
set_option maxHeartbeats 2000000 in
theorem refCalls_c {S w0 L} : Fn Tryd.prog 15 #[] S w0 L fun v L' => ∃ b, v = .slice (some ⟨b, 0, none⟩) 30 30 ∧ ⟨true, b, .cells (flatR clls).toArray 95 (0, 0)⟩ :: L = L' := by
 refine Fn0 Tryd.func15 Tryd.ntmps15 rfl ?_
 repeat' (first | refine h0t ?_ | refine h0e ?_ | refine h1e ?_ | (refine gR 0 (p_a (h:=h0a ?_))) | (refine gR 1 ?_ <;> (try refine q_e (by exact h0v (t:=95) (fun vs => (match vs with | [(_, x0), (_, x1), (_, x2)] => [x0, x1, x2] | _ => [])) rfl (fun w => by kernel_rfl)) ?_; (try simp only [Value.cells]); (try simp only [zzC, zzN])) <;> (try refine q_e (by exact h0v (t:=95) (fun vs => (match vs with | [(_, x0), (_, x1), (_, x2)] => [x0, x1, x2] | _ => [])) rfl (fun w => by kernel_rfl)) ?_; (try simp only [Value.cells]); (try simp only [zzC, zzN])) <;> (try refine q_e (by exact h0v (t:=95) (fun vs => (match vs with | [(_, x0), (_, x1), (_, x2)] => [x0, x1, x2] | _ => [])) rfl (fun w => by kernel_rfl)) ?_; (try simp only [Value.cells]); (try simp only [zzC, zzN])) <;> (try refine q_e (by exact h0v (t:=95) (fun vs => (match vs with | [(_, x0), (_, x1), (_, x2)] => [x0, x1, x2] | _ => [])) rfl (fun w => by kernel_rfl)) ?_; (try simp only [Value.cells]); (try simp only [zzC, zzN])) <;> (try refine q_e (by exact h0v (t:=95) (fun vs => (match vs with | [(_, x0), (_, x1), (_, x2)] => [x0, x1, x2] | _ => [])) rfl (fun w => by kernel_rfl)) ?_; (try simp only [Value.cells]); (try simp only [zzC, zzN])) <;> (try refine q_e (by exact h0v (t:=95) (fun vs => (match vs with | [(_, x0), (_, x1), (_, x2)] => [x0, x1, x2] | _ => [])) rfl (fun w => by kernel_rfl)) ?_; (try simp only [Value.cells]); (try simp only [zzC, zzN])) <;> (try refine q_e (by exact h0v (t:=95) (fun vs => (match vs with | [(_, x0), (_, x1), (_, x2)] => [x0, x1, x2] | _ => [])) rfl (fun w => by kernel_rfl)) ?_; (try simp only [Value.cells]); (try simp only [zzC, zzN])) <;> (try refine q_e (by exact h0v (t:=95) (fun vs => (match vs with | [(_, x0), (_, x1), (_, x2)] => [x0, x1, x2] | _ => [])) rfl (fun w => by kernel_rfl)) ?_; (try simp only [Value.cells]); (try simp only [zzC, zzN])) <;> (try refine q_e (by exact h0v (t:=95) (fun vs => (match vs with | [(_, x0), (_, x1), (_, x2)] => [x0, x1, x2] | _ => [])) rfl (fun w => by kernel_rfl)) ?_; (try simp only [Value.cells]); (try simp only [zzC, zzN])) <;> (try refine q_e (by exact h0v (t:=95) (fun vs => (match vs with | [(_, x0), (_, x1), (_, x2)] => [x0, x1, x2] | _ => [])) rfl (fun w => by kernel_rfl)) ?_; (try simp only [Value.cells]); (try simp only [zzC, zzN])) <;> (try refine q_e (by exact h0v (t:=95) (fun vs => (match vs with | [(_, x0), (_, x1), (_, x2)] => [x0, x1, x2] | _ => [])) rfl (fun w => by kernel_rfl)) ?_; (try simp only [Value.cells]); (try simp only [zzC, zzN])) <;> (try refine q_e (by exact h0v (t:=95) (fun vs => (match vs with | [(_, x0), (_, x1), (_, x2)] => [x0, x1, x2] | _ => [])) rfl (fun w => by kernel_rfl)) ?_; (try simp only [Value.cells]); (try simp only [zzC, zzN])) <;> (try refine q_e (by exact h0v (t:=95) (fun vs => (match vs with | [(_, x0), (_, x1), (_, x2)] => [x0, x1, x2] | _ => [])) rfl (fun w => by kernel_rfl)) ?_; (try simp only [Value.cells]); (try simp only [zzC, zzN])) <;> (try refine q_e (by exact h0v (t:=95) (fun vs => (match vs with | [(_, x0), (_, x1), (_, x2)] => [x0, x1, x2] | _ => [])) rfl (fun w => by kernel_rfl)) ?_; (try simp only [Value.cells]); (try simp only [zzC, zzN])) <;> (try refine q_e (by exact h0v (t:=95) (fun vs => (match vs with | [(_, x0), (_, x1), (_, x2)] => [x0, x1, x2] | _ => [])) rfl (fun w => by kernel_rfl)) ?_; (try simp only [Value.cells]); (try simp only [zzC, zzN])) <;> (try refine q_e (by exact h0v (t:=95) (fun vs => (match vs with | [(_, x0), (_, x1), (_, x2)] => [x0, x1, x2] | _ => [])) rfl (fun w => by kernel_rfl)) ?_; (try simp only [Value.cells]); (try simp only [zzC, zzN])) <;> (try refine q_e (by exact h0v (t:=95) (fun vs => (match vs with | [(_, x0), (_, x1), (_, x2)] => [x0, x1, x2] | _ => [])) rfl (fun w => by kernel_rfl)) ?_; (try simp only [Value.cells]); (try simp only [zzC, zzN])) <;> (try refine q_e (by exact h0v (t:=95) (fun vs => (match vs with | [(_, x0), (_, x1), (_, x2)] => [x0, x1, x2] | _ => [])) rfl (fun w => by kernel_rfl)) ?_; (try simp only [Value.cells]); (try simp only [zzC, zzN])) <;> (try refine q_e (by exact h0v (t:=95) (fun vs => (match vs with | [(_, x0), (_, x1), (_, x2)] => [x0, x1, x2] | _ => [])) rfl (fun w => by kernel_rfl)) ?_; (try simp only [Value.cells]); (try simp only [zzC, zzN])) <;> (try refine q_e (by exact h0v (t:=95) (fun vs => (match vs with | [(_, x0), (_, x1), (_, x2)] => [x0, x1, x2] | _ => [])) rfl (fun w => by kernel_rfl)) ?_; (try simp only [Value.cells]); (try simp only [zzC, zzN])) <;> (try refine q_e (by exact h0v (t:=95) (fun vs => (match vs with | [(_, x0), (_, x1), (_, x2)] => [x0, x1, x2] | _ => [])) rfl (fun w => by kernel_rfl)) ?_; (try simp only [Value.cells]); (try simp only [zzC, zzN])) <;> (try refine q_e (by exact h0v (t:=95) (fun vs => (match vs with | [(_, x0), (_, x1), (_, x2)] => [x0, x1, x2] | _ => [])) rfl (fun w => by kernel_rfl)) ?_; (try simp only [Value.cells]); (try simp only [zzC, zzN])) <;> (try refine q_e (by exact h0v (t:=95) (fun vs => (match vs with | [(_, x0), (_, x1), (_, x2)] => [x0, x1, x2] | _ => [])) rfl (fun w => by kernel_rfl)) ?_; (try simp only [Value.cells]); (try simp only [zzC, zzN])) <;> (try refine q_e (by exact h0v (t:=95) (fun vs => (match vs with | [(_, x0), (_, x1), (_, x2)] => [x0, x1, x2] | _ => [])) rfl (fun w => by kernel_rfl)) ?_; (try simp only [Value.cells]); (try simp only [zzC, zzN])) <;> (try refine q_e (by exact h0v (t:=95) (fun vs => (match vs with | [(_, x0), (_, x1), (_, x2)] => [x0, x1, x2] | _ => [])) rfl (fun w => by kernel_rfl)) ?_; (try simp only [Value.cells]); (try simp only [zzC, zzN])) <;> (try refine q_e (by exact h0v (t:=95) (fun vs => (match vs with | [(_, x0), (_, x1), (_, x2)] => [x0, x1, x2] | _ => [])) rfl (fun w => by kernel_rfl)) ?_; (try simp only [Value.cells]); (try simp only [zzC, zzN])) <;> (try refine q_e (by exact h0v (t:=95) (fun vs => (match vs with | [(_, x0), (_, x1), (_, x2)] => [x0, x1, x2] | _ => [])) rfl (fun w => by kernel_rfl)) ?_; (try simp only [Value.cells]); (try simp only [zzC, zzN])) <;> (try refine q_e (by exact h0v (t:=95) (fun vs => (match vs with | [(_, x0), (_, x1), (_, x2)] => [x0, x1, x2] | _ => [])) rfl (fun w => by kernel_rfl)) ?_; (try simp only [Value.cells]); (try simp only [zzC, zzN])) <;> (try refine q_e (by exact h0v (t:=95) (fun vs => (match vs with | [(_, x0), (_, x1), (_, x2)] => [x0, x1, x2] | _ => [])) rfl (fun w => by kernel_rfl)) ?_; (try simp only [Value.cells]); (try simp only [zzC, zzN])) <;> (try refine q_e (by exact h0v (t:=95) (fun vs => (match vs with | [(_, x0), (_, x1), (_, x2)] => [x0, x1, x2] | _ => [])) rfl (fun w => by kernel_rfl)) ?_; (try simp only [Value.cells]); (try simp only [zzC, zzN])) <;> (try refine h0b ?_; (refine h0w (t:=87) (m:=30) (e:=95) (fun vs => (match vs with | [(_, x0), (_, x1), (_, x2), (_, x3), (_, x4), (_, x5), (_, x6), (_, x7), (_, x8), (_, x9), (_, x10), (_, x11), (_, x12), (_, x13), (_, x14), (_, x15), (_, x16), (_, x17), (_, x18), (_, x19), (_, x20), (_, x21), (_, x22), (_, x23), (_, x24), (_, x25), (_, x26), (_, x27), (_, x28), (_, x29)] => x0.cells.toList ++ (x1.cells.toList ++ (x2.cells.toList ++ (x3.cells.toList ++ (x4.cells.toList ++ (x5.cells.toList ++ (x6.cells.toList ++ (x7.cells.toList ++ (x8.cells.toList ++ (x9.cells.toList ++ (x10.cells.toList ++ (x11.cells.toList ++ (x12.cells.toList ++ (x13.cells.toList ++ (x14.cells.toList ++ (x15.cells.toList ++ (x16.cells.toList ++ (x17.cells.toList ++ (x18.cells.toList ++ (x19.cells.toList ++ (x20.cells.toList ++ (x21.cells.toList ++ (x22.cells.toList ++ (x23.cells.toList ++ (x24.cells.toList ++ (x25.cells.toList ++ (x26.cells.toList ++ (x27.cells.toList ++ (x28.cells.toList ++ x29.cells.toList)))))))))))))))))))))))))))) | _ => [])) rfl rfl (fun w => by kernel_rfl) ?_; intro nb hnb; (try simp only [Value.cells]); (try simp only [zzC, zzN]))) <;> (try refine p_a (h:=h0a ?_))))
 (refine h0z Tryd.results15 (.tmp rfl .nil) ?_)
 exact ⟨_, ⟨_, rfl, rfl⟩, fun _ H => H⟩
theorem clls_rng : ∀ c ∈ clls, 0 ≤ c.num ∧ c.num < 500 ∧ 0 ≤ c.args ∧ c.args ≤ 2 := by decide +kernel
set_option maxHeartbeats 1000000 in
theorem refFind_c {S w0 L} (s : Int) : Fn Tryd.prog 29 #[.int .i64 s] S w0 L fun v L' => v = rgotV (h3f s clls) ∧ L = L' := by
 refine Fn1 Tryd.func29 Tryd.ntmps29 rfl rfl ?_
 repeat' (first | (refine h2g (id:=0) ?_) | refine h0t ?_ | refine h0e ?_ | (refine gR 0 ?_ <;> (try refine h0b ?_; (refine h1b (t:=95) rfl Tryd.zeroValue95 ?_; intro nb hnb; (try simp only [Value.cells]))) <;> (try refine p_a (h:=h0a ?_))) | (refine gR 1 ?_ <;> (try refine h0b ?_; (refine q_c 15 (c:=by apply refCalls_c) (h:=?_); rintro _ _ ⟨bs, rfl, rfl⟩; (try simp only [zzE, zzF]))) <;> (try refine p_a (h:=h0a ?_))) | (refine gR 2 (p_a (h:=h0a ?_))))
 refine ⟨?_⟩
 obtain ⟨nbR, rfl⟩ : ∃ x, x = nb := ⟨_, rfl⟩
 refine h0o ?_
 refine h2i (γ:=Nat) (fun k => k ≤ 30 ∧ h3f s clls = h3f s (clls.drop k)) (fun k => 30 - k) (fun k => [(5, .int .i64 (k : Nat))]) [(0, _), (2, _), (4, _)]
  (fun k => ⟨true, bs, .cells (flatR clls).toArray 95 (0, 0)⟩ :: ⟨true, nbR, .cells #[.int .i64 0, .string ⟨#[]⟩, .int .i64 0] 95 (0, 0)⟩ :: L)
  0 (.cons rfl (.cons rfl (.cons rfl .nil))) ⟨Nat.zero_le _, rfl⟩ (by (focus (repeat (first | exact Sub.nil | refine Sub.cons rfl ?_)))) c_20 ?_
 rintro k ⟨(hk : k ≤ 30), hgo⟩
 simp only [List.cons_append, List.nil_append]
 have hgo' := Lib.hid hgo
 clear hgo
 by_cases hlt : k < 30
 ·have hx := flatR_at clls k hlt
  have hsz : k * 3 + 3 ≤ (flatR clls).toArray.size := by rw [List.size_toArray, flatR_len, clls_len]; omega
  have hg := hgo'.out
  rw [List.drop_eq_getElem_cons (by rw [clls_len]; exact hlt)] at hg
  generalize hc : clls[k]'(by rw [clls_len]; exact hlt) = c at *
  obtain ⟨num, name, args⟩ := c
  have hx1 : (flatR clls).toArray.toList[k * 3]? = some (.int .i64 num) := by
   have := congrArg (fun l => l[0]?) hx
   simpa [Cll.rcells] using this
  simp only [Cll.rcells] at hx
  simp only [h3f] at hg
  have hg' := Lib.hid hg
  clear hg hc
  repeat' (first | refine h0t ?_ | refine h0e ?_ | refine h1d ?_ | refine h1x ?_ | refine h0x ?_ | refine h1h ?_ | refine h1m ?_ | refine h0o ?_ | refine h1a ?_ | refine h1e ?_ | refine h0l rfl ?_ | (refine gR 3 (p_m (h:=p_m (h:=p_e (by apply h0h; exact rfl; exact (fun _ => BigFrame.builtin_len ..); apply h0j Tryd.underlying87; exact h3d) (h:=p_e (q_b (r:=by exact h0q q_o)) (h:=h0a ?_)))))) | (refine gR 5 (p_m (h:=p_m (h:=p_e (by apply h0s; exact rfl; exact rfl; (focus (apply h2h Tryd.underlying87 sz_95; omega; omega; exact c_1))) (h:=p_e (q_g fo_95_0) (h:=p_e (by apply h2b (t:=3); exact rfl; exact fd0; kernel_rfl; kernel_rfl; (with_reducible assumption)) (h:=p_m (h:=p_e (q_b (r:=by exact rb_eql)) (h:=h0a ?_))))))))) | (refine gR 6 (p_m (h:=p_m (h:=p_e (by apply h0s; exact rfl; exact rfl; (focus (apply h2h Tryd.underlying87 sz_95; omega; omega; exact c_1))) (h:=q_e (by apply h1r (t:=95); exact rfl; exact fd0; kernel_rfl; kernel_rfl; exact sz_95; (with_reducible assumption); (with_reducible assumption)) ?_)))) <;> (try refine h0b ?_; (refine q_W ?_)) <;> (try refine p_a (h:=h0a ?_))) | (refine gR 4 (q_m ?_) <;> (try refine q_e (q_b (r:=by apply h1q; exact c_4; (focus (refine IntWalk.i64_in _ ?_; omega)))) ?_) <;> (try refine p_a (h:=h0a ?_))) | ((refine h4d rfl (fun hc => ?_) (fun hc => ?_)) <;> (try subst hc)))
  ·(apply h0z Tryd.results29; (focus (apply Res.agg; exact rfl; (focus (repeat (first | exact fd0 | (with_reducible assumption) | apply fdA | apply fdS))); kernel_rfl; kernel_rfl; exact c_8; exact sz_95; apply Res.tmp; exact rfl; exact Res.nil)))
   refine ⟨_, ⟨?_, rfl⟩, by intro w H; refine H.sub ?_; (try simp only [zzC, zzN]); repeat (first | exact List.Sublist.refl _ | refine List.Sublist.cons _ ?_)⟩
   rw [hg'.out, if_pos rfl]; rfl
  ·refine h1p (k + 1) ⟨⟨by show k + 1 ≤ 30; omega, ?_⟩, by show 30 - (k + 1) < 30 - k; omega⟩ (by (focus (repeat (first | exact Sub.nil | refine Sub.cons rfl ?_)))) (fun _ H => H)
   rw [hg'.out, if_neg (fun h => hc h.symm)]
 ·obtain rfl : k = 30 := by omega
  repeat' (first | refine h0t ?_ | refine h0e ?_ | refine h1w ?_ | refine h1o ?_ | refine h1v ?_ | refine h2j ?_ | refine h1e ?_ | refine h0m rfl ?_ | (refine gR 3 (p_m (h:=p_m (h:=p_e (by apply h0h; exact rfl; exact (fun _ => BigFrame.builtin_len ..); apply h0j Tryd.underlying87; exact h3d) (h:=p_e (q_b (r:=by exact h0r q_o)) (h:=h0a ?_)))))) | (refine gR 7 ?_ <;> (try refine q_e (by exact h0v (t:=95) (fun vs => (match vs with | [] => [Value.int .i64 0, Value.string ⟨#[]⟩, Value.int .i64 0] | _ => [])) rfl (fun w => by kernel_rfl)) ?_; (try simp only [Value.cells]); (try simp only [zzC, zzN])) <;> (try refine h0b ?_; (refine q_W ?_)) <;> (try refine p_a (h:=h0a ?_))))
  (apply h0z Tryd.results29; (focus (apply Res.agg; exact rfl; (focus (repeat (first | exact fd0 | (with_reducible assumption) | apply fdA | apply fdS))); kernel_rfl; kernel_rfl; exact c_8; exact sz_95; apply Res.tmp; exact rfl; exact Res.nil)))
  refine ⟨_, ⟨?_, rfl⟩, by intro w H; refine H.sub ?_; (try simp only [zzC, zzN]); repeat (first | exact List.Sublist.refl _ | refine List.Sublist.cons _ ?_)⟩
  rw [hgo'.out, List.drop_of_length_le (by rw [clls_len]; omega)]; rfl
theorem both_agg (o : Option Cll) (h : ∀ c, o = some c → 0 ≤ c.num ∧ c.num < 4294967296) : ∃ n s a, (0 ≤ n ∧ n < 4294967296) ∧ cllV o = .agg #[.int .u32 n, .string s, .int .i64 a] ∧ refV o = .agg #[.int .i64 n, .string s, .int .i64 a] := by
 cases o with
 | none => exact ⟨0, _, _, by omega, rfl, rfl⟩
 | some c => exact ⟨_, _, _, h c rfl, rfl, rfl⟩
theorem cnumF_mem {n : Int} {l : List Cll} {c : Cll} (h : h3f n l = some c) : c ∈ l ∧ c.num = n := by
 induction l with
 | nil => simp [h3f] at h
 | cons d r ih =>
  unfold h3f at h
  split at h
  ·rename_i e; obtain rfl := Option.some.inj h; exact ⟨by simp, e.symm⟩
  ·have := ih h; exact ⟨by simp [this.1], this.2⟩
theorem num_agg (s : Int) : ∃ n t a, (0 ≤ n ∧ n < 4294967296) ∧ cllV (h3f s clls) = .agg #[.int .u32 n, .string t, .int .i64 a] ∧ refV (h3f s clls) = .agg #[.int .i64 n, .string t, .int .i64 a] :=
 both_agg _ fun c h => by have := clls_rng c (cnumF_mem h).1; omega
abbrev Wr := Nat × Nat × Nat
def failW (w : Wr) (t : Tk) (e : Nat) : Wr := if w = (0, 0, 0) then (t.line, t.col, e) else w
def zTk : Tk := ⟨0, [], 0, 0, 0⟩
abbrev PS := List Tk × Wr
def takeF (k : Nat) (s : PS) : Tk × PS := (s.1.headD zTk, s.1.tail, if (s.1.headD zTk).kind = k then s.2 else failW s.2 (s.1.headD zTk) 203)
def wordT (s : PS) : Tk × PS := ((takeF 1 s).1, (takeF 1 s).2.1, if (takeF 1 s).2.2 = (0, 0, 0) ∧ 1 < (h2x 44 (takeF 1 s).1.text).length then failW (takeF 1 s).2.2 (takeF 1 s).1 203 else (takeF 1 s).2.2)
def keyF (k : List UInt8) (s : PS) : PS := ((takeF 1 s).2.1, if (takeF 1 s).2.2 = (0, 0, 0) ∧ (takeF 1 s).1.text ≠ k then failW (takeF 1 s).2.2 (takeF 1 s).1 203 else (takeF 1 s).2.2)
def tKill : List UInt8 := [107, 105, 108, 108]
def tLog : List UInt8 := [108, 111, 103]
def tAllow : List UInt8 := [97, 108, 108, 111, 119]
def tErrno : List UInt8 := [101, 114, 114, 110, 111]
def toI (n : Nat) : Int := IntKind.i64.wrap (n : Int)
def failA (n : Nat) : Int := 327680 + min (max (toI n) 0) 4095
def actF (s : PS) : Int × PS :=
  if (wordT s).1.text = tKill then (2147483648, (wordT s).2)
  else if (wordT s).1.text = tLog then (2147221504, (wordT s).2)
  else if (wordT s).1.text = tAllow then (2147418112, (wordT s).2)
  else if (wordT s).1.text = tErrno then
    (if (takeF 2 (wordT s).2).2.2 = (0, 0, 0) ∧ ((takeF 2 (wordT s).2).1.num < 1 ∨ 4095 < (takeF 2 (wordT s).2).1.num) then (0, ((takeF 2 (wordT s).2).2.1, failW (takeF 2 (wordT s).2).2.2 (takeF 2 (wordT s).2).1 204))
     else (failA (takeF 2 (wordT s).2).1.num, (takeF 2 (wordT s).2).2))
  else (0, ((wordT s).2.1, failW (wordT s).2.2 (wordT s).1 202))
structure Cnd where
 arg : Nat
 op : Nat
 mask : Nat
 val : Nat
abbrev Cnd.cells (c : Cnd) : List Value := [.int .i64 (c.arg : Nat), .int .u8 (c.op : Nat), .int .u64 (c.mask : Nat), .int .u64 (c.val : Nat)]
structure RulP where
 num : Int
 act : Int
 conds : List Cnd
structure Pol where
 nm : List UInt8
 df : Int
 rules : List RulP
 hd : Nat
 paths : List (List UInt8 × Nat)
 ports : List (Nat × Nat)
structure O8 where
 nm : Value
 df : Value
 vr : Value
 hd : Value
 vp : Value
 vq : Value
 mh : Value
 mp : Value
structure TkOk (t : Tk) : Prop where
 kind : t.kind ≤ 4
 text : t.text.length ≤ 65536
 num : t.num < 18446744073709551616
 line : t.line ≤ 100000
 col : t.col ≤ 100000
structure TkS (x : Blk) (a : Option Addr) (c : Nat) (l : List Tk) : Prop where
 sl : Sli [x] a l.length 5 (flatTk l)
 le : l.length ≤ c
 cm : c ≤ maxLen
 ok : ∀ t ∈ l, TkOk t
theorem flatTk_at (l : List Tk) (t : Tk) (r : List Tk) (h : l = t :: r) : (flatTk l).take 5 = t.cells ∧ (flatTk l).drop 5 = flatTk r := by
 subst h
 unfold flatTk
 rw [List.flatMap_cons]
 exact ⟨List.take_left (l₁:=t.cells), List.drop_left (l₁:=t.cells)⟩
theorem TkS.tail {x : Blk} {a : Option Addr} {c : Nat} {t : Tk} {r : List Tk} (h : TkS x a c (t :: r)) : TkS x (slO a 1 c 5) (c - 1) r := by
 have hle := h.le
 rw [List.length_cons] at hle
 have h2 := h.sl.cut (lo:=1) (hi:=(t :: r).length) (by rw [List.length_cons]; omega) (Nat.le_refl _) h.le
 rw [List.length_cons, Nat.add_sub_cancel, (flatTk_at _ t r rfl).2, List.take_of_length_le (by rw [flatTk_len]; exact Nat.le_refl _)] at h2
 exact ⟨h2, by omega, by have := h.cm; omega, fun t ht => h.ok t (List.mem_cons_of_mem _ ht)⟩
theorem ior_fail (x : Int) (h0 : 0 ≤ x) (h1 : x ≤ 4095) : ior 327680 x = 327680 + x := by
 unfold ior
 have h := Nat.shiftLeft_add_eq_or_of_lt (b:=x.toNat) (i:=16) (by omega) 5
 have e : (327680 : Int).toNat = 5 <<< 16 := rfl
 rw [e, ← h]
 omega
theorem rfail_c {S w0 L} (e : Int) (h1 : -9223372036854775808 ≤ e) (h2 : e < 9223372036854775808) : Fn Tryd.prog 34 #[.int .i64 e] S w0 L fun v L' => v = .int .u32 (327680 + min (max e 0) 4095) ∧ L = L' := by
 rw [← ior_fail _ (by omega) (by omega)]
 refine Fn1 Tryd.func34 Tryd.ntmps34 rfl rfl ?_
 repeat' (first | refine h0t ?_ | refine h0a ?_ | refine h0e ?_ | refine h1d ?_ | refine h1w ?_ | refine h1x ?_ | refine h1o ?_ | refine h0x ?_ | refine h1h ?_ | refine h1m ?_ | refine h1v ?_ | refine G_blk_y rfl ?_ | refine h0o ?_ | refine h1a ?_ | refine h2j ?_ | refine h1e ?_ | refine h0l rfl ?_ | refine h0m rfl ?_ | (refine gR 0 ?_ <;> (try refine h0b ?_; (first | (refine q_k (h1j rfl) ?_))) <;> (try refine h0a ?_)) | (refine gR 1 ?_ <;> (try refine h0b ?_; (first | (refine q_k (h0g rfl) ?_))) <;> (try refine h0b ?_; (first | (refine q_k (h0h rfl (fun _ => BigFrame.builtin_max ..) r_max) ?_))) <;> (try refine h0b ?_; (first | (refine q_k (h0h rfl (fun _ => BigFrame.builtin_min ..) r_min) ?_))) <;> (try refine h0b ?_; (first | (refine q_k (by apply h3c; exact rfl; (focus (apply h3a Tryd.underlying53 Tryd.underlying23; first | (refine IntWalk.i64_in _ ?_; omega) | (refine IntWalk.u8_in _ ?_; omega) | (refine IntWalk.u16_in _ ?_; omega) | (refine IntWalk.u32_in _ ?_; omega) | (refine IntWalk.u64_in _ ?_; omega) | (refine IntWalk.i32_in _ ?_; omega) | exact rfl))) ?_))) <;> (try refine h0b ?_; (first | (refine q_k (q_b (r:=by refine rb_or ?_ ?_; (focus (refine ⟨rfl, ⟨?_, ?_⟩⟩; (omega); (focus (simp only [IntKind.bits]; omega)))); (focus (refine ⟨rfl, ⟨?_, ?_⟩⟩; (omega); (focus (simp only [IntKind.bits]; omega)))))) ?_))) <;> (try refine h0b ?_; (first | (refine q_k (h1j rfl) ?_))) <;> (try refine h0a ?_)) | ((first | (refine h3x rfl (fun hc => ?_) (fun hc => ?_)) | (refine h4d rfl (fun hc => ?_) (fun hc => ?_)) | (refine G_cond rfl (fun hc => ?_) (fun hc => ?_))) <;> (try subst hc)))
 (refine h0z Tryd.results34 (.tmp rfl .nil) ?_)
 exact ⟨_, ⟨rfl, rfl⟩, by intro w H; refine H.sub ?_; (try simp only [zzC, zzN]); repeat (first | exact List.Sublist.refl _ | refine List.Sublist.cons_cons _ ?_ | refine List.Sublist.cons _ ?_ | refine List.sublist_append_of_sublist_right ?_)⟩
abbrev sgV : List Value := [.string ⟨#[]⟩, .string ⟨#[61, 61]⟩, .string ⟨#[33, 61]⟩, .string ⟨#[60]⟩, .string ⟨#[60, 61]⟩, .string ⟨#[62]⟩, .string ⟨#[62, 61]⟩]
theorem signs_c {S w0 L} : Fn Tryd.prog 42 #[] S w0 L fun v L' => v = .agg sgV.toArray ∧ L = L' := by
 refine Fn0 Tryd.func42 Tryd.ntmps42 rfl ?_
 repeat' (first | refine h0t ?_ | refine h0e ?_ | refine h1e ?_ | (refine gR 0 ?_ <;> (try refine h0b ?_; (refine h1b (t:=128) rfl Tryd.zeroValue128 ?_; intro nb hnb; (try simp only [Value.cells]))) <;> (try refine h0a ?_)) | (refine gR 1 ?_ <;> (try refine q_e (by exact h0v (t:=128) (fun vs => (match vs with | [(_, x0), (_, x1), (_, x2), (_, x3), (_, x4), (_, x5), (_, x6)] => [x0, x1, x2, x3, x4, x5, x6] | _ => [])) rfl (fun w => by kernel_rfl)) ?_; (try simp only [Value.cells]); (try simp only [zzC, zzN])) <;> (try refine h0b ?_; (refine q_W ?_)) <;> (try refine h0a ?_)))
 (apply G_doneA Tryd.results42; exact rfl; (focus (repeat (first | exact fd0 | (with_reducible assumption) | apply fdA | apply fdS))); kernel_rfl; kernel_rfl; exact sz_128; exact c_8)
 exact ⟨_, ⟨rfl, rfl⟩, by intro w H; refine H.sub ?_; (try simp only [zzC, zzN]); repeat (first | exact List.Sublist.refl _ | refine List.Sublist.cons _ ?_)⟩
theorem psign_c {S w0 L} (o : Nat) (h1 : 1 ≤ o) (h2 : o ≤ 7) : Fn Tryd.prog 33 #[.int .u8 (o : Nat)] S w0 L fun v L' => v = .string (mB8 (sgns.getD (o - 1) [])) ∧ L = L' := by
 by_cases h7 : o = 7
 ·subst h7
  refine Fn1 Tryd.func33 Tryd.ntmps33 rfl rfl ?_
  repeat' (first | refine h0t ?_ | refine h0e ?_ | refine h0x ?_ | refine h1e ?_ | refine h0l rfl ?_ | (refine gR 0 (p_a (h:=h0a ?_))) | (refine gR 1 (q_m ?_) <;> (try refine q_e (by exact q_b (r:=by refine h1l ?_; first | rfl | (with_reducible assumption) | (decide; done) | omega)) ?_) <;> (try refine h0a ?_)) | (refine gR 2 (p_a (h:=h0a ?_))))
  (refine h0z Tryd.results33 (.tmp rfl .nil) ?_)
  exact ⟨_, ⟨rfl, rfl⟩, by intro w H; refine H.sub ?_; (try simp only [zzC, zzN]); repeat (exact List.Sublist.refl _)⟩
 ·have hv : sgV.toArray.toList[((o : Nat) : Int).toNat]? = some (.string (mB8 (sgns.getD (o - 1) []))) := by
   rw [Int.toNat_natCast]
   obtain rfl | rfl | rfl | rfl | rfl | rfl : o = 1 ∨ o = 2 ∨ o = 3 ∨ o = 4 ∨ o = 5 ∨ o = 6 := by omega
   all_goals rfl
  generalize mB8 (sgns.getD (o - 1) []) = z at *
  refine Fn1 Tryd.func33 Tryd.ntmps33 rfl rfl ?_
  repeat' (first | refine h0t ?_ | refine h0e ?_ | refine h1a ?_ | refine h1e ?_ | refine h0m rfl ?_ | (refine gR 0 (p_a (h:=h0a ?_))) | (refine gR 1 (p_m (h:=p_e (q_b (r:=by exact h0y q_o)) (h:=h0a ?_)))) | (refine gR 3 (p_m (h:=p_e (q_b (r:=by exact h0r q_o)) (h:=p_m (h:=p_y (h0g rfl) (h:=p_y (q_b (r:=by exact h0u q_o)) (h:=p_p (h:=h0a ?_)))))))) | (refine gR 5 ?_ <;> (try refine h0b ?_; (refine q_c 42 (c:=by apply signs_c) (h:=?_); rintro _ _ ⟨rfl, rfl⟩; (try simp only [zzE, zzF]))) <;> (try refine p_m (h:=p_e (by apply h1s; exact rfl; exact rfl; (focus (apply r_ixv Tryd.underlying128; kernel_rfl; kernel_rfl; exact sz_9; omega; omega; (with_reducible assumption)))) (h:=p_a (h:=h0a ?_))))))
  (refine h0z Tryd.results33 (.tmp rfl .nil) ?_)
  exact ⟨_, ⟨rfl, rfl⟩, by intro w H; refine H.sub ?_; (try simp only [zzC, zzN]); repeat (exact List.Sublist.refl _)⟩
def tbS (b m1 m2 n : Nat) : List Blk := if n = 0 then [tbl0 b 0 0] else [tbl1 b m1 m2 n 1, mapB m1 (byName clls), mapB m2 (byNum clls)]
theorem tbS_succ (b m1 m2 n : Nat) : tbS b m1 m2 (n + 1) = [tbl1 b m1 m2 ((n : Int) + 1) 1, mapB m1 (byName clls), mapB m2 (byNum clls)] := by
 unfold tbS
 rw [if_neg (by omega), Int.natCast_add, Int.natCast_one]
theorem Fn.weak {P : Program} {F : FuncId} {args : Array Value} {S : List Nat} {w0 : World} {L1 L2 : List Blk} {R : Value → List Blk → Prop} (hL : ∀ w, HP S w0 w L1 → HP S w0 w L2) (hc : Fn P F args S w0 L2 R) : Fn P F args S w0 L1 R := .mk fun w H => hc.out w (hL w H)
section
variable {P : Program} {n : Nat} {l : List (Nat × Value)} {S : List Nat} {w0 : World} {L : List Blk} {kt : Kont}
theorem G_regionHp {id m : Nat} {os : List Oper} {pre T : List Blk} (hb : pre ++ T = L) (hm : P.follows .mixedOrders = true) (hl : os.length = m) (h : G n l S w0 L (KH P S w0 pre os.toArray kt m (Array.replicate m false))) : G n l S w0 L (KC P (.region id os.toArray true) kt) := .mk fun a w hf H => by
 subst hl
 have _ := hb
 exact ⟨wp_region_held hm (by simpa using (h.out a _ hf H.drew).out)⟩
end
section
variable {α : Type} [DecidableEq α] (d : TypeDesc) (key : α → Value) (hk : ∀ a b, Instr.sameNow d (key a) (key b) = some (decide (a = b)))
def setKv (qs : List α) : List (Value × Value) := qs.map fun p => (key p, .bool true)
def MapS (kvs : List (Value × Value)) (ps : List α) : Prop := ∃ qs : List α, kvs = setKv key qs ∧ ∀ p, p ∈ qs ↔ p ∈ ps
include hk in
theorem fd_set (s : α) (qs : List α) (i : Nat) : (s ∉ qs ∧ fd d (key s) (setKv key qs) i = some none) ∨ (s ∈ qs ∧ ∃ j, j < qs.length ∧ qs[j]? = some s ∧ fd d (key s) (setKv key qs) i = some (some (i + j, .bool true))) := by
 induction qs generalizing i with
 | nil => exact Or.inl ⟨by simp, rfl⟩
 | cons q r ih =>
  by_cases h : s = q
  ·refine Or.inr ⟨by simp [h], 0, by simp, by simp [h], ?_⟩
   simp [setKv, fd, hk, h]
  ·have e : fd d (key s) (setKv key (q :: r)) i = fd d (key s) (setKv key r) (i + 1) := by simp [setKv, fd, hk, h]
   rw [e]
   rcases ih (i + 1) with ⟨h1, h2⟩ | ⟨h1, j, h2, h3, h4⟩
   ·exact Or.inl ⟨by simp [h, h1], h2⟩
   ·exact Or.inr ⟨by simp [h1], j + 1, by simpa using h2, by simpa using h3, by rw [h4]; congr 3; omega⟩
include hk in
theorem MapS.look {kvs : List (Value × Value)} {ps : List α} (h : MapS key kvs ps) (s : α) : ∃ r, fd d (key s) kvs 0 = some r ∧ found r (.bool false) = .bool (decide (s ∈ ps)) ∧ MapS key (updE kvs (key s) (.bool true) r) (ps ++ [s]) := by
 obtain ⟨qs, rfl, hq⟩ := h
 rcases fd_set d key hk s qs 0 with ⟨h1, h2⟩ | ⟨h1, j, h2, h3, h4⟩
 ·refine ⟨none, h2, ?_, qs ++ [s], ?_, ?_⟩
  ·rw [decide_eq_false (fun h => h1 ((hq s).2 h))]; rfl
  ·simp [updE, setKv]
  ·intro p; simp [hq p]
 ·refine ⟨some (0 + j, .bool true), h4, ?_, qs, ?_, ?_⟩
  ·rw [decide_eq_true ((hq s).1 h1)]; rfl
  ·show (setKv key qs).set (0 + j) (key s, .bool true) = setKv key qs
   rw [Nat.zero_add]
   unfold setKv
   have hj : qs[j] = s := by rw [List.getElem?_eq_getElem h2] at h3; exact Option.some.inj h3
   apply List.ext_getElem (by simp)
   intro i hi1 hi2
   rw [List.getElem_set]
   split
   ·rename_i hij; subst hij; simp [hj]
   ·rfl
  ·intro p
   rw [hq p, List.mem_append, List.mem_singleton]
   refine ⟨Or.inl, ?_⟩
   rintro (h | rfl)
   ·exact h
   ·exact (hq _).1 h1
end
theorem MapS.nil {α : Type} (key : α → Value) : MapS key [] ([] : List α) := ⟨[], rfl, fun _ => Iff.rfl⟩
abbrev keyT (s : List UInt8) : Value := .string (mB8 s)
theorem keyT_same (a b : List UInt8) : Instr.sameNow .string (keyT a) (keyT b) = some (decide (a = b)) := by
 have : (mB8 a = mB8 b) ↔ a = b := ⟨fun h => by rw [← lB_mB8 a, h, lB_mB8], fun h => by rw [h]⟩
 simp [Instr.sameNow, ba_beq, this]
abbrev keyP (n : Nat) : Value := .int .u16 (n : Nat)
theorem keyP_same (a b : Nat) : Instr.sameNow (.int .u16) (keyP a) (keyP b) = some (decide (a = b)) := by
 have e : ((a : Int) == (b : Int)) = decide (a = b) := by
  by_cases h : a = b
  ·subst h; simp
  ·rw [decide_eq_false h]
   exact beq_false_of_ne (by omega)
 simp [Instr.sameNow, e]
theorem pathL_c {S w0 L} (s : ByteArray) (hs : s.size ≤ 1000000) : Fn Tryd.prog 38 #[.string s] S w0 L fun v L' => v = .bool (Pt.pathF (lB s)) ∧ L = L' := by
 by_cases h : s.size ≤ 1000
 ·exact Pt.path_c s h
 ·have hl := lB_len s
  have e : Pt.pathF (lB s) = false := by
   unfold Pt.pathF
   rw [if_neg (fun h1 => by rw [h1] at hl; simp at hl; omega), if_pos (by omega)]
  rw [e]
  have hn : ¬ s = ⟨#[47]⟩ := fun h1 => by rw [h1] at h; exact h (by decide)
  refine Fn1 Tryd.func38 Tryd.ntmps38 rfl rfl ?_
  repeat' (first | refine h0t ?_ | refine h0e ?_ | refine h0x ?_ | refine h1e ?_ | refine h0l rfl ?_ | (refine gR 0 (p_a (h:=h0a ?_))) | (refine gR 1 (p_m (h:=p_e (h0h rfl (fun _ => BigFrame.builtin_len ..) (h0n Tryd.underlying9)) (h:=p_e (q_b (r:=by exact h0r q_o)) (h:=p_m (h:=p_y (h0g rfl) (h:=p_y (h0h rfl (fun _ => BigFrame.builtin_len ..) (h0n Tryd.underlying9)) (h:=p_y (q_b (r:=by exact h1c q_o)) (h:=p_p (h:=p_m (h:=p_z (h:=p_z (h:=p_z (h:=p_p (h:=h0a ?_))))))))))))))) | (refine gR 2 (p_a (h:=h0a ?_))))
  (refine h0z Tryd.results38 (.tmp rfl .nil) ?_)
  exact ⟨_, ⟨rfl, rfl⟩, by intro w H; refine H.sub ?_; (try simp only [zzC, zzN]); repeat (exact List.Sublist.refl _)⟩
def pthC (ps : List (List UInt8 × Nat)) : List Value := ps.flatMap fun p => [.string (mB8 p.1), .int .u16 (p.2 : Nat)]
theorem pthC_snoc (ps : List (List UInt8 × Nat)) (s : List UInt8) (n : Nat) : pthC (ps ++ [(s, n)]) = pthC ps ++ [.string (mB8 s), .int .u16 (n : Nat)] := by simp [pthC]
def porC (ps : List (Nat × Nat)) : List Value := ps.flatMap fun p => [.int .u16 (p.1 : Nat), .int .u16 (p.2 : Nat)]
def cnO : Option Cll → Int
 | some c => c.num
 | none => 0
def tPolicy : List UInt8 := [112, 111, 108, 105, 99, 121]
def tDefault : List UInt8 := [100, 101, 102, 97, 117, 108, 116]
def nmS (s : PS) : PS := ((wordT (keyF tPolicy s)).2.1, if (wordT (keyF tPolicy s)).2.2 = (0, 0, 0) ∧ Wd.wordF (mB8 (wordT (keyF tPolicy s)).1.text) = false then failW (wordT (keyF tPolicy s)).2.2 (wordT (keyF tPolicy s)).1 202 else (wordT (keyF tPolicy s)).2.2)
def dfS (s : PS) : Int × PS := actF (keyF tDefault (takeF 0 (nmS s)).2)
def polS (s : PS) : Pol × PS := (⟨(wordT (keyF tPolicy s)).1.text, (dfS s).1, [], 0, [], []⟩, (takeF 0 (dfS s).2).2)
theorem porC_snoc (ps : List (Nat × Nat)) (s : Nat) (n : Nat) : porC (ps ++ [(s, n)]) = porC ps ++ [.int .u16 (s : Nat), .int .u16 (n : Nat)] := by simp [porC]
def cndC (cs : List Cnd) : List Value := cs.flatMap Cnd.cells
theorem cndC_snoc (cs : List Cnd) (c : Cnd) : cndC (cs ++ [c]) = cndC cs ++ c.cells := by simp [cndC]
abbrev rlB (n : Nat) (num act : Int) (v : Value) : Blk := ⟨true, n, .cells #[.int .u32 num, .int .u32 act, v] 47 (0, 0)⟩
theorem TkS.head {x : Blk} {a : Option Addr} {c : Nat} {t : Tk} {r : List Tk} (h : TkS x a c (t :: r)) : ∃ q bb off cs T fr, a = some ⟨bb, off, none⟩ ∧ x = ⟨q, bb, .cells cs T fr⟩ ∧ off + (r.length + 1) * 5 ≤ cs.size ∧ (cs.toList.drop off).take 5 = t.cells ∧ cs.toList[off]? = some (.int .u8 (t.kind : Nat)) := by
 rcases h.sl.2 with h0 | ⟨i0, q, bb, off, cs, T, fr, rfl, hi0, hsz, hcs⟩
 ·rw [List.length_cons] at h0; omega
 have hx5 : (cs.toList.drop off).take 5 = t.cells := by
  have h2 := (flatTk_at _ t r rfl).1
  rw [← hcs, List.take_take, Nat.min_eq_left (by rw [List.length_cons]; omega)] at h2
  exact h2
 obtain rfl : x = ⟨q, bb, .cells cs T fr⟩ := by
  cases i0 with
  | zero => exact Option.some.inj hi0
  | succ i => simp at hi0
 refine ⟨q, bb, off, cs, T, fr, rfl, rfl, by rw [List.length_cons] at hsz; exact hsz, hx5, ?_⟩
 have h3 : ((cs.toList.drop off).take 5)[0]? = some (.int .u8 (t.kind : Nat)) := by rw [hx5]; rfl
 rw [List.getElem?_take_of_lt (by omega), List.getElem?_drop, Nat.add_zero] at h3
 exact h3
theorem gotV_num (o : Option Cll) : ∃ s a, gotV o = tupleOf [.agg #[.int .u32 (cnO o), .string s, .int .i64 a], .bool o.isSome] := by
 cases o with
 | none => exact ⟨_, _, rfl⟩
 | some c => exact ⟨c.name, c.args, rfl⟩
def flatB : List (List Blk) → List Blk
 | [] => []
 | [x] => x
 | x :: y :: r => x ++ flatB (y :: r)
theorem flatB_eq : ∀ l : List (List Blk), flatB l = l.flatten
 | [] => rfl
 | [x] => by simp [flatB]
 | x :: y :: r => by rw [flatB, flatB_eq (y :: r)]; simp
theorem HP.re {S : List Nat} {w0 w : World} (env : List (List Blk)) (is js : List Nat) (h : is.Perm js) (H : HP S w0 w (flatB (is.map fun i => env.getD i []))) : HP S w0 w (flatB (js.map fun i => env.getD i [])) := by
 rw [flatB_eq] at H ⊢
 exact H.perm ((h.map _).flatten)
inductive RulsR : List RulP → List Value → List Blk → Prop
 | nil : RulsR [] [] []
 | snoc {rs : List RulP} {cz : List Value} {ec : List Blk} {r : RulP} {v : Value} {e : List Blk} : RulsR rs cz ec → Own 39 4 v r.conds.length (cndC r.conds) e → RulsR (rs ++ [r]) (cz ++ [.int .u32 r.num, .int .u32 r.act, v]) (e ++ ec)
structure RdD where
 a : Option Addr
 c : Nat
 vr : Value
 vp : Value
 vq : Value
 mh : Nat
 mp : Nat
 kh : List (Value × Value)
 kp : List (Value × Value)
 er : List Blk
 ec : List Blk
 ep : List Blk
 eq : List Blk
 T : List Blk
 cz : List Value
abbrev RdD.o (d : RdD) (P : Pol) : O8 := ⟨.string (mB8 P.nm), .int .u32 P.df, d.vr, .int .u16 (P.hd : Nat), d.vp, d.vq, .map (some d.mh), .map (some d.mp)⟩
theorem HP.re2 {S : List Nat} {w0 w : World} {A B : List Blk} (env : List (List Blk)) (is js : List Nat) (h : is.Perm js) (hA : A = flatB (is.map fun i => env.getD i [])) (hB : flatB (js.map fun i => env.getD i []) = B) (H : HP S w0 w A) : HP S w0 w B := by
 subst hA hB
 exact H.re env is js h
structure PoD where
 vr : Value
 vp : Value
 vq : Value
 cz : List Value
 er : List Blk
 ec : List Blk
 ep : List Blk
 eq : List Blk
structure PoD.ok (d : PoD) (P : Pol) : Prop where
 rs : RulsR P.rules d.cz d.ec
 vr : Own 47 3 d.vr P.rules.length d.cz d.er
 vp : Own 49 2 d.vp P.paths.length (pthC P.paths) d.ep
 vq : Own 51 2 d.vq P.ports.length (porC P.ports) d.eq
 hd : P.hd < 65536
 l1 : P.rules.length ≤ 65
 l2 : P.paths.length ≤ 33
 l3 : P.ports.length ≤ 33
def PoD.blocks (d : PoD) : List Blk := d.er ++ (d.ep ++ (d.eq ++ d.ec))
abbrev polC (P : Pol) (vr vp vq : Value) : List Value := [.string (mB8 P.nm), .int .u32 P.df, vr, .int .u16 (P.hd : Nat), vp, vq]
theorem PoD.ok.sl {d : PoD} {P : Pol} (h : d.ok P) : ∃ r1 r3 p1 p3 q1 q3, d.vr = .slice r1 P.rules.length r3 ∧ d.vp = .slice p1 P.paths.length p3 ∧ d.vq = .slice q1 P.ports.length q3 := by
 obtain ⟨r1, r2, e1, -⟩ := h.vr.sli []
 obtain ⟨p1, p2, e2, -⟩ := h.vp.sli []
 obtain ⟨q1, q2, e3, -⟩ := h.vq.sli []
 exact ⟨r1, r2, p1, p2, q1, q2, e1, e2, e3⟩
structure GCnd where
 arg : Int
 op : Nat
 mask : Nat
 val : Nat
abbrev GCnd.cells (c : GCnd) : List Value := [.int .i64 c.arg, .int .u8 (c.op : Nat), .int .u64 (c.mask : Nat), .int .u64 (c.val : Nat)]
structure GCnd.ok (c : GCnd) : Prop where
 arg : -9223372036854775808 ≤ c.arg ∧ c.arg < 9223372036854775808
 op : c.op < 256
 mask : c.mask < 18446744073709551616
 val : c.val < 18446744073709551616
structure GRul where
 num : Int
 act : Int
 conds : List GCnd
structure GRul.ok (r : GRul) : Prop where
 num : 0 ≤ r.num ∧ r.num < 4294967296
 act : 0 ≤ r.act ∧ r.act < 4294967296
 conds : ∀ c ∈ r.conds, c.ok
structure GPol where
 nm : List UInt8
 df : Int
 rules : List GRul
 hd : Nat
 paths : List (List UInt8 × Nat)
 ports : List (Nat × Nat)
structure GPol.ok (P : GPol) : Prop where
 nm : P.nm.length ≤ 9223372036854775807
 df : 0 ≤ P.df ∧ P.df < 4294967296
 rules : ∀ r ∈ P.rules, r.ok
 hd : P.hd < 65536
 paths : ∀ p ∈ P.paths, p.1.length ≤ 1000000 ∧ p.2 < 65536
 ports : ∀ p ∈ P.ports, p.1 < 65536 ∧ p.2 < 65536
def gcC (cs : List GCnd) : List Value := cs.flatMap GCnd.cells
theorem gcC_at (cs : List GCnd) (k : Nat) (h : k < cs.length) : ((gcC cs).drop (k * 4)).take 4 = (cs[k]).cells := by
 induction cs generalizing k with
 | nil => simp at h
 | cons c r ih =>
  cases k with
  | zero => simp [gcC]
  | succ k =>
   rw [gcC, List.flatMap_cons, ← gcC, show (k + 1) * 4 = c.cells.length + k * 4 by simp only [GCnd.cells, List.length_cons, List.length_nil]; omega, List.drop_append, List.drop_eq_nil_of_le (by omega), List.nil_append, Nat.add_sub_cancel_left]
   exact ih k (by simpa using h)
def chkC (c : GCnd) : Nat :=
 if c.arg < 0 ∨ 5 < c.arg then 204
 else if c.op < 1 ∨ 7 < c.op then 210
 else if c.op ≠ 7 ∧ c.mask ≠ 0 then 203
 else if c.op = 7 ∧ (c.mask = 0 ∨ h3e (c.val : Int) (c.mask : Int) ≠ 0) then 204
 else 0
def kndA (a : Int) : Int := if h3e a 65535 = 327680 ∨ h3e a 65535 = 2147221504 ∨ h3e a 65535 = 2147418112 then h3e a 65535 else 2147483648
def h4b (a : Int) : Bool := decide (a = 2147483648 ∨ a = 2147221504 ∨ a = 2147418112 ∨ (kndA a = 327680 ∧ 1 ≤ iand a 65535 ∧ iand a 65535 ≤ 4095))
def h2w : List Nat → Nat
 | [] => 0
 | e :: r => if e ≠ 0 then e else h2w r
def chkR (r : GRul) : Nat := if (h3f r.num clls).isNone then 38 else if h4b r.act = false then 210 else if 6 < r.conds.length then 205 else h2w (r.conds.map chkC)
def grantF (hd r kind : Nat) : Bool := decide (r ≠ 0) && (Rg.hasF hd r && Rg.hasF kind r)
def h2q (hd : Nat) : List (List UInt8 × Nat) → List (List UInt8) → Nat
 | [], _ => 0
 | p :: r, seen => if Pt.pathF p.1 = false then 203 else if grantF hd p.2 2047 = false then 204 else if p.1 ∈ seen then 206 else h2q hd r (seen ++ [p.1])
def h2v (hd : Nat) : List (Nat × Nat) → List Nat → Nat
 | [], _ => 0
 | p :: r, seen => if grantF hd p.2 49152 = false then 204 else if p.1 ∈ seen then 206 else h2v hd r (seen ++ [p.1])
def chkG (P : GPol) : Nat :=
 if Wd.wordF (mB8 P.nm) = false then 202
 else if h4b P.df = false then 210
 else if 64 < P.rules.length ∨ 32 < P.paths.length ∨ 32 < P.ports.length then 205
 else if h3e (P.hd : Int) 51199 ≠ 0 then 204
 else if h2w (P.rules.map chkR) ≠ 0 then h2w (P.rules.map chkR)
 else if h2q P.hd P.paths [] ≠ 0 then h2q P.hd P.paths []
 else h2v P.hd P.ports []
def CndS (L : List Blk) (v : Value) (cs : List GCnd) : Prop := ∃ a c, v = .slice a cs.length c ∧ Sli L a cs.length 4 (gcC cs) ∧ cs.length ≤ maxLen
def RulsG (L : List Blk) : List GRul → List Value → Prop
 | [], cz => cz = []
 | r :: rs, cz => ∃ v cz', cz = .int .u32 r.num :: .int .u32 r.act :: v :: cz' ∧ CndS L v r.conds ∧ RulsG L rs cz'
structure PolS (L : List Blk) (P : GPol) (vr vp vq : Value) : Prop where
 rs : ∃ a c cz, vr = .slice a P.rules.length c ∧ Sli L a P.rules.length 3 cz ∧ RulsG L P.rules cz
 ps : ∃ a c, vp = .slice a P.paths.length c ∧ Sli L a P.paths.length 2 (pthC P.paths)
 qs : ∃ a c, vq = .slice a P.ports.length c ∧ Sli L a P.ports.length 2 (porC P.ports)
 l1 : P.rules.length ≤ maxLen
 l2 : P.paths.length ≤ maxLen
 l3 : P.ports.length ≤ maxLen
abbrev polG (P : GPol) (vr vp vq : Value) : List Value := [.string (mB8 P.nm), .int .u32 P.df, vr, .int .u16 (P.hd : Nat), vp, vq]
theorem CndS.upA {L : List Blk} {v : Value} {cs : List GCnd} (h : CndS L v cs) (e : List Blk) : CndS (e ++ L) v cs := let ⟨a, c, h1, h2, h3⟩ := h; ⟨a, c, h1, h2.upA e, h3⟩
theorem CndS.left {L e : List Blk} {v : Value} {cs : List GCnd} (h : CndS e v cs) : CndS (e ++ L) v cs := let ⟨a, c, h1, h2, h3⟩ := h; ⟨a, c, h1, h2.left, h3⟩
theorem RulsG.upA {L : List Blk} (e : List Blk) : ∀ {rs : List GRul} {cz : List Value}, RulsG L rs cz → RulsG (e ++ L) rs cz
 | [], _, h => h
 | _ :: _, _, ⟨v, cz', h1, h2, h3⟩ => ⟨v, cz', h1, h2.upA e, RulsG.upA e h3⟩
theorem RulsG.left {L e : List Blk} : ∀ {rs : List GRul} {cz : List Value}, RulsG e rs cz → RulsG (e ++ L) rs cz
 | [], _, h => h
 | _ :: _, _, ⟨v, cz', h1, h2, h3⟩ => ⟨v, cz', h1, h2.left, h3.left⟩
theorem PolS.upA {L : List Blk} {P : GPol} {vr vp vq : Value} (h : PolS L P vr vp vq) (e : List Blk) : PolS (e ++ L) P vr vp vq := by
 obtain ⟨⟨a, c, cz, h1, h2, h3⟩, ⟨a4, c4, h4, h5⟩, ⟨a6, c6, h6, h7⟩, l1, l2, l3⟩ := h
 exact ⟨⟨a, c, cz, h1, h2.upA e, h3.upA e⟩, ⟨a4, c4, h4, h5.upA e⟩, ⟨a6, c6, h6, h7.upA e⟩, l1, l2, l3⟩
theorem PolS.left {L e : List Blk} {P : GPol} {vr vp vq : Value} (h : PolS e P vr vp vq) : PolS (e ++ L) P vr vp vq := by
 obtain ⟨⟨a, c, cz, h1, h2, h3⟩, ⟨a4, c4, h4, h5⟩, ⟨a6, c6, h6, h7⟩, l1, l2, l3⟩ := h
 exact ⟨⟨a, c, cz, h1, h2.left, h3.left⟩, ⟨a4, c4, h4, h5.left⟩, ⟨a6, c6, h6, h7.left⟩, l1, l2, l3⟩
theorem RulsG.at_ {L : List Blk} : ∀ {rs : List GRul} {cz : List Value} (_ : RulsG L rs cz) (k : Nat) (hk : k < rs.length), ∃ v, (cz.drop (k * 3)).take 3 = [.int .u32 (rs[k]).num, .int .u32 (rs[k]).act, v] ∧ CndS L v (rs[k]).conds
 | _ :: _, _, ⟨v, cz', h1, h2, h3⟩, 0, _ => ⟨v, by rw [h1]; rfl, h2⟩
 | r :: rs, cz, ⟨v, cz', h1, h2, h3⟩, k + 1, hk => by
  obtain ⟨v2, h4, h5⟩ := RulsG.at_ h3 k (by simpa using hk)
  refine ⟨v2, ?_, h5⟩
  rw [h1, show (k + 1) * 3 = k * 3 + 3 by omega]
  exact h4
def Cnd.g (c : Cnd) : GCnd := ⟨c.arg, c.op, c.mask, c.val⟩
def RulP.g (r : RulP) : GRul := ⟨r.num, r.act, r.conds.map Cnd.g⟩
def Pol.g (P : Pol) : GPol := ⟨P.nm, P.df, P.rules.map RulP.g, P.hd, P.paths, P.ports⟩
theorem gcC_map (cs : List Cnd) : gcC (cs.map Cnd.g) = cndC cs := by
 induction cs with
 | nil => rfl
 | cons c r ih => rw [List.map_cons, gcC, List.flatMap_cons, ← gcC, ih]; rfl
abbrev W3 := Nat × List UInt8 × Nat
abbrev wN (s : List UInt8) : W3 := (1, s, 0)
abbrev wD (n : Nat) : W3 := (2, decF n, n)
abbrev wP (s : List UInt8) : W3 := (3, s, 0)
abbrev wG (s : List UInt8) : W3 := (4, s, 0)
def argTx (n : Nat) : List UInt8 := [97, 114, 103] ++ decF n
def sgnT (o : Nat) : List UInt8 := sgns.getD (o - 1) []
def cndL (c : Cnd) : List W3 := wN (argTx c.arg) :: wG (sgnT c.op) :: ((if c.op = 7 then [wD c.mask, wG [61, 61]] else []) ++ [wD c.val])
def spcL : List W3 → List UInt8
 | [] => []
 | w :: r => w.2.1 ++ r.flatMap fun v => 32 :: v.2.1
def tk0 (w : W3) : Tk := ⟨w.1, w.2.1, w.2.2, 1, 1⟩
theorem xor_mod (n : Nat) : n ^^^ (n % 65536) = n / 65536 * 65536 := by
 have h : n ^^^ (n % 2 ^ 16) = (n >>> 16) <<< 16 := by
  apply Nat.eq_of_testBit_eq
  intro i
  rw [Nat.testBit_xor, Nat.testBit_mod_two_pow, Nat.testBit_shiftLeft, Nat.testBit_shiftRight]
  by_cases hi : i < 16
  ·have h2 : ¬ 16 ≤ i := by omega
   simp [hi, h2]
  ·have h2 : 16 ≤ i := by omega
   have h3 : 16 + (i - 16) = i := by omega
   simp [hi, h2, h3]
 rw [Nat.shiftLeft_eq, Nat.shiftRight_eq_div_pow] at h
 exact h
theorem and_split (a : Int) (h : 0 ≤ a) : a = h3e a 65535 + iand a 65535 := by
 obtain ⟨n, rfl⟩ := Int.eq_ofNat_of_zero_le h
 unfold h3e iand
 rw [Int.toNat_natCast, show (65535 : Int).toNat = 65535 from rfl]
 have e1 : n &&& 65535 = n % 65536 := Nat.and_two_pow_sub_one_eq_mod n 16
 rw [e1, xor_mod]
 omega
structure CndOk (c : Cnd) : Prop where
 arg : c.arg ≤ 5
 op1 : 1 ≤ c.op
 op2 : c.op ≤ 7
 mz : c.op ≠ 7 → c.mask = 0
 mv : c.op = 7 → c.mask ≠ 0 ∧ h3e (c.val : Int) (c.mask : Int) = 0
theorem hasF_nat {n m : Nat} (h : Rg.hasF n m = true) : m &&& n = m := by
 unfold Rg.hasF at h
 rw [decide_eq_true_eq] at h
 unfold h3e at h
 rw [Int.toNat_natCast, Int.toNat_natCast] at h
 have h2 : m ^^^ (m &&& n) = 0 := by omega
 apply Nat.eq_of_testBit_eq
 intro i
 have h3 : (m ^^^ (m &&& n)).testBit i = false := by rw [h2]; exact Nat.zero_testBit i
 rw [Nat.testBit_xor, Nat.testBit_and] at h3
 rw [Nat.testBit_and]
 revert h3
 cases m.testBit i <;> cases n.testBit i <;> simp
theorem nat_hasF {n m : Nat} (h : m &&& n = m) : Rg.hasF n m = true := by
 unfold Rg.hasF
 rw [decide_eq_true_eq]
 unfold h3e
 rw [Int.toNat_natCast, Int.toNat_natCast, h, Nat.xor_self]; rfl
structure RulOk (r : RulP) : Prop where
 num : (h3f r.num clls).isSome = true
 act0 : 0 ≤ r.act
 act : h4b r.act = true
 len : r.conds.length ≤ 6
 conds : ∀ c ∈ r.conds, CndOk c
structure PolOk (P : Pol) : Prop where
 nm : Wd.wordF (mB8 P.nm) = true
 df0 : 0 ≤ P.df
 df : h4b P.df = true
 rules : ∀ r ∈ P.rules, RulOk r
 hd : P.hd &&& 51199 = P.hd
 l1 : P.rules.length ≤ 64
 l2 : P.paths.length ≤ 32
 l3 : P.ports.length ≤ 32
 paths : ∀ p ∈ P.paths, Pt.pathF p.1 = true ∧ p.2 ≠ 0 ∧ p.2 &&& P.hd = p.2 ∧ p.2 &&& 2047 = p.2
 pnd : (P.paths.map (·.1)).Nodup
 ports : ∀ p ∈ P.ports, p.1 < 65536 ∧ p.2 ≠ 0 ∧ p.2 &&& P.hd = p.2 ∧ p.2 &&& 49152 = p.2
 qnd : (P.ports.map (·.1)).Nodup
structure GTk (t : Tk) : Prop where
 kind : t.kind ≠ 0
 word : ∃ c r, t.text = c :: r ∧ blkF c = false ∧ kindF c = t.kind
 pred : ∀ x ∈ t.text, predF t.kind x = true
 right : rightF t.kind t.text = (0, t.num)
def Blks (g : List UInt8) : Prop := ∀ x ∈ g, blkF x = true
def Apart : List (List UInt8 × Tk) → Prop
 | [] => True
 | p :: r => Blks p.1 ∧ GTk p.2 ∧ (∀ q ∈ r.head?, q.1 ≠ []) ∧ Apart r
structure GTn (t : Tk) : Prop where
 good : GTk t
 no : ∀ x ∈ t.text, x ≠ 10 ∧ x ≠ 35
theorem apart_snoc {cur : List (List UInt8 × Tk)} {g : List UInt8} {t : Tk} (hc : Apart cur) (hg : Blks g) (hn : g ≠ []) (ht : GTk t) : Apart (cur ++ [(g, t)]) := by
 induction cur with
 | nil => exact ⟨hg, ht, fun q hq => (by cases hq), trivial⟩
 | cons p r ih =>
  obtain ⟨h1, h2, h3, h4⟩ := hc
  refine ⟨h1, h2, fun q hq => ?_, ih h4⟩
  cases r with
  | nil =>
   have : q = (g, t) := by simpa using hq.symm
   rw [this]; exact hn
  | cons y ys => exact h3 q hq
def NoW (ws : List (List UInt8 × Tk)) : Prop := ∀ p ∈ ws, (∀ x ∈ p.1, x ≠ 10 ∧ x ≠ 35) ∧ ∀ x ∈ p.2.text, x ≠ 10 ∧ x ≠ 35
structure WdW (D : List (List (List UInt8 × Tk))) (cur : List (List UInt8 × Tk)) (g : List UInt8) : Prop where
 lines : ∀ ws ∈ D, ws ≠ [] ∧ Apart ws ∧ NoW ws
 apart : Apart cur
 no : NoW cur
 blks : Blks g
 gno : ∀ x ∈ g, x ≠ 10 ∧ x ≠ 35
 gnil : cur = [] → g = []
 gne : cur ≠ [] → g ≠ []
theorem apart_snoc' {cur : List (List UInt8 × Tk)} {g : List UInt8} {t : Tk} (hc : Apart cur) (hg : Blks g) (hn : cur ≠ [] → g ≠ []) (ht : GTk t) : Apart (cur ++ [(g, t)]) := by
 cases cur with
 | nil => exact ⟨hg, ht, fun q hq => (by cases hq), trivial⟩
 | cons p r => exact apart_snoc hc hg (hn (by simp)) ht
theorem WdW.word {D : List (List (List UInt8 × Tk))} {cur : List (List UInt8 × Tk)} {g : List UInt8} (h : WdW D cur g) {t : Tk} (ht : GTn t) : Apart (cur ++ [(g, t)]) ∧ NoW (cur ++ [(g, t)]) :=
 ⟨apart_snoc' h.apart h.blks h.gne ht.good, fun p hp => by
  rcases List.mem_append.1 hp with hp | hp
  ·exact h.no p hp
  ·rw [List.mem_singleton.1 hp]; exact ⟨h.gno, ht.no⟩⟩
theorem WdW.line {D : List (List (List UInt8 × Tk))} {cur : List (List UInt8 × Tk)} {g : List UInt8} (h : WdW D cur g) {t : Tk} (ht : GTn t) : WdW (D ++ [cur ++ [(g, t)]]) [] [] := by
 obtain ⟨w1, w2⟩ := h.word ht
 refine ⟨fun ws hw => ?_, trivial, fun p hp => (by cases hp), fun x hx => (by cases hx), fun x hx => (by cases hx), fun _ => rfl, fun h => absurd rfl h⟩
 rcases List.mem_append.1 hw with hw | hw
 ·exact h.lines ws hw
 ·rw [List.mem_singleton.1 hw]; exact ⟨by simp, w1, w2⟩
end Go.Proofs.YtecbgehooembmaaDoor
