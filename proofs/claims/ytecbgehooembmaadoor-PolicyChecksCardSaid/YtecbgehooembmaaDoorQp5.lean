/- Part 5 of what the last text of this claim leans on: rules of walks, contracts, plain facts. Conditions: those of each statement. -/
import Derived.Test.YtecbgehooembmaaDoorQp4
set_option maxRecDepth 100000
namespace Go.Proofs.YtecbgehooembmaaDoor
open Go Go.RowKit
def WOk (w : W3) : Prop := GTn (tk0 w)
def nmB (s : List UInt8) : Bool := (match s with | [] => false | c :: _ => letF c) && s.all witF
theorem prn_no : ∀ x : UInt8, prnF x = true → x ≠ 10 ∧ x ≠ 35 := by
 intro x h
 refine ⟨fun e => ?_, fun e => ?_⟩ <;> (rw [e] at h; revert h; decide)
theorem refGo_all (l : List UInt8) : ∀ part, Pt.refGo part l = true → ∀ x ∈ l, Pt.prn x = true := by
 intro part h
 rw [Pt.refGo_split] at h
 simp only [Bool.and_eq_true] at h
 exact fun x hx => List.all_eq_true.1 h.1 x hx
theorem prn_eq (x : UInt8) (h : Pt.prn x = true) : prnF x = true := by
 unfold Pt.prn at h
 unfold prnF
 simp only [decide_eq_true_eq] at h
 have h3 : ¬ x = 35 := fun e => h.2.2 (by rw [e]; rfl)
 simp [h.1, h.2.1, h3]
theorem wP_ok {s : List UInt8} (h : Pt.pathF s = true) : WOk (wP s) ∧ s.length ≤ 120 := by
 have hh : s ≠ [] ∧ s.length ≤ 120 ∧ s.head? = some 47 ∧ ∀ x ∈ s, prnF x = true := by
  unfold Pt.pathF at h
  split at h
  ·rename_i h1
   rw [h1]
   exact ⟨by decide, by decide, rfl, by decide⟩
  ·split at h
   ·cases h
   ·rename_i h1 h2
    have h3 : s.head? = some 47 := by
     cases hx : decide (s.head? = some 47) with
     | true => exact of_decide_eq_true hx
     | false => exact absurd (Or.inr (Or.inr (of_decide_eq_false hx))) h2
    cases s with
    | nil => cases h3
    | cons c r =>
     have h4 := refGo_all r [] h
     have h5 : c = 47 := Option.some.inj h3
     refine ⟨by simp, by omega, h3, fun x hx => ?_⟩
     rcases List.mem_cons.1 hx with rfl | hx
     ·rw [h5]; decide
     ·exact prn_eq x (h4 x hx)
 obtain ⟨h1, h2, h3, h4⟩ := hh
 refine ⟨?_, h2⟩
 cases s with
 | nil => cases h3
 | cons c r =>
  have h5 : c = 47 := Option.some.inj h3
  refine ⟨⟨by show (3 : Nat) ≠ 0; omega, ⟨c, r, rfl, by rw [h5]; decide, show kindF c = 3 by rw [h5]; decide⟩, h4, ?_⟩, fun x hx => prn_no x (h4 x hx)⟩
  show rightF 3 (c :: r) = (0, 0)
  unfold rightF
  rw [if_neg (by omega), if_pos rfl, if_neg (by omega)]
def wgB (s : List UInt8) : Bool := (match s with | [] => false | c :: _ => !blkF c && decide (kindF c = 4)) && (s.all sgnF && (s.all (fun x => decide (x ≠ 10) && decide (x ≠ 35)) && decide (s ∈ sgns)))
theorem wG_ok {s : List UInt8} (h : wgB s = true) : WOk (wG s) := by
 unfold wgB at h
 simp only [Bool.and_eq_true, decide_eq_true_eq, List.all_eq_true] at h
 obtain ⟨h1, h2, h3, h4⟩ := h
 cases s with
 | nil => cases h1
 | cons c r =>
  simp only [Bool.and_eq_true, Bool.not_eq_true', decide_eq_true_eq] at h1
  refine ⟨⟨by show (4 : Nat) ≠ 0; omega, ⟨c, r, rfl, h1.1, h1.2⟩, h2, ?_⟩, h3⟩
  show rightF 4 (c :: r) = (0, 0)
  unfold rightF
  rw [if_neg (by omega), if_neg (by omega), if_pos rfl, if_pos h4]
theorem sg_ok {o : Nat} (h1 : 1 ≤ o) (h2 : o ≤ 7) : WOk (wG (sgnT o)) ∧ (sgnT o).length ≤ 2 := by
 obtain rfl | rfl | rfl | rfl | rfl | rfl | rfl : o = 1 ∨ o = 2 ∨ o = 3 ∨ o = 4 ∨ o = 5 ∨ o = 6 ∨ o = 7 := by omega
 all_goals exact ⟨wG_ok (by decide), by decide⟩
structure PolRn (P : Pol) : Prop where
 c : ∀ r ∈ P.rules, ∀ c ∈ r.conds, c.mask ≤ 18446744073709551615 ∧ c.val ≤ 18446744073709551615
theorem d20 {n : Nat} (h : n ≤ 18446744073709551615) : (decF n).length ≤ 20 := decF_len 20 n (by omega) (by omega)
theorem nd_app {α} {l : List α} {a : α} (h : l.Nodup) (ha : a ∉ l) : (l ++ [a]).Nodup := by
 rw [List.nodup_append]
 refine ⟨h, by simp, fun x hx y hy => ?_⟩
 rw [List.mem_singleton.1 hy]
 exact fun e => ha (e ▸ hx)
theorem h3y {α} {p : α → Prop} {l : List α} {a : α} (h : ∀ x ∈ l, p x) (ha : p a) : ∀ x ∈ l ++ [a], p x := by
 intro x hx
 rcases List.mem_append.1 hx with h1 | h1
 ·exact h x h1
 ·rw [List.mem_singleton.1 h1]; exact ha
theorem firstE_z {l : List Nat} : h2w l = 0 ↔ ∀ e ∈ l, e = 0 := by
 induction l with
 | nil => simp [h2w]
 | cons e r ih =>
  unfold h2w
  split
  ·rename_i h
   exact ⟨fun h2 => absurd h2 h, fun h2 => absurd (h2 e (List.mem_cons_self ..)) h⟩
  ·rename_i h
   rw [ih]
   exact ⟨fun h2 x hx => by
    rcases List.mem_cons.1 hx with rfl | hx
    ·exact Decidable.byContradiction h
    ·exact h2 x hx, fun h2 x hx => h2 x (List.mem_cons_of_mem _ hx)⟩
theorem chkC_z {c : Cnd} : chkC c.g = 0 ↔ CndOk c := by
 obtain ⟨a, o, m, v⟩ := c
 unfold chkC Cnd.g
 dsimp only
 constructor
 ·intro h
  split at h
  ·cases h
  rename_i h1
  split at h
  ·cases h
  rename_i h2
  split at h
  ·cases h
  rename_i h3
  split at h
  ·cases h
  rename_i h4
  refine ⟨?_, ?_, ?_, ?_, ?_⟩
  ·dsimp only; omega
  ·dsimp only; omega
  ·dsimp only; omega
  ·intro h7; dsimp only at *; exact Decidable.byContradiction fun hm => h3 ⟨h7, hm⟩
  ·intro h7; dsimp only at *; exact ⟨fun hm => h4 ⟨h7, .inl hm⟩, Decidable.byContradiction fun hm => h4 ⟨h7, .inr hm⟩⟩
 ·rintro ⟨h1, h2, h3, h4, h5⟩
  dsimp only at *
  rw [if_neg (by omega), if_neg (by omega), if_neg (fun h => h.2 (h4 h.1)), if_neg (fun h => by
   obtain ⟨g1, g2⟩ := h5 h.1
   rcases h.2 with h6 | h6
   ·exact g1 h6
   ·exact h6 g2)]
theorem grant_z {hd r k : Nat} : grantF hd r k = true ↔ r ≠ 0 ∧ r &&& hd = r ∧ r &&& k = r := by
 unfold grantF
 rw [Bool.and_eq_true, Bool.and_eq_true, decide_eq_true_eq]
 exact ⟨fun h => ⟨h.1, hasF_nat h.2.1, hasF_nat h.2.2⟩, fun h => ⟨h.1, nat_hasF h.2.1, nat_hasF h.2.2⟩⟩
theorem chkR_z {r : RulP} (h0 : 0 ≤ r.act) : chkR r.g = 0 ↔ RulOk r := by
 obtain ⟨n, a, cs⟩ := r
 unfold chkR RulP.g
 dsimp only
 rw [List.length_map]
 constructor
 ·intro h
  split at h
  ·cases h
  rename_i h1
  split at h
  ·cases h
  rename_i h2
  split at h
  ·cases h
  rename_i h3
  rw [firstE_z] at h
  refine ⟨?_, h0, ?_, ?_, ?_⟩
  ·dsimp only; cases hc : h3f n clls with
   | none => rw [hc] at h1; exact absurd rfl h1
   | some _ => rfl
  ·dsimp only; simpa using h2
  ·dsimp only; omega
  ·intro c hc
   exact chkC_z.1 (h _ (List.mem_map.2 ⟨c.g, List.mem_map.2 ⟨c, hc, rfl⟩, rfl⟩))
 ·rintro ⟨h1, h2, h3, h4, h5⟩
  dsimp only at *
  rw [if_neg (by cases hc : h3f n clls with
   | none => rw [hc] at h1; cases h1
   | some _ => exact fun h => by cases h), if_neg (by rw [h3]; exact fun h => by cases h), if_neg (by omega), firstE_z]
  intro e he
  obtain ⟨c', hc', rfl⟩ := List.mem_map.1 he
  obtain ⟨c, hc, rfl⟩ := List.mem_map.1 hc'
  exact chkC_z.2 (h5 c hc)
theorem chkPaths_z (hd : Nat) (ps : List (List UInt8 × Nat)) : ∀ seen : List (List UInt8), h2q hd ps seen = 0 ↔ (∀ p ∈ ps, Pt.pathF p.1 = true ∧ grantF hd p.2 2047 = true) ∧ (ps.map (·.1)).Nodup ∧ ∀ p ∈ ps, p.1 ∉ seen := by
 induction ps with
 | nil => intro seen; simp [h2q]
 | cons p r ih =>
  intro seen
  unfold h2q
  cases h1 : Pt.pathF p.1 with
  | false =>
   rw [if_pos rfl]
   exact ⟨fun h => (by cases h), fun h => by have := (h.1 p (List.mem_cons_self ..)).1; rw [h1] at this; cases this⟩
  | true =>
   rw [if_neg (by decide)]
   cases h2 : grantF hd p.2 2047 with
   | false =>
    rw [if_pos rfl]
    exact ⟨fun h => (by cases h), fun h => by have := (h.1 p (List.mem_cons_self ..)).2; rw [h2] at this; cases this⟩
   | true =>
    rw [if_neg (by decide)]
    by_cases h3 : p.1 ∈ seen
    ·rw [if_pos h3]
     exact ⟨fun h => (by cases h), fun h => absurd h3 (h.2.2 p (List.mem_cons_self ..))⟩
    ·rw [if_neg h3, ih]
     constructor
     ·rintro ⟨g1, g2, g3⟩
      refine ⟨?_, ?_, ?_⟩
      ·intro q hq
       rcases List.mem_cons.1 hq with rfl | hq
       ·exact ⟨h1, h2⟩
       ·exact g1 q hq
      ·rw [List.map_cons, List.nodup_cons]
       refine ⟨fun hm => ?_, g2⟩
       obtain ⟨q, hq, he⟩ := List.mem_map.1 hm
       exact g3 q hq (by rw [he]; simp)
      ·intro q hq
       rcases List.mem_cons.1 hq with rfl | hq
       ·exact h3
       ·exact fun hm => g3 q hq (List.mem_append_left _ hm)
     ·rintro ⟨g1, g2, g3⟩
      rw [List.map_cons, List.nodup_cons] at g2
      refine ⟨fun q hq => g1 q (List.mem_cons_of_mem _ hq), g2.2, fun q hq hm => ?_⟩
      rcases List.mem_append.1 hm with hm | hm
      ·exact g3 q (List.mem_cons_of_mem _ hq) hm
      ·exact g2.1 (List.mem_map.2 ⟨q, hq, List.mem_singleton.1 hm⟩)
theorem chkPorts_z (hd : Nat) (ps : List (Nat × Nat)) : ∀ seen : List Nat, h2v hd ps seen = 0 ↔ (∀ p ∈ ps, grantF hd p.2 49152 = true) ∧ (ps.map (·.1)).Nodup ∧ ∀ p ∈ ps, p.1 ∉ seen := by
 induction ps with
 | nil => intro seen; simp [h2v]
 | cons p r ih =>
  intro seen
  unfold h2v
  cases h2 : grantF hd p.2 49152 with
  | false =>
   rw [if_pos rfl]
   exact ⟨fun h => (by cases h), fun h => by have := h.1 p (List.mem_cons_self ..); rw [h2] at this; cases this⟩
  | true =>
   rw [if_neg (by decide)]
   by_cases h3 : p.1 ∈ seen
   ·rw [if_pos h3]
    exact ⟨fun h => (by cases h), fun h => absurd h3 (h.2.2 p (List.mem_cons_self ..))⟩
   ·rw [if_neg h3, ih]
    constructor
    ·rintro ⟨g1, g2, g3⟩
     refine ⟨?_, ?_, ?_⟩
     ·intro q hq
      rcases List.mem_cons.1 hq with rfl | hq
      ·exact h2
      ·exact g1 q hq
     ·rw [List.map_cons, List.nodup_cons]
      refine ⟨fun hm => ?_, g2⟩
      obtain ⟨q, hq, he⟩ := List.mem_map.1 hm
      exact g3 q hq (by rw [he]; simp)
     ·intro q hq
      rcases List.mem_cons.1 hq with rfl | hq
      ·exact h3
      ·exact fun hm => g3 q hq (List.mem_append_left _ hm)
    ·rintro ⟨g1, g2, g3⟩
     rw [List.map_cons, List.nodup_cons] at g2
     refine ⟨fun q hq => g1 q (List.mem_cons_of_mem _ hq), g2.2, fun q hq hm => ?_⟩
     rcases List.mem_append.1 hm with hm | hm
     ·exact g3 q (List.mem_cons_of_mem _ hq) hm
     ·exact g2.1 (List.mem_map.2 ⟨q, hq, List.mem_singleton.1 hm⟩)
theorem hd_z {n : Nat} : h3e (n : Int) 51199 = 0 ↔ n &&& 51199 = n := by
 have e : Rg.hasF 51199 n = true ↔ h3e (n : Int) 51199 = 0 := by
  unfold Rg.hasF
  rw [decide_eq_true_eq]; rfl
 rw [← e]
 exact ⟨hasF_nat, nat_hasF⟩
theorem chkG_z {P : Pol} (h0 : 0 ≤ P.df) (ha : ∀ r ∈ P.rules, 0 ≤ r.act) (hq : ∀ p ∈ P.ports, p.1 < 65536) : chkG P.g = 0 ↔ PolOk P := by
 obtain ⟨nm, df, rs, hd, ps, qs⟩ := P
 unfold chkG Pol.g
 dsimp only at *
 rw [List.length_map]
 constructor
 ·intro h
  split at h
  ·cases h
  rename_i h1
  split at h
  ·cases h
  rename_i h2
  split at h
  ·cases h
  rename_i h3
  split at h
  ·cases h
  rename_i h4
  split at h
  ·rename_i h5; exact absurd h h5
  rename_i h5
  split at h
  ·rename_i h6; exact absurd h h6
  rename_i h6
  have h5 := firstE_z.1 (Decidable.byContradiction h5)
  obtain ⟨p1, p2, -⟩ := (chkPaths_z hd ps []).1 (Decidable.byContradiction h6)
  obtain ⟨q1, q2, -⟩ := (chkPorts_z hd qs []).1 h
  refine ⟨by simpa using h1, h0, by simpa using h2, ?_, hd_z.1 (Decidable.byContradiction h4), by dsimp only; omega, by dsimp only; omega, by dsimp only; omega, ?_, p2, ?_, q2⟩
  ·intro r hr
   exact (chkR_z (ha r hr)).1 (h5 _ (List.mem_map.2 ⟨r.g, List.mem_map.2 ⟨r, hr, rfl⟩, rfl⟩))
  ·intro p hp
   exact ⟨(p1 p hp).1, grant_z.1 (p1 p hp).2⟩
  ·intro p hp
   exact ⟨hq p hp, grant_z.1 (q1 p hp)⟩
 ·rintro ⟨h1, h2, h3, h4, h5, h6, h7, h8, h9, h10, h11, h12⟩
  dsimp only at *
  have e5 : h2w ((rs.map RulP.g).map chkR) = 0 := by
   rw [firstE_z]
   intro e he
   obtain ⟨r', hr', rfl⟩ := List.mem_map.1 he
   obtain ⟨r, hr, rfl⟩ := List.mem_map.1 hr'
   exact (chkR_z (ha r hr)).2 (h4 r hr)
  have e6 : h2q hd ps [] = 0 := (chkPaths_z hd ps []).2 ⟨fun p hp => ⟨(h9 p hp).1, grant_z.2 (h9 p hp).2⟩, h10, fun _ _ h => by cases h⟩
  have e7 : h2v hd qs [] = 0 := (chkPorts_z hd qs []).2 ⟨fun p hp => grant_z.2 (h11 p hp).2, h12, fun _ _ h => by cases h⟩
  rw [if_neg (by rw [h1]; decide), if_neg (by rw [h3]; decide), if_neg (by omega), if_neg (fun h => h (hd_z.2 h5)), if_neg (fun h => h e5), if_neg (fun h => h e6), e7]
section
variable {P : Program} {n : Nat} {l : List (Nat × Value)} {S : List Nat} {w0 : World} {L : List Blk} {k : Kont} {ops : Array Oper}
structure TagC (p : Prop) : Prop where
 out : p
theorem H_run3t {i j m fuel : Nat} {listed : Array Bool} {Lb : List Blk} {o o' o'' : Oper} (hi : ops[i]? = some o) (hj : ops[j]? = some o') (hm : ops[m]? = some o'') (hr : Region.ready .any ops listed = [i, j, m]) (h : TagA (G n l S w0 L (K1 P ops k o (KHS P S w0 Lb ops k fuel (listed.setIfInBounds i true)))))
  (h' : TagB (G n l S w0 L (K1 P ops k o' (KHS P S w0 Lb ops k fuel (listed.setIfInBounds j true))))) (h'' : TagC (G n l S w0 L (K1 P ops k o'' (KHS P S w0 Lb ops k fuel (listed.setIfInBounds m true))))) : G n l S w0 L (KH P S w0 Lb ops k (fuel + 1) listed) := .mk fun a w hF H => by
 refine ⟨wpAnyH_all hr (by simp) fun q hq => ?_⟩
 rcases (show q = i ∨ q = j ∨ q = m by simpa using hq) with rfl | rfl | rfl
 ·have hh := (h.out.out a w hF H).out
  unfold wpOp
  simp only [hi]
  split
  ·rename_i hw; rw [if_pos hw] at hh; exact .inl (Oper.wp_mono (fun _ _ h => ⟨h.out.1, h.out.2.out⟩) hh)
  ·rename_i hw; rw [if_neg hw] at hh; exact ⟨hh.out.1, hh.out.2.out⟩
 ·have hh := (h'.out.out a w hF H).out
  unfold wpOp
  simp only [hj]
  split
  ·rename_i hw; rw [if_pos hw] at hh; exact .inl (Oper.wp_mono (fun _ _ h => ⟨h.out.1, h.out.2.out⟩) hh)
  ·rename_i hw; rw [if_neg hw] at hh; exact ⟨hh.out.1, hh.out.2.out⟩
 ·have hh := (h''.out.out a w hF H).out
  unfold wpOp
  simp only [hm]
  split
  ·rename_i hw; rw [if_pos hw] at hh; exact .inl (Oper.wp_mono (fun _ _ h => ⟨h.out.1, h.out.2.out⟩) hh)
  ·rename_i hw; rw [if_neg hw] at hh; exact ⟨hh.out.1, hh.out.2.out⟩
end
theorem RulsG.snoc {L : List Blk} {v : Value} {r : GRul} : ∀ {rs : List GRul} {cz : List Value}, RulsG L rs cz → CndS L v r.conds → RulsG L (rs ++ [r]) (cz ++ [.int .u32 r.num, .int .u32 r.act, v])
 | [], cz, h, hc => by
  obtain rfl : cz = [] := h
  exact ⟨v, [], rfl, hc, rfl⟩
 | _ :: _, _, ⟨v2, cz', h1, h2, h3⟩, hc => ⟨v2, _, by rw [h1]; rfl, h2, RulsG.snoc h3 hc⟩
theorem RulsR.g {rs : List RulP} {cz : List Value} {ec : List Blk} (h : RulsR rs cz ec) (hl : ∀ r ∈ rs, r.conds.length ≤ maxLen) : RulsG ec (rs.map RulP.g) cz := by
 induction h with
 | nil => rfl
 | @snoc rs cz ec r v e _ ho ih =>
  rw [List.map_append]
  obtain ⟨a, c, hv, hs⟩ := ho.sli ec
  refine RulsG.snoc (RulsG.upA e (ih fun q hq => hl q (List.mem_append_left _ hq))) ?_
  refine ⟨a, c, ?_, ?_, ?_⟩
  ·show v = .slice a (r.conds.map Cnd.g).length c
   rw [List.length_map]; exact hv
  ·show Sli (e ++ ec) a (r.conds.map Cnd.g).length 4 (gcC (r.conds.map Cnd.g))
   rw [List.length_map, gcC_map]; exact hs
  ·show (r.conds.map Cnd.g).length ≤ maxLen
   rw [List.length_map]; exact hl r (List.mem_append_right _ (List.mem_singleton.2 rfl))
theorem PoD.ok.polS {d : PoD} {P : Pol} (h : d.ok P) (hl : ∀ r ∈ P.rules, r.conds.length ≤ maxLen) : PolS d.blocks P.g d.vr d.vp d.vq := by
 obtain ⟨r1, r2, e1, s1⟩ := h.vr.sli (d.ep ++ (d.eq ++ d.ec))
 obtain ⟨p1, p2, e2, s2⟩ := h.vp.sli (d.eq ++ d.ec)
 obtain ⟨q1, q2, e3, s3⟩ := h.vq.sli d.ec
 have g := RulsR.g h.rs hl
 have hm : (1000 : Nat) ≤ maxLen := by unfold maxLen; omega
 have elr : P.g.rules.length = P.rules.length := List.length_map ..
 refine ⟨⟨r1, r2, d.cz, by rw [elr]; exact e1, by rw [elr]; exact s1, ((g.upA d.eq).upA d.ep).upA d.er⟩, ⟨p1, p2, e2, s2.upA d.er⟩, ⟨q1, q2, e3, (s3.upA d.ep).upA d.er⟩, ?_, ?_, ?_⟩
 ·rw [elr]; have := h.l1; omega
 ·show P.paths.length ≤ maxLen
  have := h.l2; omega
 ·show P.ports.length ≤ maxLen
  have := h.l3; omega
theorem condchk_c {S w0 L} (c : GCnd) (h : c.ok) : Fn Tryd.prog 11 #[.agg c.cells.toArray] S w0 L fun v L' => v = .int .i64 (chkC c : Nat) ∧ L = L' := by
 obtain ⟨a, o, m, x⟩ := c
 obtain ⟨h1, h2, h3, h4⟩ := h
 have key : ∀ k : Nat, chkC ⟨a, o, m, x⟩ = k → Fn Tryd.prog 11 #[.agg (GCnd.cells ⟨a, o, m, x⟩).toArray] S w0 L (fun v L' => v = .int .i64 (k : Nat) ∧ L = L') → Fn Tryd.prog 11 #[.agg (GCnd.cells ⟨a, o, m, x⟩).toArray] S w0 L (fun v L' => v = .int .i64 (chkC ⟨a, o, m, x⟩ : Nat) ∧ L = L') := by
  intro k hk hf; rw [hk]; exact hf
 dsimp only [GCnd.cells] at *
 by_cases c1 : a < 0
 ·refine key 204 (by unfold chkC; rw [if_pos (Or.inl c1)]) ?_
  refine Fn1 Tryd.func11 Tryd.ntmps11 rfl rfl ?_
  repeat' (first | refine h0t ?_ | refine h0e ?_ | refine h0x ?_ | refine h1m ?_ | refine h0o ?_ | refine h1e ?_ | refine h0l rfl ?_ | (refine gR 0 ?_ <;> (try refine h0b ?_; (refine h2c (t:=39) rfl rfl ?_; intro nb hnb; (try simp only [Value.cells]))) <;> (try refine p_a (h:=h0a ?_))) | (refine gR 1 (p_e (q_f h3j) (h:=p_e q_l (h:=p_e (q_b (r:=by exact h0q q_o)) (h:=p_m (h:=p_z (h:=p_z (h:=p_z (h:=p_p (h:=p_a (h:=h0a ?_))))))))))) | (refine gR 2 (p_a (h:=h0a ?_))))
  (refine h0z Tryd.results11 (.tmp rfl .nil) ?_)
  exact ⟨_, ⟨rfl, rfl⟩, by intro w H; refine H.sub ?_; (try simp only [zzC, zzN]); repeat (first | exact List.Sublist.refl _ | refine List.Sublist.cons _ ?_)⟩
 by_cases c2 : 5 < a
 ·refine key 204 (by unfold chkC; rw [if_pos (Or.inr c2)]) ?_
  refine Fn1 Tryd.func11 Tryd.ntmps11 rfl rfl ?_
  repeat' (first | refine h0t ?_ | refine h0e ?_ | refine h0x ?_ | refine h1m ?_ | refine h0o ?_ | refine h1e ?_ | refine h0l rfl ?_ | (refine gR 0 ?_ <;> (try refine h0b ?_; (refine h2c (t:=39) rfl rfl ?_; intro nb hnb; (try simp only [Value.cells]))) <;> (try refine p_a (h:=h0a ?_))) | (refine gR 1 (p_e (q_f h3j) (h:=p_e q_l (h:=p_e (q_b (r:=by exact h0r q_o)) (h:=p_m (h:=p_y (q_f h3j) (h:=p_y q_l (h:=p_y (q_b (r:=by exact h1c q_o)) (h:=p_p (h:=p_a (h:=h0a ?_))))))))))) | (refine gR 2 (p_a (h:=h0a ?_))))
  (refine h0z Tryd.results11 (.tmp rfl .nil) ?_)
  exact ⟨_, ⟨rfl, rfl⟩, by intro w H; refine H.sub ?_; (try simp only [zzC, zzN]); repeat (first | exact List.Sublist.refl _ | refine List.Sublist.cons _ ?_)⟩
 have n1 : ¬ (a < 0 ∨ 5 < a) := fun h => h.elim c1 c2
 by_cases c3 : o < 1
 ·refine key 210 (by unfold chkC; rw [if_neg n1, if_pos (Or.inl c3)]) ?_
  refine Fn1 Tryd.func11 Tryd.ntmps11 rfl rfl ?_
  repeat' (first | refine h0t ?_ | refine h0e ?_ | refine h0x ?_ | refine h1m ?_ | refine h0o ?_ | refine h1e ?_ | refine h0l rfl ?_ | refine h0m rfl ?_ | (refine gR 0 ?_ <;> (try refine h0b ?_; (refine h2c (t:=39) rfl rfl ?_; intro nb hnb; (try simp only [Value.cells]))) <;> (try refine p_a (h:=h0a ?_))) | (refine gR 1 (p_e (q_f h3j) (h:=p_e q_l (h:=p_e (q_b (r:=by exact h0r q_o)) (h:=p_m (h:=p_y (q_f h3j) (h:=p_y q_l (h:=p_y (q_b (r:=by exact h0u q_o)) (h:=p_p (h:=p_a (h:=h0a ?_))))))))))) | (refine gR 3 (p_e (q_f h2p) (h:=p_e q_l (h:=p_e (q_b (r:=by exact h0q q_o)) (h:=p_m (h:=p_z (h:=p_z (h:=p_z (h:=p_p (h:=p_a (h:=h0a ?_))))))))))) | (refine gR 4 (p_a (h:=h0a ?_))))
  (refine h0z Tryd.results11 (.tmp rfl .nil) ?_)
  exact ⟨_, ⟨rfl, rfl⟩, by intro w H; refine H.sub ?_; (try simp only [zzC, zzN]); repeat (first | exact List.Sublist.refl _ | refine List.Sublist.cons _ ?_)⟩
 by_cases c4 : 7 < o
 ·refine key 210 (by unfold chkC; rw [if_neg n1, if_pos (Or.inr c4)]) ?_
  refine Fn1 Tryd.func11 Tryd.ntmps11 rfl rfl ?_
  repeat' (first | refine h0t ?_ | refine h0e ?_ | refine h0x ?_ | refine h1m ?_ | refine h0o ?_ | refine h1e ?_ | refine h0l rfl ?_ | refine h0m rfl ?_ | (refine gR 0 ?_ <;> (try refine h0b ?_; (refine h2c (t:=39) rfl rfl ?_; intro nb hnb; (try simp only [Value.cells]))) <;> (try refine p_a (h:=h0a ?_))) | (refine gR 1 (p_e (q_f h3j) (h:=p_e q_l (h:=p_e (q_b (r:=by exact h0r q_o)) (h:=p_m (h:=p_y (q_f h3j) (h:=p_y q_l (h:=p_y (q_b (r:=by exact h0u q_o)) (h:=p_p (h:=p_a (h:=h0a ?_))))))))))) | (refine gR 3 (p_e (q_f h2p) (h:=p_e q_l (h:=p_e (q_b (r:=by exact h0r q_o)) (h:=p_m (h:=p_y (q_f h2p) (h:=p_y q_l (h:=p_y (q_b (r:=by exact h1c q_o)) (h:=p_p (h:=p_a (h:=h0a ?_))))))))))) | (refine gR 4 (p_a (h:=h0a ?_))))
  (refine h0z Tryd.results11 (.tmp rfl .nil) ?_)
  exact ⟨_, ⟨rfl, rfl⟩, by intro w H; refine H.sub ?_; (try simp only [zzC, zzN]); repeat (first | exact List.Sublist.refl _ | refine List.Sublist.cons _ ?_)⟩
 have n2 : ¬ (o < 1 ∨ 7 < o) := fun h => h.elim c3 c4
 by_cases c5 : o = 7
 ·have n3 : ¬ (o ≠ 7 ∧ m ≠ 0) := fun h => h.1 c5
  by_cases c6 : m = 0
  ·refine key 204 (by unfold chkC; dsimp only; rw [if_neg n1, if_neg n2, if_neg n3, if_pos ⟨c5, Or.inl c6⟩]) ?_
   refine Fn1 Tryd.func11 Tryd.ntmps11 rfl rfl ?_
   repeat' (first | refine h0t ?_ | refine h0e ?_ | refine h0x ?_ | refine h1m ?_ | refine h0o ?_ | refine h1e ?_ | refine h0l rfl ?_ | refine h0m rfl ?_ | (refine gR 0 ?_ <;> (try refine h0b ?_; (refine h2c (t:=39) rfl rfl ?_; intro nb hnb; (try simp only [Value.cells]))) <;> (try refine p_a (h:=h0a ?_))) | (refine gR 1 (p_e (q_f h3j) (h:=p_e q_l (h:=p_e (q_b (r:=by exact h0r q_o)) (h:=p_m (h:=p_y (q_f h3j) (h:=p_y q_l (h:=p_y (q_b (r:=by exact h0u q_o)) (h:=p_p (h:=p_a (h:=h0a ?_))))))))))) | (refine gR 3 (p_e (q_f h2p) (h:=p_e q_l (h:=p_e (q_b (r:=by exact h0r q_o)) (h:=p_m (h:=p_y (q_f h2p) (h:=p_y q_l (h:=p_y (q_b (r:=by exact h0u q_o)) (h:=p_p (h:=p_a (h:=h0a ?_))))))))))) | (refine gR 5 (p_e (q_f h2p) (h:=q_e q_l ?_)) <;> (try refine q_e (by exact q_b (r:=by refine h1g ?_; first | rfl | (with_reducible assumption) | (decide; done) | omega)) ?_) <;> (try refine p_m (h:=p_z (h:=p_z (h:=p_z (h:=p_p (h:=p_a (h:=h0a ?_)))))))) | (refine gR 7 (p_e (q_f h2p) (h:=q_e q_l ?_)) <;> (try refine q_e (by exact q_b (r:=by refine h1l ?_; first | rfl | (with_reducible assumption) | (decide; done) | omega)) ?_) <;> (try refine p_m (h:=p_y (q_f fo_39_2) (h:=q_y q_l ?_))) <;> (try refine q_y (by exact q_b (r:=by refine h1l ?_; first | rfl | (with_reducible assumption) | (decide; done) | omega)) ?_) <;> (try refine p_y (h0g rfl) (h:=p_z (h:=p_z (h:=p_z (h:=p_z (h:=p_z (h:=p_z (h:=p_y (h1i rfl rfl) (h:=p_p (h:=p_a (h:=h0a ?_)))))))))))) | (refine gR 8 (p_a (h:=h0a ?_))))
   (refine h0z Tryd.results11 (.tmp rfl .nil) ?_)
   exact ⟨_, ⟨rfl, rfl⟩, by intro w H; refine H.sub ?_; (try simp only [zzC, zzN]); repeat (first | exact List.Sublist.refl _ | refine List.Sublist.cons _ ?_)⟩
  by_cases c7 : h3e (x : Int) (m : Int) = 0
  ·refine key 0 (by unfold chkC; dsimp only; rw [if_neg n1, if_neg n2, if_neg n3, if_neg (fun h => h.2.elim c6 (fun h => h c7))]) ?_
   refine Fn1 Tryd.func11 Tryd.ntmps11 rfl rfl ?_
   repeat' (first | refine h0t ?_ | refine h0e ?_ | refine h1h ?_ | refine h0o ?_ | refine h1a ?_ | refine h1e ?_ | refine h0m rfl ?_ | (refine gR 0 ?_ <;> (try refine h0b ?_; (refine h2c (t:=39) rfl rfl ?_; intro nb hnb; (try simp only [Value.cells]))) <;> (try refine p_a (h:=h0a ?_))) | (refine gR 1 (p_e (q_f h3j) (h:=p_e q_l (h:=p_e (q_b (r:=by exact h0r q_o)) (h:=p_m (h:=p_y (q_f h3j) (h:=p_y q_l (h:=p_y (q_b (r:=by exact h0u q_o)) (h:=p_p (h:=p_a (h:=h0a ?_))))))))))) | (refine gR 3 (p_e (q_f h2p) (h:=p_e q_l (h:=p_e (q_b (r:=by exact h0r q_o)) (h:=p_m (h:=p_y (q_f h2p) (h:=p_y q_l (h:=p_y (q_b (r:=by exact h0u q_o)) (h:=p_p (h:=p_a (h:=h0a ?_))))))))))) | (refine gR 5 (p_e (q_f h2p) (h:=q_e q_l ?_)) <;> (try refine q_e (by exact q_b (r:=by refine h1g ?_; first | rfl | (with_reducible assumption) | (decide; done) | omega)) ?_) <;> (try refine p_m (h:=p_z (h:=p_z (h:=p_z (h:=p_p (h:=p_a (h:=h0a ?_)))))))) | (refine gR 7 (p_e (q_f h2p) (h:=q_e q_l ?_)) <;> (try refine q_e (by exact q_b (r:=by refine h1l ?_; first | rfl | (with_reducible assumption) | (decide; done) | omega)) ?_) <;> (try refine p_m (h:=p_y (q_f fo_39_2) (h:=p_y q_l (h:=p_y (q_b (r:=by exact h0y q_o)) (h:=p_y (h0g rfl) (h:=p_y (q_f fo_39_3) (h:=p_y q_l (h:=p_y (q_f fo_39_2) (h:=q_y q_l ?_))))))))) <;> (try refine q_y (q_b (r:=by refine rb_andn ?_ ?_; (focus (refine ⟨rfl, ⟨?_, ?_⟩⟩; omega; (focus (simp only [IntKind.bits]; omega)))); (focus (refine ⟨rfl, ⟨?_, ?_⟩⟩; omega; (focus (simp only [IntKind.bits]; omega)))))) ?_) <;> (try refine q_y (by exact q_b (r:=by refine h1g ?_; first | rfl | (with_reducible assumption) | (decide; done) | omega)) ?_) <;> (try refine p_y (h1i rfl rfl) (h:=p_p (h:=p_a (h:=h0a ?_))))) | (refine gR 9 (p_a (h:=h0a ?_))))
   (refine h0z Tryd.results11 (.tmp rfl .nil) ?_)
   exact ⟨_, ⟨rfl, rfl⟩, by intro w H; refine H.sub ?_; (try simp only [zzC, zzN]); repeat (first | exact List.Sublist.refl _ | refine List.Sublist.cons _ ?_)⟩
  ·refine key 204 (by unfold chkC; dsimp only; rw [if_neg n1, if_neg n2, if_neg n3, if_pos ⟨c5, Or.inr c7⟩]) ?_
   refine Fn1 Tryd.func11 Tryd.ntmps11 rfl rfl ?_
   repeat' (first | refine h0t ?_ | refine h0e ?_ | refine h0x ?_ | refine h1m ?_ | refine h0o ?_ | refine h1e ?_ | refine h0l rfl ?_ | refine h0m rfl ?_ | (refine gR 0 ?_ <;> (try refine h0b ?_; (refine h2c (t:=39) rfl rfl ?_; intro nb hnb; (try simp only [Value.cells]))) <;> (try refine p_a (h:=h0a ?_))) | (refine gR 1 (p_e (q_f h3j) (h:=p_e q_l (h:=p_e (q_b (r:=by exact h0r q_o)) (h:=p_m (h:=p_y (q_f h3j) (h:=p_y q_l (h:=p_y (q_b (r:=by exact h0u q_o)) (h:=p_p (h:=p_a (h:=h0a ?_))))))))))) | (refine gR 3 (p_e (q_f h2p) (h:=p_e q_l (h:=p_e (q_b (r:=by exact h0r q_o)) (h:=p_m (h:=p_y (q_f h2p) (h:=p_y q_l (h:=p_y (q_b (r:=by exact h0u q_o)) (h:=p_p (h:=p_a (h:=h0a ?_))))))))))) | (refine gR 5 (p_e (q_f h2p) (h:=q_e q_l ?_)) <;> (try refine q_e (by exact q_b (r:=by refine h1g ?_; first | rfl | (with_reducible assumption) | (decide; done) | omega)) ?_) <;> (try refine p_m (h:=p_z (h:=p_z (h:=p_z (h:=p_p (h:=p_a (h:=h0a ?_)))))))) | (refine gR 7 (p_e (q_f h2p) (h:=q_e q_l ?_)) <;> (try refine q_e (by exact q_b (r:=by refine h1l ?_; first | rfl | (with_reducible assumption) | (decide; done) | omega)) ?_) <;> (try refine p_m (h:=p_y (q_f fo_39_2) (h:=p_y q_l (h:=p_y (q_b (r:=by exact h0y q_o)) (h:=p_y (h0g rfl) (h:=p_y (q_f fo_39_3) (h:=p_y q_l (h:=p_y (q_f fo_39_2) (h:=q_y q_l ?_))))))))) <;> (try refine q_y (q_b (r:=by refine rb_andn ?_ ?_; (focus (refine ⟨rfl, ⟨?_, ?_⟩⟩; omega; (focus (simp only [IntKind.bits]; omega)))); (focus (refine ⟨rfl, ⟨?_, ?_⟩⟩; omega; (focus (simp only [IntKind.bits]; omega)))))) ?_) <;> (try refine p_y (q_b (r:=by exact h1k q_o)) (h:=p_y (h1i rfl rfl) (h:=p_p (h:=p_a (h:=h0a ?_)))))) | (refine gR 8 (p_a (h:=h0a ?_))))
   (refine h0z Tryd.results11 (.tmp rfl .nil) ?_)
   exact ⟨_, ⟨rfl, rfl⟩, by intro w H; refine H.sub ?_; (try simp only [zzC, zzN]); repeat (first | exact List.Sublist.refl _ | refine List.Sublist.cons _ ?_)⟩
 ·by_cases c6 : m = 0
  ·refine key 0 (by unfold chkC; dsimp only; rw [if_neg n1, if_neg n2, if_neg (fun h => h.2 c6), if_neg (fun h => c5 h.1)]) ?_
   refine Fn1 Tryd.func11 Tryd.ntmps11 rfl rfl ?_
   repeat' (first | refine h0t ?_ | refine h0e ?_ | refine h1h ?_ | refine h0o ?_ | refine h1a ?_ | refine h1e ?_ | refine h0m rfl ?_ | (refine gR 0 ?_ <;> (try refine h0b ?_; (refine h2c (t:=39) rfl rfl ?_; intro nb hnb; (try simp only [Value.cells]))) <;> (try refine p_a (h:=h0a ?_))) | (refine gR 1 (p_e (q_f h3j) (h:=p_e q_l (h:=p_e (q_b (r:=by exact h0r q_o)) (h:=p_m (h:=p_y (q_f h3j) (h:=p_y q_l (h:=p_y (q_b (r:=by exact h0u q_o)) (h:=p_p (h:=p_a (h:=h0a ?_))))))))))) | (refine gR 3 (p_e (q_f h2p) (h:=p_e q_l (h:=p_e (q_b (r:=by exact h0r q_o)) (h:=p_m (h:=p_y (q_f h2p) (h:=p_y q_l (h:=p_y (q_b (r:=by exact h0u q_o)) (h:=p_p (h:=p_a (h:=h0a ?_))))))))))) | (refine gR 5 (p_e (q_f h2p) (h:=p_e q_l (h:=p_e (q_b (r:=by exact h1k q_o)) (h:=p_m (h:=p_y (q_f fo_39_2) (h:=q_y q_l ?_)))))) <;> (try refine q_y (by exact q_b (r:=by refine h1g ?_; first | rfl | (with_reducible assumption) | (decide; done) | omega)) ?_) <;> (try refine p_p (h:=p_a (h:=h0a ?_)))) | (refine gR 7 (p_e (q_f h2p) (h:=p_e q_l (h:=p_e (q_b (r:=by exact h0y q_o)) (h:=p_m (h:=p_z (h:=p_z (h:=p_z (h:=q_z ?_)))))))) <;> (try refine h0b ?_; (refine h0p rfl rfl rfl ?_)) <;> (try refine h0b ?_; (refine h0p rfl rfl rfl ?_)) <;> (try refine h0b ?_; (refine h0p rfl rfl rfl ?_)) <;> (try refine h0b ?_; (refine h0p rfl rfl rfl ?_)) <;> (try refine h0b ?_; (refine h0p rfl rfl rfl ?_)) <;> (try refine h0b ?_; (refine h0p rfl rfl rfl ?_)) <;> (try refine p_z (h:=p_p (h:=p_a (h:=h0a ?_))))) | (refine gR 9 (p_a (h:=h0a ?_))))
   (refine h0z Tryd.results11 (.tmp rfl .nil) ?_)
   exact ⟨_, ⟨rfl, rfl⟩, by intro w H; refine H.sub ?_; (try simp only [zzC, zzN]); repeat (first | exact List.Sublist.refl _ | refine List.Sublist.cons _ ?_)⟩
  ·refine key 203 (by unfold chkC; dsimp only; rw [if_neg n1, if_neg n2, if_pos ⟨c5, c6⟩]) ?_
   refine Fn1 Tryd.func11 Tryd.ntmps11 rfl rfl ?_
   repeat' (first | refine h0t ?_ | refine h0e ?_ | refine h0x ?_ | refine h1m ?_ | refine h0o ?_ | refine h1e ?_ | refine h0l rfl ?_ | refine h0m rfl ?_ | (refine gR 0 ?_ <;> (try refine h0b ?_; (refine h2c (t:=39) rfl rfl ?_; intro nb hnb; (try simp only [Value.cells]))) <;> (try refine p_a (h:=h0a ?_))) | (refine gR 1 (p_e (q_f h3j) (h:=p_e q_l (h:=p_e (q_b (r:=by exact h0r q_o)) (h:=p_m (h:=p_y (q_f h3j) (h:=p_y q_l (h:=p_y (q_b (r:=by exact h0u q_o)) (h:=p_p (h:=p_a (h:=h0a ?_))))))))))) | (refine gR 3 (p_e (q_f h2p) (h:=p_e q_l (h:=p_e (q_b (r:=by exact h0r q_o)) (h:=p_m (h:=p_y (q_f h2p) (h:=p_y q_l (h:=p_y (q_b (r:=by exact h0u q_o)) (h:=p_p (h:=p_a (h:=h0a ?_))))))))))) | (refine gR 5 (p_e (q_f h2p) (h:=p_e q_l (h:=p_e (q_b (r:=by exact h1k q_o)) (h:=p_m (h:=p_y (q_f fo_39_2) (h:=p_y q_l (h:=p_y (q_b (r:=by exact h1k q_o)) (h:=p_p (h:=p_a (h:=h0a ?_))))))))))) | (refine gR 6 (p_a (h:=h0a ?_))))
   (refine h0z Tryd.results11 (.tmp rfl .nil) ?_)
   exact ⟨_, ⟨rfl, rfl⟩, by intro w H; refine H.sub ?_; (try simp only [zzC, zzN]); repeat (first | exact List.Sublist.refl _ | refine List.Sublist.cons _ ?_)⟩
theorem akind_c {S w0 L} (a : Int) (h : 0 ≤ a ∧ a < 4294967296) : Fn Tryd.prog 36 #[.int .u32 a] S w0 L fun v L' => v = .int .u32 (kndA a) ∧ L = L' := by
 have h8 := iandn_le a 65535 h.1
 have hj : kndA a = if h3e a 65535 = 327680 ∨ h3e a 65535 = 2147221504 ∨ h3e a 65535 = 2147418112 then h3e a 65535 else 2147483648 := rfl
 rw [hj]
 clear hj
 by_cases c1 : h3e a 65535 = 327680
 ·rw [if_pos (Or.inl c1)]
  refine Fn1 Tryd.func36 Tryd.ntmps36 rfl rfl ?_
  repeat' (first | refine h0t ?_ | refine h0e ?_ | refine h0x ?_ | refine h1m ?_ | refine h0o ?_ | refine h1a ?_ | refine h1e ?_ | refine h0l rfl ?_ | (refine gR 0 (p_a (h:=h0a ?_))) | (refine gR 1 (q_m ?_) <;> (try refine q_e (q_b (r:=by refine rb_andn ?_ ?_; (focus (refine ⟨rfl, ⟨?_, ?_⟩⟩; omega; (focus (simp only [IntKind.bits]; omega)))); (focus (refine ⟨rfl, ⟨?_, ?_⟩⟩; omega; (focus (simp only [IntKind.bits]; omega)))))) ?_) <;> (try refine p_a (h:=h0a ?_))) | (refine gR 2 (p_m (h:=h0a ?_))) | (refine gR 3 ?_ <;> (try refine q_e (by exact q_b (r:=by refine h1l ?_; first | rfl | (with_reducible assumption) | (decide; done) | omega)) ?_) <;> (try refine p_a (h:=h0a ?_))) | (refine gR 6 (p_m (h:=p_a (h:=h0a ?_)))))
  (refine h0z Tryd.results36 (.tmp rfl .nil) ?_)
  exact ⟨_, ⟨rfl, rfl⟩, by intro w H; refine H.sub ?_; (try simp only [zzC, zzN]); repeat (exact List.Sublist.refl _)⟩
 by_cases c2 : h3e a 65535 = 2147221504
 ·rw [if_pos (Or.inr (Or.inl c2))]
  refine Fn1 Tryd.func36 Tryd.ntmps36 rfl rfl ?_
  repeat' (first | refine h0t ?_ | refine h0e ?_ | refine h0x ?_ | refine h1m ?_ | refine h0o ?_ | refine h1a ?_ | refine h1e ?_ | refine h0l rfl ?_ | refine h0m rfl ?_ | (refine gR 0 (p_a (h:=h0a ?_))) | (refine gR 1 (q_m ?_) <;> (try refine q_e (q_b (r:=by refine rb_andn ?_ ?_; (focus (refine ⟨rfl, ⟨?_, ?_⟩⟩; omega; (focus (simp only [IntKind.bits]; omega)))); (focus (refine ⟨rfl, ⟨?_, ?_⟩⟩; omega; (focus (simp only [IntKind.bits]; omega)))))) ?_) <;> (try refine p_a (h:=h0a ?_))) | (refine gR 2 (p_m (h:=h0a ?_))) | (refine gR 3 (p_e (q_b (r:=by exact h0y q_o)) (h:=p_a (h:=h0a ?_)))) | (refine gR 4 ?_ <;> (try refine q_e (by exact q_b (r:=by refine h1l ?_; first | rfl | (with_reducible assumption) | (decide; done) | omega)) ?_) <;> (try refine p_a (h:=h0a ?_))) | (refine gR 6 (p_m (h:=p_a (h:=h0a ?_)))))
  (refine h0z Tryd.results36 (.tmp rfl .nil) ?_)
  exact ⟨_, ⟨rfl, rfl⟩, by intro w H; refine H.sub ?_; (try simp only [zzC, zzN]); repeat (exact List.Sublist.refl _)⟩
 by_cases c3 : h3e a 65535 = 2147418112
 ·rw [if_pos (Or.inr (Or.inr c3))]
  refine Fn1 Tryd.func36 Tryd.ntmps36 rfl rfl ?_
  repeat' (first | refine h0t ?_ | refine h0e ?_ | refine h0x ?_ | refine h1m ?_ | refine h0o ?_ | refine h1e ?_ | refine h0l rfl ?_ | refine h0m rfl ?_ | (refine gR 0 (p_a (h:=h0a ?_))) | (refine gR 1 (q_m ?_) <;> (try refine q_e (q_b (r:=by refine rb_andn ?_ ?_; (focus (refine ⟨rfl, ⟨?_, ?_⟩⟩; omega; (focus (simp only [IntKind.bits]; omega)))); (focus (refine ⟨rfl, ⟨?_, ?_⟩⟩; omega; (focus (simp only [IntKind.bits]; omega)))))) ?_) <;> (try refine p_a (h:=h0a ?_))) | (refine gR 2 (p_m (h:=h0a ?_))) | (refine gR 3 (p_e (q_b (r:=by exact h0y q_o)) (h:=p_a (h:=h0a ?_)))) | (refine gR 4 (p_e (q_b (r:=by exact h0y q_o)) (h:=p_a (h:=h0a ?_)))) | (refine gR 5 ?_ <;> (try refine q_e (by exact q_b (r:=by refine h1l ?_; first | rfl | (with_reducible assumption) | (decide; done) | omega)) ?_) <;> (try refine p_a (h:=h0a ?_))) | (refine gR 6 (p_m (h:=p_a (h:=h0a ?_)))))
  (refine h0z Tryd.results36 (.tmp rfl .nil) ?_)
  exact ⟨_, ⟨rfl, rfl⟩, by intro w H; refine H.sub ?_; (try simp only [zzC, zzN]); repeat (exact List.Sublist.refl _)⟩
 rw [if_neg (fun h => h.elim c1 (fun h => h.elim c2 c3))]
 refine Fn1 Tryd.func36 Tryd.ntmps36 rfl rfl ?_
 repeat' (first | refine h0t ?_ | refine h0e ?_ | refine h1h ?_ | refine h0o ?_ | refine h1a ?_ | refine h1e ?_ | refine h0m rfl ?_ | (refine gR 0 (p_a (h:=h0a ?_))) | (refine gR 1 (q_m ?_) <;> (try refine q_e (q_b (r:=by refine rb_andn ?_ ?_; (focus (refine ⟨rfl, ⟨?_, ?_⟩⟩; omega; (focus (simp only [IntKind.bits]; omega)))); (focus (refine ⟨rfl, ⟨?_, ?_⟩⟩; omega; (focus (simp only [IntKind.bits]; omega)))))) ?_) <;> (try refine p_a (h:=h0a ?_))) | (refine gR 2 (p_m (h:=h0a ?_))) | (refine gR 3 (p_e (q_b (r:=by exact h0y q_o)) (h:=p_a (h:=h0a ?_)))) | (refine gR 4 (p_e (q_b (r:=by exact h0y q_o)) (h:=p_a (h:=h0a ?_)))) | (refine gR 5 (p_e (q_b (r:=by exact h0y q_o)) (h:=p_a (h:=h0a ?_)))) | (refine gR 7 (p_a (h:=h0a ?_))))
 (refine h0z Tryd.results36 (.tmp rfl .nil) ?_)
 exact ⟨_, ⟨rfl, rfl⟩, by intro w H; refine H.sub ?_; (try simp only [zzC, zzN]); repeat (exact List.Sublist.refl _)⟩
theorem actok_c {S w0 L} (a : Int) (h : 0 ≤ a ∧ a < 4294967296) : Fn Tryd.prog 21 #[.int .u32 a] S w0 L fun v L' => v = .bool (h4b a) ∧ L = L' := by
 have hk := fun (L : List Blk) => akind_c (S:=S) (w0:=w0) (L:=L) a h
 have hr : ∀ b : Bool, h4b a = b → Fn Tryd.prog 21 #[.int .u32 a] S w0 L (fun v L' => v = .bool b ∧ L = L') → Fn Tryd.prog 21 #[.int .u32 a] S w0 L (fun v L' => v = .bool (h4b a) ∧ L = L') := by
  intro k hk hf; rw [hk]; exact hf
 by_cases c1 : a = 2147483648
 ·refine hr true (by unfold h4b; rw [decide_eq_true (Or.inl c1)]) ?_
  subst c1
  clear hk hr
  refine Fn1 Tryd.func21 Tryd.ntmps21 rfl rfl ?_
  repeat' (first | refine h0t ?_ | refine h0e ?_ | refine h0x ?_ | refine h1m ?_ | refine h0o ?_ | refine h1a ?_ | refine h1e ?_ | refine h0l rfl ?_ | (refine gR 0 (p_a (h:=h0a ?_))) | (refine gR 1 (p_m (h:=h0a ?_))) | (refine gR 2 ?_ <;> (try refine q_e (by exact q_b (r:=by refine h1l ?_; first | rfl | (with_reducible assumption) | (decide; done) | omega)) ?_) <;> (try refine p_a (h:=h0a ?_))) | (refine gR 5 (p_a (h:=h0a ?_))))
  (refine h0z Tryd.results21 (.tmp rfl .nil) ?_)
  exact ⟨_, ⟨rfl, rfl⟩, by intro w H; refine H.sub ?_; (try simp only [zzC, zzN]); repeat (exact List.Sublist.refl _)⟩
 by_cases c2 : a = 2147221504
 ·refine hr true (by unfold h4b; rw [decide_eq_true (Or.inr (Or.inl c2))]) ?_
  subst c2
  clear hk hr
  refine Fn1 Tryd.func21 Tryd.ntmps21 rfl rfl ?_
  repeat' (first | refine h0t ?_ | refine h0e ?_ | refine h0x ?_ | refine h1m ?_ | refine h0o ?_ | refine h1a ?_ | refine h1e ?_ | refine h0l rfl ?_ | refine h0m rfl ?_ | (refine gR 0 (p_a (h:=h0a ?_))) | (refine gR 1 (p_m (h:=h0a ?_))) | (refine gR 2 (p_e (q_b (r:=by exact h0y q_o)) (h:=p_a (h:=h0a ?_)))) | (refine gR 3 ?_ <;> (try refine q_e (by exact q_b (r:=by refine h1l ?_; first | rfl | (with_reducible assumption) | (decide; done) | omega)) ?_) <;> (try refine p_a (h:=h0a ?_))) | (refine gR 5 (p_a (h:=h0a ?_))))
  (refine h0z Tryd.results21 (.tmp rfl .nil) ?_)
  exact ⟨_, ⟨rfl, rfl⟩, by intro w H; refine H.sub ?_; (try simp only [zzC, zzN]); repeat (exact List.Sublist.refl _)⟩
 by_cases c3 : a = 2147418112
 ·refine hr true (by unfold h4b; rw [decide_eq_true (Or.inr (Or.inr (Or.inl c3)))]) ?_
  subst c3
  clear hk hr
  refine Fn1 Tryd.func21 Tryd.ntmps21 rfl rfl ?_
  repeat' (first | refine h0t ?_ | refine h0e ?_ | refine h0x ?_ | refine h1m ?_ | refine h0o ?_ | refine h1e ?_ | refine h0l rfl ?_ | refine h0m rfl ?_ | (refine gR 0 (p_a (h:=h0a ?_))) | (refine gR 1 (p_m (h:=h0a ?_))) | (refine gR 2 (p_e (q_b (r:=by exact h0y q_o)) (h:=p_a (h:=h0a ?_)))) | (refine gR 3 (p_e (q_b (r:=by exact h0y q_o)) (h:=p_a (h:=h0a ?_)))) | (refine gR 4 ?_ <;> (try refine q_e (by exact q_b (r:=by refine h1l ?_; first | rfl | (with_reducible assumption) | (decide; done) | omega)) ?_) <;> (try refine p_a (h:=h0a ?_))) | (refine gR 5 (p_a (h:=h0a ?_))))
  (refine h0z Tryd.results21 (.tmp rfl .nil) ?_)
  exact ⟨_, ⟨rfl, rfl⟩, by intro w H; refine H.sub ?_; (try simp only [zzC, zzN]); repeat (exact List.Sublist.refl _)⟩
 by_cases c4 : kndA a = 327680
 ·by_cases c5 : 1 ≤ iand a 65535
  ·by_cases c6 : iand a 65535 ≤ 4095
   ·refine hr true (by unfold h4b; rw [decide_eq_true (Or.inr (Or.inr (Or.inr ⟨c4, c5, c6⟩)))]) ?_
    clear hr
    rw [c4] at hk
    refine Fn1 Tryd.func21 Tryd.ntmps21 rfl rfl ?_
    repeat' (first | refine h0t ?_ | refine h0e ?_ | refine h1h ?_ | refine h0o ?_ | refine h1a ?_ | refine h1e ?_ | refine h0m rfl ?_ | (refine gR 0 (p_a (h:=h0a ?_))) | (refine gR 1 (p_m (h:=h0a ?_))) | (refine gR 2 (p_e (q_b (r:=by exact h0y q_o)) (h:=p_a (h:=h0a ?_)))) | (refine gR 3 (p_e (q_b (r:=by exact h0y q_o)) (h:=p_a (h:=h0a ?_)))) | (refine gR 4 (p_e (q_b (r:=by exact h0y q_o)) (h:=p_a (h:=h0a ?_)))) | (refine gR 6 (q_m ?_) <;> (try refine q_e (q_b (r:=by refine rb_and ?_ ?_; (focus (refine ⟨rfl, ⟨?_, ?_⟩⟩; omega; (focus (simp only [IntKind.bits]; omega)))); (focus (refine ⟨rfl, ⟨?_, ?_⟩⟩; omega; (focus (simp only [IntKind.bits]; omega)))))) ?_) <;> (try refine p_a (h:=h0a ?_))) | (refine gR 7 (q_m ?_) <;> (try refine h0b ?_; (refine q_c 36 (c:=by apply hk) (h:=?_); rintro _ _ ⟨rfl, rfl⟩; (try simp only [zzE, zzF]))) <;> (try refine q_e (by exact q_b (r:=by refine h1l ?_; first | rfl | (with_reducible assumption) | (decide; done) | omega)) ?_) <;> (try refine p_m (h:=p_y (h0g rfl) (h:=p_y (q_b (r:=by exact h3h q_o)) (h:=p_p (h:=p_m (h:=p_y (h0g rfl) (h:=p_y (q_b (r:=by exact h1u q_o)) (h:=p_p (h:=p_a (h:=h0a ?_))))))))))))
    (refine h0z Tryd.results21 (.tmp rfl .nil) ?_)
    exact ⟨_, ⟨rfl, rfl⟩, by intro w H; refine H.sub ?_; (try simp only [zzC, zzN]); repeat (exact List.Sublist.refl _)⟩
   ·refine hr false (by unfold h4b; rw [decide_eq_false (fun h => h.elim c1 (fun h => h.elim c2 (fun h => h.elim c3 (fun h => c6 h.2.2))))]) ?_
    clear hr
    rw [c4] at hk
    refine Fn1 Tryd.func21 Tryd.ntmps21 rfl rfl ?_
    repeat' (first | refine h0t ?_ | refine h0e ?_ | refine h1h ?_ | refine h0o ?_ | refine h1a ?_ | refine h1e ?_ | refine h0m rfl ?_ | (refine gR 0 (p_a (h:=h0a ?_))) | (refine gR 1 (p_m (h:=h0a ?_))) | (refine gR 2 (p_e (q_b (r:=by exact h0y q_o)) (h:=p_a (h:=h0a ?_)))) | (refine gR 3 (p_e (q_b (r:=by exact h0y q_o)) (h:=p_a (h:=h0a ?_)))) | (refine gR 4 (p_e (q_b (r:=by exact h0y q_o)) (h:=p_a (h:=h0a ?_)))) | (refine gR 6 (q_m ?_) <;> (try refine q_e (q_b (r:=by refine rb_and ?_ ?_; (focus (refine ⟨rfl, ⟨?_, ?_⟩⟩; omega; (focus (simp only [IntKind.bits]; omega)))); (focus (refine ⟨rfl, ⟨?_, ?_⟩⟩; omega; (focus (simp only [IntKind.bits]; omega)))))) ?_) <;> (try refine p_a (h:=h0a ?_))) | (refine gR 7 (q_m ?_) <;> (try refine h0b ?_; (refine q_c 36 (c:=by apply hk) (h:=?_); rintro _ _ ⟨rfl, rfl⟩; (try simp only [zzE, zzF]))) <;> (try refine q_e (by exact q_b (r:=by refine h1l ?_; first | rfl | (with_reducible assumption) | (decide; done) | omega)) ?_) <;> (try refine p_m (h:=p_y (h0g rfl) (h:=p_y (q_b (r:=by exact h3h q_o)) (h:=p_p (h:=p_m (h:=p_y (h0g rfl) (h:=p_y (q_b (r:=by exact h2l q_o)) (h:=p_p (h:=p_a (h:=h0a ?_))))))))))))
    (refine h0z Tryd.results21 (.tmp rfl .nil) ?_)
    exact ⟨_, ⟨rfl, rfl⟩, by intro w H; refine H.sub ?_; (try simp only [zzC, zzN]); repeat (exact List.Sublist.refl _)⟩
  ·refine hr false (by unfold h4b; rw [decide_eq_false (fun h => h.elim c1 (fun h => h.elim c2 (fun h => h.elim c3 (fun h => c5 h.2.1))))]) ?_
   clear hr
   rw [c4] at hk
   refine Fn1 Tryd.func21 Tryd.ntmps21 rfl rfl ?_
   repeat' (first | refine h0t ?_ | refine h0e ?_ | refine h1h ?_ | refine h0o ?_ | refine h1a ?_ | refine h1e ?_ | refine h0m rfl ?_ | (refine gR 0 (p_a (h:=h0a ?_))) | (refine gR 1 (p_m (h:=h0a ?_))) | (refine gR 2 (p_e (q_b (r:=by exact h0y q_o)) (h:=p_a (h:=h0a ?_)))) | (refine gR 3 (p_e (q_b (r:=by exact h0y q_o)) (h:=p_a (h:=h0a ?_)))) | (refine gR 4 (p_e (q_b (r:=by exact h0y q_o)) (h:=p_a (h:=h0a ?_)))) | (refine gR 6 (q_m ?_) <;> (try refine q_e (q_b (r:=by refine rb_and ?_ ?_; (focus (refine ⟨rfl, ⟨?_, ?_⟩⟩; omega; (focus (simp only [IntKind.bits]; omega)))); (focus (refine ⟨rfl, ⟨?_, ?_⟩⟩; omega; (focus (simp only [IntKind.bits]; omega)))))) ?_) <;> (try refine p_a (h:=h0a ?_))) | (refine gR 7 (q_m ?_) <;> (try refine h0b ?_; (refine q_c 36 (c:=by apply hk) (h:=?_); rintro _ _ ⟨rfl, rfl⟩; (try simp only [zzE, zzF]))) <;> (try refine q_e (by exact q_b (r:=by refine h1l ?_; first | rfl | (with_reducible assumption) | (decide; done) | omega)) ?_) <;> (try refine p_m (h:=p_y (h0g rfl) (h:=p_y (q_b (r:=by exact h3n q_o)) (h:=p_p (h:=p_m (h:=p_z (h:=p_z (h:=p_p (h:=p_a (h:=h0a ?_))))))))))))
   (refine h0z Tryd.results21 (.tmp rfl .nil) ?_)
   exact ⟨_, ⟨rfl, rfl⟩, by intro w H; refine H.sub ?_; (try simp only [zzC, zzN]); repeat (exact List.Sublist.refl _)⟩
 ·refine hr false (by unfold h4b; rw [decide_eq_false (fun h => h.elim c1 (fun h => h.elim c2 (fun h => h.elim c3 (fun h => c4 h.1))))]) ?_
  clear hr
  generalize kndA a = k at *
  refine Fn1 Tryd.func21 Tryd.ntmps21 rfl rfl ?_
  repeat' (first | refine h0t ?_ | refine h0e ?_ | refine h1h ?_ | refine h0o ?_ | refine h1a ?_ | refine h1e ?_ | refine h0m rfl ?_ | (refine gR 0 (p_a (h:=h0a ?_))) | (refine gR 1 (p_m (h:=h0a ?_))) | (refine gR 2 (p_e (q_b (r:=by exact h0y q_o)) (h:=p_a (h:=h0a ?_)))) | (refine gR 3 (p_e (q_b (r:=by exact h0y q_o)) (h:=p_a (h:=h0a ?_)))) | (refine gR 4 (p_e (q_b (r:=by exact h0y q_o)) (h:=p_a (h:=h0a ?_)))) | (refine gR 6 (q_m ?_) <;> (try refine q_e (q_b (r:=by refine rb_and ?_ ?_; (focus (refine ⟨rfl, ⟨?_, ?_⟩⟩; omega; (focus (simp only [IntKind.bits]; omega)))); (focus (refine ⟨rfl, ⟨?_, ?_⟩⟩; omega; (focus (simp only [IntKind.bits]; omega)))))) ?_) <;> (try refine p_a (h:=h0a ?_))) | (refine gR 7 (q_m ?_) <;> (try refine h0b ?_; (refine q_c 36 (c:=by apply hk) (h:=?_); rintro _ _ ⟨rfl, rfl⟩; (try simp only [zzE, zzF]))) <;> (try refine p_e (q_b (r:=by exact h0y q_o)) (h:=p_m (h:=p_z (h:=p_z (h:=p_p (h:=p_m (h:=p_z (h:=p_z (h:=p_p (h:=p_a (h:=h0a ?_)))))))))))))
  (refine h0z Tryd.results21 (.tmp rfl .nil) ?_)
  exact ⟨_, ⟨rfl, rfl⟩, by intro w H; refine H.sub ?_; (try simp only [zzC, zzN]); repeat (exact List.Sublist.refl _)⟩
theorem numS_c {S w0} (e L : List Blk) (b m1 m2 n : Nat) (hn : n ≤ 100000) (s : Int) : Fn Tryd.prog 37 #[.pointer (some ⟨b, 0, none⟩), .int .u32 s] S w0 (e ++ (tbS b m1 m2 n ++ L)) fun v L' => ∃ m1' m2', v = gotV (h3f s clls) ∧ e ++ (tbS b m1' m2' (n + 1) ++ L) = L' := by
 have hsw : ∀ (A B : List Blk) w, HP S w0 w (A ++ (B ++ L)) → HP S w0 w (B ++ (A ++ L)) := fun A B w H => H.perm (List.perm_append_comm_assoc A B L)
 cases n with
 | zero =>
  refine Fn.weak (hsw e _) ((numbered0_c (S:=S) (w0:=w0) (L:=e ++ L) b 0 0 (by omega) (by omega) s).mono ?_)
  rintro v L' ⟨x, y, rfl, rfl⟩
  exact ⟨_, ⟨x, y, rfl, rfl⟩, fun w H => hsw (tbS b x y 1) e w H⟩
 | succ n =>
  refine Fn.weak (hsw e _) ?_
  rw [tbS_succ]
  refine (numbered1_c (S:=S) (w0:=w0) (L:=e ++ L) b m1 m2 _ 1 (by omega) s).mono ?_
  rintro v L' ⟨rfl, rfl⟩
  refine ⟨_, ⟨m1, m2, rfl, rfl⟩, fun w H => hsw _ e w ?_⟩
  rw [tbS_succ, Int.natCast_add, Int.natCast_one]
  exact H
theorem firstE_drop {es : List Nat} {k : Nat} (hk : k < es.length) : h2w (es.drop k) = if es[k] ≠ 0 then es[k] else h2w (es.drop (k + 1)) := by
 rw [List.drop_eq_getElem_cons hk]; rfl
theorem firstE_nil {es : List Nat} {k : Nat} (hk : es.length ≤ k) : h2w (es.drop k) = 0 := by
 rw [List.drop_eq_nil_of_le hk]; rfl
set_option maxHeartbeats 1000000 in
theorem rulechk_c {S w0} (e L : List Blk) (r : GRul) (h : r.ok) (v : Value) (hv : CndS (e ++ L) v r.conds) (b m1 m2 n : Nat) (hn : n ≤ 100000) :
  Fn Tryd.prog 23 #[.agg #[.int .u32 r.num, .int .u32 r.act, v], .pointer (some ⟨b, 0, none⟩)] S w0 (e ++ (tbS b m1 m2 n ++ L)) fun v' L' => ∃ m1' m2', v' = .int .i64 (chkR r : Nat) ∧ e ++ (tbS b m1' m2' (n + 1) ++ L) = L' := by
 obtain ⟨a, c, rfl, hsl, hml⟩ := hv
 have hnu := fun (x : Blk) => numS_c (S:=S) (w0:=w0) (x :: e) L b m1 m2 n hn r.num
 obtain ⟨nm, ar, hg⟩ := gotV_num (h3f r.num clls)
 rw [hg] at hnu
 have hac := fun (L : List Blk) => actok_c (S:=S) (w0:=w0) (L:=L) r.act h.act
 obtain ⟨num, act, conds⟩ := r
 have hok := h.conds
 clear h hg
 dsimp only [List.cons_append] at *
 have hR : chkR ⟨num, act, conds⟩ = if (h3f num clls).isSome = false then 38 else if h4b act = false then 210 else if 6 < conds.length then 205 else h2w (conds.map chkC) := by
  unfold chkR
  cases h3f num clls <;> rfl
 rw [hR]
 clear hR
 generalize cnO (h3f num clls) = cn at *
 generalize (h3f num clls).isSome = ok at *
 generalize h4b act = ak at *
 cases ok with
 | false =>
  rw [if_pos rfl]
  refine Fn2 Tryd.func23 Tryd.ntmps23 rfl rfl ?_
  repeat' (first | refine h0t ?_ | refine h0e ?_ | refine h0x ?_ | refine h1e ?_ | refine h0l rfl ?_ | (refine gR 0 ?_ <;> (try refine h0b ?_; (refine h2c (t:=47) rfl rfl ?_; intro nb hnb; (try simp only [Value.cells]))) <;> (try refine p_a (h:=h0a ?_))) | (refine gR 1 (p_m (h:=p_e (q_f fo_47_0) (h:=q_e q_l ?_))) <;> (try refine h0b ?_; (refine q_c 37 (c:=by apply hnu) (h:=?_); rintro _ _ ⟨k1, k2, rfl, rfl⟩; (try simp only [zzE, zzF]))) <;> (try refine p_m (h:=p_x (h:=q_x ?_))) <;> (try refine h0b ?_; (refine h1b (t:=123) rfl Tryd.zeroValue123 ?_; intro nb hnb; (try simp only [Value.cells]))) <;> (try refine h0b ?_; (refine q_W ?_)) <;> (try refine p_a (h:=h0a ?_))) | (refine gR 2 (p_m (h:=p_e (by apply h3g; exact rfl; exact h1y) (h:=h0a ?_)))) | (refine gR 3 (p_a (h:=h0a ?_))))
  (refine h0z Tryd.results23 (.tmp rfl .nil) ?_)
  exact ⟨_, ⟨k1, k2, rfl, rfl⟩, fun _ H => H.tail.tail⟩
 | true =>
  rw [if_neg (fun h => by cases h)]
  cases ak with
  | false =>
   rw [if_pos rfl]
   refine Fn2 Tryd.func23 Tryd.ntmps23 rfl rfl ?_
   repeat' (first | refine h0t ?_ | refine h0e ?_ | refine h0x ?_ | refine h1a ?_ | refine h1e ?_ | refine h0l rfl ?_ | refine h0m rfl ?_ | (refine gR 0 ?_ <;> (try refine h0b ?_; (refine h2c (t:=47) rfl rfl ?_; intro nb hnb; (try simp only [Value.cells]))) <;> (try refine p_a (h:=h0a ?_))) | (refine gR 1 (p_m (h:=p_e (q_f fo_47_0) (h:=q_e q_l ?_))) <;> (try refine h0b ?_; (refine q_c 37 (c:=by apply hnu) (h:=?_); rintro _ _ ⟨k1, k2, rfl, rfl⟩; (try simp only [zzE, zzF]))) <;> (try refine p_m (h:=p_x (h:=q_x ?_))) <;> (try refine h0b ?_; (refine h1b (t:=123) rfl Tryd.zeroValue123 ?_; intro nb hnb; (try simp only [Value.cells]))) <;> (try refine h0b ?_; (refine q_W ?_)) <;> (try refine p_a (h:=h0a ?_))) | (refine gR 2 (p_m (h:=p_e (by apply h3g; exact rfl; exact h1f) (h:=h0a ?_)))) | (refine gR 4 (p_e (q_f fo_47_1) (h:=q_e q_l ?_)) <;> (try refine h0b ?_; (refine q_c 21 (c:=by apply hac) (h:=?_); rintro _ _ ⟨rfl, rfl⟩; (try simp only [zzE, zzF]))) <;> (try refine p_e (by apply h3g; exact rfl; exact h1y) (h:=h0a ?_))) | (refine gR 5 (p_a (h:=h0a ?_))))
   (refine h0z Tryd.results23 (.tmp rfl .nil) ?_)
   exact ⟨_, ⟨k1, k2, rfl, rfl⟩, fun _ H => H.tail.tail⟩
  | true =>
   rw [if_neg (fun h => by cases h)]
   by_cases hl : 6 < conds.length
   ·rw [if_pos hl]
    refine Fn2 Tryd.func23 Tryd.ntmps23 rfl rfl ?_
    repeat' (first | refine h0t ?_ | refine h0e ?_ | refine h0x ?_ | refine h1a ?_ | refine h1e ?_ | refine h0l rfl ?_ | refine h0m rfl ?_ | (refine gR 0 ?_ <;> (try refine h0b ?_; (refine h2c (t:=47) rfl rfl ?_; intro nb hnb; (try simp only [Value.cells]))) <;> (try refine p_a (h:=h0a ?_))) | (refine gR 1 (p_m (h:=p_e (q_f fo_47_0) (h:=q_e q_l ?_))) <;> (try refine h0b ?_; (refine q_c 37 (c:=by apply hnu) (h:=?_); rintro _ _ ⟨k1, k2, rfl, rfl⟩; (try simp only [zzE, zzF]))) <;> (try refine p_m (h:=p_x (h:=q_x ?_))) <;> (try refine h0b ?_; (refine h1b (t:=123) rfl Tryd.zeroValue123 ?_; intro nb hnb; (try simp only [Value.cells]))) <;> (try refine h0b ?_; (refine q_W ?_)) <;> (try refine p_a (h:=h0a ?_))) | (refine gR 2 (p_m (h:=p_e (by apply h3g; exact rfl; exact h1f) (h:=h0a ?_)))) | (refine gR 4 (p_e (q_f fo_47_1) (h:=q_e q_l ?_)) <;> (try refine h0b ?_; (refine q_c 21 (c:=by apply hac) (h:=?_); rintro _ _ ⟨rfl, rfl⟩; (try simp only [zzE, zzF]))) <;> (try refine p_e (by apply h3g; exact rfl; exact h1f) (h:=h0a ?_))) | (refine gR 6 (p_e (q_f h3w) (h:=p_e q_l (h:=p_e (by apply h0h; exact rfl; exact (fun _ => BigFrame.builtin_len ..); apply h0j Tryd.underlying45; exact h3d) (h:=p_e (q_b (r:=by exact h1c q_o)) (h:=h0a ?_)))))) | (refine gR 7 (p_a (h:=h0a ?_))))
    (refine h0z Tryd.results23 (.tmp rfl .nil) ?_)
    exact ⟨_, ⟨k1, k2, rfl, rfl⟩, fun _ H => H.tail.tail⟩
   ·rw [if_neg hl]
    refine Fn2 Tryd.func23 Tryd.ntmps23 rfl rfl ?_
    repeat' (first | (refine h2g (id:=0) ?_) | refine h0t ?_ | refine h0e ?_ | refine h1a ?_ | refine h0m rfl ?_ | (refine gR 0 ?_ <;> (try refine h0b ?_; (refine h2c (t:=47) rfl rfl ?_; intro nb hnb; (try simp only [Value.cells]))) <;> (try refine p_a (h:=h0a ?_))) | (refine gR 1 (p_m (h:=p_e (q_f fo_47_0) (h:=q_e q_l ?_))) <;> (try refine h0b ?_; (refine q_c 37 (c:=by apply hnu) (h:=?_); rintro _ _ ⟨k1, k2, rfl, rfl⟩; (try simp only [zzE, zzF]))) <;> (try refine p_m (h:=p_x (h:=q_x ?_))) <;> (try refine h0b ?_; (refine h1b (t:=123) rfl Tryd.zeroValue123 ?_; intro nb hnb; (try simp only [Value.cells]))) <;> (try refine h0b ?_; (refine q_W ?_)) <;> (try refine p_a (h:=h0a ?_))) | (refine gR 2 (p_m (h:=p_e (by apply h3g; exact rfl; exact h1f) (h:=h0a ?_)))) | (refine gR 4 (p_e (q_f fo_47_1) (h:=q_e q_l ?_)) <;> (try refine h0b ?_; (refine q_c 21 (c:=by apply hac) (h:=?_); rintro _ _ ⟨rfl, rfl⟩; (try simp only [zzE, zzF]))) <;> (try refine p_e (by apply h3g; exact rfl; exact h1f) (h:=h0a ?_))) | (refine gR 6 (p_e (q_f h3w) (h:=p_e q_l (h:=p_e (by apply h0h; exact rfl; exact (fun _ => BigFrame.builtin_len ..); apply h0j Tryd.underlying45; exact h3d) (h:=p_e (q_b (r:=by exact h0u q_o)) (h:=h0a ?_)))))) | (refine gR 8 (p_e (q_f h3w) (h:=p_e q_l (h:=p_e (by apply h0h; exact rfl; exact (fun _ => BigFrame.builtin_len ..); apply h0j Tryd.underlying45; exact h3d) (h:=p_m (h:=h0a ?_)))))))
    refine ⟨?_⟩
    clear hnu hac
    have hs2 : Sli (e ++ (tbS b k1 k2 (n + 1) ++ L)) a conds.length 4 (gcC conds) := by
     rcases hsl with ⟨g1, g2 | ⟨i, q, bb, off, cs, T, fr, g2, g3, g4, g5⟩⟩
     ·exact ⟨g1, Or.inl g2⟩
     ·have : ∃ j : Nat, (e ++ (tbS b k1 k2 (n + 1) ++ L))[j]? = some ⟨q, bb, .cells cs T fr⟩ := by
       have hm : (⟨q, bb, .cells cs T fr⟩ : Blk) ∈ e ++ L := List.mem_of_getElem? g3
       have hm2 : (⟨q, bb, .cells cs T fr⟩ : Blk) ∈ e ++ (tbS b k1 k2 (n + 1) ++ L) := by
        rcases List.mem_append.1 hm with h | h
        ·exact List.mem_append_left _ h
        ·exact List.mem_append_right _ (List.mem_append_right _ h)
       obtain ⟨j, hj⟩ := List.getElem?_of_mem hm2
       exact ⟨j, hj⟩
      obtain ⟨j, hj⟩ := this
      exact ⟨g1, Or.inr ⟨j, q, bb, off, cs, T, fr, g2, hj, g4, g5⟩⟩
    clear hsl
    obtain ⟨n7, rfl⟩ : ∃ x, x = nb := ⟨_, rfl⟩
    generalize hM : e ++ (tbS b k1 k2 (n + 1) ++ L) = M at *
    refine h4e (γ:=Unit) (fun _ => h2w (conds.map chkC) = 0) (fun _ => []) [] (fun _ => M) .nil ?_ ?_
    ·refine h0o ?_
     refine h2i (γ:=Nat) (fun k => k ≤ conds.length ∧ h2w (conds.map chkC) = h2w ((conds.map chkC).drop k)) (fun k => conds.length - k) (fun k => [(30, .int .i64 (k : Nat))]) [(28, _), (29, _)] (fun _ => M) 0 (.cons rfl (.cons rfl .nil)) ⟨Nat.zero_le _, by rw [List.drop_zero]⟩ (by (focus (repeat (first | exact Sub.nil | refine Sub.cons rfl ?_)))) (fun _ H => H.tail.tail) ?_
     rintro k ⟨hk, heq⟩
     simp only [List.cons_append, List.nil_append]
     unfold maxLen at hml
     by_cases hlt : k < conds.length
     ·obtain ⟨j, q, bb, off, cs, T, fr, rfl, hj, hsz, hx⟩ := hs2.elem hlt
      rw [gcC_at _ _ hlt] at hx
      have hch := fun (L : List Blk) => condchk_c (S:=S) (w0:=w0) (L:=L) conds[k] (hok _ (List.getElem_mem hlt))
      rw [firstE_drop (by rw [List.length_map]; exact hlt), List.getElem_map] at heq
      generalize chkC conds[k] = ck at *
      generalize conds[k] = cd at *
      obtain ⟨ca, co, cm, cv⟩ := cd
      dsimp only [GCnd.cells] at *
      by_cases hc : ck = 0
      ·rw [if_neg (fun h => h hc)] at heq
       subst hc
       repeat' (first | refine h0t ?_ | refine h0e ?_ | refine h1d ?_ | refine h1h ?_ | refine h0o ?_ | refine h1a ?_ | refine h0l rfl ?_ | refine h0m rfl ?_ | (refine gR 9 (p_e (q_b (r:=by exact h0q q_o)) (h:=h0a ?_))) | (refine gR 10 (p_e (by apply h0s; exact rfl; exact rfl; (focus (apply h2h Tryd.underlying45 sz_39; omega; omega; exact c_1))) (h:=q_e (by apply h1r (t:=39); exact rfl; exact c_13; kernel_rfl; kernel_rfl; exact sz_39; (with_reducible assumption); (with_reducible assumption)) ?_)) <;> (try refine h0b ?_; (refine h1b (t:=39) rfl Tryd.zeroValue39 ?_; intro nb hnb; (try simp only [Value.cells]))) <;> (try refine h0b ?_; (refine q_W ?_)) <;> (try refine h0a ?_)) | (refine gR 11 (q_e (q_L sz_39) ?_) <;> (try refine h0b ?_; (refine q_c 11 (c:=by apply hch) (h:=?_); rintro _ _ ⟨rfl, rfl⟩; (try simp only [zzE, zzF]))) <;> (try refine p_a (h:=h0a ?_))) | (refine gR 12 (q_m ?_) <;> (try refine q_e (by exact q_b (r:=by refine h1g ?_; first | rfl | (with_reducible assumption) | (decide; done) | omega)) ?_) <;> (try refine h0a ?_)) | (refine gR 14 ?_ <;> (try refine q_e (q_b (r:=by apply h1q; exact c_4; (focus (refine IntWalk.i64_in _ ?_; omega)))) ?_) <;> (try refine p_m (h:=h0a ?_))))
       exact h1p (k + 1) ⟨⟨by omega, heq⟩, by show conds.length - (k + 1) < conds.length - k; omega⟩ (by (focus (repeat (first | exact Sub.nil | refine Sub.cons rfl ?_)))) (fun _ H => H.tail)
      ·rw [if_pos hc] at heq
       have hc' : ¬ (ck : Int) = 0 := by omega
       repeat' (first | refine h0t ?_ | refine h0e ?_ | refine h1x ?_ | refine h0x ?_ | refine h1m ?_ | refine h0o ?_ | refine h1a ?_ | refine h1e ?_ | refine h0l rfl ?_ | (refine gR 9 (p_e (q_b (r:=by exact h0q q_o)) (h:=h0a ?_))) | (refine gR 10 (p_e (by apply h0s; exact rfl; exact rfl; (focus (apply h2h Tryd.underlying45 sz_39; omega; omega; exact c_1))) (h:=q_e (by apply h1r (t:=39); exact rfl; exact c_13; kernel_rfl; kernel_rfl; exact sz_39; (with_reducible assumption); (with_reducible assumption)) ?_)) <;> (try refine h0b ?_; (refine h1b (t:=39) rfl Tryd.zeroValue39 ?_; intro nb hnb; (try simp only [Value.cells]))) <;> (try refine h0b ?_; (refine q_W ?_)) <;> (try refine h0a ?_)) | (refine gR 11 (q_e (q_L sz_39) ?_) <;> (try refine h0b ?_; (refine q_c 11 (c:=by apply hch) (h:=?_); rintro _ _ ⟨rfl, rfl⟩; (try simp only [zzE, zzF]))) <;> (try refine p_a (h:=h0a ?_))) | (refine gR 12 (p_m (h:=p_e (q_b (r:=by exact h1k q_o)) (h:=h0a ?_)))) | (refine gR 13 (p_m (h:=p_a (h:=h0a ?_)))))
       (refine h0z Tryd.results23 (.tmp rfl .nil) ?_)
       refine ⟨_, ⟨k1, k2, ?_, hM⟩, fun _ H => H.tail⟩
       rw [heq]; rfl
     ·have hke : h2w ((conds.map chkC).drop k) = 0 := firstE_nil (by rw [List.length_map]; omega)
      rw [hke] at heq
      repeat' (first | refine h0t ?_ | refine h0e ?_ | refine h1d ?_ | refine h1w ?_ | refine h1o ?_ | refine h1v ?_ | refine h2j ?_ | refine h0m rfl ?_ | (refine gR 9 (p_e (q_b (r:=by exact h0r q_o)) (h:=h0a ?_))))
      exact h1p () heq (by (focus (repeat (exact Sub.nil)))) (fun _ H => H)
    ·rintro - heq
     rw [heq]
     simp only [List.cons_append, List.nil_append]
     repeat' (first | refine h0t ?_ | refine h0e ?_ | refine h1e ?_ | (refine gR 15 (p_a (h:=h0a ?_))))
     (refine h0z Tryd.results23 (.tmp rfl .nil) ?_)
     exact ⟨_, ⟨k1, k2, rfl, hM⟩, fun _ H => H⟩
theorem take_fst {α : Type} (ps : List (α × Nat)) (k : Nat) (h : k < ps.length) : (ps.take (k + 1)).map (·.1) = (ps.take k).map (·.1) ++ [ps[k].1] := by
 rw [List.take_succ_eq_append_getElem h, List.map_append]; rfl
theorem granted_c {S w0 L} (nm : ByteArray) (df : Int) (hd : Nat) (hhd : hd < 65536) (r1 p1 q1 : Option Addr) (r2 r3 p2 p3 q2 q3 : Nat) (r kd : Nat) (h1 : r < 65536) (h2 : kd < 65536) :
  Fn Tryd.prog 39 #[.agg #[.string nm, .int .u32 df, .slice r1 r2 r3, .int .u16 (hd : Nat), .slice p1 p2 p3, .slice q1 q2 q3], .int .u16 (r : Nat), .int .u16 (kd : Nat)] S w0 L fun v L' => v = .bool (grantF hd r kd) ∧ L = L' := by
 have ha := fun (L : List Blk) => Rg.has_c (S:=S) (w0:=w0) (L:=L) hd r hhd h1
 have hb := fun (L : List Blk) => Rg.has_c (S:=S) (w0:=w0) (L:=L) kd r h2 h1
 unfold grantF
 generalize Rg.hasF hd r = x at *
 generalize Rg.hasF kd r = y at *
 by_cases hr : r = 0
 ·subst hr
  refine Fn3 Tryd.func39 Tryd.ntmps39 rfl rfl ?_
  repeat' (first | refine h0t ?_ | refine h0e ?_ | refine h1e ?_ | (refine gR 0 ?_ <;> (try refine h0b ?_; (refine h2c (t:=30) rfl rfl ?_; intro nb hnb; (try simp only [Value.cells]))) <;> (try refine p_a (h:=h0a ?_))) | (refine gR 1 (q_m ?_) <;> (try refine q_e (by exact q_b (r:=by refine h1g ?_; first | rfl | (with_reducible assumption) | (decide; done) | omega)) ?_) <;> (try refine p_m (h:=p_z (h:=p_z (h:=p_z (h:=p_z (h:=p_p (h:=p_m (h:=p_z (h:=p_z (h:=p_z (h:=p_p (h:=p_a (h:=h0a ?_)))))))))))))))
  (refine h0z Tryd.results39 (.tmp rfl .nil) ?_)
  exact ⟨_, ⟨rfl, rfl⟩, by intro w H; refine H.sub ?_; (try simp only [zzC, zzN]); repeat (first | exact List.Sublist.refl _ | refine List.Sublist.cons _ ?_)⟩
 ·rw [decide_eq_true hr, Bool.true_and]
  cases x with
  | false =>
   refine Fn3 Tryd.func39 Tryd.ntmps39 rfl rfl ?_
   repeat' (first | refine h0t ?_ | refine h0e ?_ | refine h1e ?_ | (refine gR 0 ?_ <;> (try refine h0b ?_; (refine h2c (t:=30) rfl rfl ?_; intro nb hnb; (try simp only [Value.cells]))) <;> (try refine p_a (h:=h0a ?_))) | (refine gR 1 (p_m (h:=p_e (q_b (r:=by exact h1k q_o)) (h:=p_m (h:=p_y (q_f fo_30_3) (h:=p_y q_l (h:=q_y (h0g rfl) ?_)))))) <;> (try refine h0b ?_; (refine h0f rfl rfl rfl ?_; (refine q_c 46 (c:=by apply ha) (h:=?_); rintro _ _ ⟨rfl, rfl⟩; (try simp only [zzE, zzF])))) <;> (try refine p_p (h:=p_m (h:=p_z (h:=p_z (h:=p_z (h:=p_p (h:=p_a (h:=h0a ?_))))))))))
   (refine h0z Tryd.results39 (.tmp rfl .nil) ?_)
   exact ⟨_, ⟨rfl, rfl⟩, by intro w H; refine H.sub ?_; (try simp only [zzC, zzN]); repeat (first | exact List.Sublist.refl _ | refine List.Sublist.cons _ ?_)⟩
  | true =>
   rw [Bool.true_and]
   refine Fn3 Tryd.func39 Tryd.ntmps39 rfl rfl ?_
   repeat' (first | refine h0t ?_ | refine h0e ?_ | refine h1e ?_ | (refine gR 0 ?_ <;> (try refine h0b ?_; (refine h2c (t:=30) rfl rfl ?_; intro nb hnb; (try simp only [Value.cells]))) <;> (try refine p_a (h:=h0a ?_))) | (refine gR 1 (p_m (h:=p_e (q_b (r:=by exact h1k q_o)) (h:=p_m (h:=p_y (q_f fo_30_3) (h:=p_y q_l (h:=q_y (h0g rfl) ?_)))))) <;> (try refine h0b ?_; (refine h0f rfl rfl rfl ?_; (refine q_c 46 (c:=by apply ha) (h:=?_); rintro _ _ ⟨rfl, rfl⟩; (try simp only [zzE, zzF])))) <;> (try refine p_p (h:=p_m (h:=p_y (h0g rfl) (h:=q_y (h0g rfl) ?_)))) <;> (try refine h0b ?_; (refine h0f rfl rfl rfl ?_; (refine q_c 46 (c:=by apply hb) (h:=?_); rintro _ _ ⟨rfl, rfl⟩; (try simp only [zzE, zzF])))) <;> (try refine p_p (h:=p_a (h:=h0a ?_)))))
   (refine h0z Tryd.results39 (.tmp rfl .nil) ?_)
   exact ⟨_, ⟨rfl, rfl⟩, by intro w H; refine H.sub ?_; (try simp only [zzC, zzN]); repeat (first | exact List.Sublist.refl _ | refine List.Sublist.cons _ ?_)⟩
theorem pthC_at (ps : List (List UInt8 × Nat)) (k : Nat) (h : k < ps.length) : ((pthC ps).drop (k * 2)).take 2 = [.string (mB8 ps[k].1), .int .u16 (ps[k].2 : Nat)] := by
 induction ps generalizing k with
 | nil => simp at h
 | cons c r ih =>
  cases k with
  | zero => rfl
  | succ k =>
   rw [show (k + 1) * 2 = k * 2 + 2 by omega]
   exact ih k (by simpa using h)
theorem chkPaths_at (hd : Nat) (ps : List (List UInt8 × Nat)) (k : Nat) (h : k < ps.length) : h2q hd (ps.drop k) ((ps.take k).map (·.1)) = if Pt.pathF ps[k].1 = false then 203 else if grantF hd ps[k].2 2047 = false then 204 else if ps[k].1 ∈ (ps.take k).map (·.1) then 206 else h2q hd (ps.drop (k + 1)) ((ps.take (k + 1)).map (·.1)) := by
 rw [take_fst ps k h, List.drop_eq_getElem_cons h]
 rfl
set_option maxHeartbeats 1000000 in
theorem paths_c {S w0 L} (nm : ByteArray) (df : Int) (hd : Nat) (hhd : hd < 65536) (r1 p1 q1 : Option Addr) (r2 r3 p2 p3 q2 q3 : Nat) (ps : List (List UInt8 × Nat)) (hps : ∀ p ∈ ps, p.1.length ≤ 1000000 ∧ p.2 < 65536) (hl : ps.length ≤ maxLen) (hN : p2 = ps.length) (hs : Sli L p1 ps.length 2 (pthC ps)) :
  Fn Tryd.prog 24 #[.agg #[.string nm, .int .u32 df, .slice r1 r2 r3, .int .u16 (hd : Nat), .slice p1 p2 p3, .slice q1 q2 q3]] S w0 L fun v L' => v = .int .i64 (h2q hd ps [] : Nat) ∧ L = L' := by
 subst hN
 refine Fn1 Tryd.func24 Tryd.ntmps24 rfl rfl ?_
 repeat' (first | (refine h2g (id:=0) ?_) | refine h0t ?_ | refine h0e ?_ | (refine gR 0 ?_ <;> (try refine h0b ?_; (refine h2c (t:=30) rfl rfl ?_; intro nb hnb; (try simp only [Value.cells]))) <;> (try refine p_a (h:=h0a ?_))) | (refine gR 1 ?_ <;> (try refine h0b ?_; (refine K1_makeMap rfl ?_; intro nb hnb)) <;> (try refine p_a (h:=h0a ?_))) | (refine gR 2 (p_e (q_f h3k) (h:=p_e q_l (h:=p_e (by apply h0h; exact rfl; exact (fun _ => BigFrame.builtin_len ..); apply h0j Tryd.underlying27; exact h3d) (h:=p_m (h:=h0a ?_)))))))
 refine ⟨?_⟩
 rename_i n1 h1
 obtain ⟨n3, rfl⟩ : ∃ x, x = nb := ⟨_, rfl⟩
 refine h0o ?_
 refine h2i (γ:=Nat × List (Value × Value)) (fun g => g.1 ≤ ps.length ∧ MapS keyT g.2 ((ps.take g.1).map (·.1)) ∧ h2q hd ps [] = h2q hd (ps.drop g.1) ((ps.take g.1).map (·.1))) (fun g => ps.length - g.1) (fun g => [(10, .int .i64 (g.1 : Nat))]) [(1, _), (3, _), (8, _), (9, _)]
  (fun g => mapB n3 g.2 :: ⟨true, n1, .cells #[.string nm, .int .u32 df, .slice r1 r2 r3, .int .u16 (hd : Nat), .slice p1 ps.length p3, .slice q1 q2 q3] 30 (0, 0)⟩ :: L) (0, []) (.cons rfl (.cons rfl (.cons rfl (.cons rfl .nil)))) ⟨Nat.zero_le _, MapS.nil _, rfl⟩ (by (focus (repeat (first | exact Sub.nil | refine Sub.cons rfl ?_)))) c_21 ?_
 rintro ⟨k, kvs⟩ ⟨hk, hM, heq⟩
 simp only [List.cons_append, List.nil_append]
 dsimp only at hk hM heq
 unfold maxLen at hl
 by_cases hlt : k < ps.length
 ·obtain ⟨j, q, bb, off, cs, T, fr, rfl, hj, hsz, hx⟩ := hs.elem hlt
  rw [pthC_at _ _ hlt] at hx
  obtain ⟨g1, g2⟩ := hps _ (List.getElem_mem hlt)
  rw [chkPaths_at hd ps k hlt] at heq
  have hpa := fun (L : List Blk) => pathL_c (S:=S) (w0:=w0) (L:=L) (mB8 ps[k].1) (by rw [h4c]; exact g1)
  rw [lB_mB8] at hpa
  have hgr := fun (L : List Blk) => granted_c (S:=S) (w0:=w0) (L:=L) nm df hd hhd r1 (some ⟨bb, off, none⟩) q1 r2 r3 ps.length p3 q2 q3 ps[k].2 2047 g2 (by omega)
  obtain ⟨rr, hl1, hl2, hl3⟩ := hM.look .string keyT keyT_same ps[k].1
  rw [← take_fst ps k hlt] at hl3
  clear hM g1
  generalize (ps.take k).map (·.1) = seen at *
  generalize Pt.pathF ps[k].1 = pf at *
  generalize grantF hd ps[k].2 2047 = gf at *
  generalize ps[k] = p at *
  obtain ⟨pt, pr⟩ := p
  dsimp only at *
  cases pf with
  | false =>
   rw [if_pos rfl] at heq
   repeat' (first | refine h0t ?_ | refine h0e ?_ | refine h1x ?_ | refine h0x ?_ | refine h1m ?_ | refine h0o ?_ | refine h1a ?_ | refine h1e ?_ | refine h0l rfl ?_ | (refine gR 3 (p_e (q_b (r:=by exact h0q q_o)) (h:=h0a ?_))) | (refine gR 4 (p_e (by apply h0s; exact rfl; exact rfl; (focus (apply h2h Tryd.underlying27 sz_49; omega; omega; exact c_1))) (h:=q_e (by apply h1r (t:=49); exact rfl; exact c_10; kernel_rfl; kernel_rfl; exact sz_49; (with_reducible assumption); (with_reducible assumption)) ?_)) <;> (try refine h0b ?_; (refine h1b (t:=49) rfl Tryd.zeroValue49 ?_; intro nb hnb; (try simp only [Value.cells]))) <;> (try refine h0b ?_; (refine q_W ?_)) <;> (try refine h0a ?_)) | (refine gR 5 (p_e (q_f fo_49_0) (h:=q_e q_l ?_)) <;> (try refine h0b ?_; (refine q_c 38 (c:=by apply hpa) (h:=?_); rintro _ _ ⟨rfl, rfl⟩; (try simp only [zzE, zzF]))) <;> (try refine p_e (by apply h3g; exact rfl; exact h1y) (h:=p_a (h:=h0a ?_)))) | (refine gR 6 (p_a (h:=h0a ?_))))
   (refine h0z Tryd.results24 (.tmp rfl .nil) ?_)
   exact ⟨_, ⟨by rw [heq]; rfl, rfl⟩, fun _ H => H.tail.tail.tail⟩
  | true =>
  rw [if_neg (fun h => by cases h)] at heq
  cases gf with
  | false =>
   rw [if_pos rfl] at heq
   repeat' (first | refine h0t ?_ | refine h0e ?_ | refine h1x ?_ | refine h0x ?_ | refine h1m ?_ | refine h0o ?_ | refine h1a ?_ | refine h1e ?_ | refine h0l rfl ?_ | refine h0m rfl ?_ | (refine gR 3 (p_e (q_b (r:=by exact h0q q_o)) (h:=h0a ?_))) | (refine gR 4 (p_e (by apply h0s; exact rfl; exact rfl; (focus (apply h2h Tryd.underlying27 sz_49; omega; omega; exact c_1))) (h:=q_e (by apply h1r (t:=49); exact rfl; exact c_10; kernel_rfl; kernel_rfl; exact sz_49; (with_reducible assumption); (with_reducible assumption)) ?_)) <;> (try refine h0b ?_; (refine h1b (t:=49) rfl Tryd.zeroValue49 ?_; intro nb hnb; (try simp only [Value.cells]))) <;> (try refine h0b ?_; (refine q_W ?_)) <;> (try refine h0a ?_)) | (refine gR 5 (p_e (q_f fo_49_0) (h:=q_e q_l ?_)) <;> (try refine h0b ?_; (refine q_c 38 (c:=by apply hpa) (h:=?_); rintro _ _ ⟨rfl, rfl⟩; (try simp only [zzE, zzF]))) <;> (try refine p_e (by apply h3g; exact rfl; exact h1f) (h:=p_a (h:=h0a ?_)))) | (refine gR 7 (p_e (q_L sz_30) (h:=p_e (q_f fo_49_1) (h:=q_e q_l ?_))) <;> (try refine h0b ?_; (refine q_c 39 (c:=by apply hgr) (h:=?_); rintro _ _ ⟨rfl, rfl⟩; (try simp only [zzE, zzF]))) <;> (try refine p_e (by apply h3g; exact rfl; exact h1y) (h:=p_a (h:=h0a ?_)))) | (refine gR 8 (p_a (h:=h0a ?_))))
   (refine h0z Tryd.results24 (.tmp rfl .nil) ?_)
   exact ⟨_, ⟨by rw [heq]; rfl, rfl⟩, fun _ H => H.tail.tail.tail⟩
  | true =>
   rw [if_neg (fun h => by cases h)] at heq
   by_cases hc : pt ∈ seen
   ·rw [if_pos hc] at heq
    replace hl2 := hl2.trans (congrArg Value.bool (@decide_eq_true _ (_) hc))
    repeat' (first | refine h0t ?_ | refine h0e ?_ | refine h1x ?_ | refine h0x ?_ | refine h1m ?_ | refine h0o ?_ | refine h1a ?_ | refine h1e ?_ | refine h0l rfl ?_ | refine h0m rfl ?_ | (refine gR 3 (p_e (q_b (r:=by exact h0q q_o)) (h:=h0a ?_))) | (refine gR 4 (p_e (by apply h0s; exact rfl; exact rfl; (focus (apply h2h Tryd.underlying27 sz_49; omega; omega; exact c_1))) (h:=q_e (by apply h1r (t:=49); exact rfl; exact c_10; kernel_rfl; kernel_rfl; exact sz_49; (with_reducible assumption); (with_reducible assumption)) ?_)) <;> (try refine h0b ?_; (refine h1b (t:=49) rfl Tryd.zeroValue49 ?_; intro nb hnb; (try simp only [Value.cells]))) <;> (try refine h0b ?_; (refine q_W ?_)) <;> (try refine h0a ?_)) | (refine gR 5 (p_e (q_f fo_49_0) (h:=q_e q_l ?_)) <;> (try refine h0b ?_; (refine q_c 38 (c:=by apply hpa) (h:=?_); rintro _ _ ⟨rfl, rfl⟩; (try simp only [zzE, zzF]))) <;> (try refine p_e (by apply h3g; exact rfl; exact h1f) (h:=p_a (h:=h0a ?_)))) | (refine gR 7 (p_e (q_L sz_30) (h:=p_e (q_f fo_49_1) (h:=q_e q_l ?_))) <;> (try refine h0b ?_; (refine q_c 39 (c:=by apply hgr) (h:=?_); rintro _ _ ⟨rfl, rfl⟩; (try simp only [zzE, zzF]))) <;> (try refine p_e (by apply h3g; exact rfl; exact h1f) (h:=p_a (h:=h0a ?_)))) | (refine gR 9 (p_m (h:=p_e (q_f fo_49_0) (h:=p_e q_l (h:=p_e (by apply h3q; exact rfl; exact rfl; exact c_23; exact Tryd.underlying99; exact Tryd.underlying9; exact trivial; exact Tryd.zeroValue4; (with_reducible assumption); (with_reducible assumption)) (h:=p_a (h:=h0a ?_))))))) | (refine gR 10 (p_a (h:=h0a ?_))))
    (refine h0z Tryd.results24 (.tmp rfl .nil) ?_)
    exact ⟨_, ⟨by rw [heq]; rfl, rfl⟩, fun _ H => H.tail.tail.tail⟩
   ·rw [if_neg hc] at heq
    replace hl2 := hl2.trans (congrArg Value.bool (@decide_eq_false _ (_) hc))
    repeat' (first | refine h0t ?_ | refine h0e ?_ | refine h1d ?_ | refine h1h ?_ | refine h0o ?_ | refine h1a ?_ | refine h0l rfl ?_ | refine h0m rfl ?_ | (refine gR 3 (p_e (q_b (r:=by exact h0q q_o)) (h:=h0a ?_))) | (refine gR 4 (p_e (by apply h0s; exact rfl; exact rfl; (focus (apply h2h Tryd.underlying27 sz_49; omega; omega; exact c_1))) (h:=q_e (by apply h1r (t:=49); exact rfl; exact c_10; kernel_rfl; kernel_rfl; exact sz_49; (with_reducible assumption); (with_reducible assumption)) ?_)) <;> (try refine h0b ?_; (refine h1b (t:=49) rfl Tryd.zeroValue49 ?_; intro nb hnb; (try simp only [Value.cells]))) <;> (try refine h0b ?_; (refine q_W ?_)) <;> (try refine h0a ?_)) | (refine gR 5 (p_e (q_f fo_49_0) (h:=q_e q_l ?_)) <;> (try refine h0b ?_; (refine q_c 38 (c:=by apply hpa) (h:=?_); rintro _ _ ⟨rfl, rfl⟩; (try simp only [zzE, zzF]))) <;> (try refine p_e (by apply h3g; exact rfl; exact h1f) (h:=p_a (h:=h0a ?_)))) | (refine gR 7 (p_e (q_L sz_30) (h:=p_e (q_f fo_49_1) (h:=q_e q_l ?_))) <;> (try refine h0b ?_; (refine q_c 39 (c:=by apply hgr) (h:=?_); rintro _ _ ⟨rfl, rfl⟩; (try simp only [zzE, zzF]))) <;> (try refine p_e (by apply h3g; exact rfl; exact h1f) (h:=p_a (h:=h0a ?_)))) | (refine gR 9 (p_m (h:=p_e (q_f fo_49_0) (h:=p_e q_l (h:=p_e (by apply h3q; exact rfl; exact rfl; exact c_23; exact Tryd.underlying99; exact Tryd.underlying9; exact trivial; exact Tryd.zeroValue4; (with_reducible assumption); (with_reducible assumption)) (h:=p_a (h:=h0a ?_))))))) | (refine gR 11 (p_m (h:=p_e (q_f fo_49_0) (h:=q_e q_l ?_))) <;> (try refine h0b ?_; (apply h4g; exact rfl; exact rfl; exact rfl; exact c_23; exact Tryd.underlying99; exact Tryd.underlying9; exact trivial; (with_reducible assumption); (try simp only [List.set_cons_succ]); (try simp only [List.set_cons_zero]))) <;> (try refine h0a ?_)) | (refine gR 12 ?_ <;> (try refine q_e (q_b (r:=by apply h1q; exact c_4; (focus (refine IntWalk.i64_in _ ?_; omega)))) ?_) <;> (try refine p_m (h:=h0a ?_))))
    exact h1p (k + 1, _) ⟨⟨by show k + 1 ≤ ps.length; omega, hl3, heq⟩, by show ps.length - (k + 1) < ps.length - k; omega⟩ (by (focus (repeat (first | exact Sub.nil | refine Sub.cons rfl ?_)))) (fun _ H => H.tail)
 ·have hke : h2q hd (ps.drop k) ((ps.take k).map (·.1)) = 0 := by rw [List.drop_eq_nil_of_le (by omega)]; rfl
  rw [hke] at heq
  rw [heq]
  repeat' (first | refine h0t ?_ | refine h0e ?_ | refine h1w ?_ | refine h1o ?_ | refine h1v ?_ | refine h2j ?_ | refine h1e ?_ | refine h0m rfl ?_ | (refine gR 3 (p_e (q_b (r:=by exact h0r q_o)) (h:=h0a ?_))) | (refine gR 13 (p_a (h:=h0a ?_))))
  (refine h0z Tryd.results24 (.tmp rfl .nil) ?_)
  exact ⟨_, ⟨rfl, rfl⟩, fun _ H => H.tail.tail⟩
theorem porC_at (ps : List (Nat × Nat)) (k : Nat) (h : k < ps.length) : ((porC ps).drop (k * 2)).take 2 = [.int .u16 (ps[k].1 : Nat), .int .u16 (ps[k].2 : Nat)] := by
 induction ps generalizing k with
 | nil => simp at h
 | cons c r ih =>
  cases k with
  | zero => rfl
  | succ k =>
   rw [show (k + 1) * 2 = k * 2 + 2 by omega]
   exact ih k (by simpa using h)
theorem chkPorts_at (hd : Nat) (ps : List (Nat × Nat)) (k : Nat) (h : k < ps.length) : h2v hd (ps.drop k) ((ps.take k).map (·.1)) =  if grantF hd ps[k].2 49152 = false then 204 else if ps[k].1 ∈ (ps.take k).map (·.1) then 206 else h2v hd (ps.drop (k + 1)) ((ps.take (k + 1)).map (·.1)) := by
 rw [take_fst ps k h, List.drop_eq_getElem_cons h]
 rfl
set_option maxHeartbeats 1000000 in
theorem ports_c {S w0 L} (nm : ByteArray) (df : Int) (hd : Nat) (hhd : hd < 65536) (r1 p1 q1 : Option Addr) (r2 r3 p2 p3 q2 q3 : Nat) (ps : List (Nat × Nat)) (hps : ∀ p ∈ ps, p.1 < 65536 ∧ p.2 < 65536) (hl : ps.length ≤ maxLen) (hN : q2 = ps.length) (hs : Sli L q1 ps.length 2 (porC ps)) :
  Fn Tryd.prog 25 #[.agg #[.string nm, .int .u32 df, .slice r1 r2 r3, .int .u16 (hd : Nat), .slice p1 p2 p3, .slice q1 q2 q3]] S w0 L fun v L' => v = .int .i64 (h2v hd ps [] : Nat) ∧ L = L' := by
 subst hN
 refine Fn1 Tryd.func25 Tryd.ntmps25 rfl rfl ?_
 repeat' (first | (refine h2g (id:=0) ?_) | refine h0t ?_ | refine h0e ?_ | (refine gR 0 ?_ <;> (try refine h0b ?_; (refine h2c (t:=30) rfl rfl ?_; intro nb hnb; (try simp only [Value.cells]))) <;> (try refine p_a (h:=h0a ?_))) | (refine gR 1 ?_ <;> (try refine h0b ?_; (refine K1_makeMap rfl ?_; intro nb hnb)) <;> (try refine p_a (h:=h0a ?_))) | (refine gR 2 (p_e (q_f h4m) (h:=p_e q_l (h:=p_e (by apply h0h; exact rfl; exact (fun _ => BigFrame.builtin_len ..); apply h0j Tryd.underlying28; exact h3d) (h:=p_m (h:=h0a ?_)))))))
 refine ⟨?_⟩
 rename_i n1 h1
 obtain ⟨n3, rfl⟩ : ∃ x, x = nb := ⟨_, rfl⟩
 refine h0o ?_
 refine h2i (γ:=Nat × List (Value × Value)) (fun g => g.1 ≤ ps.length ∧ MapS keyP g.2 ((ps.take g.1).map (·.1)) ∧ h2v hd ps [] = h2v hd (ps.drop g.1) ((ps.take g.1).map (·.1))) (fun g => ps.length - g.1) (fun g => [(10, .int .i64 (g.1 : Nat))]) [(1, _), (3, _), (8, _), (9, _)]
  (fun g => mapB n3 g.2 :: ⟨true, n1, .cells #[.string nm, .int .u32 df, .slice r1 r2 r3, .int .u16 (hd : Nat), .slice p1 p2 p3, .slice q1 ps.length q3] 30 (0, 0)⟩ :: L) (0, []) (.cons rfl (.cons rfl (.cons rfl (.cons rfl .nil)))) ⟨Nat.zero_le _, MapS.nil _, rfl⟩ (by (focus (repeat (first | exact Sub.nil | refine Sub.cons rfl ?_)))) c_21 ?_
 rintro ⟨k, kvs⟩ ⟨hk, hM, heq⟩
 simp only [List.cons_append, List.nil_append]
 dsimp only at hk hM heq
 unfold maxLen at hl
 by_cases hlt : k < ps.length
 ·obtain ⟨j, q, bb, off, cs, T, fr, rfl, hj, hsz, hx⟩ := hs.elem hlt
  rw [porC_at _ _ hlt] at hx
  obtain ⟨g1, g2⟩ := hps _ (List.getElem_mem hlt)
  rw [chkPorts_at hd ps k hlt] at heq
  have hgr := fun (L : List Blk) => granted_c (S:=S) (w0:=w0) (L:=L) nm df hd hhd r1 p1 (some ⟨bb, off, none⟩) r2 r3 p2 p3 ps.length q3 ps[k].2 49152 g2 (by omega)
  obtain ⟨rr, hl1, hl2, hl3⟩ := hM.look (.int .u16) keyP keyP_same ps[k].1
  rw [← take_fst ps k hlt] at hl3
  clear hM g1
  generalize (ps.take k).map (·.1) = seen at *
  generalize grantF hd ps[k].2 49152 = gf at *
  generalize ps[k] = p at *
  obtain ⟨pt, pr⟩ := p
  dsimp only at *
  cases gf with
  | false =>
   rw [if_pos rfl] at heq
   repeat' (first | refine h0t ?_ | refine h0e ?_ | refine h1x ?_ | refine h0x ?_ | refine h1m ?_ | refine h0o ?_ | refine h1a ?_ | refine h1e ?_ | refine h0l rfl ?_ | (refine gR 3 (p_e (q_b (r:=by exact h0q q_o)) (h:=h0a ?_))) | (refine gR 4 (p_e (by apply h0s; exact rfl; exact rfl; (focus (apply h2h Tryd.underlying28 sz_51; omega; omega; exact c_1))) (h:=q_e (by apply h1r (t:=51); exact rfl; exact c_10; kernel_rfl; kernel_rfl; exact sz_51; (with_reducible assumption); (with_reducible assumption)) ?_)) <;> (try refine h0b ?_; (refine h1b (t:=51) rfl Tryd.zeroValue51 ?_; intro nb hnb; (try simp only [Value.cells]))) <;> (try refine h0b ?_; (refine q_W ?_)) <;> (try refine h0a ?_)) | (refine gR 5 (p_e (q_L sz_30) (h:=p_e (q_f fo_51_1) (h:=q_e q_l ?_))) <;> (try refine h0b ?_; (refine q_c 39 (c:=by apply hgr) (h:=?_); rintro _ _ ⟨rfl, rfl⟩; (try simp only [zzE, zzF]))) <;> (try refine p_e (by apply h3g; exact rfl; exact h1y) (h:=p_a (h:=h0a ?_)))) | (refine gR 6 (p_a (h:=h0a ?_))))
   (refine h0z Tryd.results25 (.tmp rfl .nil) ?_)
   exact ⟨_, ⟨by rw [heq]; rfl, rfl⟩, fun _ H => H.tail.tail.tail⟩
  | true =>
   rw [if_neg (fun h => by cases h)] at heq
   by_cases hc : pt ∈ seen
   ·rw [if_pos hc] at heq
    replace hl2 := hl2.trans (congrArg Value.bool (@decide_eq_true _ (_) hc))
    repeat' (first | refine h0t ?_ | refine h0e ?_ | refine h1x ?_ | refine h0x ?_ | refine h1m ?_ | refine h0o ?_ | refine h1a ?_ | refine h1e ?_ | refine h0l rfl ?_ | refine h0m rfl ?_ | (refine gR 3 (p_e (q_b (r:=by exact h0q q_o)) (h:=h0a ?_))) | (refine gR 4 (p_e (by apply h0s; exact rfl; exact rfl; (focus (apply h2h Tryd.underlying28 sz_51; omega; omega; exact c_1))) (h:=q_e (by apply h1r (t:=51); exact rfl; exact c_10; kernel_rfl; kernel_rfl; exact sz_51; (with_reducible assumption); (with_reducible assumption)) ?_)) <;> (try refine h0b ?_; (refine h1b (t:=51) rfl Tryd.zeroValue51 ?_; intro nb hnb; (try simp only [Value.cells]))) <;> (try refine h0b ?_; (refine q_W ?_)) <;> (try refine h0a ?_)) | (refine gR 5 (p_e (q_L sz_30) (h:=p_e (q_f fo_51_1) (h:=q_e q_l ?_))) <;> (try refine h0b ?_; (refine q_c 39 (c:=by apply hgr) (h:=?_); rintro _ _ ⟨rfl, rfl⟩; (try simp only [zzE, zzF]))) <;> (try refine p_e (by apply h3g; exact rfl; exact h1f) (h:=p_a (h:=h0a ?_)))) | (refine gR 7 (p_m (h:=p_e (q_f fo_51_0) (h:=p_e q_l (h:=p_e (by apply h3q; exact rfl; exact rfl; exact c_23; exact Tryd.underlying102; exact Tryd.underlying25; exact rfl; exact Tryd.zeroValue4; (with_reducible assumption); (with_reducible assumption)) (h:=p_a (h:=h0a ?_))))))) | (refine gR 8 (p_a (h:=h0a ?_))))
    (refine h0z Tryd.results25 (.tmp rfl .nil) ?_)
    exact ⟨_, ⟨by rw [heq]; rfl, rfl⟩, fun _ H => H.tail.tail.tail⟩
   ·rw [if_neg hc] at heq
    replace hl2 := hl2.trans (congrArg Value.bool (@decide_eq_false _ (_) hc))
    repeat' (first | refine h0t ?_ | refine h0e ?_ | refine h1d ?_ | refine h1h ?_ | refine h0o ?_ | refine h1a ?_ | refine h0l rfl ?_ | refine h0m rfl ?_ | (refine gR 3 (p_e (q_b (r:=by exact h0q q_o)) (h:=h0a ?_))) | (refine gR 4 (p_e (by apply h0s; exact rfl; exact rfl; (focus (apply h2h Tryd.underlying28 sz_51; omega; omega; exact c_1))) (h:=q_e (by apply h1r (t:=51); exact rfl; exact c_10; kernel_rfl; kernel_rfl; exact sz_51; (with_reducible assumption); (with_reducible assumption)) ?_)) <;> (try refine h0b ?_; (refine h1b (t:=51) rfl Tryd.zeroValue51 ?_; intro nb hnb; (try simp only [Value.cells]))) <;> (try refine h0b ?_; (refine q_W ?_)) <;> (try refine h0a ?_)) | (refine gR 5 (p_e (q_L sz_30) (h:=p_e (q_f fo_51_1) (h:=q_e q_l ?_))) <;> (try refine h0b ?_; (refine q_c 39 (c:=by apply hgr) (h:=?_); rintro _ _ ⟨rfl, rfl⟩; (try simp only [zzE, zzF]))) <;> (try refine p_e (by apply h3g; exact rfl; exact h1f) (h:=p_a (h:=h0a ?_)))) | (refine gR 7 (p_m (h:=p_e (q_f fo_51_0) (h:=p_e q_l (h:=p_e (by apply h3q; exact rfl; exact rfl; exact c_23; exact Tryd.underlying102; exact Tryd.underlying25; exact rfl; exact Tryd.zeroValue4; (with_reducible assumption); (with_reducible assumption)) (h:=p_a (h:=h0a ?_))))))) | (refine gR 9 (p_m (h:=p_e (q_f fo_51_0) (h:=q_e q_l ?_))) <;> (try refine h0b ?_; (apply h4g; exact rfl; exact rfl; exact rfl; exact c_23; exact Tryd.underlying102; exact Tryd.underlying25; exact rfl; (with_reducible assumption); (try simp only [List.set_cons_succ]); (try simp only [List.set_cons_zero]))) <;> (try refine h0a ?_)) | (refine gR 10 ?_ <;> (try refine q_e (q_b (r:=by apply h1q; exact c_4; (focus (refine IntWalk.i64_in _ ?_; omega)))) ?_) <;> (try refine p_m (h:=h0a ?_))))
    exact h1p (k + 1, _) ⟨⟨by show k + 1 ≤ ps.length; omega, hl3, heq⟩, by show ps.length - (k + 1) < ps.length - k; omega⟩ (by (focus (repeat (first | exact Sub.nil | refine Sub.cons rfl ?_)))) (fun _ H => H.tail)
 ·have hke : h2v hd (ps.drop k) ((ps.take k).map (·.1)) = 0 := by rw [List.drop_eq_nil_of_le (by omega)]; rfl
  rw [hke] at heq
  rw [heq]
  repeat' (first | refine h0t ?_ | refine h0e ?_ | refine h1w ?_ | refine h1o ?_ | refine h1v ?_ | refine h2j ?_ | refine h1e ?_ | refine h0m rfl ?_ | (refine gR 3 (p_e (q_b (r:=by exact h0r q_o)) (h:=h0a ?_))) | (refine gR 11 (p_a (h:=h0a ?_))))
  (refine h0z Tryd.results25 (.tmp rfl .nil) ?_)
  exact ⟨_, ⟨rfl, rfl⟩, fun _ H => H.tail.tail⟩
set_option maxHeartbeats 2000000 in
theorem check_c {S w0 L} (P : GPol) (h : P.ok) (vr vp vq : Value) (hS : PolS L P vr vp vq) (hr : P.rules.length ≤ 1000) (ct m1 m2 n : Nat) (hn : n ≤ 90000) :
  Fn Tryd.prog 8 #[.agg (polG P vr vp vq).toArray, .pointer (some ⟨ct, 0, none⟩)] S w0 (tbS ct m1 m2 n ++ L) fun v L' => ∃ m1' m2' n', v = .int .i64 (chkG P : Nat) ∧ n' ≤ n + P.rules.length ∧ tbS ct m1' m2' n' ++ L = L' := by
 obtain ⟨⟨ra, rc, cz, e1, hrs, hrg⟩, ⟨pa, pc, e2, hps⟩, ⟨qa, qc, e3, hqs⟩, -, hl2, hl3⟩ := hS
 subst e1 e2 e3
 have hwo := fun (L : List Blk) => Wd.word_c (S:=S) (w0:=w0) (L:=L) (mB8 P.nm) (by rw [h4c]; exact h.nm)
 have hac := fun (L : List Blk) => actok_c (S:=S) (w0:=w0) (L:=L) P.df h.df
 have hva := fun (L : List Blk) => Rg.valid_c (S:=S) (w0:=w0) (L:=L) P.hd h.hd
 have hpa := fun (L : List Blk) hs => paths_c (S:=S) (w0:=w0) (L:=L) (mB8 P.nm) P.df P.hd h.hd ra pa qa P.rules.length rc P.paths.length pc P.ports.length qc P.paths h.paths hl2 rfl hs
 have hpo := fun (L : List Blk) hs => ports_c (S:=S) (w0:=w0) (L:=L) (mB8 P.nm) P.df P.hd h.hd ra pa qa P.rules.length rc P.paths.length pc P.ports.length qc P.ports h.ports hl3 rfl hs
 have hru := h.rules
 have hG : chkG P = if Wd.wordF (mB8 P.nm) = false then 202 else if h4b P.df = false then 210 else if 64 < P.rules.length ∨ 32 < P.paths.length ∨ 32 < P.ports.length then 205 else if decide (h3e (P.hd : Int) 51199 = 0) = false then 204 else if h2w (P.rules.map chkR) ≠ 0 then h2w (P.rules.map chkR) else if h2q P.hd P.paths [] ≠ 0 then h2q P.hd P.paths [] else h2v P.hd P.ports [] := by
  unfold chkG
  by_cases hx : h3e (P.hd : Int) 51199 = 0 <;> simp [hx]
 rw [hG]
 clear hG h
 obtain ⟨nm, df, rules, hd, paths, ports⟩ := P
 dsimp only [polG] at *
 generalize Wd.wordF (mB8 nm) = wf at *
 generalize h4b df = ak at *
 generalize decide (h3e (hd : Int) 51199 = 0) = vf at *
 unfold maxLen at hl2 hl3
 cases wf with
 | false =>
  rw [if_pos rfl]
  clear hpa hpo
  refine Fn2 Tryd.func8 Tryd.ntmps8 rfl rfl ?_
  repeat' (first | refine h0t ?_ | refine h0e ?_ | refine h0x ?_ | refine h1m ?_ | refine h0o ?_ | refine h1e ?_ | refine h0l rfl ?_ | refine h0m rfl ?_ | (refine gR 0 ?_ <;> (try refine h0b ?_; (refine h2c (t:=30) rfl rfl ?_; intro nb hnb; (try simp only [Value.cells]))) <;> (try refine p_a (h:=h0a ?_))) | (refine gR 1 (p_m (h:=p_e (q_b (r:=by exact h4j Tryd.underlying42)) (h:=p_a (h:=h0a ?_))))) | (refine gR 3 (p_e (q_f fo_30_0) (h:=q_e q_l ?_)) <;> (try refine h0b ?_; (refine q_c 20 (c:=by apply hwo) (h:=?_); rintro _ _ ⟨rfl, rfl⟩; (try simp only [zzE, zzF]))) <;> (try refine p_e (by apply h3g; exact rfl; exact h1y) (h:=p_a (h:=h0a ?_)))) | (refine gR 4 (p_a (h:=h0a ?_))))
  (refine h0z Tryd.results8 (.tmp rfl .nil) ?_)
  exact ⟨_, ⟨m1, m2, n, rfl, by omega, rfl⟩, fun _ H => H.tail⟩
 | true =>
 rw [if_neg (fun h => by cases h)]
 cases ak with
 | false =>
  rw [if_pos rfl]
  clear hpa hpo
  refine Fn2 Tryd.func8 Tryd.ntmps8 rfl rfl ?_
  repeat' (first | refine h0t ?_ | refine h0e ?_ | refine h0x ?_ | refine h1m ?_ | refine h0o ?_ | refine h1e ?_ | refine h0l rfl ?_ | refine h0m rfl ?_ | (refine gR 0 ?_ <;> (try refine h0b ?_; (refine h2c (t:=30) rfl rfl ?_; intro nb hnb; (try simp only [Value.cells]))) <;> (try refine p_a (h:=h0a ?_))) | (refine gR 1 (p_m (h:=p_e (q_b (r:=by exact h4j Tryd.underlying42)) (h:=p_a (h:=h0a ?_))))) | (refine gR 3 (p_e (q_f fo_30_0) (h:=q_e q_l ?_)) <;> (try refine h0b ?_; (refine q_c 20 (c:=by apply hwo) (h:=?_); rintro _ _ ⟨rfl, rfl⟩; (try simp only [zzE, zzF]))) <;> (try refine p_e (by apply h3g; exact rfl; exact h1f) (h:=p_a (h:=h0a ?_)))) | (refine gR 5 (p_e (q_f fo_30_1) (h:=q_e q_l ?_)) <;> (try refine h0b ?_; (refine q_c 21 (c:=by apply hac) (h:=?_); rintro _ _ ⟨rfl, rfl⟩; (try simp only [zzE, zzF]))) <;> (try refine p_e (by apply h3g; exact rfl; exact h1y) (h:=p_a (h:=h0a ?_)))) | (refine gR 6 (p_a (h:=h0a ?_))))
  (refine h0z Tryd.results8 (.tmp rfl .nil) ?_)
  exact ⟨_, ⟨m1, m2, n, rfl, by omega, rfl⟩, fun _ H => H.tail⟩
 | true =>
 rw [if_neg (fun h => by cases h)]
 by_cases hb : 64 < rules.length ∨ 32 < paths.length ∨ 32 < ports.length
 ·rw [if_pos hb]
  clear hpa hpo
  by_cases b1 : 64 < rules.length
  ·refine Fn2 Tryd.func8 Tryd.ntmps8 rfl rfl ?_
   repeat' (first | refine h0t ?_ | refine h0e ?_ | refine h0x ?_ | refine h1m ?_ | refine h0o ?_ | refine h1e ?_ | refine h0l rfl ?_ | refine h0m rfl ?_ | (refine gR 0 ?_ <;> (try refine h0b ?_; (refine h2c (t:=30) rfl rfl ?_; intro nb hnb; (try simp only [Value.cells]))) <;> (try refine p_a (h:=h0a ?_))) | (refine gR 1 (p_m (h:=p_e (q_b (r:=by exact h4j Tryd.underlying42)) (h:=p_a (h:=h0a ?_))))) | (refine gR 3 (p_e (q_f fo_30_0) (h:=q_e q_l ?_)) <;> (try refine h0b ?_; (refine q_c 20 (c:=by apply hwo) (h:=?_); rintro _ _ ⟨rfl, rfl⟩; (try simp only [zzE, zzF]))) <;> (try refine p_e (by apply h3g; exact rfl; exact h1f) (h:=p_a (h:=h0a ?_)))) | (refine gR 5 (p_e (q_f fo_30_1) (h:=q_e q_l ?_)) <;> (try refine h0b ?_; (refine q_c 21 (c:=by apply hac) (h:=?_); rintro _ _ ⟨rfl, rfl⟩; (try simp only [zzE, zzF]))) <;> (try refine p_e (by apply h3g; exact rfl; exact h1f) (h:=p_a (h:=h0a ?_)))) | (refine gR 7 (p_e (q_f h2n) (h:=p_e q_l (h:=p_e (by apply h0h; exact rfl; exact (fun _ => BigFrame.builtin_len ..); apply h0j Tryd.underlying24; exact h3d) (h:=p_e (q_b (r:=by exact h1c q_o)) (h:=p_m (h:=p_z (h:=p_z (h:=p_z (h:=p_z (h:=p_p (h:=p_m (h:=p_z (h:=p_z (h:=p_z (h:=p_z (h:=p_p (h:=p_a (h:=h0a ?_))))))))))))))))))) | (refine gR 8 (p_a (h:=h0a ?_))))
   (refine h0z Tryd.results8 (.tmp rfl .nil) ?_)
   exact ⟨_, ⟨m1, m2, n, rfl, by omega, rfl⟩, fun _ H => H.tail⟩
  by_cases b2 : 32 < paths.length
  ·refine Fn2 Tryd.func8 Tryd.ntmps8 rfl rfl ?_
   repeat' (first | refine h0t ?_ | refine h0e ?_ | refine h0x ?_ | refine h1m ?_ | refine h0o ?_ | refine h1e ?_ | refine h0l rfl ?_ | refine h0m rfl ?_ | (refine gR 0 ?_ <;> (try refine h0b ?_; (refine h2c (t:=30) rfl rfl ?_; intro nb hnb; (try simp only [Value.cells]))) <;> (try refine p_a (h:=h0a ?_))) | (refine gR 1 (p_m (h:=p_e (q_b (r:=by exact h4j Tryd.underlying42)) (h:=p_a (h:=h0a ?_))))) | (refine gR 3 (p_e (q_f fo_30_0) (h:=q_e q_l ?_)) <;> (try refine h0b ?_; (refine q_c 20 (c:=by apply hwo) (h:=?_); rintro _ _ ⟨rfl, rfl⟩; (try simp only [zzE, zzF]))) <;> (try refine p_e (by apply h3g; exact rfl; exact h1f) (h:=p_a (h:=h0a ?_)))) | (refine gR 5 (p_e (q_f fo_30_1) (h:=q_e q_l ?_)) <;> (try refine h0b ?_; (refine q_c 21 (c:=by apply hac) (h:=?_); rintro _ _ ⟨rfl, rfl⟩; (try simp only [zzE, zzF]))) <;> (try refine p_e (by apply h3g; exact rfl; exact h1f) (h:=p_a (h:=h0a ?_)))) | (refine gR 7 (p_e (q_f h2n) (h:=p_e q_l (h:=p_e (by apply h0h; exact rfl; exact (fun _ => BigFrame.builtin_len ..); apply h0j Tryd.underlying24; exact h3d) (h:=p_e (q_b (r:=by exact h0u q_o)) (h:=p_m (h:=p_y (q_f h3k) (h:=p_y q_l (h:=p_y (by apply h0h; exact rfl; exact (fun _ => BigFrame.builtin_len ..); apply h0j Tryd.underlying27; exact h3d) (h:=p_y (q_b (r:=by exact h1c q_o)) (h:=p_p (h:=p_m (h:=p_z (h:=p_z (h:=p_z (h:=p_z (h:=p_p (h:=p_a (h:=h0a ?_))))))))))))))))))) | (refine gR 8 (p_a (h:=h0a ?_))))
   (refine h0z Tryd.results8 (.tmp rfl .nil) ?_)
   exact ⟨_, ⟨m1, m2, n, rfl, by omega, rfl⟩, fun _ H => H.tail⟩
  ·have b3 : 32 < ports.length := by omega
   refine Fn2 Tryd.func8 Tryd.ntmps8 rfl rfl ?_
   repeat' (first | refine h0t ?_ | refine h0e ?_ | refine h0x ?_ | refine h1m ?_ | refine h0o ?_ | refine h1e ?_ | refine h0l rfl ?_ | refine h0m rfl ?_ | (refine gR 0 ?_ <;> (try refine h0b ?_; (refine h2c (t:=30) rfl rfl ?_; intro nb hnb; (try simp only [Value.cells]))) <;> (try refine p_a (h:=h0a ?_))) | (refine gR 1 (p_m (h:=p_e (q_b (r:=by exact h4j Tryd.underlying42)) (h:=p_a (h:=h0a ?_))))) | (refine gR 3 (p_e (q_f fo_30_0) (h:=q_e q_l ?_)) <;> (try refine h0b ?_; (refine q_c 20 (c:=by apply hwo) (h:=?_); rintro _ _ ⟨rfl, rfl⟩; (try simp only [zzE, zzF]))) <;> (try refine p_e (by apply h3g; exact rfl; exact h1f) (h:=p_a (h:=h0a ?_)))) | (refine gR 5 (p_e (q_f fo_30_1) (h:=q_e q_l ?_)) <;> (try refine h0b ?_; (refine q_c 21 (c:=by apply hac) (h:=?_); rintro _ _ ⟨rfl, rfl⟩; (try simp only [zzE, zzF]))) <;> (try refine p_e (by apply h3g; exact rfl; exact h1f) (h:=p_a (h:=h0a ?_)))) | (refine gR 7 (p_e (q_f h2n) (h:=p_e q_l (h:=p_e (by apply h0h; exact rfl; exact (fun _ => BigFrame.builtin_len ..); apply h0j Tryd.underlying24; exact h3d) (h:=p_e (q_b (r:=by exact h0u q_o)) (h:=p_m (h:=p_y (q_f h3k) (h:=p_y q_l (h:=p_y (by apply h0h; exact rfl; exact (fun _ => BigFrame.builtin_len ..); apply h0j Tryd.underlying27; exact h3d) (h:=p_y (q_b (r:=by exact h0u q_o)) (h:=p_p (h:=p_m (h:=p_y (q_f h4m) (h:=p_y q_l (h:=p_y (by apply h0h; exact rfl; exact (fun _ => BigFrame.builtin_len ..); apply h0j Tryd.underlying28; exact h3d) (h:=p_y (q_b (r:=by exact h1c q_o)) (h:=p_p (h:=p_a (h:=h0a ?_))))))))))))))))))) | (refine gR 8 (p_a (h:=h0a ?_))))
   (refine h0z Tryd.results8 (.tmp rfl .nil) ?_)
   exact ⟨_, ⟨m1, m2, n, rfl, by omega, rfl⟩, fun _ H => H.tail⟩
 rw [if_neg hb]
 have b1 : ¬ 64 < rules.length := fun h => hb (Or.inl h)
 have b2 : ¬ 32 < paths.length := fun h => hb (Or.inr (Or.inl h))
 have b3 : ¬ 32 < ports.length := fun h => hb (Or.inr (Or.inr h))
 clear hb
 cases vf with
 | false =>
  rw [if_pos rfl]
  clear hpa hpo
  refine Fn2 Tryd.func8 Tryd.ntmps8 rfl rfl ?_
  repeat' (first | refine h0t ?_ | refine h0e ?_ | refine h0x ?_ | refine h1m ?_ | refine h0o ?_ | refine h1e ?_ | refine h0l rfl ?_ | refine h0m rfl ?_ | (refine gR 0 ?_ <;> (try refine h0b ?_; (refine h2c (t:=30) rfl rfl ?_; intro nb hnb; (try simp only [Value.cells]))) <;> (try refine p_a (h:=h0a ?_))) | (refine gR 1 (p_m (h:=p_e (q_b (r:=by exact h4j Tryd.underlying42)) (h:=p_a (h:=h0a ?_))))) | (refine gR 3 (p_e (q_f fo_30_0) (h:=q_e q_l ?_)) <;> (try refine h0b ?_; (refine q_c 20 (c:=by apply hwo) (h:=?_); rintro _ _ ⟨rfl, rfl⟩; (try simp only [zzE, zzF]))) <;> (try refine p_e (by apply h3g; exact rfl; exact h1f) (h:=p_a (h:=h0a ?_)))) | (refine gR 5 (p_e (q_f fo_30_1) (h:=q_e q_l ?_)) <;> (try refine h0b ?_; (refine q_c 21 (c:=by apply hac) (h:=?_); rintro _ _ ⟨rfl, rfl⟩; (try simp only [zzE, zzF]))) <;> (try refine p_e (by apply h3g; exact rfl; exact h1f) (h:=p_a (h:=h0a ?_)))) | (refine gR 7 (p_e (q_f h2n) (h:=p_e q_l (h:=p_e (by apply h0h; exact rfl; exact (fun _ => BigFrame.builtin_len ..); apply h0j Tryd.underlying24; exact h3d) (h:=p_e (q_b (r:=by exact h0u q_o)) (h:=p_m (h:=p_y (q_f h3k) (h:=p_y q_l (h:=p_y (by apply h0h; exact rfl; exact (fun _ => BigFrame.builtin_len ..); apply h0j Tryd.underlying27; exact h3d) (h:=p_y (q_b (r:=by exact h0u q_o)) (h:=p_p (h:=p_m (h:=p_y (q_f h4m) (h:=p_y q_l (h:=p_y (by apply h0h; exact rfl; exact (fun _ => BigFrame.builtin_len ..); apply h0j Tryd.underlying28; exact h3d) (h:=p_y (q_b (r:=by exact h0u q_o)) (h:=p_p (h:=p_a (h:=h0a ?_))))))))))))))))))) | (refine gR 9 (p_e (q_f fo_30_3) (h:=q_e q_l ?_)) <;> (try refine h0b ?_; (refine q_c 22 (c:=by apply hva) (h:=?_); rintro _ _ ⟨rfl, rfl⟩; (try simp only [zzE, zzF]))) <;> (try refine p_e (by apply h3g; exact rfl; exact h1y) (h:=p_a (h:=h0a ?_)))) | (refine gR 10 (p_a (h:=h0a ?_))))
  (refine h0z Tryd.results8 (.tmp rfl .nil) ?_)
  exact ⟨_, ⟨m1, m2, n, rfl, by omega, rfl⟩, fun _ H => H.tail⟩
 | true =>
 rw [if_neg (fun h => by cases h)]
 refine Fn2 Tryd.func8 Tryd.ntmps8 rfl rfl ?_
 repeat' (first | (refine h2g (id:=1) ?_) | refine h0t ?_ | refine h0e ?_ | refine h1h ?_ | refine h0o ?_ | refine h1a ?_ | refine h0m rfl ?_ | (refine gR 0 ?_ <;> (try refine h0b ?_; (refine h2c (t:=30) rfl rfl ?_; intro nb hnb; (try simp only [Value.cells]))) <;> (try refine p_a (h:=h0a ?_))) | (refine gR 1 (p_m (h:=p_e (q_b (r:=by exact h4j Tryd.underlying42)) (h:=p_a (h:=h0a ?_))))) | (refine gR 3 (p_e (q_f fo_30_0) (h:=q_e q_l ?_)) <;> (try refine h0b ?_; (refine q_c 20 (c:=by apply hwo) (h:=?_); rintro _ _ ⟨rfl, rfl⟩; (try simp only [zzE, zzF]))) <;> (try refine p_e (by apply h3g; exact rfl; exact h1f) (h:=p_a (h:=h0a ?_)))) | (refine gR 5 (p_e (q_f fo_30_1) (h:=q_e q_l ?_)) <;> (try refine h0b ?_; (refine q_c 21 (c:=by apply hac) (h:=?_); rintro _ _ ⟨rfl, rfl⟩; (try simp only [zzE, zzF]))) <;> (try refine p_e (by apply h3g; exact rfl; exact h1f) (h:=p_a (h:=h0a ?_)))) | (refine gR 7 (p_e (q_f h2n) (h:=p_e q_l (h:=p_e (by apply h0h; exact rfl; exact (fun _ => BigFrame.builtin_len ..); apply h0j Tryd.underlying24; exact h3d) (h:=p_e (q_b (r:=by exact h0u q_o)) (h:=p_m (h:=p_y (q_f h3k) (h:=p_y q_l (h:=p_y (by apply h0h; exact rfl; exact (fun _ => BigFrame.builtin_len ..); apply h0j Tryd.underlying27; exact h3d) (h:=p_y (q_b (r:=by exact h0u q_o)) (h:=p_p (h:=p_m (h:=p_y (q_f h4m) (h:=p_y q_l (h:=p_y (by apply h0h; exact rfl; exact (fun _ => BigFrame.builtin_len ..); apply h0j Tryd.underlying28; exact h3d) (h:=p_y (q_b (r:=by exact h0u q_o)) (h:=p_p (h:=p_a (h:=h0a ?_))))))))))))))))))) | (refine gR 9 (p_e (q_f fo_30_3) (h:=q_e q_l ?_)) <;> (try refine h0b ?_; (refine q_c 22 (c:=by apply hva) (h:=?_); rintro _ _ ⟨rfl, rfl⟩; (try simp only [zzE, zzF]))) <;> (try refine p_e (by apply h3g; exact rfl; exact h1f) (h:=p_a (h:=h0a ?_)))) | (refine gR 11 (p_e (q_f h2n) (h:=p_e q_l (h:=p_e (by apply h0h; exact rfl; exact (fun _ => BigFrame.builtin_len ..); apply h0j Tryd.underlying24; exact h3d) (h:=p_m (h:=h0a ?_)))))))
 refine ⟨?_⟩
 clear hwo hac hva
 obtain ⟨n2, rfl⟩ : ∃ x, x = nb := ⟨_, rfl⟩
 refine h4e (γ:=Nat × Nat) (fun _ => h2w (rules.map chkR) = 0) (fun _ => []) [(2, _)] (fun g => ⟨true, n2, .cells #[.string (mB8 nm), .int .u32 df, .slice ra rules.length rc, .int .u16 (hd : Nat), .slice pa paths.length pc, .slice qa ports.length qc] 30 (0, 0)⟩ :: (tbS ct g.1 g.2 (n + rules.length) ++ L)) (.cons rfl .nil) ?_ ?_
 ·refine h0o ?_
  clear hpa hpo
  refine h2i (γ:=Nat × Nat × Nat) (fun g => g.1 ≤ rules.length ∧ h2w (rules.map chkR) = h2w ((rules.map chkR).drop g.1)) (fun g => rules.length - g.1) (fun g => [(47, .int .i64 (g.1 : Nat))]) [(1, _), (2, _), (45, _), (46, _)]
   (fun g => ⟨true, n2, .cells #[.string (mB8 nm), .int .u32 df, .slice ra rules.length rc, .int .u16 (hd : Nat), .slice pa paths.length pc, .slice qa ports.length qc] 30 (0, 0)⟩ :: (tbS ct g.2.1 g.2.2 (n + g.1) ++ L)) (0, m1, m2) (.cons rfl (.cons rfl (.cons rfl (.cons rfl .nil)))) ⟨Nat.zero_le _, by rw [List.drop_zero]⟩ (by (focus (repeat (first | exact Sub.nil | refine Sub.cons rfl ?_)))) (fun _ H => H) ?_
  rintro ⟨k, k1, k2⟩ ⟨hk, heq⟩
  dsimp only at hk heq
  simp only [List.cons_append, List.nil_append]
  by_cases hlt : k < rules.length
  ·obtain ⟨j, q, bb, off, cs, T, fr, rfl, hj, hsz, hx⟩ := (hrs.upA (tbS ct k1 k2 (n + k))).elem hlt
   obtain ⟨v, hv, hcs⟩ := hrg.at_ k hlt
   rw [hv] at hx
   obtain ⟨ca, cc, hcv, -⟩ := id hcs
   subst hcv
   have hrc := fun (x y : Blk) => rulechk_c (S:=S) (w0:=w0) [x, y] L rules[k] (hru _ (List.getElem_mem hlt)) _ (hcs.upA [x, y]) ct k1 k2 (n + k) (by omega)
   rw [firstE_drop (by rw [List.length_map]; exact hlt), List.getElem_map] at heq
   generalize chkR rules[k] = ck at *
   generalize rules[k] = r at *
   obtain ⟨num, act, conds⟩ := r
   dsimp only [List.cons_append, List.nil_append] at *
   clear hv hcs
   by_cases hc : ck = 0
   ·rw [if_neg (fun h => h hc)] at heq
    subst hc
    repeat' (first | refine h0t ?_ | refine h0e ?_ | refine h1d ?_ | refine h1h ?_ | refine h0o ?_ | refine h1a ?_ | refine h0l rfl ?_ | refine h0m rfl ?_ | (refine gR 12 (p_e (q_b (r:=by exact h0q q_o)) (h:=h0a ?_))) | (refine gR 13 (p_e (by apply h0s; exact rfl; exact rfl; (focus (apply h2h Tryd.underlying24 sz_47; omega; omega; exact c_1))) (h:=q_e (by apply h1r (t:=47); exact rfl; exact c_10; kernel_rfl; kernel_rfl; exact sz_47; (with_reducible assumption); (with_reducible assumption)) ?_)) <;> (try refine h0b ?_; (refine h1b (t:=47) rfl Tryd.zeroValue47 ?_; intro nb hnb; (try simp only [Value.cells]))) <;> (try refine h0b ?_; (refine q_W ?_)) <;> (try refine h0a ?_)) | (refine gR 14 (p_e (q_L sz_47) (h:=q_m ?_)) <;> (try refine h0b ?_; (refine q_c 23 (c:=by apply hrc) (h:=?_); rintro _ _ ⟨j1, j2, rfl, rfl⟩; (try simp only [zzE, zzF]))) <;> (try refine p_a (h:=h0a ?_))) | (refine gR 15 (q_m ?_) <;> (try refine q_e (by exact q_b (r:=by refine h1g ?_; first | rfl | (with_reducible assumption) | (decide; done) | omega)) ?_) <;> (try refine h0a ?_)) | (refine gR 17 ?_ <;> (try refine q_e (q_b (r:=by apply h1q; exact c_4; (focus (refine IntWalk.i64_in _ ?_; omega)))) ?_) <;> (try refine p_m (h:=h0a ?_))))
    exact h1p (k + 1, j1, j2) ⟨⟨by show k + 1 ≤ rules.length; omega, heq⟩, by show rules.length - (k + 1) < rules.length - k; omega⟩ (by (focus (repeat (first | exact Sub.nil | refine Sub.cons rfl ?_)))) (fun _ H => H.tail)
   ·rw [if_pos hc] at heq
    have hc' : ¬ (ck : Int) = 0 := by omega
    repeat' (first | refine h0t ?_ | refine h0e ?_ | refine h1x ?_ | refine h0x ?_ | refine h1m ?_ | refine h0o ?_ | refine h1a ?_ | refine h1e ?_ | refine h0l rfl ?_ | (refine gR 12 (p_e (q_b (r:=by exact h0q q_o)) (h:=h0a ?_))) | (refine gR 13 (p_e (by apply h0s; exact rfl; exact rfl; (focus (apply h2h Tryd.underlying24 sz_47; omega; omega; exact c_1))) (h:=q_e (by apply h1r (t:=47); exact rfl; exact c_10; kernel_rfl; kernel_rfl; exact sz_47; (with_reducible assumption); (with_reducible assumption)) ?_)) <;> (try refine h0b ?_; (refine h1b (t:=47) rfl Tryd.zeroValue47 ?_; intro nb hnb; (try simp only [Value.cells]))) <;> (try refine h0b ?_; (refine q_W ?_)) <;> (try refine h0a ?_)) | (refine gR 14 (p_e (q_L sz_47) (h:=q_m ?_)) <;> (try refine h0b ?_; (refine q_c 23 (c:=by apply hrc) (h:=?_); rintro _ _ ⟨j1, j2, rfl, rfl⟩; (try simp only [zzE, zzF]))) <;> (try refine p_a (h:=h0a ?_))) | (refine gR 15 (p_m (h:=p_e (q_b (r:=by exact h1k q_o)) (h:=h0a ?_)))) | (refine gR 16 (p_m (h:=p_a (h:=h0a ?_)))))
    (refine h0z Tryd.results8 (.tmp rfl .nil) ?_)
    refine ⟨_, ⟨j1, j2, n + k + 1, ?_, by omega, rfl⟩, fun _ H => H.tail.tail⟩
    rw [heq, if_pos hc]; rfl
  ·have hke : h2w ((rules.map chkR).drop k) = 0 := firstE_nil (by rw [List.length_map]; omega)
   rw [hke] at heq
   obtain rfl : k = rules.length := by omega
   repeat' (first | refine h0t ?_ | refine h0e ?_ | refine h1d ?_ | refine h1w ?_ | refine h1o ?_ | refine h1v ?_ | refine h2j ?_ | refine h0m rfl ?_ | (refine gR 12 (p_e (q_b (r:=by exact h0r q_o)) (h:=h0a ?_))))
   exact h1p (k1, k2) heq (by (focus (repeat (first | exact Sub.nil | refine Sub.cons rfl ?_)))) (fun _ H => H)
 rintro ⟨k1, k2⟩ heq
 dsimp only
 simp only [List.cons_append, List.nil_append]
 rw [heq, if_neg (fun h => h rfl)]
 have hp1 := fun (x : Blk) => hpa _ ((hps.upA (tbS ct k1 k2 (n + rules.length))).up x)
 have hp2 := fun (x : Blk) => hpo _ ((hqs.upA (tbS ct k1 k2 (n + rules.length))).up x)
 clear hpa hpo
 generalize h2v hd ports [] = cq at *
 generalize h2q hd paths [] = cp at *
 by_cases hc : cp = 0
 ·rw [if_neg (fun h => h hc)]
  subst hc
  repeat' (first | refine h0t ?_ | refine h0e ?_ | refine h1a ?_ | refine h1e ?_ | refine h0m rfl ?_ | (refine gR 18 (q_e (q_L sz_30) ?_) <;> (try refine h0b ?_; (refine q_c 24 (c:=by apply hp1) (h:=?_); rintro _ _ ⟨rfl, rfl⟩; (try simp only [zzE, zzF]))) <;> (try refine p_a (h:=h0a ?_))) | (refine gR 19 (q_m ?_) <;> (try refine q_e (by exact q_b (r:=by refine h1g ?_; first | rfl | (with_reducible assumption) | (decide; done) | omega)) ?_) <;> (try refine h0a ?_)) | (refine gR 21 (q_e (q_L sz_30) ?_) <;> (try refine h0b ?_; (refine q_c 25 (c:=by apply hp2) (h:=?_); rintro _ _ ⟨rfl, rfl⟩; (try simp only [zzE, zzF]))) <;> (try refine p_a (h:=h0a ?_))))
  (refine h0z Tryd.results8 (.tmp rfl .nil) ?_)
  exact ⟨_, ⟨k1, k2, _, rfl, Nat.le_refl _, rfl⟩, fun _ H => H.tail⟩
 ·rw [if_pos hc]
  have hc' : ¬ (cp : Int) = 0 := by omega
  repeat' (first | refine h0t ?_ | refine h0e ?_ | refine h0x ?_ | refine h1e ?_ | refine h0l rfl ?_ | (refine gR 18 (q_e (q_L sz_30) ?_) <;> (try refine h0b ?_; (refine q_c 24 (c:=by apply hp1) (h:=?_); rintro _ _ ⟨rfl, rfl⟩; (try simp only [zzE, zzF]))) <;> (try refine p_a (h:=h0a ?_))) | (refine gR 19 (p_m (h:=p_e (q_b (r:=by exact h1k q_o)) (h:=h0a ?_)))) | (refine gR 20 (p_m (h:=p_a (h:=h0a ?_)))))
  (refine h0z Tryd.results8 (.tmp rfl .nil) ?_)
  exact ⟨_, ⟨k1, k2, _, rfl, Nat.le_refl _, rfl⟩, fun _ H => H.tail⟩
theorem checkn_c {S w0 L} (nm : ByteArray) (df hd : Int) (r1 p1 q1 : Option Addr) (r2 r3 p2 p3 q2 q3 : Nat) : Fn Tryd.prog 8 #[.agg #[.string nm, .int .u32 df, .slice r1 r2 r3, .int .u16 hd, .slice p1 p2 p3, .slice q1 q2 q3], .pointer none] S w0 L fun v L' => v = .int .i64 201 ∧ L = L' := by
 refine Fn2 Tryd.func8 Tryd.ntmps8 rfl rfl ?_
 repeat' (first | refine h0t ?_ | refine h0e ?_ | refine h0x ?_ | refine h1m ?_ | refine h0o ?_ | refine h1e ?_ | refine h0l rfl ?_ | (refine gR 0 ?_ <;> (try refine h0b ?_; (refine h2c (t:=30) rfl rfl ?_; intro nb hnb; (try simp only [Value.cells]))) <;> (try refine p_a (h:=h0a ?_))) | (refine gR 1 (p_m (h:=p_e (q_b (r:=by exact rb_peq_nn Tryd.underlying42)) (h:=p_a (h:=h0a ?_))))) | (refine gR 2 (p_a (h:=h0a ?_))))
 (refine h0z Tryd.results8 (.tmp rfl .nil) ?_)
 exact ⟨_, ⟨rfl, rfl⟩, by intro w H; refine H.sub ?_; (try simp only [zzC, zzN]); repeat (first | exact List.Sublist.refl _ | refine List.Sublist.cons _ ?_)⟩
def cndT (c : Cnd) : List UInt8 := spcL (cndL c)
def spS (ws : List W3) : List UInt8 := ws.flatMap fun v => 32 :: v.2.1
theorem spcL_cons (w : W3) (r : List W3) : spcL (w :: r) = w.2.1 ++ spS r := rfl
theorem cndT_eq (c : Cnd) : cndT c = [97, 114, 103] ++ (decF c.arg ++ ([32] ++ (sgnT c.op ++ ([32] ++ ((if c.op = 7 then decF c.mask ++ [32, 61, 61, 32] else []) ++ decF c.val))))) := by
 unfold cndT cndL
 rw [spcL_cons]
 by_cases h : c.op = 7
 ·rw [if_pos h, if_pos h]
  simp [spS, argTx]
 ·rw [if_neg h, if_neg h]
  simp [spS, argTx]
set_option maxHeartbeats 1000000 in
theorem condtext_c {S w0 L} (c : Cnd) (h : CndOk c) (hm : c.mask ≤ 18446744073709551615) (hv : c.val ≤ 18446744073709551615) : Fn Tryd.prog 14 #[.agg c.cells.toArray] S w0 L fun v L' => v = .string (mB8 (cndT c)) ∧ L = L' := by
 have hsg := fun (L : List Blk) => psign_c (S:=S) (w0:=w0) (L:=L) c.op h.op1 h.op2
 have hpa := fun (L : List Blk) => printed_c c.arg (by have := h.arg; omega) S w0 L
 have hpm := fun (L : List Blk) => printed_c c.mask (by omega) S w0 L
 have hpv := fun (L : List Blk) => printed_c c.val (by omega) S w0 L
 have hmx : max (c.arg : Int) 0 = (c.arg : Int) := by omega
 have hrg := h.arg
 rw [← hmx] at hpa
 have e := cndT_eq c
 have z1 : (mB8 (decF c.arg)).size ≤ 20 := by rw [h4c]; exact d20 (by omega)
 have z2 : (mB8 (decF c.mask)).size ≤ 20 := by rw [h4c]; exact d20 hm
 have z3 : (mB8 (decF c.val)).size ≤ 20 := by rw [h4c]; exact d20 hv
 have z4 : (mB8 (sgns.getD (c.op - 1) [])).size ≤ 2 := by rw [h4c]; exact (sg_ok h.op1 h.op2).2
 have b1 : (⟨#[97, 114, 103]⟩ : ByteArray).size = 3 := rfl
 have b2 : (⟨#[32]⟩ : ByteArray).size = 1 := rfl
 have b3 : (⟨#[32, 61, 61, 32]⟩ : ByteArray).size = 4 := rfl
 obtain ⟨ca, co, cm, cv⟩ := c
 dsimp only at *
 rw [e]
 unfold sgnT
 clear e h hmx
 dsimp only [Cnd.cells] at *
 by_cases h7 : co = 7
 ·rw [if_pos h7]
  have hcat : mB8 ([97, 114, 103] ++ (decF ca ++ ([32] ++ (sgns.getD (co - 1) [] ++ ([32] ++ ((decF cm ++ [32, 61, 61, 32]) ++ decF cv)))))) = (((((⟨#[97, 114, 103]⟩ : ByteArray) ++ mB8 (decF ca)) ++ (⟨#[32]⟩ : ByteArray)) ++ mB8 (sgns.getD (co - 1) [])) ++ (⟨#[32]⟩ : ByteArray)) ++ (mB8 (decF cm) ++ (⟨#[32, 61, 61, 32]⟩ : ByteArray)) ++ mB8 (decF cv) := by
   rw [show (⟨#[97, 114, 103]⟩ : ByteArray) = mB8 [97, 114, 103] from rfl, show (⟨#[32]⟩ : ByteArray) = mB8 [32] from rfl, show (⟨#[32, 61, 61, 32]⟩ : ByteArray) = mB8 [32, 61, 61, 32] from rfl]
   simp only [mB8_add, List.append_assoc]
  rw [hcat]
  clear hcat
  generalize mB8 (sgns.getD (co - 1) []) = sg at *
  generalize mB8 (decF ca) = da at *
  generalize mB8 (decF cm) = dm at *
  generalize mB8 (decF cv) = dv at *
  refine Fn1 Tryd.func14 Tryd.ntmps14 rfl rfl ?_
  repeat' (first | refine h0t ?_ | refine h0e ?_ | refine h1e ?_ | refine h0l rfl ?_ | (refine gR 0 ?_ <;> (try refine h0b ?_; (refine h2c (t:=39) rfl rfl ?_; intro nb hnb; (try simp only [Value.cells]))) <;> (try refine p_a (h:=h0a ?_))) | ((refine h2s (id:=1) (m:=13) (by kernel_rfl) rfl (q_u 0 (x:=by exact q_f h3j) (h:=q_u 1 (x:=by exact q_l) (h:=q_u 2 (x:=by exact h0h rfl (fun _ => BigFrame.builtin_max ..) r_max) (h:=?_))))) <;> (try refine q_u 3 (x:=by apply h3c; exact rfl; (focus (apply h3a Tryd.underlying3 Tryd.underlying37; first | (refine IntWalk.i64_in _ ?_; omega) | (refine IntWalk.u8_in _ ?_; omega) | (refine IntWalk.u16_in _ ?_; omega) | (refine IntWalk.u32_in _ ?_; omega) | (refine IntWalk.u64_in _ ?_; omega) | (refine IntWalk.i32_in _ ?_; omega) | exact rfl))) (h:=?_)) <;> (try refine q_u 7 (x:=by exact q_f h2p) (h:=q_u 8 (x:=by exact q_l) (h:=?_))) <;> (try refine q_r 4 ?_; (refine q_c 32 (c:=by apply hpa) (h:=?_); rintro _ _ ⟨rfl, rfl⟩; (try simp only [zzE, zzF])); refine h2a (fun _ H => H) ?_) <;> (try refine q_u 5 (x:=by exact q_b (r:=by apply h2z; exact rfl; (focus (omega)))) (h:=q_u 6 (x:=by exact q_b (r:=by apply h2z; exact rfl; (focus (simp only [ByteArray.size_append]; omega)))) (h:=?_))) <;> (try refine q_r 9 ?_; (refine q_c 33 (c:=by apply hsg) (h:=?_); rintro _ _ ⟨rfl, rfl⟩; (try simp only [zzE, zzF])); refine h2a (fun _ H => H) ?_) <;> (try refine q_u 10 (x:=by exact q_b (r:=by apply h2z; exact rfl; (focus (simp only [ByteArray.size_append]; omega)))) (h:=q_u 11 (x:=by exact q_b (r:=by apply h2z; exact rfl; (focus (simp only [ByteArray.size_append]; omega)))) (h:=q_u 12 (x:=by exact h1j rfl) (h:=h2e (by kernel_rfl) ?_))))) | (refine gR 2 (p_e (q_f h2p) (h:=q_e q_l ?_)) <;> (try refine q_e (by exact q_b (r:=by refine h1l ?_; first | rfl | (with_reducible assumption) | (decide; done) | omega)) ?_) <;> (try refine h0a ?_)) | (refine gR 3 (p_m (h:=p_e (q_f fo_39_2) (h:=q_e q_l ?_))) <;> (try refine h0b ?_; (refine q_c 32 (c:=by apply hpm) (h:=?_); rintro _ _ ⟨rfl, rfl⟩; (try simp only [zzE, zzF]))) <;> (try refine p_e (q_b (r:=by apply h2z; exact rfl; (focus (omega)))) (h:=p_e (q_b (r:=by apply h2z; exact rfl; (focus (simp only [ByteArray.size_append]; omega)))) (h:=p_a (h:=h0a ?_))))) | (refine gR 4 (p_m (h:=p_e (q_f fo_39_3) (h:=q_e q_l ?_))) <;> (try refine h0b ?_; (refine q_c 32 (c:=by apply hpv) (h:=?_); rintro _ _ ⟨rfl, rfl⟩; (try simp only [zzE, zzF]))) <;> (try refine p_e (q_b (r:=by apply h2z; exact rfl; (focus (simp only [ByteArray.size_append]; omega)))) (h:=p_a (h:=h0a ?_)))))
  (refine h0z Tryd.results14 (.tmp rfl .nil) ?_)
  exact ⟨_, ⟨rfl, rfl⟩, by intro w H; refine H.sub ?_; (try simp only [zzC, zzN]); repeat (first | exact List.Sublist.refl _ | refine List.Sublist.cons _ ?_)⟩
 ·rw [if_neg h7]
  have hcat : mB8 ([97, 114, 103] ++ (decF ca ++ ([32] ++ (sgns.getD (co - 1) [] ++ ([32] ++ ([] ++ decF cv)))))) = (((((⟨#[97, 114, 103]⟩ : ByteArray) ++ mB8 (decF ca)) ++ (⟨#[32]⟩ : ByteArray)) ++ mB8 (sgns.getD (co - 1) [])) ++ (⟨#[32]⟩ : ByteArray)) ++ mB8 (decF cv) := by
   rw [show (⟨#[97, 114, 103]⟩ : ByteArray) = mB8 [97, 114, 103] from rfl, show (⟨#[32]⟩ : ByteArray) = mB8 [32] from rfl]
   simp only [mB8_add, List.append_assoc, List.nil_append]
  rw [hcat]
  clear hcat hpm
  generalize mB8 (sgns.getD (co - 1) []) = sg at *
  generalize mB8 (decF ca) = da at *
  generalize mB8 (decF cv) = dv at *
  refine Fn1 Tryd.func14 Tryd.ntmps14 rfl rfl ?_
  repeat' (first | refine h0t ?_ | refine h0e ?_ | refine h1a ?_ | refine h1e ?_ | refine h0m rfl ?_ | (refine gR 0 ?_ <;> (try refine h0b ?_; (refine h2c (t:=39) rfl rfl ?_; intro nb hnb; (try simp only [Value.cells]))) <;> (try refine p_a (h:=h0a ?_))) | ((refine h2s (id:=1) (m:=13) (by kernel_rfl) rfl (q_u 0 (x:=by exact q_f h3j) (h:=q_u 1 (x:=by exact q_l) (h:=q_u 2 (x:=by exact h0h rfl (fun _ => BigFrame.builtin_max ..) r_max) (h:=?_))))) <;> (try refine q_u 3 (x:=by apply h3c; exact rfl; (focus (apply h3a Tryd.underlying3 Tryd.underlying37; first | (refine IntWalk.i64_in _ ?_; omega) | (refine IntWalk.u8_in _ ?_; omega) | (refine IntWalk.u16_in _ ?_; omega) | (refine IntWalk.u32_in _ ?_; omega) | (refine IntWalk.u64_in _ ?_; omega) | (refine IntWalk.i32_in _ ?_; omega) | exact rfl))) (h:=?_)) <;> (try refine q_u 7 (x:=by exact q_f h2p) (h:=q_u 8 (x:=by exact q_l) (h:=?_))) <;> (try refine q_r 4 ?_; (refine q_c 32 (c:=by apply hpa) (h:=?_); rintro _ _ ⟨rfl, rfl⟩; (try simp only [zzE, zzF])); refine h2a (fun _ H => H) ?_) <;> (try refine q_u 5 (x:=by exact q_b (r:=by apply h2z; exact rfl; (focus (omega)))) (h:=q_u 6 (x:=by exact q_b (r:=by apply h2z; exact rfl; (focus (simp only [ByteArray.size_append]; omega)))) (h:=?_))) <;> (try refine q_r 9 ?_; (refine q_c 33 (c:=by apply hsg) (h:=?_); rintro _ _ ⟨rfl, rfl⟩; (try simp only [zzE, zzF])); refine h2a (fun _ H => H) ?_) <;> (try refine q_u 10 (x:=by exact q_b (r:=by apply h2z; exact rfl; (focus (simp only [ByteArray.size_append]; omega)))) (h:=q_u 11 (x:=by exact q_b (r:=by apply h2z; exact rfl; (focus (simp only [ByteArray.size_append]; omega)))) (h:=q_u 12 (x:=by exact h1j rfl) (h:=h2e (by kernel_rfl) ?_))))) | (refine gR 2 (p_e (q_f h2p) (h:=p_e q_l (h:=p_e (q_b (r:=by exact h0y q_o)) (h:=h0a ?_))))) | (refine gR 4 (p_m (h:=p_e (q_f fo_39_3) (h:=q_e q_l ?_))) <;> (try refine h0b ?_; (refine q_c 32 (c:=by apply hpv) (h:=?_); rintro _ _ ⟨rfl, rfl⟩; (try simp only [zzE, zzF]))) <;> (try refine p_e (q_b (r:=by apply h2z; exact rfl; (focus (simp only [ByteArray.size_append]; omega)))) (h:=p_a (h:=h0a ?_)))))
  (refine h0z Tryd.results14 (.tmp rfl .nil) ?_)
  exact ⟨_, ⟨rfl, rfl⟩, by intro w H; refine H.sub ?_; (try simp only [zzC, zzN]); repeat (first | exact List.Sublist.refl _ | refine List.Sublist.cons _ ?_)⟩
inductive Tl : List Blk → List Blk → List Blk → Prop
 | nil (M : List Blk) : Tl M [] M
 | one (e M : List Blk) : Tl (e ++ M) e M
 | cons {R B M : List Blk} (x : Blk) (h : Tl R B M) : Tl (x :: R) (x :: B) M
 | app {R B M : List Blk} (e : List Blk) (h : Tl R B M) : Tl (e ++ R) (e ++ B) M
theorem Tl.eq {L B M : List Blk} (h : Tl L B M) : L = B ++ M := by
 induction h with
 | nil => rfl
 | one => rfl
 | cons x _ ih => rw [ih]; rfl
 | app e _ ih => rw [ih, List.append_assoc]
theorem clls_num : (clls.all fun m => decide (0 ≤ m.num ∧ m.num < 4294967296)) = true := by decide +kernel
theorem act_rng {a : Int} (h0 : 0 ≤ a) (h : h4b a = true) : 0 ≤ a ∧ a < 4294967296 := by
 unfold h4b at h
 have h := of_decide_eq_true h
 refine ⟨h0, ?_⟩
 rcases h with rfl | rfl | rfl | ⟨h1, h2, h3⟩
 ·decide
 ·decide
 ·decide
 ·unfold kndA at h1
  have h4 := and_split a h0
  split at h1
  ·omega
  ·cases h1
theorem pol_gok {P : Pol} (h : PolOk P) (hr : PolRn P) : P.g.ok := by
 refine ⟨?_, act_rng h.df0 h.df, ?_, ?_, ?_, ?_⟩
 ·have h1 := h.nm
  unfold Wd.wordF at h1
  rw [Bool.and_eq_true] at h1
  have h2 := of_decide_eq_true h1.2
  rw [h4c] at h2
  show P.nm.length ≤ _
  omega
 ·intro r hr'
  obtain ⟨q, hq, rfl⟩ := List.mem_map.1 hr'
  have hq2 := h.rules q hq
  refine ⟨?_, act_rng hq2.act0 hq2.act, ?_⟩
  ·have hn := hq2.num
   cases hc : h3f q.num clls with
   | none => rw [hc] at hn; cases hn
   | some m =>
    obtain ⟨hm, he⟩ := cnumF_mem hc
    have h3 := of_decide_eq_true (List.all_eq_true.1 clls_num m hm)
    show 0 ≤ q.num ∧ q.num < 4294967296
    rw [← he]
    exact h3
  ·intro c hc
   obtain ⟨d, hd, rfl⟩ := List.mem_map.1 hc
   have h4 := hq2.conds d hd
   have h5 := hr.c q hq d hd
   have h6 := h4.arg
   have h7 := h4.op2
   exact ⟨⟨by show (-9223372036854775808 : Int) ≤ ((d.arg : Nat) : Int); omega, by show ((d.arg : Nat) : Int) < 9223372036854775808; omega⟩, by show d.op < 256; omega, by show d.mask < _; omega, by show d.val < _; omega⟩
 ·have h1 := h.hd
  have h2 := Nat.and_le_right (n:=P.hd) (m:=51199)
  show P.hd < 65536
  omega
 ·intro p hp
  have h1 := (h.paths p hp).1
  have h2 := (wP_ok h1).2
  have h3 := (h.paths p hp).2.2.2
  have h4 := Nat.and_le_right (n:=p.2) (m:=2047)
  exact ⟨by omega, by omega⟩
 ·intro p hp
  have h1 := h.ports p hp
  have h4 := Nat.and_le_right (n:=p.2) (m:=49152)
  exact ⟨h1.1, by omega⟩
theorem pol_check {P : Pol} (h : PolOk P) : chkG P.g = 0 := (chkG_z h.df0 (fun r hr => (h.rules r hr).act0) fun p hp => (h.ports p hp).1).2 h
theorem pol_cl {P : Pol} (h : PolOk P) : ∀ r ∈ P.rules, r.conds.length ≤ maxLen := by
 intro r hr
 have := (h.rules r hr).len
 unfold maxLen; omega
end Go.Proofs.YtecbgehooembmaaDoor
