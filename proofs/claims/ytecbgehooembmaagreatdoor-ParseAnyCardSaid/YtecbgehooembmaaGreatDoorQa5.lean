/- Part 5 of what the last text of this claim leans on: rules of walks, contracts, plain facts. Conditions: those of each statement. -/
import Derived.WalkKit
import Derived.Deep.QuietTactic
import Derived.OrdersHeld
import Derived.Lib.Hide
import Derived.Laws.Strings
import Derived.Laws.BytesArg
import Derived.Test.YtecbgehooembmaaGreatDoorRows
import Derived.Shelf.Strings.OnBuilder
import Derived.Shelf.Small.Strs
import Derived.Shelf.Strings.Search1
import Derived.Shelf.Strings.Search2
import Derived.Shelf.Strings.Search3
import Derived.Shelf.Strings.Count
import Derived.Test.YtecbgehooembmaaGreatDoorProg
import Derived.MapKept
import Derived.Tactics
import Derived.Tactics2
import Derived.Defers
import Derived.Laws.Pointers
import Derived.Laws.LoneSync
import Derived.Laws.NewBlocks
import Derived.RegionTactic
import Derived.RegionCalls
import Derived.ChangeAlike
import Derived.Laws.RangeString
import Derived.Laws.RangeAny
import Derived.Lib.Builder
import Derived.Lib.UnsafeStr
import Derived.Laws.Externs
import Derived.ProofKit
import Derived.OpenShut
import Derived.ShutString
import Derived.ChangeOld
import Derived.Test.YtecbgehooembmaaGreatDoorCards
import Derived.Test.YtecbgehooembmaaGreatDoorTie
import Derived.SevenTiedAt
import Derived.Lay
import Derived.LaidOnce
import Derived.Test.YtecbgehooembmaaGreatDoorQa4
namespace Go.Proofs.YtecbgehooembmaaGreatDoor
open Go Go.RowKit
theorem firstE_z {l : List Nat} : firstE l = 0 ↔ ∀ e ∈ l, e = 0 := by
  induction l with
  | nil => simp [firstE]
  | cons e r ih =>
    unfold firstE
    split
    · rename_i h
      exact ⟨fun h2 => absurd h2 h, fun h2 => absurd (h2 e (List.mem_cons_self ..)) h⟩
    · rename_i h
      rw [ih]
      exact ⟨fun h2 x hx => by
        rcases List.mem_cons.1 hx with rfl | hx
        · exact Decidable.byContradiction h
        · exact h2 x hx, fun h2 x hx => h2 x (List.mem_cons_of_mem _ hx)⟩
theorem chkC_z {c : Cnd} : chkC c.g = 0 ↔ CndOk c := by
  obtain ⟨a, o, m, v⟩ := c
  unfold chkC Cnd.g
  dsimp only
  constructor
  · intro h
    split at h
    · cases h
    rename_i h1
    split at h
    · cases h
    rename_i h2
    split at h
    · cases h
    rename_i h3
    split at h
    · cases h
    rename_i h4
    refine ⟨?_, ?_, ?_, ?_, ?_⟩
    · dsimp only; omega
    · dsimp only; omega
    · dsimp only; omega
    · intro h7; dsimp only at *; exact Decidable.byContradiction fun hm => h3 ⟨h7, hm⟩
    · intro h7; dsimp only at *; exact ⟨fun hm => h4 ⟨h7, .inl hm⟩, Decidable.byContradiction fun hm => h4 ⟨h7, .inr hm⟩⟩
  · rintro ⟨h1, h2, h3, h4, h5⟩
    dsimp only at *
    rw [if_neg (by omega), if_neg (by omega), if_neg (fun h => h.2 (h4 h.1)), if_neg (fun h => by
      obtain ⟨g1, g2⟩ := h5 h.1
      rcases h.2 with h6 | h6
      · exact g1 h6
      · exact h6 g2)]
theorem grant_z {hd r k : Nat} : grantF hd r k = true ↔ r ≠ 0 ∧ r &&& hd = r ∧ r &&& k = r := by
  unfold grantF
  rw [Bool.and_eq_true, Bool.and_eq_true, decide_eq_true_eq]
  exact ⟨fun h => ⟨h.1, hasF_nat h.2.1, hasF_nat h.2.2⟩, fun h => ⟨h.1, nat_hasF h.2.1, nat_hasF h.2.2⟩⟩
theorem chkR_z {r : RulP} (h0 : 0 ≤ r.act) : chkR r.g = 0 ↔ RulOk r := by
  obtain ⟨n, a, cs⟩ := r
  unfold chkR RulP.g
  dsimp only
  rw [List.length_map]
  constructor
  · intro h
    split at h
    · cases h
    rename_i h1
    split at h
    · cases h
    rename_i h2
    split at h
    · cases h
    rename_i h3
    rw [firstE_z] at h
    refine ⟨?_, h0, ?_, ?_, ?_⟩
    · dsimp only; cases hc : cnumF n clls with
      | none => rw [hc] at h1; exact absurd rfl h1
      | some _ => rfl
    · dsimp only; simpa using h2
    · dsimp only; omega
    · intro c hc
      exact chkC_z.1 (h _ (List.mem_map.2 ⟨c.g, List.mem_map.2 ⟨c, hc, rfl⟩, rfl⟩))
  · rintro ⟨h1, h2, h3, h4, h5⟩
    dsimp only at *
    rw [if_neg (by cases hc : cnumF n clls with
      | none => rw [hc] at h1; cases h1
      | some _ => exact fun h => by cases h), if_neg (by rw [h3]; exact fun h => by cases h), if_neg (by omega), firstE_z]
    intro e he
    obtain ⟨c', hc', rfl⟩ := List.mem_map.1 he
    obtain ⟨c, hc, rfl⟩ := List.mem_map.1 hc'
    exact chkC_z.2 (h5 c hc)
theorem chkPaths_z (hd : Nat) (ps : List (List UInt8 × Nat)) : ∀ seen : List (List UInt8), chkPaths hd ps seen = 0 ↔ (∀ p ∈ ps, Pt.pathF p.1 = true ∧ grantF hd p.2 2047 = true) ∧ (ps.map (·.1)).Nodup ∧ ∀ p ∈ ps, p.1 ∉ seen := by
  induction ps with
  | nil => intro seen; simp [chkPaths]
  | cons p r ih =>
    intro seen
    unfold chkPaths
    cases h1 : Pt.pathF p.1 with
    | false =>
      rw [if_pos rfl]
      exact ⟨fun h => (by cases h), fun h => by have := (h.1 p (List.mem_cons_self ..)).1; rw [h1] at this; cases this⟩
    | true =>
      rw [if_neg (by decide)]
      cases h2 : grantF hd p.2 2047 with
      | false =>
        rw [if_pos rfl]
        exact ⟨fun h => (by cases h), fun h => by have := (h.1 p (List.mem_cons_self ..)).2; rw [h2] at this; cases this⟩
      | true =>
        rw [if_neg (by decide)]
        by_cases h3 : p.1 ∈ seen
        · rw [if_pos h3]
          exact ⟨fun h => (by cases h), fun h => absurd h3 (h.2.2 p (List.mem_cons_self ..))⟩
        · rw [if_neg h3, ih]
          constructor
          · rintro ⟨g1, g2, g3⟩
            refine ⟨?_, ?_, ?_⟩
            · intro q hq
              rcases List.mem_cons.1 hq with rfl | hq
              · exact ⟨h1, h2⟩
              · exact g1 q hq
            · rw [List.map_cons, List.nodup_cons]
              refine ⟨fun hm => ?_, g2⟩
              obtain ⟨q, hq, he⟩ := List.mem_map.1 hm
              exact g3 q hq (by rw [he]; simp)
            · intro q hq
              rcases List.mem_cons.1 hq with rfl | hq
              · exact h3
              · exact fun hm => g3 q hq (List.mem_append_left _ hm)
          · rintro ⟨g1, g2, g3⟩
            rw [List.map_cons, List.nodup_cons] at g2
            refine ⟨fun q hq => g1 q (List.mem_cons_of_mem _ hq), g2.2, fun q hq hm => ?_⟩
            rcases List.mem_append.1 hm with hm | hm
            · exact g3 q (List.mem_cons_of_mem _ hq) hm
            · exact g2.1 (List.mem_map.2 ⟨q, hq, List.mem_singleton.1 hm⟩)
theorem chkPorts_z (hd : Nat) (ps : List (Nat × Nat)) : ∀ seen : List Nat, chkPorts hd ps seen = 0 ↔ (∀ p ∈ ps, grantF hd p.2 49152 = true) ∧ (ps.map (·.1)).Nodup ∧ ∀ p ∈ ps, p.1 ∉ seen := by
  induction ps with
  | nil => intro seen; simp [chkPorts]
  | cons p r ih =>
    intro seen
    unfold chkPorts
    cases h2 : grantF hd p.2 49152 with
    | false =>
      rw [if_pos rfl]
      exact ⟨fun h => (by cases h), fun h => by have := h.1 p (List.mem_cons_self ..); rw [h2] at this; cases this⟩
    | true =>
      rw [if_neg (by decide)]
      by_cases h3 : p.1 ∈ seen
      · rw [if_pos h3]
        exact ⟨fun h => (by cases h), fun h => absurd h3 (h.2.2 p (List.mem_cons_self ..))⟩
      · rw [if_neg h3, ih]
        constructor
        · rintro ⟨g1, g2, g3⟩
          refine ⟨?_, ?_, ?_⟩
          · intro q hq
            rcases List.mem_cons.1 hq with rfl | hq
            · exact h2
            · exact g1 q hq
          · rw [List.map_cons, List.nodup_cons]
            refine ⟨fun hm => ?_, g2⟩
            obtain ⟨q, hq, he⟩ := List.mem_map.1 hm
            exact g3 q hq (by rw [he]; simp)
          · intro q hq
            rcases List.mem_cons.1 hq with rfl | hq
            · exact h3
            · exact fun hm => g3 q hq (List.mem_append_left _ hm)
        · rintro ⟨g1, g2, g3⟩
          rw [List.map_cons, List.nodup_cons] at g2
          refine ⟨fun q hq => g1 q (List.mem_cons_of_mem _ hq), g2.2, fun q hq hm => ?_⟩
          rcases List.mem_append.1 hm with hm | hm
          · exact g3 q (List.mem_cons_of_mem _ hq) hm
          · exact g2.1 (List.mem_map.2 ⟨q, hq, List.mem_singleton.1 hm⟩)
theorem hd_z {n : Nat} : iandn (n : Int) 51199 = 0 ↔ n &&& 51199 = n := by
  have e : Rg.hasF 51199 n = true ↔ iandn (n : Int) 51199 = 0 := by
    unfold Rg.hasF
    rw [decide_eq_true_eq]; rfl
  rw [← e]
  exact ⟨hasF_nat, nat_hasF⟩
theorem chkG_z {P : Pol} (h0 : 0 ≤ P.df) (ha : ∀ r ∈ P.rules, 0 ≤ r.act) (hq : ∀ p ∈ P.ports, p.1 < 65536) : chkG P.g = 0 ↔ PolOk P := by
  obtain ⟨nm, df, rs, hd, ps, qs⟩ := P
  unfold chkG Pol.g
  dsimp only at *
  rw [List.length_map]
  constructor
  · intro h
    split at h
    · cases h
    rename_i h1
    split at h
    · cases h
    rename_i h2
    split at h
    · cases h
    rename_i h3
    split at h
    · cases h
    rename_i h4
    split at h
    · rename_i h5; exact absurd h h5
    rename_i h5
    split at h
    · rename_i h6; exact absurd h h6
    rename_i h6
    have h5 := firstE_z.1 (Decidable.byContradiction h5)
    obtain ⟨p1, p2, -⟩ := (chkPaths_z hd ps []).1 (Decidable.byContradiction h6)
    obtain ⟨q1, q2, -⟩ := (chkPorts_z hd qs []).1 h
    refine ⟨by simpa using h1, h0, by simpa using h2, ?_, hd_z.1 (Decidable.byContradiction h4), by dsimp only; omega, by dsimp only; omega, by dsimp only; omega, ?_, p2, ?_, q2⟩
    · intro r hr
      exact (chkR_z (ha r hr)).1 (h5 _ (List.mem_map.2 ⟨r.g, List.mem_map.2 ⟨r, hr, rfl⟩, rfl⟩))
    · intro p hp
      exact ⟨(p1 p hp).1, grant_z.1 (p1 p hp).2⟩
    · intro p hp
      exact ⟨hq p hp, grant_z.1 (q1 p hp)⟩
  · rintro ⟨h1, h2, h3, h4, h5, h6, h7, h8, h9, h10, h11, h12⟩
    dsimp only at *
    have e5 : firstE ((rs.map RulP.g).map chkR) = 0 := by
      rw [firstE_z]
      intro e he
      obtain ⟨r', hr', rfl⟩ := List.mem_map.1 he
      obtain ⟨r, hr, rfl⟩ := List.mem_map.1 hr'
      exact (chkR_z (ha r hr)).2 (h4 r hr)
    have e6 : chkPaths hd ps [] = 0 := (chkPaths_z hd ps []).2 ⟨fun p hp => ⟨(h9 p hp).1, grant_z.2 (h9 p hp).2⟩, h10, fun _ _ h => by cases h⟩
    have e7 : chkPorts hd qs [] = 0 := (chkPorts_z hd qs []).2 ⟨fun p hp => grant_z.2 (h11 p hp).2, h12, fun _ _ h => by cases h⟩
    rw [if_neg (by rw [h1]; decide), if_neg (by rw [h3]; decide), if_neg (by omega), if_neg (fun h => h (hd_z.2 h5)), if_neg (fun h => h e5), if_neg (fun h => h e6), e7]
end Go.Proofs.YtecbgehooembmaaGreatDoor
namespace Go.Proofs.YtecbgehooembmaaGreatDoor
open Go Go.RowKit
section
variable {P : Program} {n : Nat} {l : List (Nat × Value)} {S : List Nat} {w0 : World} {L : List Blk} {k : Kont} {ops : Array Oper}
structure TagC (p : Prop) : Prop where
  out : p
theorem H_run3t {i j m fuel : Nat} {listed : Array Bool} {Lb : List Blk} {o o' o'' : Oper} (hi : ops[i]? = some o) (hj : ops[j]? = some o') (hm : ops[m]? = some o'') (hr : Region.ready .any ops listed = [i, j, m]) (h : TagA (G n l S w0 L (K1 P ops k o (KHS P S w0 Lb ops k fuel (listed.setIfInBounds i true)))))
    (h' : TagB (G n l S w0 L (K1 P ops k o' (KHS P S w0 Lb ops k fuel (listed.setIfInBounds j true))))) (h'' : TagC (G n l S w0 L (K1 P ops k o'' (KHS P S w0 Lb ops k fuel (listed.setIfInBounds m true))))) : G n l S w0 L (KH P S w0 Lb ops k (fuel + 1) listed) := .mk fun a w hF H => by
  refine ⟨wpAnyH_all hr (by simp) fun q hq => ?_⟩
  rcases (show q = i ∨ q = j ∨ q = m by simpa using hq) with rfl | rfl | rfl
  · have hh := (h.out.out a w hF H).out
    unfold wpOp
    simp only [hi]
    split
    · rename_i hw; rw [if_pos hw] at hh; exact .inl (Oper.wp_mono (fun _ _ h => ⟨h.out.1, h.out.2.out⟩) hh)
    · rename_i hw; rw [if_neg hw] at hh; exact ⟨hh.out.1, hh.out.2.out⟩
  · have hh := (h'.out.out a w hF H).out
    unfold wpOp
    simp only [hj]
    split
    · rename_i hw; rw [if_pos hw] at hh; exact .inl (Oper.wp_mono (fun _ _ h => ⟨h.out.1, h.out.2.out⟩) hh)
    · rename_i hw; rw [if_neg hw] at hh; exact ⟨hh.out.1, hh.out.2.out⟩
  · have hh := (h''.out.out a w hF H).out
    unfold wpOp
    simp only [hm]
    split
    · rename_i hw; rw [if_pos hw] at hh; exact .inl (Oper.wp_mono (fun _ _ h => ⟨h.out.1, h.out.2.out⟩) hh)
    · rename_i hw; rw [if_neg hw] at hh; exact ⟨hh.out.1, hh.out.2.out⟩
end
end Go.Proofs.YtecbgehooembmaaGreatDoor
namespace Go.Proofs.YtecbgehooembmaaGreatDoor
open Go Go.RowKit
abbrev AT10 : ByteArray := ⟨#[112, 111, 108, 105, 99, 121, 32, 112, 10, 100, 101, 102, 97, 117, 108, 116, 32, 97, 108, 108, 111, 119, 10, 99, 97, 108, 108, 32, 119, 114, 105, 116, 101, 32, 107, 105, 108, 108, 10]⟩
theorem at10_pol : polF (lB AT10) = (⟨[112], 2147418112, [⟨1, 2147483648, []⟩], 0, [], []⟩, (0, 0, 0)) := by kernel_rfl
theorem RulsR.inv {rs : List RulP} {cz : List Value} {ec : List Blk} (h : RulsR rs cz ec) : (rs = [] ∧ cz = [] ∧ ec = []) ∨ ∃ rs' cz' ec' r v e, rs = rs' ++ [r] ∧ cz = cz' ++ [.int .u32 r.num, .int .u32 r.act, v] ∧ ec = e ++ ec' ∧ RulsR rs' cz' ec' ∧ Own 99 4 v r.conds.length (cndC r.conds) e := by
  cases h with
  | nil => exact Or.inl ⟨rfl, rfl, rfl⟩
  | snoc h1 h2 => exact Or.inr ⟨_, _, _, _, _, _, rfl, rfl, rfl, h1, h2⟩
theorem rules_one {r : RulP} {cz : List Value} {ec : List Blk} (h : RulsR [r] cz ec) : ∃ v, cz = [.int .u32 r.num, .int .u32 r.act, v] := by
  rcases h.inv with ⟨h1, -⟩ | ⟨rs', cz', ec', r', v, e, h1, h2, -, h3, -⟩
  · cases h1
  · have hl := congrArg List.length h1
    rw [List.length_append] at hl
    obtain rfl : rs' = [] := List.eq_nil_of_length_eq_zero (by simpa using hl)
    injection h1 with h4 h5
    subst h4
    rcases h3.inv with ⟨-, h6, -⟩ | ⟨rs2, cz2, ec2, r2, v2, e2, h6, -⟩
    · exact ⟨v, by rw [h2, h6]; rfl⟩
    · have hl := congrArg List.length h6
      rw [List.length_append] at hl
      simp at hl
theorem pw10_c {S w0 L} (pb ct rb : Nat) : Fn Tryz.prog 10 #[.pointer (some ⟨pb, 0, none⟩), .string AT10] S w0 (prB pb ct rb :: tbl0 ct 0 0 :: Rg.wrd0 rb :: L) fun v L' => ∃ g cap cur p1 p2 p3 q1 q2 q3,
    v = tupleOf [.agg #[.string ⟨#[112]⟩, .int .u32 2147418112, .slice (some ⟨g, 0, none⟩) 1 cap, .int .u16 0, .slice p1 p2 p3, .slice q1 q2 q3], .agg #[.int .i64 0, .int .i64 0, .int .i64 0]] ∧ 3 ≤ cur.size ∧ cur.toList[0]? = some (.int .u32 1) ∧ cur.toList[1]? = some (.int .u32 2147483648) ∧ ⟨true, g, .cells cur 73 (0, 0)⟩ :: L = L' := by
  refine (parse_c (S := S) (w0 := w0) pb ct rb 0 L (tbl0 ct 0 0 :: Rg.wrd0 rb :: L) (by omega) ⟨0, 0, none, rfl⟩ AT10 (by decide)).mono ?_
  rintro v L' ⟨d, m', T', rfl, hd, -, ⟨m1, m2, o, rfl⟩, rfl⟩
  rw [at10_pol] at hd ⊢
  obtain ⟨r1, r3, p1, p3, q1, q3, e1, e2, e3⟩ := hd.sl
  obtain ⟨vc, hcz⟩ := rules_one hd.rs
  rcases own_cases hd.vr with ⟨h1, h0, -, -⟩ | ⟨g, cap, cur, h1, h2, h3, h4, h5, h6⟩
  · cases h0
  · rw [hcz] at h6
    have h7 : ∀ i : Nat, i < 3 → cur.toList[i]? = [Value.int .u32 1, .int .u32 2147483648, vc][i]? := by
      intro i hi
      have h8 : (cur.toList.take 3)[i]? = [Value.int .u32 1, .int .u32 2147483648, vc][i]? := by
        show (cur.toList.take (1 * 3))[i]? = _
        rw [show (1 : Nat) = ([⟨1, 2147483648, []⟩] : List RulP).length from rfl, h6]
      rw [← h8, List.getElem?_take_of_lt hi]
    have h9 : ([⟨1, 2147483648, []⟩] : List RulP).length = 1 := rfl
    rw [h9] at h3
    refine ⟨_, ⟨g, cap, cur, p1, _, p3, q1, _, q3, by rw [h1, e2, e3]; rfl, by omega, h7 0 (by omega), h7 1 (by omega), rfl⟩, fun w H => ?_⟩
    unfold PoD.blocks at H
    rw [h2] at H
    refine H.sub (List.Sublist.cons _ ?_)
    simp only [List.cons_append, List.nil_append]
    refine List.Sublist.cons_cons _ ?_
    simp only [← List.append_assoc]
    exact List.sublist_append_right _ _
set_option maxRecDepth 100000 in
theorem awake10_c {S w0 L} : Fn Tryz.prog 8 #[] S w0 L fun v L' => v = .bool true ∧ L = L' := by
  have hp := fun (L : List Blk) (pb ct rb : Nat) => pw10_c (S := S) (w0 := w0) (L := L) pb ct rb
  refine Fn0 Tryz.func8 Tryz.ntmps8 rfl ?_
  repeat' (first | refine G_seq ?_ | refine G_then_n ?_ | refine G_ret ?_ | (refine G_region (id := 0) ?_ <;> (try refine q_a ?_) <;> (try refine G_nil ?_)) | (refine G_region (id := 1) ?_ <;> (try refine G_op1 ?_; (refine q_c 9 (c := by apply new_q) (h := ?_); rintro _ _ ⟨pb, ct, rb, rfl, rfl⟩; (try simp only [List.eraseIdx_cons_succ]); (try simp only [List.eraseIdx_cons_zero]))) <;> (try refine G_op1 ?_; (refine q_c 10 (c := by apply hp) (h := ?_); rintro _ _ ⟨g, cap, cur, p1, p2, p3, q1, q2, q3, rfl, hsz, h0, h1, rfl⟩; (try simp only [List.eraseIdx_cons_succ]); (try simp only [List.eraseIdx_cons_zero]))) <;> (try refine q_m ?_) <;> (try refine q_x ?_) <;> (try refine q_x ?_) <;> (try refine G_op1 ?_; (refine K1_alloc (t := 36) rfl Tryz.zeroValue36 ?_; intro nb hnb; (try simp only [Value.cells]))) <;> (try refine G_op1 ?_; (refine K1_alloc (t := 25) rfl Tryz.zeroValue25 ?_; intro nb hnb; (try simp only [Value.cells]))) <;> (try refine G_op1 ?_; (refine q_W ?_)) <;> (try refine G_op1 ?_; (refine q_W ?_)) <;> (try refine G_nil ?_)) | (refine G_region (id := 2) ?_ <;> (try refine q_e (q_L sz_25) ?_) <;> (try refine q_e (by exact E_build (t := 25) (fun vs => (match vs with | [] => [Value.int .i64 0, Value.int .i64 0, Value.int .i64 0] | _ => [])) rfl (fun w => by kernel_rfl)) ?_; (try simp only [Value.cells]); (try simp only [List.cons_append]); (try simp only [List.nil_append])) <;> (try refine q_e (by apply E_bin_agg (op := .eql) (t := 25); exact rfl; exact rfl; kernel_rfl; (apply rb_eql_agg Tryz.underlying25 (by kernel_rfl); apply EqF.int; (focus (simp)); exact Tryz.underlying3; exact rfl; exact rfl; exact rfl; apply EqF.int; (focus (simp)); exact Tryz.underlying3; exact rfl; exact rfl; exact rfl; exact EqF.int1 (by simp) Tryz.underlying23 rfl rfl rfl)) ?_) <;> (try refine q_m ?_) <;> (try refine q_y (q_f fo_36_0) ?_) <;> (try refine q_y q_l ?_) <;> (try refine q_y (q_b (r := by exact rb_streq_s)) ?_) <;> (try refine q_p ?_) <;> (try refine q_m ?_) <;> (try refine q_y (q_f fo_36_1) ?_) <;> (try refine q_y q_l ?_) <;> (try refine q_y (by exact q_b (r := by refine rb_eql_t' ?_; first | rfl | (with_reducible assumption) | (decide; done) | omega)) ?_) <;> (try refine q_p ?_) <;> (try refine q_m ?_) <;> (try refine q_y (q_f fo_36_2) ?_) <;> (try refine q_y q_l ?_) <;> (try refine q_y (by apply E_builtin; exact rfl; exact (fun _ => BigFrame.builtin_len ..); apply r_len_slice_e Tryz.underlying30; exact c_19) ?_) <;> (try refine q_y (by exact q_b (r := by refine rb_eql_t' ?_; first | rfl | (with_reducible assumption) | (decide; done) | omega)) ?_) <;> (try refine q_p ?_) <;> (try refine q_m ?_) <;> (try refine q_y (q_f fo_36_2) ?_) <;> (try refine q_y q_l ?_) <;> (try refine q_y (by apply E_indexAddr; exact rfl; exact rfl; (focus (apply r_ixs Tryz.underlying30 sz_73; omega; omega; exact c_1))) ?_) <;> (try refine q_y (q_f fo_73_0) ?_) <;> (try refine q_y (by apply E_load1 (t := 28); exact rfl; exact c_29; kernel_rfl; kernel_rfl; (with_reducible assumption)) ?_) <;> (try refine q_y (by exact q_b (r := by refine rb_eql_t' ?_; first | rfl | (with_reducible assumption) | (decide; done) | omega)) ?_) <;> (try refine q_p ?_) <;> (try refine q_m ?_) <;> (try refine q_y (q_f fo_36_2) ?_) <;> (try refine q_y q_l ?_) <;> (try refine q_y (by apply E_indexAddr; exact rfl; exact rfl; (focus (apply r_ixs Tryz.underlying30 sz_73; omega; omega; exact c_1))) ?_) <;> (try refine q_y (q_f fo_73_1) ?_) <;> (try refine q_y (by apply E_load1 (t := 29); exact rfl; exact c_29; kernel_rfl; kernel_rfl; (with_reducible assumption)) ?_) <;> (try refine q_y (by exact q_b (r := by refine rb_eql_t' ?_; first | rfl | (with_reducible assumption) | (decide; done) | omega)) ?_) <;> (try refine q_p ?_) <;> (try refine q_a ?_) <;> (try refine G_nil ?_)))
  (refine G_done Tryz.results8 (.tmp rfl .nil) ?_)
  exact ⟨_, ⟨rfl, rfl⟩, by intro w H; refine H.sub ?_; (try simp only [List.cons_append, List.nil_append]); repeat (first | exact List.Sublist.refl _ | refine List.Sublist.cons _ ?_)⟩
end Go.Proofs.YtecbgehooembmaaGreatDoor
namespace Go.Proofs.YtecbgehooembmaaGreatDoor
open Go Go.RowKit
theorem RulsG.snoc {L : List Blk} {v : Value} {r : GRul} : ∀ {rs : List GRul} {cz : List Value}, RulsG L rs cz → CndS L v r.conds → RulsG L (rs ++ [r]) (cz ++ [.int .u32 r.num, .int .u32 r.act, v])
  | [], cz, h, hc => by
    obtain rfl : cz = [] := h
    exact ⟨v, [], rfl, hc, rfl⟩
  | _ :: _, _, ⟨v2, cz', h1, h2, h3⟩, hc => ⟨v2, _, by rw [h1]; rfl, h2, RulsG.snoc h3 hc⟩
theorem RulsR.g {rs : List RulP} {cz : List Value} {ec : List Blk} (h : RulsR rs cz ec) (hl : ∀ r ∈ rs, r.conds.length ≤ maxLen) : RulsG ec (rs.map RulP.g) cz := by
  induction h with
  | nil => rfl
  | @snoc rs cz ec r v e _ ho ih =>
    rw [List.map_append]
    obtain ⟨a, c, hv, hs⟩ := ho.sli ec
    refine RulsG.snoc (RulsG.upA e (ih fun q hq => hl q (List.mem_append_left _ hq))) ?_
    refine ⟨a, c, ?_, ?_, ?_⟩
    · show v = .slice a (r.conds.map Cnd.g).length c
      rw [List.length_map]; exact hv
    · show Sli (e ++ ec) a (r.conds.map Cnd.g).length 4 (gcC (r.conds.map Cnd.g))
      rw [List.length_map, gcC_map]; exact hs
    · show (r.conds.map Cnd.g).length ≤ maxLen
      rw [List.length_map]; exact hl r (List.mem_append_right _ (List.mem_singleton.2 rfl))
theorem PoD.ok.polS {d : PoD} {P : Pol} (h : d.ok P) (hl : ∀ r ∈ P.rules, r.conds.length ≤ maxLen) : PolS d.blocks P.g d.vr d.vp d.vq := by
  obtain ⟨r1, r2, e1, s1⟩ := h.vr.sli (d.ep ++ (d.eq ++ d.ec))
  obtain ⟨p1, p2, e2, s2⟩ := h.vp.sli (d.eq ++ d.ec)
  obtain ⟨q1, q2, e3, s3⟩ := h.vq.sli d.ec
  have g := RulsR.g h.rs hl
  have hm : (1000 : Nat) ≤ maxLen := by unfold maxLen; omega
  have elr : P.g.rules.length = P.rules.length := List.length_map ..
  refine ⟨⟨r1, r2, d.cz, by rw [elr]; exact e1, by rw [elr]; exact s1, ((g.upA d.eq).upA d.ep).upA d.er⟩, ⟨p1, p2, e2, s2.upA d.er⟩, ⟨q1, q2, e3, (s3.upA d.ep).upA d.er⟩, ?_, ?_, ?_⟩
  · rw [elr]; have := h.l1; omega
  · show P.paths.length ≤ maxLen
    have := h.l2; omega
  · show P.ports.length ≤ maxLen
    have := h.l3; omega
end Go.Proofs.YtecbgehooembmaaGreatDoor
namespace Go.Proofs.YtecbgehooembmaaGreatDoor
open Go Go.RowKit
set_option maxRecDepth 100000 in
theorem condchk_c {S w0 L} (c : GCnd) (h : c.ok) : Fn Tryz.prog 65 #[.agg c.cells.toArray] S w0 L fun v L' => v = .int .i64 (chkC c : Nat) ∧ L = L' := by
  obtain ⟨a, o, m, x⟩ := c
  obtain ⟨h1, h2, h3, h4⟩ := h
  have key : ∀ k : Nat, chkC ⟨a, o, m, x⟩ = k → Fn Tryz.prog 65 #[.agg (GCnd.cells ⟨a, o, m, x⟩).toArray] S w0 L (fun v L' => v = .int .i64 (k : Nat) ∧ L = L') → Fn Tryz.prog 65 #[.agg (GCnd.cells ⟨a, o, m, x⟩).toArray] S w0 L (fun v L' => v = .int .i64 (chkC ⟨a, o, m, x⟩ : Nat) ∧ L = L') := by
    intro k hk hf; rw [hk]; exact hf
  dsimp only [GCnd.cells] at *
  by_cases c1 : a < 0
  · refine key 204 (by unfold chkC; rw [if_pos (Or.inl c1)]) ?_
    refine Fn1 Tryz.func65 Tryz.ntmps65 rfl rfl ?_
    repeat' (first | refine G_seq ?_ | refine G_then_n ?_ | refine G_then_r ?_ | refine G_blk_r ?_ | refine G_block ?_ | refine G_ret ?_ | refine G_cond_t rfl ?_ | (refine G_region (id := 0) ?_ <;> (try refine G_op1 ?_; (refine K1_box (t := 99) rfl rfl ?_; intro nb hnb; (try simp only [Value.cells]))) <;> (try refine q_a ?_) <;> (try refine G_nil ?_)) | (refine G_region (id := 1) ?_ <;> (try refine q_e (q_f fo_99_0) ?_) <;> (try refine q_e q_l ?_) <;> (try refine q_e (q_b (r := by exact rb_lss_t q_o)) ?_) <;> (try refine q_m ?_) <;> (try refine q_z ?_) <;> (try refine q_z ?_) <;> (try refine q_z ?_) <;> (try refine q_p ?_) <;> (try refine q_a ?_) <;> (try refine G_nil ?_)) | (refine G_region (id := 2) ?_ <;> (try refine q_a ?_) <;> (try refine G_nil ?_)))
    (refine G_done Tryz.results65 (.tmp rfl .nil) ?_)
    exact ⟨_, ⟨rfl, rfl⟩, by intro w H; refine H.sub ?_; (try simp only [List.cons_append, List.nil_append]); repeat (first | exact List.Sublist.refl _ | refine List.Sublist.cons _ ?_)⟩
  by_cases c2 : 5 < a
  · refine key 204 (by unfold chkC; rw [if_pos (Or.inr c2)]) ?_
    refine Fn1 Tryz.func65 Tryz.ntmps65 rfl rfl ?_
    repeat' (first | refine G_seq ?_ | refine G_then_n ?_ | refine G_then_r ?_ | refine G_blk_r ?_ | refine G_block ?_ | refine G_ret ?_ | refine G_cond_t rfl ?_ | (refine G_region (id := 0) ?_ <;> (try refine G_op1 ?_; (refine K1_box (t := 99) rfl rfl ?_; intro nb hnb; (try simp only [Value.cells]))) <;> (try refine q_a ?_) <;> (try refine G_nil ?_)) | (refine G_region (id := 1) ?_ <;> (try refine q_e (q_f fo_99_0) ?_) <;> (try refine q_e q_l ?_) <;> (try refine q_e (q_b (r := by exact rb_lss_f q_o)) ?_) <;> (try refine q_m ?_) <;> (try refine q_y (q_f fo_99_0) ?_) <;> (try refine q_y q_l ?_) <;> (try refine q_y (q_b (r := by exact rb_gtr_t q_o)) ?_) <;> (try refine q_p ?_) <;> (try refine q_a ?_) <;> (try refine G_nil ?_)) | (refine G_region (id := 2) ?_ <;> (try refine q_a ?_) <;> (try refine G_nil ?_)))
    (refine G_done Tryz.results65 (.tmp rfl .nil) ?_)
    exact ⟨_, ⟨rfl, rfl⟩, by intro w H; refine H.sub ?_; (try simp only [List.cons_append, List.nil_append]); repeat (first | exact List.Sublist.refl _ | refine List.Sublist.cons _ ?_)⟩
  have n1 : ¬ (a < 0 ∨ 5 < a) := fun h => h.elim c1 c2
  by_cases c3 : o < 1
  · refine key 210 (by unfold chkC; rw [if_neg n1, if_pos (Or.inl c3)]) ?_
    refine Fn1 Tryz.func65 Tryz.ntmps65 rfl rfl ?_
    repeat' (first | refine G_seq ?_ | refine G_then_n ?_ | refine G_then_r ?_ | refine G_blk_r ?_ | refine G_block ?_ | refine G_ret ?_ | refine G_cond_t rfl ?_ | refine G_cond_f rfl ?_ | (refine G_region (id := 0) ?_ <;> (try refine G_op1 ?_; (refine K1_box (t := 99) rfl rfl ?_; intro nb hnb; (try simp only [Value.cells]))) <;> (try refine q_a ?_) <;> (try refine G_nil ?_)) | (refine G_region (id := 1) ?_ <;> (try refine q_e (q_f fo_99_0) ?_) <;> (try refine q_e q_l ?_) <;> (try refine q_e (q_b (r := by exact rb_lss_f q_o)) ?_) <;> (try refine q_m ?_) <;> (try refine q_y (q_f fo_99_0) ?_) <;> (try refine q_y q_l ?_) <;> (try refine q_y (q_b (r := by exact rb_gtr_f q_o)) ?_) <;> (try refine q_p ?_) <;> (try refine q_a ?_) <;> (try refine G_nil ?_)) | (refine G_region (id := 3) ?_ <;> (try refine q_e (q_f fo_99_1) ?_) <;> (try refine q_e q_l ?_) <;> (try refine q_e (q_b (r := by exact rb_lss_t q_o)) ?_) <;> (try refine q_m ?_) <;> (try refine q_z ?_) <;> (try refine q_z ?_) <;> (try refine q_z ?_) <;> (try refine q_p ?_) <;> (try refine q_a ?_) <;> (try refine G_nil ?_)) | (refine G_region (id := 4) ?_ <;> (try refine q_a ?_) <;> (try refine G_nil ?_)))
    (refine G_done Tryz.results65 (.tmp rfl .nil) ?_)
    exact ⟨_, ⟨rfl, rfl⟩, by intro w H; refine H.sub ?_; (try simp only [List.cons_append, List.nil_append]); repeat (first | exact List.Sublist.refl _ | refine List.Sublist.cons _ ?_)⟩
  by_cases c4 : 7 < o
  · refine key 210 (by unfold chkC; rw [if_neg n1, if_pos (Or.inr c4)]) ?_
    refine Fn1 Tryz.func65 Tryz.ntmps65 rfl rfl ?_
    repeat' (first | refine G_seq ?_ | refine G_then_n ?_ | refine G_then_r ?_ | refine G_blk_r ?_ | refine G_block ?_ | refine G_ret ?_ | refine G_cond_t rfl ?_ | refine G_cond_f rfl ?_ | (refine G_region (id := 0) ?_ <;> (try refine G_op1 ?_; (refine K1_box (t := 99) rfl rfl ?_; intro nb hnb; (try simp only [Value.cells]))) <;> (try refine q_a ?_) <;> (try refine G_nil ?_)) | (refine G_region (id := 1) ?_ <;> (try refine q_e (q_f fo_99_0) ?_) <;> (try refine q_e q_l ?_) <;> (try refine q_e (q_b (r := by exact rb_lss_f q_o)) ?_) <;> (try refine q_m ?_) <;> (try refine q_y (q_f fo_99_0) ?_) <;> (try refine q_y q_l ?_) <;> (try refine q_y (q_b (r := by exact rb_gtr_f q_o)) ?_) <;> (try refine q_p ?_) <;> (try refine q_a ?_) <;> (try refine G_nil ?_)) | (refine G_region (id := 3) ?_ <;> (try refine q_e (q_f fo_99_1) ?_) <;> (try refine q_e q_l ?_) <;> (try refine q_e (q_b (r := by exact rb_lss_f q_o)) ?_) <;> (try refine q_m ?_) <;> (try refine q_y (q_f fo_99_1) ?_) <;> (try refine q_y q_l ?_) <;> (try refine q_y (q_b (r := by exact rb_gtr_t q_o)) ?_) <;> (try refine q_p ?_) <;> (try refine q_a ?_) <;> (try refine G_nil ?_)) | (refine G_region (id := 4) ?_ <;> (try refine q_a ?_) <;> (try refine G_nil ?_)))
    (refine G_done Tryz.results65 (.tmp rfl .nil) ?_)
    exact ⟨_, ⟨rfl, rfl⟩, by intro w H; refine H.sub ?_; (try simp only [List.cons_append, List.nil_append]); repeat (first | exact List.Sublist.refl _ | refine List.Sublist.cons _ ?_)⟩
  have n2 : ¬ (o < 1 ∨ 7 < o) := fun h => h.elim c3 c4
  by_cases c5 : o = 7
  · have n3 : ¬ (o ≠ 7 ∧ m ≠ 0) := fun h => h.1 c5
    by_cases c6 : m = 0
    · refine key 204 (by unfold chkC; dsimp only; rw [if_neg n1, if_neg n2, if_neg n3, if_pos ⟨c5, Or.inl c6⟩]) ?_
      refine Fn1 Tryz.func65 Tryz.ntmps65 rfl rfl ?_
      repeat' (first | refine G_seq ?_ | refine G_then_n ?_ | refine G_then_r ?_ | refine G_blk_r ?_ | refine G_block ?_ | refine G_ret ?_ | refine G_cond_t rfl ?_ | refine G_cond_f rfl ?_ | (refine G_region (id := 0) ?_ <;> (try refine G_op1 ?_; (refine K1_box (t := 99) rfl rfl ?_; intro nb hnb; (try simp only [Value.cells]))) <;> (try refine q_a ?_) <;> (try refine G_nil ?_)) | (refine G_region (id := 1) ?_ <;> (try refine q_e (q_f fo_99_0) ?_) <;> (try refine q_e q_l ?_) <;> (try refine q_e (q_b (r := by exact rb_lss_f q_o)) ?_) <;> (try refine q_m ?_) <;> (try refine q_y (q_f fo_99_0) ?_) <;> (try refine q_y q_l ?_) <;> (try refine q_y (q_b (r := by exact rb_gtr_f q_o)) ?_) <;> (try refine q_p ?_) <;> (try refine q_a ?_) <;> (try refine G_nil ?_)) | (refine G_region (id := 3) ?_ <;> (try refine q_e (q_f fo_99_1) ?_) <;> (try refine q_e q_l ?_) <;> (try refine q_e (q_b (r := by exact rb_lss_f q_o)) ?_) <;> (try refine q_m ?_) <;> (try refine q_y (q_f fo_99_1) ?_) <;> (try refine q_y q_l ?_) <;> (try refine q_y (q_b (r := by exact rb_gtr_f q_o)) ?_) <;> (try refine q_p ?_) <;> (try refine q_a ?_) <;> (try refine G_nil ?_)) | (refine G_region (id := 5) ?_ <;> (try refine q_e (q_f fo_99_1) ?_) <;> (try refine q_e q_l ?_) <;> (try refine q_e (by exact q_b (r := by refine rb_neq_f ?_; first | rfl | (with_reducible assumption) | (decide; done) | omega)) ?_) <;> (try refine q_m ?_) <;> (try refine q_z ?_) <;> (try refine q_z ?_) <;> (try refine q_z ?_) <;> (try refine q_p ?_) <;> (try refine q_a ?_) <;> (try refine G_nil ?_)) | (refine G_region (id := 7) ?_ <;> (try refine q_e (q_f fo_99_1) ?_) <;> (try refine q_e q_l ?_) <;> (try refine q_e (by exact q_b (r := by refine rb_eql_t' ?_; first | rfl | (with_reducible assumption) | (decide; done) | omega)) ?_) <;> (try refine q_m ?_) <;> (try refine q_y (q_f fo_99_2) ?_) <;> (try refine q_y q_l ?_) <;> (try refine q_y (by exact q_b (r := by refine rb_eql_t' ?_; first | rfl | (with_reducible assumption) | (decide; done) | omega)) ?_) <;> (try refine q_y (E_move rfl) ?_) <;> (try refine q_z ?_) <;> (try refine q_z ?_) <;> (try refine q_z ?_) <;> (try refine q_z ?_) <;> (try refine q_z ?_) <;> (try refine q_z ?_) <;> (try refine q_y (E_pick rfl rfl) ?_) <;> (try refine q_p ?_) <;> (try refine q_a ?_) <;> (try refine G_nil ?_)) | (refine G_region (id := 8) ?_ <;> (try refine q_a ?_) <;> (try refine G_nil ?_)))
      (refine G_done Tryz.results65 (.tmp rfl .nil) ?_)
      exact ⟨_, ⟨rfl, rfl⟩, by intro w H; refine H.sub ?_; (try simp only [List.cons_append, List.nil_append]); repeat (first | exact List.Sublist.refl _ | refine List.Sublist.cons _ ?_)⟩
    by_cases c7 : iandn (x : Int) (m : Int) = 0
    · refine key 0 (by unfold chkC; dsimp only; rw [if_neg n1, if_neg n2, if_neg n3, if_neg (fun h => h.2.elim c6 (fun h => h c7))]) ?_
      refine Fn1 Tryz.func65 Tryz.ntmps65 rfl rfl ?_
      repeat' (first | refine G_seq ?_ | refine G_then_n ?_ | refine G_blk_n ?_ | refine G_block ?_ | refine G_skip ?_ | refine G_ret ?_ | refine G_cond_f rfl ?_ | (refine G_region (id := 0) ?_ <;> (try refine G_op1 ?_; (refine K1_box (t := 99) rfl rfl ?_; intro nb hnb; (try simp only [Value.cells]))) <;> (try refine q_a ?_) <;> (try refine G_nil ?_)) | (refine G_region (id := 1) ?_ <;> (try refine q_e (q_f fo_99_0) ?_) <;> (try refine q_e q_l ?_) <;> (try refine q_e (q_b (r := by exact rb_lss_f q_o)) ?_) <;> (try refine q_m ?_) <;> (try refine q_y (q_f fo_99_0) ?_) <;> (try refine q_y q_l ?_) <;> (try refine q_y (q_b (r := by exact rb_gtr_f q_o)) ?_) <;> (try refine q_p ?_) <;> (try refine q_a ?_) <;> (try refine G_nil ?_)) | (refine G_region (id := 3) ?_ <;> (try refine q_e (q_f fo_99_1) ?_) <;> (try refine q_e q_l ?_) <;> (try refine q_e (q_b (r := by exact rb_lss_f q_o)) ?_) <;> (try refine q_m ?_) <;> (try refine q_y (q_f fo_99_1) ?_) <;> (try refine q_y q_l ?_) <;> (try refine q_y (q_b (r := by exact rb_gtr_f q_o)) ?_) <;> (try refine q_p ?_) <;> (try refine q_a ?_) <;> (try refine G_nil ?_)) | (refine G_region (id := 5) ?_ <;> (try refine q_e (q_f fo_99_1) ?_) <;> (try refine q_e q_l ?_) <;> (try refine q_e (by exact q_b (r := by refine rb_neq_f ?_; first | rfl | (with_reducible assumption) | (decide; done) | omega)) ?_) <;> (try refine q_m ?_) <;> (try refine q_z ?_) <;> (try refine q_z ?_) <;> (try refine q_z ?_) <;> (try refine q_p ?_) <;> (try refine q_a ?_) <;> (try refine G_nil ?_)) | (refine G_region (id := 7) ?_ <;> (try refine q_e (q_f fo_99_1) ?_) <;> (try refine q_e q_l ?_) <;> (try refine q_e (by exact q_b (r := by refine rb_eql_t' ?_; first | rfl | (with_reducible assumption) | (decide; done) | omega)) ?_) <;> (try refine q_m ?_) <;> (try refine q_y (q_f fo_99_2) ?_) <;> (try refine q_y q_l ?_) <;> (try refine q_y (q_b (r := by exact rb_eql_f q_o)) ?_) <;> (try refine q_y (E_move rfl) ?_) <;> (try refine q_y (q_f fo_99_3) ?_) <;> (try refine q_y q_l ?_) <;> (try refine q_y (q_f fo_99_2) ?_) <;> (try refine q_y q_l ?_) <;> (try refine q_y (q_b (r := by refine rb_andn ?_ ?_; (focus (refine ⟨rfl, ⟨?_, ?_⟩⟩; omega; (focus (simp only [IntKind.bits]; omega)))); (focus (refine ⟨rfl, ⟨?_, ?_⟩⟩; omega; (focus (simp only [IntKind.bits]; omega)))))) ?_) <;> (try refine q_y (by exact q_b (r := by refine rb_neq_f ?_; first | rfl | (with_reducible assumption) | (decide; done) | omega)) ?_) <;> (try refine q_y (E_pick rfl rfl) ?_) <;> (try refine q_p ?_) <;> (try refine q_a ?_) <;> (try refine G_nil ?_)) | (refine G_region (id := 9) ?_ <;> (try refine q_a ?_) <;> (try refine G_nil ?_)))
      (refine G_done Tryz.results65 (.tmp rfl .nil) ?_)
      exact ⟨_, ⟨rfl, rfl⟩, by intro w H; refine H.sub ?_; (try simp only [List.cons_append, List.nil_append]); repeat (first | exact List.Sublist.refl _ | refine List.Sublist.cons _ ?_)⟩
    · refine key 204 (by unfold chkC; dsimp only; rw [if_neg n1, if_neg n2, if_neg n3, if_pos ⟨c5, Or.inr c7⟩]) ?_
      refine Fn1 Tryz.func65 Tryz.ntmps65 rfl rfl ?_
      repeat' (first | refine G_seq ?_ | refine G_then_n ?_ | refine G_then_r ?_ | refine G_blk_r ?_ | refine G_block ?_ | refine G_ret ?_ | refine G_cond_t rfl ?_ | refine G_cond_f rfl ?_ | (refine G_region (id := 0) ?_ <;> (try refine G_op1 ?_; (refine K1_box (t := 99) rfl rfl ?_; intro nb hnb; (try simp only [Value.cells]))) <;> (try refine q_a ?_) <;> (try refine G_nil ?_)) | (refine G_region (id := 1) ?_ <;> (try refine q_e (q_f fo_99_0) ?_) <;> (try refine q_e q_l ?_) <;> (try refine q_e (q_b (r := by exact rb_lss_f q_o)) ?_) <;> (try refine q_m ?_) <;> (try refine q_y (q_f fo_99_0) ?_) <;> (try refine q_y q_l ?_) <;> (try refine q_y (q_b (r := by exact rb_gtr_f q_o)) ?_) <;> (try refine q_p ?_) <;> (try refine q_a ?_) <;> (try refine G_nil ?_)) | (refine G_region (id := 3) ?_ <;> (try refine q_e (q_f fo_99_1) ?_) <;> (try refine q_e q_l ?_) <;> (try refine q_e (q_b (r := by exact rb_lss_f q_o)) ?_) <;> (try refine q_m ?_) <;> (try refine q_y (q_f fo_99_1) ?_) <;> (try refine q_y q_l ?_) <;> (try refine q_y (q_b (r := by exact rb_gtr_f q_o)) ?_) <;> (try refine q_p ?_) <;> (try refine q_a ?_) <;> (try refine G_nil ?_)) | (refine G_region (id := 5) ?_ <;> (try refine q_e (q_f fo_99_1) ?_) <;> (try refine q_e q_l ?_) <;> (try refine q_e (by exact q_b (r := by refine rb_neq_f ?_; first | rfl | (with_reducible assumption) | (decide; done) | omega)) ?_) <;> (try refine q_m ?_) <;> (try refine q_z ?_) <;> (try refine q_z ?_) <;> (try refine q_z ?_) <;> (try refine q_p ?_) <;> (try refine q_a ?_) <;> (try refine G_nil ?_)) | (refine G_region (id := 7) ?_ <;> (try refine q_e (q_f fo_99_1) ?_) <;> (try refine q_e q_l ?_) <;> (try refine q_e (by exact q_b (r := by refine rb_eql_t' ?_; first | rfl | (with_reducible assumption) | (decide; done) | omega)) ?_) <;> (try refine q_m ?_) <;> (try refine q_y (q_f fo_99_2) ?_) <;> (try refine q_y q_l ?_) <;> (try refine q_y (q_b (r := by exact rb_eql_f q_o)) ?_) <;> (try refine q_y (E_move rfl) ?_) <;> (try refine q_y (q_f fo_99_3) ?_) <;> (try refine q_y q_l ?_) <;> (try refine q_y (q_f fo_99_2) ?_) <;> (try refine q_y q_l ?_) <;> (try refine q_y (q_b (r := by refine rb_andn ?_ ?_; (focus (refine ⟨rfl, ⟨?_, ?_⟩⟩; omega; (focus (simp only [IntKind.bits]; omega)))); (focus (refine ⟨rfl, ⟨?_, ?_⟩⟩; omega; (focus (simp only [IntKind.bits]; omega)))))) ?_) <;> (try refine q_y (q_b (r := by exact rb_neq_t q_o)) ?_) <;> (try refine q_y (E_pick rfl rfl) ?_) <;> (try refine q_p ?_) <;> (try refine q_a ?_) <;> (try refine G_nil ?_)) | (refine G_region (id := 8) ?_ <;> (try refine q_a ?_) <;> (try refine G_nil ?_)))
      (refine G_done Tryz.results65 (.tmp rfl .nil) ?_)
      exact ⟨_, ⟨rfl, rfl⟩, by intro w H; refine H.sub ?_; (try simp only [List.cons_append, List.nil_append]); repeat (first | exact List.Sublist.refl _ | refine List.Sublist.cons _ ?_)⟩
  · by_cases c6 : m = 0
    · refine key 0 (by unfold chkC; dsimp only; rw [if_neg n1, if_neg n2, if_neg (fun h => h.2 c6), if_neg (fun h => c5 h.1)]) ?_
      refine Fn1 Tryz.func65 Tryz.ntmps65 rfl rfl ?_
      repeat' (first | refine G_seq ?_ | refine G_then_n ?_ | refine G_blk_n ?_ | refine G_block ?_ | refine G_skip ?_ | refine G_ret ?_ | refine G_cond_f rfl ?_ | (refine G_region (id := 0) ?_ <;> (try refine G_op1 ?_; (refine K1_box (t := 99) rfl rfl ?_; intro nb hnb; (try simp only [Value.cells]))) <;> (try refine q_a ?_) <;> (try refine G_nil ?_)) | (refine G_region (id := 1) ?_ <;> (try refine q_e (q_f fo_99_0) ?_) <;> (try refine q_e q_l ?_) <;> (try refine q_e (q_b (r := by exact rb_lss_f q_o)) ?_) <;> (try refine q_m ?_) <;> (try refine q_y (q_f fo_99_0) ?_) <;> (try refine q_y q_l ?_) <;> (try refine q_y (q_b (r := by exact rb_gtr_f q_o)) ?_) <;> (try refine q_p ?_) <;> (try refine q_a ?_) <;> (try refine G_nil ?_)) | (refine G_region (id := 3) ?_ <;> (try refine q_e (q_f fo_99_1) ?_) <;> (try refine q_e q_l ?_) <;> (try refine q_e (q_b (r := by exact rb_lss_f q_o)) ?_) <;> (try refine q_m ?_) <;> (try refine q_y (q_f fo_99_1) ?_) <;> (try refine q_y q_l ?_) <;> (try refine q_y (q_b (r := by exact rb_gtr_f q_o)) ?_) <;> (try refine q_p ?_) <;> (try refine q_a ?_) <;> (try refine G_nil ?_)) | (refine G_region (id := 5) ?_ <;> (try refine q_e (q_f fo_99_1) ?_) <;> (try refine q_e q_l ?_) <;> (try refine q_e (q_b (r := by exact rb_neq_t q_o)) ?_) <;> (try refine q_m ?_) <;> (try refine q_y (q_f fo_99_2) ?_) <;> (try refine q_y q_l ?_) <;> (try refine q_y (by exact q_b (r := by refine rb_neq_f ?_; first | rfl | (with_reducible assumption) | (decide; done) | omega)) ?_) <;> (try refine q_p ?_) <;> (try refine q_a ?_) <;> (try refine G_nil ?_)) | (refine G_region (id := 7) ?_ <;> (try refine q_e (q_f fo_99_1) ?_) <;> (try refine q_e q_l ?_) <;> (try refine q_e (q_b (r := by exact rb_eql_f q_o)) ?_) <;> (try refine q_m ?_) <;> (try refine q_z ?_) <;> (try refine q_z ?_) <;> (try refine q_z ?_) <;> (try refine q_z ?_) <;> (try refine G_op1 ?_; (refine K1_nou rfl rfl rfl ?_)) <;> (try refine G_op1 ?_; (refine K1_nou rfl rfl rfl ?_)) <;> (try refine G_op1 ?_; (refine K1_nou rfl rfl rfl ?_)) <;> (try refine G_op1 ?_; (refine K1_nou rfl rfl rfl ?_)) <;> (try refine G_op1 ?_; (refine K1_nou rfl rfl rfl ?_)) <;> (try refine G_op1 ?_; (refine K1_nou rfl rfl rfl ?_)) <;> (try refine q_z ?_) <;> (try refine q_p ?_) <;> (try refine q_a ?_) <;> (try refine G_nil ?_)) | (refine G_region (id := 9) ?_ <;> (try refine q_a ?_) <;> (try refine G_nil ?_)))
      (refine G_done Tryz.results65 (.tmp rfl .nil) ?_)
      exact ⟨_, ⟨rfl, rfl⟩, by intro w H; refine H.sub ?_; (try simp only [List.cons_append, List.nil_append]); repeat (first | exact List.Sublist.refl _ | refine List.Sublist.cons _ ?_)⟩
    · refine key 203 (by unfold chkC; dsimp only; rw [if_neg n1, if_neg n2, if_pos ⟨c5, c6⟩]) ?_
      refine Fn1 Tryz.func65 Tryz.ntmps65 rfl rfl ?_
      repeat' (first | refine G_seq ?_ | refine G_then_n ?_ | refine G_then_r ?_ | refine G_blk_r ?_ | refine G_block ?_ | refine G_ret ?_ | refine G_cond_t rfl ?_ | refine G_cond_f rfl ?_ | (refine G_region (id := 0) ?_ <;> (try refine G_op1 ?_; (refine K1_box (t := 99) rfl rfl ?_; intro nb hnb; (try simp only [Value.cells]))) <;> (try refine q_a ?_) <;> (try refine G_nil ?_)) | (refine G_region (id := 1) ?_ <;> (try refine q_e (q_f fo_99_0) ?_) <;> (try refine q_e q_l ?_) <;> (try refine q_e (q_b (r := by exact rb_lss_f q_o)) ?_) <;> (try refine q_m ?_) <;> (try refine q_y (q_f fo_99_0) ?_) <;> (try refine q_y q_l ?_) <;> (try refine q_y (q_b (r := by exact rb_gtr_f q_o)) ?_) <;> (try refine q_p ?_) <;> (try refine q_a ?_) <;> (try refine G_nil ?_)) | (refine G_region (id := 3) ?_ <;> (try refine q_e (q_f fo_99_1) ?_) <;> (try refine q_e q_l ?_) <;> (try refine q_e (q_b (r := by exact rb_lss_f q_o)) ?_) <;> (try refine q_m ?_) <;> (try refine q_y (q_f fo_99_1) ?_) <;> (try refine q_y q_l ?_) <;> (try refine q_y (q_b (r := by exact rb_gtr_f q_o)) ?_) <;> (try refine q_p ?_) <;> (try refine q_a ?_) <;> (try refine G_nil ?_)) | (refine G_region (id := 5) ?_ <;> (try refine q_e (q_f fo_99_1) ?_) <;> (try refine q_e q_l ?_) <;> (try refine q_e (q_b (r := by exact rb_neq_t q_o)) ?_) <;> (try refine q_m ?_) <;> (try refine q_y (q_f fo_99_2) ?_) <;> (try refine q_y q_l ?_) <;> (try refine q_y (q_b (r := by exact rb_neq_t q_o)) ?_) <;> (try refine q_p ?_) <;> (try refine q_a ?_) <;> (try refine G_nil ?_)) | (refine G_region (id := 6) ?_ <;> (try refine q_a ?_) <;> (try refine G_nil ?_)))
      (refine G_done Tryz.results65 (.tmp rfl .nil) ?_)
      exact ⟨_, ⟨rfl, rfl⟩, by intro w H; refine H.sub ?_; (try simp only [List.cons_append, List.nil_append]); repeat (first | exact List.Sublist.refl _ | refine List.Sublist.cons _ ?_)⟩
set_option maxRecDepth 100000 in
theorem akind_c {S w0 L} (a : Int) (h : 0 ≤ a ∧ a < 4294967296) : Fn Tryz.prog 59 #[.int .u32 a] S w0 L fun v L' => v = .int .u32 (kndA a) ∧ L = L' := by
  have h8 := iandn_le a 65535 h.1
  have hj : kndA a = if iandn a 65535 = 327680 ∨ iandn a 65535 = 2147221504 ∨ iandn a 65535 = 2147418112 then iandn a 65535 else 2147483648 := rfl
  rw [hj]
  clear hj
  by_cases c1 : iandn a 65535 = 327680
  · rw [if_pos (Or.inl c1)]
    refine Fn1 Tryz.func59 Tryz.ntmps59 rfl rfl ?_
    repeat' (first | refine G_seq ?_ | refine G_then_n ?_ | refine G_then_r ?_ | refine G_blk_r ?_ | refine G_block ?_ | refine G_skip ?_ | refine G_ret ?_ | refine G_cond_t rfl ?_ | (refine G_region (id := 0) ?_ <;> (try refine q_a ?_) <;> (try refine G_nil ?_)) | (refine G_region (id := 1) ?_ <;> (try refine q_m ?_) <;> (try refine q_e (q_b (r := by refine rb_andn ?_ ?_; (focus (refine ⟨rfl, ⟨?_, ?_⟩⟩; omega; (focus (simp only [IntKind.bits]; omega)))); (focus (refine ⟨rfl, ⟨?_, ?_⟩⟩; omega; (focus (simp only [IntKind.bits]; omega)))))) ?_) <;> (try refine q_a ?_) <;> (try refine G_nil ?_)) | (refine G_region (id := 2) ?_ <;> (try refine q_m ?_) <;> (try refine G_nil ?_)) | (refine G_region (id := 3) ?_ <;> (try refine q_e (by exact q_b (r := by refine rb_eql_t' ?_; first | rfl | (with_reducible assumption) | (decide; done) | omega)) ?_) <;> (try refine q_a ?_) <;> (try refine G_nil ?_)) | (refine G_region (id := 6) ?_ <;> (try refine q_m ?_) <;> (try refine q_a ?_) <;> (try refine G_nil ?_)))
    (refine G_done Tryz.results59 (.tmp rfl .nil) ?_)
    exact ⟨_, ⟨rfl, rfl⟩, by intro w H; refine H.sub ?_; (try simp only [List.cons_append, List.nil_append]); repeat (exact List.Sublist.refl _)⟩
  by_cases c2 : iandn a 65535 = 2147221504
  · rw [if_pos (Or.inr (Or.inl c2))]
    refine Fn1 Tryz.func59 Tryz.ntmps59 rfl rfl ?_
    repeat' (first | refine G_seq ?_ | refine G_then_n ?_ | refine G_then_r ?_ | refine G_blk_r ?_ | refine G_block ?_ | refine G_skip ?_ | refine G_ret ?_ | refine G_cond_t rfl ?_ | refine G_cond_f rfl ?_ | (refine G_region (id := 0) ?_ <;> (try refine q_a ?_) <;> (try refine G_nil ?_)) | (refine G_region (id := 1) ?_ <;> (try refine q_m ?_) <;> (try refine q_e (q_b (r := by refine rb_andn ?_ ?_; (focus (refine ⟨rfl, ⟨?_, ?_⟩⟩; omega; (focus (simp only [IntKind.bits]; omega)))); (focus (refine ⟨rfl, ⟨?_, ?_⟩⟩; omega; (focus (simp only [IntKind.bits]; omega)))))) ?_) <;> (try refine q_a ?_) <;> (try refine G_nil ?_)) | (refine G_region (id := 2) ?_ <;> (try refine q_m ?_) <;> (try refine G_nil ?_)) | (refine G_region (id := 3) ?_ <;> (try refine q_e (q_b (r := by exact rb_eql_f q_o)) ?_) <;> (try refine q_a ?_) <;> (try refine G_nil ?_)) | (refine G_region (id := 4) ?_ <;> (try refine q_e (by exact q_b (r := by refine rb_eql_t' ?_; first | rfl | (with_reducible assumption) | (decide; done) | omega)) ?_) <;> (try refine q_a ?_) <;> (try refine G_nil ?_)) | (refine G_region (id := 6) ?_ <;> (try refine q_m ?_) <;> (try refine q_a ?_) <;> (try refine G_nil ?_)))
    (refine G_done Tryz.results59 (.tmp rfl .nil) ?_)
    exact ⟨_, ⟨rfl, rfl⟩, by intro w H; refine H.sub ?_; (try simp only [List.cons_append, List.nil_append]); repeat (exact List.Sublist.refl _)⟩
  by_cases c3 : iandn a 65535 = 2147418112
  · rw [if_pos (Or.inr (Or.inr c3))]
    refine Fn1 Tryz.func59 Tryz.ntmps59 rfl rfl ?_
    repeat' (first | refine G_seq ?_ | refine G_then_n ?_ | refine G_then_r ?_ | refine G_blk_r ?_ | refine G_block ?_ | refine G_ret ?_ | refine G_cond_t rfl ?_ | refine G_cond_f rfl ?_ | (refine G_region (id := 0) ?_ <;> (try refine q_a ?_) <;> (try refine G_nil ?_)) | (refine G_region (id := 1) ?_ <;> (try refine q_m ?_) <;> (try refine q_e (q_b (r := by refine rb_andn ?_ ?_; (focus (refine ⟨rfl, ⟨?_, ?_⟩⟩; omega; (focus (simp only [IntKind.bits]; omega)))); (focus (refine ⟨rfl, ⟨?_, ?_⟩⟩; omega; (focus (simp only [IntKind.bits]; omega)))))) ?_) <;> (try refine q_a ?_) <;> (try refine G_nil ?_)) | (refine G_region (id := 2) ?_ <;> (try refine q_m ?_) <;> (try refine G_nil ?_)) | (refine G_region (id := 3) ?_ <;> (try refine q_e (q_b (r := by exact rb_eql_f q_o)) ?_) <;> (try refine q_a ?_) <;> (try refine G_nil ?_)) | (refine G_region (id := 4) ?_ <;> (try refine q_e (q_b (r := by exact rb_eql_f q_o)) ?_) <;> (try refine q_a ?_) <;> (try refine G_nil ?_)) | (refine G_region (id := 5) ?_ <;> (try refine q_e (by exact q_b (r := by refine rb_eql_t' ?_; first | rfl | (with_reducible assumption) | (decide; done) | omega)) ?_) <;> (try refine q_a ?_) <;> (try refine G_nil ?_)) | (refine G_region (id := 6) ?_ <;> (try refine q_m ?_) <;> (try refine q_a ?_) <;> (try refine G_nil ?_)))
    (refine G_done Tryz.results59 (.tmp rfl .nil) ?_)
    exact ⟨_, ⟨rfl, rfl⟩, by intro w H; refine H.sub ?_; (try simp only [List.cons_append, List.nil_append]); repeat (exact List.Sublist.refl _)⟩
  rw [if_neg (fun h => h.elim c1 (fun h => h.elim c2 c3))]
  refine Fn1 Tryz.func59 Tryz.ntmps59 rfl rfl ?_
  repeat' (first | refine G_seq ?_ | refine G_then_n ?_ | refine G_blk_n ?_ | refine G_block ?_ | refine G_skip ?_ | refine G_ret ?_ | refine G_cond_f rfl ?_ | (refine G_region (id := 0) ?_ <;> (try refine q_a ?_) <;> (try refine G_nil ?_)) | (refine G_region (id := 1) ?_ <;> (try refine q_m ?_) <;> (try refine q_e (q_b (r := by refine rb_andn ?_ ?_; (focus (refine ⟨rfl, ⟨?_, ?_⟩⟩; omega; (focus (simp only [IntKind.bits]; omega)))); (focus (refine ⟨rfl, ⟨?_, ?_⟩⟩; omega; (focus (simp only [IntKind.bits]; omega)))))) ?_) <;> (try refine q_a ?_) <;> (try refine G_nil ?_)) | (refine G_region (id := 2) ?_ <;> (try refine q_m ?_) <;> (try refine G_nil ?_)) | (refine G_region (id := 3) ?_ <;> (try refine q_e (q_b (r := by exact rb_eql_f q_o)) ?_) <;> (try refine q_a ?_) <;> (try refine G_nil ?_)) | (refine G_region (id := 4) ?_ <;> (try refine q_e (q_b (r := by exact rb_eql_f q_o)) ?_) <;> (try refine q_a ?_) <;> (try refine G_nil ?_)) | (refine G_region (id := 5) ?_ <;> (try refine q_e (q_b (r := by exact rb_eql_f q_o)) ?_) <;> (try refine q_a ?_) <;> (try refine G_nil ?_)) | (refine G_region (id := 7) ?_ <;> (try refine q_a ?_) <;> (try refine G_nil ?_)))
  (refine G_done Tryz.results59 (.tmp rfl .nil) ?_)
  exact ⟨_, ⟨rfl, rfl⟩, by intro w H; refine H.sub ?_; (try simp only [List.cons_append, List.nil_append]); repeat (exact List.Sublist.refl _)⟩
set_option maxRecDepth 100000 in
theorem actok_c {S w0 L} (a : Int) (h : 0 ≤ a ∧ a < 4294967296) : Fn Tryz.prog 40 #[.int .u32 a] S w0 L fun v L' => v = .bool (actOk a) ∧ L = L' := by
  have hk := fun (L : List Blk) => akind_c (S := S) (w0 := w0) (L := L) a h
  have hr : ∀ b : Bool, actOk a = b → Fn Tryz.prog 40 #[.int .u32 a] S w0 L (fun v L' => v = .bool b ∧ L = L') → Fn Tryz.prog 40 #[.int .u32 a] S w0 L (fun v L' => v = .bool (actOk a) ∧ L = L') := by
    intro k hk hf; rw [hk]; exact hf
  by_cases c1 : a = 2147483648
  · refine hr true (by unfold actOk; rw [decide_eq_true (Or.inl c1)]) ?_
    subst c1
    clear hk hr
    refine Fn1 Tryz.func40 Tryz.ntmps40 rfl rfl ?_
    repeat' (first | refine G_seq ?_ | refine G_then_n ?_ | refine G_then_r ?_ | refine G_blk_r ?_ | refine G_block ?_ | refine G_skip ?_ | refine G_ret ?_ | refine G_cond_t rfl ?_ | (refine G_region (id := 0) ?_ <;> (try refine q_a ?_) <;> (try refine G_nil ?_)) | (refine G_region (id := 1) ?_ <;> (try refine q_m ?_) <;> (try refine G_nil ?_)) | (refine G_region (id := 2) ?_ <;> (try refine q_e (by exact q_b (r := by refine rb_eql_t' ?_; first | rfl | (with_reducible assumption) | (decide; done) | omega)) ?_) <;> (try refine q_a ?_) <;> (try refine G_nil ?_)) | (refine G_region (id := 5) ?_ <;> (try refine q_a ?_) <;> (try refine G_nil ?_)))
    (refine G_done Tryz.results40 (.tmp rfl .nil) ?_)
    exact ⟨_, ⟨rfl, rfl⟩, by intro w H; refine H.sub ?_; (try simp only [List.cons_append, List.nil_append]); repeat (exact List.Sublist.refl _)⟩
  by_cases c2 : a = 2147221504
  · refine hr true (by unfold actOk; rw [decide_eq_true (Or.inr (Or.inl c2))]) ?_
    subst c2
    clear hk hr
    refine Fn1 Tryz.func40 Tryz.ntmps40 rfl rfl ?_
    repeat' (first | refine G_seq ?_ | refine G_then_n ?_ | refine G_then_r ?_ | refine G_blk_r ?_ | refine G_block ?_ | refine G_skip ?_ | refine G_ret ?_ | refine G_cond_t rfl ?_ | refine G_cond_f rfl ?_ | (refine G_region (id := 0) ?_ <;> (try refine q_a ?_) <;> (try refine G_nil ?_)) | (refine G_region (id := 1) ?_ <;> (try refine q_m ?_) <;> (try refine G_nil ?_)) | (refine G_region (id := 2) ?_ <;> (try refine q_e (q_b (r := by exact rb_eql_f q_o)) ?_) <;> (try refine q_a ?_) <;> (try refine G_nil ?_)) | (refine G_region (id := 3) ?_ <;> (try refine q_e (by exact q_b (r := by refine rb_eql_t' ?_; first | rfl | (with_reducible assumption) | (decide; done) | omega)) ?_) <;> (try refine q_a ?_) <;> (try refine G_nil ?_)) | (refine G_region (id := 5) ?_ <;> (try refine q_a ?_) <;> (try refine G_nil ?_)))
    (refine G_done Tryz.results40 (.tmp rfl .nil) ?_)
    exact ⟨_, ⟨rfl, rfl⟩, by intro w H; refine H.sub ?_; (try simp only [List.cons_append, List.nil_append]); repeat (exact List.Sublist.refl _)⟩
  by_cases c3 : a = 2147418112
  · refine hr true (by unfold actOk; rw [decide_eq_true (Or.inr (Or.inr (Or.inl c3)))]) ?_
    subst c3
    clear hk hr
    refine Fn1 Tryz.func40 Tryz.ntmps40 rfl rfl ?_
    repeat' (first | refine G_seq ?_ | refine G_then_n ?_ | refine G_then_r ?_ | refine G_blk_r ?_ | refine G_block ?_ | refine G_ret ?_ | refine G_cond_t rfl ?_ | refine G_cond_f rfl ?_ | (refine G_region (id := 0) ?_ <;> (try refine q_a ?_) <;> (try refine G_nil ?_)) | (refine G_region (id := 1) ?_ <;> (try refine q_m ?_) <;> (try refine G_nil ?_)) | (refine G_region (id := 2) ?_ <;> (try refine q_e (q_b (r := by exact rb_eql_f q_o)) ?_) <;> (try refine q_a ?_) <;> (try refine G_nil ?_)) | (refine G_region (id := 3) ?_ <;> (try refine q_e (q_b (r := by exact rb_eql_f q_o)) ?_) <;> (try refine q_a ?_) <;> (try refine G_nil ?_)) | (refine G_region (id := 4) ?_ <;> (try refine q_e (by exact q_b (r := by refine rb_eql_t' ?_; first | rfl | (with_reducible assumption) | (decide; done) | omega)) ?_) <;> (try refine q_a ?_) <;> (try refine G_nil ?_)) | (refine G_region (id := 5) ?_ <;> (try refine q_a ?_) <;> (try refine G_nil ?_)))
    (refine G_done Tryz.results40 (.tmp rfl .nil) ?_)
    exact ⟨_, ⟨rfl, rfl⟩, by intro w H; refine H.sub ?_; (try simp only [List.cons_append, List.nil_append]); repeat (exact List.Sublist.refl _)⟩
  by_cases c4 : kndA a = 327680
  · by_cases c5 : 1 ≤ iand a 65535
    · by_cases c6 : iand a 65535 ≤ 4095
      · refine hr true (by unfold actOk; rw [decide_eq_true (Or.inr (Or.inr (Or.inr ⟨c4, c5, c6⟩)))]) ?_
        clear hr
        rw [c4] at hk
        refine Fn1 Tryz.func40 Tryz.ntmps40 rfl rfl ?_
        repeat' (first | refine G_seq ?_ | refine G_then_n ?_ | refine G_blk_n ?_ | refine G_block ?_ | refine G_skip ?_ | refine G_ret ?_ | refine G_cond_f rfl ?_ | (refine G_region (id := 0) ?_ <;> (try refine q_a ?_) <;> (try refine G_nil ?_)) | (refine G_region (id := 1) ?_ <;> (try refine q_m ?_) <;> (try refine G_nil ?_)) | (refine G_region (id := 2) ?_ <;> (try refine q_e (q_b (r := by exact rb_eql_f q_o)) ?_) <;> (try refine q_a ?_) <;> (try refine G_nil ?_)) | (refine G_region (id := 3) ?_ <;> (try refine q_e (q_b (r := by exact rb_eql_f q_o)) ?_) <;> (try refine q_a ?_) <;> (try refine G_nil ?_)) | (refine G_region (id := 4) ?_ <;> (try refine q_e (q_b (r := by exact rb_eql_f q_o)) ?_) <;> (try refine q_a ?_) <;> (try refine G_nil ?_)) | (refine G_region (id := 6) ?_ <;> (try refine q_m ?_) <;> (try refine q_e (q_b (r := by refine rb_and ?_ ?_; (focus (refine ⟨rfl, ⟨?_, ?_⟩⟩; omega; (focus (simp only [IntKind.bits]; omega)))); (focus (refine ⟨rfl, ⟨?_, ?_⟩⟩; omega; (focus (simp only [IntKind.bits]; omega)))))) ?_) <;> (try refine q_a ?_) <;> (try refine G_nil ?_)) | (refine G_region (id := 7) ?_ <;> (try refine q_m ?_) <;> (try refine G_op1 ?_; (refine q_c 59 (c := by apply hk) (h := ?_); rintro _ _ ⟨rfl, rfl⟩; (try simp only [List.eraseIdx_cons_succ]); (try simp only [List.eraseIdx_cons_zero]))) <;> (try refine q_e (by exact q_b (r := by refine rb_eql_t' ?_; first | rfl | (with_reducible assumption) | (decide; done) | omega)) ?_) <;> (try refine q_m ?_) <;> (try refine q_y (E_move rfl) ?_) <;> (try refine q_y (q_b (r := by exact rb_geq_t q_o)) ?_) <;> (try refine q_p ?_) <;> (try refine q_m ?_) <;> (try refine q_y (E_move rfl) ?_) <;> (try refine q_y (q_b (r := by exact rb_leq_t q_o)) ?_) <;> (try refine q_p ?_) <;> (try refine q_a ?_) <;> (try refine G_nil ?_)))
        (refine G_done Tryz.results40 (.tmp rfl .nil) ?_)
        exact ⟨_, ⟨rfl, rfl⟩, by intro w H; refine H.sub ?_; (try simp only [List.cons_append, List.nil_append]); repeat (exact List.Sublist.refl _)⟩
      · refine hr false (by unfold actOk; rw [decide_eq_false (fun h => h.elim c1 (fun h => h.elim c2 (fun h => h.elim c3 (fun h => c6 h.2.2))))]) ?_
        clear hr
        rw [c4] at hk
        refine Fn1 Tryz.func40 Tryz.ntmps40 rfl rfl ?_
        repeat' (first | refine G_seq ?_ | refine G_then_n ?_ | refine G_blk_n ?_ | refine G_block ?_ | refine G_skip ?_ | refine G_ret ?_ | refine G_cond_f rfl ?_ | (refine G_region (id := 0) ?_ <;> (try refine q_a ?_) <;> (try refine G_nil ?_)) | (refine G_region (id := 1) ?_ <;> (try refine q_m ?_) <;> (try refine G_nil ?_)) | (refine G_region (id := 2) ?_ <;> (try refine q_e (q_b (r := by exact rb_eql_f q_o)) ?_) <;> (try refine q_a ?_) <;> (try refine G_nil ?_)) | (refine G_region (id := 3) ?_ <;> (try refine q_e (q_b (r := by exact rb_eql_f q_o)) ?_) <;> (try refine q_a ?_) <;> (try refine G_nil ?_)) | (refine G_region (id := 4) ?_ <;> (try refine q_e (q_b (r := by exact rb_eql_f q_o)) ?_) <;> (try refine q_a ?_) <;> (try refine G_nil ?_)) | (refine G_region (id := 6) ?_ <;> (try refine q_m ?_) <;> (try refine q_e (q_b (r := by refine rb_and ?_ ?_; (focus (refine ⟨rfl, ⟨?_, ?_⟩⟩; omega; (focus (simp only [IntKind.bits]; omega)))); (focus (refine ⟨rfl, ⟨?_, ?_⟩⟩; omega; (focus (simp only [IntKind.bits]; omega)))))) ?_) <;> (try refine q_a ?_) <;> (try refine G_nil ?_)) | (refine G_region (id := 7) ?_ <;> (try refine q_m ?_) <;> (try refine G_op1 ?_; (refine q_c 59 (c := by apply hk) (h := ?_); rintro _ _ ⟨rfl, rfl⟩; (try simp only [List.eraseIdx_cons_succ]); (try simp only [List.eraseIdx_cons_zero]))) <;> (try refine q_e (by exact q_b (r := by refine rb_eql_t' ?_; first | rfl | (with_reducible assumption) | (decide; done) | omega)) ?_) <;> (try refine q_m ?_) <;> (try refine q_y (E_move rfl) ?_) <;> (try refine q_y (q_b (r := by exact rb_geq_t q_o)) ?_) <;> (try refine q_p ?_) <;> (try refine q_m ?_) <;> (try refine q_y (E_move rfl) ?_) <;> (try refine q_y (q_b (r := by exact rb_leq_f q_o)) ?_) <;> (try refine q_p ?_) <;> (try refine q_a ?_) <;> (try refine G_nil ?_)))
        (refine G_done Tryz.results40 (.tmp rfl .nil) ?_)
        exact ⟨_, ⟨rfl, rfl⟩, by intro w H; refine H.sub ?_; (try simp only [List.cons_append, List.nil_append]); repeat (exact List.Sublist.refl _)⟩
    · refine hr false (by unfold actOk; rw [decide_eq_false (fun h => h.elim c1 (fun h => h.elim c2 (fun h => h.elim c3 (fun h => c5 h.2.1))))]) ?_
      clear hr
      rw [c4] at hk
      refine Fn1 Tryz.func40 Tryz.ntmps40 rfl rfl ?_
      repeat' (first | refine G_seq ?_ | refine G_then_n ?_ | refine G_blk_n ?_ | refine G_block ?_ | refine G_skip ?_ | refine G_ret ?_ | refine G_cond_f rfl ?_ | (refine G_region (id := 0) ?_ <;> (try refine q_a ?_) <;> (try refine G_nil ?_)) | (refine G_region (id := 1) ?_ <;> (try refine q_m ?_) <;> (try refine G_nil ?_)) | (refine G_region (id := 2) ?_ <;> (try refine q_e (q_b (r := by exact rb_eql_f q_o)) ?_) <;> (try refine q_a ?_) <;> (try refine G_nil ?_)) | (refine G_region (id := 3) ?_ <;> (try refine q_e (q_b (r := by exact rb_eql_f q_o)) ?_) <;> (try refine q_a ?_) <;> (try refine G_nil ?_)) | (refine G_region (id := 4) ?_ <;> (try refine q_e (q_b (r := by exact rb_eql_f q_o)) ?_) <;> (try refine q_a ?_) <;> (try refine G_nil ?_)) | (refine G_region (id := 6) ?_ <;> (try refine q_m ?_) <;> (try refine q_e (q_b (r := by refine rb_and ?_ ?_; (focus (refine ⟨rfl, ⟨?_, ?_⟩⟩; omega; (focus (simp only [IntKind.bits]; omega)))); (focus (refine ⟨rfl, ⟨?_, ?_⟩⟩; omega; (focus (simp only [IntKind.bits]; omega)))))) ?_) <;> (try refine q_a ?_) <;> (try refine G_nil ?_)) | (refine G_region (id := 7) ?_ <;> (try refine q_m ?_) <;> (try refine G_op1 ?_; (refine q_c 59 (c := by apply hk) (h := ?_); rintro _ _ ⟨rfl, rfl⟩; (try simp only [List.eraseIdx_cons_succ]); (try simp only [List.eraseIdx_cons_zero]))) <;> (try refine q_e (by exact q_b (r := by refine rb_eql_t' ?_; first | rfl | (with_reducible assumption) | (decide; done) | omega)) ?_) <;> (try refine q_m ?_) <;> (try refine q_y (E_move rfl) ?_) <;> (try refine q_y (q_b (r := by exact rb_geq_f q_o)) ?_) <;> (try refine q_p ?_) <;> (try refine q_m ?_) <;> (try refine q_z ?_) <;> (try refine q_z ?_) <;> (try refine q_p ?_) <;> (try refine q_a ?_) <;> (try refine G_nil ?_)))
      (refine G_done Tryz.results40 (.tmp rfl .nil) ?_)
      exact ⟨_, ⟨rfl, rfl⟩, by intro w H; refine H.sub ?_; (try simp only [List.cons_append, List.nil_append]); repeat (exact List.Sublist.refl _)⟩
  · refine hr false (by unfold actOk; rw [decide_eq_false (fun h => h.elim c1 (fun h => h.elim c2 (fun h => h.elim c3 (fun h => c4 h.1))))]) ?_
    clear hr
    generalize kndA a = k at *
    refine Fn1 Tryz.func40 Tryz.ntmps40 rfl rfl ?_
    repeat' (first | refine G_seq ?_ | refine G_then_n ?_ | refine G_blk_n ?_ | refine G_block ?_ | refine G_skip ?_ | refine G_ret ?_ | refine G_cond_f rfl ?_ | (refine G_region (id := 0) ?_ <;> (try refine q_a ?_) <;> (try refine G_nil ?_)) | (refine G_region (id := 1) ?_ <;> (try refine q_m ?_) <;> (try refine G_nil ?_)) | (refine G_region (id := 2) ?_ <;> (try refine q_e (q_b (r := by exact rb_eql_f q_o)) ?_) <;> (try refine q_a ?_) <;> (try refine G_nil ?_)) | (refine G_region (id := 3) ?_ <;> (try refine q_e (q_b (r := by exact rb_eql_f q_o)) ?_) <;> (try refine q_a ?_) <;> (try refine G_nil ?_)) | (refine G_region (id := 4) ?_ <;> (try refine q_e (q_b (r := by exact rb_eql_f q_o)) ?_) <;> (try refine q_a ?_) <;> (try refine G_nil ?_)) | (refine G_region (id := 6) ?_ <;> (try refine q_m ?_) <;> (try refine q_e (q_b (r := by refine rb_and ?_ ?_; (focus (refine ⟨rfl, ⟨?_, ?_⟩⟩; omega; (focus (simp only [IntKind.bits]; omega)))); (focus (refine ⟨rfl, ⟨?_, ?_⟩⟩; omega; (focus (simp only [IntKind.bits]; omega)))))) ?_) <;> (try refine q_a ?_) <;> (try refine G_nil ?_)) | (refine G_region (id := 7) ?_ <;> (try refine q_m ?_) <;> (try refine G_op1 ?_; (refine q_c 59 (c := by apply hk) (h := ?_); rintro _ _ ⟨rfl, rfl⟩; (try simp only [List.eraseIdx_cons_succ]); (try simp only [List.eraseIdx_cons_zero]))) <;> (try refine q_e (q_b (r := by exact rb_eql_f q_o)) ?_) <;> (try refine q_m ?_) <;> (try refine q_z ?_) <;> (try refine q_z ?_) <;> (try refine q_p ?_) <;> (try refine q_m ?_) <;> (try refine q_z ?_) <;> (try refine q_z ?_) <;> (try refine q_p ?_) <;> (try refine q_a ?_) <;> (try refine G_nil ?_)))
    (refine G_done Tryz.results40 (.tmp rfl .nil) ?_)
    exact ⟨_, ⟨rfl, rfl⟩, by intro w H; refine H.sub ?_; (try simp only [List.cons_append, List.nil_append]); repeat (exact List.Sublist.refl _)⟩
theorem numS_c {S w0} (e L : List Blk) (b m1 m2 n : Nat) (hn : n ≤ 100000) (s : Int) : Fn Tryz.prog 31 #[.pointer (some ⟨b, 0, none⟩), .int .u32 s] S w0 (e ++ (tbS b m1 m2 n ++ L)) fun v L' => ∃ m1' m2', v = gotV (cnumF s clls) ∧ e ++ (tbS b m1' m2' (n + 1) ++ L) = L' := by
  have hsw : ∀ (A B : List Blk) w, HP S w0 w (A ++ (B ++ L)) → HP S w0 w (B ++ (A ++ L)) := fun A B w H => H.perm (List.perm_append_comm_assoc A B L)
  cases n with
  | zero =>
    refine Fn.weak (hsw e _) ((numbered0_c (S := S) (w0 := w0) (L := e ++ L) b 0 0 (by omega) (by omega) s).mono ?_)
    rintro v L' ⟨x, y, rfl, rfl⟩
    exact ⟨_, ⟨x, y, rfl, rfl⟩, fun w H => hsw (tbS b x y 1) e w H⟩
  | succ n =>
    refine Fn.weak (hsw e _) ?_
    rw [tbS_succ]
    refine (numbered1_c (S := S) (w0 := w0) (L := e ++ L) b m1 m2 _ 1 (by omega) s).mono ?_
    rintro v L' ⟨rfl, rfl⟩
    refine ⟨_, ⟨m1, m2, rfl, rfl⟩, fun w H => hsw _ e w ?_⟩
    rw [tbS_succ, Int.natCast_add, Int.natCast_one]
    exact H
theorem firstE_drop {es : List Nat} {k : Nat} (hk : k < es.length) : firstE (es.drop k) = if es[k] ≠ 0 then es[k] else firstE (es.drop (k + 1)) := by
  rw [List.drop_eq_getElem_cons hk]; rfl
end Go.Proofs.YtecbgehooembmaaGreatDoor
namespace Go.Proofs.YtecbgehooembmaaGreatDoor
open Go Go.RowKit
theorem firstE_nil {es : List Nat} {k : Nat} (hk : es.length ≤ k) : firstE (es.drop k) = 0 := by
  rw [List.drop_eq_nil_of_le hk]; rfl
set_option maxRecDepth 100000 in
set_option maxHeartbeats 1000000 in
theorem rulechk_c {S w0} (e L : List Blk) (r : GRul) (h : r.ok) (v : Value) (hv : CndS (e ++ L) v r.conds) (b m1 m2 n : Nat) (hn : n ≤ 100000) :
    Fn Tryz.prog 42 #[.agg #[.int .u32 r.num, .int .u32 r.act, v], .pointer (some ⟨b, 0, none⟩)] S w0 (e ++ (tbS b m1 m2 n ++ L)) fun v' L' => ∃ m1' m2', v' = .int .i64 (chkR r : Nat) ∧ e ++ (tbS b m1' m2' (n + 1) ++ L) = L' := by
  obtain ⟨a, c, rfl, hsl, hml⟩ := hv
  have hnu := fun (x : Blk) => numS_c (S := S) (w0 := w0) (x :: e) L b m1 m2 n hn r.num
  obtain ⟨nm, ar, hg⟩ := gotV_num (cnumF r.num clls)
  rw [hg] at hnu
  have hac := fun (L : List Blk) => actok_c (S := S) (w0 := w0) (L := L) r.act h.act
  obtain ⟨num, act, conds⟩ := r
  have hok := h.conds
  clear h hg
  dsimp only [List.cons_append] at *
  have hR : chkR ⟨num, act, conds⟩ = if (cnumF num clls).isSome = false then 38 else if actOk act = false then 210 else if 6 < conds.length then 205 else firstE (conds.map chkC) := by
    unfold chkR
    cases cnumF num clls <;> rfl
  rw [hR]
  clear hR
  generalize cnO (cnumF num clls) = cn at *
  generalize (cnumF num clls).isSome = ok at *
  generalize actOk act = ak at *
  cases ok with
  | false =>
    rw [if_pos rfl]
    refine Fn2 Tryz.func42 Tryz.ntmps42 rfl rfl ?_
    repeat' (first | refine G_seq ?_ | refine G_then_n ?_ | refine G_then_r ?_ | refine G_ret ?_ | refine G_cond_t rfl ?_ | (refine G_region (id := 0) ?_ <;> (try refine G_op1 ?_; (refine K1_box (t := 73) rfl rfl ?_; intro nb hnb; (try simp only [Value.cells]))) <;> (try refine q_a ?_) <;> (try refine G_nil ?_)) | (refine G_region (id := 1) ?_ <;> (try refine q_m ?_) <;> (try refine q_e (q_f fo_73_0) ?_) <;> (try refine q_e q_l ?_) <;> (try refine G_op1 ?_; (refine q_c 31 (c := by apply hnu) (h := ?_); rintro _ _ ⟨k1, k2, rfl, rfl⟩; (try simp only [List.eraseIdx_cons_succ]); (try simp only [List.eraseIdx_cons_zero]))) <;> (try refine q_m ?_) <;> (try refine q_x ?_) <;> (try refine q_x ?_) <;> (try refine G_op1 ?_; (refine K1_alloc (t := 116) rfl Tryz.zeroValue116 ?_; intro nb hnb; (try simp only [Value.cells]))) <;> (try refine G_op1 ?_; (refine q_W ?_)) <;> (try refine q_a ?_) <;> (try refine G_nil ?_)) | (refine G_region (id := 2) ?_ <;> (try refine q_m ?_) <;> (try refine q_e (by apply E_un; exact rfl; exact ru_not_f) ?_) <;> (try refine G_nil ?_)) | (refine G_region (id := 3) ?_ <;> (try refine q_a ?_) <;> (try refine G_nil ?_)))
    (refine G_done Tryz.results42 (.tmp rfl .nil) ?_)
    exact ⟨_, ⟨k1, k2, rfl, rfl⟩, fun _ H => H.tail.tail⟩
  | true =>
    rw [if_neg (fun h => by cases h)]
    cases ak with
    | false =>
      rw [if_pos rfl]
      refine Fn2 Tryz.func42 Tryz.ntmps42 rfl rfl ?_
      repeat' (first | refine G_seq ?_ | refine G_then_n ?_ | refine G_then_r ?_ | refine G_skip ?_ | refine G_ret ?_ | refine G_cond_t rfl ?_ | refine G_cond_f rfl ?_ | (refine G_region (id := 0) ?_ <;> (try refine G_op1 ?_; (refine K1_box (t := 73) rfl rfl ?_; intro nb hnb; (try simp only [Value.cells]))) <;> (try refine q_a ?_) <;> (try refine G_nil ?_)) | (refine G_region (id := 1) ?_ <;> (try refine q_m ?_) <;> (try refine q_e (q_f fo_73_0) ?_) <;> (try refine q_e q_l ?_) <;> (try refine G_op1 ?_; (refine q_c 31 (c := by apply hnu) (h := ?_); rintro _ _ ⟨k1, k2, rfl, rfl⟩; (try simp only [List.eraseIdx_cons_succ]); (try simp only [List.eraseIdx_cons_zero]))) <;> (try refine q_m ?_) <;> (try refine q_x ?_) <;> (try refine q_x ?_) <;> (try refine G_op1 ?_; (refine K1_alloc (t := 116) rfl Tryz.zeroValue116 ?_; intro nb hnb; (try simp only [Value.cells]))) <;> (try refine G_op1 ?_; (refine q_W ?_)) <;> (try refine q_a ?_) <;> (try refine G_nil ?_)) | (refine G_region (id := 2) ?_ <;> (try refine q_m ?_) <;> (try refine q_e (by apply E_un; exact rfl; exact ru_not_t) ?_) <;> (try refine G_nil ?_)) | (refine G_region (id := 4) ?_ <;> (try refine q_e (q_f fo_73_1) ?_) <;> (try refine q_e q_l ?_) <;> (try refine G_op1 ?_; (refine q_c 40 (c := by apply hac) (h := ?_); rintro _ _ ⟨rfl, rfl⟩; (try simp only [List.eraseIdx_cons_succ]); (try simp only [List.eraseIdx_cons_zero]))) <;> (try refine q_e (by apply E_un; exact rfl; exact ru_not_f) ?_) <;> (try refine G_nil ?_)) | (refine G_region (id := 5) ?_ <;> (try refine q_a ?_) <;> (try refine G_nil ?_)))
      (refine G_done Tryz.results42 (.tmp rfl .nil) ?_)
      exact ⟨_, ⟨k1, k2, rfl, rfl⟩, fun _ H => H.tail.tail⟩
    | true =>
      rw [if_neg (fun h => by cases h)]
      by_cases hl : 6 < conds.length
      · rw [if_pos hl]
        refine Fn2 Tryz.func42 Tryz.ntmps42 rfl rfl ?_
        repeat' (first | refine G_seq ?_ | refine G_then_n ?_ | refine G_then_r ?_ | refine G_skip ?_ | refine G_ret ?_ | refine G_cond_t rfl ?_ | refine G_cond_f rfl ?_ | (refine G_region (id := 0) ?_ <;> (try refine G_op1 ?_; (refine K1_box (t := 73) rfl rfl ?_; intro nb hnb; (try simp only [Value.cells]))) <;> (try refine q_a ?_) <;> (try refine G_nil ?_)) | (refine G_region (id := 1) ?_ <;> (try refine q_m ?_) <;> (try refine q_e (q_f fo_73_0) ?_) <;> (try refine q_e q_l ?_) <;> (try refine G_op1 ?_; (refine q_c 31 (c := by apply hnu) (h := ?_); rintro _ _ ⟨k1, k2, rfl, rfl⟩; (try simp only [List.eraseIdx_cons_succ]); (try simp only [List.eraseIdx_cons_zero]))) <;> (try refine q_m ?_) <;> (try refine q_x ?_) <;> (try refine q_x ?_) <;> (try refine G_op1 ?_; (refine K1_alloc (t := 116) rfl Tryz.zeroValue116 ?_; intro nb hnb; (try simp only [Value.cells]))) <;> (try refine G_op1 ?_; (refine q_W ?_)) <;> (try refine q_a ?_) <;> (try refine G_nil ?_)) | (refine G_region (id := 2) ?_ <;> (try refine q_m ?_) <;> (try refine q_e (by apply E_un; exact rfl; exact ru_not_t) ?_) <;> (try refine G_nil ?_)) | (refine G_region (id := 4) ?_ <;> (try refine q_e (q_f fo_73_1) ?_) <;> (try refine q_e q_l ?_) <;> (try refine G_op1 ?_; (refine q_c 40 (c := by apply hac) (h := ?_); rintro _ _ ⟨rfl, rfl⟩; (try simp only [List.eraseIdx_cons_succ]); (try simp only [List.eraseIdx_cons_zero]))) <;> (try refine q_e (by apply E_un; exact rfl; exact ru_not_t) ?_) <;> (try refine G_nil ?_)) | (refine G_region (id := 6) ?_ <;> (try refine q_e (q_f fo_73_2) ?_) <;> (try refine q_e q_l ?_) <;> (try refine q_e (by apply E_builtin; exact rfl; exact (fun _ => BigFrame.builtin_len ..); apply r_len_slice_e Tryz.underlying71; exact c_19) ?_) <;> (try refine q_e (q_b (r := by exact rb_gtr_t q_o)) ?_) <;> (try refine G_nil ?_)) | (refine G_region (id := 7) ?_ <;> (try refine q_a ?_) <;> (try refine G_nil ?_)))
        (refine G_done Tryz.results42 (.tmp rfl .nil) ?_)
        exact ⟨_, ⟨k1, k2, rfl, rfl⟩, fun _ H => H.tail.tail⟩
      · rw [if_neg hl]
        refine Fn2 Tryz.func42 Tryz.ntmps42 rfl rfl ?_
        repeat' (first | (refine G_markb (id := 0) ?_) | refine G_seq ?_ | refine G_then_n ?_ | refine G_skip ?_ | refine G_cond_f rfl ?_ | (refine G_region (id := 0) ?_ <;> (try refine G_op1 ?_; (refine K1_box (t := 73) rfl rfl ?_; intro nb hnb; (try simp only [Value.cells]))) <;> (try refine q_a ?_) <;> (try refine G_nil ?_)) | (refine G_region (id := 1) ?_ <;> (try refine q_m ?_) <;> (try refine q_e (q_f fo_73_0) ?_) <;> (try refine q_e q_l ?_) <;> (try refine G_op1 ?_; (refine q_c 31 (c := by apply hnu) (h := ?_); rintro _ _ ⟨k1, k2, rfl, rfl⟩; (try simp only [List.eraseIdx_cons_succ]); (try simp only [List.eraseIdx_cons_zero]))) <;> (try refine q_m ?_) <;> (try refine q_x ?_) <;> (try refine q_x ?_) <;> (try refine G_op1 ?_; (refine K1_alloc (t := 116) rfl Tryz.zeroValue116 ?_; intro nb hnb; (try simp only [Value.cells]))) <;> (try refine G_op1 ?_; (refine q_W ?_)) <;> (try refine q_a ?_) <;> (try refine G_nil ?_)) | (refine G_region (id := 2) ?_ <;> (try refine q_m ?_) <;> (try refine q_e (by apply E_un; exact rfl; exact ru_not_t) ?_) <;> (try refine G_nil ?_)) | (refine G_region (id := 4) ?_ <;> (try refine q_e (q_f fo_73_1) ?_) <;> (try refine q_e q_l ?_) <;> (try refine G_op1 ?_; (refine q_c 40 (c := by apply hac) (h := ?_); rintro _ _ ⟨rfl, rfl⟩; (try simp only [List.eraseIdx_cons_succ]); (try simp only [List.eraseIdx_cons_zero]))) <;> (try refine q_e (by apply E_un; exact rfl; exact ru_not_t) ?_) <;> (try refine G_nil ?_)) | (refine G_region (id := 6) ?_ <;> (try refine q_e (q_f fo_73_2) ?_) <;> (try refine q_e q_l ?_) <;> (try refine q_e (by apply E_builtin; exact rfl; exact (fun _ => BigFrame.builtin_len ..); apply r_len_slice_e Tryz.underlying71; exact c_19) ?_) <;> (try refine q_e (q_b (r := by exact rb_gtr_f q_o)) ?_) <;> (try refine G_nil ?_)) | (refine G_region (id := 8) ?_ <;> (try refine q_e (q_f fo_73_2) ?_) <;> (try refine q_e q_l ?_) <;> (try refine q_e (by apply E_builtin; exact rfl; exact (fun _ => BigFrame.builtin_len ..); apply r_len_slice_e Tryz.underlying71; exact c_19) ?_) <;> (try refine q_m ?_) <;> (try refine G_nil ?_)))
        refine ⟨?_⟩
        clear hnu hac
        have hs2 : Sli (e ++ (tbS b k1 k2 (n + 1) ++ L)) a conds.length 4 (gcC conds) := by
          rcases hsl with ⟨g1, g2 | ⟨i, q, bb, off, cs, T, fr, g2, g3, g4, g5⟩⟩
          · exact ⟨g1, Or.inl g2⟩
          · have : ∃ j : Nat, (e ++ (tbS b k1 k2 (n + 1) ++ L))[j]? = some ⟨q, bb, .cells cs T fr⟩ := by
              have hm : (⟨q, bb, .cells cs T fr⟩ : Blk) ∈ e ++ L := List.mem_of_getElem? g3
              have hm2 : (⟨q, bb, .cells cs T fr⟩ : Blk) ∈ e ++ (tbS b k1 k2 (n + 1) ++ L) := by
                rcases List.mem_append.1 hm with h | h
                · exact List.mem_append_left _ h
                · exact List.mem_append_right _ (List.mem_append_right _ h)
              obtain ⟨j, hj⟩ := List.getElem?_of_mem hm2
              exact ⟨j, hj⟩
            obtain ⟨j, hj⟩ := this
            exact ⟨g1, Or.inr ⟨j, q, bb, off, cs, T, fr, g2, hj, g4, g5⟩⟩
        clear hsl
        obtain ⟨n7, rfl⟩ : ∃ x, x = nb := ⟨_, rfl⟩
        generalize hM : e ++ (tbS b k1 k2 (n + 1) ++ L) = M at *
        refine G_meetk (γ := Unit) (fun _ => firstE (conds.map chkC) = 0) (fun _ => []) [] (fun _ => M) .nil ?_ ?_
        · refine G_block ?_
          refine G_loopk (γ := Nat) (fun k => k ≤ conds.length ∧ firstE (conds.map chkC) = firstE ((conds.map chkC).drop k)) (fun k => conds.length - k) (fun k => [(30, .int .i64 (k : Nat))]) [(28, _), (29, _)] (fun _ => M) 0 (.cons rfl (.cons rfl .nil)) ⟨Nat.zero_le _, by rw [List.drop_zero]⟩ (by (focus (repeat (first | exact Sub.nil | refine Sub.cons rfl ?_)))) (fun _ H => H.tail.tail) ?_
          rintro k ⟨hk, heq⟩
          simp only [List.cons_append, List.nil_append]
          unfold maxLen at hml
          by_cases hlt : k < conds.length
          · obtain ⟨j, q, bb, off, cs, T, fr, rfl, hj, hsz, hx⟩ := hs2.elem hlt
            rw [gcC_at _ _ hlt] at hx
            have hch := fun (L : List Blk) => condchk_c (S := S) (w0 := w0) (L := L) conds[k] (hok _ (List.getElem_mem hlt))
            rw [firstE_drop (by rw [List.length_map]; exact hlt), List.getElem_map] at heq
            generalize chkC conds[k] = ck at *
            generalize conds[k] = cd at *
            obtain ⟨ca, co, cm, cv⟩ := cd
            dsimp only [GCnd.cells] at *
            by_cases hc : ck = 0
            · rw [if_neg (fun h => h hc)] at heq
              subst hc
              repeat' (first | refine G_seq ?_ | refine G_then_n ?_ | refine G_cut_n ?_ | refine G_blk_n ?_ | refine G_block ?_ | refine G_skip ?_ | refine G_cond_t rfl ?_ | refine G_cond_f rfl ?_ | (refine G_region (id := 9) ?_ <;> (try refine q_e (q_b (r := by exact rb_lss_t q_o)) ?_) <;> (try refine G_nil ?_)) | (refine G_region (id := 10) ?_ <;> (try refine q_e (by apply E_indexAddr; exact rfl; exact rfl; (focus (apply r_ixs Tryz.underlying71 sz_99; omega; omega; exact c_1))) ?_) <;> (try refine q_e (by apply E_loadA (t := 99); exact rfl; exact c_20; kernel_rfl; kernel_rfl; exact sz_99; (with_reducible assumption); (with_reducible assumption)) ?_) <;> (try refine G_op1 ?_; (refine K1_alloc (t := 99) rfl Tryz.zeroValue99 ?_; intro nb hnb; (try simp only [Value.cells]))) <;> (try refine G_op1 ?_; (refine q_W ?_)) <;> (try refine G_nil ?_)) | (refine G_region (id := 11) ?_ <;> (try refine q_e (q_L sz_99) ?_) <;> (try refine G_op1 ?_; (refine q_c 65 (c := by apply hch) (h := ?_); rintro _ _ ⟨rfl, rfl⟩; (try simp only [List.eraseIdx_cons_succ]); (try simp only [List.eraseIdx_cons_zero]))) <;> (try refine q_a ?_) <;> (try refine G_nil ?_)) | (refine G_region (id := 12) ?_ <;> (try refine q_m ?_) <;> (try refine q_e (by exact q_b (r := by refine rb_neq_f ?_; first | rfl | (with_reducible assumption) | (decide; done) | omega)) ?_) <;> (try refine G_nil ?_)) | (refine G_region (id := 14) ?_ <;> (try refine q_e (q_b (r := by apply rb_add; exact c_5; (focus (refine IntWalk.i64_in _ ?_; omega)))) ?_) <;> (try refine q_m ?_) <;> (try refine G_nil ?_)))
              exact G_meet (k + 1) ⟨⟨by omega, heq⟩, by show conds.length - (k + 1) < conds.length - k; omega⟩ (by (focus (repeat (first | exact Sub.nil | refine Sub.cons rfl ?_)))) (fun _ H => H.tail)
            · rw [if_pos hc] at heq
              have hc' : ¬ (ck : Int) = 0 := by omega
              repeat' (first | refine G_seq ?_ | refine G_then_n ?_ | refine G_cut_r ?_ | refine G_then_r ?_ | refine G_blk_r ?_ | refine G_block ?_ | refine G_skip ?_ | refine G_ret ?_ | refine G_cond_t rfl ?_ | (refine G_region (id := 9) ?_ <;> (try refine q_e (q_b (r := by exact rb_lss_t q_o)) ?_) <;> (try refine G_nil ?_)) | (refine G_region (id := 10) ?_ <;> (try refine q_e (by apply E_indexAddr; exact rfl; exact rfl; (focus (apply r_ixs Tryz.underlying71 sz_99; omega; omega; exact c_1))) ?_) <;> (try refine q_e (by apply E_loadA (t := 99); exact rfl; exact c_20; kernel_rfl; kernel_rfl; exact sz_99; (with_reducible assumption); (with_reducible assumption)) ?_) <;> (try refine G_op1 ?_; (refine K1_alloc (t := 99) rfl Tryz.zeroValue99 ?_; intro nb hnb; (try simp only [Value.cells]))) <;> (try refine G_op1 ?_; (refine q_W ?_)) <;> (try refine G_nil ?_)) | (refine G_region (id := 11) ?_ <;> (try refine q_e (q_L sz_99) ?_) <;> (try refine G_op1 ?_; (refine q_c 65 (c := by apply hch) (h := ?_); rintro _ _ ⟨rfl, rfl⟩; (try simp only [List.eraseIdx_cons_succ]); (try simp only [List.eraseIdx_cons_zero]))) <;> (try refine q_a ?_) <;> (try refine G_nil ?_)) | (refine G_region (id := 12) ?_ <;> (try refine q_m ?_) <;> (try refine q_e (q_b (r := by exact rb_neq_t q_o)) ?_) <;> (try refine G_nil ?_)) | (refine G_region (id := 13) ?_ <;> (try refine q_m ?_) <;> (try refine q_a ?_) <;> (try refine G_nil ?_)))
              (refine G_done Tryz.results42 (.tmp rfl .nil) ?_)
              refine ⟨_, ⟨k1, k2, ?_, hM⟩, fun _ H => H.tail⟩
              rw [heq]; rfl
          · have hke : firstE ((conds.map chkC).drop k) = 0 := firstE_nil (by rw [List.length_map]; omega)
            rw [hke] at heq
            repeat' (first | refine G_seq ?_ | refine G_then_n ?_ | refine G_cut_n ?_ | refine G_cut_x ?_ | refine G_then_x ?_ | refine G_blk_x ?_ | refine G_exit ?_ | refine G_cond_f rfl ?_ | (refine G_region (id := 9) ?_ <;> (try refine q_e (q_b (r := by exact rb_lss_f q_o)) ?_) <;> (try refine G_nil ?_)))
            exact G_meet () heq (by (focus (repeat (exact Sub.nil)))) (fun _ H => H)
        · rintro - heq
          rw [heq]
          simp only [List.cons_append, List.nil_append]
          repeat' (first | refine G_seq ?_ | refine G_then_n ?_ | refine G_ret ?_ | (refine G_region (id := 15) ?_ <;> (try refine q_a ?_) <;> (try refine G_nil ?_)))
          (refine G_done Tryz.results42 (.tmp rfl .nil) ?_)
          exact ⟨_, ⟨k1, k2, rfl, hM⟩, fun _ H => H⟩
end Go.Proofs.YtecbgehooembmaaGreatDoor
namespace Go.Proofs.YtecbgehooembmaaGreatDoor
open Go Go.RowKit
theorem take_fst {α : Type} (ps : List (α × Nat)) (k : Nat) (h : k < ps.length) : (ps.take (k + 1)).map (·.1) = (ps.take k).map (·.1) ++ [ps[k].1] := by
  rw [List.take_succ_eq_append_getElem h, List.map_append]; rfl
set_option maxRecDepth 100000 in
theorem granted_c {S w0 L} (nm : ByteArray) (df : Int) (hd : Nat) (hhd : hd < 65536) (r1 p1 q1 : Option Addr) (r2 r3 p2 p3 q2 q3 : Nat) (r kd : Nat) (h1 : r < 65536) (h2 : kd < 65536) :
    Fn Tryz.prog 67 #[.agg #[.string nm, .int .u32 df, .slice r1 r2 r3, .int .u16 (hd : Nat), .slice p1 p2 p3, .slice q1 q2 q3], .int .u16 (r : Nat), .int .u16 (kd : Nat)] S w0 L fun v L' => v = .bool (grantF hd r kd) ∧ L = L' := by
  have ha := fun (L : List Blk) => Rg.has_c (S := S) (w0 := w0) (L := L) hd r hhd h1
  have hb := fun (L : List Blk) => Rg.has_c (S := S) (w0 := w0) (L := L) kd r h2 h1
  unfold grantF
  generalize Rg.hasF hd r = x at *
  generalize Rg.hasF kd r = y at *
  by_cases hr : r = 0
  · subst hr
    refine Fn3 Tryz.func67 Tryz.ntmps67 rfl rfl ?_
    repeat' (first | refine G_seq ?_ | refine G_then_n ?_ | refine G_ret ?_ | (refine G_region (id := 0) ?_ <;> (try refine G_op1 ?_; (refine K1_box (t := 36) rfl rfl ?_; intro nb hnb; (try simp only [Value.cells]))) <;> (try refine q_a ?_) <;> (try refine G_nil ?_)) | (refine G_region (id := 1) ?_ <;> (try refine q_m ?_) <;> (try refine q_e (by exact q_b (r := by refine rb_neq_f ?_; first | rfl | (with_reducible assumption) | (decide; done) | omega)) ?_) <;> (try refine q_m ?_) <;> (try refine q_z ?_) <;> (try refine q_z ?_) <;> (try refine q_z ?_) <;> (try refine q_z ?_) <;> (try refine q_p ?_) <;> (try refine q_m ?_) <;> (try refine q_z ?_) <;> (try refine q_z ?_) <;> (try refine q_z ?_) <;> (try refine q_p ?_) <;> (try refine q_a ?_) <;> (try refine G_nil ?_)))
    (refine G_done Tryz.results67 (.tmp rfl .nil) ?_)
    exact ⟨_, ⟨rfl, rfl⟩, by intro w H; refine H.sub ?_; (try simp only [List.cons_append, List.nil_append]); repeat (first | exact List.Sublist.refl _ | refine List.Sublist.cons _ ?_)⟩
  · rw [decide_eq_true hr, Bool.true_and]
    cases x with
    | false =>
      refine Fn3 Tryz.func67 Tryz.ntmps67 rfl rfl ?_
      repeat' (first | refine G_seq ?_ | refine G_then_n ?_ | refine G_ret ?_ | (refine G_region (id := 0) ?_ <;> (try refine G_op1 ?_; (refine K1_box (t := 36) rfl rfl ?_; intro nb hnb; (try simp only [Value.cells]))) <;> (try refine q_a ?_) <;> (try refine G_nil ?_)) | (refine G_region (id := 1) ?_ <;> (try refine q_m ?_) <;> (try refine q_e (q_b (r := by exact rb_neq_t q_o)) ?_) <;> (try refine q_m ?_) <;> (try refine q_y (q_f fo_36_3) ?_) <;> (try refine q_y q_l ?_) <;> (try refine q_y (E_move rfl) ?_) <;> (try refine G_op1 ?_; (refine K1_yes rfl rfl rfl ?_; (refine q_c 91 (c := by apply ha) (h := ?_); rintro _ _ ⟨rfl, rfl⟩; (try simp only [List.eraseIdx_cons_succ]); (try simp only [List.eraseIdx_cons_zero])))) <;> (try refine q_p ?_) <;> (try refine q_m ?_) <;> (try refine q_z ?_) <;> (try refine q_z ?_) <;> (try refine q_z ?_) <;> (try refine q_p ?_) <;> (try refine q_a ?_) <;> (try refine G_nil ?_)))
      (refine G_done Tryz.results67 (.tmp rfl .nil) ?_)
      exact ⟨_, ⟨rfl, rfl⟩, by intro w H; refine H.sub ?_; (try simp only [List.cons_append, List.nil_append]); repeat (first | exact List.Sublist.refl _ | refine List.Sublist.cons _ ?_)⟩
    | true =>
      rw [Bool.true_and]
      refine Fn3 Tryz.func67 Tryz.ntmps67 rfl rfl ?_
      repeat' (first | refine G_seq ?_ | refine G_then_n ?_ | refine G_ret ?_ | (refine G_region (id := 0) ?_ <;> (try refine G_op1 ?_; (refine K1_box (t := 36) rfl rfl ?_; intro nb hnb; (try simp only [Value.cells]))) <;> (try refine q_a ?_) <;> (try refine G_nil ?_)) | (refine G_region (id := 1) ?_ <;> (try refine q_m ?_) <;> (try refine q_e (q_b (r := by exact rb_neq_t q_o)) ?_) <;> (try refine q_m ?_) <;> (try refine q_y (q_f fo_36_3) ?_) <;> (try refine q_y q_l ?_) <;> (try refine q_y (E_move rfl) ?_) <;> (try refine G_op1 ?_; (refine K1_yes rfl rfl rfl ?_; (refine q_c 91 (c := by apply ha) (h := ?_); rintro _ _ ⟨rfl, rfl⟩; (try simp only [List.eraseIdx_cons_succ]); (try simp only [List.eraseIdx_cons_zero])))) <;> (try refine q_p ?_) <;> (try refine q_m ?_) <;> (try refine q_y (E_move rfl) ?_) <;> (try refine q_y (E_move rfl) ?_) <;> (try refine G_op1 ?_; (refine K1_yes rfl rfl rfl ?_; (refine q_c 91 (c := by apply hb) (h := ?_); rintro _ _ ⟨rfl, rfl⟩; (try simp only [List.eraseIdx_cons_succ]); (try simp only [List.eraseIdx_cons_zero])))) <;> (try refine q_p ?_) <;> (try refine q_a ?_) <;> (try refine G_nil ?_)))
      (refine G_done Tryz.results67 (.tmp rfl .nil) ?_)
      exact ⟨_, ⟨rfl, rfl⟩, by intro w H; refine H.sub ?_; (try simp only [List.cons_append, List.nil_append]); repeat (first | exact List.Sublist.refl _ | refine List.Sublist.cons _ ?_)⟩
theorem pthC_at (ps : List (List UInt8 × Nat)) (k : Nat) (h : k < ps.length) : ((pthC ps).drop (k * 2)).take 2 = [.string (mB8 ps[k].1), .int .u16 (ps[k].2 : Nat)] := by
  induction ps generalizing k with
  | nil => simp at h
  | cons c r ih =>
    cases k with
    | zero => rfl
    | succ k =>
      rw [show (k + 1) * 2 = k * 2 + 2 by omega]
      exact ih k (by simpa using h)
theorem chkPaths_at (hd : Nat) (ps : List (List UInt8 × Nat)) (k : Nat) (h : k < ps.length) : chkPaths hd (ps.drop k) ((ps.take k).map (·.1)) = if Pt.pathF ps[k].1 = false then 203 else if grantF hd ps[k].2 2047 = false then 204 else if ps[k].1 ∈ (ps.take k).map (·.1) then 206 else chkPaths hd (ps.drop (k + 1)) ((ps.take (k + 1)).map (·.1)) := by
  rw [take_fst ps k h, List.drop_eq_getElem_cons h]
  rfl
set_option maxRecDepth 100000 in
set_option maxHeartbeats 1000000 in
theorem paths_c {S w0 L} (nm : ByteArray) (df : Int) (hd : Nat) (hhd : hd < 65536) (r1 p1 q1 : Option Addr) (r2 r3 p2 p3 q2 q3 : Nat) (ps : List (List UInt8 × Nat)) (hps : ∀ p ∈ ps, p.1.length ≤ 1000000 ∧ p.2 < 65536) (hl : ps.length ≤ maxLen) (hN : p2 = ps.length) (hs : Sli L p1 ps.length 2 (pthC ps)) :
    Fn Tryz.prog 43 #[.agg #[.string nm, .int .u32 df, .slice r1 r2 r3, .int .u16 (hd : Nat), .slice p1 p2 p3, .slice q1 q2 q3]] S w0 L fun v L' => v = .int .i64 (chkPaths hd ps [] : Nat) ∧ L = L' := by
  subst hN
  refine Fn1 Tryz.func43 Tryz.ntmps43 rfl rfl ?_
  repeat' (first | (refine G_markb (id := 0) ?_) | refine G_seq ?_ | refine G_then_n ?_ | (refine G_region (id := 0) ?_ <;> (try refine G_op1 ?_; (refine K1_box (t := 36) rfl rfl ?_; intro nb hnb; (try simp only [Value.cells]))) <;> (try refine q_a ?_) <;> (try refine G_nil ?_)) | (refine G_region (id := 1) ?_ <;> (try refine G_op1 ?_; (refine K1_makeMap rfl ?_; intro nb hnb)) <;> (try refine q_a ?_) <;> (try refine G_nil ?_)) | (refine G_region (id := 2) ?_ <;> (try refine q_e (q_f fo_36_4) ?_) <;> (try refine q_e q_l ?_) <;> (try refine q_e (by apply E_builtin; exact rfl; exact (fun _ => BigFrame.builtin_len ..); apply r_len_slice_e Tryz.underlying33; exact c_19) ?_) <;> (try refine q_m ?_) <;> (try refine G_nil ?_)))
  refine ⟨?_⟩
  rename_i n1 h1
  obtain ⟨n3, rfl⟩ : ∃ x, x = nb := ⟨_, rfl⟩
  refine G_block ?_
  refine G_loopk (γ := Nat × List (Value × Value)) (fun g => g.1 ≤ ps.length ∧ MapS keyT g.2 ((ps.take g.1).map (·.1)) ∧ chkPaths hd ps [] = chkPaths hd (ps.drop g.1) ((ps.take g.1).map (·.1))) (fun g => ps.length - g.1) (fun g => [(10, .int .i64 (g.1 : Nat))]) [(1, _), (3, _), (8, _), (9, _)]
    (fun g => mapB n3 g.2 :: ⟨true, n1, .cells #[.string nm, .int .u32 df, .slice r1 r2 r3, .int .u16 (hd : Nat), .slice p1 ps.length p3, .slice q1 q2 q3] 36 (0, 0)⟩ :: L) (0, []) (.cons rfl (.cons rfl (.cons rfl (.cons rfl .nil)))) ⟨Nat.zero_le _, MapS.nil _, rfl⟩ (by (focus (repeat (first | exact Sub.nil | refine Sub.cons rfl ?_)))) c_27 ?_
  rintro ⟨k, kvs⟩ ⟨hk, hM, heq⟩
  simp only [List.cons_append, List.nil_append]
  dsimp only at hk hM heq
  unfold maxLen at hl
  by_cases hlt : k < ps.length
  · obtain ⟨j, q, bb, off, cs, T, fr, rfl, hj, hsz, hx⟩ := hs.elem hlt
    rw [pthC_at _ _ hlt] at hx
    obtain ⟨g1, g2⟩ := hps _ (List.getElem_mem hlt)
    rw [chkPaths_at hd ps k hlt] at heq
    have hpa := fun (L : List Blk) => pathL_c (S := S) (w0 := w0) (L := L) (mB8 ps[k].1) (by rw [mB8_size]; exact g1)
    rw [lB_mB8] at hpa
    have hgr := fun (L : List Blk) => granted_c (S := S) (w0 := w0) (L := L) nm df hd hhd r1 (some ⟨bb, off, none⟩) q1 r2 r3 ps.length p3 q2 q3 ps[k].2 2047 g2 (by omega)
    obtain ⟨rr, hl1, hl2, hl3⟩ := hM.look .string keyT keyT_same ps[k].1
    rw [← take_fst ps k hlt] at hl3
    clear hM g1
    generalize (ps.take k).map (·.1) = seen at *
    generalize Pt.pathF ps[k].1 = pf at *
    generalize grantF hd ps[k].2 2047 = gf at *
    generalize ps[k] = p at *
    obtain ⟨pt, pr⟩ := p
    dsimp only at *
    cases pf with
    | false =>
      rw [if_pos rfl] at heq
      repeat' (first | refine G_seq ?_ | refine G_then_n ?_ | refine G_cut_r ?_ | refine G_then_r ?_ | refine G_blk_r ?_ | refine G_block ?_ | refine G_skip ?_ | refine G_ret ?_ | refine G_cond_t rfl ?_ | (refine G_region (id := 3) ?_ <;> (try refine q_e (q_b (r := by exact rb_lss_t q_o)) ?_) <;> (try refine G_nil ?_)) | (refine G_region (id := 4) ?_ <;> (try refine q_e (by apply E_indexAddr; exact rfl; exact rfl; (focus (apply r_ixs Tryz.underlying33 sz_104; omega; omega; exact c_1))) ?_) <;> (try refine q_e (by apply E_loadA (t := 104); exact rfl; exact c_18; kernel_rfl; kernel_rfl; exact sz_104; (with_reducible assumption); (with_reducible assumption)) ?_) <;> (try refine G_op1 ?_; (refine K1_alloc (t := 104) rfl Tryz.zeroValue104 ?_; intro nb hnb; (try simp only [Value.cells]))) <;> (try refine G_op1 ?_; (refine q_W ?_)) <;> (try refine G_nil ?_)) | (refine G_region (id := 5) ?_ <;> (try refine q_e (q_f fo_104_0) ?_) <;> (try refine q_e q_l ?_) <;> (try refine G_op1 ?_; (refine q_c 66 (c := by apply hpa) (h := ?_); rintro _ _ ⟨rfl, rfl⟩; (try simp only [List.eraseIdx_cons_succ]); (try simp only [List.eraseIdx_cons_zero]))) <;> (try refine q_e (by apply E_un; exact rfl; exact ru_not_f) ?_) <;> (try refine q_a ?_) <;> (try refine G_nil ?_)) | (refine G_region (id := 6) ?_ <;> (try refine q_a ?_) <;> (try refine G_nil ?_)))
      (refine G_done Tryz.results43 (.tmp rfl .nil) ?_)
      exact ⟨_, ⟨by rw [heq]; rfl, rfl⟩, fun _ H => H.tail.tail.tail⟩
    | true =>
    rw [if_neg (fun h => by cases h)] at heq
    cases gf with
    | false =>
      rw [if_pos rfl] at heq
      repeat' (first | refine G_seq ?_ | refine G_then_n ?_ | refine G_cut_r ?_ | refine G_then_r ?_ | refine G_blk_r ?_ | refine G_block ?_ | refine G_skip ?_ | refine G_ret ?_ | refine G_cond_t rfl ?_ | refine G_cond_f rfl ?_ | (refine G_region (id := 3) ?_ <;> (try refine q_e (q_b (r := by exact rb_lss_t q_o)) ?_) <;> (try refine G_nil ?_)) | (refine G_region (id := 4) ?_ <;> (try refine q_e (by apply E_indexAddr; exact rfl; exact rfl; (focus (apply r_ixs Tryz.underlying33 sz_104; omega; omega; exact c_1))) ?_) <;> (try refine q_e (by apply E_loadA (t := 104); exact rfl; exact c_18; kernel_rfl; kernel_rfl; exact sz_104; (with_reducible assumption); (with_reducible assumption)) ?_) <;> (try refine G_op1 ?_; (refine K1_alloc (t := 104) rfl Tryz.zeroValue104 ?_; intro nb hnb; (try simp only [Value.cells]))) <;> (try refine G_op1 ?_; (refine q_W ?_)) <;> (try refine G_nil ?_)) | (refine G_region (id := 5) ?_ <;> (try refine q_e (q_f fo_104_0) ?_) <;> (try refine q_e q_l ?_) <;> (try refine G_op1 ?_; (refine q_c 66 (c := by apply hpa) (h := ?_); rintro _ _ ⟨rfl, rfl⟩; (try simp only [List.eraseIdx_cons_succ]); (try simp only [List.eraseIdx_cons_zero]))) <;> (try refine q_e (by apply E_un; exact rfl; exact ru_not_t) ?_) <;> (try refine q_a ?_) <;> (try refine G_nil ?_)) | (refine G_region (id := 7) ?_ <;> (try refine q_e (q_L sz_36) ?_) <;> (try refine q_e (q_f fo_104_1) ?_) <;> (try refine q_e q_l ?_) <;> (try refine G_op1 ?_; (refine q_c 67 (c := by apply hgr) (h := ?_); rintro _ _ ⟨rfl, rfl⟩; (try simp only [List.eraseIdx_cons_succ]); (try simp only [List.eraseIdx_cons_zero]))) <;> (try refine q_e (by apply E_un; exact rfl; exact ru_not_f) ?_) <;> (try refine q_a ?_) <;> (try refine G_nil ?_)) | (refine G_region (id := 8) ?_ <;> (try refine q_a ?_) <;> (try refine G_nil ?_)))
      (refine G_done Tryz.results43 (.tmp rfl .nil) ?_)
      exact ⟨_, ⟨by rw [heq]; rfl, rfl⟩, fun _ H => H.tail.tail.tail⟩
    | true =>
      rw [if_neg (fun h => by cases h)] at heq
      by_cases hc : pt ∈ seen
      · rw [if_pos hc] at heq
        replace hl2 := hl2.trans (congrArg Value.bool (@decide_eq_true _ (_) hc))
        repeat' (first | refine G_seq ?_ | refine G_then_n ?_ | refine G_cut_r ?_ | refine G_then_r ?_ | refine G_blk_r ?_ | refine G_block ?_ | refine G_skip ?_ | refine G_ret ?_ | refine G_cond_t rfl ?_ | refine G_cond_f rfl ?_ | (refine G_region (id := 3) ?_ <;> (try refine q_e (q_b (r := by exact rb_lss_t q_o)) ?_) <;> (try refine G_nil ?_)) | (refine G_region (id := 4) ?_ <;> (try refine q_e (by apply E_indexAddr; exact rfl; exact rfl; (focus (apply r_ixs Tryz.underlying33 sz_104; omega; omega; exact c_1))) ?_) <;> (try refine q_e (by apply E_loadA (t := 104); exact rfl; exact c_18; kernel_rfl; kernel_rfl; exact sz_104; (with_reducible assumption); (with_reducible assumption)) ?_) <;> (try refine G_op1 ?_; (refine K1_alloc (t := 104) rfl Tryz.zeroValue104 ?_; intro nb hnb; (try simp only [Value.cells]))) <;> (try refine G_op1 ?_; (refine q_W ?_)) <;> (try refine G_nil ?_)) | (refine G_region (id := 5) ?_ <;> (try refine q_e (q_f fo_104_0) ?_) <;> (try refine q_e q_l ?_) <;> (try refine G_op1 ?_; (refine q_c 66 (c := by apply hpa) (h := ?_); rintro _ _ ⟨rfl, rfl⟩; (try simp only [List.eraseIdx_cons_succ]); (try simp only [List.eraseIdx_cons_zero]))) <;> (try refine q_e (by apply E_un; exact rfl; exact ru_not_t) ?_) <;> (try refine q_a ?_) <;> (try refine G_nil ?_)) | (refine G_region (id := 7) ?_ <;> (try refine q_e (q_L sz_36) ?_) <;> (try refine q_e (q_f fo_104_1) ?_) <;> (try refine q_e q_l ?_) <;> (try refine G_op1 ?_; (refine q_c 67 (c := by apply hgr) (h := ?_); rintro _ _ ⟨rfl, rfl⟩; (try simp only [List.eraseIdx_cons_succ]); (try simp only [List.eraseIdx_cons_zero]))) <;> (try refine q_e (by apply E_un; exact rfl; exact ru_not_t) ?_) <;> (try refine q_a ?_) <;> (try refine G_nil ?_)) | (refine G_region (id := 9) ?_ <;> (try refine q_m ?_) <;> (try refine q_e (q_f fo_104_0) ?_) <;> (try refine q_e q_l ?_) <;> (try refine q_e (by apply E_lookup1; exact rfl; exact rfl; exact c_29; exact Tryz.underlying82; exact Tryz.underlying9; exact trivial; exact Tryz.zeroValue4; (with_reducible assumption); (with_reducible assumption)) ?_) <;> (try refine q_a ?_) <;> (try refine G_nil ?_)) | (refine G_region (id := 10) ?_ <;> (try refine q_a ?_) <;> (try refine G_nil ?_)))
        (refine G_done Tryz.results43 (.tmp rfl .nil) ?_)
        exact ⟨_, ⟨by rw [heq]; rfl, rfl⟩, fun _ H => H.tail.tail.tail⟩
      · rw [if_neg hc] at heq
        replace hl2 := hl2.trans (congrArg Value.bool (@decide_eq_false _ (_) hc))
        repeat' (first | refine G_seq ?_ | refine G_then_n ?_ | refine G_cut_n ?_ | refine G_blk_n ?_ | refine G_block ?_ | refine G_skip ?_ | refine G_cond_t rfl ?_ | refine G_cond_f rfl ?_ | (refine G_region (id := 3) ?_ <;> (try refine q_e (q_b (r := by exact rb_lss_t q_o)) ?_) <;> (try refine G_nil ?_)) | (refine G_region (id := 4) ?_ <;> (try refine q_e (by apply E_indexAddr; exact rfl; exact rfl; (focus (apply r_ixs Tryz.underlying33 sz_104; omega; omega; exact c_1))) ?_) <;> (try refine q_e (by apply E_loadA (t := 104); exact rfl; exact c_18; kernel_rfl; kernel_rfl; exact sz_104; (with_reducible assumption); (with_reducible assumption)) ?_) <;> (try refine G_op1 ?_; (refine K1_alloc (t := 104) rfl Tryz.zeroValue104 ?_; intro nb hnb; (try simp only [Value.cells]))) <;> (try refine G_op1 ?_; (refine q_W ?_)) <;> (try refine G_nil ?_)) | (refine G_region (id := 5) ?_ <;> (try refine q_e (q_f fo_104_0) ?_) <;> (try refine q_e q_l ?_) <;> (try refine G_op1 ?_; (refine q_c 66 (c := by apply hpa) (h := ?_); rintro _ _ ⟨rfl, rfl⟩; (try simp only [List.eraseIdx_cons_succ]); (try simp only [List.eraseIdx_cons_zero]))) <;> (try refine q_e (by apply E_un; exact rfl; exact ru_not_t) ?_) <;> (try refine q_a ?_) <;> (try refine G_nil ?_)) | (refine G_region (id := 7) ?_ <;> (try refine q_e (q_L sz_36) ?_) <;> (try refine q_e (q_f fo_104_1) ?_) <;> (try refine q_e q_l ?_) <;> (try refine G_op1 ?_; (refine q_c 67 (c := by apply hgr) (h := ?_); rintro _ _ ⟨rfl, rfl⟩; (try simp only [List.eraseIdx_cons_succ]); (try simp only [List.eraseIdx_cons_zero]))) <;> (try refine q_e (by apply E_un; exact rfl; exact ru_not_t) ?_) <;> (try refine q_a ?_) <;> (try refine G_nil ?_)) | (refine G_region (id := 9) ?_ <;> (try refine q_m ?_) <;> (try refine q_e (q_f fo_104_0) ?_) <;> (try refine q_e q_l ?_) <;> (try refine q_e (by apply E_lookup1; exact rfl; exact rfl; exact c_29; exact Tryz.underlying82; exact Tryz.underlying9; exact trivial; exact Tryz.zeroValue4; (with_reducible assumption); (with_reducible assumption)) ?_) <;> (try refine q_a ?_) <;> (try refine G_nil ?_)) | (refine G_region (id := 11) ?_ <;> (try refine q_m ?_) <;> (try refine q_e (q_f fo_104_0) ?_) <;> (try refine q_e q_l ?_) <;> (try refine G_op1 ?_; (apply K1_mapUpdate; exact rfl; exact rfl; exact rfl; exact c_29; exact Tryz.underlying82; exact Tryz.underlying9; exact trivial; (with_reducible assumption); (try simp only [List.set_cons_succ]); (try simp only [List.set_cons_zero]))) <;> (try refine G_nil ?_)) | (refine G_region (id := 12) ?_ <;> (try refine q_e (q_b (r := by apply rb_add; exact c_5; (focus (refine IntWalk.i64_in _ ?_; omega)))) ?_) <;> (try refine q_m ?_) <;> (try refine G_nil ?_)))
        exact G_meet (k + 1, _) ⟨⟨by show k + 1 ≤ ps.length; omega, hl3, heq⟩, by show ps.length - (k + 1) < ps.length - k; omega⟩ (by (focus (repeat (first | exact Sub.nil | refine Sub.cons rfl ?_)))) (fun _ H => H.tail)
  · have hke : chkPaths hd (ps.drop k) ((ps.take k).map (·.1)) = 0 := by rw [List.drop_eq_nil_of_le (by omega)]; rfl
    rw [hke] at heq
    rw [heq]
    repeat' (first | refine G_seq ?_ | refine G_then_n ?_ | refine G_cut_x ?_ | refine G_then_x ?_ | refine G_blk_x ?_ | refine G_exit ?_ | refine G_ret ?_ | refine G_cond_f rfl ?_ | (refine G_region (id := 3) ?_ <;> (try refine q_e (q_b (r := by exact rb_lss_f q_o)) ?_) <;> (try refine G_nil ?_)) | (refine G_region (id := 13) ?_ <;> (try refine q_a ?_) <;> (try refine G_nil ?_)))
    (refine G_done Tryz.results43 (.tmp rfl .nil) ?_)
    exact ⟨_, ⟨rfl, rfl⟩, fun _ H => H.tail.tail⟩
theorem porC_at (ps : List (Nat × Nat)) (k : Nat) (h : k < ps.length) : ((porC ps).drop (k * 2)).take 2 = [.int .u16 (ps[k].1 : Nat), .int .u16 (ps[k].2 : Nat)] := by
  induction ps generalizing k with
  | nil => simp at h
  | cons c r ih =>
    cases k with
    | zero => rfl
    | succ k =>
      rw [show (k + 1) * 2 = k * 2 + 2 by omega]
      exact ih k (by simpa using h)
theorem chkPorts_at (hd : Nat) (ps : List (Nat × Nat)) (k : Nat) (h : k < ps.length) : chkPorts hd (ps.drop k) ((ps.take k).map (·.1)) =  if grantF hd ps[k].2 49152 = false then 204 else if ps[k].1 ∈ (ps.take k).map (·.1) then 206 else chkPorts hd (ps.drop (k + 1)) ((ps.take (k + 1)).map (·.1)) := by
  rw [take_fst ps k h, List.drop_eq_getElem_cons h]
  rfl
set_option maxRecDepth 100000 in
set_option maxHeartbeats 1000000 in
theorem ports_c {S w0 L} (nm : ByteArray) (df : Int) (hd : Nat) (hhd : hd < 65536) (r1 p1 q1 : Option Addr) (r2 r3 p2 p3 q2 q3 : Nat) (ps : List (Nat × Nat)) (hps : ∀ p ∈ ps, p.1 < 65536 ∧ p.2 < 65536) (hl : ps.length ≤ maxLen) (hN : q2 = ps.length) (hs : Sli L q1 ps.length 2 (porC ps)) :
    Fn Tryz.prog 44 #[.agg #[.string nm, .int .u32 df, .slice r1 r2 r3, .int .u16 (hd : Nat), .slice p1 p2 p3, .slice q1 q2 q3]] S w0 L fun v L' => v = .int .i64 (chkPorts hd ps [] : Nat) ∧ L = L' := by
  subst hN
  refine Fn1 Tryz.func44 Tryz.ntmps44 rfl rfl ?_
  repeat' (first | (refine G_markb (id := 0) ?_) | refine G_seq ?_ | refine G_then_n ?_ | (refine G_region (id := 0) ?_ <;> (try refine G_op1 ?_; (refine K1_box (t := 36) rfl rfl ?_; intro nb hnb; (try simp only [Value.cells]))) <;> (try refine q_a ?_) <;> (try refine G_nil ?_)) | (refine G_region (id := 1) ?_ <;> (try refine G_op1 ?_; (refine K1_makeMap rfl ?_; intro nb hnb)) <;> (try refine q_a ?_) <;> (try refine G_nil ?_)) | (refine G_region (id := 2) ?_ <;> (try refine q_e (q_f fo_36_5) ?_) <;> (try refine q_e q_l ?_) <;> (try refine q_e (by apply E_builtin; exact rfl; exact (fun _ => BigFrame.builtin_len ..); apply r_len_slice_e Tryz.underlying34; exact c_19) ?_) <;> (try refine q_m ?_) <;> (try refine G_nil ?_)))
  refine ⟨?_⟩
  rename_i n1 h1
  obtain ⟨n3, rfl⟩ : ∃ x, x = nb := ⟨_, rfl⟩
  refine G_block ?_
  refine G_loopk (γ := Nat × List (Value × Value)) (fun g => g.1 ≤ ps.length ∧ MapS keyP g.2 ((ps.take g.1).map (·.1)) ∧ chkPorts hd ps [] = chkPorts hd (ps.drop g.1) ((ps.take g.1).map (·.1))) (fun g => ps.length - g.1) (fun g => [(10, .int .i64 (g.1 : Nat))]) [(1, _), (3, _), (8, _), (9, _)]
    (fun g => mapB n3 g.2 :: ⟨true, n1, .cells #[.string nm, .int .u32 df, .slice r1 r2 r3, .int .u16 (hd : Nat), .slice p1 p2 p3, .slice q1 ps.length q3] 36 (0, 0)⟩ :: L) (0, []) (.cons rfl (.cons rfl (.cons rfl (.cons rfl .nil)))) ⟨Nat.zero_le _, MapS.nil _, rfl⟩ (by (focus (repeat (first | exact Sub.nil | refine Sub.cons rfl ?_)))) c_27 ?_
  rintro ⟨k, kvs⟩ ⟨hk, hM, heq⟩
  simp only [List.cons_append, List.nil_append]
  dsimp only at hk hM heq
  unfold maxLen at hl
  by_cases hlt : k < ps.length
  · obtain ⟨j, q, bb, off, cs, T, fr, rfl, hj, hsz, hx⟩ := hs.elem hlt
    rw [porC_at _ _ hlt] at hx
    obtain ⟨g1, g2⟩ := hps _ (List.getElem_mem hlt)
    rw [chkPorts_at hd ps k hlt] at heq
    have hgr := fun (L : List Blk) => granted_c (S := S) (w0 := w0) (L := L) nm df hd hhd r1 p1 (some ⟨bb, off, none⟩) r2 r3 p2 p3 ps.length q3 ps[k].2 49152 g2 (by omega)
    obtain ⟨rr, hl1, hl2, hl3⟩ := hM.look (.int .u16) keyP keyP_same ps[k].1
    rw [← take_fst ps k hlt] at hl3
    clear hM g1
    generalize (ps.take k).map (·.1) = seen at *
    generalize grantF hd ps[k].2 49152 = gf at *
    generalize ps[k] = p at *
    obtain ⟨pt, pr⟩ := p
    dsimp only at *
    cases gf with
    | false =>
      rw [if_pos rfl] at heq
      repeat' (first | refine G_seq ?_ | refine G_then_n ?_ | refine G_cut_r ?_ | refine G_then_r ?_ | refine G_blk_r ?_ | refine G_block ?_ | refine G_skip ?_ | refine G_ret ?_ | refine G_cond_t rfl ?_ | (refine G_region (id := 3) ?_ <;> (try refine q_e (q_b (r := by exact rb_lss_t q_o)) ?_) <;> (try refine G_nil ?_)) | (refine G_region (id := 4) ?_ <;> (try refine q_e (by apply E_indexAddr; exact rfl; exact rfl; (focus (apply r_ixs Tryz.underlying34 sz_106; omega; omega; exact c_1))) ?_) <;> (try refine q_e (by apply E_loadA (t := 106); exact rfl; exact c_18; kernel_rfl; kernel_rfl; exact sz_106; (with_reducible assumption); (with_reducible assumption)) ?_) <;> (try refine G_op1 ?_; (refine K1_alloc (t := 106) rfl Tryz.zeroValue106 ?_; intro nb hnb; (try simp only [Value.cells]))) <;> (try refine G_op1 ?_; (refine q_W ?_)) <;> (try refine G_nil ?_)) | (refine G_region (id := 5) ?_ <;> (try refine q_e (q_L sz_36) ?_) <;> (try refine q_e (q_f fo_106_1) ?_) <;> (try refine q_e q_l ?_) <;> (try refine G_op1 ?_; (refine q_c 67 (c := by apply hgr) (h := ?_); rintro _ _ ⟨rfl, rfl⟩; (try simp only [List.eraseIdx_cons_succ]); (try simp only [List.eraseIdx_cons_zero]))) <;> (try refine q_e (by apply E_un; exact rfl; exact ru_not_f) ?_) <;> (try refine q_a ?_) <;> (try refine G_nil ?_)) | (refine G_region (id := 6) ?_ <;> (try refine q_a ?_) <;> (try refine G_nil ?_)))
      (refine G_done Tryz.results44 (.tmp rfl .nil) ?_)
      exact ⟨_, ⟨by rw [heq]; rfl, rfl⟩, fun _ H => H.tail.tail.tail⟩
    | true =>
      rw [if_neg (fun h => by cases h)] at heq
      by_cases hc : pt ∈ seen
      · rw [if_pos hc] at heq
        replace hl2 := hl2.trans (congrArg Value.bool (@decide_eq_true _ (_) hc))
        repeat' (first | refine G_seq ?_ | refine G_then_n ?_ | refine G_cut_r ?_ | refine G_then_r ?_ | refine G_blk_r ?_ | refine G_block ?_ | refine G_skip ?_ | refine G_ret ?_ | refine G_cond_t rfl ?_ | refine G_cond_f rfl ?_ | (refine G_region (id := 3) ?_ <;> (try refine q_e (q_b (r := by exact rb_lss_t q_o)) ?_) <;> (try refine G_nil ?_)) | (refine G_region (id := 4) ?_ <;> (try refine q_e (by apply E_indexAddr; exact rfl; exact rfl; (focus (apply r_ixs Tryz.underlying34 sz_106; omega; omega; exact c_1))) ?_) <;> (try refine q_e (by apply E_loadA (t := 106); exact rfl; exact c_18; kernel_rfl; kernel_rfl; exact sz_106; (with_reducible assumption); (with_reducible assumption)) ?_) <;> (try refine G_op1 ?_; (refine K1_alloc (t := 106) rfl Tryz.zeroValue106 ?_; intro nb hnb; (try simp only [Value.cells]))) <;> (try refine G_op1 ?_; (refine q_W ?_)) <;> (try refine G_nil ?_)) | (refine G_region (id := 5) ?_ <;> (try refine q_e (q_L sz_36) ?_) <;> (try refine q_e (q_f fo_106_1) ?_) <;> (try refine q_e q_l ?_) <;> (try refine G_op1 ?_; (refine q_c 67 (c := by apply hgr) (h := ?_); rintro _ _ ⟨rfl, rfl⟩; (try simp only [List.eraseIdx_cons_succ]); (try simp only [List.eraseIdx_cons_zero]))) <;> (try refine q_e (by apply E_un; exact rfl; exact ru_not_t) ?_) <;> (try refine q_a ?_) <;> (try refine G_nil ?_)) | (refine G_region (id := 7) ?_ <;> (try refine q_m ?_) <;> (try refine q_e (q_f fo_106_0) ?_) <;> (try refine q_e q_l ?_) <;> (try refine q_e (by apply E_lookup1; exact rfl; exact rfl; exact c_29; exact Tryz.underlying83; exact Tryz.underlying31; exact rfl; exact Tryz.zeroValue4; (with_reducible assumption); (with_reducible assumption)) ?_) <;> (try refine q_a ?_) <;> (try refine G_nil ?_)) | (refine G_region (id := 8) ?_ <;> (try refine q_a ?_) <;> (try refine G_nil ?_)))
        (refine G_done Tryz.results44 (.tmp rfl .nil) ?_)
        exact ⟨_, ⟨by rw [heq]; rfl, rfl⟩, fun _ H => H.tail.tail.tail⟩
      · rw [if_neg hc] at heq
        replace hl2 := hl2.trans (congrArg Value.bool (@decide_eq_false _ (_) hc))
        repeat' (first | refine G_seq ?_ | refine G_then_n ?_ | refine G_cut_n ?_ | refine G_blk_n ?_ | refine G_block ?_ | refine G_skip ?_ | refine G_cond_t rfl ?_ | refine G_cond_f rfl ?_ | (refine G_region (id := 3) ?_ <;> (try refine q_e (q_b (r := by exact rb_lss_t q_o)) ?_) <;> (try refine G_nil ?_)) | (refine G_region (id := 4) ?_ <;> (try refine q_e (by apply E_indexAddr; exact rfl; exact rfl; (focus (apply r_ixs Tryz.underlying34 sz_106; omega; omega; exact c_1))) ?_) <;> (try refine q_e (by apply E_loadA (t := 106); exact rfl; exact c_18; kernel_rfl; kernel_rfl; exact sz_106; (with_reducible assumption); (with_reducible assumption)) ?_) <;> (try refine G_op1 ?_; (refine K1_alloc (t := 106) rfl Tryz.zeroValue106 ?_; intro nb hnb; (try simp only [Value.cells]))) <;> (try refine G_op1 ?_; (refine q_W ?_)) <;> (try refine G_nil ?_)) | (refine G_region (id := 5) ?_ <;> (try refine q_e (q_L sz_36) ?_) <;> (try refine q_e (q_f fo_106_1) ?_) <;> (try refine q_e q_l ?_) <;> (try refine G_op1 ?_; (refine q_c 67 (c := by apply hgr) (h := ?_); rintro _ _ ⟨rfl, rfl⟩; (try simp only [List.eraseIdx_cons_succ]); (try simp only [List.eraseIdx_cons_zero]))) <;> (try refine q_e (by apply E_un; exact rfl; exact ru_not_t) ?_) <;> (try refine q_a ?_) <;> (try refine G_nil ?_)) | (refine G_region (id := 7) ?_ <;> (try refine q_m ?_) <;> (try refine q_e (q_f fo_106_0) ?_) <;> (try refine q_e q_l ?_) <;> (try refine q_e (by apply E_lookup1; exact rfl; exact rfl; exact c_29; exact Tryz.underlying83; exact Tryz.underlying31; exact rfl; exact Tryz.zeroValue4; (with_reducible assumption); (with_reducible assumption)) ?_) <;> (try refine q_a ?_) <;> (try refine G_nil ?_)) | (refine G_region (id := 9) ?_ <;> (try refine q_m ?_) <;> (try refine q_e (q_f fo_106_0) ?_) <;> (try refine q_e q_l ?_) <;> (try refine G_op1 ?_; (apply K1_mapUpdate; exact rfl; exact rfl; exact rfl; exact c_29; exact Tryz.underlying83; exact Tryz.underlying31; exact rfl; (with_reducible assumption); (try simp only [List.set_cons_succ]); (try simp only [List.set_cons_zero]))) <;> (try refine G_nil ?_)) | (refine G_region (id := 10) ?_ <;> (try refine q_e (q_b (r := by apply rb_add; exact c_5; (focus (refine IntWalk.i64_in _ ?_; omega)))) ?_) <;> (try refine q_m ?_) <;> (try refine G_nil ?_)))
        exact G_meet (k + 1, _) ⟨⟨by show k + 1 ≤ ps.length; omega, hl3, heq⟩, by show ps.length - (k + 1) < ps.length - k; omega⟩ (by (focus (repeat (first | exact Sub.nil | refine Sub.cons rfl ?_)))) (fun _ H => H.tail)
  · have hke : chkPorts hd (ps.drop k) ((ps.take k).map (·.1)) = 0 := by rw [List.drop_eq_nil_of_le (by omega)]; rfl
    rw [hke] at heq
    rw [heq]
    repeat' (first | refine G_seq ?_ | refine G_then_n ?_ | refine G_cut_x ?_ | refine G_then_x ?_ | refine G_blk_x ?_ | refine G_exit ?_ | refine G_ret ?_ | refine G_cond_f rfl ?_ | (refine G_region (id := 3) ?_ <;> (try refine q_e (q_b (r := by exact rb_lss_f q_o)) ?_) <;> (try refine G_nil ?_)) | (refine G_region (id := 11) ?_ <;> (try refine q_a ?_) <;> (try refine G_nil ?_)))
    (refine G_done Tryz.results44 (.tmp rfl .nil) ?_)
    exact ⟨_, ⟨rfl, rfl⟩, fun _ H => H.tail.tail⟩
end Go.Proofs.YtecbgehooembmaaGreatDoor
namespace Go.Proofs.YtecbgehooembmaaGreatDoor
open Go Go.RowKit
theorem ne_paths (a : ByteArray) (b : Int) : RBin Tryz.prog .neq 104 (.agg #[.string a, .int .u16 b]) (.agg #[.string a, .int .u16 b]) (.bool false) := by
  apply RBin.mk
  intro w
  go_simp
set_option maxRecDepth 100000 in
set_option maxHeartbeats 1000000 in
theorem same_paths {S w0 L} (ps : List (List UInt8 × Nat)) (n : Nat) (hn : n = ps.length) (a1 a2 : Option Addr) (c1 c2 : Nat) (hl : ps.length ≤ maxLen) (s1 : Sli L a1 ps.length 2 (pthC ps)) (s2 : Sli L a2 ps.length 2 (pthC ps)) :
    Fn Tryz.prog 37 #[.slice a1 n c1, .slice a2 n c2] S w0 L fun v L' => v = .bool true ∧ L = L' := by
  subst hn
  unfold maxLen at hl
  refine Fn2 Tryz.func37 Tryz.ntmps37 rfl rfl ?_
  repeat' (first | (refine G_markb (id := 0) ?_) | refine G_seq ?_ | refine G_then_n ?_ | (refine G_region (id := 0) ?_ <;> (try refine q_a ?_) <;> (try refine G_nil ?_)) | (refine G_region (id := 1) ?_ <;> (try refine q_m ?_) <;> (try refine q_e (by apply E_builtin; exact rfl; exact (fun _ => BigFrame.builtin_len ..); apply r_len_slice_e Tryz.underlying33; exact c_19) ?_) <;> (try refine q_m ?_) <;> (try refine G_nil ?_)))
  refine ⟨?_⟩
  refine G_block ?_
  refine G_loopk (γ := Nat) (fun k => k ≤ ps.length) (fun k => ps.length - k) (fun k => [(9, .int .i64 (k : Nat))]) [(1, _), (7, _), (8, _)] (fun _ => L) 0 (.cons rfl (.cons rfl (.cons rfl .nil))) (Nat.zero_le _) (by (focus (repeat (first | exact Sub.nil | refine Sub.cons rfl ?_)))) (fun _ H => H) ?_
  intro k hk
  simp only [List.cons_append, List.nil_append]
  by_cases hlt : k < ps.length
  · obtain ⟨j, q, bb, off, cs, T, fr, rfl, hj, hsz, hx⟩ := s1.elem hlt
    obtain ⟨j2, q2, bb2, off2, cs2, T2, fr2, rfl, hj2, hsz2, hx2⟩ := s2.elem hlt
    rw [pthC_at _ _ hlt] at hx hx2
    generalize ps[k] = p at *
    obtain ⟨pt, pr⟩ := p
    try dsimp only at *
    have hne := ne_paths (mB8 pt) (pr : Nat)
    repeat' (first | refine G_seq ?_ | refine G_then_n ?_ | refine G_cut_n ?_ | refine G_blk_n ?_ | refine G_block ?_ | refine G_skip ?_ | refine G_cond_t rfl ?_ | refine G_cond_f rfl ?_ | (refine G_region (id := 2) ?_ <;> (try refine q_e (q_b (r := by exact rb_lss_t q_o)) ?_) <;> (try refine G_nil ?_)) | (refine G_region (id := 3) ?_ <;> (try refine q_m ?_) <;> (try refine q_e (by apply E_indexAddr; exact rfl; exact rfl; (focus (apply r_ixs Tryz.underlying33 sz_104; omega; omega; exact c_1))) ?_) <;> (try refine q_e (by apply E_loadA (t := 104); exact rfl; exact c_20; kernel_rfl; kernel_rfl; exact sz_104; (with_reducible assumption); (with_reducible assumption)) ?_) <;> (try refine G_op1 ?_; (refine K1_alloc (t := 104) rfl Tryz.zeroValue104 ?_; intro nb hnb; (try simp only [Value.cells]))) <;> (try refine q_a ?_) <;> (try refine G_op1 ?_; (refine q_W ?_)) <;> (try refine G_nil ?_)) | ((refine G_regionH (id := 4) (m := 6) (by kernel_rfl) rfl ?_) <;> (try refine q_t 0 (e := (fun _ H => H)) (x := by exact q_L sz_104) (h := ?_)) <;> (try refine q_t 1 (e := (fun _ H => H)) (x := by exact E_move rfl) (h := ?_)) <;> (try refine q_t 2 (e := (fun _ H => H)) (x := by exact E_move rfl) (h := ?_)) <;> (try refine q_t 3 (e := (fun _ H => H)) (x := by apply E_indexAddr; exact rfl; exact rfl; (focus (apply r_ixs Tryz.underlying33 sz_104; omega; omega; exact c_1))) (h := ?_)) <;> (try refine q_t 4 (e := (fun _ H => H)) (x := by apply E_loadA (t := 104); exact rfl; exact c_18; kernel_rfl; kernel_rfl; exact sz_104; (with_reducible assumption); (with_reducible assumption)) (h := ?_)) <;> (try refine q_t 5 (e := (fun _ H => H)) (x := by apply E_bin_agg (op := .neq) (t := 104); exact rfl; exact rfl; kernel_rfl; (with_reducible assumption)) (h := ?_)) <;> (try refine H_done (by kernel_rfl) ?_)) | (refine G_region (id := 6) ?_ <;> (try refine q_e (q_b (r := by apply rb_add; exact c_5; (focus (refine IntWalk.i64_in _ ?_; omega)))) ?_) <;> (try refine q_m ?_) <;> (try refine G_nil ?_)))
    exact G_meet (k + 1) ⟨by show k + 1 ≤ ps.length; omega, by show ps.length - (k + 1) < ps.length - k; omega⟩ (by (focus (repeat (first | exact Sub.nil | refine Sub.cons rfl ?_)))) (fun _ H => H.tail)
  · repeat' (first | refine G_seq ?_ | refine G_then_n ?_ | refine G_cut_x ?_ | refine G_then_x ?_ | refine G_blk_x ?_ | refine G_exit ?_ | refine G_ret ?_ | refine G_cond_f rfl ?_ | (refine G_region (id := 2) ?_ <;> (try refine q_e (q_b (r := by exact rb_lss_f q_o)) ?_) <;> (try refine G_nil ?_)) | (refine G_region (id := 7) ?_ <;> (try refine q_a ?_) <;> (try refine G_nil ?_)))
    (refine G_done Tryz.results37 (.tmp rfl .nil) ?_)
    exact ⟨_, ⟨rfl, rfl⟩, by intro w H; refine H.sub ?_; (try simp only [List.cons_append, List.nil_append]); repeat (exact List.Sublist.refl _)⟩
theorem ne_ports (a : Int) (b : Int) : RBin Tryz.prog .neq 106 (.agg #[.int .u16 a, .int .u16 b]) (.agg #[.int .u16 a, .int .u16 b]) (.bool false) := by
  apply RBin.mk
  intro w
  go_simp
set_option maxRecDepth 100000 in
set_option maxHeartbeats 1000000 in
theorem same_ports {S w0 L} (ps : List (Nat × Nat)) (n : Nat) (hn : n = ps.length) (a1 a2 : Option Addr) (c1 c2 : Nat) (hl : ps.length ≤ maxLen) (s1 : Sli L a1 ps.length 2 (porC ps)) (s2 : Sli L a2 ps.length 2 (porC ps)) :
    Fn Tryz.prog 38 #[.slice a1 n c1, .slice a2 n c2] S w0 L fun v L' => v = .bool true ∧ L = L' := by
  subst hn
  unfold maxLen at hl
  refine Fn2 Tryz.func38 Tryz.ntmps38 rfl rfl ?_
  repeat' (first | (refine G_markb (id := 0) ?_) | refine G_seq ?_ | refine G_then_n ?_ | (refine G_region (id := 0) ?_ <;> (try refine q_a ?_) <;> (try refine G_nil ?_)) | (refine G_region (id := 1) ?_ <;> (try refine q_m ?_) <;> (try refine q_e (by apply E_builtin; exact rfl; exact (fun _ => BigFrame.builtin_len ..); apply r_len_slice_e Tryz.underlying34; exact c_19) ?_) <;> (try refine q_m ?_) <;> (try refine G_nil ?_)))
  refine ⟨?_⟩
  refine G_block ?_
  refine G_loopk (γ := Nat) (fun k => k ≤ ps.length) (fun k => ps.length - k) (fun k => [(9, .int .i64 (k : Nat))]) [(1, _), (7, _), (8, _)] (fun _ => L) 0 (.cons rfl (.cons rfl (.cons rfl .nil))) (Nat.zero_le _) (by (focus (repeat (first | exact Sub.nil | refine Sub.cons rfl ?_)))) (fun _ H => H) ?_
  intro k hk
  simp only [List.cons_append, List.nil_append]
  by_cases hlt : k < ps.length
  · obtain ⟨j, q, bb, off, cs, T, fr, rfl, hj, hsz, hx⟩ := s1.elem hlt
    obtain ⟨j2, q2, bb2, off2, cs2, T2, fr2, rfl, hj2, hsz2, hx2⟩ := s2.elem hlt
    rw [porC_at _ _ hlt] at hx hx2
    generalize ps[k] = p at *
    obtain ⟨pt, pr⟩ := p
    try dsimp only at *
    have hne := ne_ports (pt : Nat) (pr : Nat)
    repeat' (first | refine G_seq ?_ | refine G_then_n ?_ | refine G_cut_n ?_ | refine G_blk_n ?_ | refine G_block ?_ | refine G_skip ?_ | refine G_cond_t rfl ?_ | refine G_cond_f rfl ?_ | (refine G_region (id := 2) ?_ <;> (try refine q_e (q_b (r := by exact rb_lss_t q_o)) ?_) <;> (try refine G_nil ?_)) | (refine G_region (id := 3) ?_ <;> (try refine q_m ?_) <;> (try refine q_e (by apply E_indexAddr; exact rfl; exact rfl; (focus (apply r_ixs Tryz.underlying34 sz_106; omega; omega; exact c_1))) ?_) <;> (try refine q_e (by apply E_loadA (t := 106); exact rfl; exact c_20; kernel_rfl; kernel_rfl; exact sz_106; (with_reducible assumption); (with_reducible assumption)) ?_) <;> (try refine G_op1 ?_; (refine K1_alloc (t := 106) rfl Tryz.zeroValue106 ?_; intro nb hnb; (try simp only [Value.cells]))) <;> (try refine q_a ?_) <;> (try refine G_op1 ?_; (refine q_W ?_)) <;> (try refine G_nil ?_)) | ((refine G_regionH (id := 4) (m := 6) (by kernel_rfl) rfl ?_) <;> (try refine q_t 0 (e := (fun _ H => H)) (x := by exact q_L sz_106) (h := ?_)) <;> (try refine q_t 1 (e := (fun _ H => H)) (x := by exact E_move rfl) (h := ?_)) <;> (try refine q_t 2 (e := (fun _ H => H)) (x := by exact E_move rfl) (h := ?_)) <;> (try refine q_t 3 (e := (fun _ H => H)) (x := by apply E_indexAddr; exact rfl; exact rfl; (focus (apply r_ixs Tryz.underlying34 sz_106; omega; omega; exact c_1))) (h := ?_)) <;> (try refine q_t 4 (e := (fun _ H => H)) (x := by apply E_loadA (t := 106); exact rfl; exact c_18; kernel_rfl; kernel_rfl; exact sz_106; (with_reducible assumption); (with_reducible assumption)) (h := ?_)) <;> (try refine q_t 5 (e := (fun _ H => H)) (x := by apply E_bin_agg (op := .neq) (t := 106); exact rfl; exact rfl; kernel_rfl; (with_reducible assumption)) (h := ?_)) <;> (try refine H_done (by kernel_rfl) ?_)) | (refine G_region (id := 6) ?_ <;> (try refine q_e (q_b (r := by apply rb_add; exact c_5; (focus (refine IntWalk.i64_in _ ?_; omega)))) ?_) <;> (try refine q_m ?_) <;> (try refine G_nil ?_)))
    exact G_meet (k + 1) ⟨by show k + 1 ≤ ps.length; omega, by show ps.length - (k + 1) < ps.length - k; omega⟩ (by (focus (repeat (first | exact Sub.nil | refine Sub.cons rfl ?_)))) (fun _ H => H.tail)
  · repeat' (first | refine G_seq ?_ | refine G_then_n ?_ | refine G_cut_x ?_ | refine G_then_x ?_ | refine G_blk_x ?_ | refine G_exit ?_ | refine G_ret ?_ | refine G_cond_f rfl ?_ | (refine G_region (id := 2) ?_ <;> (try refine q_e (q_b (r := by exact rb_lss_f q_o)) ?_) <;> (try refine G_nil ?_)) | (refine G_region (id := 7) ?_ <;> (try refine q_a ?_) <;> (try refine G_nil ?_)))
    (refine G_done Tryz.results38 (.tmp rfl .nil) ?_)
    exact ⟨_, ⟨rfl, rfl⟩, by intro w H; refine H.sub ?_; (try simp only [List.cons_append, List.nil_append]); repeat (exact List.Sublist.refl _)⟩
theorem ne_conds (a b c d : Int) : RBin Tryz.prog .neq 99 (.agg #[.int .i64 a, .int .u8 b, .int .u64 c, .int .u64 d]) (.agg #[.int .i64 a, .int .u8 b, .int .u64 c, .int .u64 d]) (.bool false) := by
  apply RBin.mk
  intro w
  go_simp
set_option maxRecDepth 100000 in
set_option maxHeartbeats 1000000 in
theorem same_conds {S w0 L} (ps : List (GCnd)) (n : Nat) (hn : n = ps.length) (a1 a2 : Option Addr) (c1 c2 : Nat) (hl : ps.length ≤ maxLen) (s1 : Sli L a1 ps.length 4 (gcC ps)) (s2 : Sli L a2 ps.length 4 (gcC ps)) :
    Fn Tryz.prog 64 #[.slice a1 n c1, .slice a2 n c2] S w0 L fun v L' => v = .bool true ∧ L = L' := by
  subst hn
  unfold maxLen at hl
  refine Fn2 Tryz.func64 Tryz.ntmps64 rfl rfl ?_
  repeat' (first | (refine G_markb (id := 0) ?_) | refine G_seq ?_ | refine G_then_n ?_ | (refine G_region (id := 0) ?_ <;> (try refine q_a ?_) <;> (try refine G_nil ?_)) | (refine G_region (id := 1) ?_ <;> (try refine q_m ?_) <;> (try refine q_e (by apply E_builtin; exact rfl; exact (fun _ => BigFrame.builtin_len ..); apply r_len_slice_e Tryz.underlying71; exact c_19) ?_) <;> (try refine q_m ?_) <;> (try refine G_nil ?_)))
  refine ⟨?_⟩
  refine G_block ?_
  refine G_loopk (γ := Nat) (fun k => k ≤ ps.length) (fun k => ps.length - k) (fun k => [(9, .int .i64 (k : Nat))]) [(1, _), (7, _), (8, _)] (fun _ => L) 0 (.cons rfl (.cons rfl (.cons rfl .nil))) (Nat.zero_le _) (by (focus (repeat (first | exact Sub.nil | refine Sub.cons rfl ?_)))) (fun _ H => H) ?_
  intro k hk
  simp only [List.cons_append, List.nil_append]
  by_cases hlt : k < ps.length
  · obtain ⟨j, q, bb, off, cs, T, fr, rfl, hj, hsz, hx⟩ := s1.elem hlt
    obtain ⟨j2, q2, bb2, off2, cs2, T2, fr2, rfl, hj2, hsz2, hx2⟩ := s2.elem hlt
    rw [gcC_at _ _ hlt] at hx hx2
    generalize ps[k] = p at *
    obtain ⟨ca, co, cm, cv⟩ := p
    try dsimp only at *
    have hne := ne_conds ca (co : Nat) (cm : Nat) (cv : Nat)
    repeat' (first | refine G_seq ?_ | refine G_then_n ?_ | refine G_cut_n ?_ | refine G_blk_n ?_ | refine G_block ?_ | refine G_skip ?_ | refine G_cond_t rfl ?_ | refine G_cond_f rfl ?_ | (refine G_region (id := 2) ?_ <;> (try refine q_e (q_b (r := by exact rb_lss_t q_o)) ?_) <;> (try refine G_nil ?_)) | (refine G_region (id := 3) ?_ <;> (try refine q_m ?_) <;> (try refine q_e (by apply E_indexAddr; exact rfl; exact rfl; (focus (apply r_ixs Tryz.underlying71 sz_99; omega; omega; exact c_1))) ?_) <;> (try refine q_e (by apply E_loadA (t := 99); exact rfl; exact c_20; kernel_rfl; kernel_rfl; exact sz_99; (with_reducible assumption); (with_reducible assumption)) ?_) <;> (try refine G_op1 ?_; (refine K1_alloc (t := 99) rfl Tryz.zeroValue99 ?_; intro nb hnb; (try simp only [Value.cells]))) <;> (try refine q_a ?_) <;> (try refine G_op1 ?_; (refine q_W ?_)) <;> (try refine G_nil ?_)) | ((refine G_regionH (id := 4) (m := 6) (by kernel_rfl) rfl ?_) <;> (try refine q_t 0 (e := (fun _ H => H)) (x := by exact q_L sz_99) (h := ?_)) <;> (try refine q_t 1 (e := (fun _ H => H)) (x := by exact E_move rfl) (h := ?_)) <;> (try refine q_t 2 (e := (fun _ H => H)) (x := by exact E_move rfl) (h := ?_)) <;> (try refine q_t 3 (e := (fun _ H => H)) (x := by apply E_indexAddr; exact rfl; exact rfl; (focus (apply r_ixs Tryz.underlying71 sz_99; omega; omega; exact c_1))) (h := ?_)) <;> (try refine q_t 4 (e := (fun _ H => H)) (x := by apply E_loadA (t := 99); exact rfl; exact c_18; kernel_rfl; kernel_rfl; exact sz_99; (with_reducible assumption); (with_reducible assumption)) (h := ?_)) <;> (try refine q_t 5 (e := (fun _ H => H)) (x := by apply E_bin_agg (op := .neq) (t := 99); exact rfl; exact rfl; kernel_rfl; (with_reducible assumption)) (h := ?_)) <;> (try refine H_done (by kernel_rfl) ?_)) | (refine G_region (id := 6) ?_ <;> (try refine q_e (q_b (r := by apply rb_add; exact c_5; (focus (refine IntWalk.i64_in _ ?_; omega)))) ?_) <;> (try refine q_m ?_) <;> (try refine G_nil ?_)))
    exact G_meet (k + 1) ⟨by show k + 1 ≤ ps.length; omega, by show ps.length - (k + 1) < ps.length - k; omega⟩ (by (focus (repeat (first | exact Sub.nil | refine Sub.cons rfl ?_)))) (fun _ H => H.tail)
  · repeat' (first | refine G_seq ?_ | refine G_then_n ?_ | refine G_cut_x ?_ | refine G_then_x ?_ | refine G_blk_x ?_ | refine G_exit ?_ | refine G_ret ?_ | refine G_cond_f rfl ?_ | (refine G_region (id := 2) ?_ <;> (try refine q_e (q_b (r := by exact rb_lss_f q_o)) ?_) <;> (try refine G_nil ?_)) | (refine G_region (id := 7) ?_ <;> (try refine q_a ?_) <;> (try refine G_nil ?_)))
    (refine G_done Tryz.results64 (.tmp rfl .nil) ?_)
    exact ⟨_, ⟨rfl, rfl⟩, by intro w H; refine H.sub ?_; (try simp only [List.cons_append, List.nil_append]); repeat (exact List.Sublist.refl _)⟩
end Go.Proofs.YtecbgehooembmaaGreatDoor
namespace Go.Proofs.YtecbgehooembmaaGreatDoor
open Go Go.RowKit
set_option maxRecDepth 100000 in
theorem samerule_c {S w0 L} (num act : Int) (cs : List GCnd) (v1 v2 : Value) (h1 : CndS L v1 cs) (h2 : CndS L v2 cs) :
    Fn Tryz.prog 36 #[.agg #[.int .u32 num, .int .u32 act, v1], .agg #[.int .u32 num, .int .u32 act, v2]] S w0 L fun v L' => v = .bool true ∧ L = L' := by
  obtain ⟨a1, c1, rfl, s1, l1⟩ := h1
  obtain ⟨a2, c2, rfl, s2, -⟩ := h2
  have hs := fun (e : List Blk) => same_conds (S := S) (w0 := w0) (L := e ++ L) cs _ rfl a1 a2 c1 c2 l1 (s1.upA e) (s2.upA e)
  have hs2 := fun (x1 x2 : Blk) => hs [x1, x2]
  simp only [List.cons_append, List.nil_append] at hs2
  refine Fn2 Tryz.func36 Tryz.ntmps36 rfl rfl ?_
  repeat' (first | refine G_seq ?_ | refine G_then_n ?_ | refine G_skip ?_ | refine G_ret ?_ | refine G_cond_f rfl ?_ | (refine G_region (id := 0) ?_ <;> (try refine G_op1 ?_; (refine K1_box (t := 73) rfl rfl ?_; intro nb hnb; (try simp only [Value.cells]))) <;> (try refine G_op1 ?_; (refine K1_box (t := 73) rfl rfl ?_; intro nb hnb; (try simp only [Value.cells]))) <;> (try refine q_a ?_) <;> (try refine G_nil ?_)) | (refine G_region (id := 1) ?_ <;> (try refine q_e (q_f fo_73_0) ?_) <;> (try refine q_e q_l ?_) <;> (try refine q_e (q_f fo_73_0) ?_) <;> (try refine q_e q_l ?_) <;> (try refine q_e (by exact q_b (r := by refine rb_neq_f ?_; first | rfl | (with_reducible assumption) | (decide; done) | omega)) ?_) <;> (try refine q_m ?_) <;> (try refine q_y (q_f fo_73_1) ?_) <;> (try refine q_y q_l ?_) <;> (try refine q_y (q_f fo_73_1) ?_) <;> (try refine q_y q_l ?_) <;> (try refine q_y (by exact q_b (r := by refine rb_neq_f ?_; first | rfl | (with_reducible assumption) | (decide; done) | omega)) ?_) <;> (try refine q_p ?_) <;> (try refine q_m ?_) <;> (try refine q_y (q_f fo_73_2) ?_) <;> (try refine q_y q_l ?_) <;> (try refine q_y (by apply E_builtin; exact rfl; exact (fun _ => BigFrame.builtin_len ..); apply r_len_slice_e Tryz.underlying71; exact c_19) ?_) <;> (try refine q_y (q_f fo_73_2) ?_) <;> (try refine q_y q_l ?_) <;> (try refine q_y (by apply E_builtin; exact rfl; exact (fun _ => BigFrame.builtin_len ..); apply r_len_slice_e Tryz.underlying71; exact c_19) ?_) <;> (try refine q_y (by exact q_b (r := by refine rb_neq_f ?_; first | rfl | (with_reducible assumption) | (decide; done) | omega)) ?_) <;> (try refine q_p ?_) <;> (try refine G_nil ?_)) | (refine G_region (id := 3) ?_ <;> (try refine q_e (q_f fo_73_2) ?_) <;> (try refine q_e q_l ?_) <;> (try refine q_e (q_f fo_73_2) ?_) <;> (try refine q_e q_l ?_) <;> (try refine G_op1 ?_; (refine q_c 64 (c := by apply hs2) (h := ?_); rintro _ _ ⟨rfl, rfl⟩; (try simp only [List.eraseIdx_cons_succ]); (try simp only [List.eraseIdx_cons_zero]))) <;> (try refine q_a ?_) <;> (try refine G_nil ?_)))
  (refine G_done Tryz.results36 (.tmp rfl .nil) ?_)
  exact ⟨_, ⟨rfl, rfl⟩, by intro w H; refine H.sub ?_; (try simp only [List.cons_append, List.nil_append]); repeat (first | exact List.Sublist.refl _ | refine List.Sublist.cons _ ?_)⟩
set_option maxRecDepth 100000 in
set_option maxHeartbeats 1000000 in
theorem psame_c {S w0 L} (P : GPol) (vr vp vq ur up uq : Value) (h1 : PolS L P vr vp vq) (h2 : PolS L P ur up uq) :
    Fn Tryz.prog 14 #[.agg (polG P vr vp vq).toArray, .agg (polG P ur up uq).toArray] S w0 L fun v L' => v = .bool true ∧ L = L' := by
  obtain ⟨⟨a1, c1, z1, rfl, r1, g1⟩, ⟨a2, c2, rfl, p1⟩, ⟨a3, c3, rfl, q1⟩, l1, l2, l3⟩ := h1
  obtain ⟨⟨b1, d1, z2, rfl, r2, g2⟩, ⟨b2, d2, rfl, p2⟩, ⟨b3, d3, rfl, q2⟩, -, -, -⟩ := h2
  have hsp := fun (x1 x2 : Blk) => same_paths (S := S) (w0 := w0) (L := [x1, x2] ++ L) P.paths _ rfl a2 b2 c2 d2 l2 (p1.upA _) (p2.upA _)
  have hsq := fun (x1 x2 : Blk) => same_ports (S := S) (w0 := w0) (L := [x1, x2] ++ L) P.ports _ rfl a3 b3 c3 d3 l3 (q1.upA _) (q2.upA _)
  obtain ⟨nm, df, rs, hd, ps, qs⟩ := P
  dsimp only at *
  generalize mB8 nm = nm' at *
  simp only [List.cons_append, List.nil_append] at hsp hsq
  unfold maxLen at l1 l2 l3
  refine Fn2 Tryz.func14 Tryz.ntmps14 rfl rfl ?_
  repeat' (first | (refine G_markb (id := 0) ?_) | refine G_seq ?_ | refine G_then_n ?_ | refine G_skip ?_ | refine G_cond_f rfl ?_ | (refine G_region (id := 0) ?_ <;> (try refine G_op1 ?_; (refine K1_box (t := 36) rfl rfl ?_; intro nb hnb; (try simp only [Value.cells]))) <;> (try refine G_op1 ?_; (refine K1_box (t := 36) rfl rfl ?_; intro nb hnb; (try simp only [Value.cells]))) <;> (try refine q_a ?_) <;> (try refine G_nil ?_)) | (refine G_region (id := 1) ?_ <;> (try refine q_e (q_f fo_36_0) ?_) <;> (try refine q_e q_l ?_) <;> (try refine q_e (q_f fo_36_0) ?_) <;> (try refine q_e q_l ?_) <;> (try refine q_e (q_b (r := by exact rb_strne_s)) ?_) <;> (try refine q_m ?_) <;> (try refine q_y (q_f fo_36_1) ?_) <;> (try refine q_y q_l ?_) <;> (try refine q_y (q_f fo_36_1) ?_) <;> (try refine q_y q_l ?_) <;> (try refine q_y (by exact q_b (r := by refine rb_neq_f ?_; first | rfl | (with_reducible assumption) | (decide; done) | omega)) ?_) <;> (try refine q_p ?_) <;> (try refine q_m ?_) <;> (try refine q_y (q_f fo_36_3) ?_) <;> (try refine q_y q_l ?_) <;> (try refine q_y (q_f fo_36_3) ?_) <;> (try refine q_y q_l ?_) <;> (try refine q_y (by exact q_b (r := by refine rb_neq_f ?_; first | rfl | (with_reducible assumption) | (decide; done) | omega)) ?_) <;> (try refine q_p ?_) <;> (try refine q_m ?_) <;> (try refine q_y (q_f fo_36_2) ?_) <;> (try refine q_y q_l ?_) <;> (try refine q_y (by apply E_builtin; exact rfl; exact (fun _ => BigFrame.builtin_len ..); apply r_len_slice_e Tryz.underlying30; exact c_19) ?_) <;> (try refine q_y (q_f fo_36_2) ?_) <;> (try refine q_y q_l ?_) <;> (try refine q_y (by apply E_builtin; exact rfl; exact (fun _ => BigFrame.builtin_len ..); apply r_len_slice_e Tryz.underlying30; exact c_19) ?_) <;> (try refine q_y (by exact q_b (r := by refine rb_neq_f ?_; first | rfl | (with_reducible assumption) | (decide; done) | omega)) ?_) <;> (try refine q_p ?_) <;> (try refine q_m ?_) <;> (try refine q_y (q_f fo_36_4) ?_) <;> (try refine q_y q_l ?_) <;> (try refine q_y (by apply E_builtin; exact rfl; exact (fun _ => BigFrame.builtin_len ..); apply r_len_slice_e Tryz.underlying33; exact c_19) ?_) <;> (try refine q_y (q_f fo_36_4) ?_) <;> (try refine q_y q_l ?_) <;> (try refine q_y (by apply E_builtin; exact rfl; exact (fun _ => BigFrame.builtin_len ..); apply r_len_slice_e Tryz.underlying33; exact c_19) ?_) <;> (try refine q_y (by exact q_b (r := by refine rb_neq_f ?_; first | rfl | (with_reducible assumption) | (decide; done) | omega)) ?_) <;> (try refine q_p ?_) <;> (try refine q_m ?_) <;> (try refine q_y (q_f fo_36_5) ?_) <;> (try refine q_y q_l ?_) <;> (try refine q_y (by apply E_builtin; exact rfl; exact (fun _ => BigFrame.builtin_len ..); apply r_len_slice_e Tryz.underlying34; exact c_19) ?_) <;> (try refine q_y (q_f fo_36_5) ?_) <;> (try refine q_y q_l ?_) <;> (try refine q_y (by apply E_builtin; exact rfl; exact (fun _ => BigFrame.builtin_len ..); apply r_len_slice_e Tryz.underlying34; exact c_19) ?_) <;> (try refine q_y (by exact q_b (r := by refine rb_neq_f ?_; first | rfl | (with_reducible assumption) | (decide; done) | omega)) ?_) <;> (try refine q_p ?_) <;> (try refine G_nil ?_)) | (refine G_region (id := 3) ?_ <;> (try refine q_e (q_f fo_36_2) ?_) <;> (try refine q_e q_l ?_) <;> (try refine q_e (by apply E_builtin; exact rfl; exact (fun _ => BigFrame.builtin_len ..); apply r_len_slice_e Tryz.underlying30; exact c_19) ?_) <;> (try refine q_m ?_) <;> (try refine G_nil ?_)))
  refine ⟨?_⟩
  rename_i n1 _
  obtain ⟨n2, rfl⟩ : ∃ x, x = nb := ⟨_, rfl⟩
  refine G_block ?_
  refine G_loopk (γ := Nat) (fun k => k ≤ rs.length) (fun k => rs.length - k) (fun k => [(56, .int .i64 (k : Nat))]) [(2, _), (3, _), (54, _), (55, _)] (fun _ => _ :: _ :: L) 0 (.cons rfl (.cons rfl (.cons rfl (.cons rfl .nil)))) (Nat.zero_le _) (by (focus (repeat (first | exact Sub.nil | refine Sub.cons rfl ?_)))) (fun _ H => H) ?_
  intro k hk
  simp only [List.cons_append, List.nil_append]
  by_cases hlt : k < rs.length
  · obtain ⟨j, q, bb, off, cs, T, fr, rfl, hj, hsz, hx⟩ := r1.elem hlt
    obtain ⟨j2, qb, bb2, off2, cs2, T2, fr2, rfl, hj2, hsz2, hx2⟩ := r2.elem hlt
    obtain ⟨v1, e1, k1⟩ := g1.at_ k hlt
    obtain ⟨v2, e2, k2⟩ := g2.at_ k hlt
    obtain ⟨u1, y1, rfl, m1, o1⟩ := k1
    obtain ⟨u2, y2, rfl, m2, o2⟩ := k2
    rw [e1] at hx
    rw [e2] at hx2
    have hsr := fun (x0 x1 x2 : Blk) => samerule_c (S := S) (w0 := w0) (L := [x0, x1, x2] ++ L) rs[k].num rs[k].act rs[k].conds _ _ ⟨u1, y1, rfl, m1.upA _, o1⟩ ⟨u2, y2, rfl, m2.upA _, o2⟩
    simp only [List.cons_append, List.nil_append] at hsr
    clear m1 m2 e1 e2 o1 o2
    generalize rs[k] = r at *
    obtain ⟨rn, ra, rcs⟩ := r
    dsimp only at *
    repeat' (first | refine G_seq ?_ | refine G_then_n ?_ | refine G_cut_n ?_ | refine G_blk_n ?_ | refine G_block ?_ | refine G_skip ?_ | refine G_cond_t rfl ?_ | refine G_cond_f rfl ?_ | (refine G_region (id := 4) ?_ <;> (try refine q_e (q_b (r := by exact rb_lss_t q_o)) ?_) <;> (try refine G_nil ?_)) | (refine G_region (id := 5) ?_ <;> (try refine q_m ?_) <;> (try refine q_e (by apply E_indexAddr; exact rfl; exact rfl; (focus (apply r_ixs Tryz.underlying30 sz_73; omega; omega; exact c_1))) ?_) <;> (try refine q_e (by apply E_loadA (t := 73); exact rfl; exact c_18; kernel_rfl; kernel_rfl; exact sz_73; (with_reducible assumption); (with_reducible assumption)) ?_) <;> (try refine G_op1 ?_; (refine K1_alloc (t := 73) rfl Tryz.zeroValue73 ?_; intro nb hnb; (try simp only [Value.cells]))) <;> (try refine q_a ?_) <;> (try refine G_op1 ?_; (refine q_W ?_)) <;> (try refine G_nil ?_)) | ((refine G_regionH (id := 6) (m := 8) (by kernel_rfl) rfl ?_) <;> (try refine q_t 0 (e := (fun _ H => H)) (x := by exact q_L sz_73) (h := ?_)) <;> (try refine q_t 1 (e := (fun _ H => H)) (x := by exact q_f fo_36_2) (h := ?_)) <;> (try refine q_t 2 (e := (fun _ H => H)) (x := by exact q_l) (h := ?_)) <;> (try refine q_t 3 (e := (fun _ H => H)) (x := by exact E_move rfl) (h := ?_)) <;> (try refine q_t 4 (e := (fun _ H => H)) (x := by apply E_indexAddr; exact rfl; exact rfl; (focus (apply r_ixs Tryz.underlying30 sz_73; omega; omega; exact c_1))) (h := ?_)) <;> (try refine q_t 5 (e := (fun _ H => H)) (x := by apply E_loadA (t := 73); exact rfl; exact c_18; kernel_rfl; kernel_rfl; exact sz_73; (with_reducible assumption); (with_reducible assumption)) (h := ?_)) <;> (try refine q_r 6 ?_; (refine q_c 36 (c := by apply hsr) (h := ?_); rintro _ _ ⟨rfl, rfl⟩; (try simp only [List.eraseIdx_cons_succ]); (try simp only [List.eraseIdx_cons_zero])); refine H_go (fun _ H => H) ?_) <;> (try refine q_t 7 (e := (fun _ H => H)) (x := by apply E_un; exact rfl; exact ru_not_t) (h := ?_)) <;> (try refine H_done (by kernel_rfl) ?_)) | (refine G_region (id := 8) ?_ <;> (try refine q_e (q_b (r := by apply rb_add; exact c_5; (focus (refine IntWalk.i64_in _ ?_; omega)))) ?_) <;> (try refine q_m ?_) <;> (try refine G_nil ?_)))
    exact G_meet (k + 1) ⟨by show k + 1 ≤ rs.length; omega, by show rs.length - (k + 1) < rs.length - k; omega⟩ (by (focus (repeat (first | exact Sub.nil | refine Sub.cons rfl ?_)))) (fun _ H => H.tail)
  · repeat' (first | refine G_seq ?_ | refine G_then_n ?_ | refine G_cut_x ?_ | refine G_then_x ?_ | refine G_blk_x ?_ | refine G_exit ?_ | refine G_ret ?_ | refine G_cond_f rfl ?_ | (refine G_region (id := 4) ?_ <;> (try refine q_e (q_b (r := by exact rb_lss_f q_o)) ?_) <;> (try refine G_nil ?_)) | (refine G_region (id := 9) ?_ <;> (try refine q_e (q_f fo_36_4) ?_) <;> (try refine q_e q_l ?_) <;> (try refine q_e (q_f fo_36_4) ?_) <;> (try refine q_e q_l ?_) <;> (try refine G_op1 ?_; (refine q_c 37 (c := by apply hsp) (h := ?_); rintro _ _ ⟨rfl, rfl⟩; (try simp only [List.eraseIdx_cons_succ]); (try simp only [List.eraseIdx_cons_zero]))) <;> (try refine q_m ?_) <;> (try refine q_y (q_f fo_36_5) ?_) <;> (try refine q_y q_l ?_) <;> (try refine q_y (q_f fo_36_5) ?_) <;> (try refine q_y q_l ?_) <;> (try refine G_op1 ?_; (refine K1_yes rfl rfl rfl ?_; (refine q_c 38 (c := by apply hsq) (h := ?_); rintro _ _ ⟨rfl, rfl⟩; (try simp only [List.eraseIdx_cons_succ]); (try simp only [List.eraseIdx_cons_zero])))) <;> (try refine q_p ?_) <;> (try refine q_a ?_) <;> (try refine G_nil ?_)))
    (refine G_done Tryz.results14 (.tmp rfl .nil) ?_)
    exact ⟨_, ⟨rfl, rfl⟩, by intro w H; refine H.sub ?_; (try simp only [List.cons_append, List.nil_append]); repeat (first | exact List.Sublist.refl _ | refine List.Sublist.cons _ ?_)⟩
end Go.Proofs.YtecbgehooembmaaGreatDoor
namespace Go.Proofs.YtecbgehooembmaaGreatDoor
open Go Go.RowKit
set_option maxRecDepth 100000 in
set_option maxHeartbeats 2000000 in
theorem check_c {S w0 L} (P : GPol) (h : P.ok) (vr vp vq : Value) (hS : PolS L P vr vp vq) (hr : P.rules.length ≤ 1000) (ct m1 m2 n : Nat) (hn : n ≤ 90000) :
    Fn Tryz.prog 17 #[.agg (polG P vr vp vq).toArray, .pointer (some ⟨ct, 0, none⟩)] S w0 (tbS ct m1 m2 n ++ L) fun v L' => ∃ m1' m2' n', v = .int .i64 (chkG P : Nat) ∧ n' ≤ n + P.rules.length ∧ tbS ct m1' m2' n' ++ L = L' := by
  obtain ⟨⟨ra, rc, cz, e1, hrs, hrg⟩, ⟨pa, pc, e2, hps⟩, ⟨qa, qc, e3, hqs⟩, -, hl2, hl3⟩ := hS
  subst e1 e2 e3
  have hwo := fun (L : List Blk) => Wd.word_c (S := S) (w0 := w0) (L := L) (mB8 P.nm) (by rw [mB8_size]; exact h.nm)
  have hac := fun (L : List Blk) => actok_c (S := S) (w0 := w0) (L := L) P.df h.df
  have hva := fun (L : List Blk) => Rg.valid_c (S := S) (w0 := w0) (L := L) P.hd h.hd
  have hpa := fun (L : List Blk) hs => paths_c (S := S) (w0 := w0) (L := L) (mB8 P.nm) P.df P.hd h.hd ra pa qa P.rules.length rc P.paths.length pc P.ports.length qc P.paths h.paths hl2 rfl hs
  have hpo := fun (L : List Blk) hs => ports_c (S := S) (w0 := w0) (L := L) (mB8 P.nm) P.df P.hd h.hd ra pa qa P.rules.length rc P.paths.length pc P.ports.length qc P.ports h.ports hl3 rfl hs
  have hru := h.rules
  have hG : chkG P = if Wd.wordF (mB8 P.nm) = false then 202 else if actOk P.df = false then 210 else if 64 < P.rules.length ∨ 32 < P.paths.length ∨ 32 < P.ports.length then 205 else if decide (iandn (P.hd : Int) 51199 = 0) = false then 204 else if firstE (P.rules.map chkR) ≠ 0 then firstE (P.rules.map chkR) else if chkPaths P.hd P.paths [] ≠ 0 then chkPaths P.hd P.paths [] else chkPorts P.hd P.ports [] := by
    unfold chkG
    by_cases hx : iandn (P.hd : Int) 51199 = 0 <;> simp [hx]
  rw [hG]
  clear hG h
  obtain ⟨nm, df, rules, hd, paths, ports⟩ := P
  dsimp only [polG] at *
  generalize Wd.wordF (mB8 nm) = wf at *
  generalize actOk df = ak at *
  generalize decide (iandn (hd : Int) 51199 = 0) = vf at *
  unfold maxLen at hl2 hl3
  cases wf with
  | false =>
    rw [if_pos rfl]
    clear hpa hpo
    refine Fn2 Tryz.func17 Tryz.ntmps17 rfl rfl ?_
    repeat' (first | refine G_seq ?_ | refine G_then_n ?_ | refine G_then_r ?_ | refine G_blk_r ?_ | refine G_block ?_ | refine G_ret ?_ | refine G_cond_t rfl ?_ | refine G_cond_f rfl ?_ | (refine G_region (id := 0) ?_ <;> (try refine G_op1 ?_; (refine K1_box (t := 36) rfl rfl ?_; intro nb hnb; (try simp only [Value.cells]))) <;> (try refine q_a ?_) <;> (try refine G_nil ?_)) | (refine G_region (id := 1) ?_ <;> (try refine q_m ?_) <;> (try refine q_e (q_b (r := by exact rb_peq_sn Tryz.underlying41)) ?_) <;> (try refine q_a ?_) <;> (try refine G_nil ?_)) | (refine G_region (id := 3) ?_ <;> (try refine q_e (q_f fo_36_0) ?_) <;> (try refine q_e q_l ?_) <;> (try refine G_op1 ?_; (refine q_c 39 (c := by apply hwo) (h := ?_); rintro _ _ ⟨rfl, rfl⟩; (try simp only [List.eraseIdx_cons_succ]); (try simp only [List.eraseIdx_cons_zero]))) <;> (try refine q_e (by apply E_un; exact rfl; exact ru_not_f) ?_) <;> (try refine q_a ?_) <;> (try refine G_nil ?_)) | (refine G_region (id := 4) ?_ <;> (try refine q_a ?_) <;> (try refine G_nil ?_)))
    (refine G_done Tryz.results17 (.tmp rfl .nil) ?_)
    exact ⟨_, ⟨m1, m2, n, rfl, by omega, rfl⟩, fun _ H => H.tail⟩
  | true =>
  rw [if_neg (fun h => by cases h)]
  cases ak with
  | false =>
    rw [if_pos rfl]
    clear hpa hpo
    refine Fn2 Tryz.func17 Tryz.ntmps17 rfl rfl ?_
    repeat' (first | refine G_seq ?_ | refine G_then_n ?_ | refine G_then_r ?_ | refine G_blk_r ?_ | refine G_block ?_ | refine G_ret ?_ | refine G_cond_t rfl ?_ | refine G_cond_f rfl ?_ | (refine G_region (id := 0) ?_ <;> (try refine G_op1 ?_; (refine K1_box (t := 36) rfl rfl ?_; intro nb hnb; (try simp only [Value.cells]))) <;> (try refine q_a ?_) <;> (try refine G_nil ?_)) | (refine G_region (id := 1) ?_ <;> (try refine q_m ?_) <;> (try refine q_e (q_b (r := by exact rb_peq_sn Tryz.underlying41)) ?_) <;> (try refine q_a ?_) <;> (try refine G_nil ?_)) | (refine G_region (id := 3) ?_ <;> (try refine q_e (q_f fo_36_0) ?_) <;> (try refine q_e q_l ?_) <;> (try refine G_op1 ?_; (refine q_c 39 (c := by apply hwo) (h := ?_); rintro _ _ ⟨rfl, rfl⟩; (try simp only [List.eraseIdx_cons_succ]); (try simp only [List.eraseIdx_cons_zero]))) <;> (try refine q_e (by apply E_un; exact rfl; exact ru_not_t) ?_) <;> (try refine q_a ?_) <;> (try refine G_nil ?_)) | (refine G_region (id := 5) ?_ <;> (try refine q_e (q_f fo_36_1) ?_) <;> (try refine q_e q_l ?_) <;> (try refine G_op1 ?_; (refine q_c 40 (c := by apply hac) (h := ?_); rintro _ _ ⟨rfl, rfl⟩; (try simp only [List.eraseIdx_cons_succ]); (try simp only [List.eraseIdx_cons_zero]))) <;> (try refine q_e (by apply E_un; exact rfl; exact ru_not_f) ?_) <;> (try refine q_a ?_) <;> (try refine G_nil ?_)) | (refine G_region (id := 6) ?_ <;> (try refine q_a ?_) <;> (try refine G_nil ?_)))
    (refine G_done Tryz.results17 (.tmp rfl .nil) ?_)
    exact ⟨_, ⟨m1, m2, n, rfl, by omega, rfl⟩, fun _ H => H.tail⟩
  | true =>
  rw [if_neg (fun h => by cases h)]
  by_cases hb : 64 < rules.length ∨ 32 < paths.length ∨ 32 < ports.length
  · rw [if_pos hb]
    clear hpa hpo
    by_cases b1 : 64 < rules.length
    · refine Fn2 Tryz.func17 Tryz.ntmps17 rfl rfl ?_
      repeat' (first | refine G_seq ?_ | refine G_then_n ?_ | refine G_then_r ?_ | refine G_blk_r ?_ | refine G_block ?_ | refine G_ret ?_ | refine G_cond_t rfl ?_ | refine G_cond_f rfl ?_ | (refine G_region (id := 0) ?_ <;> (try refine G_op1 ?_; (refine K1_box (t := 36) rfl rfl ?_; intro nb hnb; (try simp only [Value.cells]))) <;> (try refine q_a ?_) <;> (try refine G_nil ?_)) | (refine G_region (id := 1) ?_ <;> (try refine q_m ?_) <;> (try refine q_e (q_b (r := by exact rb_peq_sn Tryz.underlying41)) ?_) <;> (try refine q_a ?_) <;> (try refine G_nil ?_)) | (refine G_region (id := 3) ?_ <;> (try refine q_e (q_f fo_36_0) ?_) <;> (try refine q_e q_l ?_) <;> (try refine G_op1 ?_; (refine q_c 39 (c := by apply hwo) (h := ?_); rintro _ _ ⟨rfl, rfl⟩; (try simp only [List.eraseIdx_cons_succ]); (try simp only [List.eraseIdx_cons_zero]))) <;> (try refine q_e (by apply E_un; exact rfl; exact ru_not_t) ?_) <;> (try refine q_a ?_) <;> (try refine G_nil ?_)) | (refine G_region (id := 5) ?_ <;> (try refine q_e (q_f fo_36_1) ?_) <;> (try refine q_e q_l ?_) <;> (try refine G_op1 ?_; (refine q_c 40 (c := by apply hac) (h := ?_); rintro _ _ ⟨rfl, rfl⟩; (try simp only [List.eraseIdx_cons_succ]); (try simp only [List.eraseIdx_cons_zero]))) <;> (try refine q_e (by apply E_un; exact rfl; exact ru_not_t) ?_) <;> (try refine q_a ?_) <;> (try refine G_nil ?_)) | (refine G_region (id := 7) ?_ <;> (try refine q_e (q_f fo_36_2) ?_) <;> (try refine q_e q_l ?_) <;> (try refine q_e (by apply E_builtin; exact rfl; exact (fun _ => BigFrame.builtin_len ..); apply r_len_slice_e Tryz.underlying30; exact c_19) ?_) <;> (try refine q_e (q_b (r := by exact rb_gtr_t q_o)) ?_) <;> (try refine q_m ?_) <;> (try refine q_z ?_) <;> (try refine q_z ?_) <;> (try refine q_z ?_) <;> (try refine q_z ?_) <;> (try refine q_p ?_) <;> (try refine q_m ?_) <;> (try refine q_z ?_) <;> (try refine q_z ?_) <;> (try refine q_z ?_) <;> (try refine q_z ?_) <;> (try refine q_p ?_) <;> (try refine q_a ?_) <;> (try refine G_nil ?_)) | (refine G_region (id := 8) ?_ <;> (try refine q_a ?_) <;> (try refine G_nil ?_)))
      (refine G_done Tryz.results17 (.tmp rfl .nil) ?_)
      exact ⟨_, ⟨m1, m2, n, rfl, by omega, rfl⟩, fun _ H => H.tail⟩
    by_cases b2 : 32 < paths.length
    · refine Fn2 Tryz.func17 Tryz.ntmps17 rfl rfl ?_
      repeat' (first | refine G_seq ?_ | refine G_then_n ?_ | refine G_then_r ?_ | refine G_blk_r ?_ | refine G_block ?_ | refine G_ret ?_ | refine G_cond_t rfl ?_ | refine G_cond_f rfl ?_ | (refine G_region (id := 0) ?_ <;> (try refine G_op1 ?_; (refine K1_box (t := 36) rfl rfl ?_; intro nb hnb; (try simp only [Value.cells]))) <;> (try refine q_a ?_) <;> (try refine G_nil ?_)) | (refine G_region (id := 1) ?_ <;> (try refine q_m ?_) <;> (try refine q_e (q_b (r := by exact rb_peq_sn Tryz.underlying41)) ?_) <;> (try refine q_a ?_) <;> (try refine G_nil ?_)) | (refine G_region (id := 3) ?_ <;> (try refine q_e (q_f fo_36_0) ?_) <;> (try refine q_e q_l ?_) <;> (try refine G_op1 ?_; (refine q_c 39 (c := by apply hwo) (h := ?_); rintro _ _ ⟨rfl, rfl⟩; (try simp only [List.eraseIdx_cons_succ]); (try simp only [List.eraseIdx_cons_zero]))) <;> (try refine q_e (by apply E_un; exact rfl; exact ru_not_t) ?_) <;> (try refine q_a ?_) <;> (try refine G_nil ?_)) | (refine G_region (id := 5) ?_ <;> (try refine q_e (q_f fo_36_1) ?_) <;> (try refine q_e q_l ?_) <;> (try refine G_op1 ?_; (refine q_c 40 (c := by apply hac) (h := ?_); rintro _ _ ⟨rfl, rfl⟩; (try simp only [List.eraseIdx_cons_succ]); (try simp only [List.eraseIdx_cons_zero]))) <;> (try refine q_e (by apply E_un; exact rfl; exact ru_not_t) ?_) <;> (try refine q_a ?_) <;> (try refine G_nil ?_)) | (refine G_region (id := 7) ?_ <;> (try refine q_e (q_f fo_36_2) ?_) <;> (try refine q_e q_l ?_) <;> (try refine q_e (by apply E_builtin; exact rfl; exact (fun _ => BigFrame.builtin_len ..); apply r_len_slice_e Tryz.underlying30; exact c_19) ?_) <;> (try refine q_e (q_b (r := by exact rb_gtr_f q_o)) ?_) <;> (try refine q_m ?_) <;> (try refine q_y (q_f fo_36_4) ?_) <;> (try refine q_y q_l ?_) <;> (try refine q_y (by apply E_builtin; exact rfl; exact (fun _ => BigFrame.builtin_len ..); apply r_len_slice_e Tryz.underlying33; exact c_19) ?_) <;> (try refine q_y (q_b (r := by exact rb_gtr_t q_o)) ?_) <;> (try refine q_p ?_) <;> (try refine q_m ?_) <;> (try refine q_z ?_) <;> (try refine q_z ?_) <;> (try refine q_z ?_) <;> (try refine q_z ?_) <;> (try refine q_p ?_) <;> (try refine q_a ?_) <;> (try refine G_nil ?_)) | (refine G_region (id := 8) ?_ <;> (try refine q_a ?_) <;> (try refine G_nil ?_)))
      (refine G_done Tryz.results17 (.tmp rfl .nil) ?_)
      exact ⟨_, ⟨m1, m2, n, rfl, by omega, rfl⟩, fun _ H => H.tail⟩
    · have b3 : 32 < ports.length := by omega
      refine Fn2 Tryz.func17 Tryz.ntmps17 rfl rfl ?_
      repeat' (first | refine G_seq ?_ | refine G_then_n ?_ | refine G_then_r ?_ | refine G_blk_r ?_ | refine G_block ?_ | refine G_ret ?_ | refine G_cond_t rfl ?_ | refine G_cond_f rfl ?_ | (refine G_region (id := 0) ?_ <;> (try refine G_op1 ?_; (refine K1_box (t := 36) rfl rfl ?_; intro nb hnb; (try simp only [Value.cells]))) <;> (try refine q_a ?_) <;> (try refine G_nil ?_)) | (refine G_region (id := 1) ?_ <;> (try refine q_m ?_) <;> (try refine q_e (q_b (r := by exact rb_peq_sn Tryz.underlying41)) ?_) <;> (try refine q_a ?_) <;> (try refine G_nil ?_)) | (refine G_region (id := 3) ?_ <;> (try refine q_e (q_f fo_36_0) ?_) <;> (try refine q_e q_l ?_) <;> (try refine G_op1 ?_; (refine q_c 39 (c := by apply hwo) (h := ?_); rintro _ _ ⟨rfl, rfl⟩; (try simp only [List.eraseIdx_cons_succ]); (try simp only [List.eraseIdx_cons_zero]))) <;> (try refine q_e (by apply E_un; exact rfl; exact ru_not_t) ?_) <;> (try refine q_a ?_) <;> (try refine G_nil ?_)) | (refine G_region (id := 5) ?_ <;> (try refine q_e (q_f fo_36_1) ?_) <;> (try refine q_e q_l ?_) <;> (try refine G_op1 ?_; (refine q_c 40 (c := by apply hac) (h := ?_); rintro _ _ ⟨rfl, rfl⟩; (try simp only [List.eraseIdx_cons_succ]); (try simp only [List.eraseIdx_cons_zero]))) <;> (try refine q_e (by apply E_un; exact rfl; exact ru_not_t) ?_) <;> (try refine q_a ?_) <;> (try refine G_nil ?_)) | (refine G_region (id := 7) ?_ <;> (try refine q_e (q_f fo_36_2) ?_) <;> (try refine q_e q_l ?_) <;> (try refine q_e (by apply E_builtin; exact rfl; exact (fun _ => BigFrame.builtin_len ..); apply r_len_slice_e Tryz.underlying30; exact c_19) ?_) <;> (try refine q_e (q_b (r := by exact rb_gtr_f q_o)) ?_) <;> (try refine q_m ?_) <;> (try refine q_y (q_f fo_36_4) ?_) <;> (try refine q_y q_l ?_) <;> (try refine q_y (by apply E_builtin; exact rfl; exact (fun _ => BigFrame.builtin_len ..); apply r_len_slice_e Tryz.underlying33; exact c_19) ?_) <;> (try refine q_y (q_b (r := by exact rb_gtr_f q_o)) ?_) <;> (try refine q_p ?_) <;> (try refine q_m ?_) <;> (try refine q_y (q_f fo_36_5) ?_) <;> (try refine q_y q_l ?_) <;> (try refine q_y (by apply E_builtin; exact rfl; exact (fun _ => BigFrame.builtin_len ..); apply r_len_slice_e Tryz.underlying34; exact c_19) ?_) <;> (try refine q_y (q_b (r := by exact rb_gtr_t q_o)) ?_) <;> (try refine q_p ?_) <;> (try refine q_a ?_) <;> (try refine G_nil ?_)) | (refine G_region (id := 8) ?_ <;> (try refine q_a ?_) <;> (try refine G_nil ?_)))
      (refine G_done Tryz.results17 (.tmp rfl .nil) ?_)
      exact ⟨_, ⟨m1, m2, n, rfl, by omega, rfl⟩, fun _ H => H.tail⟩
  rw [if_neg hb]
  have b1 : ¬ 64 < rules.length := fun h => hb (Or.inl h)
  have b2 : ¬ 32 < paths.length := fun h => hb (Or.inr (Or.inl h))
  have b3 : ¬ 32 < ports.length := fun h => hb (Or.inr (Or.inr h))
  clear hb
  cases vf with
  | false =>
    rw [if_pos rfl]
    clear hpa hpo
    refine Fn2 Tryz.func17 Tryz.ntmps17 rfl rfl ?_
    repeat' (first | refine G_seq ?_ | refine G_then_n ?_ | refine G_then_r ?_ | refine G_blk_r ?_ | refine G_block ?_ | refine G_ret ?_ | refine G_cond_t rfl ?_ | refine G_cond_f rfl ?_ | (refine G_region (id := 0) ?_ <;> (try refine G_op1 ?_; (refine K1_box (t := 36) rfl rfl ?_; intro nb hnb; (try simp only [Value.cells]))) <;> (try refine q_a ?_) <;> (try refine G_nil ?_)) | (refine G_region (id := 1) ?_ <;> (try refine q_m ?_) <;> (try refine q_e (q_b (r := by exact rb_peq_sn Tryz.underlying41)) ?_) <;> (try refine q_a ?_) <;> (try refine G_nil ?_)) | (refine G_region (id := 3) ?_ <;> (try refine q_e (q_f fo_36_0) ?_) <;> (try refine q_e q_l ?_) <;> (try refine G_op1 ?_; (refine q_c 39 (c := by apply hwo) (h := ?_); rintro _ _ ⟨rfl, rfl⟩; (try simp only [List.eraseIdx_cons_succ]); (try simp only [List.eraseIdx_cons_zero]))) <;> (try refine q_e (by apply E_un; exact rfl; exact ru_not_t) ?_) <;> (try refine q_a ?_) <;> (try refine G_nil ?_)) | (refine G_region (id := 5) ?_ <;> (try refine q_e (q_f fo_36_1) ?_) <;> (try refine q_e q_l ?_) <;> (try refine G_op1 ?_; (refine q_c 40 (c := by apply hac) (h := ?_); rintro _ _ ⟨rfl, rfl⟩; (try simp only [List.eraseIdx_cons_succ]); (try simp only [List.eraseIdx_cons_zero]))) <;> (try refine q_e (by apply E_un; exact rfl; exact ru_not_t) ?_) <;> (try refine q_a ?_) <;> (try refine G_nil ?_)) | (refine G_region (id := 7) ?_ <;> (try refine q_e (q_f fo_36_2) ?_) <;> (try refine q_e q_l ?_) <;> (try refine q_e (by apply E_builtin; exact rfl; exact (fun _ => BigFrame.builtin_len ..); apply r_len_slice_e Tryz.underlying30; exact c_19) ?_) <;> (try refine q_e (q_b (r := by exact rb_gtr_f q_o)) ?_) <;> (try refine q_m ?_) <;> (try refine q_y (q_f fo_36_4) ?_) <;> (try refine q_y q_l ?_) <;> (try refine q_y (by apply E_builtin; exact rfl; exact (fun _ => BigFrame.builtin_len ..); apply r_len_slice_e Tryz.underlying33; exact c_19) ?_) <;> (try refine q_y (q_b (r := by exact rb_gtr_f q_o)) ?_) <;> (try refine q_p ?_) <;> (try refine q_m ?_) <;> (try refine q_y (q_f fo_36_5) ?_) <;> (try refine q_y q_l ?_) <;> (try refine q_y (by apply E_builtin; exact rfl; exact (fun _ => BigFrame.builtin_len ..); apply r_len_slice_e Tryz.underlying34; exact c_19) ?_) <;> (try refine q_y (q_b (r := by exact rb_gtr_f q_o)) ?_) <;> (try refine q_p ?_) <;> (try refine q_a ?_) <;> (try refine G_nil ?_)) | (refine G_region (id := 9) ?_ <;> (try refine q_e (q_f fo_36_3) ?_) <;> (try refine q_e q_l ?_) <;> (try refine G_op1 ?_; (refine q_c 41 (c := by apply hva) (h := ?_); rintro _ _ ⟨rfl, rfl⟩; (try simp only [List.eraseIdx_cons_succ]); (try simp only [List.eraseIdx_cons_zero]))) <;> (try refine q_e (by apply E_un; exact rfl; exact ru_not_f) ?_) <;> (try refine q_a ?_) <;> (try refine G_nil ?_)) | (refine G_region (id := 10) ?_ <;> (try refine q_a ?_) <;> (try refine G_nil ?_)))
    (refine G_done Tryz.results17 (.tmp rfl .nil) ?_)
    exact ⟨_, ⟨m1, m2, n, rfl, by omega, rfl⟩, fun _ H => H.tail⟩
  | true =>
  rw [if_neg (fun h => by cases h)]
  refine Fn2 Tryz.func17 Tryz.ntmps17 rfl rfl ?_
  repeat' (first | (refine G_markb (id := 1) ?_) | refine G_seq ?_ | refine G_then_n ?_ | refine G_blk_n ?_ | refine G_block ?_ | refine G_skip ?_ | refine G_cond_f rfl ?_ | (refine G_region (id := 0) ?_ <;> (try refine G_op1 ?_; (refine K1_box (t := 36) rfl rfl ?_; intro nb hnb; (try simp only [Value.cells]))) <;> (try refine q_a ?_) <;> (try refine G_nil ?_)) | (refine G_region (id := 1) ?_ <;> (try refine q_m ?_) <;> (try refine q_e (q_b (r := by exact rb_peq_sn Tryz.underlying41)) ?_) <;> (try refine q_a ?_) <;> (try refine G_nil ?_)) | (refine G_region (id := 3) ?_ <;> (try refine q_e (q_f fo_36_0) ?_) <;> (try refine q_e q_l ?_) <;> (try refine G_op1 ?_; (refine q_c 39 (c := by apply hwo) (h := ?_); rintro _ _ ⟨rfl, rfl⟩; (try simp only [List.eraseIdx_cons_succ]); (try simp only [List.eraseIdx_cons_zero]))) <;> (try refine q_e (by apply E_un; exact rfl; exact ru_not_t) ?_) <;> (try refine q_a ?_) <;> (try refine G_nil ?_)) | (refine G_region (id := 5) ?_ <;> (try refine q_e (q_f fo_36_1) ?_) <;> (try refine q_e q_l ?_) <;> (try refine G_op1 ?_; (refine q_c 40 (c := by apply hac) (h := ?_); rintro _ _ ⟨rfl, rfl⟩; (try simp only [List.eraseIdx_cons_succ]); (try simp only [List.eraseIdx_cons_zero]))) <;> (try refine q_e (by apply E_un; exact rfl; exact ru_not_t) ?_) <;> (try refine q_a ?_) <;> (try refine G_nil ?_)) | (refine G_region (id := 7) ?_ <;> (try refine q_e (q_f fo_36_2) ?_) <;> (try refine q_e q_l ?_) <;> (try refine q_e (by apply E_builtin; exact rfl; exact (fun _ => BigFrame.builtin_len ..); apply r_len_slice_e Tryz.underlying30; exact c_19) ?_) <;> (try refine q_e (q_b (r := by exact rb_gtr_f q_o)) ?_) <;> (try refine q_m ?_) <;> (try refine q_y (q_f fo_36_4) ?_) <;> (try refine q_y q_l ?_) <;> (try refine q_y (by apply E_builtin; exact rfl; exact (fun _ => BigFrame.builtin_len ..); apply r_len_slice_e Tryz.underlying33; exact c_19) ?_) <;> (try refine q_y (q_b (r := by exact rb_gtr_f q_o)) ?_) <;> (try refine q_p ?_) <;> (try refine q_m ?_) <;> (try refine q_y (q_f fo_36_5) ?_) <;> (try refine q_y q_l ?_) <;> (try refine q_y (by apply E_builtin; exact rfl; exact (fun _ => BigFrame.builtin_len ..); apply r_len_slice_e Tryz.underlying34; exact c_19) ?_) <;> (try refine q_y (q_b (r := by exact rb_gtr_f q_o)) ?_) <;> (try refine q_p ?_) <;> (try refine q_a ?_) <;> (try refine G_nil ?_)) | (refine G_region (id := 9) ?_ <;> (try refine q_e (q_f fo_36_3) ?_) <;> (try refine q_e q_l ?_) <;> (try refine G_op1 ?_; (refine q_c 41 (c := by apply hva) (h := ?_); rintro _ _ ⟨rfl, rfl⟩; (try simp only [List.eraseIdx_cons_succ]); (try simp only [List.eraseIdx_cons_zero]))) <;> (try refine q_e (by apply E_un; exact rfl; exact ru_not_t) ?_) <;> (try refine q_a ?_) <;> (try refine G_nil ?_)) | (refine G_region (id := 11) ?_ <;> (try refine q_e (q_f fo_36_2) ?_) <;> (try refine q_e q_l ?_) <;> (try refine q_e (by apply E_builtin; exact rfl; exact (fun _ => BigFrame.builtin_len ..); apply r_len_slice_e Tryz.underlying30; exact c_19) ?_) <;> (try refine q_m ?_) <;> (try refine G_nil ?_)))
  refine ⟨?_⟩
  clear hwo hac hva
  obtain ⟨n2, rfl⟩ : ∃ x, x = nb := ⟨_, rfl⟩
  refine G_meetk (γ := Nat × Nat) (fun _ => firstE (rules.map chkR) = 0) (fun _ => []) [(2, _)] (fun g => ⟨true, n2, .cells #[.string (mB8 nm), .int .u32 df, .slice ra rules.length rc, .int .u16 (hd : Nat), .slice pa paths.length pc, .slice qa ports.length qc] 36 (0, 0)⟩ :: (tbS ct g.1 g.2 (n + rules.length) ++ L)) (.cons rfl .nil) ?_ ?_
  · refine G_block ?_
    clear hpa hpo
    refine G_loopk (γ := Nat × Nat × Nat) (fun g => g.1 ≤ rules.length ∧ firstE (rules.map chkR) = firstE ((rules.map chkR).drop g.1)) (fun g => rules.length - g.1) (fun g => [(47, .int .i64 (g.1 : Nat))]) [(1, _), (2, _), (45, _), (46, _)]
      (fun g => ⟨true, n2, .cells #[.string (mB8 nm), .int .u32 df, .slice ra rules.length rc, .int .u16 (hd : Nat), .slice pa paths.length pc, .slice qa ports.length qc] 36 (0, 0)⟩ :: (tbS ct g.2.1 g.2.2 (n + g.1) ++ L)) (0, m1, m2) (.cons rfl (.cons rfl (.cons rfl (.cons rfl .nil)))) ⟨Nat.zero_le _, by rw [List.drop_zero]⟩ (by (focus (repeat (first | exact Sub.nil | refine Sub.cons rfl ?_)))) (fun _ H => H) ?_
    rintro ⟨k, k1, k2⟩ ⟨hk, heq⟩
    dsimp only at hk heq
    simp only [List.cons_append, List.nil_append]
    by_cases hlt : k < rules.length
    · obtain ⟨j, q, bb, off, cs, T, fr, rfl, hj, hsz, hx⟩ := (hrs.upA (tbS ct k1 k2 (n + k))).elem hlt
      obtain ⟨v, hv, hcs⟩ := hrg.at_ k hlt
      rw [hv] at hx
      obtain ⟨ca, cc, hcv, -⟩ := id hcs
      subst hcv
      have hrc := fun (x y : Blk) => rulechk_c (S := S) (w0 := w0) [x, y] L rules[k] (hru _ (List.getElem_mem hlt)) _ (hcs.upA [x, y]) ct k1 k2 (n + k) (by omega)
      rw [firstE_drop (by rw [List.length_map]; exact hlt), List.getElem_map] at heq
      generalize chkR rules[k] = ck at *
      generalize rules[k] = r at *
      obtain ⟨num, act, conds⟩ := r
      dsimp only [List.cons_append, List.nil_append] at *
      clear hv hcs
      by_cases hc : ck = 0
      · rw [if_neg (fun h => h hc)] at heq
        subst hc
        repeat' (first | refine G_seq ?_ | refine G_then_n ?_ | refine G_cut_n ?_ | refine G_blk_n ?_ | refine G_block ?_ | refine G_skip ?_ | refine G_cond_t rfl ?_ | refine G_cond_f rfl ?_ | (refine G_region (id := 12) ?_ <;> (try refine q_e (q_b (r := by exact rb_lss_t q_o)) ?_) <;> (try refine G_nil ?_)) | (refine G_region (id := 13) ?_ <;> (try refine q_e (by apply E_indexAddr; exact rfl; exact rfl; (focus (apply r_ixs Tryz.underlying30 sz_73; omega; omega; exact c_1))) ?_) <;> (try refine q_e (by apply E_loadA (t := 73); exact rfl; exact c_18; kernel_rfl; kernel_rfl; exact sz_73; (with_reducible assumption); (with_reducible assumption)) ?_) <;> (try refine G_op1 ?_; (refine K1_alloc (t := 73) rfl Tryz.zeroValue73 ?_; intro nb hnb; (try simp only [Value.cells]))) <;> (try refine G_op1 ?_; (refine q_W ?_)) <;> (try refine G_nil ?_)) | (refine G_region (id := 14) ?_ <;> (try refine q_e (q_L sz_73) ?_) <;> (try refine q_m ?_) <;> (try refine G_op1 ?_; (refine q_c 42 (c := by apply hrc) (h := ?_); rintro _ _ ⟨j1, j2, rfl, rfl⟩; (try simp only [List.eraseIdx_cons_succ]); (try simp only [List.eraseIdx_cons_zero]))) <;> (try refine q_a ?_) <;> (try refine G_nil ?_)) | (refine G_region (id := 15) ?_ <;> (try refine q_m ?_) <;> (try refine q_e (by exact q_b (r := by refine rb_neq_f ?_; first | rfl | (with_reducible assumption) | (decide; done) | omega)) ?_) <;> (try refine G_nil ?_)) | (refine G_region (id := 17) ?_ <;> (try refine q_e (q_b (r := by apply rb_add; exact c_5; (focus (refine IntWalk.i64_in _ ?_; omega)))) ?_) <;> (try refine q_m ?_) <;> (try refine G_nil ?_)))
        exact G_meet (k + 1, j1, j2) ⟨⟨by show k + 1 ≤ rules.length; omega, heq⟩, by show rules.length - (k + 1) < rules.length - k; omega⟩ (by (focus (repeat (first | exact Sub.nil | refine Sub.cons rfl ?_)))) (fun _ H => H.tail)
      · rw [if_pos hc] at heq
        have hc' : ¬ (ck : Int) = 0 := by omega
        repeat' (first | refine G_seq ?_ | refine G_then_n ?_ | refine G_cut_r ?_ | refine G_then_r ?_ | refine G_blk_r ?_ | refine G_block ?_ | refine G_skip ?_ | refine G_ret ?_ | refine G_cond_t rfl ?_ | (refine G_region (id := 12) ?_ <;> (try refine q_e (q_b (r := by exact rb_lss_t q_o)) ?_) <;> (try refine G_nil ?_)) | (refine G_region (id := 13) ?_ <;> (try refine q_e (by apply E_indexAddr; exact rfl; exact rfl; (focus (apply r_ixs Tryz.underlying30 sz_73; omega; omega; exact c_1))) ?_) <;> (try refine q_e (by apply E_loadA (t := 73); exact rfl; exact c_18; kernel_rfl; kernel_rfl; exact sz_73; (with_reducible assumption); (with_reducible assumption)) ?_) <;> (try refine G_op1 ?_; (refine K1_alloc (t := 73) rfl Tryz.zeroValue73 ?_; intro nb hnb; (try simp only [Value.cells]))) <;> (try refine G_op1 ?_; (refine q_W ?_)) <;> (try refine G_nil ?_)) | (refine G_region (id := 14) ?_ <;> (try refine q_e (q_L sz_73) ?_) <;> (try refine q_m ?_) <;> (try refine G_op1 ?_; (refine q_c 42 (c := by apply hrc) (h := ?_); rintro _ _ ⟨j1, j2, rfl, rfl⟩; (try simp only [List.eraseIdx_cons_succ]); (try simp only [List.eraseIdx_cons_zero]))) <;> (try refine q_a ?_) <;> (try refine G_nil ?_)) | (refine G_region (id := 15) ?_ <;> (try refine q_m ?_) <;> (try refine q_e (q_b (r := by exact rb_neq_t q_o)) ?_) <;> (try refine G_nil ?_)) | (refine G_region (id := 16) ?_ <;> (try refine q_m ?_) <;> (try refine q_a ?_) <;> (try refine G_nil ?_)))
        (refine G_done Tryz.results17 (.tmp rfl .nil) ?_)
        refine ⟨_, ⟨j1, j2, n + k + 1, ?_, by omega, rfl⟩, fun _ H => H.tail.tail⟩
        rw [heq, if_pos hc]; rfl
    · have hke : firstE ((rules.map chkR).drop k) = 0 := firstE_nil (by rw [List.length_map]; omega)
      rw [hke] at heq
      obtain rfl : k = rules.length := by omega
      repeat' (first | refine G_seq ?_ | refine G_then_n ?_ | refine G_cut_n ?_ | refine G_cut_x ?_ | refine G_then_x ?_ | refine G_blk_x ?_ | refine G_exit ?_ | refine G_cond_f rfl ?_ | (refine G_region (id := 12) ?_ <;> (try refine q_e (q_b (r := by exact rb_lss_f q_o)) ?_) <;> (try refine G_nil ?_)))
      exact G_meet (k1, k2) heq (by (focus (repeat (first | exact Sub.nil | refine Sub.cons rfl ?_)))) (fun _ H => H)
  rintro ⟨k1, k2⟩ heq
  dsimp only
  simp only [List.cons_append, List.nil_append]
  rw [heq, if_neg (fun h => h rfl)]
  have hp1 := fun (x : Blk) => hpa _ ((hps.upA (tbS ct k1 k2 (n + rules.length))).up x)
  have hp2 := fun (x : Blk) => hpo _ ((hqs.upA (tbS ct k1 k2 (n + rules.length))).up x)
  clear hpa hpo
  generalize chkPorts hd ports [] = cq at *
  generalize chkPaths hd paths [] = cp at *
  by_cases hc : cp = 0
  · rw [if_neg (fun h => h hc)]
    subst hc
    repeat' (first | refine G_seq ?_ | refine G_then_n ?_ | refine G_skip ?_ | refine G_ret ?_ | refine G_cond_f rfl ?_ | (refine G_region (id := 18) ?_ <;> (try refine q_e (q_L sz_36) ?_) <;> (try refine G_op1 ?_; (refine q_c 43 (c := by apply hp1) (h := ?_); rintro _ _ ⟨rfl, rfl⟩; (try simp only [List.eraseIdx_cons_succ]); (try simp only [List.eraseIdx_cons_zero]))) <;> (try refine q_a ?_) <;> (try refine G_nil ?_)) | (refine G_region (id := 19) ?_ <;> (try refine q_m ?_) <;> (try refine q_e (by exact q_b (r := by refine rb_neq_f ?_; first | rfl | (with_reducible assumption) | (decide; done) | omega)) ?_) <;> (try refine G_nil ?_)) | (refine G_region (id := 21) ?_ <;> (try refine q_e (q_L sz_36) ?_) <;> (try refine G_op1 ?_; (refine q_c 44 (c := by apply hp2) (h := ?_); rintro _ _ ⟨rfl, rfl⟩; (try simp only [List.eraseIdx_cons_succ]); (try simp only [List.eraseIdx_cons_zero]))) <;> (try refine q_a ?_) <;> (try refine G_nil ?_)))
    (refine G_done Tryz.results17 (.tmp rfl .nil) ?_)
    exact ⟨_, ⟨k1, k2, _, rfl, Nat.le_refl _, rfl⟩, fun _ H => H.tail⟩
  · rw [if_pos hc]
    have hc' : ¬ (cp : Int) = 0 := by omega
    repeat' (first | refine G_seq ?_ | refine G_then_n ?_ | refine G_then_r ?_ | refine G_ret ?_ | refine G_cond_t rfl ?_ | (refine G_region (id := 18) ?_ <;> (try refine q_e (q_L sz_36) ?_) <;> (try refine G_op1 ?_; (refine q_c 43 (c := by apply hp1) (h := ?_); rintro _ _ ⟨rfl, rfl⟩; (try simp only [List.eraseIdx_cons_succ]); (try simp only [List.eraseIdx_cons_zero]))) <;> (try refine q_a ?_) <;> (try refine G_nil ?_)) | (refine G_region (id := 19) ?_ <;> (try refine q_m ?_) <;> (try refine q_e (q_b (r := by exact rb_neq_t q_o)) ?_) <;> (try refine G_nil ?_)) | (refine G_region (id := 20) ?_ <;> (try refine q_m ?_) <;> (try refine q_a ?_) <;> (try refine G_nil ?_)))
    (refine G_done Tryz.results17 (.tmp rfl .nil) ?_)
    exact ⟨_, ⟨k1, k2, _, rfl, Nat.le_refl _, rfl⟩, fun _ H => H.tail⟩
end Go.Proofs.YtecbgehooembmaaGreatDoor
namespace Go.Proofs.YtecbgehooembmaaGreatDoor
open Go Go.RowKit
def actT (a : Int) : List UInt8 := spcL (actL a)
def cndT (c : Cnd) : List UInt8 := spcL (cndL c)
def sepT (i : Nat) : List UInt8 := if i = 0 then [32, 105, 102, 32] else [32, 97, 110, 100, 32]
def cnT : Nat → List Cnd → List UInt8
  | _, [] => []
  | i, c :: r => sepT i ++ (cndT c ++ cnT (i + 1) r)
def spS (ws : List W3) : List UInt8 := ws.flatMap fun v => 32 :: v.2.1
theorem spcL_cons (w : W3) (r : List W3) : spcL (w :: r) = w.2.1 ++ spS r := rfl
theorem spS_app (a b : List W3) : spS (a ++ b) = spS a ++ spS b := by simp [spS]
theorem spS_ne {ws : List W3} (h : ws ≠ []) : spS ws = 32 :: spcL ws := by
  cases ws with
  | nil => exact absurd rfl h
  | cons w r => rfl
theorem actL_ne (a : Int) : actL a ≠ [] := by
  unfold actL
  split
  · simp
  · split
    · simp
    · split <;> simp
theorem spS_cnds (cs : List Cnd) : ∀ i, spS (cndsL (if i = 0 then tIf else tAnd) cs) = cnT i cs := by
  induction cs with
  | nil => intro i; rfl
  | cons c r ih =>
    intro i
    have h1 := ih (i + 1)
    rw [if_neg (by omega)] at h1
    rw [cndsL, cnT, ← h1]
    show 32 :: _ ++ spS (cndL c ++ cndsL tAnd r) = _
    rw [spS_app, spS_ne (ws := cndL c) (by simp [cndL])]
    unfold cndT sepT
    by_cases h : i = 0
    · rw [if_pos h, if_pos h]; rfl
    · rw [if_neg h, if_neg h]; rfl
theorem rulT_eq (r : RulP) : spcL (rulL r) = [99, 97, 108, 108, 32] ++ (nameOf r.num ++ ([32] ++ (actT r.act ++ cnT 0 r.conds))) := by
  have h := spS_cnds r.conds 0
  rw [if_pos rfl] at h
  unfold rulL
  rw [spcL_cons]
  show tCall ++ (32 :: nameOf r.num ++ spS (actL r.act ++ cndsL tIf r.conds)) = _
  rw [spS_app, h, spS_ne (actL_ne _)]
  unfold actT
  simp [tCall]
theorem cnT_app (a b : List Cnd) : ∀ i, cnT i (a ++ b) = cnT i a ++ cnT (i + a.length) b := by
  induction a with
  | nil => intro i; rfl
  | cons d r ih =>
    intro i
    rw [List.cons_append, cnT, cnT, ih (i + 1), List.length_cons, show i + 1 + r.length = i + (r.length + 1) by omega]
    simp
theorem cnT_take (cs : List Cnd) (j : Nat) (h : j < cs.length) : cnT 0 (cs.take (j + 1)) = cnT 0 (cs.take j) ++ (sepT j ++ cndT cs[j]) := by
  rw [List.take_succ_eq_append_getElem h, cnT_app, List.length_take, Nat.min_eq_left (by omega), Nat.zero_add]
  simp [cnT]
theorem cnT_le (cs : List Cnd) (j : Nat) : (cnT 0 (cs.take j)).length ≤ (cnT 0 cs).length := by
  have h := cnT_app (cs.take j) (cs.drop j) 0
  rw [List.take_append_drop] at h
  rw [h, List.length_append]
  omega
theorem headT_eq (nm : List UInt8) (a : Int) : lnsT [[wN tPolicy, wN nm], wN tDefault :: actL a] = [112, 111, 108, 105, 99, 121, 32] ++ (nm ++ ([10, 100, 101, 102, 97, 117, 108, 116, 32] ++ (actT a ++ [10]))) := by
  show spcL [wN tPolicy, wN nm] ++ [10] ++ (spcL (wN tDefault :: actL a) ++ [10] ++ []) = _
  rw [spcL_cons, spcL_cons, spS_ne (actL_ne a)]
  unfold actT
  simp [spS, tPolicy, tDefault]
theorem hanT_eq (n : Nat) : lnsT [[wN tHandle, wN (rgT n)]] = [104, 97, 110, 100, 108, 101, 32] ++ (rgT n ++ [10]) := by
  show spcL [wN tHandle, wN (rgT n)] ++ [10] ++ [] = _
  rw [spcL_cons]
  simp [spS, tHandle]
theorem benT_eq (p : List UInt8 × Nat) : spcL (benL p) ++ [10] = [98, 101, 110, 101, 97, 116, 104, 32] ++ (p.1 ++ ([32] ++ (rgT p.2 ++ [10]))) := by
  unfold benL
  rw [spcL_cons]
  simp [spS, tBeneath]
theorem porT_eq (p : Nat × Nat) : spcL (porL p) ++ [10] = [112, 111, 114, 116, 32] ++ (decF p.1 ++ ([32] ++ (rgT p.2 ++ [10]))) := by
  unfold porL
  rw [spcL_cons]
  simp [spS, tPort]
theorem lnsT_snoc (D : List (List W3)) (ws : List W3) : lnsT (D ++ [ws]) = lnsT D ++ (spcL ws ++ [10]) := by rw [lnsT_app]; simp [lnsT]
theorem cndT_eq (c : Cnd) : cndT c = [97, 114, 103] ++ (decF c.arg ++ ([32] ++ (sgnT c.op ++ ([32] ++ ((if c.op = 7 then decF c.mask ++ [32, 61, 61, 32] else []) ++ decF c.val))))) := by
  unfold cndT cndL
  rw [spcL_cons]
  by_cases h : c.op = 7
  · rw [if_pos h, if_pos h]
    simp [spS, argTx]
  · rw [if_neg h, if_neg h]
    simp [spS, argTx]
theorem cndC_at (cs : List Cnd) (k : Nat) (h : k < cs.length) : ((cndC cs).drop (k * 4)).take 4 = (cs[k]).cells := by
  have h2 := gcC_at (cs.map Cnd.g) k (by rw [List.length_map]; exact h)
  rw [gcC_map] at h2
  rw [h2, List.getElem_map]
  rfl
theorem cndT_ne (c : Cnd) : 0 < (cndT c).length := by rw [cndT_eq]; simp
end Go.Proofs.YtecbgehooembmaaGreatDoor
namespace Go.Proofs.YtecbgehooembmaaGreatDoor
open Go Go.RowKit
theorem and65535_nat (a : Int) : ((iand a 65535).toNat : Int) = iand a 65535 := by have := and_lt a; omega
set_option maxRecDepth 100000 in
theorem acttext_c {S w0 L} (a : Int) (h : 0 ≤ a ∧ a < 4294967296) : Fn Tryz.prog 30 #[.int .u32 a] S w0 L fun v L' => v = .string (mB8 (actT a)) ∧ L = L' := by
  have hk := fun (L : List Blk) => akind_c (S := S) (w0 := w0) (L := L) a h
  by_cases c1 : kndA a = 327680
  · have e : actT a = [101, 114, 114, 110, 111, 32] ++ decF (iand a 65535).toNat := by
      unfold actT actL
      rw [if_pos c1]
      simp [spcL, tErrno]
    have hpr := fun (L : List Blk) => printed_c (iand a 65535).toNat (by have := and_lt a; omega) S w0 L
    rw [and65535_nat] at hpr
    have hal := and_lt a
    have hsz : (mB8 (decF (iand a 65535).toNat)).size ≤ 20 := by rw [mB8_size]; exact d20 (by omega)
    have hcat : (⟨#[101, 114, 114, 110, 111, 32]⟩ : ByteArray) ++ mB8 (decF (iand a 65535).toNat) = mB8 (actT a) := by rw [e]; exact mB8_add [101, 114, 114, 110, 111, 32] _
    rw [← hcat]
    have h1 : (⟨#[101, 114, 114, 110, 111, 32]⟩ : ByteArray).size = 6 := rfl
    rw [c1] at hk
    clear e hcat
    generalize mB8 (decF (iand a 65535).toNat) = d at *
    refine Fn1 Tryz.func30 Tryz.ntmps30 rfl rfl ?_
    repeat' (first | refine G_seq ?_ | refine G_then_n ?_ | refine G_then_r ?_ | refine G_blk_r ?_ | refine G_block ?_ | refine G_ret ?_ | refine G_cond_t rfl ?_ | (refine G_region (id := 0) ?_ <;> (try refine q_a ?_) <;> (try refine G_nil ?_)) | (refine G_region (id := 1) ?_ <;> (try refine q_m ?_) <;> (try refine G_op1 ?_; (refine q_c 59 (c := by apply hk) (h := ?_); rintro _ _ ⟨rfl, rfl⟩; (try simp only [List.eraseIdx_cons_succ]); (try simp only [List.eraseIdx_cons_zero]))) <;> (try refine G_nil ?_)) | (refine G_region (id := 2) ?_ <;> (try refine q_e (by exact q_b (r := by refine rb_eql_t' ?_; first | rfl | (with_reducible assumption) | (decide; done) | omega)) ?_) <;> (try refine q_a ?_) <;> (try refine G_nil ?_)) | (refine G_region (id := 3) ?_ <;> (try refine q_m ?_) <;> (try refine q_e (q_b (r := by refine rb_and ?_ ?_; (focus (refine ⟨rfl, ⟨?_, ?_⟩⟩; omega; (focus (simp only [IntKind.bits]; omega)))); (focus (refine ⟨rfl, ⟨?_, ?_⟩⟩; omega; (focus (simp only [IntKind.bits]; omega)))))) ?_) <;> (try refine q_e (by apply E_conv; exact rfl; (focus (apply r_conv Tryz.underlying29 Tryz.underlying97; first | (refine IntWalk.i64_in _ ?_; omega) | (refine IntWalk.u8_in _ ?_; omega) | (refine IntWalk.u16_in _ ?_; omega) | (refine IntWalk.u32_in _ ?_; omega) | (refine IntWalk.u64_in _ ?_; omega) | (refine IntWalk.i32_in _ ?_; omega) | exact rfl))) ?_) <;> (try refine G_op1 ?_; (refine q_c 32 (c := by apply hpr) (h := ?_); rintro _ _ ⟨rfl, rfl⟩; (try simp only [List.eraseIdx_cons_succ]); (try simp only [List.eraseIdx_cons_zero]))) <;> (try refine q_e (q_b (r := by apply rb_stradd; exact rfl; (focus (omega)))) ?_) <;> (try refine q_a ?_) <;> (try refine G_nil ?_)))
    (refine G_done Tryz.results30 (.tmp rfl .nil) ?_)
    exact ⟨_, ⟨rfl, rfl⟩, by intro w H; refine H.sub ?_; (try simp only [List.cons_append, List.nil_append]); repeat (exact List.Sublist.refl _)⟩
  by_cases c2 : kndA a = 2147221504
  · have e : mB8 (actT a) = ⟨#[108, 111, 103]⟩ := by
      unfold actT actL
      rw [if_neg c1, if_pos c2]
      rfl
    rw [e]
    rw [c2] at hk
    clear e c1
    refine Fn1 Tryz.func30 Tryz.ntmps30 rfl rfl ?_
    repeat' (first | refine G_seq ?_ | refine G_then_n ?_ | refine G_then_r ?_ | refine G_blk_r ?_ | refine G_block ?_ | refine G_ret ?_ | refine G_cond_t rfl ?_ | refine G_cond_f rfl ?_ | (refine G_region (id := 0) ?_ <;> (try refine q_a ?_) <;> (try refine G_nil ?_)) | (refine G_region (id := 1) ?_ <;> (try refine q_m ?_) <;> (try refine G_op1 ?_; (refine q_c 59 (c := by apply hk) (h := ?_); rintro _ _ ⟨rfl, rfl⟩; (try simp only [List.eraseIdx_cons_succ]); (try simp only [List.eraseIdx_cons_zero]))) <;> (try refine G_nil ?_)) | (refine G_region (id := 2) ?_ <;> (try refine q_e (q_b (r := by exact rb_eql_f q_o)) ?_) <;> (try refine q_a ?_) <;> (try refine G_nil ?_)) | (refine G_region (id := 4) ?_ <;> (try refine q_e (by exact q_b (r := by refine rb_eql_t' ?_; first | rfl | (with_reducible assumption) | (decide; done) | omega)) ?_) <;> (try refine q_a ?_) <;> (try refine G_nil ?_)) | (refine G_region (id := 5) ?_ <;> (try refine q_a ?_) <;> (try refine G_nil ?_)))
    (refine G_done Tryz.results30 (.tmp rfl .nil) ?_)
    exact ⟨_, ⟨rfl, rfl⟩, by intro w H; refine H.sub ?_; (try simp only [List.cons_append, List.nil_append]); repeat (exact List.Sublist.refl _)⟩
  by_cases c3 : kndA a = 2147418112
  · have e : mB8 (actT a) = ⟨#[97, 108, 108, 111, 119]⟩ := by
      unfold actT actL
      rw [if_neg c1, if_neg c2, if_pos c3]
      rfl
    rw [e]
    rw [c3] at hk
    clear e c1 c2
    refine Fn1 Tryz.func30 Tryz.ntmps30 rfl rfl ?_
    repeat' (first | refine G_seq ?_ | refine G_then_n ?_ | refine G_then_r ?_ | refine G_blk_r ?_ | refine G_block ?_ | refine G_ret ?_ | refine G_cond_t rfl ?_ | refine G_cond_f rfl ?_ | (refine G_region (id := 0) ?_ <;> (try refine q_a ?_) <;> (try refine G_nil ?_)) | (refine G_region (id := 1) ?_ <;> (try refine q_m ?_) <;> (try refine G_op1 ?_; (refine q_c 59 (c := by apply hk) (h := ?_); rintro _ _ ⟨rfl, rfl⟩; (try simp only [List.eraseIdx_cons_succ]); (try simp only [List.eraseIdx_cons_zero]))) <;> (try refine G_nil ?_)) | (refine G_region (id := 2) ?_ <;> (try refine q_e (q_b (r := by exact rb_eql_f q_o)) ?_) <;> (try refine q_a ?_) <;> (try refine G_nil ?_)) | (refine G_region (id := 4) ?_ <;> (try refine q_e (q_b (r := by exact rb_eql_f q_o)) ?_) <;> (try refine q_a ?_) <;> (try refine G_nil ?_)) | (refine G_region (id := 6) ?_ <;> (try refine q_e (by exact q_b (r := by refine rb_eql_t' ?_; first | rfl | (with_reducible assumption) | (decide; done) | omega)) ?_) <;> (try refine q_a ?_) <;> (try refine G_nil ?_)) | (refine G_region (id := 7) ?_ <;> (try refine q_a ?_) <;> (try refine G_nil ?_)))
    (refine G_done Tryz.results30 (.tmp rfl .nil) ?_)
    exact ⟨_, ⟨rfl, rfl⟩, by intro w H; refine H.sub ?_; (try simp only [List.cons_append, List.nil_append]); repeat (exact List.Sublist.refl _)⟩
  · have e : mB8 (actT a) = ⟨#[107, 105, 108, 108]⟩ := by
      unfold actT actL
      rw [if_neg c1, if_neg c2, if_neg c3]
      rfl
    rw [e]
    clear e
    generalize kndA a = k at *
    refine Fn1 Tryz.func30 Tryz.ntmps30 rfl rfl ?_
    repeat' (first | refine G_seq ?_ | refine G_then_n ?_ | refine G_blk_n ?_ | refine G_block ?_ | refine G_skip ?_ | refine G_ret ?_ | refine G_cond_f rfl ?_ | (refine G_region (id := 0) ?_ <;> (try refine q_a ?_) <;> (try refine G_nil ?_)) | (refine G_region (id := 1) ?_ <;> (try refine q_m ?_) <;> (try refine G_op1 ?_; (refine q_c 59 (c := by apply hk) (h := ?_); rintro _ _ ⟨rfl, rfl⟩; (try simp only [List.eraseIdx_cons_succ]); (try simp only [List.eraseIdx_cons_zero]))) <;> (try refine G_nil ?_)) | (refine G_region (id := 2) ?_ <;> (try refine q_e (q_b (r := by exact rb_eql_f q_o)) ?_) <;> (try refine q_a ?_) <;> (try refine G_nil ?_)) | (refine G_region (id := 4) ?_ <;> (try refine q_e (q_b (r := by exact rb_eql_f q_o)) ?_) <;> (try refine q_a ?_) <;> (try refine G_nil ?_)) | (refine G_region (id := 6) ?_ <;> (try refine q_e (q_b (r := by exact rb_eql_f q_o)) ?_) <;> (try refine q_a ?_) <;> (try refine G_nil ?_)) | (refine G_region (id := 8) ?_ <;> (try refine q_a ?_) <;> (try refine G_nil ?_)))
    (refine G_done Tryz.results30 (.tmp rfl .nil) ?_)
    exact ⟨_, ⟨rfl, rfl⟩, by intro w H; refine H.sub ?_; (try simp only [List.cons_append, List.nil_append]); repeat (exact List.Sublist.refl _)⟩
set_option maxRecDepth 100000 in
set_option maxHeartbeats 1000000 in
theorem condtext_c {S w0 L} (c : Cnd) (h : CndOk c) (hm : c.mask ≤ 18446744073709551615) (hv : c.val ≤ 18446744073709551615) : Fn Tryz.prog 33 #[.agg c.cells.toArray] S w0 L fun v L' => v = .string (mB8 (cndT c)) ∧ L = L' := by
  have hsg := fun (L : List Blk) => psign_c (S := S) (w0 := w0) (L := L) c.op h.op1 h.op2
  have hpa := fun (L : List Blk) => printed_c c.arg (by have := h.arg; omega) S w0 L
  have hpm := fun (L : List Blk) => printed_c c.mask (by omega) S w0 L
  have hpv := fun (L : List Blk) => printed_c c.val (by omega) S w0 L
  have hmx : max (c.arg : Int) 0 = (c.arg : Int) := by omega
  have hrg := h.arg
  rw [← hmx] at hpa
  have e := cndT_eq c
  have z1 : (mB8 (decF c.arg)).size ≤ 20 := by rw [mB8_size]; exact d20 (by omega)
  have z2 : (mB8 (decF c.mask)).size ≤ 20 := by rw [mB8_size]; exact d20 hm
  have z3 : (mB8 (decF c.val)).size ≤ 20 := by rw [mB8_size]; exact d20 hv
  have z4 : (mB8 (sgns.getD (c.op - 1) [])).size ≤ 2 := by rw [mB8_size]; exact (sg_ok h.op1 h.op2).2
  have b1 : (⟨#[97, 114, 103]⟩ : ByteArray).size = 3 := rfl
  have b2 : (⟨#[32]⟩ : ByteArray).size = 1 := rfl
  have b3 : (⟨#[32, 61, 61, 32]⟩ : ByteArray).size = 4 := rfl
  obtain ⟨ca, co, cm, cv⟩ := c
  dsimp only at *
  rw [e]
  unfold sgnT
  clear e h hmx
  dsimp only [Cnd.cells] at *
  by_cases h7 : co = 7
  · rw [if_pos h7]
    have hcat : mB8 ([97, 114, 103] ++ (decF ca ++ ([32] ++ (sgns.getD (co - 1) [] ++ ([32] ++ ((decF cm ++ [32, 61, 61, 32]) ++ decF cv)))))) = (((((⟨#[97, 114, 103]⟩ : ByteArray) ++ mB8 (decF ca)) ++ (⟨#[32]⟩ : ByteArray)) ++ mB8 (sgns.getD (co - 1) [])) ++ (⟨#[32]⟩ : ByteArray)) ++ (mB8 (decF cm) ++ (⟨#[32, 61, 61, 32]⟩ : ByteArray)) ++ mB8 (decF cv) := by
      rw [show (⟨#[97, 114, 103]⟩ : ByteArray) = mB8 [97, 114, 103] from rfl, show (⟨#[32]⟩ : ByteArray) = mB8 [32] from rfl, show (⟨#[32, 61, 61, 32]⟩ : ByteArray) = mB8 [32, 61, 61, 32] from rfl]
      simp only [mB8_add, List.append_assoc]
    rw [hcat]
    clear hcat
    generalize mB8 (sgns.getD (co - 1) []) = sg at *
    generalize mB8 (decF ca) = da at *
    generalize mB8 (decF cm) = dm at *
    generalize mB8 (decF cv) = dv at *
    refine Fn1 Tryz.func33 Tryz.ntmps33 rfl rfl ?_
    repeat' (first | refine G_seq ?_ | refine G_then_n ?_ | refine G_ret ?_ | refine G_cond_t rfl ?_ | (refine G_region (id := 0) ?_ <;> (try refine G_op1 ?_; (refine K1_box (t := 99) rfl rfl ?_; intro nb hnb; (try simp only [Value.cells]))) <;> (try refine q_a ?_) <;> (try refine G_nil ?_)) | ((refine G_regionH (id := 1) (m := 13) (by kernel_rfl) rfl ?_) <;> (try refine q_t 0 (e := (fun _ H => H)) (x := by exact q_f fo_99_0) (h := ?_)) <;> (try refine q_t 1 (e := (fun _ H => H)) (x := by exact q_l) (h := ?_)) <;> (try refine q_t 2 (e := (fun _ H => H)) (x := by exact E_builtin rfl (fun _ => BigFrame.builtin_max ..) r_max) (h := ?_)) <;> (try refine q_t 3 (e := (fun _ H => H)) (x := by apply E_conv; exact rfl; (focus (apply r_conv Tryz.underlying3 Tryz.underlying97; first | (refine IntWalk.i64_in _ ?_; omega) | (refine IntWalk.u8_in _ ?_; omega) | (refine IntWalk.u16_in _ ?_; omega) | (refine IntWalk.u32_in _ ?_; omega) | (refine IntWalk.u64_in _ ?_; omega) | (refine IntWalk.i32_in _ ?_; omega) | exact rfl))) (h := ?_)) <;> (try refine q_t 7 (e := (fun _ H => H)) (x := by exact q_f fo_99_1) (h := ?_)) <;> (try refine q_t 8 (e := (fun _ H => H)) (x := by exact q_l) (h := ?_)) <;> (try refine q_r 4 ?_; (refine q_c 32 (c := by apply hpa) (h := ?_); rintro _ _ ⟨rfl, rfl⟩; (try simp only [List.eraseIdx_cons_succ]); (try simp only [List.eraseIdx_cons_zero])); refine H_go (fun _ H => H) ?_) <;> (try refine q_t 5 (e := (fun _ H => H)) (x := by exact q_b (r := by apply rb_stradd; exact rfl; (focus (omega)))) (h := ?_)) <;> (try refine q_t 6 (e := (fun _ H => H)) (x := by exact q_b (r := by apply rb_stradd; exact rfl; (focus (simp only [ByteArray.size_append]; omega)))) (h := ?_)) <;> (try refine q_r 9 ?_; (refine q_c 61 (c := by apply hsg) (h := ?_); rintro _ _ ⟨rfl, rfl⟩; (try simp only [List.eraseIdx_cons_succ]); (try simp only [List.eraseIdx_cons_zero])); refine H_go (fun _ H => H) ?_) <;> (try refine q_t 10 (e := (fun _ H => H)) (x := by exact q_b (r := by apply rb_stradd; exact rfl; (focus (simp only [ByteArray.size_append]; omega)))) (h := ?_)) <;> (try refine q_t 11 (e := (fun _ H => H)) (x := by exact q_b (r := by apply rb_stradd; exact rfl; (focus (simp only [ByteArray.size_append]; omega)))) (h := ?_)) <;> (try refine q_t 12 (e := (fun _ H => H)) (x := by exact E_assign rfl) (h := ?_)) <;> (try refine H_done (by kernel_rfl) ?_)) | (refine G_region (id := 2) ?_ <;> (try refine q_e (q_f fo_99_1) ?_) <;> (try refine q_e q_l ?_) <;> (try refine q_e (by exact q_b (r := by refine rb_eql_t' ?_; first | rfl | (with_reducible assumption) | (decide; done) | omega)) ?_) <;> (try refine G_nil ?_)) | (refine G_region (id := 3) ?_ <;> (try refine q_m ?_) <;> (try refine q_e (q_f fo_99_2) ?_) <;> (try refine q_e q_l ?_) <;> (try refine G_op1 ?_; (refine q_c 32 (c := by apply hpm) (h := ?_); rintro _ _ ⟨rfl, rfl⟩; (try simp only [List.eraseIdx_cons_succ]); (try simp only [List.eraseIdx_cons_zero]))) <;> (try refine q_e (q_b (r := by apply rb_stradd; exact rfl; (focus (omega)))) ?_) <;> (try refine q_e (q_b (r := by apply rb_stradd; exact rfl; (focus (simp only [ByteArray.size_append]; omega)))) ?_) <;> (try refine q_a ?_) <;> (try refine G_nil ?_)) | (refine G_region (id := 4) ?_ <;> (try refine q_m ?_) <;> (try refine q_e (q_f fo_99_3) ?_) <;> (try refine q_e q_l ?_) <;> (try refine G_op1 ?_; (refine q_c 32 (c := by apply hpv) (h := ?_); rintro _ _ ⟨rfl, rfl⟩; (try simp only [List.eraseIdx_cons_succ]); (try simp only [List.eraseIdx_cons_zero]))) <;> (try refine q_e (q_b (r := by apply rb_stradd; exact rfl; (focus (simp only [ByteArray.size_append]; omega)))) ?_) <;> (try refine q_a ?_) <;> (try refine G_nil ?_)))
    (refine G_done Tryz.results33 (.tmp rfl .nil) ?_)
    exact ⟨_, ⟨rfl, rfl⟩, by intro w H; refine H.sub ?_; (try simp only [List.cons_append, List.nil_append]); repeat (first | exact List.Sublist.refl _ | refine List.Sublist.cons _ ?_)⟩
  · rw [if_neg h7]
    have hcat : mB8 ([97, 114, 103] ++ (decF ca ++ ([32] ++ (sgns.getD (co - 1) [] ++ ([32] ++ ([] ++ decF cv)))))) = (((((⟨#[97, 114, 103]⟩ : ByteArray) ++ mB8 (decF ca)) ++ (⟨#[32]⟩ : ByteArray)) ++ mB8 (sgns.getD (co - 1) [])) ++ (⟨#[32]⟩ : ByteArray)) ++ mB8 (decF cv) := by
      rw [show (⟨#[97, 114, 103]⟩ : ByteArray) = mB8 [97, 114, 103] from rfl, show (⟨#[32]⟩ : ByteArray) = mB8 [32] from rfl]
      simp only [mB8_add, List.append_assoc, List.nil_append]
    rw [hcat]
    clear hcat hpm
    generalize mB8 (sgns.getD (co - 1) []) = sg at *
    generalize mB8 (decF ca) = da at *
    generalize mB8 (decF cv) = dv at *
    refine Fn1 Tryz.func33 Tryz.ntmps33 rfl rfl ?_
    repeat' (first | refine G_seq ?_ | refine G_then_n ?_ | refine G_skip ?_ | refine G_ret ?_ | refine G_cond_f rfl ?_ | (refine G_region (id := 0) ?_ <;> (try refine G_op1 ?_; (refine K1_box (t := 99) rfl rfl ?_; intro nb hnb; (try simp only [Value.cells]))) <;> (try refine q_a ?_) <;> (try refine G_nil ?_)) | ((refine G_regionH (id := 1) (m := 13) (by kernel_rfl) rfl ?_) <;> (try refine q_t 0 (e := (fun _ H => H)) (x := by exact q_f fo_99_0) (h := ?_)) <;> (try refine q_t 1 (e := (fun _ H => H)) (x := by exact q_l) (h := ?_)) <;> (try refine q_t 2 (e := (fun _ H => H)) (x := by exact E_builtin rfl (fun _ => BigFrame.builtin_max ..) r_max) (h := ?_)) <;> (try refine q_t 3 (e := (fun _ H => H)) (x := by apply E_conv; exact rfl; (focus (apply r_conv Tryz.underlying3 Tryz.underlying97; first | (refine IntWalk.i64_in _ ?_; omega) | (refine IntWalk.u8_in _ ?_; omega) | (refine IntWalk.u16_in _ ?_; omega) | (refine IntWalk.u32_in _ ?_; omega) | (refine IntWalk.u64_in _ ?_; omega) | (refine IntWalk.i32_in _ ?_; omega) | exact rfl))) (h := ?_)) <;> (try refine q_t 7 (e := (fun _ H => H)) (x := by exact q_f fo_99_1) (h := ?_)) <;> (try refine q_t 8 (e := (fun _ H => H)) (x := by exact q_l) (h := ?_)) <;> (try refine q_r 4 ?_; (refine q_c 32 (c := by apply hpa) (h := ?_); rintro _ _ ⟨rfl, rfl⟩; (try simp only [List.eraseIdx_cons_succ]); (try simp only [List.eraseIdx_cons_zero])); refine H_go (fun _ H => H) ?_) <;> (try refine q_t 5 (e := (fun _ H => H)) (x := by exact q_b (r := by apply rb_stradd; exact rfl; (focus (omega)))) (h := ?_)) <;> (try refine q_t 6 (e := (fun _ H => H)) (x := by exact q_b (r := by apply rb_stradd; exact rfl; (focus (simp only [ByteArray.size_append]; omega)))) (h := ?_)) <;> (try refine q_r 9 ?_; (refine q_c 61 (c := by apply hsg) (h := ?_); rintro _ _ ⟨rfl, rfl⟩; (try simp only [List.eraseIdx_cons_succ]); (try simp only [List.eraseIdx_cons_zero])); refine H_go (fun _ H => H) ?_) <;> (try refine q_t 10 (e := (fun _ H => H)) (x := by exact q_b (r := by apply rb_stradd; exact rfl; (focus (simp only [ByteArray.size_append]; omega)))) (h := ?_)) <;> (try refine q_t 11 (e := (fun _ H => H)) (x := by exact q_b (r := by apply rb_stradd; exact rfl; (focus (simp only [ByteArray.size_append]; omega)))) (h := ?_)) <;> (try refine q_t 12 (e := (fun _ H => H)) (x := by exact E_assign rfl) (h := ?_)) <;> (try refine H_done (by kernel_rfl) ?_)) | (refine G_region (id := 2) ?_ <;> (try refine q_e (q_f fo_99_1) ?_) <;> (try refine q_e q_l ?_) <;> (try refine q_e (q_b (r := by exact rb_eql_f q_o)) ?_) <;> (try refine G_nil ?_)) | (refine G_region (id := 4) ?_ <;> (try refine q_m ?_) <;> (try refine q_e (q_f fo_99_3) ?_) <;> (try refine q_e q_l ?_) <;> (try refine G_op1 ?_; (refine q_c 32 (c := by apply hpv) (h := ?_); rintro _ _ ⟨rfl, rfl⟩; (try simp only [List.eraseIdx_cons_succ]); (try simp only [List.eraseIdx_cons_zero]))) <;> (try refine q_e (q_b (r := by apply rb_stradd; exact rfl; (focus (simp only [ByteArray.size_append]; omega)))) ?_) <;> (try refine q_a ?_) <;> (try refine G_nil ?_)))
    (refine G_done Tryz.results33 (.tmp rfl .nil) ?_)
    exact ⟨_, ⟨rfl, rfl⟩, by intro w H; refine H.sub ?_; (try simp only [List.cons_append, List.nil_append]); repeat (first | exact List.Sublist.refl _ | refine List.Sublist.cons _ ?_)⟩
end Go.Proofs.YtecbgehooembmaaGreatDoor
namespace Go.Proofs.YtecbgehooembmaaGreatDoor
open Go Go.RowKit
section
variable {P : Program} {n : Nat} {l : List (Nat × Value)} {S : List Nat} {w0 : World} {L : List Blk} {K : Act → World → Prop} {k : Kont} {ops : Array Oper} {d : Tmp} {ty : TypeId} {pos : String} {af : Array Edge}
theorem shape_at {w : World} (H : HP S w0 w L) (i : Nat) {q : Bool} {b : Nat} {cs : Array Value} {t : TypeId} {fr : Nat × Nat} (hi : L[i]? = some ⟨q, b, .cells cs t fr⟩) : w.shape? b = some (t, cs.size) := by
  have := H.at_ i hi
  simp only [World.shape?, this]
theorem E_toUnsafe {src dst t e : TypeId} {m : Nat} {x : Operand} {b i : Nat} {q : Bool} {cs : Array Value} {fr : Nat × Nat} (hx : ev l x = some (.pointer (some ⟨b, 0, none⟩))) (hs : P.underlying src = some (.pointer t)) (hd : P.underlying dst = some .unsafePointer) (ht : (P.info? t).map (·.size) = some m) (hj : Nat.blt 0 m = true)
    (hi : L[i]? = some ⟨q, b, .cells cs e fr⟩) (hc : 0 < cs.size) : ValOf P n l S w0 L ⟨some d, .convert src dst x, ty, pos, af, none⟩ (.pointer (some ⟨b, 0, none⟩)) :=
  ⟨fun a w hf H => by
    obtain ⟨inf, hi2, hi3⟩ := Option.map_eq_some_iff.1 ht
    have hj' : inf.size ≠ 0 := by have := Nat.le_of_ble_eq_true hj; omega
    simp only [execOp, hf.eval hx, Sem.run_bind, Lib.run_to_unsafe (P := P) (w := w) ⟨b, 0, none⟩ hs hd hi2 hj' (shape_at H i hi) hc, Result.andThen_ok, Sem.run_pure]⟩
theorem E_fromUnsafe {src dst u e : TypeId} {m : Nat} {x : Operand} {b i : Nat} {q : Bool} {cs : Array Value} {fr : Nat × Nat} (hx : ev l x = some (.pointer (some ⟨b, 0, none⟩))) (hs : P.underlying src = some .unsafePointer) (hd : P.underlying dst = some (.pointer u)) (hu : (P.info? u).map (·.size) = some m)
    (hi : L[i]? = some ⟨q, b, .cells cs e fr⟩) (hlies : liesAt P P.depth e (cs.size / P.cellsOf e) 0 u 1 = true) : ValOf P n l S w0 L ⟨some d, .convert src dst x, ty, pos, af, none⟩ (.pointer (some ⟨b, 0, none⟩)) :=
  ⟨fun a w hf H => by
    obtain ⟨inf, hi2, hi3⟩ := Option.map_eq_some_iff.1 hu
    simp only [execOp, hf.eval hx, Sem.run_bind, Lib.run_from_unsafe (P := P) (w := w) ⟨b, 0, none⟩ hs hd hi2 (shape_at H i hi) hlies, Result.andThen_ok, Sem.run_pure]⟩
theorem rb_pne_same {t te : TypeId} {m : Nat} {a : Addr} (hp : P.underlying t = some (.pointer te)) (hte : (P.info? te).map (·.size) = some m) : RBin P .neq t (.pointer (some a)) (.pointer (some a)) (.bool false) := .mk fun w => by
  obtain ⟨inf, hi, -⟩ := Option.map_eq_some_iff.1 hte
  exact Lib.run_neq_ptr_same w a hp hi
theorem K1_noEsc {F : FuncId} {fn : Func} {x : Operand} {v : Value} {ats : Array TypeId} (hf : P.funcs[F]? = some fn) (hname : (fn.name == "runtime.NumGoroutine") = false) (hb : fn.body.isNone = true) (hn : Extern.findNext fn = none) (he : Extern.find fn = some Extern.AbiNoEscape.same) (hd : Nat.blt d n = true) (hx : ev l x = some v)
    (h : G n ((d, v) :: l) S w0 L K) : G n l S w0 L (K1 P ops k ⟨some d, .call { callee := .value (.func F), args := #[x], argTypes := ats }, ty, pos, af, none⟩ K) := .mk fun a w hF H => k1_want rfl <| by
  unfold Oper.wp
  rw [execOp_call_go, List.map_toArray, hF.evals (xs := [x]) (vs := [v]) (by simp [evs, hx]), run_callFunc_extern hf hname hb hn he]
  exact h.out _ _ (hF.put (some d) v hd) H
theorem E_sliceData {x : Operand} {a : Addr} {m c : Nat} {ats : Array TypeId} (hx : ev l x = some (.slice (some a) m c)) (hc : c ≠ 0) : ValOf P n l S w0 L ⟨some d, .call { callee := .builtin .unsafeSliceData, args := #[x], argTypes := ats }, ty, pos, af, none⟩ (.pointer (some a)) :=
  E_builtin (xs := [x]) (vs := [.slice (some a) m c]) (by simp [evs, hx]) (fun cs => BigFrame.builtin_unsafeSliceData ..) ⟨fun w => Lib.run_unsafeSliceData_row _ _ _ _ _ _ hc⟩
theorem K1_unsafeStr {x y : Operand} {i g : Nat} {cur : Array Value} {z : List UInt8} {pt it e : TypeId} {m : Nat} (hd : Nat.blt d n = true) (hx : ev l x = some (.pointer (some ⟨g, 0, none⟩))) (hy : ev l y = some (.int .i64 (m : Nat))) (hi : L[i]? = some ⟨true, g, .cells cur e (0, 0)⟩)
    (hp : P.underlying pt = some (.pointer e)) (hc : P.cellsOf e = 1) (hm : z.length = m) (h0 : 0 < m) (hn : m ≤ cur.size) (h63 : m ≤ 9223372036854775807) (hcell : cur.toList.take m = Lib.byteCells z)
    (h : G n ((d, .string ⟨z.toArray⟩) :: l) S w0 (L.eraseIdx i) K) : G n l S w0 L (K1 P ops k ⟨some d, .call { callee := .builtin .unsafeString, args := #[x, y], argTypes := #[pt, it] }, ty, pos, af, none⟩ K) := .mk fun a w hf H => k1_want rfl <| by
  subst hm
  have hgw := H.at_ i hi
  have hr := Lib.run_unsafeString_row (P := P) w pt it ty e hp hc g cur.size (shape_at H i hi) z (fun h => by rw [h] at h0; simp at h0) hn h63 (fun j u hu => by
    have hadd : (⟨g, 0, none⟩ : Addr).add j = ⟨g, j, none⟩ := by unfold Addr.add; split <;> simp_all
    rw [hadd, cell_at H i hi]
    have hj : j < z.length := by
      rcases Nat.lt_or_ge j z.length with h | h
      · exact h
      · rw [List.getElem?_eq_none h] at hu; cases hu
    have h2 := congrArg (fun l => l[j]?) hcell
    simp only [List.getElem?_take, if_pos hj] at h2
    rw [← Array.getElem?_toList, h2]
    simp [Lib.byteCells, hu])
  unfold Oper.wp
  rw [BigFrame.execOp_builtin]
  simp only [List.map_toArray, List.map_cons, List.map_nil, hf.eval hx, hf.eval hy]
  rw [BigFrame.builtin_unsafeString]
  simp only [Sem.run_bind, hr, Result.andThen_ok, Sem.run_pure]
  have hz : z.length ≠ 0 := by omega
  have hgl : g < w.heap.size := H.lt i hi
  have HT := H.turn i (o := .cells cur e (0, 0)) hi (w.freeze ⟨g, 0, none⟩ z.length) (.cells cur e (0, 0 + z.length)) (by unfold World.freeze; rw [if_neg hz]) (by unfold World.freeze; rw [if_neg hz]) (by unfold World.freeze; rw [if_neg hz])
    (by unfold World.freeze; rw [if_neg hz]; exact Array.size_modify) (by unfold World.freeze; rw [if_neg hz]; dsimp only; rw [Array.getElem?_modify, if_pos rfl]; have hgw' : w.heap[g]? = some (.cells cur e (0, 0)) := hgw; rw [hgw']; rfl) (fun k hk => by unfold World.freeze; rw [if_neg hz]; dsimp only; rw [Array.getElem?_modify, if_neg (fun h => hk h.symm)])
  refine h.out _ _ (hf.put (some d) _ hd) (HT.sub ?_)
  have : ∀ (L : List Blk) (i : Nat) (x : Blk), (L.eraseIdx i).Sublist (L.set i x) := by
    intro L
    induction L with
    | nil => intro i x; simp
    | cons y r ih =>
      intro i x
      cases i with
      | zero => exact List.sublist_cons_self _ _
      | succ i => exact (ih i x).cons_cons y
  exact this L i _
end
end Go.Proofs.YtecbgehooembmaaGreatDoor
namespace Go.Proofs.YtecbgehooembmaaGreatDoor
open Go Go.RowKit
def sBytes (s : ByteArray) : List Value := s.data.toList.map fun b => .int .u8 (b.toNat : Int)
theorem sBytes_len (s : ByteArray) : (sBytes s).length = s.size := by unfold sBytes; rw [List.length_map]; cases s; rfl
section
variable {P : Program} {n : Nat} {l : List (Nat × Value)} {S : List Nat} {w0 : World} {L : List Blk} {K : Act → World → Prop} {k : Kont} {ops : Array Oper} {d : Tmp} {ty : TypeId} {pos : String} {af : Array Edge}
theorem firstCells_str (s : ByteArray) (w : World) : (Builtin.firstCells 1 s.size (.string s)).run P w = .ok (sBytes s).toArray w := by
  simp only [Builtin.firstCells, Sem.run_pure]
  congr 1
  have hx : s.extract 0 s.size = s := by simp
  rw [hx]
  apply Array.ext'
  simp [sBytes]
theorem run_appS_room (w : World) (t u ty e : TypeId) (i : TypeInfo) (ht : P.underlying t = some (.slice e)) (hu : P.underlying u = some .string) (hi : P.info? e = some i) (h1 : i.size = 1)
    (g sLen sCap : Nat) (cur : Array Value) (hg : w.heap[g]? = some (.cells cur e (0, 0))) (s : ByteArray) (hroom : sLen + s.size ≤ sCap) (hfit : sLen + s.size ≤ cur.size) :
    (Builtin.append_ #[t, u] ty #[.slice (some ⟨g, 0, none⟩) sLen sCap, .string s]).run P w =
      .ok (.slice (some ⟨g, 0, none⟩) (sLen + s.size) sCap) (w.setRow g (cur.toList.take sLen ++ sBytes s ++ cur.toList.drop (sLen + s.size)).toArray) := by
  have hone : ∀ u ∈ sBytes s, u.oneCell' = true := by
    intro u hu
    unfold sBytes at hu
    obtain ⟨b, _, rfl⟩ := List.mem_map.1 hu
    exact oc_int
  have hf := firstCells_str (P := P) s w
  have hst := run_storeCells_at P g sLen e (sBytes s) 0 cur w hg (by simpa [sBytes_len] using hfit) hone
  simp only [Nat.add_zero, sBytes_len] at hst
  simp [Builtin.append_, run_underlying ht, run_underlying hu, sizeOf, typeInfo, hi, h1, Builtin.lenOf, hroom, hf, Addr.add_lit, hst]
theorem run_appS_grow (w : World) (t u ty e : TypeId) (i : TypeInfo) (z : Value) (ht : P.underlying t = some (.slice e)) (hu : P.underlying u = some .string) (hi : P.info? e = some i) (hz : i.zero = some z) (h1 : i.size = 1) (hb1 : i.bytes = 1)
    (b : Addr) (sLen sCap : Nat) (olds : List Value) (hlo : olds.length = sLen) (holds : ∀ j v, olds[j]? = some v → w.cell? (b.add j) = some v) (s : ByteArray)
    (hg : sCap < sLen + s.size) (h47 : sLen + s.size ≤ 140737488355328) :
    (Builtin.append_ #[t, u] ty #[.slice (some b) sLen sCap, .string s]).run P w =
      .ok (.slice (some ⟨w.heap.size, 0, none⟩) (sLen + s.size) (grownCap w (sLen + s.size) sCap e))
        (w.drew.alloc (.cells (olds.toArray ++ (sBytes s).toArray ++ Builtin.zeroCells z.cells (grownCap w (sLen + s.size) sCap e - (sLen + s.size))) e)) := by
  have hn : ¬ (sLen + s.size ≤ sCap) := by omega
  have h63' : ¬ (9223372036854775807 < ((sLen : Int) + (s.size : Int))) := by omega
  have hfit : Builtin.nextslicecap (sLen + s.size) sCap * 1 ≤ 281474976710656 := growslice_fits hg (by omega)
  have h48' : ¬ (281474976710656 < Builtin.nextslicecap (sLen + s.size) sCap) := by omega
  have hf := firstCells_str (P := P) s w.drew
  have hfo := run_firstCells_some (P := P) w.drew 1 sLen b sLen sCap olds (by omega) (by simpa using holds)
  simp [Builtin.append_, run_underlying ht, run_underlying hu, sizeOf, typeInfo, zeroValue, hi, hz, h1, hb1, Builtin.lenOf, hn, h63', h48', Question.forced, hf, hfo, newRow, grownCap]
  congr 2
  apply Array.ext'
  simp [List.append_assoc]
theorem K1_appendStr {E : Nat} {t tt : TypeId} {inf : TypeInfo} {z : Value} {s y : Operand} {v : Value} {m : Nat} {xs : List Value} {e L0 : List Blk} {str : ByteArray}
    (hd : Nat.blt d n = true) (ht : P.underlying t = some (.slice E)) (hu : P.underlying tt = some .string) (hi : P.info? E = some inf) (hz : inf.zero = some z) (hsize : inf.size = 1) (hby : inf.bytes = 1) (hzs : z.cells.size = 1)
    (hs : ev l s = some v) (hy : ev l y = some (.string str)) (hown : Own E 1 v m xs e) (hm : 0 < m) (h47 : m + str.size ≤ 140737488355328) (hL : ∀ w, HP S w0 w L → HP S w0 w (e ++ L0)) {mm : Nat} {xn : List Value} (hmm : m + str.size = mm) (hxn : xs ++ sBytes str = xn)
    (h : ∀ v' e', Own E 1 v' mm xn e' → G n ((d, v') :: l) S w0 (e' ++ L0) K) :
    G n l S w0 L (K1 P ops k ⟨some d, .call { callee := .builtin .append, args := #[s, y], argTypes := #[t, tt] }, ty, pos, af, none⟩ K) := .mk fun a w hf H => k1_want rfl <| by
  subst hmm hxn
  have H' := hL w H
  obtain ⟨g, cap, cur, rfl, rfl, hnc, hcm, hcs, htake⟩ := hown.some hm
  rw [Nat.mul_one] at hcs htake
  have hlen : (xs ++ sBytes str).length = (m + str.size) * 1 := by rw [List.length_append, hown.1, sBytes_len, Nat.mul_one, Nat.mul_one]
  have hgw : w.heap[g]? = some (.cells cur E (0, 0)) := H'.at_ 0 (p := ⟨true, g, .cells cur E (0, 0)⟩) rfl
  have HL : HP S w0 w L0 := H'.sub (List.sublist_append_right _ _)
  unfold Oper.wp execOp
  simp only [resolve, invoke, builtin, Sem.run_bind, Sem.run_pure, Result.andThen_ok, List.map_toArray, List.map_cons, List.map_nil, hf.eval hs, hf.eval hy]
  by_cases hroom : m + str.size ≤ cap
  · have hr := run_appS_room (P := P) w t tt ty E inf ht hu hi hsize g m cap cur hgw str hroom (by omega)
    rw [hr]
    have HT := H'.turn 0 (o := .cells cur E (0, 0)) rfl (w.setRow g (cur.toList.take m ++ sBytes str ++ cur.toList.drop (m + str.size)).toArray) _ rfl rfl rfl (size_setRow w g _)
      (setRow_heap w g cur _ E _ hgw) (fun k hk => setRow_other w g k _ hk)
    refine (h _ [⟨true, g, .cells (cur.toList.take m ++ sBytes str ++ cur.toList.drop (m + str.size)).toArray E (0, 0)⟩] ⟨hlen, .inr ⟨g, cap, _, rfl, rfl, hroom, hcm, ?_, ?_⟩⟩).out _ _ (hf.put (some d) _ hd) HT
    · simp only [List.size_toArray, List.length_append, List.length_take, List.length_drop, Array.length_toList, sBytes_len]
      omega
    · rw [htake, ← hlen]
      exact List.take_left
  · have holds : ∀ j u, xs[j]? = some u → w.cell? ((⟨g, 0, none⟩ : Addr).add j) = some u := by
      intro j u hj
      have hadd : (⟨g, 0, none⟩ : Addr).add j = ⟨g, j, none⟩ := by unfold Addr.add; split <;> simp_all
      rw [hadd, cell_of_row w g j cur E (0, 0) hgw]
      rw [← htake, List.getElem?_take] at hj
      split at hj
      · simpa using hj
      · simp at hj
    have hr := run_appS_grow (P := P) w t tt ty E inf z ht hu hi hz hsize hby ⟨g, 0, none⟩ m cap xs (by have := hown.1; omega) holds str (by omega) h47
    rw [hr]
    have hge := grownCap_ge w (m + str.size) cap E
    have hcm2 : grownCap w (m + str.size) cap E ≤ maxLen := grownCap_le_maxLen w (m + str.size) cap E c_21
    refine (h _ [⟨true, w.heap.size, .cells (xs.toArray ++ (sBytes str).toArray ++ Builtin.zeroCells z.cells (grownCap w (m + str.size) cap E - (m + str.size))) E (0, 0)⟩] ⟨hlen, .inr ⟨w.heap.size, _, _, rfl, rfl, hge, hcm2, ?_, ?_⟩⟩).out _ _ (hf.put (some d) _ hd) (HL.drew.alloc _)
    · have h9 := hown.1
      simp only [Array.size_append, List.size_toArray, size_zeroCells, hzs, h9, sBytes_len, Nat.mul_one]
      omega
    · simp only [Array.toList_append, List.append_assoc]
      rw [← List.append_assoc, ← hlen]
      exact List.take_left
theorem K1_appendStrB {E : Nat} {t tt : TypeId} {inf : TypeInfo} {z : Value} {s y : Operand} {g m cp j : Nat} {cur : Array Value} {str : ByteArray}
    (hd : Nat.blt d n = true) (ht : P.underlying t = some (.slice E)) (hu : P.underlying tt = some .string) (hi : P.info? E = some inf) (hz : inf.zero = some z) (hsize : inf.size = 1) (hby : inf.bytes = 1) (hzs : z.cells.size = 1)
    (hs : ev l s = some (.slice (some ⟨g, 0, none⟩) m cp)) (hy : ev l y = some (.string str)) (hown : L[j]? = some ⟨true, g, .cells cur E (0, 0)⟩) (hmc : m ≤ cp) (hcp : cp ≤ maxLen) (hcs : cur.size = cp * 1) (hm : 0 < m) (h47 : m + str.size ≤ 140737488355328)
    {mm : Nat} {xn : List Value} (hmm : m + str.size = mm) (hxn : cur.toList.take (m * 1) ++ sBytes str = xn)
    (h : ∀ v' e', Own E 1 v' mm xn e' → G n ((d, v') :: l) S w0 (e' ++ L.eraseIdx j) K) :
    G n l S w0 L (K1 P ops k ⟨some d, .call { callee := .builtin .append, args := #[s, y], argTypes := #[t, tt] }, ty, pos, af, none⟩ K) :=
  K1_appendStr hd ht hu hi hz hsize hby hzs hs hy (Own.of_block hmc hcp hcs) hm h47 (fun _ H => H.pick hown) hmm hxn h
end
end Go.Proofs.YtecbgehooembmaaGreatDoor
namespace Go.Proofs.YtecbgehooembmaaGreatDoor
open Go Go.RowKit
section
variable {P : Program} {n : Nat} {l : List (Nat × Value)} {S : List Nat} {w0 : World} {L : List Blk} {K : Act → World → Prop} {k : Kont} {ops : Array Oper} {d : Tmp} {ty : TypeId} {pos : String} {af : Array Edge}
theorem run_appS_nil (w : World) (t u ty e : TypeId) (i : TypeInfo) (z : Value) (ht : P.underlying t = some (.slice e)) (hu : P.underlying u = some .string) (hi : P.info? e = some i) (hz : i.zero = some z) (h1 : i.size = 1) (hb1 : i.bytes = 1) (s : ByteArray)
    (hg : 0 < s.size) (h47 : s.size ≤ 140737488355328) :
    (Builtin.append_ #[t, u] ty #[.slice none 0 0, .string s]).run P w =
      .ok (.slice (some ⟨w.heap.size, 0, none⟩) s.size (grownCap w s.size 0 e))
        (w.drew.alloc (.cells ((sBytes s).toArray ++ Builtin.zeroCells z.cells (grownCap w s.size 0 e - s.size)) e)) := by
  have hn : ¬ (s.size = 0) := by omega
  have h63' : ¬ (9223372036854775807 < (s.size : Int)) := by omega
  have hfit : Builtin.nextslicecap s.size 0 * 1 ≤ 281474976710656 := growslice_fits hg (by omega)
  have h48' : ¬ (281474976710656 < Builtin.nextslicecap s.size 0) := by omega
  have hf := firstCells_str (P := P) s w.drew
  have hf0 : (Builtin.firstCells 1 0 (.slice none 0 0)).run P w.drew = .ok #[] w.drew := by
    simp [Builtin.firstCells, Sem.run_pure]
  simp [Builtin.append_, run_underlying ht, run_underlying hu, sizeOf, typeInfo, zeroValue, hi, hz, h1, hb1, Builtin.lenOf, hn, h63', h48', Question.forced, hf, hf0, newRow, grownCap]
theorem K1_appendStrN {E : Nat} {t tt : TypeId} {inf : TypeInfo} {z : Value} {s y : Operand} {str : ByteArray}
    (hd : Nat.blt d n = true) (ht : P.underlying t = some (.slice E)) (hu : P.underlying tt = some .string) (hi : P.info? E = some inf) (hz : inf.zero = some z) (hsize : inf.size = 1) (hby : inf.bytes = 1) (hzs : z.cells.size = 1)
    (hs : ev l s = some (.slice none 0 0)) (hy : ev l y = some (.string str)) (hm : 0 < str.size) (h47 : str.size ≤ 140737488355328)
    (h : ∀ v' e', Own E 1 v' str.size (sBytes str) e' → G n ((d, v') :: l) S w0 (e' ++ L) K) :
    G n l S w0 L (K1 P ops k ⟨some d, .call { callee := .builtin .append, args := #[s, y], argTypes := #[t, tt] }, ty, pos, af, none⟩ K) := .mk fun a w hf H => k1_want rfl <| by
  have hlen : (sBytes str).length = str.size * 1 := by rw [sBytes_len, Nat.mul_one]
  unfold Oper.wp execOp
  simp only [resolve, invoke, builtin, Sem.run_bind, Sem.run_pure, Result.andThen_ok, List.map_toArray, List.map_cons, List.map_nil, hf.eval hs, hf.eval hy]
  have hr := run_appS_nil (P := P) w t tt ty E inf z ht hu hi hz hsize hby str hm h47
  rw [hr]
  have hge := grownCap_ge w str.size 0 E
  have hcm2 : grownCap w str.size 0 E ≤ maxLen := grownCap_le_maxLen w str.size 0 E c_21
  refine (h _ [⟨true, w.heap.size, .cells ((sBytes str).toArray ++ Builtin.zeroCells z.cells (grownCap w str.size 0 E - str.size)) E (0, 0)⟩] ⟨hlen, .inr ⟨w.heap.size, _, _, rfl, rfl, hge, hcm2, ?_, ?_⟩⟩).out _ _ (hf.put (some d) _ hd) (H.drew.alloc _)
  · simp only [Array.size_append, List.size_toArray, size_zeroCells, hzs, sBytes_len, Nat.mul_one]
    omega
  · simp only [Array.toList_append]
    rw [← hlen]
    exact List.take_left
end
end Go.Proofs.YtecbgehooembmaaGreatDoor
namespace Go.Proofs.YtecbgehooembmaaGreatDoor
open Go Go.RowKit
abbrev bB (b : Nat) (p v : Value) : Blk := ⟨true, b, .cells #[p, v] 109 (0, 0)⟩
abbrev bP (b : Nat) : Value := .pointer (some ⟨b, 0, none⟩)
set_option maxRecDepth 100000 in
theorem ccheck_c {S w0 L} (b : Nat) (p v : Value) (hp : p = .pointer none ∨ p = bP b) : Fn Tryz.prog 58 #[bP b] S w0 (bB b p v :: L) fun r L' => r = tupleOf [] ∧ bB b (bP b) v :: L = L' := by
  rcases hp with rfl | rfl
  · refine Fn1 Tryz.func58 Tryz.ntmps58 rfl rfl ?_
    repeat' (first | refine G_seq ?_ | refine G_then_n ?_ | refine G_cond_t rfl ?_ | (refine G_region (id := 0) ?_ <;> (try refine q_m ?_) <;> (try refine q_n ?_) <;> (try refine q_e (q_f fo_109_0) ?_) <;> (try refine q_e q_l ?_) <;> (try refine q_e (q_b (r := by exact rb_peq_nn Tryz.underlying107)) ?_) <;> (try refine G_nil ?_)) | (refine G_region (id := 1) ?_ <;> (try refine q_m ?_) <;> (try refine q_m ?_) <;> (try refine q_e (by apply E_toUnsafe (t := 109) (m := 2); exact rfl; exact Tryz.underlying107; exact Tryz.underlying189; kernel_rfl; exact rfl; exact fd0; exact Nat.le_of_ble_eq_true rfl) ?_) <;> (try refine G_op1 ?_; (refine K1_noEsc (F := 85) Tryz.func85 (by kernel_rfl) (by kernel_rfl) (by kernel_rfl) (by kernel_rfl) rfl rfl ?_)) <;> (try refine q_e (by apply E_fromUnsafe (u := 109) (m := 2); exact rfl; exact Tryz.underlying189; exact Tryz.underlying107; kernel_rfl; exact fd0; kernel_rfl) ?_) <;> (try refine q_n ?_) <;> (try refine q_e (q_f fo_109_0) ?_) <;> (try refine G_op1 ?_; (refine q_S ?_)) <;> (try refine G_nil ?_)))
    (first | refine G_done Tryz.results58 .nil ?_ | refine G_done_n Tryz.results58 .nil ?_)
    exact ⟨_, ⟨rfl, rfl⟩, fun _ H => H⟩
  · refine Fn1 Tryz.func58 Tryz.ntmps58 rfl rfl ?_
    repeat' (first | refine G_seq ?_ | refine G_then_n ?_ | refine G_skip ?_ | refine G_cond_f rfl ?_ | (refine G_region (id := 0) ?_ <;> (try refine q_m ?_) <;> (try refine q_n ?_) <;> (try refine q_e (q_f fo_109_0) ?_) <;> (try refine q_e q_l ?_) <;> (try refine q_e (q_b (r := by exact rb_peq_sn Tryz.underlying107)) ?_) <;> (try refine G_nil ?_)) | (refine G_region (id := 2) ?_ <;> (try refine q_m ?_) <;> (try refine q_n ?_) <;> (try refine q_e (q_f fo_109_0) ?_) <;> (try refine q_e q_l ?_) <;> (try refine q_m ?_) <;> (try refine q_e (q_b (r := by exact rb_pne_same (m := 2) Tryz.underlying107 (by kernel_rfl))) ?_) <;> (try refine G_nil ?_)))
    (first | refine G_done Tryz.results58 .nil ?_ | refine G_done_n Tryz.results58 .nil ?_)
    exact ⟨_, ⟨rfl, rfl⟩, fun _ H => H⟩
set_option maxRecDepth 100000 in
set_option maxHeartbeats 1000000 in
theorem bwrite_c {S w0 L} (b : Nat) (p v : Value) (hp : p = .pointer none ∨ p = bP b) (n : Nat) (bs : List Value) (e : List Blk) (hn : n ≤ 1000000) (hown : Own 5 1 v n bs e) (hv : v = .slice none 0 0 ∨ 0 < n) (s : ByteArray) (hs : s.size ≤ 1000000) (hs1 : 0 < s.size) :
    Fn Tryz.prog 29 #[bP b, .string s] S w0 (bB b p v :: (e ++ L)) fun r L' => r = tupleOf [.int .i64 s.size, .nilIface] ∧ ∃ v' e', Own 5 1 v' (n + s.size) (bs ++ sBytes s) e' ∧ bB b (bP b) v' :: (e' ++ L) = L' := by
  have hcc := fun (L : List Blk) => ccheck_c (S := S) (w0 := w0) (L := L) b p v hp
  rcases own_cases hown with ⟨rfl, rfl, rfl, rfl⟩ | ⟨g, cap, cur, rfl, rfl, h1, h2, h3, h4⟩
  · clear hown hv
    refine Fn2 Tryz.func29 Tryz.ntmps29 rfl rfl ?_
    simp only [List.nil_append]
    repeat' (first | refine G_seq ?_ | refine G_then_n ?_ | refine G_ret ?_ | (refine G_region (id := 0) ?_ <;> (try refine q_a ?_) <;> (try refine q_a ?_) <;> (try refine G_nil ?_)) | (refine G_region (id := 1) ?_ <;> (try refine q_m ?_) <;> (try refine G_op1 ?_; (refine K1_call (F := 58) (by kernel_rfl) rfl rfl (hcc _) ?_; rintro _ _ ⟨rfl, rfl⟩)) <;> (try refine G_nil ?_)) | (refine G_region (id := 2) ?_ <;> (try refine q_m ?_) <;> (try refine q_m ?_) <;> (try refine q_n ?_) <;> (try refine q_e (q_f fo_109_1) ?_) <;> (try refine q_e q_l ?_) <;> (try refine q_m ?_) <;> (try refine G_op1 ?_; (apply K1_appendStrN; exact rfl; exact Tryz.underlying45; exact Tryz.underlying9; exact inf_5_i; exact inf_5_z; exact inf_5_s; exact inf_5_b; exact rfl; exact rfl; exact rfl; omega; omega; intro vA eA hownA; obtain ⟨gA, capA, curA, rfl, rfl, hA1, hA2, hA3, hA4⟩ := hownA.some (by omega))) <;> (try refine q_n ?_) <;> (try refine q_e (q_f fo_109_1) ?_) <;> (try refine G_op1 ?_; (apply K1_store1 (t := 45); exact rfl; exact rfl; (focus (repeat (first | exact fd0 | apply fdA))); exact rfl; exact rfl; kernel_rfl; exact Nat.le_of_ble_eq_true rfl; exact c_28; (try simp only [List.set_cons_succ]); (try simp only [List.set_cons_zero]))) <;> (try refine G_nil ?_)) | (refine G_region (id := 3) ?_ <;> (try refine q_m ?_) <;> (try refine q_e (E_builtin rfl (fun _ => BigFrame.builtin_len ..) (r_len_string Tryz.underlying9)) ?_) <;> (try refine q_a ?_) <;> (try refine q_a ?_) <;> (try refine G_nil ?_)))
    (refine G_done Tryz.results29 (.tmp rfl (.tmp rfl .nil)) ?_)
    refine ⟨_, ⟨rfl, .slice (some ⟨gA, 0, none⟩) s.size capA, [⟨true, gA, .cells curA 5 (0, 0)⟩], ?_, rfl⟩, fun _ H => H.perm (.swap _ _ _)⟩
    rw [Nat.zero_add]; exact own_mk hA1 hA2 hA3 hA4
  · have hn0 : 0 < n := by
      rcases hv with h | h
      · cases h
      · exact h
    unfold maxLen at h2
    clear hown hv
    simp only [List.cons_append, List.nil_append]
    refine Fn2 Tryz.func29 Tryz.ntmps29 rfl rfl ?_
    repeat' (first | refine G_seq ?_ | refine G_then_n ?_ | refine G_ret ?_ | (refine G_region (id := 0) ?_ <;> (try refine q_a ?_) <;> (try refine q_a ?_) <;> (try refine G_nil ?_)) | (refine G_region (id := 1) ?_ <;> (try refine q_m ?_) <;> (try refine G_op1 ?_; (refine K1_call (F := 58) (by kernel_rfl) rfl rfl (hcc _) ?_; rintro _ _ ⟨rfl, rfl⟩)) <;> (try refine G_nil ?_)) | (refine G_region (id := 2) ?_ <;> (try refine q_m ?_) <;> (try refine q_m ?_) <;> (try refine q_n ?_) <;> (try refine q_e (q_f fo_109_1) ?_) <;> (try refine q_e q_l ?_) <;> (try refine q_m ?_) <;> (try refine G_op1 ?_; (apply K1_appendStrB; exact rfl; exact Tryz.underlying45; exact Tryz.underlying9; exact inf_5_i; exact inf_5_z; exact inf_5_s; exact inf_5_b; exact rfl; exact rfl; exact rfl; exact c_29; (with_reducible assumption); exact c_21; (with_reducible assumption); omega; omega; exact c_14; exact c_4; (try simp only [List.eraseIdx_cons_succ]); (try simp only [List.eraseIdx_cons_zero]); intro vA eA hownA; obtain ⟨gA, capA, curA, rfl, rfl, hA1, hA2, hA3, hA4⟩ := hownA.some (by omega))) <;> (try refine q_n ?_) <;> (try refine q_e (q_f fo_109_1) ?_) <;> (try refine G_op1 ?_; (apply K1_store1 (t := 45); exact rfl; exact rfl; (focus (repeat (first | exact fd0 | apply fdA))); exact rfl; exact rfl; kernel_rfl; exact Nat.le_of_ble_eq_true rfl; exact c_28; (try simp only [List.set_cons_succ]); (try simp only [List.set_cons_zero]))) <;> (try refine G_nil ?_)) | (refine G_region (id := 3) ?_ <;> (try refine q_m ?_) <;> (try refine q_e (E_builtin rfl (fun _ => BigFrame.builtin_len ..) (r_len_string Tryz.underlying9)) ?_) <;> (try refine q_a ?_) <;> (try refine q_a ?_) <;> (try refine G_nil ?_)))
    (refine G_done Tryz.results29 (.tmp rfl (.tmp rfl .nil)) ?_)
    refine ⟨_, ⟨rfl, .slice (some ⟨gA, 0, none⟩) (n + s.size) capA, [⟨true, gA, .cells curA 5 (0, 0)⟩], ?_, rfl⟩, fun _ H => H.perm (.swap _ _ _)⟩
    rw [← h4]; exact own_mk hA1 hA2 hA3 hA4
set_option maxRecDepth 100000 in
set_option maxHeartbeats 1000000 in
theorem bstring_c {S w0 L} (b : Nat) (p v : Value) (z : List UInt8) (e : List Blk) (hz : 0 < z.length) (hl : z.length ≤ 1000000) (hown : Own 5 1 v z.length (Lib.byteCells z) e) :
    Fn Tryz.prog 35 #[bP b] S w0 (bB b p v :: (e ++ L)) fun r L' => r = .string (mB8 z) ∧ L = L' := by
  obtain ⟨g, cap, cur, rfl, rfl, h1, h2, h3, h4⟩ := hown.some hz
  unfold maxLen at h2
  have h4' : cur.toList.take z.length = Lib.byteCells z := by rw [Nat.mul_one] at h4; exact h4
  have hzz : z.length = z.length := rfl
  clear hown h4
  simp only [List.cons_append, List.nil_append]
  refine Fn1 Tryz.func35 Tryz.ntmps35 rfl rfl ?_
  repeat' (first | refine G_seq ?_ | refine G_then_n ?_ | refine G_ret ?_ | (refine G_region (id := 0) ?_ <;> (try refine q_a ?_) <;> (try refine G_nil ?_)) | ((apply G_regionHb (i := 1) (id := 1) (m := 12); exact c_11; kernel_rfl; exact rfl) <;> (try refine q_t 0 (e := c_6) (x := by exact E_move rfl) (h := ?_)) <;> (try refine q_t 1 (e := c_6) (x := by exact E_nilCheck rfl) (h := ?_)) <;> (try refine q_t 2 (e := c_6) (x := by exact q_f fo_109_1) (h := ?_)) <;> (try refine q_t 3 (e := c_6) (x := by exact q_l) (h := ?_)) <;> (try refine q_t 4 (e := c_6) (x := by apply E_sliceData; exact rfl; omega) (h := ?_)) <;> (try refine q_t 5 (e := c_6) (x := by exact E_move rfl) (h := ?_)) <;> (try refine q_t 6 (e := c_6) (x := by exact E_nilCheck rfl) (h := ?_)) <;> (try refine q_t 7 (e := c_6) (x := by exact q_f fo_109_1) (h := ?_)) <;> (try refine q_t 8 (e := c_6) (x := by exact q_l) (h := ?_)) <;> (try refine q_t 9 (e := c_6) (x := by apply E_builtin; exact rfl; exact (fun _ => BigFrame.builtin_len ..); apply r_len_slice_e Tryz.underlying45; exact c_19) (h := ?_)) <;> (try refine q_r 10 ?_; (apply K1_unsafeStr; exact rfl; exact rfl; exact rfl; exact c_29; exact Tryz.underlying178; kernel_rfl; (with_reducible assumption); omega; omega; omega; (with_reducible assumption); (try simp only [List.eraseIdx_cons_succ]); (try simp only [List.eraseIdx_cons_zero])); refine H_go c_6 ?_) <;> (try refine q_t 11 (e := c_6) (x := by exact E_assign rfl) (h := ?_)) <;> (try refine H_done (by kernel_rfl) ?_)))
  all_goals
    (refine G_done Tryz.results35 (.tmp rfl .nil) ?_)
    exact ⟨_, ⟨rfl, rfl⟩, by intro w H; refine H.sub ?_; (try simp only [List.cons_append, List.nil_append]); repeat (first | exact List.Sublist.refl _ | refine List.Sublist.cons _ ?_)⟩
end Go.Proofs.YtecbgehooembmaaGreatDoor
namespace Go.Proofs.YtecbgehooembmaaGreatDoor
open Go Go.RowKit
section
variable {P : Program} {n : Nat} {l : List (Nat × Value)} {S : List Nat} {w0 : World} {L : List Blk} {d : Tmp} {ty : TypeId} {pos : String} {af : Array Edge}
theorem E_sliceDataN {x : Operand} {ats : Array TypeId} (hx : ev l x = some (.slice none 0 0)) : ValOf P n l S w0 L ⟨some d, .call { callee := .builtin .unsafeSliceData, args := #[x], argTypes := ats }, ty, pos, af, none⟩ (.pointer none) :=
  E_builtin (xs := [x]) (vs := [.slice none 0 0]) (by simp [evs, hx]) (fun cs => BigFrame.builtin_unsafeSliceData ..) ⟨fun _ => rfl⟩
theorem E_unsafeStr0 {x y : Operand} {pt it : TypeId} {p : Option Addr} (hx : ev l x = some (.pointer p)) (hy : ev l y = some (.int .i64 0)) : ValOf P n l S w0 L ⟨some d, .call { callee := .builtin .unsafeString, args := #[x, y], argTypes := #[pt, it] }, ty, pos, af, none⟩ (.string .empty) :=
  E_builtin (xs := [x, y]) (vs := [.pointer p, .int .i64 0]) (by simp [evs, hx, hy]) (fun cs => BigFrame.builtin_unsafeString ..) ⟨fun w => Lib.run_unsafeString_none w pt it _ p⟩
end
end Go.Proofs.YtecbgehooembmaaGreatDoor
namespace Go.Proofs.YtecbgehooembmaaGreatDoor
open Go Go.RowKit
set_option maxRecDepth 100000 in
set_option maxHeartbeats 1000000 in
theorem bstring0_c {S w0 L} (b : Nat) (p : Value) :
    Fn Tryz.prog 35 #[bP b] S w0 (bB b p (.slice none 0 0) :: L) fun r L' => r = .string .empty ∧ L = L' := by
  refine Fn1 Tryz.func35 Tryz.ntmps35 rfl rfl ?_
  repeat' (first | refine G_seq ?_ | refine G_nil ?_ | refine G_then_n ?_ | refine G_cut_n ?_ | refine G_cut_x ?_ | refine G_cut_r ?_ | refine G_then_x ?_ | refine G_then_r ?_ | refine G_blk_n ?_ | refine G_blk_r ?_ | refine G_blk_x ?_ | refine G_blk_y rfl ?_ | refine G_block ?_ | refine G_skip ?_ | refine G_exit ?_ | refine G_ret ?_ | refine G_cond_t rfl ?_ | refine G_cond_f rfl ?_ | (refine G_region (id := 0) ?_ <;> (try refine G_op1 ?_; (first | (refine q_k (E_assign rfl) ?_))) <;> (try refine G_nil ?_)) | ((refine G_regionH (id := 1) (m := 12) (by kernel_rfl) rfl ?_) <;> (try first | (refine q_t 0 (e := c_13) (x := by first | exact E_move rfl) (h := ?_)) | (refine G_stuck ?_)) <;> (try first | (refine q_t 1 (e := c_13) (x := by first | exact E_nilCheck rfl) (h := ?_)) | (refine G_stuck ?_)) <;> (try first | (refine q_t 2 (e := c_13) (x := by first | (first | (exact q_f fo_109_1) | (exact q_g fo_109_1))) (h := ?_)) | (refine G_stuck ?_)) <;> (try first | (refine q_t 3 (e := c_13) (x := by first | (apply E_load1 (t := 45); exact rfl; (focus (repeat (first | exact fd0 | (with_reducible assumption) | apply fdA | apply fdS))); kernel_rfl; kernel_rfl; (focus (first | (with_reducible assumption) | exact rfl)))) (h := ?_)) | (refine G_stuck ?_)) <;> (try first | (refine q_t 4 (e := c_13) (x := by first | (apply E_sliceDataN; exact rfl)) (h := ?_)) | (refine G_stuck ?_)) <;> (try first | (refine q_t 5 (e := c_13) (x := by first | exact E_move rfl) (h := ?_)) | (refine G_stuck ?_)) <;> (try first | (refine q_t 6 (e := c_13) (x := by first | exact E_nilCheck rfl) (h := ?_)) | (refine G_stuck ?_)) <;> (try first | (refine q_t 7 (e := c_13) (x := by first | (first | (exact q_f fo_109_1) | (exact q_g fo_109_1))) (h := ?_)) | (refine G_stuck ?_)) <;> (try first | (refine q_t 8 (e := c_13) (x := by first | (apply E_load1 (t := 45); exact rfl; (focus (repeat (first | exact fd0 | (with_reducible assumption) | apply fdA | apply fdS))); kernel_rfl; kernel_rfl; (focus (first | (with_reducible assumption) | exact rfl)))) (h := ?_)) | (refine G_stuck ?_)) <;> (try first | (refine q_t 9 (e := c_13) (x := by first | (apply E_builtin; exact rfl; exact (fun _ => BigFrame.builtin_len ..); apply r_len_slice_e Tryz.underlying45; exact c_19)) (h := ?_)) | (refine G_stuck ?_)) <;> (try first | (refine q_t 10 (e := c_13) (x := by first | (apply E_unsafeStr0; exact rfl; exact rfl)) (h := ?_)) | (refine G_stuck ?_)) <;> (try first | (refine q_t 11 (e := c_13) (x := by first | exact E_assign rfl) (h := ?_)) | (refine G_stuck ?_)) <;> (try refine H_done (by kernel_rfl) ?_)) | ((first | (refine G_cond_nd rfl (fun hc => ?_) (fun hc => ?_)) | (refine G_cond_d rfl (fun hc => ?_) (fun hc => ?_)) | (refine G_cond rfl (fun hc => ?_) (fun hc => ?_))) <;> (try subst hc)))
  all_goals
    (refine G_done Tryz.results35 (.tmp rfl .nil) ?_)
    exact ⟨_, ⟨rfl, rfl⟩, by intro w H; refine H.sub ?_; (try simp only [List.cons_append, List.nil_append]); repeat (first | exact List.Sublist.refl _ | refine List.Sublist.cons_cons _ ?_ | refine List.Sublist.cons _ ?_ | refine List.sublist_append_of_sublist_right ?_)⟩
end Go.Proofs.YtecbgehooembmaaGreatDoor
namespace Go.Proofs.YtecbgehooembmaaGreatDoor
open Go Go.RowKit
def BldI (b : Nat) (z : List UInt8) (B : List Blk) : Prop := ∃ p v e, B = bB b p v :: e ∧ (p = .pointer none ∨ p = bP b) ∧ Own 5 1 v z.length (Lib.byteCells z) e ∧ (v = .slice none 0 0 ∨ 0 < z.length)
theorem bldi_0 (b : Nat) : BldI b [] [bB b (.pointer none) (.slice none 0 0)] := ⟨_, _, [], rfl, .inl rfl, Own.nil _ _, .inl rfl⟩
theorem bldi_t {S w0 L} {b : Nat} {z : List UInt8} {B : List Blk} (h : BldI b z B) (hz : z.length ≤ 1000000) (s : ByteArray) (hs : s.size ≤ 1000000) (hs1 : 0 < s.size) :
    Fn Tryz.prog 29 #[bP b, .string s] S w0 (B ++ L) fun r L' => r = tupleOf [.int .i64 s.size, .nilIface] ∧ ∃ B', BldI b (z ++ lB s) B' ∧ B' ++ L = L' := by
  obtain ⟨p, v, e, rfl, hp, hown, hnn⟩ := h
  refine (bwrite_c (S := S) (w0 := w0) (L := L) b p v hp _ _ e hz hown hnn s hs hs1).mono ?_
  rintro r L' ⟨rfl, v', e', h', rfl⟩
  refine ⟨_, ⟨rfl, bB b (bP b) v' :: e', ⟨_, v', e', rfl, .inr rfl, ?_, .inr ?_⟩, rfl⟩, fun _ H => H⟩
  · have e1 : (z ++ lB s).length = z.length + s.size := by rw [List.length_append, lB_len]
    have e2 : Lib.byteCells (z ++ lB s) = Lib.byteCells z ++ sBytes s := by
      unfold Lib.byteCells
      rw [List.map_append]; rfl
    rw [e1, e2]; exact h'
  · rw [List.length_append, lB_len]; omega
theorem bldi_s {S w0 L} {b : Nat} {z : List UInt8} {B : List Blk} (h : BldI b z B) (hz : z.length ≤ 1000000) :
    Fn Tryz.prog 35 #[bP b] S w0 (B ++ L) fun r L' => r = .string (mB8 z) ∧ L = L' := by
  obtain ⟨p, v, e, rfl, hp, hown, hnn⟩ := h
  by_cases h0 : 0 < z.length
  · exact bstring_c b p v z e h0 hz hown
  · have hv : v = .slice none 0 0 := by
      rcases hnn with h | h
      · exact h
      · exact absurd h h0
    subst hv
    have hz0 : z = [] := List.eq_nil_of_length_eq_zero (by omega)
    subst hz0
    exact .mk fun w H => (bstring0_c (S := S) (w0 := w0) (L := L) b p).out w (H.sub (.cons_cons _ (List.sublist_append_right _ _)))
end Go.Proofs.YtecbgehooembmaaGreatDoor
namespace Go.Proofs.YtecbgehooembmaaGreatDoor
open Go Go.RowKit
theorem actOk_lt {a : Int} (h0 : 0 ≤ a) (h : actOk a = true) : a < 4294967296 := by
  unfold actOk at h
  rw [decide_eq_true_eq] at h
  rcases h with rfl | rfl | rfl | ⟨h1, -, -⟩
  · omega
  · omega
  · omega
  · have hk : iandn a 65535 = 327680 := by
      unfold kndA at h1
      split at h1
      · exact h1
      · cases h1
    have h2 := and_split a h0
    have h3 := and_lt a
    omega
theorem bldi_tp {S w0} {b : Nat} {z : List UInt8} {B : List Blk} (pre M : List Blk) (h : BldI b z B) (hz : z.length ≤ 1000000) (s : ByteArray) (t : List UInt8) (ht : s = mB8 t) (hs : t.length ≤ 1000000) (hs1 : 0 < t.length) :
    Fn Tryz.prog 29 #[bP b, .string s] S w0 (pre ++ (B ++ M)) fun r L' => r = tupleOf [.int .i64 s.size, .nilIface] ∧ ∃ B', BldI b (z ++ t) B' ∧ pre ++ (B' ++ M) = L' := by
  subst ht
  refine Fn.weak (fun w H => H.perm (List.perm_append_comm_assoc ..)) ((bldi_t (S := S) (w0 := w0) (L := pre ++ M) h hz (mB8 t) (by rw [mB8_size]; exact hs) (by rw [mB8_size]; exact hs1)).mono ?_)
  rintro r L' ⟨rfl, B', hB, rfl⟩
  rw [lB_mB8] at hB
  exact ⟨_, ⟨rfl, B', hB, rfl⟩, fun w H => H.perm (List.perm_append_comm_assoc ..)⟩
theorem actT_len {a : Int} (h : actOk a = true) : (actT a).length ≤ 27 := Nat.le_trans (spcL_len _) (actL_ok h).2.2
structure T1I (P : Pol) (b : Nat) (g : Nat × Nat × Nat × List Blk) : Prop where
  le : g.1 ≤ P.rules.length
  bld : BldI b (lnsT ([[wN tPolicy, wN P.nm], wN tDefault :: actL P.df] ++ (P.rules.take g.1).map rulL)) g.2.2.2
theorem t1_len {P : Pol} (h : PolOk P) (hr : PolRn P) (k : Nat) : (lnsT ([[wN tPolicy, wN P.nm], wN tDefault :: actL P.df] ++ (P.rules.take k).map rulL)).length ≤ 55000 := by
  have h1 := (polL_ok P h hr).2
  have e : polL P = ([[wN tPolicy, wN P.nm], wN tDefault :: actL P.df] ++ (P.rules.take k).map rulL) ++ ((P.rules.drop k).map rulL ++ (hanL P.hd ++ (P.paths.map benL ++ P.ports.map porL))) := by
    rw [List.append_assoc, ← List.append_assoc ((P.rules.take k).map rulL), ← List.map_append, List.take_append_drop]; rfl
  unfold polT at h1
  rw [e, lnsT_app, List.length_append] at h1
  omega
def linA (P : Pol) : List (List W3) := [[wN tPolicy, wN P.nm], wN tDefault :: actL P.df] ++ P.rules.map rulL
def linB (P : Pol) : List (List W3) := linA P ++ hanL P.hd
def linC (P : Pol) (k : Nat) : List (List W3) := linB P ++ (P.paths.take k).map benL
def linD (P : Pol) (k : Nat) : List (List W3) := linC P P.paths.length ++ (P.ports.take k).map porL
theorem linD_all (P : Pol) : linD P P.ports.length = polL P := by
  unfold linD linC linB linA polL
  rw [List.take_length, List.take_length]
  simp only [List.append_assoc]; rfl
theorem pfx_len {P : Pol} (h : PolOk P) (hr : PolRn P) {A B : List (List W3)} (e : polL P = A ++ B) : (lnsT A).length ≤ 55000 := by
  have h1 := (polL_ok P h hr).2
  unfold polT at h1
  rw [e, lnsT_app, List.length_append] at h1
  omega
theorem linD_len {P : Pol} (h : PolOk P) (hr : PolRn P) (k : Nat) : (lnsT (linD P k)).length ≤ 55000 := by
  refine pfx_len (B := (P.ports.drop k).map porL) h hr ?_
  rw [← linD_all]
  unfold linD
  rw [List.take_length, List.append_assoc, ← List.map_append, List.take_append_drop]
theorem linC_len {P : Pol} (h : PolOk P) (hr : PolRn P) (k : Nat) : (lnsT (linC P k)).length ≤ 55000 := by
  refine pfx_len (B := (P.paths.drop k).map benL ++ P.ports.map porL) h hr ?_
  rw [← linD_all]
  unfold linD linC
  rw [List.take_length, List.take_length, List.append_assoc, List.append_assoc, ← List.append_assoc ((P.paths.take k).map benL), ← List.map_append, List.take_append_drop]
set_option maxRecDepth 100000 in
set_option maxHeartbeats 2000000 in
theorem ptext_c {S w0 L} (P : Pol) (h : PolOk P) (hr : PolRn P) (vr vp vq : Value) (hS : PolS L P.g vr vp vq) (ct m1 m2 n : Nat) (hn : n ≤ 90000) :
    Fn Tryz.prog 13 #[.agg (polC P vr vp vq).toArray, .pointer (some ⟨ct, 0, none⟩)] S w0 (tbS ct m1 m2 n ++ L) fun v L' => ∃ m1' m2', v = .string (mB8 (polT P)) ∧ tbS ct m1' m2' (n + P.rules.length) ++ L = L' := by
  obtain ⟨⟨ra, rc, cz, e1, hrs, hrg⟩, ⟨pa, pc, e2, hps⟩, ⟨qa, qc, e3, hqs⟩, -, -, -⟩ := hS
  subst e1 e2 e3
  have elr : P.g.rules.length = P.rules.length := List.length_map ..
  have elp : P.g.paths.length = P.paths.length := rfl
  have elq : P.g.ports.length = P.ports.length := rfl
  rw [elr, elp, elq]
  rw [elr] at hrs
  rw [elp] at hps
  rw [elq] at hqs
  have hat := fun (L : List Blk) => acttext_c (S := S) (w0 := w0) (L := L) P.df ⟨h.df0, actOk_lt h.df0 h.df⟩
  have hnl := (nm_ok h.nm).2
  have hal := actT_len h.df
  have hz1 : (mB8 P.nm).size ≤ 14 := by rw [mB8_size]; exact hnl
  have hz2 : (mB8 (actT P.df)).size ≤ 27 := by rw [mB8_size]; exact hal
  have c1 : (⟨#[112, 111, 108, 105, 99, 121, 32]⟩ : ByteArray).size = 7 := rfl
  have c2 : (⟨#[10, 100, 101, 102, 97, 117, 108, 116, 32]⟩ : ByteArray).size = 9 := rfl
  have c3 : (⟨#[10]⟩ : ByteArray).size = 1 := rfl
  have hhd : ((((⟨#[112, 111, 108, 105, 99, 121, 32]⟩ : ByteArray) ++ mB8 P.nm) ++ (⟨#[10, 100, 101, 102, 97, 117, 108, 116, 32]⟩ : ByteArray)) ++ mB8 (actT P.df)) ++ (⟨#[10]⟩ : ByteArray) = mB8 (lnsT [[wN tPolicy, wN P.nm], wN tDefault :: actL P.df]) := by
    rw [headT_eq, show (⟨#[112, 111, 108, 105, 99, 121, 32]⟩ : ByteArray) = mB8 [112, 111, 108, 105, 99, 121, 32] from rfl, show (⟨#[10, 100, 101, 102, 97, 117, 108, 116, 32]⟩ : ByteArray) = mB8 [10, 100, 101, 102, 97, 117, 108, 116, 32] from rfl, show (⟨#[10]⟩ : ByteArray) = mB8 [10] from rfl]
    simp only [mB8_add, List.append_assoc]
  have hlh := t1_len h hr 0
  rw [List.take_zero, List.map_nil, List.append_nil] at hlh
  have hlh1 : 0 < (lnsT [[wN tPolicy, wN P.nm], wN tDefault :: actL P.df]).length := by rw [headT_eq]; simp
  dsimp only [polC]
  refine Fn2 Tryz.func13 Tryz.ntmps13 rfl rfl ?_
  repeat' (first | (refine G_markr (id := 2) ?_) | refine G_seq ?_ | refine G_then_n ?_ | (refine G_region (id := 0) ?_ <;> (try refine G_op1 ?_; (refine K1_box (t := 36) rfl rfl ?_; intro nb hnb; (try simp only [Value.cells]))) <;> (try refine q_a ?_) <;> (try refine G_nil ?_)) | (refine G_region (id := 1) ?_ <;> (try refine G_op1 ?_; (refine K1_alloc (t := 109) rfl Tryz.zeroValue109 ?_; intro nb hnb; (try simp only [Value.cells]))) <;> (try refine G_nil ?_)))
  refine ⟨?_⟩
  rename_i n2 h2
  obtain ⟨n5, rfl⟩ : ∃ x, x = nb := ⟨_, rfl⟩
  have hw := fun (x : Blk) (M : List Blk) => bldi_tp (S := S) (w0 := w0) [x] M (bldi_0 n5) (Nat.zero_le _) _ _ hhd (by omega) hlh1
  dsimp only [List.cons_append, List.nil_append] at hw
  refine G_blocks (L' := ⟨true, n2, .cells #[.string (mB8 P.nm), .int .u32 P.df, .slice ra P.rules.length rc, .int .u16 (P.hd : Nat), .slice pa P.paths.length pc, .slice qa P.ports.length qc] 36 (0, 0)⟩ :: bB n5 (.pointer none) (.slice none 0 0) :: (tbS ct m1 m2 n ++ L)) (fun w H => H.perm (List.Perm.swap ..)) ?_
  generalize mB8 (actT P.df) = at_ at *
  repeat' (first | (refine G_markb (id := 0) ?_) | refine G_seq ?_ | refine G_then_n ?_ | ((refine G_regionHp (pre := [_]) (id := 2) (m := 10) rfl (by kernel_rfl) rfl ?_) <;> (try refine q_t 0 (e := c_10) (x := by exact q_f fo_36_0) (h := ?_)) <;> (try refine q_t 1 (e := c_10) (x := by exact q_l) (h := ?_)) <;> (try refine q_t 2 (e := c_10) (x := by exact q_b (r := by apply rb_stradd; exact rfl; (focus (omega)))) (h := ?_)) <;> (try refine q_t 3 (e := c_10) (x := by exact q_b (r := by apply rb_stradd; exact rfl; (focus (simp only [ByteArray.size_append]; omega)))) (h := ?_)) <;> (try refine q_t 4 (e := c_10) (x := by exact q_f fo_36_1) (h := ?_)) <;> (try refine q_t 5 (e := c_10) (x := by exact q_l) (h := ?_)) <;> (try refine q_r 6 ?_; (refine q_c 30 (c := by apply hat) (h := ?_); rintro _ _ ⟨rfl, rfl⟩; (try simp only [List.eraseIdx_cons_succ]); (try simp only [List.eraseIdx_cons_zero])); refine H_go c_10 ?_) <;> (try refine q_t 7 (e := c_10) (x := by exact q_b (r := by apply rb_stradd; exact rfl; (focus (simp only [ByteArray.size_append]; omega)))) (h := ?_)) <;> (try refine q_t 8 (e := c_10) (x := by exact q_b (r := by apply rb_stradd; exact rfl; (focus (simp only [ByteArray.size_append]; omega)))) (h := ?_)) <;> (try refine q_r 9 ?_; (refine q_c 29 (c := by apply hw) (h := ?_); rintro _ _ ⟨rfl, B1, hB1, rfl⟩; (try simp only [List.eraseIdx_cons_succ]); (try simp only [List.eraseIdx_cons_zero])); refine H_go c_10 ?_) <;> (try refine H_done (by kernel_rfl) ?_)) | (refine G_region (id := 3) ?_ <;> (try refine q_e (q_f fo_36_2) ?_) <;> (try refine q_e q_l ?_) <;> (try refine q_e (by apply E_builtin; exact rfl; exact (fun _ => BigFrame.builtin_len ..); apply r_len_slice_e Tryz.underlying30; exact c_19) ?_) <;> (try refine q_m ?_) <;> (try refine G_nil ?_)))
  refine ⟨?_⟩
  clear hat hw hhd hlh1 hal hz1 hz2
  refine G_meetk (γ := Nat × Nat × List Blk) (fun g => BldI n5 (lnsT ([[wN tPolicy, wN P.nm], wN tDefault :: actL P.df] ++ P.rules.map rulL)) g.2.2) (fun _ => []) [(2, _), (5, _)]
    (fun g => ⟨true, n2, .cells #[.string (mB8 P.nm), .int .u32 P.df, .slice ra P.rules.length rc, .int .u16 (P.hd : Nat), .slice pa P.paths.length pc, .slice qa P.ports.length qc] 36 (0, 0)⟩ :: (g.2.2 ++ (tbS ct g.1 g.2.1 (n + P.rules.length) ++ L))) (.cons rfl (.cons rfl .nil)) ?_ ?_
  · refine G_block ?_
    refine G_loopk (γ := Nat × Nat × Nat × List Blk) (T1I P n5) (fun g => P.rules.length - g.1) (fun g => [(29, .int .i64 (g.1 : Nat))]) [(1, _), (2, _), (5, _), (27, _), (28, _)]
      (fun g => ⟨true, n2, .cells #[.string (mB8 P.nm), .int .u32 P.df, .slice ra P.rules.length rc, .int .u16 (P.hd : Nat), .slice pa P.paths.length pc, .slice qa P.ports.length qc] 36 (0, 0)⟩ :: (g.2.2.2 ++ (tbS ct g.2.1 g.2.2.1 (n + g.1) ++ L))) (0, m1, m2, B1) (.cons rfl (.cons rfl (.cons rfl (.cons rfl (.cons rfl .nil))))) ⟨Nat.zero_le _, by rw [List.take_zero, List.map_nil, List.append_nil]; exact hB1⟩ (by (focus (repeat (first | exact Sub.nil | refine Sub.cons rfl ?_)))) (fun _ H => H) ?_
    clear hB1 B1 hlh
    rintro ⟨k, k1, k2, B⟩ ⟨hk, hB⟩
    dsimp only at hk hB
    simp only [List.cons_append, List.nil_append]
    have hlk := t1_len h hr k
    have hl1 := h.l1
    by_cases hlt : k < P.rules.length
    case neg =>
      obtain rfl : k = P.rules.length := by omega
      rw [List.take_length] at hB
      repeat' (first | refine G_seq ?_ | refine G_then_n ?_ | refine G_cut_n ?_ | refine G_cut_x ?_ | refine G_then_x ?_ | refine G_blk_x ?_ | refine G_exit ?_ | refine G_cond_f rfl ?_ | (refine G_region (id := 4) ?_ <;> (try refine q_e (q_b (r := by exact rb_lss_f q_o)) ?_) <;> (try refine G_nil ?_)))
      exact G_meet (k1, k2, B) hB (by (focus (repeat (first | exact Sub.nil | refine Sub.cons rfl ?_)))) (fun _ H => H)
    have hlk2 := t1_len h hr (k + 1)
    have hzz : lnsT ([[wN tPolicy, wN P.nm], wN tDefault :: actL P.df] ++ (P.rules.take (k + 1)).map rulL) = lnsT ([[wN tPolicy, wN P.nm], wN tDefault :: actL P.df] ++ (P.rules.take k).map rulL) ++ (spcL (rulL P.rules[k]) ++ [10]) := by
      rw [List.take_succ_eq_append_getElem hlt, List.map_append, ← List.append_assoc]
      exact lnsT_snoc _ _
    have hzb : BldI n5 (lnsT ([[wN tPolicy, wN P.nm], wN tDefault :: actL P.df] ++ (P.rules.take k).map rulL) ++ (spcL (rulL P.rules[k]) ++ [10])) = BldI n5 (lnsT ([[wN tPolicy, wN P.nm], wN tDefault :: actL P.df] ++ (P.rules.take (k + 1)).map rulL)) := by rw [hzz]
    rw [hzz] at hlk2
    clear hzz
    obtain ⟨j, q, bb, off, cs, T, fr, rfl, hj, hsz, hx⟩ := ((hrs.upA (tbS ct k1 k2 (n + k))).upA B).elem hlt
    obtain ⟨v, hv, hcs⟩ := hrg.at_ k (by rw [elr]; exact hlt)
    have egk : P.g.rules[k]'(by rw [elr]; exact hlt) = (P.rules[k]).g := List.getElem_map ..
    rw [egk] at hv hcs
    rw [hv] at hx
    have hro := h.rules _ (List.getElem_mem hlt)
    have hrr := hr.c _ (List.getElem_mem hlt)
    have hzb' := Lib.hid hzb
    generalize lnsT ([[wN tPolicy, wN P.nm], wN tDefault :: actL P.df] ++ (P.rules.take k).map rulL) = Z at *
    generalize P.rules[k] = r at *
    clear egk hv hzb
    obtain ⟨va, vc, rfl, hcsl, hcml⟩ := hcs
    have elc : (RulP.g r).conds.length = r.conds.length := List.length_map ..
    have ecc : gcC (RulP.g r).conds = cndC r.conds := gcC_map _
    rw [elc] at hcsl hcml hx
    rw [ecc] at hcsl
    clear elc ecc
    have hnu := fun (x y : Blk) => numS_c (S := S) (w0 := w0) (x :: y :: B) L ct k1 k2 (n + k) (by omega) r.num
    obtain ⟨cl, hcl⟩ : ∃ cl, cnumF r.num clls = some cl := Option.isSome_iff_exists.1 hro.num
    have hnmo : mB8 (nameOf r.num) = cl.name := by unfold nameOf; rw [hcl]; exact mB8_lB _
    have hnml : cl.name.size ≤ 14 := by
      have h2 := List.all_eq_true.1 clls_nm cl (cnumF_mem hcl).1
      rw [Bool.and_eq_true, decide_eq_true_eq, lB_len] at h2
      exact h2.2
    have hgv : gotV (cnumF r.num clls) = tupleOf [.agg #[.int .u32 cl.num, .string cl.name, .int .i64 cl.args], .bool true] := by rw [hcl]; rfl
    rw [hgv] at hnu
    have hat := fun (L : List Blk) => acttext_c (S := S) (w0 := w0) (L := L) r.act ⟨hro.act0, actOk_lt hro.act0 hro.act⟩
    have hal := actT_len hro.act
    have hz2 : (mB8 (actT r.act)).size ≤ 27 := by rw [mB8_size]; exact hal
    have d1 : (⟨#[99, 97, 108, 108, 32]⟩ : ByteArray).size = 5 := rfl
    have d2 : (⟨#[32]⟩ : ByteArray).size = 1 := rfl
    have het : (((⟨#[99, 97, 108, 108, 32]⟩ : ByteArray) ++ cl.name) ++ (⟨#[32]⟩ : ByteArray)) ++ mB8 (actT r.act) = mB8 ([99, 97, 108, 108, 32] ++ (nameOf r.num ++ ([32] ++ actT r.act))) := by
      rw [← hnmo, show (⟨#[99, 97, 108, 108, 32]⟩ : ByteArray) = mB8 [99, 97, 108, 108, 32] from rfl, show (⟨#[32]⟩ : ByteArray) = mB8 [32] from rfl]
      simp only [mB8_add, List.append_assoc]
    have hru := rulT_eq r
    rw [show [99, 97, 108, 108, 32] ++ (nameOf r.num ++ ([32] ++ (actT r.act ++ cnT 0 r.conds))) = ([99, 97, 108, 108, 32] ++ (nameOf r.num ++ ([32] ++ actT r.act))) ++ cnT 0 r.conds by simp only [List.append_assoc]] at hru
    rw [hru] at hlk2 hzb'
    have hpl : 0 < ([99, 97, 108, 108, 32] ++ (nameOf r.num ++ ([32] ++ actT r.act))).length := by simp
    generalize [99, 97, 108, 108, 32] ++ (nameOf r.num ++ ([32] ++ actT r.act)) = pfx at *
    simp only [List.length_append] at hlk2
    have hw := fun (x y z : Blk) (M : List Blk) => bldi_tp (S := S) (w0 := w0) [x, y, z] M hB (by omega) _ _ het (by omega) hpl
    dsimp only [List.cons_append, List.nil_append] at hw
    have hcok := hro.conds
    obtain ⟨num, act, conds⟩ := r
    dsimp only [RulP.g, List.cons_append] at *
    clear hgv hcl hnmo hru hro
    generalize mB8 (actT act) = at_ at *
    repeat' (first | (refine G_markb (id := 2) ?_) | refine G_seq ?_ | refine G_then_n ?_ | refine G_block ?_ | refine G_skip ?_ | refine G_cond_t rfl ?_ | refine G_cond_f rfl ?_ | (refine G_region (id := 4) ?_ <;> (try refine q_e (q_b (r := by exact rb_lss_t q_o)) ?_) <;> (try refine G_nil ?_)) | (refine G_region (id := 5) ?_ <;> (try refine q_e (by apply E_indexAddr; exact rfl; exact rfl; (focus (apply r_ixs Tryz.underlying30 sz_73; omega; omega; exact c_1))) ?_) <;> (try refine q_e (by apply E_loadA (t := 73); exact rfl; exact c_18; kernel_rfl; kernel_rfl; exact sz_73; (with_reducible assumption); (with_reducible assumption)) ?_) <;> (try refine G_op1 ?_; (refine K1_alloc (t := 73) rfl Tryz.zeroValue73 ?_; intro nb hnb; (try simp only [Value.cells]))) <;> (try refine G_op1 ?_; (refine q_W ?_)) <;> (try refine G_nil ?_)) | (refine G_region (id := 6) ?_ <;> (try refine q_m ?_) <;> (try refine q_e (q_f fo_73_0) ?_) <;> (try refine q_e q_l ?_) <;> (try refine G_op1 ?_; (refine q_c 31 (c := by apply hnu) (h := ?_); rintro _ _ ⟨j1, j2, rfl, rfl⟩; (try simp only [List.eraseIdx_cons_succ]); (try simp only [List.eraseIdx_cons_zero]))) <;> (try refine q_m ?_) <;> (try refine q_x ?_) <;> (try refine q_x ?_) <;> (try refine G_op1 ?_; (refine K1_alloc (t := 116) rfl Tryz.zeroValue116 ?_; intro nb hnb; (try simp only [Value.cells]))) <;> (try refine G_op1 ?_; (refine q_W ?_)) <;> (try refine q_a ?_) <;> (try refine G_nil ?_)) | (refine G_region (id := 7) ?_ <;> (try refine q_m ?_) <;> (try refine q_e (by apply E_un; exact rfl; exact ru_not_t) ?_) <;> (try refine G_nil ?_)) | ((refine G_regionHp (pre := [_, _, _]) (id := 9) (m := 9) rfl (by kernel_rfl) rfl ?_) <;> (try refine q_t 0 (e := c_10) (x := by exact q_f fo_116_1) (h := ?_)) <;> (try refine q_t 1 (e := c_10) (x := by exact q_l) (h := ?_)) <;> (try refine q_t 2 (e := c_10) (x := by exact q_b (r := by apply rb_stradd; exact rfl; (focus (omega)))) (h := ?_)) <;> (try refine q_t 3 (e := c_10) (x := by exact q_b (r := by apply rb_stradd; exact rfl; (focus (simp only [ByteArray.size_append]; omega)))) (h := ?_)) <;> (try refine q_t 4 (e := c_10) (x := by exact q_f fo_73_1) (h := ?_)) <;> (try refine q_t 5 (e := c_10) (x := by exact q_l) (h := ?_)) <;> (try refine q_r 6 ?_; (refine q_c 30 (c := by apply hat) (h := ?_); rintro _ _ ⟨rfl, rfl⟩; (try simp only [List.eraseIdx_cons_succ]); (try simp only [List.eraseIdx_cons_zero])); refine H_go c_10 ?_) <;> (try refine q_t 7 (e := c_10) (x := by exact q_b (r := by apply rb_stradd; exact rfl; (focus (simp only [ByteArray.size_append]; omega)))) (h := ?_)) <;> (try refine q_r 8 ?_; (refine q_c 29 (c := by apply hw) (h := ?_); rintro _ _ ⟨rfl, B1, hB1, rfl⟩; (try simp only [List.eraseIdx_cons_succ]); (try simp only [List.eraseIdx_cons_zero])); refine H_go c_10 ?_) <;> (try refine H_done (by kernel_rfl) ?_)) | (refine G_region (id := 10) ?_ <;> (try refine q_e (q_f fo_73_2) ?_) <;> (try refine q_e q_l ?_) <;> (try refine q_e (by apply E_builtin; exact rfl; exact (fun _ => BigFrame.builtin_len ..); apply r_len_slice_e Tryz.underlying71; exact c_19) ?_) <;> (try refine q_m ?_) <;> (try refine G_nil ?_)))
    refine ⟨?_⟩
    clear hnu hat hw hB het
    have hcT := cnT_le conds
    refine G_meetk (γ := List Blk) (fun B => BldI n5 (Z ++ (pfx ++ cnT 0 conds)) B) (fun _ => []) [(1, _), (2, _), (5, _), (27, _), (28, _), (29, _)]
      (fun B => ⟨true, n2, .cells #[.string (mB8 P.nm), .int .u32 P.df, .slice (some ⟨bb, off, none⟩) P.rules.length rc, .int .u16 (P.hd : Nat), .slice pa P.paths.length pc, .slice qa P.ports.length qc] 36 (0, 0)⟩ :: (B ++ (tbS ct j1 j2 (n + k + 1) ++ L))) (.cons rfl (.cons rfl (.cons rfl (.cons rfl (.cons rfl (.cons rfl .nil)))))) ?_ ?_
    · refine G_block ?_
      refine G_loopk (γ := Nat × List Blk) (fun g => g.1 ≤ conds.length ∧ BldI n5 (Z ++ (pfx ++ cnT 0 (conds.take g.1))) g.2) (fun g => conds.length - g.1) (fun g => [(59, .int .i64 (g.1 : Nat))]) [(1, _), (2, _), (5, _), (27, _), (28, _), (29, _), (57, _), (58, _)]
        (fun g => ⟨true, n2, .cells #[.string (mB8 P.nm), .int .u32 P.df, .slice (some ⟨bb, off, none⟩) P.rules.length rc, .int .u16 (P.hd : Nat), .slice pa P.paths.length pc, .slice qa P.ports.length qc] 36 (0, 0)⟩ :: (g.2 ++ (tbS ct j1 j2 (n + k + 1) ++ L))) (0, B1) (.cons rfl (.cons rfl (.cons rfl (.cons rfl (.cons rfl (.cons rfl (.cons rfl (.cons rfl .nil)))))))) ⟨Nat.zero_le _, by rw [List.take_zero, cnT, List.append_nil]; exact hB1⟩ (by (focus (repeat (first | exact Sub.nil | refine Sub.cons rfl ?_)))) (fun _ H => H.tail.tail) ?_
      clear hB1 B1 B hj
      rintro ⟨i, B⟩ ⟨hi, hB⟩
      dsimp only at hi hB
      simp only [List.cons_append, List.nil_append]
      unfold maxLen at hcml
      by_cases hit : i < conds.length
      · obtain ⟨j, q, bc, ofc, cs, T, fr, rfl, hj, hsz, hx⟩ := ((hcsl.upA (tbS ct j1 j2 (n + k + 1))).upA B).elem hit
        rw [cndC_at _ _ hit] at hx
        have hci := hcT i
        have hci2 := hcT (i + 1)
        rw [cnT_take conds i hit] at hci2
        have hzi : BldI n5 ((Z ++ (pfx ++ cnT 0 (conds.take i))) ++ (sepT i ++ cndT conds[i])) = BldI n5 (Z ++ (pfx ++ cnT 0 (conds.take (i + 1)))) := by
          rw [cnT_take conds i hit]
          simp only [List.append_assoc]
        have hct := fun (L : List Blk) => condtext_c (S := S) (w0 := w0) (L := L) conds[i] (hcok _ (List.getElem_mem hit)) (hrr _ (List.getElem_mem hit)).1 (hrr _ (List.getElem_mem hit)).2
        have hnl := cndT_ne conds[i]
        generalize conds[i] = cd at *
        simp only [List.length_append] at hci2
        have hw2 := fun (x y : Blk) (M : List Blk) => bldi_tp (S := S) (w0 := w0) [x, y] M hB c_30 (mB8 (sepT i) ++ mB8 (cndT cd)) _ (mB8_add _ _) c_30 c_30
        have hw3 := fun (x y z : Blk) (M : List Blk) => bldi_tp (S := S) (w0 := w0) [x, y, z] M hB c_30 (mB8 (sepT i) ++ mB8 (cndT cd)) _ (mB8_add _ _) c_30 c_30
        rw [hzi] at hw2 hw3
        have hzs : (mB8 (sepT i)).size ≤ 5 := by rw [mB8_size]; unfold sepT; split <;> simp
        have hzc : (mB8 (cndT cd)).size ≤ 60000 := by rw [mB8_size]; omega
        have hsep : (#[Value.string ⟨#[32, 105, 102, 32]⟩, .string ⟨#[32, 97, 110, 100, 32]⟩]).toList[(min (i : Int) 1).toNat]? = some (.string (mB8 (sepT i))) := by
          unfold sepT
          by_cases h0 : i = 0
          · subst h0; rfl
          · rw [if_neg h0, show (min (i : Int) 1).toNat = 1 by omega]; rfl
        obtain ⟨ca, co, cm, cv⟩ := cd
        dsimp only [List.cons_append, List.nil_append, Cnd.cells] at *
        generalize mB8 (sepT i) = ts at *
        generalize mB8 (cndT ⟨ca, co, cm, cv⟩) = tc at *
        clear hB hzi
        repeat' (first | refine G_seq ?_ | refine G_then_n ?_ | refine G_cut_n ?_ | refine G_blk_n ?_ | refine G_block ?_ | refine G_skip ?_ | refine G_cond_t rfl ?_ | (refine G_region (id := 11) ?_ <;> (try refine q_e (q_b (r := by exact rb_lss_t q_o)) ?_) <;> (try refine G_nil ?_)) | (refine G_region (id := 12) ?_ <;> (try refine q_m ?_) <;> (try refine q_e (by apply E_indexAddr; exact rfl; exact rfl; (focus (apply r_ixs Tryz.underlying71 sz_99; omega; omega; exact c_1))) ?_) <;> (try refine q_e (by apply E_loadA (t := 99); exact rfl; exact c_18; kernel_rfl; kernel_rfl; exact sz_99; (with_reducible assumption); (with_reducible assumption)) ?_) <;> (try refine G_op1 ?_; (refine K1_alloc (t := 99) rfl Tryz.zeroValue99 ?_; intro nb hnb; (try simp only [Value.cells]))) <;> (try refine q_a ?_) <;> (try refine G_op1 ?_; (refine q_W ?_)) <;> (try refine G_nil ?_)) | ((refine G_regionHp (pre := [_, _]) (id := 13) (m := 9) rfl (by kernel_rfl) rfl ?_) <;> (try refine q_t 1 (e := c_10) (x := by exact E_move rfl) (h := ?_)) <;> (try refine q_t 2 (e := c_10) (x := by exact E_builtin rfl (fun _ => BigFrame.builtin_min ..) r_min) (h := ?_)) <;> (try refine q_t 5 (e := c_10) (x := by exact q_L sz_99) (h := ?_)) <;> (try refine H_run2t (i := 0) (j := 6) rfl rfl (by kernel_rfl) ?_ ?_ <;> (first | (refine TagA.mk ?_; (((refine K1_buildSlice (t := 56) (m := 2) (e := 9) (fun vs => (match vs with | [(_, x0), (_, x1)] => [x0, x1] | _ => [])) rfl rfl (fun w => by kernel_rfl) ?_; intro nb hnb; (try simp only [Value.cells]); (try simp only [List.cons_append]); (try simp only [List.nil_append])); refine H_go c_8 ?_) <;> (try refine q_t 3 (e := c_8) (x := by apply E_indexAddr; exact rfl; exact rfl; (focus (apply r_ixs Tryz.underlying56 sz_9; omega; omega; exact c_1))) (h := ?_)) <;> (try refine H_run2t (i := 4) (j := 6) rfl rfl (by kernel_rfl) ?_ ?_ <;> (first | (refine TagA.mk ?_; (((refine q_k (by apply E_load1 (t := 9); exact rfl; exact fd0; kernel_rfl; kernel_rfl; (with_reducible assumption)) ?_); refine H_go c_8 ?_) <;> (try refine q_r 6 ?_; (refine q_c 33 (c := by apply hct) (h := ?_); rintro _ _ ⟨rfl, rfl⟩; (try simp only [List.eraseIdx_cons_succ]); (try simp only [List.eraseIdx_cons_zero])); refine H_go c_8 ?_) <;> (try refine q_t 7 (e := c_8) (x := by exact q_b (r := by apply rb_stradd; exact rfl; (focus (omega)))) (h := ?_)) <;> (try refine q_r 8 ?_; (refine q_c 29 (c := by apply hw3) (h := ?_); rintro _ _ ⟨rfl, B1, hB1, rfl⟩; (try simp only [List.eraseIdx_cons_succ]); (try simp only [List.eraseIdx_cons_zero])); refine H_go c_8 ?_) <;> (try refine H_done (by kernel_rfl) ?_))) | (refine TagB.mk ?_; (((refine q_c 33 (c := by apply hct) (h := ?_); rintro _ _ ⟨rfl, rfl⟩; (try simp only [List.eraseIdx_cons_succ]); (try simp only [List.eraseIdx_cons_zero])); refine H_go c_8 ?_) <;> (try refine q_r 4 ?_; (refine q_k (by apply E_load1 (t := 9); exact rfl; exact fd0; kernel_rfl; kernel_rfl; (with_reducible assumption)) ?_); refine H_go c_8 ?_) <;> (try refine q_t 7 (e := c_8) (x := by exact q_b (r := by apply rb_stradd; exact rfl; (focus (omega)))) (h := ?_)) <;> (try refine q_r 8 ?_; (refine q_c 29 (c := by apply hw3) (h := ?_); rintro _ _ ⟨rfl, B1, hB1, rfl⟩; (try simp only [List.eraseIdx_cons_succ]); (try simp only [List.eraseIdx_cons_zero])); refine H_go c_8 ?_) <;> (try refine H_done (by kernel_rfl) ?_))))))) | (refine TagB.mk ?_; (((refine q_c 33 (c := by apply hct) (h := ?_); rintro _ _ ⟨rfl, rfl⟩; (try simp only [List.eraseIdx_cons_succ]); (try simp only [List.eraseIdx_cons_zero])); refine H_go c_10 ?_) <;> (try refine q_r 0 ?_; (refine K1_buildSlice (t := 56) (m := 2) (e := 9) (fun vs => (match vs with | [(_, x0), (_, x1)] => [x0, x1] | _ => [])) rfl rfl (fun w => by kernel_rfl) ?_; intro nb hnb; (try simp only [Value.cells]); (try simp only [List.cons_append]); (try simp only [List.nil_append])); refine H_go c_8 ?_) <;> (try refine q_t 3 (e := c_8) (x := by apply E_indexAddr; exact rfl; exact rfl; (focus (apply r_ixs Tryz.underlying56 sz_9; omega; omega; exact c_1))) (h := ?_)) <;> (try refine q_r 4 ?_; (refine q_k (by apply E_load1 (t := 9); exact rfl; exact fd0; kernel_rfl; kernel_rfl; (with_reducible assumption)) ?_); refine H_go c_8 ?_) <;> (try refine q_t 7 (e := c_8) (x := by exact q_b (r := by apply rb_stradd; exact rfl; (focus (omega)))) (h := ?_)) <;> (try refine q_r 8 ?_; (refine q_c 29 (c := by apply hw3) (h := ?_); rintro _ _ ⟨rfl, B1, hB1, rfl⟩; (try simp only [List.eraseIdx_cons_succ]); (try simp only [List.eraseIdx_cons_zero])); refine H_go c_8 ?_) <;> (try refine H_done (by kernel_rfl) ?_)))))) | (refine G_region (id := 14) ?_ <;> (try refine q_e (q_b (r := by apply rb_add; exact c_5; (focus (refine IntWalk.i64_in _ ?_; omega)))) ?_) <;> (try refine q_m ?_) <;> (try refine G_nil ?_)))
        all_goals exact G_meet (i + 1, B1) ⟨⟨by show i + 1 ≤ conds.length; omega, hB1⟩, by show conds.length - (i + 1) < conds.length - i; omega⟩ (by (focus (repeat (first | exact Sub.nil | refine Sub.cons rfl ?_)))) (fun _ H => H.tail.tail)
      · obtain rfl : i = conds.length := by omega
        rw [List.take_length] at hB
        repeat' (first | refine G_seq ?_ | refine G_then_n ?_ | refine G_cut_n ?_ | refine G_cut_x ?_ | refine G_then_x ?_ | refine G_blk_x ?_ | refine G_exit ?_ | refine G_cond_f rfl ?_ | (refine G_region (id := 11) ?_ <;> (try refine q_e (q_b (r := by exact rb_lss_f q_o)) ?_) <;> (try refine G_nil ?_)))
        exact G_meet B hB (by (focus (repeat (first | exact Sub.nil | refine Sub.cons rfl ?_)))) (fun _ H => H)
    rintro B2 hB2
    simp only [List.cons_append, List.nil_append]
    have hw1 := fun (x : Blk) (M : List Blk) => bldi_tp (S := S) (w0 := w0) [x] M hB2 c_30 ⟨#[10]⟩ [10] rfl (by decide) (by decide)
    rw [show (Z ++ (pfx ++ cnT 0 conds)) ++ [10] = Z ++ (pfx ++ cnT 0 conds ++ [10]) by simp only [List.append_assoc]] at hw1
    rw [hzb'.out] at hw1
    dsimp only [List.cons_append, List.nil_append] at hw1
    clear hB2
    repeat' (first | refine G_then_n ?_ | refine G_cut_n ?_ | refine G_blk_n ?_ | (refine G_region (id := 15) ?_ <;> (try refine G_op1 ?_; (refine q_c 29 (c := by apply hw1) (h := ?_); rintro _ _ ⟨rfl, B3, hB3, rfl⟩; (try simp only [List.eraseIdx_cons_succ]); (try simp only [List.eraseIdx_cons_zero]))) <;> (try refine G_nil ?_)) | (refine G_region (id := 16) ?_ <;> (try refine q_e (q_b (r := by apply rb_add; exact c_5; (focus (refine IntWalk.i64_in _ ?_; omega)))) ?_) <;> (try refine q_m ?_) <;> (try refine G_nil ?_)))
    exact G_meet (k + 1, j1, j2, B3) ⟨⟨by show k + 1 ≤ P.rules.length; omega, hB3⟩, by show P.rules.length - (k + 1) < P.rules.length - k; omega⟩ (by (focus (repeat (first | exact Sub.nil | refine Sub.cons rfl ?_)))) (fun _ H => H)
  clear hB1 B1 hrs hrg hlh
  rintro ⟨k1, k2, B⟩ hB
  dsimp only at hB
  simp only [List.cons_append, List.nil_append]
  have hB0 : BldI n5 (lnsT (linA P)) B := hB
  clear hB
  have hlc0 := linC_len h hr 0
  have e0 : linC P 0 = linB P := by unfold linC; rw [List.take_zero, List.map_nil, List.append_nil]
  rw [e0] at hlc0
  repeat' (first | (refine G_markc (t := 78) ?_) | refine G_seq ?_ | refine G_then_n ?_ | (refine G_region (id := 17) ?_ <;> (try refine q_e (q_f fo_36_3) ?_) <;> (try refine q_e q_l ?_) <;> (try refine q_e (q_b (r := by exact rb_neq)) ?_) <;> (try refine G_nil ?_)))
  refine ⟨?_⟩
  refine G_meetk (γ := List Blk) (fun B => BldI n5 (lnsT (linB P)) B) (fun _ => []) [(2, _), (5, _)]
    (fun B => ⟨true, n2, .cells #[.string (mB8 P.nm), .int .u32 P.df, .slice ra P.rules.length rc, .int .u16 (P.hd : Nat), .slice pa P.paths.length pc, .slice qa P.ports.length qc] 36 (0, 0)⟩ :: (B ++ (tbS ct k1 k2 (n + P.rules.length) ++ L))) (.cons rfl (.cons rfl .nil)) ?_ ?_
  · by_cases h0 : P.hd ≠ 0
    · have ehl : lnsT (linB P) = lnsT (linA P) ++ lnsT [[wN tHandle, wN (rgT P.hd)]] := by
        unfold linB hanL
        rw [if_pos h0, lnsT_app]
      rw [ehl, List.length_append] at hlc0
      have hrt := fun (L : List Blk) => Rg.text_c (S := S) (w0 := w0) (L := L) P.hd (by have h1 := h.hd; have h2 := Nat.and_le_right (n := P.hd) (m := 51199); omega)
      have hrl := (rg_ok h0 h.hd).2
      have hzt : (Rg.textF P.hd).size ≤ 320 := by rw [← lB_len]; exact hrl
      have d1 : (⟨#[104, 97, 110, 100, 108, 101, 32]⟩ : ByteArray).size = 7 := rfl
      have het : ((⟨#[104, 97, 110, 100, 108, 101, 32]⟩ : ByteArray) ++ Rg.textF P.hd) ++ (⟨#[10]⟩ : ByteArray) = mB8 (lnsT [[wN tHandle, wN (rgT P.hd)]]) := by
        rw [hanT_eq, ← mB8_lB (Rg.textF P.hd), show (⟨#[104, 97, 110, 100, 108, 101, 32]⟩ : ByteArray) = mB8 [104, 97, 110, 100, 108, 101, 32] from rfl, show (⟨#[10]⟩ : ByteArray) = mB8 [10] from rfl]
        simp only [mB8_add, List.append_assoc]
        rfl
      have hw := fun (x : Blk) (M : List Blk) => bldi_tp (S := S) (w0 := w0) [x] M hB0 (by omega) _ _ het (by omega) (by rw [hanT_eq]; simp)
      rw [← ehl] at hw
      dsimp only [List.cons_append, List.nil_append] at hw
      clear het ehl hB0
      generalize Rg.textF P.hd = rt at *
      refine G_cond_d rfl (fun _ => ?_) (fun hn => (by omega : False).elim)
      repeat' (first | refine G_cut_n ?_ | (refine G_region (id := 18) ?_ <;> (try refine q_e (q_f fo_36_3) ?_) <;> (try refine q_e q_l ?_) <;> (try refine G_op1 ?_; (refine q_c 34 (c := by apply hrt) (h := ?_); rintro _ _ ⟨rfl, rfl⟩; (try simp only [List.eraseIdx_cons_succ]); (try simp only [List.eraseIdx_cons_zero]))) <;> (try refine q_e (q_b (r := by apply rb_stradd; exact rfl; (focus (omega)))) ?_) <;> (try refine q_e (q_b (r := by apply rb_stradd; exact rfl; (focus (simp only [ByteArray.size_append]; omega)))) ?_) <;> (try refine G_op1 ?_; (refine q_c 29 (c := by apply hw) (h := ?_); rintro _ _ ⟨rfl, B1, hB1, rfl⟩; (try simp only [List.eraseIdx_cons_succ]); (try simp only [List.eraseIdx_cons_zero]))) <;> (try refine G_nil ?_)))
      exact G_meet B1 hB1 (by (focus (repeat (first | exact Sub.nil | refine Sub.cons rfl ?_)))) (fun _ H => H)
    · have ehl : linB P = linA P := by
        unfold linB hanL
        rw [if_neg h0, List.append_nil]
      rw [← ehl] at hB0
      refine G_cond_d rfl (fun hn => (by omega : False).elim) (fun _ => ?_)
      repeat' (first | refine G_cut_n ?_ | refine G_skip ?_)
      exact G_meet B hB0 (by (focus (repeat (first | exact Sub.nil | refine Sub.cons rfl ?_)))) (fun _ H => H)
  clear hB0 hlc0 B
  rintro B hB
  rw [← e0] at hB
  clear e0
  simp only [List.cons_append, List.nil_append]
  repeat' (first | (refine G_markb (id := 4) ?_) | refine G_seq ?_ | refine G_then_n ?_ | (refine G_region (id := 19) ?_ <;> (try refine q_e (q_f fo_36_4) ?_) <;> (try refine q_e q_l ?_) <;> (try refine q_e (by apply E_builtin; exact rfl; exact (fun _ => BigFrame.builtin_len ..); apply r_len_slice_e Tryz.underlying33; exact c_19) ?_) <;> (try refine q_m ?_) <;> (try refine G_nil ?_)))
  refine ⟨?_⟩
  have hl2 := h.l2
  have hl3 := h.l3
  refine G_meetk (γ := List Blk) (fun B => BldI n5 (lnsT (linC P P.paths.length)) B) (fun _ => []) [(2, _), (5, _)]
    (fun B => ⟨true, n2, .cells #[.string (mB8 P.nm), .int .u32 P.df, .slice ra P.rules.length rc, .int .u16 (P.hd : Nat), .slice pa P.paths.length pc, .slice qa P.ports.length qc] 36 (0, 0)⟩ :: (B ++ (tbS ct k1 k2 (n + P.rules.length) ++ L))) (.cons rfl (.cons rfl .nil)) ?_ ?_
  · refine G_block ?_
    refine G_loopk (γ := Nat × List Blk) (fun g => g.1 ≤ P.paths.length ∧ BldI n5 (lnsT (linC P g.1)) g.2) (fun g => P.paths.length - g.1) (fun g => [(88, .int .i64 (g.1 : Nat))]) [(2, _), (5, _), (86, _), (87, _)]
      (fun g => ⟨true, n2, .cells #[.string (mB8 P.nm), .int .u32 P.df, .slice ra P.rules.length rc, .int .u16 (P.hd : Nat), .slice pa P.paths.length pc, .slice qa P.ports.length qc] 36 (0, 0)⟩ :: (g.2 ++ (tbS ct k1 k2 (n + P.rules.length) ++ L))) (0, B) (.cons rfl (.cons rfl (.cons rfl (.cons rfl .nil)))) ⟨Nat.zero_le _, hB⟩ (by (focus (repeat (first | exact Sub.nil | refine Sub.cons rfl ?_)))) (fun _ H => H) ?_
    clear hB B
    rintro ⟨k, B⟩ ⟨hk, hB⟩
    dsimp only at hk hB
    simp only [List.cons_append, List.nil_append]
    by_cases hlt : k < P.paths.length
    case neg =>
      obtain rfl : k = P.paths.length := by omega
      repeat' (first | refine G_seq ?_ | refine G_then_n ?_ | refine G_cut_n ?_ | refine G_cut_x ?_ | refine G_then_x ?_ | refine G_blk_x ?_ | refine G_exit ?_ | refine G_cond_f rfl ?_ | (refine G_region (id := 20) ?_ <;> (try refine q_e (q_b (r := by exact rb_lss_f q_o)) ?_) <;> (try refine G_nil ?_)))
      exact G_meet B hB (by (focus (repeat (first | exact Sub.nil | refine Sub.cons rfl ?_)))) (fun _ H => H)
    obtain ⟨j, q, bb, off, cs, T, fr, rfl, hj, hsz, hx⟩ := ((hps.upA (tbS ct k1 k2 (n + P.rules.length))).upA B).elem hlt
    rw [show pthC P.g.paths = pthC P.paths from rfl, pthC_at _ _ hlt] at hx
    obtain ⟨g1, g2, g3, g4⟩ := h.paths _ (List.getElem_mem hlt)
    have hpl := (wP_ok g1).2
    have hrl := (rg_ok g2 (and_sub g3 h.hd)).2
    have hn6 : P.paths[k].2 < 65536 := by have h2 := Nat.and_le_right (n := P.paths[k].2) (m := 2047); omega
    have hrt := fun (L : List Blk) => Rg.text_c (S := S) (w0 := w0) (L := L) P.paths[k].2 hn6
    have hlc := linC_len h hr (k + 1)
    have ehl : lnsT (linC P (k + 1)) = lnsT (linC P k) ++ (spcL (benL P.paths[k]) ++ [10]) := by
      unfold linC
      rw [List.take_succ_eq_append_getElem hlt, List.map_append, ← List.append_assoc]
      exact lnsT_snoc _ _
    rw [ehl, List.length_append] at hlc
    have hzt : (Rg.textF P.paths[k].2).size ≤ 320 := by rw [← lB_len]; exact hrl
    have hzp : (mB8 P.paths[k].1).size ≤ 120 := by rw [mB8_size]; exact hpl
    have d1 : (⟨#[98, 101, 110, 101, 97, 116, 104, 32]⟩ : ByteArray).size = 8 := rfl
    have d2 : (⟨#[32]⟩ : ByteArray).size = 1 := rfl
    have het : ((((⟨#[98, 101, 110, 101, 97, 116, 104, 32]⟩ : ByteArray) ++ mB8 P.paths[k].1) ++ (⟨#[32]⟩ : ByteArray)) ++ Rg.textF P.paths[k].2) ++ (⟨#[10]⟩ : ByteArray) = mB8 (spcL (benL P.paths[k]) ++ [10]) := by
      rw [benT_eq, ← mB8_lB (Rg.textF P.paths[k].2), show (⟨#[98, 101, 110, 101, 97, 116, 104, 32]⟩ : ByteArray) = mB8 [98, 101, 110, 101, 97, 116, 104, 32] from rfl, show (⟨#[32]⟩ : ByteArray) = mB8 [32] from rfl, show (⟨#[10]⟩ : ByteArray) = mB8 [10] from rfl]
      simp only [mB8_add, List.append_assoc]
      rfl
    have hw := fun (x y : Blk) (M : List Blk) => bldi_tp (S := S) (w0 := w0) [x, y] M hB (by omega) _ _ het (by omega) (by rw [List.length_append]; simp)
    rw [← ehl] at hw
    dsimp only [List.cons_append, List.nil_append] at hw
    clear het ehl hB hlc g1 g2 g3 g4 hrl hpl
    generalize Rg.textF P.paths[k].2 = rt at *
    generalize P.paths[k] = p at *
    obtain ⟨pt, pr⟩ := p
    dsimp only at *
    generalize mB8 pt = bt at *
    repeat' (first | refine G_seq ?_ | refine G_then_n ?_ | refine G_cut_n ?_ | refine G_blk_n ?_ | refine G_block ?_ | refine G_skip ?_ | refine G_cond_t rfl ?_ | (refine G_region (id := 20) ?_ <;> (try refine q_e (q_b (r := by exact rb_lss_t q_o)) ?_) <;> (try refine G_nil ?_)) | (refine G_region (id := 21) ?_ <;> (try refine q_e (by apply E_indexAddr; exact rfl; exact rfl; (focus (apply r_ixs Tryz.underlying33 sz_104; omega; omega; exact c_1))) ?_) <;> (try refine q_e (by apply E_loadA (t := 104); exact rfl; exact c_18; kernel_rfl; kernel_rfl; exact sz_104; (with_reducible assumption); (with_reducible assumption)) ?_) <;> (try refine G_op1 ?_; (refine K1_alloc (t := 104) rfl Tryz.zeroValue104 ?_; intro nb hnb; (try simp only [Value.cells]))) <;> (try refine G_op1 ?_; (refine q_W ?_)) <;> (try refine G_nil ?_)) | ((refine G_regionHp (pre := [_, _]) (id := 22) (m := 10) rfl (by kernel_rfl) rfl ?_) <;> (try refine q_t 0 (e := c_10) (x := by exact q_f fo_104_0) (h := ?_)) <;> (try refine q_t 1 (e := c_10) (x := by exact q_l) (h := ?_)) <;> (try refine q_t 2 (e := c_10) (x := by exact q_b (r := by apply rb_stradd; exact rfl; (focus (omega)))) (h := ?_)) <;> (try refine q_t 3 (e := c_10) (x := by exact q_b (r := by apply rb_stradd; exact rfl; (focus (simp only [ByteArray.size_append]; omega)))) (h := ?_)) <;> (try refine q_t 4 (e := c_10) (x := by exact q_f fo_104_1) (h := ?_)) <;> (try refine q_t 5 (e := c_10) (x := by exact q_l) (h := ?_)) <;> (try refine q_r 6 ?_; (refine q_c 34 (c := by apply hrt) (h := ?_); rintro _ _ ⟨rfl, rfl⟩; (try simp only [List.eraseIdx_cons_succ]); (try simp only [List.eraseIdx_cons_zero])); refine H_go c_10 ?_) <;> (try refine q_t 7 (e := c_10) (x := by exact q_b (r := by apply rb_stradd; exact rfl; (focus (simp only [ByteArray.size_append]; omega)))) (h := ?_)) <;> (try refine q_t 8 (e := c_10) (x := by exact q_b (r := by apply rb_stradd; exact rfl; (focus (simp only [ByteArray.size_append]; omega)))) (h := ?_)) <;> (try refine q_r 9 ?_; (refine q_c 29 (c := by apply hw) (h := ?_); rintro _ _ ⟨rfl, B1, hB1, rfl⟩; (try simp only [List.eraseIdx_cons_succ]); (try simp only [List.eraseIdx_cons_zero])); refine H_go c_10 ?_) <;> (try refine H_done (by kernel_rfl) ?_)) | (refine G_region (id := 23) ?_ <;> (try refine q_e (q_b (r := by apply rb_add; exact c_5; (focus (refine IntWalk.i64_in _ ?_; omega)))) ?_) <;> (try refine q_m ?_) <;> (try refine G_nil ?_)))
    exact G_meet (k + 1, B1) ⟨⟨by show k + 1 ≤ P.paths.length; omega, hB1⟩, by show P.paths.length - (k + 1) < P.paths.length - k; omega⟩ (by (focus (repeat (first | exact Sub.nil | refine Sub.cons rfl ?_)))) (fun _ H => H.tail)
  clear hB B
  rintro B hB
  have e0 : linD P 0 = linC P P.paths.length := by unfold linD; rw [List.take_zero, List.map_nil, List.append_nil]
  rw [← e0] at hB
  clear e0
  simp only [List.cons_append, List.nil_append]
  repeat' (first | (refine G_markb (id := 6) ?_) | refine G_seq ?_ | refine G_then_n ?_ | (refine G_region (id := 24) ?_ <;> (try refine q_e (q_f fo_36_5) ?_) <;> (try refine q_e q_l ?_) <;> (try refine q_e (by apply E_builtin; exact rfl; exact (fun _ => BigFrame.builtin_len ..); apply r_len_slice_e Tryz.underlying34; exact c_19) ?_) <;> (try refine q_m ?_) <;> (try refine G_nil ?_)))
  refine ⟨?_⟩
  refine G_meetk (γ := List Blk) (fun B => BldI n5 (lnsT (linD P P.ports.length)) B) (fun _ => []) [(5, _)]
    (fun B => B ++ (tbS ct k1 k2 (n + P.rules.length) ++ L)) (.cons rfl .nil) ?_ ?_
  · refine G_block ?_
    refine G_loopk (γ := Nat × List Blk) (fun g => g.1 ≤ P.ports.length ∧ BldI n5 (lnsT (linD P g.1)) g.2) (fun g => P.ports.length - g.1) (fun g => [(106, .int .i64 (g.1 : Nat))]) [(5, _), (104, _), (105, _)]
      (fun g => ⟨true, n2, .cells #[.string (mB8 P.nm), .int .u32 P.df, .slice ra P.rules.length rc, .int .u16 (P.hd : Nat), .slice pa P.paths.length pc, .slice qa P.ports.length qc] 36 (0, 0)⟩ :: (g.2 ++ (tbS ct k1 k2 (n + P.rules.length) ++ L))) (0, B) (.cons rfl (.cons rfl (.cons rfl .nil))) ⟨Nat.zero_le _, hB⟩ (by (focus (repeat (first | exact Sub.nil | refine Sub.cons rfl ?_)))) (fun _ H => H) ?_
    clear hB B
    rintro ⟨k, B⟩ ⟨hk, hB⟩
    dsimp only at hk hB
    simp only [List.cons_append, List.nil_append]
    by_cases hlt : k < P.ports.length
    case neg =>
      obtain rfl : k = P.ports.length := by omega
      repeat' (first | refine G_seq ?_ | refine G_then_n ?_ | refine G_cut_n ?_ | refine G_cut_x ?_ | refine G_then_x ?_ | refine G_blk_x ?_ | refine G_exit ?_ | refine G_cond_f rfl ?_ | (refine G_region (id := 25) ?_ <;> (try refine q_e (q_b (r := by exact rb_lss_f q_o)) ?_) <;> (try refine G_nil ?_)))
      exact G_meet B hB (by (focus (repeat (first | exact Sub.nil | refine Sub.cons rfl ?_)))) (fun _ H => H.tail)
    obtain ⟨j, q, bb, off, cs, T, fr, rfl, hj, hsz, hx⟩ := ((hqs.upA (tbS ct k1 k2 (n + P.rules.length))).upA B).elem hlt
    rw [show porC P.g.ports = porC P.ports from rfl, porC_at _ _ hlt] at hx
    obtain ⟨g1, g2, g3, g4⟩ := h.ports _ (List.getElem_mem hlt)
    have hpl := d20 (n := P.ports[k].1) (by omega)
    have hrl := (rg_ok g2 (and_sub g3 h.hd)).2
    have hn6 : P.ports[k].2 < 65536 := by have h2 := Nat.and_le_right (n := P.ports[k].2) (m := 49152); omega
    have hrt := fun (L : List Blk) => Rg.text_c (S := S) (w0 := w0) (L := L) P.ports[k].2 hn6
    have hpr := fun (L : List Blk) => printed_c P.ports[k].1 (by omega) S w0 L
    have hlc := linD_len h hr (k + 1)
    have ehl : lnsT (linD P (k + 1)) = lnsT (linD P k) ++ (spcL (porL P.ports[k]) ++ [10]) := by
      unfold linD
      rw [List.take_succ_eq_append_getElem hlt, List.map_append, ← List.append_assoc]
      exact lnsT_snoc _ _
    rw [ehl, List.length_append] at hlc
    have hzt : (Rg.textF P.ports[k].2).size ≤ 320 := by rw [← lB_len]; exact hrl
    have hzp : (mB8 (decF P.ports[k].1)).size ≤ 20 := by rw [mB8_size]; exact hpl
    have d1 : (⟨#[112, 111, 114, 116, 32]⟩ : ByteArray).size = 5 := rfl
    have d2 : (⟨#[32]⟩ : ByteArray).size = 1 := rfl
    have het : ((((⟨#[112, 111, 114, 116, 32]⟩ : ByteArray) ++ mB8 (decF P.ports[k].1)) ++ (⟨#[32]⟩ : ByteArray)) ++ Rg.textF P.ports[k].2) ++ (⟨#[10]⟩ : ByteArray) = mB8 (spcL (porL P.ports[k]) ++ [10]) := by
      rw [porT_eq, ← mB8_lB (Rg.textF P.ports[k].2), show (⟨#[112, 111, 114, 116, 32]⟩ : ByteArray) = mB8 [112, 111, 114, 116, 32] from rfl, show (⟨#[32]⟩ : ByteArray) = mB8 [32] from rfl, show (⟨#[10]⟩ : ByteArray) = mB8 [10] from rfl]
      simp only [mB8_add, List.append_assoc]
      rfl
    have hw := fun (x y : Blk) (M : List Blk) => bldi_tp (S := S) (w0 := w0) [x, y] M hB (by omega) _ _ het (by omega) (by rw [List.length_append]; simp)
    rw [← ehl] at hw
    dsimp only [List.cons_append, List.nil_append] at hw
    clear het ehl hB hlc g2 g3 g4 hrl hpl
    generalize Rg.textF P.ports[k].2 = rt at *
    generalize P.ports[k] = p at *
    obtain ⟨pt, pr⟩ := p
    dsimp only at *
    generalize mB8 (decF pt) = bt at *
    repeat' (first | refine G_seq ?_ | refine G_then_n ?_ | refine G_cut_n ?_ | refine G_blk_n ?_ | refine G_block ?_ | refine G_skip ?_ | refine G_cond_t rfl ?_ | (refine G_region (id := 25) ?_ <;> (try refine q_e (q_b (r := by exact rb_lss_t q_o)) ?_) <;> (try refine G_nil ?_)) | (refine G_region (id := 26) ?_ <;> (try refine q_e (by apply E_indexAddr; exact rfl; exact rfl; (focus (apply r_ixs Tryz.underlying34 sz_106; omega; omega; exact c_1))) ?_) <;> (try refine q_e (by apply E_loadA (t := 106); exact rfl; exact c_18; kernel_rfl; kernel_rfl; exact sz_106; (with_reducible assumption); (with_reducible assumption)) ?_) <;> (try refine G_op1 ?_; (refine K1_alloc (t := 106) rfl Tryz.zeroValue106 ?_; intro nb hnb; (try simp only [Value.cells]))) <;> (try refine G_op1 ?_; (refine q_W ?_)) <;> (try refine G_nil ?_)) | ((refine G_regionHp (pre := [_, _]) (id := 27) (m := 12) rfl (by kernel_rfl) rfl ?_) <;> (try refine q_t 0 (e := c_10) (x := by exact q_f fo_106_0) (h := ?_)) <;> (try refine q_t 1 (e := c_10) (x := by exact q_l) (h := ?_)) <;> (try refine q_t 2 (e := c_10) (x := by apply E_conv; exact rfl; (focus (apply r_conv Tryz.underlying31 Tryz.underlying97; first | (refine IntWalk.i64_in _ ?_; omega) | (refine IntWalk.u8_in _ ?_; omega) | (refine IntWalk.u16_in _ ?_; omega) | (refine IntWalk.u32_in _ ?_; omega) | (refine IntWalk.u64_in _ ?_; omega) | (refine IntWalk.i32_in _ ?_; omega) | exact rfl))) (h := ?_)) <;> (try refine q_t 6 (e := c_10) (x := by exact q_f fo_106_1) (h := ?_)) <;> (try refine q_t 7 (e := c_10) (x := by exact q_l) (h := ?_)) <;> (try refine q_r 3 ?_; (refine q_c 32 (c := by apply hpr) (h := ?_); rintro _ _ ⟨rfl, rfl⟩; (try simp only [List.eraseIdx_cons_succ]); (try simp only [List.eraseIdx_cons_zero])); refine H_go c_10 ?_) <;> (try refine q_t 4 (e := c_10) (x := by exact q_b (r := by apply rb_stradd; exact rfl; (focus (omega)))) (h := ?_)) <;> (try refine q_t 5 (e := c_10) (x := by exact q_b (r := by apply rb_stradd; exact rfl; (focus (simp only [ByteArray.size_append]; omega)))) (h := ?_)) <;> (try refine q_r 8 ?_; (refine q_c 34 (c := by apply hrt) (h := ?_); rintro _ _ ⟨rfl, rfl⟩; (try simp only [List.eraseIdx_cons_succ]); (try simp only [List.eraseIdx_cons_zero])); refine H_go c_10 ?_) <;> (try refine q_t 9 (e := c_10) (x := by exact q_b (r := by apply rb_stradd; exact rfl; (focus (simp only [ByteArray.size_append]; omega)))) (h := ?_)) <;> (try refine q_t 10 (e := c_10) (x := by exact q_b (r := by apply rb_stradd; exact rfl; (focus (simp only [ByteArray.size_append]; omega)))) (h := ?_)) <;> (try refine q_r 11 ?_; (refine q_c 29 (c := by apply hw) (h := ?_); rintro _ _ ⟨rfl, B1, hB1, rfl⟩; (try simp only [List.eraseIdx_cons_succ]); (try simp only [List.eraseIdx_cons_zero])); refine H_go c_10 ?_) <;> (try refine H_done (by kernel_rfl) ?_)) | (refine G_region (id := 28) ?_ <;> (try refine q_e (q_b (r := by apply rb_add; exact c_5; (focus (refine IntWalk.i64_in _ ?_; omega)))) ?_) <;> (try refine q_m ?_) <;> (try refine G_nil ?_)))
    exact G_meet (k + 1, B1) ⟨⟨by show k + 1 ≤ P.ports.length; omega, hB1⟩, by show P.ports.length - (k + 1) < P.ports.length - k; omega⟩ (by (focus (repeat (first | exact Sub.nil | refine Sub.cons rfl ?_)))) (fun _ H => H.tail)
  clear hB B
  rintro B hB
  rw [linD_all] at hB
  simp only [List.cons_append, List.nil_append]
  have hst := fun (M : List Blk) => bldi_s (S := S) (w0 := w0) (L := M) hB (by have := (polL_ok P h hr).2; unfold polT at this; omega)
  clear hB
  repeat' (first | refine G_seq ?_ | refine G_then_n ?_ | refine G_ret ?_ | (refine G_region (id := 29) ?_ <;> (try refine G_op1 ?_; (refine q_c 35 (c := by apply hst) (h := ?_); rintro _ _ ⟨rfl, rfl⟩; (try simp only [List.eraseIdx_cons_succ]); (try simp only [List.eraseIdx_cons_zero]))) <;> (try refine q_a ?_) <;> (try refine G_nil ?_)))
  (refine G_done Tryz.results13 (.tmp rfl .nil) ?_)
  exact ⟨_, ⟨k1, k2, rfl, rfl⟩, fun _ H => H⟩
end Go.Proofs.YtecbgehooembmaaGreatDoor
namespace Go.Proofs.YtecbgehooembmaaGreatDoor
open Go Go.RowKit
def PrE (pb ct rb n : Nat) (L0 M : List Blk) : Prop := ∃ m1 m2 o, M = prB pb ct rb :: (tbS ct m1 m2 n ++ (Rg.wst rb o ++ L0))
theorem PrE.up {pb ct rb n : Nat} {L0 M : List Blk} (h : PrE pb ct rb n L0 M) : ∃ T, M = prB pb ct rb :: T ∧ EnS ct rb n L0 T := by
  obtain ⟨m1, m2, o, rfl⟩ := h
  exact ⟨_, rfl, m1, m2, o, rfl⟩
theorem PrE.sub {pb ct rb n : Nat} {L0 M : List Blk} (h : PrE pb ct rb n L0 M) : L0.Sublist M := by
  obtain ⟨m1, m2, o, rfl⟩ := h
  exact List.Sublist.cons _ ((List.sublist_append_right _ _).trans (List.sublist_append_right _ _))
theorem new_x {S w0 L} : Fn Tryz.prog 9 #[] S w0 L fun v L' => ∃ pb ct rb, v = .pointer (some ⟨pb, 0, none⟩) ∧ PrE pb ct rb 0 L L' := by
  refine (new_p (S := S) (w0 := w0) (L := L)).mono ?_
  rintro v L' ⟨pb, ct, rb, T, rfl, ⟨m1, m2, o, rfl⟩, rfl⟩
  exact ⟨_, ⟨pb, ct, rb, rfl, m1, m2, o, rfl⟩, fun _ H => H⟩
theorem calls_x {S w0} (B : List Blk) {pb ct rb n : Nat} {L0 M : List Blk} (h : PrE pb ct rb n L0 M) : Fn Tryz.prog 11 #[.pointer (some ⟨pb, 0, none⟩)] S w0 (B ++ M) fun v L' => v = .pointer (some ⟨ct, 0, none⟩) ∧ B ++ M = L' := by
  obtain ⟨m1, m2, o, rfl⟩ := h
  refine Fn.weak (fun w H => HP.swapA (e := B) [_] H) ((calls_p (S := S) (w0 := w0) (L := B ++ (tbS ct m1 m2 n ++ (Rg.wst rb o ++ L0))) pb ct rb).mono ?_)
  rintro v L' ⟨rfl, rfl⟩
  exact ⟨_, ⟨rfl, rfl⟩, fun w H => HP.swapA (e := [_]) B H⟩
theorem parse_x {S w0} (B : List Blk) {pb ct rb n : Nat} {L0 M : List Blk} (h : PrE pb ct rb n L0 M) (hn : n ≤ 90000) (s : ByteArray) (hs : s.size ≤ 1000000) :
    Fn Tryz.prog 10 #[.pointer (some ⟨pb, 0, none⟩), .string s] S w0 (B ++ M) fun v L' => ∃ (d : PoD) (n' : Nat) (M' : List Blk), v = tupleOf [.agg (polC (polF (lB s)).1 d.vr d.vp d.vq).toArray, .agg (wrA (polF (lB s)).2).toArray] ∧ d.ok (polF (lB s)).1 ∧ n' ≤ n + 65 ∧ PrE pb ct rb n' L0 M' ∧ B ++ (d.blocks ++ M') = L' := by
  obtain ⟨T, rfl, hT⟩ := h.up
  obtain ⟨T2, hT2, hput⟩ := hT.put (S := S) (w0 := w0) B
  refine Fn.weak (fun w H => hput w [_] (HP.swapA (e := B) [_] H)) ((parse_c (S := S) (w0 := w0) pb ct rb n (B ++ L0) T2 hn hT2 s hs).mono ?_)
  rintro v L' ⟨d, n', T', rfl, hd, hn', hT', rfl⟩
  obtain ⟨T3, ⟨m1, m2, o, rfl⟩, hget⟩ := hT'.get (S := S) (w0 := w0) B
  refine ⟨_, ⟨d, n', _, rfl, hd, hn', ⟨m1, m2, o, rfl⟩, rfl⟩, fun w H => ?_⟩
  have H2 := hget w ([prB pb ct rb] ++ d.blocks) (by rw [List.append_assoc]; exact H)
  exact HP.re2 (env := [[prB pb ct rb], d.blocks, B, tbS ct m1 m2 n', Rg.wst rb o, L0]) [0, 1, 2, 3, 4, 5] [2, 1, 0, 3, 4, 5] (by decide) (by simp [flatB]) rfl H2
theorem check_x {S w0} (B : List Blk) {pb ct rb n : Nat} {L0 M : List Blk} (h : PrE pb ct rb n L0 M) (hn : n ≤ 90000) (P : GPol) (hP : P.ok) (vr vp vq : Value) (hS : PolS (B ++ L0) P vr vp vq) (hr : P.rules.length ≤ 1000) :
    Fn Tryz.prog 17 #[.agg (polG P vr vp vq).toArray, .pointer (some ⟨ct, 0, none⟩)] S w0 (B ++ M) fun v L' => ∃ n' M', v = .int .i64 (chkG P : Nat) ∧ n' ≤ n + P.rules.length ∧ PrE pb ct rb n' L0 M' ∧ B ++ M' = L' := by
  obtain ⟨m1, m2, o, rfl⟩ := h
  refine Fn.weak (fun w H => HP.re2 (env := [B, [prB pb ct rb], tbS ct m1 m2 n, Rg.wst rb o, L0]) [0, 1, 2, 3, 4] [2, 1, 3, 0, 4] (by decide) rfl rfl H) ((check_c (S := S) (w0 := w0) (L := (prB pb ct rb :: Rg.wst rb o) ++ (B ++ L0)) P hP vr vp vq (hS.upA _) hr ct m1 m2 n hn).mono ?_)
  rintro v L' ⟨k1, k2, n', rfl, hn', rfl⟩
  exact ⟨_, ⟨n', _, rfl, hn', ⟨k1, k2, o, rfl⟩, rfl⟩, fun w H => HP.re2 (env := [B, [prB pb ct rb], tbS ct k1 k2 n', Rg.wst rb o, L0]) [2, 1, 3, 0, 4] [0, 1, 2, 3, 4] (by decide) rfl rfl H⟩
theorem text_x {S w0} (B : List Blk) {pb ct rb n : Nat} {L0 M : List Blk} (h : PrE pb ct rb n L0 M) (hn : n ≤ 90000) (P : Pol) (hP : PolOk P) (hR : PolRn P) (vr vp vq : Value) (hS : PolS (B ++ L0) P.g vr vp vq) :
    Fn Tryz.prog 13 #[.agg (polC P vr vp vq).toArray, .pointer (some ⟨ct, 0, none⟩)] S w0 (B ++ M) fun v L' => ∃ M', v = .string (mB8 (polT P)) ∧ PrE pb ct rb (n + P.rules.length) L0 M' ∧ B ++ M' = L' := by
  obtain ⟨m1, m2, o, rfl⟩ := h
  refine Fn.weak (fun w H => HP.re2 (env := [B, [prB pb ct rb], tbS ct m1 m2 n, Rg.wst rb o, L0]) [0, 1, 2, 3, 4] [2, 1, 3, 0, 4] (by decide) rfl rfl H) ((ptext_c (S := S) (w0 := w0) (L := (prB pb ct rb :: Rg.wst rb o) ++ (B ++ L0)) P hP hR vr vp vq (hS.upA _) ct m1 m2 n hn).mono ?_)
  rintro v L' ⟨k1, k2, rfl, rfl⟩
  exact ⟨_, ⟨_, rfl, ⟨k1, k2, o, rfl⟩, rfl⟩, fun w H => HP.re2 (env := [B, [prB pb ct rb], tbS ct k1 k2 (n + P.rules.length), Rg.wst rb o, L0]) [2, 1, 3, 0, 4] [0, 1, 2, 3, 4] (by decide) rfl rfl H⟩
end Go.Proofs.YtecbgehooembmaaGreatDoor
namespace Go.Proofs.YtecbgehooembmaaGreatDoor
open Go Go.RowKit
inductive Tl : List Blk → List Blk → List Blk → Prop
  | nil (M : List Blk) : Tl M [] M
  | one (e M : List Blk) : Tl (e ++ M) e M
  | cons {R B M : List Blk} (x : Blk) (h : Tl R B M) : Tl (x :: R) (x :: B) M
  | app {R B M : List Blk} (e : List Blk) (h : Tl R B M) : Tl (e ++ R) (e ++ B) M
theorem Tl.eq {L B M : List Blk} (h : Tl L B M) : L = B ++ M := by
  induction h with
  | nil => rfl
  | one => rfl
  | cons x _ ih => rw [ih]; rfl
  | app e _ ih => rw [ih, List.append_assoc]
theorem psame_z {S w0 L} (r p q : Option Addr) (r3 p3 q3 : Nat) : Fn Tryz.prog 14 #[.agg #[.string ⟨#[]⟩, .int .u32 0, .slice r 0 r3, .int .u16 0, .slice p 0 p3, .slice q 0 q3], .agg #[.string ⟨#[]⟩, .int .u32 0, .slice none 0 0, .int .u16 0, .slice none 0 0, .slice none 0 0]] S w0 L fun v L' => v = .bool true ∧ L = L' := by
  have z : ∀ (r p q : Option Addr) (r3 p3 q3 : Nat), PolS L ⟨[], 0, [], 0, [], []⟩ (.slice r 0 r3) (.slice p 0 p3) (.slice q 0 q3) := fun r p q r3 p3 q3 =>
    ⟨⟨r, r3, [], rfl, ⟨rfl, Or.inl rfl⟩, rfl⟩, ⟨p, p3, rfl, ⟨rfl, Or.inl rfl⟩⟩, ⟨q, q3, rfl, ⟨rfl, Or.inl rfl⟩⟩, Nat.zero_le _, Nat.zero_le _, Nat.zero_le _⟩
  exact psame_c (S := S) (w0 := w0) (L := L) ⟨[], 0, [], 0, [], []⟩ _ _ _ _ _ _ (z r p q r3 p3 q3) (z none none none 0 0 0)
theorem parse_t {S w0} {pb ct rb n : Nat} {L0 M L B : List Blk} (s : ByteArray) (hs : s.size ≤ 1000000) (P : Pol) (a b c : Nat) (hP : polF (lB s) = (P, (a, b, c))) (hl : ∀ r ∈ P.rules, r.conds.length ≤ maxLen) (hM : PrE pb ct rb n L0 M) (hn : n ≤ 90000) (hL : Tl L B M) :
    Fn Tryz.prog 10 #[.pointer (some ⟨pb, 0, none⟩), .string s] S w0 L fun v L' => ∃ (r1 p1 q1 : Option Addr) (r3 p3 q3 : Nat) (E : List Blk) (n' : Nat) (M' : List Blk), v = tupleOf [.agg #[.string (mB8 P.nm), .int .u32 P.df, .slice r1 P.rules.length r3, .int .u16 (P.hd : Nat), .slice p1 P.paths.length p3, .slice q1 P.ports.length q3], .agg #[.int .i64 (a : Nat), .int .i64 (b : Nat), .int .i64 (c : Nat)]] ∧ PolS E P.g (.slice r1 P.rules.length r3) (.slice p1 P.paths.length p3) (.slice q1 P.ports.length q3) ∧ n' ≤ n + 65 ∧ PrE pb ct rb n' L0 M' ∧ B ++ (E ++ M') = L' := by
  rw [hL.eq]
  refine (parse_x (S := S) (w0 := w0) B hM hn s hs).mono ?_
  rw [hP]
  rintro v L' ⟨d, n', M', rfl, hd, hn', hM', rfl⟩
  have hS := hd.polS hl
  obtain ⟨r1, r3, p1, p3, q1, q3, e1, e2, e3⟩ := hd.sl
  rw [e1, e2, e3] at hS
  exact ⟨_, ⟨r1, p1, q1, r3, p3, q3, _, n', M', by rw [e1, e2, e3], hS, hn', hM', rfl⟩, fun _ H => H⟩
theorem text_t {S w0} {pb ct rb n : Nat} {L0 M L B E : List Blk} (P : Pol) (hP : PolOk P) (hR : PolRn P) {r1 p1 q1 : Option Addr} {r3 p3 q3 : Nat} (hM : PrE pb ct rb n L0 M) (hS : PolS E P.g (.slice r1 P.rules.length r3) (.slice p1 P.paths.length p3) (.slice q1 P.ports.length q3)) (hn : n ≤ 90000) (hL : Tl L B (E ++ M)) :
    Fn Tryz.prog 13 #[.agg #[.string (mB8 P.nm), .int .u32 P.df, .slice r1 P.rules.length r3, .int .u16 (P.hd : Nat), .slice p1 P.paths.length p3, .slice q1 P.ports.length q3], .pointer (some ⟨ct, 0, none⟩)] S w0 L fun v L' => ∃ M', v = .string (mB8 (polT P)) ∧ PrE pb ct rb (n + P.rules.length) L0 M' ∧ B ++ (E ++ M') = L' := by
  have e : L = (B ++ E) ++ M := by rw [hL.eq, List.append_assoc]
  rw [e]
  refine (text_x (S := S) (w0 := w0) (B ++ E) hM hn P hP hR _ _ _ (by rw [List.append_assoc]; exact (hS.left).upA B)).mono ?_
  rintro v L' ⟨M', rfl, hM', rfl⟩
  exact ⟨_, ⟨M', rfl, hM', rfl⟩, fun _ H => by rw [List.append_assoc] at H; exact H⟩
theorem check_t {S w0} {pb ct rb n : Nat} {L0 M L B E E2 : List Blk} (P : GPol) (hP : P.ok) (hr : P.rules.length ≤ 1000) {vr vp vq : Value} (hM : PrE pb ct rb n L0 M) (hS : PolS E P vr vp vq) (hn : n ≤ 90000) (hL : Tl L B (E ++ (E2 ++ M))) :
    Fn Tryz.prog 17 #[.agg #[.string (mB8 P.nm), .int .u32 P.df, vr, .int .u16 (P.hd : Nat), vp, vq], .pointer (some ⟨ct, 0, none⟩)] S w0 L fun v L' => ∃ n' M', v = .int .i64 (chkG P : Nat) ∧ n' ≤ n + P.rules.length ∧ PrE pb ct rb n' L0 M' ∧ B ++ (E ++ (E2 ++ M')) = L' := by
  have e : L = (B ++ (E ++ E2)) ++ M := by rw [hL.eq]; simp only [List.append_assoc]
  rw [e]
  refine (check_x (S := S) (w0 := w0) (B ++ (E ++ E2)) hM hn P hP _ _ _ (by simp only [List.append_assoc]; exact (hS.left).upA B) hr).mono ?_
  rintro v L' ⟨n', M', rfl, hn', hM', rfl⟩
  exact ⟨_, ⟨n', M', rfl, hn', hM', rfl⟩, fun _ H => by simp only [List.append_assoc] at H; exact H⟩
theorem calls_t {S w0} {pb ct rb n : Nat} {L0 M L B : List Blk} (hM : PrE pb ct rb n L0 M) (hL : Tl L B M) : Fn Tryz.prog 11 #[.pointer (some ⟨pb, 0, none⟩)] S w0 L fun v L' => v = .pointer (some ⟨ct, 0, none⟩) ∧ L = L' := by
  rw [hL.eq]
  exact calls_x (S := S) (w0 := w0) B hM
theorem same_t {S w0} {L B E1 E2 R : List Blk} (P : GPol) {vr vp vq ur up uq : Value} (h1 : PolS E1 P vr vp vq) (h2 : PolS E2 P ur up uq) (hL : Tl L B (E1 ++ (E2 ++ R))) :
    Fn Tryz.prog 14 #[.agg #[.string (mB8 P.nm), .int .u32 P.df, vr, .int .u16 (P.hd : Nat), vp, vq], .agg #[.string (mB8 P.nm), .int .u32 P.df, ur, .int .u16 (P.hd : Nat), up, uq]] S w0 L fun v L' => v = .bool true ∧ L = L' := by
  rw [hL.eq]
  exact psame_c (S := S) (w0 := w0) P _ _ _ _ _ _ (h1.left.upA B) (((h2.left).upA E1).upA B)
end Go.Proofs.YtecbgehooembmaaGreatDoor
