/- Part 11 of what the last text of this claim leans on: rules of walks, contracts, plain facts. Conditions: those of each statement. -/
import Derived.Test.YtecbgehooembmaaGreatDoorQo10
set_option maxRecDepth 100000
namespace Go.Proofs.YtecbgehooembmaaGreatDoor
open Go Go.RowKit
def cutS (s : List (List UInt8) × List UInt8) (c : UInt8) : List (List UInt8) × List UInt8 := if c = 10 then (s.1 ++ [s.2 ++ [10]], []) else (s.1, s.2 ++ [c])
def cutL (l : List UInt8) : List (List UInt8) × List UInt8 := l.foldl cutS ([], [])
theorem cutL_snoc (l : List UInt8) (c : UInt8) : cutL (l ++ [c]) = cutS (cutL l) c := by unfold cutL; rw [List.foldl_append]; rfl
theorem cut_word (w : List UInt8) (h : ∀ x ∈ w, x ≠ 10) : ∀ s : List (List UInt8) × List UInt8, w.foldl cutS s = (s.1, s.2 ++ w) := by
 induction w with
 | nil => intro s; rw [List.append_nil]; rfl
 | cons c r ih =>
  intro s
  rw [List.foldl_cons, ih (fun x hx => h x (List.mem_cons_of_mem _ hx))]
  unfold cutS
  rw [if_neg (h c (List.mem_cons_self ..))]
  simp
def lnT (ws : List W3) : List UInt8 := spcL ws ++ [10]
theorem spc_no10 {ws : List W3} (h : ∀ w ∈ ws, WOk w) : ∀ x ∈ spcL ws, x ≠ 10 := by
 intro x hx
 cases ws with
 | nil => cases hx
 | cons w r =>
  rcases List.mem_append.1 hx with hx | hx
  ·exact (w_no32 (h w (List.mem_cons_self ..)) x hx).2
  ·obtain ⟨v, hv, hx⟩ := List.mem_flatMap.1 hx
   rcases List.mem_cons.1 hx with rfl | hx
   ·decide
   ·exact (w_no32 (h v (List.mem_cons_of_mem _ hv)) x hx).2
theorem cut_lines (D : List (List W3)) (h : ∀ ws ∈ D, ∀ w ∈ ws, WOk w) : ∀ s : List (List UInt8), (h4p D).foldl cutS (s, []) = (s ++ D.map lnT, []) := by
 induction D with
 | nil => intro s; simp [h4p]
 | cons ws D ih =>
  intro s
  have e : h4p (ws :: D) = spcL ws ++ ([10] ++ h4p D) := by simp [h4p]
  rw [e, List.foldl_append, cut_word _ (spc_no10 (h ws (List.mem_cons_self ..))), List.foldl_append]
  have e2 : [(10 : UInt8)].foldl cutS (s, [] ++ spcL ws) = (s ++ [lnT ws], []) := by
   show cutS (s, [] ++ spcL ws) 10 = _
   unfold cutS
   rw [if_pos rfl]; rfl
  rw [e2, ih (fun v hv => h v (List.mem_cons_of_mem _ hv))]
  simp
theorem cutL_pol (P : Pol) (h : PolOk P) (hr : PolRn P) : cutL (polT P) = ((polL P).map lnT, []) := by
 have := cut_lines (polL P) (polL_ok P h hr).1.ok []
 rw [List.nil_append] at this
 exact this
def polA (P : Pol) : Pol := ⟨P.nm, P.df, P.rules, 0, [], []⟩
def polB (P : Pol) : Pol := ⟨P.nm, P.df, [], P.hd, P.paths, []⟩
def polCq (P : Pol) : Pol := ⟨P.nm, P.df, [], P.hd, [], P.ports⟩
def polH (P : Pol) : Pol := ⟨P.nm, P.df, [], P.hd, [], []⟩
theorem polA_ok {P : Pol} (h : PolOk P) : PolOk (polA P) := ⟨h.nm, h.df0, h.df, h.rules, Nat.zero_and _, h.l1, Nat.zero_le _, Nat.zero_le _, (fun _ h => by cases h), .nil, (fun _ h => by cases h), .nil⟩
theorem polB_ok {P : Pol} (h : PolOk P) : PolOk (polB P) := ⟨h.nm, h.df0, h.df, (fun _ h => by cases h), h.hd, Nat.zero_le _, h.l2, Nat.zero_le _, h.paths, h.pnd, (fun _ h => by cases h), .nil⟩
theorem polCq_ok {P : Pol} (h : PolOk P) : PolOk (polCq P) := ⟨h.nm, h.df0, h.df, (fun _ h => by cases h), h.hd, Nat.zero_le _, Nat.zero_le _, h.l3, (fun _ h => by cases h), .nil, h.ports, h.qnd⟩
theorem polH_ok {P : Pol} (h : PolOk P) : PolOk (polH P) := ⟨h.nm, h.df0, h.df, (fun _ h => by cases h), h.hd, Nat.zero_le _, Nat.zero_le _, Nat.zero_le _, (fun _ h => by cases h), .nil, (fun _ h => by cases h), .nil⟩
theorem polX_rn {P : Pol} (h : PolRn P) : PolRn (polA P) ∧ PolRn (polB P) ∧ PolRn (polCq P) ∧ PolRn (polH P) := ⟨⟨h.c⟩, ⟨(fun _ h => by cases h)⟩, ⟨(fun _ h => by cases h)⟩, ⟨(fun _ h => by cases h)⟩⟩
def skN (P : Pol) : Nat := if P.hd ≠ 0 then 3 else 2
theorem hanL_len (n : Nat) : 2 + (hanL n).length = if n ≠ 0 then 3 else 2 := by unfold hanL; split <;> rfl
theorem linesA (P : Pol) : ((polL (polA P)).map lnT).drop 2 = P.rules.map fun r => lnT (itL (.r r)) := by
 unfold polL polA
 simp [hanL, itL, Function.comp_def]
theorem linesB (P : Pol) : ((polL (polB P)).map lnT).drop (skN P) = P.paths.map fun r => lnT (itL (.p r)) := by
 have e := hanL_len P.hd
 unfold skN
 rw [← e]
 have e1 : polL (polB P) = [wN tPolicy, wN P.nm] :: (wN tDefault :: actL P.df) :: (hanL P.hd ++ P.paths.map benL) := by unfold polL polB; simp
 rw [e1, List.map_cons, List.map_cons, List.map_append, show 2 + (hanL P.hd).length = (hanL P.hd).length + 2 by omega, List.drop_succ_cons, List.drop_succ_cons]
 have : (hanL P.hd).length = ((hanL P.hd).map lnT).length := by rw [List.length_map]
 rw [this, List.drop_left, List.map_map]
 rfl
theorem linesC (P : Pol) : ((polL (polCq P)).map lnT).drop (skN P) = P.ports.map fun r => lnT (itL (.q r)) := by
 have e := hanL_len P.hd
 unfold skN
 rw [← e]
 have e1 : polL (polCq P) = [wN tPolicy, wN P.nm] :: (wN tDefault :: actL P.df) :: (hanL P.hd ++ P.ports.map porL) := by unfold polL polCq; simp
 rw [e1, List.map_cons, List.map_cons, List.map_append, show 2 + (hanL P.hd).length = (hanL P.hd).length + 2 by omega, List.drop_succ_cons, List.drop_succ_cons]
 have : (hanL P.hd).length = ((hanL P.hd).map lnT).length := by rw [List.length_map]
 rw [this, List.drop_left, List.map_map]
 rfl
section
variable {P : Program} {n : Nat} {l : List (Nat × Value)} {S : List Nat} {w0 : World} {L : List Blk} {k : Kont} {ops : Array Oper}
structure TagD (p : Prop) : Prop where
 out : p
theorem H_run4t {i j m q4 fuel : Nat} {listed : Array Bool} {Lb : List Blk} {o o' o'' o4 : Oper} (hi : ops[i]? = some o) (hj : ops[j]? = some o') (hm : ops[m]? = some o'') (h4 : ops[q4]? = some o4) (hr : Region.ready .any ops listed = [i, j, m, q4]) (h : TagA (G n l S w0 L (K1 P ops k o (KHS P S w0 Lb ops k fuel (listed.setIfInBounds i true)))))
  (h' : TagB (G n l S w0 L (K1 P ops k o' (KHS P S w0 Lb ops k fuel (listed.setIfInBounds j true))))) (h'' : TagC (G n l S w0 L (K1 P ops k o'' (KHS P S w0 Lb ops k fuel (listed.setIfInBounds m true)))))  (hh4 : TagD (G n l S w0 L (K1 P ops k o4 (KHS P S w0 Lb ops k fuel (listed.setIfInBounds q4 true))))) : G n l S w0 L (KH P S w0 Lb ops k (fuel + 1) listed) := .mk fun a w hF H => by
 refine ⟨wpAnyH_all hr (by simp) fun q hq => ?_⟩
 rcases (show q = i ∨ q = j ∨ q = m ∨ q = q4 by simpa using hq) with rfl | rfl | rfl | rfl
 ·have hh := (h.out.out a w hF H).out
  unfold wpOp
  simp only [hi]
  split
  ·rename_i hw; rw [if_pos hw] at hh; exact .inl (Oper.wp_mono (fun _ _ h => ⟨h.out.1, h.out.2.out⟩) hh)
  ·rename_i hw; rw [if_neg hw] at hh; exact ⟨hh.out.1, hh.out.2.out⟩
 ·have hh := (h'.out.out a w hF H).out
  unfold wpOp
  simp only [hj]
  split
  ·rename_i hw; rw [if_pos hw] at hh; exact .inl (Oper.wp_mono (fun _ _ h => ⟨h.out.1, h.out.2.out⟩) hh)
  ·rename_i hw; rw [if_neg hw] at hh; exact ⟨hh.out.1, hh.out.2.out⟩
 ·have hh := (h''.out.out a w hF H).out
  unfold wpOp
  simp only [hm]
  split
  ·rename_i hw; rw [if_pos hw] at hh; exact .inl (Oper.wp_mono (fun _ _ h => ⟨h.out.1, h.out.2.out⟩) hh)
  ·rename_i hw; rw [if_neg hw] at hh; exact ⟨hh.out.1, hh.out.2.out⟩
 ·have hh := (hh4.out.out a w hF H).out
  unfold wpOp
  simp only [h4]
  split
  ·rename_i hw; rw [if_pos hw] at hh; exact .inl (Oper.wp_mono (fun _ _ h => ⟨h.out.1, h.out.2.out⟩) hh)
  ·rename_i hw; rw [if_neg hw] at hh; exact ⟨hh.out.1, hh.out.2.out⟩
end
theorem zeroCells_one (z : Value) (n : Nat) : (Builtin.zeroCells #[z] n).toList = List.replicate n z := by
 apply List.ext_getElem
 ·simp [Builtin.zeroCells]
 ·intro i h1 h2
  simp [Builtin.zeroCells, Nat.mod_one]
section
variable {P : Program} {n : Nat} {l : List (Nat × Value)} {S : List Nat} {w0 : World} {L : List Blk} {K : Act → World → Prop} {k : Kont} {ops : Array Oper} {d : Tmp} {ty : TypeId} {pos : String} {af : Array Edge}
theorem run_append_room_zeros {w : World} {t tn ty e : TypeId} {i : TypeInfo} {z : Value} {kq kn : IntKind} (ht : P.underlying t = some (.slice e)) (htn : P.underlying tn = some (.int kn)) (hi : P.info? e = some i) (hz : i.zero = some z) (hs : i.size = 1) (hzc : z.cells = #[z])
  (g sLen sCap : Nat) (cur : Array Value) (hg : w.heap[g]? = some (.cells cur e (0, 0))) (h1 : z.oneCell' = true) (cnt : Nat) (h0 : 0 < cnt) (h63 : (cnt : Int) ≤ 9223372036854775807) (h48 : cnt * i.bytes ≤ 281474976710656)
  (hroom : sLen + cnt ≤ sCap) (hfit : sLen + cnt ≤ cur.size) :
  (Builtin.append_ #[t, tn] ty #[.slice (some ⟨g, 0, none⟩) sLen sCap, .int kq cnt]).run P w =
   .ok (.slice (some ⟨g, 0, none⟩) (sLen + cnt) sCap) (w.setRow g (cur.toList.take sLen ++ List.replicate cnt z ++ cur.toList.drop (sLen + cnt)).toArray) := by
 have hst := run_storeCells_at P g sLen e (List.replicate cnt z) 0 cur w hg (by simpa using hfit) (by intro v hv; rw [List.eq_of_mem_replicate hv]; exact h1)
 simp only [Nat.add_zero, List.length_replicate] at hst
 have hk : cnt ≠ 0 := by omega
 have hw : IntKind.i64.wrap (cnt : Int) = cnt := by rw [IntKind.wrap_i64]; omega
 have h48i : ¬ (281474976710656 < (cnt : Int) * (i.bytes : Int)) := by
  rw [← Int.natCast_mul]
  omega
 have hneg : ¬ ((cnt : Int) < 0) := by omega
 have hzl := zeroCells_one z cnt
 simp [Builtin.append_, run_underlying ht, run_underlying htn, sizeOf, typeInfo, zeroValue, hi, hz, hs, asInt, asIntOf, hw, hroom, hneg, hk, h48i, hzc, hzl, Addr.add_lit, hst]
theorem K1_appendZ {E bytes cnt : Nat} {t tn : TypeId} {inf : TypeInfo} {z : Value} {kq kn : IntKind} {c : Int} {s : Operand} {v : Value} {m : Nat} {xs : List Value} {e L0 : List Blk}
  (hd : Nat.blt d n = true) (ht : P.underlying t = some (.slice E)) (htn : P.underlying tn = some (.int kn)) (hi : P.info? E = some inf) (hz : inf.zero = some z) (hsize : inf.size = 1) (hby : inf.bytes = bytes) (hzc : z.cells = #[z]) (h1 : z.oneCell' = true)
  (hs : ev l s = some v) (hown : Own E 1 v m xs e) (hc : c = (cnt : Int)) (h0 : 0 < cnt) (h63 : m + cnt ≤ maxLen) (hbytes : (m + cnt) * bytes ≤ 140737488355328) (hL : ∀ w, HP S w0 w L → HP S w0 w (e ++ L0))
  (h : ∀ v' e', Own E 1 v' (m + cnt) (xs ++ List.replicate cnt z) e' → G n ((d, v') :: l) S w0 (e' ++ L0) K) :
  G n l S w0 L (K1 P ops k ⟨some d, .call { callee := .builtin .append, args := #[s, .const (.int kq c)], argTypes := #[t, tn] }, ty, pos, af, none⟩ K) := .mk fun a w hf H => h4n rfl <| by
 subst hc hby
 have hsmall : m + cnt ≤ 9223372036854775807 := by simp only [maxLen] at h63; omega
 have hcb : cnt * inf.bytes ≤ 281474976710656 := Nat.le_trans (Nat.mul_le_mul_right _ (Nat.le_add_left cnt m)) (by omega)
 have hx1 : xs.length = m := by rw [hown.1, Nat.mul_one]
 have hlen : (xs ++ List.replicate cnt z).length = (m + cnt) * 1 := by rw [List.length_append, hx1, List.length_replicate, Nat.mul_one]
 have H2 := hL w H
 have HL : HP S w0 w L0 := H2.sub (List.sublist_append_right _ _)
 have key : ∃ v' w' e', (Builtin.append_ #[t, tn] ty #[v, .int kq (cnt : Int)]).run P w = .ok v' w' ∧ Own E 1 v' (m + cnt) (xs ++ List.replicate cnt z) e' ∧ HP S w0 w' (e' ++ L0) := by
  have grown : ∀ (old : Nat), old < m + cnt →
    Own E 1 (.slice (some ⟨w.heap.size, 0, none⟩) (m + cnt) (grownCap w (m + cnt) old E)) (m + cnt) (xs ++ List.replicate cnt z)
     [⟨true, w.heap.size, .cells (xs.toArray ++ Builtin.zeroCells z.cells cnt ++ Builtin.zeroCells z.cells (grownCap w (m + cnt) old E - (m + cnt))) E (0, 0)⟩] ∧
    HP S w0 (w.drew.alloc (.cells (xs.toArray ++ Builtin.zeroCells z.cells cnt ++ Builtin.zeroCells z.cells (grownCap w (m + cnt) old E - (m + cnt))) E))
     (⟨true, w.heap.size, .cells (xs.toArray ++ Builtin.zeroCells z.cells cnt ++ Builtin.zeroCells z.cells (grownCap w (m + cnt) old E - (m + cnt))) E (0, 0)⟩ :: L0) := by
   intro old ho
   have hge := grownCap_ge w (m + cnt) old E
   have hcm : grownCap w (m + cnt) old E ≤ maxLen := grownCap_le_maxLen w (m + cnt) old E h63
   refine ⟨⟨hlen, .inr ⟨w.heap.size, _, _, rfl, rfl, hge, hcm, ?_, ?_⟩⟩, HL.drew.alloc _⟩
   ·simp only [Array.size_append, List.size_toArray, size_zeroCells, hzc, hx1]
    simp only [List.size_toArray, List.length_cons, List.length_nil]
    omega
   ·simp only [Array.toList_append, hzc, zeroCells_one]
    rw [← hlen]
    exact List.take_left
  rcases hown.2 with ⟨rfl, rfl, rfl⟩ | ⟨g, cap, cur, rfl, rfl, hnc, hcm, hcs, htake⟩
  ·have hx : xs = [] := List.eq_nil_of_length_eq_zero hx1
   have hgr := grown 0 (by omega)
   have hr := Lib.run_append_grow_zeros (P:=P) w t tn ty E inf z kq kn ht htn hi hz none 0 0 [] (by simp [Builtin.firstCells, loadCells, loadCellsFrom]) cnt h0 (by omega) (by omega) (by omega) hcb (growslice_fits (by omega) hbytes)
   subst hx
   exact ⟨_, _, _, hr, hgr.1, hgr.2⟩
  ·have hg : w.heap[g]? = some (.cells cur E (0, 0)) := H2.at_ 0 (p:=⟨true, g, .cells cur E (0, 0)⟩) rfl
   rw [Nat.mul_one] at hcs htake
   by_cases hroom : m + cnt ≤ cap
   ·have hr := run_append_room_zeros (P:=P) (ty:=ty) (kq:=kq) ht htn hi hz hsize hzc g m cap cur hg h1 cnt h0 (by omega) hcb hroom (by omega)
    have HT := H2.turn 0 (o:=.cells cur E (0, 0)) rfl (w.setRow g (cur.toList.take m ++ List.replicate cnt z ++ cur.toList.drop (m + cnt)).toArray) _ rfl rfl rfl (size_setRow w g _)
     (setRow_heap w g cur _ E _ hg) (fun k hk => setRow_other w g k _ hk)
    refine ⟨_, _, _, hr, ⟨hlen, .inr ⟨g, cap, _, rfl, rfl, hroom, hcm, ?_, ?_⟩⟩, HT⟩
    ·simp only [List.size_toArray, List.length_append, List.length_take, List.length_drop, Array.length_toList, List.length_replicate]
     omega
    ·rw [htake, ← hlen]
     exact List.take_left
   ·have holds : ∀ j u, xs[j]? = some u → w.drew.cell? ((⟨g, 0, none⟩ : Addr).add j) = some u := by
     intro j u hj
     have hadd : (⟨g, 0, none⟩ : Addr).add j = ⟨g, j, none⟩ := by unfold Addr.add; split <;> simp_all
     rw [hadd, cell_of_row w.drew g j cur E (0, 0) hg]
     rw [← htake, List.getElem?_take] at hj
     split at hj
     ·simpa using hj
     ·simp at hj
    have hf := run_firstCells_some (P:=P) w.drew 1 m ⟨g, 0, none⟩ m cap xs (by omega) holds
    have hr := Lib.run_append_grow_zeros (P:=P) w t tn ty E inf z kq kn ht htn hi hz (some ⟨g, 0, none⟩) m cap xs (by rw [hsize]; exact hf) cnt h0 (by omega) (by omega) (by omega) hcb (growslice_fits (by omega) hbytes)
    have hgr := grown cap (by omega)
    exact ⟨_, _, _, hr, hgr.1, hgr.2⟩
 obtain ⟨v', w', e', hr, hown', H'⟩ := key
 unfold Oper.wp execOp
 have hcv : a.eval (.const (.int kq (cnt : Int))) = .int kq (cnt : Int) := rfl
 simp only [resolve, invoke, builtin, Sem.run_bind, Sem.run_pure, Result.andThen_ok, List.map_toArray, List.map_cons, List.map_nil, hf.eval hs, hcv, hr]
 exact ((h v' e' hown').out _ _ (hf.put (some d) v' hd) H')
end
theorem enc128 : ∀ c : Fin 128, Utf8.encode ((c.val : Nat) : Int) = ⟨#[UInt8.ofNat c.val]⟩ := by decide +kernel
theorem r_convRune {P : Program} {s t : TypeId} {k k' : IntKind} (hs : P.underlying s = some (.int k')) (ht : P.underlying t = some .string) {c : UInt8} (hc : c.toNat < 128) : RConv P s t (.int k (c.toNat : Int)) (.string ⟨#[c]⟩) := .mk fun w => by
 have h := enc128 ⟨c.toNat, hc⟩
 dsimp only at h
 rw [UInt8.ofNat_toNat] at h
 simp only [convert, Sem.run_bind, run_underlying hs, run_underlying ht, Result.andThen_ok, Conv.intToString, Sem.run_pure, h]
end Go.Proofs.YtecbgehooembmaaGreatDoor
