/- slices.SortFunc at calls: they stand behind it by their numbers. -/
import Derived.Test.YtlfoiemjjalnlaaSrt1
import Derived.Test.YtlfoiemjjalnlaaLay
import Derived.Shelf.SlSortCmp.WholeK
namespace Go.Proofs.Ytlfoiemjjalnlaa
open Go Go.RowKit Go.Sort Go.Shelf
abbrev Clx : Type := { c : Cll // c ∈ clls }
theorem c0_mem : (⟨0, ⟨#[114, 101, 97, 100]⟩, 2⟩ : Cll) ∈ clls := by simp [clls]
instance : Inhabited Clx := ⟨⟨⟨0, ⟨#[114, 101, 97, 100]⟩, 2⟩, c0_mem⟩⟩
def encC (x : Clx) : List Value := x.1.cells
def cfC (x y : Clx) : Int := x.1.num - y.1.num
theorem ltC (x y : Clx) : ltOf cfC x y = decide (x.1.num < y.1.num) := by
  unfold ltOf cfC
  by_cases h : x.1.num < y.1.num
  · rw [decide_eq_true h, decide_eq_true (by omega)]
  · rw [decide_eq_false h, decide_eq_false (by omega)]
theorem swoC : SWO (ltOf cfC) where
  irrefl x := by rw [ltC]; simp
  trans x y z h1 h2 := by rw [ltC] at *; simp at *; omega
  ntrans x y z h1 h2 := by rw [ltC] at *; simp at *; omega
theorem encC_len (x : Clx) : (encC x).length = 3 := rfl
theorem encC_one (x : Clx) : ∀ v ∈ encC x, v.oneCell' = true := by
  intro v hv
  simp only [encC, Cll.cells, List.mem_cons, List.not_mem_nil, or_false] at hv
  rcases hv with rfl | rfl | rfl
  · exact oc_int
  · exact oc_str
  · exact oc_int
set_option maxHeartbeats 2000000 in
set_option maxRecDepth 100000 in
theorem cmpC (x y : Clx) (W : World) : Calls Try.prog 24 #[.agg (encC x).toArray, .agg (encC y).toArray] W fun e w' => e = .returned (.int .i64 (cfC x y)) ∧ ∃ q os', w' = grow (W.drewN q) os' := by
  have hx := clls_rng x.1 x.2
  have hy := clls_rng y.1 y.2
  obtain ⟨⟨n1, s1, a1⟩, m1⟩ := x
  obtain ⟨⟨n2, s2, a2⟩, m2⟩ := y
  simp only [encC, cfC, Cll.cells] at *
  clear m1 m2
  have e1 : IntKind.i64.wrap n1 = n1 := IntWalk.i64_in _ (by omega)
  have e2 : IntKind.i64.wrap n2 = n2 := IntWalk.i64_in _ (by omega)
  have e3 : IntKind.i64.wrap (n1 - n2) = n1 - n2 := IntWalk.i64_in _ (by omega)
  go_enter Try.func24, Try.ntmps24
  go_wp2
  go_ret
  exact ⟨rfl, 0, _, by rw [alloc_eq_grow, alloc_eq_grow, grow_grow]; rfl⟩
theorem cll_inj : ∀ i j : Fin 30, (clls[i.val]'(by rw [clls_len]; exact i.isLt)).num = (clls[j.val]'(by rw [clls_len]; exact j.isLt)).num → i = j := by decide +kernel
theorem cll_num {a b : Cll} (ha : a ∈ clls) (hb : b ∈ clls) (h : a.num = b.num) : a = b := by
  obtain ⟨i, hi, rfl⟩ := List.getElem_of_mem ha
  obtain ⟨j, hj, rfl⟩ := List.getElem_of_mem hb
  have := cll_inj ⟨i, by rw [← clls_len]; exact hi⟩ ⟨j, by rw [← clls_len]; exact hj⟩ h
  simp only [Fin.mk.injEq] at this
  subst this
  rfl
theorem clls_up : clls.Pairwise (fun a b => a.num ≤ b.num) := by decide +kernel
/-- what is in order and holds the calls: the calls -/
theorem sorted_clls (d' : Array Clx) (l : List Cll) (hp : l.Perm clls) (d : Array Clx) (hd : d.toList.map (·.1) = l) (h1 : PermIn 0 d.size d d') (h2 : SortedIn (ltOf cfC) 0 d.size d') : d'.toList.map (·.1) = clls := by
  obtain ⟨hs, _, hpm⟩ := h1
  have e1 : d'.extract 0 d.size = d' := by rw [← hs]; simp
  have e2 : d.extract 0 d.size = d := by simp
  rw [e1, e2] at hpm
  have hpm2 : (d'.toList.map (·.1)).Perm clls := (hpm.map _).trans (by rw [hd]; exact hp)
  refine List.Perm.eq_of_pairwise (le := fun a b => a.num ≤ b.num) ?_ ?_ clls_up hpm2
  · intro a b ha hb h3 h4
    obtain ⟨x, _, rfl⟩ := List.mem_map.1 ha
    exact cll_num x.2 hb (by omega)
  · rw [List.pairwise_map, List.pairwise_iff_getElem]
    intro i j hi hj hij
    have h3 := h2 i j (Nat.zero_le _) hij (by rw [← hs]; simpa using hj)
    have hi' : i < d'.size := by simpa using hi
    have hj' : j < d'.size := by simpa using hj
    rw [ltC, getElem!_pos d' i hi', getElem!_pos d' j hj'] at h3
    simp only [decide_eq_false_iff_not, Int.not_lt] at h3
    simpa using h3
set_option maxRecDepth 100000 in
theorem sort_c {S w0} (L : List Blk) (g cap : Nat) (cur : Array Value) (l : List Cll) (hp : l.Perm clls) (hsz : cur.size = cap * 3) (htk : cur.toList.take 90 = flatN l) :
    Fn Try.prog 23 #[.slice (some ⟨g, 0, none⟩) 30 cap, .func (.func 24) #[] #[]] S w0 (⟨true, g, .cells cur 48 (0, 0)⟩ :: L) fun v L' => v = tupleOf [] ∧ ∃ cur2 : Array Value, cur2.size = cap * 3 ∧ cur2.toList.take 90 = flatN clls ∧ ⟨true, g, .cells cur2 48 (0, 0)⟩ :: L = L' := .mk fun w H => by
  obtain ⟨la, hla⟩ : ∃ la : List Clx, la.map (·.1) = l := ⟨l.attachWith (· ∈ clls) (fun c hc => hp.mem_iff.1 hc), List.attachWith_map_subtype_val _⟩
  have hll : la.length = 30 := by have h1 := congrArg List.length hla; have h2 := hp.length_eq; rw [clls_len] at h2; simpa [h2] using h1
  have hflat : ∀ ys : List Clx, ys.flatMap encC = flatN (ys.map (·.1)) := by
    intro ys
    simp only [flatN, List.flatMap_map]
    rfl
  have hF : flatK encC 3 la.toArray = (flatN l).toArray := by rw [flatK_list encC 3 encC_len la, hflat, hla]
  have hlen : (flatN l).length = 90 := by rw [flatN_len, hp.length_eq, clls_len]
  have hcur : 90 ≤ cur.size := by
    have h1 := congrArg List.length htk
    rw [hlen, List.length_take, Array.length_toList] at h1
    omega
  have hg : g < w.heap.size := H.lt 0 (p := ⟨true, g, .cells cur 48 (0, 0)⟩) rfl
  have hH : HoldsK encC 3 w g 0 la.toArray := by
    unfold HoldsK
    rw [hF]
    refine HP.holds H _ (by simp only [List.size_toArray, hlen]; exact hcur) ?_
    rw [List.size_toArray, hlen, htk]
  have eg : ∀ args w, (callFunc 24 args).run Try.prog w = .ok (.enter 24 args) w := enters_of Try.func24 (by kernel_rfl) rfl
  have hcon := AnyQ.slices_SortFunc sortCall 3 Try.isAgg48 Try.sizeOf48 encC encC_len encC_one cfC swoC 24 #[] g 0 cap la.toArray w eg (fun _ _ _ _ x y => cmpC x y _) hH hg (by simp [hll])
  have hd30 : la.toArray.size = 30 := by simp [hll]
  rw [hd30] at hcon
  refine Calls.mono hcon ?_
  rintro e w' ⟨rfl, d', n, os, hpd, hsd, rfl⟩
  rw [← hd30] at hpd hsd
  have hdc := sorted_clls d' l hp la.toArray (by simpa using hla) hpd hsd
  have hF2 : flatK encC 3 d' = (flatN clls).toArray := by
    have := flatK_list encC 3 encC_len d'.toList
    rw [Array.toArray_toList, hflat, hdc] at this
    exact this
  have hcl : (flatN clls).length = 90 := by rw [flatN_len, clls_len]
  refine ⟨_, _, rfl, ⟨rfl, putCells id 0 (flatN clls).toArray cur, by rw [putCells_size, hsz], ?_, rfl⟩, ?_⟩
  · have := putCells_take (flatN clls).toArray cur (by rw [List.size_toArray, hcl]; exact hcur)
    rw [List.size_toArray, hcl] at this
    exact this
  · unfold sortWorldK putRowK
    rw [hF2]
    exact ((H.aheadN n).putRow _).growA os
theorem allNew_c {S w0 L} (b : Nat) (a m : Int) (ha : 0 ≤ a ∧ a < 4000000000000000000) (hm : 0 ≤ m ∧ m < 4000000000000000000) : Fn Try.prog 12 #[.pointer (some ⟨b, 0, none⟩)] S w0 (tbl0 b a m :: L) fun v L' =>
      ∃ m1 m2 e, Own 48 3 v 30 (flatN clls) e ∧ e ++ (tbl1 b m1 m2 (a + 1) (m + 1) :: mapB m1 (byName clls) :: mapB m2 (byNum clls) :: L) = L' := all0m_c b a m ha hm sort_c
theorem all1S_c {S w0 L} (b m1 m2 : Nat) (a m : Int) (ha : 0 ≤ a ∧ a < 4000000000000000000) : Fn Try.prog 12 #[.pointer (some ⟨b, 0, none⟩)] S w0 (tbl1 b m1 m2 a m :: mapB m1 (byName clls) :: mapB m2 (byNum clls) :: L) fun v L' =>
      ∃ e, Own 48 3 v 30 (flatN clls) e ∧ e ++ (tbl1 b m1 m2 (a + 1) m :: mapB m1 (byName clls) :: mapB m2 (byNum clls) :: L) = L' := all1_c b m1 m2 a m ha sort_c
end Go.Proofs.Ytlfoiemjjalnlaa
