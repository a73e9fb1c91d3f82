import Derived.Test.YtdbelddaifllnaaRows
import Derived.Test.YtdbelddaifllnaaKit2
namespace Go.Proofs.Ytdbelddaifllnaa
open Go Go.RowKit
theorem run_index_ptr16 (w : World) (cs : Array Value) (k : Nat) (h : k < 16) (hs : cs.size = 16) :
    (Instr.index 25 (.agg cs) (.int .i64 k)).run Try.prog w = .ok (cs.getD k undef) w := by
  have hk : k < cs.size := by omega
  simp [Instr.index, asIntOf, Try.runUnderlying25, Try.sizeOf24, part, Try.isAgg24, h, hk]

def pv (o : Option Nat) : Value := .pointer (o.map fun b => ⟨b, 0, none⟩)
/-- the cells of a table -/
def ptrs (ps : List (Option Nat)) : Array Value := (ps.map pv).toArray
theorem ptrs_size (ps : List (Option Nat)) : (ptrs ps).size = ps.length := by simp [ptrs]
theorem ptrs_get {ps : List (Option Nat)} {k : Nat} {x : Option Nat} (h : ps[k]? = some x) : (ptrs ps).getD k undef = pv x := by simp [ptrs, h]
theorem ptrs_set (ps : List (Option Nat)) (k : Nat) (x : Option Nat) : (ptrs ps).setIfInBounds k (pv x) = ptrs (ps.set k x) := by
  simp [ptrs, List.map_set]

def AddPost (S : List Nat) (w0 : World) (L : List Blk) (i0 b T i : Nat) (ps : List (Option Nat)) (o : Array Value) (e : Ending) (w' : World) : Prop :=
  ∃ nb, e = .returned (.tuple #[.int .i64 i, .int .i64 0]) ∧ w0.heap.size ≤ nb ∧
      HP S w0 w' (⟨true, nb, .cells o 35 (0, 0)⟩ :: L.set i0 ⟨true, b, .cells (ptrs (ps.set i (some nb))) T (0, 0)⟩)

set_option maxRecDepth 100000 in
set_option maxHeartbeats 1000000 in
theorem add_some {S : List Nat} {w0 w : World} {L : List Blk} (H : HP S w0 w L) (o : Array Value) (i0 b T i : Nat) (ps : List (Option Nat)) (hps : ps.length = 16)
    (ht : L[i0]? = some ⟨true, b, .cells (ptrs ps) T (0, 0)⟩) (hi : i < 16) (hf : ps[i]? = some none) (hl : ∀ j, j < i → ∃ x, ps[j]? = some (some x)) :
    Calls Try.prog 10 #[.pointer (some ⟨b, 0, none⟩), .agg o] w (AddPost S w0 L i0 b T i ps o) := by
  have hsz : (ptrs ps).size = 16 := by simp [ptrs, hps]
  have hsz' : Hid ((ptrs ps).size = 16) := hsz
  clear hsz
  go_enter Try.func10, Try.ntmps10
  go_wp2_with (first
    | (refine hp_box_agg H rfl rfl rfl ?_; intro nb w hnb H)
    | (refine hp_load_all H (i0 + 1) rfl rfl rfl ht (by kernel_rfl) (by kernel_rfl) hsz'.out (by kernel_rfl) ?_))
  go_loop [14] (fun c => ∃ k : Nat, k ≤ i ∧ c = .int .i64 k) (fun c => 16 - (intOf c).toNat)
  case atStart => exact ⟨0, by omega, rfl⟩
  case round =>
    obtain ⟨k, hk, rfl⟩ := hrel
    have hlt : k < 16 := by omega
    have hix := fun w => run_index_ptr16 w (ptrs ps) k hlt hsz'.out
    by_cases hki : k = i
    · obtain rfl : i = k := hki.symm
      rw [ptrs_get hf] at hix
      simp only [pv, Option.map_none] at hix
      clear hl
      go_wp2_with (refine hp_store_one H (i0 + 1) rfl rfl rfl rfl rfl rfl ht (by kernel_rfl) (by rw [hsz'.out]; exact hlt) ?_; intro w H)
      go_ret2
      refine ⟨nb, rfl, hnb, ?_⟩
      rw [← ptrs_set]
      exact H
    · obtain ⟨x, hx⟩ := hl k (by omega)
      rw [ptrs_get hx] at hix
      simp only [pv, Option.map_some] at hix
      clear hl hf
      go_wp2
      go_round
      case rel => exact ⟨k + 1, by omega, by go_num⟩
      case measure => simp [intOf]; omega

/-! ### Get -/
set_option maxRecDepth 100000 in
theorem get_nil (n : Int) (w : World) : Calls Try.prog 13 #[.pointer none, .int .u64 n] w fun e w' => e = .returned (.pointer none) ∧ w = w' := by
  go_enter Try.func13, Try.ntmps13
  go_wp2
  go_ret
  exact ⟨rfl, rfl⟩
set_option maxRecDepth 100000 in
theorem get_out (b : Nat) (n : Int) (w : World) (h : 16 ≤ n) : Calls Try.prog 13 #[.pointer (some ⟨b, 0, none⟩), .int .u64 n] w fun e w' => e = .returned (.pointer none) ∧ w = w' := by
  go_enter Try.func13, Try.ntmps13
  go_wp2
  go_ret
  exact ⟨rfl, rfl⟩
set_option maxRecDepth 100000 in
theorem get_in {S : List Nat} {w0 w : World} {L : List Blk} (H : HP S w0 w L) {i0 b T : Nat} {q : Bool} {fr : Nat × Nat} {ps : List (Option Nat)} {x : Option Nat}
    (ht : L[i0]? = some ⟨q, b, .cells (ptrs ps) T fr⟩) (n : Nat) (hn : n < 16) (hx : ps[n]? = some x) :
    Calls Try.prog 13 #[.pointer (some ⟨b, 0, none⟩), .int .u64 n] w fun e w' => e = .returned (pv x) ∧ w = w' := by
  have hc : (ptrs ps)[n]? = some (pv x) := by simp [ptrs, hx]
  go_enter Try.func13, Try.ntmps13
  go_wp2_with (refine hp_load_one H i0 rfl rfl rfl ht (by kernel_rfl) (by kernel_rfl) hc ?_)
  go_ret
  exact ⟨rfl, rfl⟩

/-! ### List, Full -/
/-- the numbers below k by which something is open -/
def lst (ps : List (Option Nat)) (k : Nat) : List Nat := (List.range k).filter fun i => (ps.getD i none).isSome
def ints (l : List Nat) : List Value := l.map fun (i : Nat) => Value.int .i64 (i : Int)
theorem lst_le (ps : List (Option Nat)) (k : Nat) : (lst ps k).length ≤ k := by
  have := List.length_filter_le (fun i => (ps.getD i none).isSome) (List.range k)
  simpa [lst] using this
theorem lst_some {ps : List (Option Nat)} {k x : Nat} (h : ps[k]? = some (some x)) : lst ps (k + 1) = lst ps k ++ [k] := by
  simp [lst, List.range_succ, List.filter_append, h]
theorem lst_none {ps : List (Option Nat)} {k : Nat} (h : ps[k]? = some none) : lst ps (k + 1) = lst ps k := by
  simp [lst, List.range_succ, List.filter_append, h]

def ListPost (S : List Nat) (w0 : World) (L : List Blk) (ps : List (Option Nat)) (e : Ending) (w' : World) : Prop :=
  ∃ v blk, e = .returned v ∧ Own 3 1 v (lst ps 16).length (ints (lst ps 16)) blk ∧ HP S w0 w' (blk ++ L)
def ListRel (S : List Nat) (w0 : World) (L : List Blk) (ps : List (Option Nat)) (v c : Value) (wr : World) : Prop :=
  ∃ k blk, k ≤ 16 ∧ c = .int .i64 (k : Nat) ∧ Own 3 1 v (lst ps k).length (ints (lst ps k)) blk ∧ HP S w0 wr (blk ++ L)

theorem Try.info3 : (Try.prog.info? 3).map (fun i => (i.zero, i.size, i.bytes)) = some (some (.int .i64 0), 1, 8) := by kernel_rfl

set_option maxRecDepth 100000 in
set_option maxHeartbeats 1000000 in
theorem list_some {S : List Nat} {w0 w : World} {L : List Blk} (H : HP S w0 w L) {i0 b T : Nat} {q : Bool} {fr : Nat × Nat} {ps : List (Option Nat)} (hps : ps.length = 16)
    (ht : L[i0]? = some ⟨q, b, .cells (ptrs ps) T fr⟩) : Calls Try.prog 14 #[.pointer (some ⟨b, 0, none⟩)] w (ListPost S w0 L ps) := by
  have hsz' : Hid ((ptrs ps).size = 16) := by rw [← hps]; exact ptrs_size ps
  obtain ⟨inf, hi, hz0, hz1, hz2⟩ := info_parts Try.info3
  go_enter Try.func14, Try.ntmps14
  go_wp2_with (refine hp_load_all H i0 rfl rfl rfl ht (by kernel_rfl) (by kernel_rfl) hsz'.out (by kernel_rfl) ?_)
  go_loopw [3, 12] (fun v c wr => ListRel S w0 L ps v c wr) (fun _ c _ => 16 - (intOf c).toNat)
  case atStart => exact ⟨0, [], by omega, rfl, Own.nil 3 1, H⟩
  case round =>
    obtain ⟨k, blk, hk, rfl, hown, H⟩ := hrel
    by_cases hlt : k < 16
    · have hix := fun w => run_index_ptr16 w (ptrs ps) k hlt hsz'.out
      have hle := lst_le ps k
      obtain ⟨x, hx⟩ : ∃ x, ps[k]? = some x := ⟨_, List.getElem?_eq_getElem (by omega)⟩
      rw [ptrs_get hx] at hix
      cases x with
      | none =>
        simp only [pv, Option.map_none] at hix
        go_wp2
        go_roundw
        case rel => exact ⟨k + 1, blk, by omega, by go_num, by rw [lst_none hx]; exact hown, H⟩
        case measure => simp [intOf]; omega
      | some x =>
        simp only [pv, Option.map_some] at hix
        have hown' := hide hown
        clear hown
        go_wp2_with (refine hp_append1 (E := 3) (u := .int .i64 (k : Nat)) 1 8 H hown'.out rfl (fun _ => rfl) rfl rfl rfl Try.underlying47 hi hz0 hz1 hz2 rfl (by omega) (by omega) rfl rfl rfl (fun _ => rfl) (fun _ => rfl) (by unfold maxLen; omega) (by omega) ?_; intro v' e' y w' hown2 H2)
        refine ⟨⟨k + 1, e', by omega, by go_num, ?_, H2⟩, by simp [intOf]; omega⟩
        rw [lst_some hx]
        simpa [ints, Value.cells] using hown2
    · obtain rfl : k = 16 := by omega
      go_wp2
      go_ret
      exact ⟨_, blk, rfl, hown, H⟩

theorem Own.len {E size : Nat} {v : Value} {n : Nat} {xs : List Value} {e : List Blk} (h : Own E size v n xs e) : ∃ a c, v = .slice a n c := by
  rcases h.2 with ⟨rfl, rfl, _⟩ | ⟨g, cap, cur, rfl, _⟩
  · exact ⟨_, _, rfl⟩
  · exact ⟨_, _, rfl⟩

def FullPost (S : List Nat) (w0 : World) (L : List Blk) (ps : List (Option Nat)) (e : Ending) (w' : World) : Prop :=
  ∃ blk, e = .returned (.bool (((lst ps 16).length : Int) == 16)) ∧ HP S w0 w' (blk ++ L)

set_option maxRecDepth 100000 in
theorem full_nil (w : World) : Calls Try.prog 11 #[.pointer none] w fun e w' => e = .returned (.bool true) ∧ w = w' := by
  go_enter Try.func11, Try.ntmps11
  go_wp2
  go_ret
  exact ⟨rfl, rfl⟩
set_option maxRecDepth 100000 in
theorem full_some {S : List Nat} {w0 w : World} {L : List Blk} (H : HP S w0 w L) {i0 b T : Nat} {q : Bool} {fr : Nat × Nat} {ps : List (Option Nat)} (hps : ps.length = 16)
    (ht : L[i0]? = some ⟨q, b, .cells (ptrs ps) T fr⟩) : Calls Try.prog 11 #[.pointer (some ⟨b, 0, none⟩)] w (FullPost S w0 L ps) := by
  go_enter Try.func11, Try.ntmps11
  go_wp2_with (go_at_call 14; refine (list_some H hps ht).mono ?_; rintro e w' ⟨v, blk, rfl, hown, H⟩; obtain ⟨a, c, rfl⟩ := hown.len)
  go_ret
  exact ⟨blk, rfl, H⟩
set_option maxRecDepth 100000 in
theorem list_nil (w : World) : Calls Try.prog 14 #[.pointer none] w fun e w' => e = .returned (.slice none 0 0) ∧ w = w' := by
  go_enter Try.func14, Try.ntmps14
  go_wp2
  go_ret
  exact ⟨rfl, rfl⟩

/-! ### Drop -/
def zeroOpen : Array Value := #[.int .u8 0, .int .i64 0, .int .u16 0, .int .i64 0, .int .u16 0, .int .i64 0, .bool false]
def DropNone (S : List Nat) (w0 : World) (L : List Blk) (er : Int) (e : Ending) (w' : World) : Prop :=
  ∃ blk, e = .returned (.tuple #[.agg zeroOpen, .int .i64 er]) ∧ HP S w0 w' (blk ++ L)

/-- results in a cell and a slot -/
theorem results_cell_tmp {P : Program} {S : List Nat} {w0 w : World} {L : List Blk} (H : HP S w0 w L) (i : Nat) {fn : Func} {p u : Tmp} {ty : TypeId} (h : fn.results = #[.cell p ty, .tmp u]) {tmps : Array Value} {q : Bool} {b : Nat} {cs : Array Value} {t : TypeId} {fr : Nat × Nat}
    (hp : tmps.getD p undef = .pointer (some ⟨b, 0, none⟩)) (hi : L[i]? = some ⟨q, b, .cells cs t fr⟩) (hu : (P.underlying ty).isSome = true) (hd : aggB P ty = true) (hn : (P.info? ty).map (·.size) = some cs.size) :
    (results fn tmps).run P w = .ok (.tuple #[.agg cs, tmps.getD u undef]) w := by
  have hp' : tmps[p]?.getD undef = .pointer (some ⟨b, 0, none⟩) := by simpa using hp
  obtain ⟨d, hd'⟩ := Option.isSome_iff_exists.1 hu
  have hdd : (match d with | .struct _ | .array _ _ => true | _ => false) = true := by
    unfold aggB at hd; rw [hd'] at hd; cases d <;> simp_all
  simp [results, h, hp', asAddr, run_loadVar_row w b t ty cs fr d (H.at_ i hi) hd' hdd hn]

set_option maxRecDepth 100000 in
theorem drop_nil {S : List Nat} {w0 w : World} {L : List Blk} (H : HP S w0 w L) (n : Int) : Calls Try.prog 12 #[.pointer none, .int .u64 n] w (DropNone S w0 L 201) := by
  go_enter Try.func12, Try.ntmps12
  go_wp2_with (first
    | (refine hp_alloc_agg _ _ H rfl rfl Try.zeroValue35 ?_; intro nb w hnb H)
    | (refine hp_store_all H 0 rfl rfl rfl rfl rfl (by kernel_rfl) rfl rfl rfl ?_; intro w H)
    | (refine stop_store rfl rfl ?_) | (refine stop_load rfl rfl ?_))
  exact bodyPost_ret (results_cell_tmp H 0 rfl rfl rfl (by kernel_rfl) (by kernel_rfl) (by kernel_rfl)) rfl ⟨[_], rfl, H⟩
set_option maxRecDepth 100000 in
theorem drop_none {S : List Nat} {w0 w : World} {L : List Blk} (H : HP S w0 w L) {i0 b T : Nat} {q : Bool} {fr : Nat × Nat} {ps : List (Option Nat)}
    (ht : L[i0]? = some ⟨q, b, .cells (ptrs ps) T fr⟩) (n : Int) (h : 16 ≤ n ∨ (0 ≤ n ∧ ps[n.toNat]? = some none)) : Calls Try.prog 12 #[.pointer (some ⟨b, 0, none⟩), .int .u64 n] w (DropNone S w0 L 9) := by
  have hget : ∀ w L', HP S w0 w (L' :: L) → Calls Try.prog 13 #[.pointer (some ⟨b, 0, none⟩), .int .u64 n] w fun e w' => e = .returned (.pointer none) ∧ w = w' := by
    intro w L' H'
    by_cases hn : 16 ≤ n
    · exact get_out b n w hn
    · rcases h with h | ⟨h0, h⟩
      · exact absurd h hn
      · obtain ⟨m, rfl⟩ := Int.eq_ofNat_of_zero_le h0
        exact get_in H' (i0 := i0 + 1) ht m (by omega) h
  clear h
  go_enter Try.func12, Try.ntmps12
  go_wp2_with (first
    | (refine hp_alloc_agg _ _ H rfl rfl Try.zeroValue35 ?_; intro nb w hnb H)
    | (refine hp_store_all H 0 rfl rfl rfl rfl rfl (by kernel_rfl) rfl rfl rfl ?_; intro w H)
    | (go_at_call 13; refine (hget _ _ H).mono ?_; rintro e w' ⟨rfl, rfl⟩)
    | (refine stop_store rfl rfl ?_) | (refine stop_load rfl rfl ?_))
  exact bodyPost_ret (results_cell_tmp H 0 rfl rfl rfl (by kernel_rfl) (by kernel_rfl) (by kernel_rfl)) rfl ⟨[_], rfl, H⟩

def DropSome (S : List Nat) (w0 : World) (L : List Blk) (i0 b T n : Nat) (ps : List (Option Nat)) (cs : Array Value) (e : Ending) (w' : World) : Prop :=
  ∃ blk, e = .returned (.tuple #[.agg cs, .int .i64 0]) ∧ HP S w0 w' (blk :: L.set i0 ⟨true, b, .cells (ptrs (ps.set n none)) T (0, 0)⟩)
set_option maxRecDepth 100000 in
theorem drop_some {S : List Nat} {w0 w : World} {L : List Blk} (H : HP S w0 w L) {i0 b T : Nat} {ps : List (Option Nat)} {x i1 T1 : Nat} {q : Bool} {fr : Nat × Nat} {cs : Array Value} (hps : ps.length = 16)
    (ht : L[i0]? = some ⟨true, b, .cells (ptrs ps) T (0, 0)⟩) (n : Nat) (hn : n < 16) (hx : ps[n]? = some (some x)) (hi1 : L[i1]? = some ⟨q, x, .cells cs T1 fr⟩) (h01 : i1 ≠ i0) (hcs : cs.size = 7) (h1 : cs.toList.all (·.oneCell') = true) :
    Calls Try.prog 12 #[.pointer (some ⟨b, 0, none⟩), .int .u64 n] w (DropSome S w0 L i0 b T n ps cs) := by
  have hsz' : Hid ((ptrs ps).size = 16) := by rw [← hps]; exact ptrs_size ps
  have hcs' := hide hcs
  clear hcs
  have hi2 : ∀ y, (L.set i0 y)[i1]? = some ⟨q, x, .cells cs T1 fr⟩ := by
    intro y; rw [List.getElem?_set_ne (fun e => h01 e.symm)]; exact hi1
  go_enter Try.func12, Try.ntmps12
  go_wp2_with (first
    | (refine hp_alloc_agg _ _ H rfl rfl Try.zeroValue35 ?_; intro nb w hnb H)
    | (refine hp_store_all H 0 rfl rfl rfl rfl rfl (by kernel_rfl) rfl hcs'.out h1 ?_; intro w H)
    | (refine hp_store_one H (i0 + 1) rfl rfl rfl rfl rfl rfl ht (by kernel_rfl) (by rw [hsz'.out]; exact hn) ?_; intro w H)
    | (refine hp_load_all H (i1 + 1) rfl rfl rfl (hi2 _) (by kernel_rfl) (by kernel_rfl) hcs'.out (by kernel_rfl) ?_)
    | (go_at_call 13; refine (get_in H (i0 := i0 + 1) ht n hn hx).mono ?_; rintro e w' ⟨rfl, rfl⟩; simp only [pv, Option.map_some])
    | (refine stop_store rfl rfl ?_) | (refine stop_load rfl rfl ?_))
  refine bodyPost_ret (results_cell_tmp H 0 rfl rfl rfl (by kernel_rfl) (by kernel_rfl) (by rw [hcs'.out]; kernel_rfl)) rfl ⟨⟨true, nb, .cells cs 35 (0, 0)⟩, rfl, ?_⟩
  rw [← ptrs_set]
  exact H
end Go.Proofs.Ytdbelddaifllnaa
