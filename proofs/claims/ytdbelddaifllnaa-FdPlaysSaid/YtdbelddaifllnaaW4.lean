import Derived.Test.YtdbelddaifllnaaW3
namespace Go.Proofs.Ytdbelddaifllnaa
open Go Go.RowKit

set_option maxRecDepth 100000 in
set_option maxHeartbeats 1000000 in
theorem awake {S : List Nat} {w0 w : World} {L : List Blk} (H : HP S w0 w L) : Calls Try.prog 8 #[] w fun e w' => e = .returned (.bool true) ∧ HP S w0 w' L := by
  go_enter Try.func8, Try.ntmps8
  go_wp2_with (first
    | (refine hp_alloc_agg _ _ H rfl rfl Try.zeroValue27 ?_; intro b w hb H)
    | (refine stop_alloc rfl rfl ?_) | (refine stop_load rfl rfl ?_) | (refine stop_store rfl rfl ?_))
  refine (add_some H _ 0 b 27 0 (List.replicate 16 none) rfl rfl (by omega) rfl (by omega)).mono ?_
  rintro e w ⟨n1, rfl, hn1, H⟩
  go_wp2_with (first
    | (refine stop_alloc rfl rfl ?_) | (refine stop_load rfl rfl ?_) | (refine stop_store rfl rfl ?_))
  refine (add_some H _ 1 b 27 1 (some n1 :: List.replicate 15 none) rfl rfl (by omega) rfl (fun j hj => ⟨n1, by (have e : j = 0 := by omega); subst e; rfl⟩)).mono ?_
  rintro e w ⟨n2, rfl, hn2, H⟩
  go_wp2_with (first
    | (refine stop_alloc rfl rfl ?_) | (refine stop_load rfl rfl ?_) | (refine stop_store rfl rfl ?_))
  refine (drop_some H (i0 := 2) (i1 := 1) rfl rfl 0 (by omega) rfl rfl (by omega) rfl rfl).mono ?_
  rintro e w ⟨blk, rfl, H⟩
  go_wp2_with (first
    | (refine hp_alloc_agg _ _ H rfl rfl Try.zeroValue35 ?_; intro o w ho H)
    | (refine hp_store_all H 0 rfl rfl rfl rfl rfl (by kernel_rfl) rfl rfl rfl ?_; intro w H)
    | (refine stop_alloc rfl rfl ?_) | (refine stop_load rfl rfl ?_) | (refine stop_store rfl rfl ?_))
  refine (add_some H _ 4 b 27 0 (none :: some n2 :: List.replicate 14 none) rfl rfl (by omega) rfl (by omega)).mono ?_
  rintro e w ⟨n3, rfl, hn3, H⟩
  go_wp2_with (first
    | (refine hp_load_one H 1 rfl rfl rfl rfl (by kernel_rfl) (by kernel_rfl) rfl ?_)
    | (refine stop_alloc rfl rfl ?_) | (refine stop_load rfl rfl ?_) | (refine stop_store rfl rfl ?_))
  go_ret
  exact ⟨rfl, H.dropTo 6 rfl⟩

set_option maxRecDepth 100000 in
theorem add_nil {S : List Nat} {w0 w : World} {L : List Blk} (H : HP S w0 w L) (o : Array Value) : Calls Try.prog 10 #[.pointer none, .agg o] w fun e w' => e = .returned (.tuple #[.int .i64 0, .int .i64 201]) ∧ HP S w0 w' L := by
  go_enter Try.func10, Try.ntmps10
  go_wp2_with (refine hp_box_agg H rfl rfl rfl ?_; intro nb w hnb H)
  go_ret2
  exact ⟨rfl, H.tail⟩
theorem lst_empty : lst (List.replicate 16 none) 16 = [] := by decide

theorem list_empty {S : List Nat} {w0 w : World} {L : List Blk} (H : HP S w0 w L) {i0 b T : Nat} {q : Bool} {fr : Nat × Nat}
    (ht : L[i0]? = some ⟨q, b, .cells (ptrs (List.replicate 16 none)) T fr⟩) : Calls Try.prog 14 #[.pointer (some ⟨b, 0, none⟩)] w fun e w' => (∃ a c, e = .returned (.slice a 0 c)) ∧ HP S w0 w' L := by
  refine (list_some H rfl ht).mono ?_
  rintro e w ⟨v, blk, rfl, hown, H⟩
  rw [lst_empty] at hown
  obtain ⟨a, c, rfl⟩ := hown.len
  exact ⟨⟨a, c, rfl⟩, H.sub (List.sublist_append_right _ _)⟩
theorem full_empty {S : List Nat} {w0 w : World} {L : List Blk} (H : HP S w0 w L) {i0 b T : Nat} {q : Bool} {fr : Nat × Nat}
    (ht : L[i0]? = some ⟨q, b, .cells (ptrs (List.replicate 16 none)) T fr⟩) : Calls Try.prog 11 #[.pointer (some ⟨b, 0, none⟩)] w fun e w' => e = .returned (.bool false) ∧ HP S w0 w' L := by
  refine (full_some H rfl ht).mono ?_
  rintro e w ⟨blk, rfl, H⟩
  rw [lst_empty]
  exact ⟨rfl, H.sub (List.sublist_append_right _ _)⟩

end Go.Proofs.Ytdbelddaifllnaa
