import Derived.Test.YtdbelddaifllnaaW4
namespace Go.Proofs.Ytdbelddaifllnaa
open Go Go.RowKit
def NonePost (w0 : World) (e : Ending) (w' : World) : Prop := e = .returned (.bool true) ∧ Below w0.heap.size w0 w'
set_option maxRecDepth 100000 in
set_option maxHeartbeats 1000000 in
theorem fdNone (o : Array Value) (n : Int) (w0 : World) (ho : o.size = 7) (ho1 : o.toList.all (·.oneCell') = true) : Calls Try.prog 4 #[.agg o, .int .u64 n] w0 (NonePost w0) := by
  have H := HP.start w0
  have ho' := hide ho
  clear ho
  go_enter Try.func4, Try.ntmps4
  go_wp2_with (first
    | (go_at_call 8; refine (awake H).mono ?_; rintro e w ⟨rfl, H⟩)
    | (go_at_call 10; refine (add_nil H _).mono ?_; rintro e w ⟨rfl, H⟩)
    | (go_at_call 12; refine (drop_nil H _).mono ?_; rintro e w ⟨blk, rfl, H⟩; have H := H.sub (List.sublist_append_right _ _))
    | (go_at_call 9; refine (copy_nil H).mono ?_; rintro e w ⟨nb, rfl, H⟩)
    | (go_at_call 13; refine (get_nil _ _).mono ?_; rintro e w' ⟨rfl, rfl⟩)
    | ((with_reducible show Calls _ 14 #[.pointer none] _ _); refine (list_nil _).mono ?_; rintro e w' ⟨rfl, rfl⟩)
    | ((with_reducible show Calls _ 11 #[.pointer none] _ _); refine (full_nil _).mono ?_; rintro e w' ⟨rfl, rfl⟩)
    | (go_at_call 14; refine (list_empty H (i0 := 0) rfl).mono ?_; rintro e w ⟨⟨a, c, rfl⟩, H⟩)
    | (go_at_call 11; refine (full_empty H (i0 := 0) rfl).mono ?_; rintro e w ⟨rfl, H⟩)
    | ((with_reducible show wpList _ _ _ _ _ _); first
      | (refine hp_box_agg H rfl rfl rfl ?_; intro b w hb H)
      | (refine hp_alloc_agg _ _ H rfl rfl Try.zeroValue35 ?_; intro nx w hnx H)
      | (refine hp_store_all H 0 rfl rfl rfl rfl rfl (by kernel_rfl) rfl rfl rfl ?_; intro w H; have H := H.tail)
      | (refine hp_load_all H 0 rfl rfl rfl rfl (by kernel_rfl) (by kernel_rfl) ho'.out (by kernel_rfl) ?_)
      | (refine stop_alloc rfl rfl ?_) | (refine stop_load rfl rfl ?_) | (refine stop_store rfl rfl ?_)))
  go_ret
  exact ⟨rfl, H.below⟩
end Go.Proofs.Ytdbelddaifllnaa
