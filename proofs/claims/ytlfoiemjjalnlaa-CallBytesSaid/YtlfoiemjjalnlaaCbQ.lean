/- Raw calls, put together: contracts behind other blocks. -/
import Derived.Test.YtlfoiemjjalnlaaEnC
import Derived.Test.YtlfoiemjjalnlaaSrt2
import Derived.Test.YtlfoiemjjalnlaaGap
import Derived.ChangeKeysEq
namespace Go.Proofs.Ytlfoiemjjalnlaa
open Go Go.RowKit
theorem own_sliA {E size : Nat} {a : Option Addr} {c n : Nat} {xs : List Value} {e : List Blk} (h : Own E size (.slice a n c) n xs e) (L : List Blk) : Sli (e ++ L) a n size xs := by
  obtain ⟨a', c', h1, h2⟩ := h.sli L
  cases h1
  exact h2
theorem cl_ne (t : Int) (f : Bool) (n a b : Int) (x y : ByteArray) : RBin Try.prog .neq 33 (.agg #[.int .u8 t, .bool f, .int .u32 n, .int .u64 a, .int .u64 b, .string x, .string y]) (.agg #[.int .u8 t, .bool f, .int .u32 n, .int .u64 a, .int .u64 b, .string x, .string y]) (.bool false) := by
  have h49 : ∀ w, (Op.equalIn 9999 30 (Value.agg #[Value.int IntKind.u64 a, Value.int IntKind.u64 b]) (Value.agg #[Value.int IntKind.u64 a, Value.int IntKind.u64 b])).run Try.prog w = .ok true w := by
    intro w
    rw [run_equalIn_array w 9998 _ _ Try.underlying30 (show Try.prog.info? 29 = some ((Try.prog.info? 29).getD default) by kernel_rfl)]
    simp only [show List.range 2 = [0, 1] from rfl, Op.eqItems, show Try.prog.cellsOf 29 = 1 by kernel_rfl]
    go_simp
  have h50 : ∀ w, (Op.equalIn 9999 31 (Value.agg #[Value.string x, Value.string y]) (Value.agg #[Value.string x, Value.string y])).run Try.prog w = .ok true w := by
    intro w
    rw [run_equalIn_array w 9998 _ _ Try.underlying31 (show Try.prog.info? 9 = some ((Try.prog.info? 9).getD default) by kernel_rfl)]
    simp only [show List.range 2 = [0, 1] from rfl, Op.eqItems, show Try.prog.cellsOf 9 = 1 by kernel_rfl]
    go_simp
  apply RBin.mk
  intro w
  go_simp
theorem centry_x {S w0 L} (A : List Blk) (b m1 m2 n : Nat) (hn : n ≤ 100000) (c : CallD) (hc : c.ok) (hl0 : c.t0.size ≤ 300) (hl1 : c.t1.size ≤ 300) :
    Fn Try.prog 13 #[.agg c.cells.toArray, .pointer (some ⟨b, 0, none⟩)] S w0 (A ++ (tbS b m1 m2 n ++ L)) fun v L' => ∃ m1' m2' r e, v = tupleOf [r, .int .i64 (entF c).2] ∧ Own 5 1 r (entF c).1.length (u8l (entF c).1) e ∧ e ++ (A ++ (tbS b m1' m2' (n + 1) ++ L)) = L' :=
  .mk fun w H => ((centry_c (S := S) (w0 := w0) (L := A ++ L) b m1 m2 n hn c hc hl0 hl1).out w (HP.swapA (e := A) (tbS b m1 m2 n) H)).mono fun x w' ⟨v, L', he, ⟨k1, k2, r, e, hv, ho, hL⟩, H'⟩ => ⟨v, _, he, ⟨k1, k2, r, e, hv, ho, rfl⟩, HP.perm (hL ▸ H') (List.Perm.append_left e (by
    rw [← List.append_assoc, ← List.append_assoc]
    exact List.perm_append_comm.append_right L))⟩
theorem script_x {S w0 L} (A : List Blk) (b m1 m2 k : Nat) (bs : List Int) (hb : ∀ c ∈ bs, 0 ≤ c ∧ c < 256) (a : Option Addr) (len cap : Nat) (hs : Sli (A ++ L) a len 1 (u8l bs)) (hc : len ≤ cap) (hm : cap ≤ maxLen) (hk : k + len ≤ 90000) :
    Fn Try.prog 16 #[.slice a len cap, .pointer (some ⟨b, 0, none⟩)] S w0 (A ++ (tbS b m1 m2 k ++ L)) fun v L' => ∃ m1' m2' k' vo eo, k' ≤ k + len + 1 ∧ v = tupleOf [vo, .bool (scrB len bs).2] ∧ Own 33 7 vo (scrB len bs).1.length (flatC (scrB len bs).1) eo ∧ eo ++ (A ++ (tbS b m1' m2' k' ++ L)) = L' :=
  .mk fun w H => ((script_c (S := S) (w0 := w0) (L := A ++ L) b m1 m2 k bs hb a len cap hs hc hm hk).out w (HP.swapA (e := A) (tbS b m1 m2 k) H)).mono fun x w' ⟨v, L', he, ⟨k1, k2, k3, vo, eo, h1, hv, ho, hL⟩, H'⟩ => ⟨v, _, he, ⟨k1, k2, k3, vo, eo, h1, hv, ho, rfl⟩, HP.perm (hL ▸ H') (List.Perm.append_left eo (by
    rw [← List.append_assoc, ← List.append_assoc]
    exact List.perm_append_comm.append_right L))⟩
theorem leB_rng (k : Nat) (n : Int) : ∀ c ∈ leB k n, 0 ≤ c ∧ c < 256 := by
  induction k generalizing n with
  | zero => intro c h; cases h
  | succ k ih =>
    intro c h
    rcases List.mem_cons.1 h with rfl | h
    · omega
    · exact ih _ c h
theorem bI_rng (s : ByteArray) : ∀ c ∈ bI s, 0 ≤ c ∧ c < 256 := by
  intro c h
  obtain ⟨b, _, rfl⟩ := List.mem_map.1 h
  have := b.toNat_lt
  omega
theorem encArg_rng (cl i : Nat) (c : CallD) (h : tsel cl i = true → (txtA c i).size ≤ 128) : ∀ x ∈ encArg cl c i, 0 ≤ x ∧ x < 256 := by
  unfold encArg
  split
  · rename_i hs
    have := h hs
    intro x hx
    rcases List.mem_cons.1 hx with rfl | hx
    · show 0 ≤ ((txtA c i).size : Int) ∧ ((txtA c i).size : Int) < 256
      omega
    · exact bI_rng _ x hx
  · exact leB_rng _ _
theorem enc_rng {c : CallD} {m : Cll} (h : GoodE c m) : (∀ x ∈ encF c, 0 ≤ x ∧ x < 256) ∧ (encF c).length ≤ 300 ∧ 0 < (encF c).length := by
  have hr := clls_rng m (numF_mem h.nu).1
  have hnm := (numF_mem h.nu).2
  have htk := h.task
  have hA3 : m.args.toNat = 0 ∨ m.args.toNat = 1 ∨ m.args.toNat = 2 := by omega
  have hl : ∀ i : Nat, (tsel (clsT c.num) i = true → (txtA c i).size ≤ 128) → (encArg (clsT c.num) c i).length ≤ 129 := by
    intro i hi
    unfold encArg
    split
    · rename_i hs
      have := hi hs
      rw [List.length_cons, bI_len]
      show (txtA c i).size + 1 ≤ 129
      omega
    · rw [leB_len]; omega
  have hh : ∀ x ∈ hdr c, 0 ≤ x ∧ x < 256 := by
    intro x hx
    unfold hdr at hx
    simp only [List.mem_cons, List.not_mem_nil, or_false] at hx
    rcases hx with rfl | rfl | rfl | rfl | rfl
    · split <;> omega
    all_goals omega
  rw [encF_eq h.nu]
  have hl5 : (hdr c).length = 5 := rfl
  refine ⟨fun x hx => ?_, ?_, by rw [List.length_append]; omega⟩
  · rcases List.mem_append.1 hx with hx | hx
    · exact hh x hx
    · rcases hA3 with e | e | e
      · rw [e] at hx; cases hx
      · rw [e] at hx
        have e1 : encA (clsT c.num) c 1 = encArg (clsT c.num) c 0 := by simp [encA]
        rw [e1] at hx
        exact encArg_rng _ 0 c (h.t0 (by omega)) x hx
      · rw [e] at hx
        have e1 : encA (clsT c.num) c 2 = encArg (clsT c.num) c 0 ++ encArg (clsT c.num) c 1 := by simp [encA]
        rw [e1] at hx
        rcases List.mem_append.1 hx with hx | hx
        · exact encArg_rng _ 0 c (h.t0 (by omega)) x hx
        · exact encArg_rng _ 1 c (h.t1 (by omega)) x hx
  · rw [List.length_append]
    rcases hA3 with e | e | e
    · rw [e]; simp [encA]; omega
    · rw [e]
      have e1 : encA (clsT c.num) c 1 = encArg (clsT c.num) c 0 := by simp [encA]
      have := hl 0 (h.t0 (by omega))
      rw [e1]; omega
    · rw [e]
      have e1 : encA (clsT c.num) c 2 = encArg (clsT c.num) c 0 ++ encArg (clsT c.num) c 1 := by simp [encA]
      have := hl 0 (h.t0 (by omega))
      have := hl 1 (h.t1 (by omega))
      rw [e1, List.length_append]; omega
theorem clls_num (cur : Array Value) (h : cur.toList.take 90 = flatN clls) (k : Nat) (hk : k < 30) : ∃ nn : Int, (0 ≤ nn ∧ nn < 500) ∧ cur.toList[k * 3]? = some (.int .u32 nn) := by
  have hk2 : k < clls.length := hk
  have h1 := flatN_at clls k hk2
  refine ⟨clls[k].num, ⟨(clls_rng _ (List.getElem_mem _)).1, (clls_rng _ (List.getElem_mem _)).2.1⟩, ?_⟩
  have h2 := congrArg (fun (z : List Value) => z[0]?) h1
  rw [List.getElem?_take_of_lt (by omega), List.getElem?_drop, ← h, List.getElem?_take_of_lt (by omega)] at h2
  exact h2
def intl (l : List Nat) : List Value := l.map fun n => .int .i64 (n : Nat)
theorem intl_snoc (l : List Nat) (n : Nat) : intl (l ++ [n]) = intl l ++ [.int .i64 (n : Nat)] := by simp [intl]
theorem endsF_snoc (o : Nat) (l : List CallD) (c : CallD) : endsF o (l ++ [c]) = endsF o l ++ [o + (l.flatMap encF).length + (encF c).length] := by
  induction l generalizing o with
  | nil => simp [endsF]
  | cons d r ih =>
    rw [List.cons_append, endsF, ih, endsF, List.cons_append, List.flatMap_cons, List.length_append, ← Nat.add_assoc]
theorem endsF_len (o : Nat) (l : List CallD) : (endsF o l).length = l.length := by
  induction l generalizing o with
  | nil => rfl
  | cons d r ih => rw [endsF, List.length_cons, ih, List.length_cons]
end Go.Proofs.Ytlfoiemjjalnlaa
