/- Part 4 of what the last text of this claim leans on: rules of walks, contracts, plain facts. Conditions: those of each statement. -/
import Derived.Test.YtecbgehooembmaaGreatDoorQo3
set_option maxRecDepth 100000
namespace Go.Proofs.YtecbgehooembmaaGreatDoor
open Go Go.RowKit
namespace Rg
def OnceR (T : TypeId) (b off : Nat) (Q : List Value → List Blk → Prop) (v : Value) (L' : List Blk) : Prop :=
 v = .tuple #[] ∧ ∃ cs L2, Q cs L2 ∧ cs[off]? = some (.int .u32 0) ∧ cs[off + 1]? = some (.int .i32 1) ∧ ⟨true, b, .cells cs.toArray T (0, 0)⟩ :: L2 = L'
def OnceD (T : TypeId) (b off : Nat) (Q : List Value → List Blk → Prop) (v : Value) (L' : List Blk) : Prop :=
 v = .tuple #[] ∧ ∃ cs L2, Q cs L2 ∧ ⟨true, b, .cells ((cs.set off (.int .u32 1)).set (off + 1) (.int .i32 0)).toArray T (0, 0)⟩ :: L2 = L'
set_option maxHeartbeats 1600000 in
theorem slow_c {S w0 L} {T : TypeId} {b off : Nat} {cs : List Value} {Q : List Value → List Blk → Prop} {fv : Value} (h0 : cs[off]? = some (.int .u32 0)) (h1 : cs[off + 1]? = some (.int .i32 0))
  (hf : Fn Tryz.prog 129 #[fv] S w0 (⟨true, b, .cells (cs.set (off + 1) (.int .i32 1)).toArray T (0, 0)⟩ :: L) (OnceR T b off Q)) :
  Fn Tryz.prog 102 #[.pointer (some ⟨b, off, none⟩), .func (.func 129) #[fv] #[]] S w0 (⟨true, b, .cells cs.toArray T (0, 0)⟩ :: L) (OnceD T b off Q) := .mk fun w H => by
 have a0 := H.cellc h0
 have a1 := H.cellc h1
 have f0 : w.frozen? ⟨b, off, none⟩ = false := H.frz
 have f1 : w.frozen? ⟨b, off + 1, none⟩ = false := H.frz
 have hl := run_call_load (P:=Tryz.prog) Tryz.func115 (by kernel_rfl) (by kernel_rfl) (by kernel_rfl) .u32 (by kernel_rfl) (w:=w.setCell ⟨b, off + 1, none⟩ (.int .i32 1)) (a:=⟨b, off, none⟩) (x:=0) ((World.cell?_setCell_other _ ⟨b, off + 1, none⟩ ⟨b, off, none⟩ _ (by simp)).trans a0)
 have hnot : ∀ (x : Bool) (w : World), (Op.unary .not (.bool x)).run Tryz.prog w = .ok (.bool (!x)) w := fun _ _ => rfl
 have H1 := H.setc (off:=off + 1) (.int .i32 1)
 have hcall := hf.out _ H1
 go_enter_defers Tryz.func102, Tryz.ntmps102
 have H2c : ∀ (e : Ending) (w' : World), (∃ v L', e = .returned v ∧ OnceR T b off Q v L' ∧ HP S w0 w' L') → ∃ cs' L2, e = .returned (.tuple #[]) ∧ Q cs' L2 ∧ cs'[off]? = some (.int .u32 0) ∧ cs'[off + 1]? = some (.int .i32 1) ∧ HP S w0 w' (⟨true, b, .cells cs'.toArray T (0, 0)⟩ :: L2) := by
  rintro e w' ⟨_, _, rfl, ⟨rfl, cs', L2, hQ, hc0, hc1, rfl⟩, H2⟩
  exact ⟨cs', L2, rfl, hQ, hc0, hc1, H2⟩
 have hcall2 := hcall.mono H2c
 clear hcall H2c hf H1
 go_wp2_with (first | (go_at_call 116; refine (lock_free ⟨b, off + 1, none⟩ _ (by go_simp) (by go_simp)).mono ?_; rintro e w' ⟨rfl, rfl⟩) | (go_at_call 129; refine hcall2.mono ?_; rintro e w' ⟨cs', L2, rfl, hQ, hc0, hc1, H2⟩) | (go_at_call 101; go_in))
 refine leaves_cons (f:=118) (args:=#[.pointer (some ⟨b, off, none⟩), .bool true]) (by simp) (by simp [go_sem]) ?_
 refine (store_deferred ⟨b, off, none⟩ (.int .u32 0) .returning _ (H2.cellc hc0) H2.frz).mono ?_
 rintro e u' w'' ⟨rfl, rfl, rfl⟩
 have H3 := (H2.drew).setc (off:=off) (.int .u32 1)
 have hc1' : (cs'.set off (.int .u32 1))[off + 1]? = some (.int .i32 1) := by rw [List.getElem?_set_ne (by omega)]; exact hc1
 refine leaves_cons (f:=117) (args:=#[.pointer (some ⟨b, off + 1, none⟩)]) (by simp [settle]) (by simp [go_sem]) ?_
 refine (unlock_deferred ⟨b, off + 1, none⟩ _ _ (H3.cellc hc1') H3.frz).mono ?_
 rintro e u' w'' ⟨rfl, rfl, rfl⟩
 have H4 := H3.setc (off:=off + 1) (.int .i32 0)
 show Leaves _ _ _ _ [] .returning _
 exact ⟨.tuple #[], results_none rfl _ _ _, _, _, rfl, ⟨rfl, cs', L2, hQ, rfl⟩, H4⟩
theorem do_first {S w0 L} {T : TypeId} {b off : Nat} {cs : List Value} {Q : List Value → List Blk → Prop} {fv : Value} (h0 : cs[off]? = some (.int .u32 0)) (h1 : cs[off + 1]? = some (.int .i32 0))
  (hf : Fn Tryz.prog 129 #[fv] S w0 (⟨true, b, .cells (cs.set (off + 1) (.int .i32 1)).toArray T (0, 0)⟩ :: L) (OnceR T b off Q)) :
  Fn Tryz.prog 86 #[.pointer (some ⟨b, off, none⟩), .func (.func 129) #[fv] #[]] S w0 (⟨true, b, .cells cs.toArray T (0, 0)⟩ :: L) (OnceD T b off Q) := .mk fun w H => by
 have hl := run_call_load (P:=Tryz.prog) Tryz.func115 (by kernel_rfl) (by kernel_rfl) (by kernel_rfl) .u32 (by kernel_rfl) (H.cellc h0)
 have hnot : ∀ (x : Bool) (w : World), (Op.unary .not (.bool x)).run Tryz.prog w = .ok (.bool (!x)) w := fun _ _ => rfl
 have hs := (slow_c h0 h1 hf).out w H
 clear hf
 go_enter Tryz.func86, Tryz.ntmps86
 go_wp2_with (first | (go_at_call 102; refine hs.mono ?_; rintro e w' ⟨v, L', rfl, hD, H2⟩) | (go_at_call 101; go_in))
 go_end0
 obtain ⟨rfl, hD⟩ := hD
 exact ⟨_, _, rfl, ⟨rfl, hD⟩, H2⟩
theorem do_done {S w0 L} {T : TypeId} {b off : Nat} {cs : List Value} {fv : Value} (h0 : cs[off]? = some (.int .u32 1)) :
  Fn Tryz.prog 86 #[.pointer (some ⟨b, off, none⟩), fv] S w0 (⟨true, b, .cells cs.toArray T (0, 0)⟩ :: L) fun v L' => v = .tuple #[] ∧ ⟨true, b, .cells cs.toArray T (0, 0)⟩ :: L = L' := .mk fun w H => by
 have hl := run_call_load (P:=Tryz.prog) Tryz.func115 (by kernel_rfl) (by kernel_rfl) (by kernel_rfl) .u32 (by kernel_rfl) (H.cellc h0)
 have hnot : ∀ (x : Bool) (w : World), (Op.unary .not (.bool x)).run Tryz.prog w = .ok (.bool (!x)) w := fun _ _ => rfl
 go_enter Tryz.func86, Tryz.ntmps86
 go_wp2
 go_end0
 exact ⟨_, _, rfl, ⟨rfl, rfl⟩, H⟩
def wl : List ByteArray := [
 ⟨#[101, 120, 101, 99]⟩,
 ⟨#[119, 114, 105, 116, 101]⟩,
 ⟨#[114, 101, 97, 100]⟩,
 ⟨#[108, 105, 115, 116]⟩,
 ⟨#[114, 109, 100, 105, 114]⟩,
 ⟨#[114, 109, 102, 105, 108, 101]⟩,
 ⟨#[109, 107, 100, 105, 114]⟩,
 ⟨#[109, 107, 102, 105, 108, 101]⟩,
 ⟨#[109, 107, 108, 105, 110, 107]⟩,
 ⟨#[114, 101, 102, 101, 114]⟩,
 ⟨#[116, 114, 117, 110, 99, 97, 116, 101]⟩,
 ⟨#[]⟩,
 ⟨#[]⟩,
 ⟨#[]⟩,
 ⟨#[98, 105, 110, 100]⟩,
 ⟨#[99, 111, 110, 110, 101, 99, 116]⟩]
def wd (k : Nat) : ByteArray := wl.getD k ⟨#[]⟩
def nmd (k : Nat) : Bool := decide (wd k ≠ ⟨#[]⟩)
def kvW (l : List Nat) : List (Value × Value) := l.map fun i => (.string (wd i), .int .u16 ((2 ^ i : Nat) : Int))
def ixs : List Nat := (List.range 16).filter nmd
theorem wl_at (k : Nat) (h : k < 16) : (wl.map Value.string).toArray.toList[k]? = some (.string (wd k)) := by
 have hl : wl.length = 16 := rfl
 show (wl.map Value.string)[k]? = _
 rw [List.getElem?_map, List.getElem?_eq_getElem (by omega), Option.map_some, wd, List.getD_eq_getElem?_getD, List.getElem?_eq_getElem (by omega)]; rfl
theorem wl_new : ∀ k : Fin 16, nmd k.val = true → ∀ i : Fin 16, i.val < k.val → wd k.val ≠ wd i.val := by decide +kernel
theorem shl_ix : ∀ k : Fin 16, IntKind.u16.wrap (1 * 2 ^ (min (((k.val : Nat) : Int).toNat) 16)) = ((2 ^ k.val : Nat) : Int) := by decide +kernel
theorem fd_app_none {d : TypeDesc} {k : Value} {a : List (Value × Value)} {i : Nat} (h : ∀ p ∈ a, Instr.sameNow d k p.1 = some false) : fd d k a i = some none := by
 induction a generalizing i with
 | nil => rfl
 | cons p r ih =>
  simp only [fd, h p (by simp)]
  exact ih (fun q hq => h q (by simp [hq]))
theorem fd_kv {l : List Nat} {s : ByteArray} (h : ∀ c ∈ l, s ≠ wd c) : fd .string (.string s) (kvW l) 0 = some none := by
 apply fd_app_none
 intro p hp
 obtain ⟨c, hc, rfl⟩ := List.mem_map.1 hp
 simp [Instr.sameNow, ba_beq, h c hc]
abbrev wrd0 (b : Nat) : Blk := ⟨true, b, .cells [.int .u32 0, .int .i32 0, .int .u32 0, .map none].toArray 158 (0, 0)⟩
abbrev wrd1 (b m : Nat) : Blk := ⟨true, b, .cells [.int .u32 1, .int .i32 0, .int .u32 0, .map (some m)].toArray 158 (0, 0)⟩
theorem rnew_c {S w0 L} : Fn Tryz.prog 21 #[] S w0 L fun v L' => ∃ b, v = .pointer (some ⟨b, 0, none⟩) ∧ wrd0 b :: L = L' := by
 refine Fn0 Tryz.func21 Tryz.ntmps21 rfl ?_
 repeat' (first | refine h0p ?_ | refine h0e ?_ | refine h1h ?_ | (refine gR 0 (p_a (h:=h0d ?_))) | (refine gR 1 ?_ <;> (try refine q_e (by exact h0s (t:=158) (fun vs => (match vs with | [] => [Value.int .u32 0, Value.int .i32 0, Value.int .u32 0, Value.map none] | _ => [])) rfl (fun w => by kernel_rfl)) ?_; (try simp only [Value.cells]); (try simp only [zzC, zzN])) <;> (try refine h0f ?_; (refine h5b (t:=158) rfl rfl ?_; intro nb hnb; (try simp only [Value.cells]))) <;> (try refine p_a (h:=h0d ?_))))
 (refine h0v Tryz.results21 (.tmp rfl .nil) ?_)
 exact ⟨_, ⟨_, rfl, rfl⟩, fun _ H => H⟩
theorem words_c {S w0 L} : Fn Tryz.prog 62 #[] S w0 L fun v L' => v = .agg (wl.map Value.string).toArray ∧ L = L' := by
 refine Fn0 Tryz.func62 Tryz.ntmps62 rfl ?_
 repeat' (first | refine h0p ?_ | refine h0e ?_ | refine h1h ?_ | (refine gR 0 ?_ <;> (try refine h0f ?_; (refine h0i (t:=175) rfl Tryz.zeroValue175 ?_; intro nb hnb; (try simp only [Value.cells]))) <;> (try refine h0d ?_)) | (refine gR 1 ?_ <;> (try refine q_e (by exact h0s (t:=175) (fun vs => (match vs with | [(_, x0), (_, x1), (_, x2), (_, x3), (_, x4), (_, x5), (_, x6), (_, x7), (_, x8), (_, x9), (_, x10), (_, x11), (_, x12), (_, x13), (_, x14), (_, x15)] => [x0, x1, x2, x3, x4, x5, x6, x7, x8, x9, x10, x11, x12, x13, x14, x15] | _ => [])) rfl (fun w => by kernel_rfl)) ?_; (try simp only [Value.cells]); (try simp only [zzC, zzN])) <;> (try refine h0f ?_; (refine q_W ?_)) <;> (try refine h0d ?_)))
 (apply h5j Tryz.results62; exact rfl; (focus (repeat (first | exact fd0 | (with_reducible assumption) | apply fdA | apply fdS))); kernel_rfl; kernel_rfl; exact sz_175; exact c_16)
 exact ⟨_, ⟨rfl, rfl⟩, by intro w H; refine H.sub ?_; (try simp only [zzC, zzN]); repeat (first | exact List.Sublist.refl _ | refine List.Sublist.cons _ ?_)⟩
theorem rng_no {k : Nat} (h : nmd k = false) : (List.range (k + 1)).filter nmd = (List.range k).filter nmd := by
 rw [List.range_succ, List.filter_append]; simp [h]
theorem rng_yes {k : Nat} (h : nmd k = true) : (List.range (k + 1)).filter nmd = (List.range k).filter nmd ++ [k] := by
 rw [List.range_succ, List.filter_append]; simp [h]
set_option maxHeartbeats 1000000 in
theorem fill_c {S w0 L} (b : Nat) (sm : Int) : Fn Tryz.prog 129 #[.pointer (some ⟨b, 0, none⟩)] S w0 (⟨true, b, .cells [.int .u32 0, .int .i32 1, .int .u32 sm, .map none].toArray 158 (0, 0)⟩ :: L)
  (OnceR 158 b 0 fun cs L2 => ∃ m, cs = [.int .u32 0, .int .i32 1, .int .u32 sm, .map (some m)] ∧ L2 = h3m m (kvW ixs) :: L) := by
 refine Fn1 Tryz.func129 Tryz.ntmps129 rfl rfl ?_
 repeat' (first | (refine h2r (id:=0) ?_) | refine h0p ?_ | refine h0e ?_ | (refine gR 0 (q_m ?_) <;> (try refine h0f ?_; (refine K1_makeMap rfl ?_; intro nb hnb)) <;> (try refine p_n (h:=q_e (q_f fo_158_1) ?_)) <;> (try refine h0f ?_; (refine q_S ?_)) <;> (try refine h0d ?_)) | (refine gR 1 ?_ <;> (try refine h0f ?_; (refine h1k (F:=62) (by kernel_rfl) rfl rfl (words_c) ?_; rintro _ _ ⟨rfl, rfl⟩)) <;> (try refine p_m (h:=h0d ?_))))
 refine ⟨?_⟩
 obtain ⟨m, rfl⟩ : ∃ x, x = nb := ⟨_, rfl⟩
 refine h0r ?_
 refine h2s (γ:=Nat) (fun k => k ≤ 16) (fun k => 16 - k) (fun k => [(9, .int .i64 (k : Nat))]) [(0, _), (8, _)]
  (fun k => ⟨true, b, .cells [.int .u32 0, .int .i32 1, .int .u32 sm, .map (some m)].toArray 158 (0, 0)⟩ :: h3m m (kvW ((List.range k).filter nmd)) :: L)
  0 (.cons rfl (.cons rfl .nil)) (Nat.zero_le _) (by (focus (repeat (first | exact Sub.nil | refine Sub.cons rfl ?_)))) ?_ ?_
 ·intro w H
  exact H.perm (.swap _ _ _)
 intro k (hk : k ≤ 16)
 by_cases hlt : k < 16
 ·have hx : (wl.map Value.string).toArray.toList[((k : Nat) : Int).toNat]? = some (.string (wd k)) := by rw [Int.toNat_natCast]; exact wl_at k hlt
  have hsh := shl_ix ⟨k, hlt⟩
  have hnn := wl_new ⟨k, hlt⟩
  dsimp only at hnn hsh
  have hsz : (wl.map Value.string).toArray.size = 16 := rfl
  generalize (wl.map Value.string).toArray = W at *
  by_cases hd : nmd k = true
  ·have hf1 : fd .string (.string (wd k)) (kvW ((List.range k).filter nmd)) 0 = some none := fd_kv (fun c hc => hnn hd ⟨c, by have := List.mem_range.1 (List.mem_filter.1 hc).1; omega⟩ (List.mem_range.1 (List.mem_filter.1 hc).1))
   have hne : ¬ wd k = ⟨#[]⟩ := by simpa [nmd] using hd
   have hd' := Lib.hid hd
   clear hnn hd
   generalize hq : wd k = q at *
   have hq' := Lib.hid hq
   clear hq
   repeat' (first | refine h0p ?_ | refine h0e ?_ | refine h0t ?_ | refine h0x ?_ | refine h0r ?_ | refine h0u ?_ | refine h0j rfl ?_ | (refine gR 2 (p_e (q_b (r:=by exact h1d q_o)) (h:=h0d ?_))) | (refine gR 3 (p_m (h:=p_e (by apply h2n; exact rfl; exact rfl; (focus (apply r_ixv Tryz.underlying175; kernel_rfl; kernel_rfl; exact sz_9; omega; omega; (with_reducible assumption)))) (h:=p_a (h:=p_a (h:=h0d ?_)))))) | (refine gR 4 (p_m (h:=p_e (q_b (r:=by apply rb_strne_h; (with_reducible assumption))) (h:=h0d ?_)))) | ((apply h4c (i:=1) (id:=5) (m:=8); exact c_11; kernel_rfl; exact rfl) <;> (try refine q_t 0 (e:=c_6) (x:=by exact h0m rfl) (h:=q_t 1 (e:=c_6) (x:=by exact h0l rfl) (h:=q_t 2 (e:=c_6) (x:=by exact q_f fo_158_1) (h:=q_t 3 (e:=c_6) (x:=by exact q_l) (h:=q_t 4 (e:=c_6) (x:=by exact h0m rfl) (h:=q_t 5 (e:=c_6) (x:=by exact h0m rfl) (h:=q_t 6 (e:=c_6) (x:=by exact q_b (r:=by apply rb_shl; omega; (focus (simp only [IntKind.bits]; exact rfl)))) (h:=?_)))))))) <;> (try refine q_r 7 ?_; (apply h5i; exact rfl; exact rfl; exact rfl; exact h3n; exact Tryz.underlying156; exact Tryz.underlying9; exact trivial; (with_reducible assumption); (try simp only [List.set_cons_succ]); (try simp only [List.set_cons_zero])); refine h1g c_6 ?_) <;> (try refine h1e (by kernel_rfl) ?_)) | (refine gR 6 ?_ <;> (try refine q_e (q_b (r:=by apply h1r; exact c_5; (focus (refine IntWalk.i64_in _ ?_; omega)))) ?_) <;> (try refine p_m (h:=h0d ?_))))
   (try any_goals (exact absurd rfl hne))
   refine h0w (k + 1) ⟨by omega, by omega⟩ (by (focus (repeat (first | exact Sub.nil | refine Sub.cons rfl ?_)))) ?_
   have eb : kvW ((List.range (k + 1)).filter nmd) = kvW ((List.range k).filter nmd) ++ [(Value.string q, Value.int .u16 (IntKind.u16.wrap (1 * 2 ^ (min (((k : Nat) : Int).toNat) 16))))] := by
    rw [rng_yes hd'.out, kvW, List.map_append, hsh, ← hq'.out]; rfl
   rw [eb]
   exact fun _ H => H
  ·have he : wd k = ⟨#[]⟩ := by simpa [nmd] using hd
   have hd' := Lib.hid hd
   rw [he] at hx
   clear hnn hd he
   repeat' (first | refine h0p ?_ | refine h0e ?_ | refine h0t ?_ | refine h0x ?_ | refine h0r ?_ | refine h0u ?_ | refine h0j rfl ?_ | refine h0h rfl ?_ | (refine gR 2 (p_e (q_b (r:=by exact h1d q_o)) (h:=h0d ?_))) | (refine gR 3 (p_m (h:=p_e (by apply h2n; exact rfl; exact rfl; (focus (apply r_ixv Tryz.underlying175; kernel_rfl; kernel_rfl; exact sz_9; omega; omega; (with_reducible assumption)))) (h:=p_a (h:=p_a (h:=h0d ?_)))))) | (refine gR 4 (p_m (h:=p_e (q_b (r:=by exact rb_strne_s)) (h:=h0d ?_)))) | (refine gR 6 ?_ <;> (try refine q_e (q_b (r:=by apply h1r; exact c_5; (focus (refine IntWalk.i64_in _ ?_; omega)))) ?_) <;> (try refine p_m (h:=h0d ?_))))
   refine h0w (k + 1) ⟨by omega, by omega⟩ (by (focus (repeat (first | exact Sub.nil | refine Sub.cons rfl ?_)))) ?_
   rw [rng_no (by simpa using hd'.out)]
   exact fun _ H => H
 ·obtain rfl : k = 16 := by omega
  repeat' (first | refine h0p ?_ | refine h0e ?_ | refine h1u ?_ | refine h1n ?_ | refine h1v ?_ | refine h2o ?_ | refine h0h rfl ?_ | (refine gR 2 (p_e (q_b (r:=by exact h1j q_o)) (h:=h0d ?_))))
  (first | refine h0v Tryz.results129 .nil ?_ | refine h2w Tryz.results129 .nil ?_)
  refine ⟨_, ⟨rfl, _, h3m m (kvW ixs) :: L, ⟨m, rfl, rfl⟩, rfl, rfl, rfl⟩, by intro w H; refine H.sub ?_; (try simp only [zzC, zzN]); repeat (exact List.Sublist.refl _)⟩
def bitF (s : ByteArray) : List Nat → Option Nat
 | [] => none
 | i :: r => if s = wd i then some i else bitF s r
def bitV : Option Nat → Int
 | some i => ((2 ^ i : Nat) : Int)
 | none => 0
theorem fd_bit (s : ByteArray) (l : List Nat) (i : Nat) : ∃ r, fd .string (.string s) (kvW l) i = some r ∧ found r (.int .u16 0) = .int .u16 (bitV (bitF s l)) ∧ r.isSome = (bitF s l).isSome := by
 induction l generalizing i with
 | nil => exact ⟨none, rfl, rfl, rfl⟩
 | cons c r ih =>
  by_cases h : s = wd c
  ·exact ⟨some (i, .int .u16 ((2 ^ c : Nat) : Int)), by simp [kvW, fd, Instr.sameNow, ba_beq, h], by simp [bitF, h, found, bitV], by simp [bitF, h]⟩
  ·obtain ⟨q, h1, h2, h3⟩ := ih (i + 1)
   exact ⟨q, by simpa [kvW, fd, Instr.sameNow, ba_beq, h] using h1, by simpa [bitF, h] using h2, by simpa [bitF, h] using h3⟩
theorem one0_c {S w0 L} (b : Nat) (s : ByteArray) : Fn Tryz.prog 123 #[.pointer (some ⟨b, 0, none⟩), .string s] S w0 (wrd0 b :: L) fun v L' => ∃ m, v = h2y [.int .u16 (bitV (bitF s ixs)), .bool (bitF s ixs).isSome] ∧ wrd1 b m :: h3m m (kvW ixs) :: L = L' := by
 have hdo := do_first (S:=S) (w0:=w0) (L:=L) (T:=158) (b:=b) (off:=0) (cs:=[.int .u32 0, .int .i32 0, .int .u32 0, .map none]) rfl rfl (fill_c (L:=L) b 0)
 obtain ⟨r, hr, hv, hb⟩ := fd_bit s ixs 0
 generalize (bitF s ixs).isSome = fb at *
 generalize bitV (bitF s ixs) = bv at *
 generalize kvW ixs = kx at *
 refine Fn2 Tryz.func123 Tryz.ntmps123 rfl rfl ?_
 repeat' (first | refine h0p ?_ | refine h0e ?_ | refine h0u ?_ | refine h1h ?_ | refine h0h rfl ?_ | (refine gR 0 (p_a (h:=p_a (h:=h0d ?_)))) | (refine gR 1 (p_m (h:=p_e (q_b (r:=by exact h6h Tryz.underlying74)) (h:=h0d ?_)))) | (refine gR 3 (p_m (h:=p_n (h:=p_e (q_f fo_158_0) (h:=p_m (h:=q_e (by apply E_makeFunc; exact rfl; exact rfl) ?_))))) <;> (try refine h0f ?_; (refine h1k (F:=86) (by kernel_rfl) rfl rfl hdo ?_; rintro _ _ ⟨rfl, cs', L2, ⟨m, rfl, rfl⟩, rfl⟩; simp only [List.set_cons_zero, List.set_cons_succ, Nat.zero_add])) <;> (try refine h0d ?_)) | (refine gR 4 (p_m (h:=p_n (h:=p_e (q_f fo_158_1) (h:=p_e q_l (h:=p_m (h:=p_e (by apply E_lookup; exact rfl; exact rfl; exact h3n; exact Tryz.underlying156; exact Tryz.underlying9; exact trivial; exact Tryz.zeroValue32; (with_reducible assumption); (with_reducible assumption); (with_reducible assumption)) (h:=p_m (h:=p_x (h:=p_x (h:=p_a (h:=p_a (h:=h0d ?_))))))))))))) | (refine gR 5 (p_m (h:=p_m (h:=p_a (h:=p_a (h:=h0d ?_)))))))
 (refine h0v Tryz.results123 (.tmp rfl (.tmp rfl .nil)) ?_)
 exact ⟨_, ⟨m, rfl, rfl⟩, fun _ H => H⟩
theorem one1_c {S w0 L} (b m : Nat) (s : ByteArray) : Fn Tryz.prog 123 #[.pointer (some ⟨b, 0, none⟩), .string s] S w0 (wrd1 b m :: h3m m (kvW ixs) :: L) fun v L' => v = h2y [.int .u16 (bitV (bitF s ixs)), .bool (bitF s ixs).isSome] ∧ wrd1 b m :: h3m m (kvW ixs) :: L = L' := by
 have hdo := fun fv => do_done (S:=S) (w0:=w0) (L:=h3m m (kvW ixs) :: L) (T:=158) (b:=b) (off:=0) (cs:=[.int .u32 1, .int .i32 0, .int .u32 0, .map (some m)]) (fv:=fv) rfl
 obtain ⟨r, hr, hv, hb⟩ := fd_bit s ixs 0
 generalize (bitF s ixs).isSome = fb at *
 generalize bitV (bitF s ixs) = bv at *
 generalize kvW ixs = kx at *
 refine Fn2 Tryz.func123 Tryz.ntmps123 rfl rfl ?_
 repeat' (first | refine h0p ?_ | refine h0e ?_ | refine h0u ?_ | refine h1h ?_ | refine h0h rfl ?_ | (refine gR 0 (p_a (h:=p_a (h:=h0d ?_)))) | (refine gR 1 (p_m (h:=p_e (q_b (r:=by exact h6h Tryz.underlying74)) (h:=h0d ?_)))) | (refine gR 3 (p_m (h:=p_n (h:=p_e (q_f fo_158_0) (h:=p_m (h:=q_e (by apply E_makeFunc; exact rfl; exact rfl) ?_))))) <;> (try refine h0f ?_; (refine h1k (F:=86) (by kernel_rfl) rfl rfl (hdo _) ?_; rintro _ _ ⟨rfl, rfl⟩)) <;> (try refine h0d ?_)) | (refine gR 4 (p_m (h:=p_n (h:=p_e (q_f fo_158_1) (h:=p_e q_l (h:=p_m (h:=p_e (by apply E_lookup; exact rfl; exact rfl; exact h3n; exact Tryz.underlying156; exact Tryz.underlying9; exact trivial; exact Tryz.zeroValue32; (with_reducible assumption); (with_reducible assumption); (with_reducible assumption)) (h:=p_m (h:=p_x (h:=p_x (h:=p_a (h:=p_a (h:=h0d ?_))))))))))))) | (refine gR 5 (p_m (h:=p_m (h:=p_a (h:=p_a (h:=h0d ?_)))))))
 (refine h0v Tryz.results123 (.tmp rfl (.tmp rfl .nil)) ?_)
 exact ⟨_, ⟨rfl, rfl⟩, fun _ H => H⟩
def hasF (n m : Nat) : Bool := decide (h6b (m : Int) (n : Int) = 0)
theorem sh_bit (n k : Nat) (hn : n < 65536) (hk : k < 16) : 0 ≤ (n : Int).fdiv (2 ^ (min (((k : Nat) : Int).toNat) 16)) ∧ (n : Int).fdiv (2 ^ (min (((k : Nat) : Int).toNat) 16)) < 65536 ∧
  (n.testBit k = true → iand ((n : Int).fdiv (2 ^ (min (((k : Nat) : Int).toNat) 16))) 1 = 1) ∧ (n.testBit k = false → ¬ iand ((n : Int).fdiv (2 ^ (min (((k : Nat) : Int).toNat) 16))) 1 = 1) := by
 have e1 : (n : Int).fdiv (2 ^ (min (((k : Nat) : Int).toNat) 16)) = ((n / 2 ^ k : Nat) : Int) := by
  rw [Int.toNat_natCast, Nat.min_eq_left (by omega), Int.fdiv_eq_ediv_of_nonneg _ (Int.le_of_lt (Int.pow_pos (by omega)))]
  push_cast
  rfl
 rw [e1]
 have hle : n / 2 ^ k ≤ n := Nat.div_le_self _ _
 have e2 : iand ((n / 2 ^ k : Nat) : Int) 1 = ((n / 2 ^ k % 2 : Nat) : Int) := by
  show (((((n / 2 ^ k : Nat) : Int).toNat) &&& (1 : Int).toNat : Nat) : Int) = _
  rw [Int.toNat_natCast, show (1 : Int).toNat = 1 from rfl, Nat.and_one_is_mod]
 rw [e2, Nat.testBit_eq_decide_div_mod_eq]
 clear e1 e2
 generalize n / 2 ^ k = q at *
 refine ⟨by omega, by omega, fun h => ?_, fun h => ?_⟩
 ·have := of_decide_eq_true h
  omega
 ·have := of_decide_eq_false h
  omega
theorem has_c {S w0 L} (n m : Nat) (hn : n < 65536) (hm : m < 65536) : Fn Tryz.prog 91 #[.int .u16 (n : Int), .int .u16 (m : Int)] S w0 L fun v L' => v = .bool (hasF n m) ∧ L = L' := by
 refine Fn2 Tryz.func91 Tryz.ntmps91 rfl rfl ?_
 repeat' (first | refine h0p ?_ | refine h0e ?_ | refine h1h ?_ | (refine gR 0 (p_a (h:=h0d ?_))) | (refine gR 1 (p_m (h:=q_m ?_)) <;> (try refine q_e (q_b (r:=by refine rb_andn ?_ ?_; (focus (refine ⟨rfl, ⟨?_, ?_⟩⟩; omega; (focus (simp only [IntKind.bits]; omega)))); (focus (refine ⟨rfl, ⟨?_, ?_⟩⟩; omega; (focus (simp only [IntKind.bits]; omega)))))) ?_) <;> (try refine p_e (q_b (r:=by exact rb_eql)) (h:=p_a (h:=h0d ?_)))))
 (refine h0v Tryz.results91 (.tmp rfl .nil) ?_)
 exact ⟨_, ⟨rfl, rfl⟩, by intro w H; refine H.sub ?_; (try simp only [zzC, zzN]); repeat (exact List.Sublist.refl _)⟩
theorem join_c {S w0 L} {i : Nat} {q : Bool} {g n cap : Nat} {cur : Array Value} {T : TypeId} {fr : Nat × Nat} (xs : List (List UInt8)) (hi : L[i]? = some ⟨q, g, .cells cur T fr⟩) (hn : xs.length = n) (hc : n ≤ cap) (ht : cur.toList.take n = strs xs) (hl : (Lib.join xs [44]).length ≤ 140737488355328) (hN : n ≤ 140737488355328) :
  Fn Tryz.prog 63 #[.slice (some ⟨g, 0, none⟩) n cap, .string ⟨#[44]⟩] S w0 L fun v L' => v = .string (mB8 (Lib.join xs [44])) ∧ L = L' := by
 subst hn
 refine .mk fun w H => ?_
 have hg := H.get _ (List.mem_of_getElem? hi)
 have em : (xs.map mB8).map (fun x => x.data.toList) = xs := by
  rw [List.map_map]
  conv => rhs; rw [← List.map_id xs]
  rfl
 have h := strings_Join g 0 cap (xs.map mB8) ⟨#[44]⟩ w (fun j x hx => ?_) ?_ (by rw [List.length_map]; exact hN) (by rw [List.length_map]; exact hc) (by rw [em]; exact hl)
 ·rw [List.length_map, em] at h
  exact h.mono fun e w' ⟨he, hb⟩ => ⟨_, _, he, ⟨rfl, rfl⟩, H.ofBelow hb⟩
 ·rw [List.getElem?_map, Option.map_eq_some_iff] at hx
  obtain ⟨y, hy, rfl⟩ := hx
  have hj : j < xs.length := (List.getElem?_eq_some_iff.1 hy).1
  have h2 : (strs xs)[j]? = some (.string (mB8 y)) := by unfold strs; rw [List.getElem?_map, hy]; rfl
  rw [← ht, List.getElem?_take_of_lt hj] at h2
  unfold World.cell?
  rw [hg, Nat.zero_add]
  simpa using h2
 ·rcases Nat.lt_or_ge g w.heap.size with h1 | h1
  ·exact h1
  ·rw [Array.getElem?_eq_none h1] at hg; cases hg
def namesOf (l : List Nat) : List (List UInt8) := l.map fun i => lB (wd i)
def tixs (n : Nat) : List Nat := ixs.filter n.testBit
def joinT (l : List Nat) : List UInt8 := Lib.join (namesOf l) [44]
def textF (n : Nat) : ByteArray := if tixs n = [] then ⟨#[45]⟩ else mB8 (joinT (tixs n))
theorem namesOf_snoc (l : List Nat) (k : Nat) : namesOf (l ++ [k]) = namesOf l ++ [lB (wd k)] := by simp [namesOf]
theorem lens_le (l : List Nat) (h : ∀ i ∈ l, i < 16) : (joinT l).length ≤ 20 * l.length := by
 have hw : ∀ k : Fin 16, (wd k.val).size ≤ 8 := by decide +kernel
 have h1 : ∀ l : List Nat, (∀ i ∈ l, i < 16) → Lib.lens (namesOf l) ≤ 8 * l.length := by
  intro l
  induction l with
  | nil => intro _; exact Nat.le_refl _
  | cons i r ih =>
   intro h
   have h2 := ih (fun j hj => h j (List.mem_cons_of_mem _ hj))
   have h3 := hw ⟨i, h i (List.mem_cons_self ..)⟩
   have h4 := h3d (wd i)
   simp only [Lib.lens, namesOf, List.map_cons, List.sum_cons, List.length_cons] at h2 ⊢
   dsimp only at h3
   omega
 cases l with
 | nil => exact Nat.zero_le _
 | cons i r =>
  have h2 := h1 r (fun j hj => h j (List.mem_cons_of_mem _ hj))
  have h3 := hw ⟨i, h i (List.mem_cons_self ..)⟩
  have h4 := h3d (wd i)
  dsimp only at h3
  show (Lib.join (lB (wd i) :: namesOf r) [44]).length ≤ _
  rw [Lib.join_cons, List.length_append, Lib.joinTail_length]
  have h5 : (namesOf r).length = r.length := List.length_map ..
  simp only [List.length_cons, List.length_nil, h5]
  omega
def txs (n k : Nat) : List Nat := (List.range k).filter fun i => nmd i && n.testBit i
theorem txs_16 (n : Nat) : txs n 16 = tixs n := by
 unfold txs tixs ixs
 rw [List.filter_filter]
 congr 1
 funext i
 exact Bool.and_comm _ _
theorem txs_no {n k : Nat} (h : (nmd k && n.testBit k) = false) : txs n (k + 1) = txs n k := by
 unfold txs
 rw [List.range_succ, List.filter_append]; simp [h]
theorem txs_yes {n k : Nat} (h : (nmd k && n.testBit k) = true) : txs n (k + 1) = txs n k ++ [k] := by
 unfold txs
 rw [List.range_succ, List.filter_append]; simp [h]
theorem txs_len (n k : Nat) : (txs n k).length ≤ k := by
 have := List.length_filter_le (fun i => nmd i && n.testBit i) (List.range k)
 rwa [List.length_range] at this
theorem txs_lt (n k : Nat) : ∀ i ∈ txs n k, i < k := fun i hi => List.mem_range.1 (List.mem_filter.1 hi).1
theorem strs_snoc (l : List (List UInt8)) (x : List UInt8) : strs (l ++ [x]) = strs l ++ [.string (mB8 x)] := by simp [strs]
structure TxI (n : Nat) (g : Nat × Value × List Blk) : Prop where
 le : g.1 ≤ 16
 own : Own 9 1 g.2.1 (txs n g.1).length (strs (namesOf (txs n g.1))) g.2.2
set_option maxHeartbeats 2000000 in
theorem text_c {S w0 L} (n : Nat) (hn : n < 65536) : Fn Tryz.prog 34 #[.int .u16 (n : Int)] S w0 L fun v L' => v = .string (textF n) ∧ L = L' := by
 refine Fn1 Tryz.func34 Tryz.ntmps34 rfl rfl ?_
 repeat' (first | (refine h2r (id:=0) ?_) | refine h0p ?_ | refine h0e ?_ | (refine gR 0 (p_a (h:=h0d ?_))) | (refine gR 1 (p_a (h:=h0d ?_))) | (refine gR 2 ?_ <;> (try refine h0f ?_; (refine h1k (F:=62) (by kernel_rfl) rfl rfl (words_c) ?_; rintro _ _ ⟨rfl, rfl⟩)) <;> (try refine p_m (h:=h0d ?_))))
 refine ⟨?_⟩
 refine h0r ?_
 refine h2s (γ:=Nat × Value × List Blk) (TxI n) (fun g => 16 - g.1) (fun g => [(3, g.2.1), (7, .int .i64 (g.1 : Nat))]) [(0, _), (6, _)]
  (fun g => g.2.2 ++ L)
  (0, .slice none 0 0, []) (.cons rfl (.cons rfl .nil)) ⟨Nat.zero_le _, Own.nil _ _⟩ (by (focus (repeat (first | exact Sub.nil | refine Sub.cons rfl ?_)))) (fun _ H => H) ?_
 rintro ⟨k, v, e⟩ ⟨hk, hown⟩
 dsimp only at hk hown ⊢
 simp only [List.cons_append, List.nil_append]
 by_cases hlt : k < 16
 ·obtain ⟨hb1, hb2, hb3, hb4⟩ := sh_bit n k hn hlt
  have hx : (wl.map Value.string).toArray.toList[((k : Nat) : Int).toNat]? = some (.string (wd k)) := by rw [Int.toNat_natCast]; exact wl_at k hlt
  have hsz : (wl.map Value.string).toArray.size = 16 := rfl
  have hpl := txs_len n k
  generalize (wl.map Value.string).toArray = W at *
  by_cases hbit : n.testBit k = true
  ·have hb5 := hb3 hbit
   clear hb3 hb4
   by_cases hd : nmd k = true
   ·have hs1 := txs_yes (n:=n) (k:=k) (by rw [hd, hbit]; rfl)
    have hne : ¬ wd k = ⟨#[]⟩ := by simpa [nmd] using hd
    have hs1' := Lib.hid hs1
    clear hs1 hbit hd
    generalize txs n k = X at *
    generalize hq : wd k = q at *
    have hq' := Lib.hid hq
    clear hq
    repeat' (first | refine h0p ?_ | refine h0e ?_ | refine h0t ?_ | refine h0x ?_ | refine h0r ?_ | refine h0u ?_ | refine h0j rfl ?_ | (refine gR 3 (p_e (q_b (r:=by exact h1d q_o)) (h:=h0d ?_))) | (refine gR 4 (p_m (h:=p_e (by apply h2n; exact rfl; exact rfl; (focus (apply r_ixv Tryz.underlying175; kernel_rfl; kernel_rfl; exact sz_9; omega; omega; (with_reducible assumption)))) (h:=p_a (h:=p_a (h:=h0d ?_)))))) | (refine gR 5 (p_m (h:=p_m (h:=q_e (q_b (r:=by apply rb_shr; omega; (focus (simp only [IntKind.bits]; exact rfl)))) ?_))) <;> (try refine q_e (q_b (r:=by refine rb_and ?_ ?_; (focus (refine ⟨rfl, ⟨?_, ?_⟩⟩; omega; (focus (simp only [IntKind.bits]; omega)))); (focus (refine ⟨rfl, ⟨?_, ?_⟩⟩; omega; (focus (simp only [IntKind.bits]; omega)))))) ?_) <;> (try refine q_e (by exact q_b (r:=by refine h1i ?_; first | rfl | (with_reducible assumption) | (decide; done) | omega)) ?_) <;> (try refine p_m (h:=p_y (h0m rfl) (h:=p_y (q_b (r:=by apply rb_strne_h; (with_reducible assumption))) (h:=p_p (h:=h0d ?_)))))) | (refine gR 6 (p_m (h:=q_m ?_)) <;> (try refine h0f ?_; (refine h0o (t:=56) (m:=1) (e:=9) (fun vs => (match vs with | [(_, x0)] => [x0] | _ => [])) rfl rfl (fun w => by kernel_rfl) ?_; intro nb hnb; (try simp only [Value.cells]); (try simp only [zzC, zzN]))) <;> (try refine h0f ?_; (apply h2m; exact rfl; exact Tryz.underlying56; exact inf_9_i; exact inf_9_z; exact inf_9_s; exact inf_9_b; exact rfl; exact rfl; exact rfl; (with_reducible assumption); exact fd0; exact Nat.le_of_ble_eq_true rfl; exact c_25; exact rfl; exact h5u; omega; exact h4x; exact rfl; exact h6c; exact c_4; intro vA eA hownA)) <;> (try refine p_a (h:=h0d ?_))) | (refine gR 7 ?_ <;> (try refine q_e (q_b (r:=by apply h1r; exact c_5; (focus (refine IntWalk.i64_in _ ?_; omega)))) ?_) <;> (try refine p_m (h:=h0d ?_))))
    (try any_goals (exact absurd rfl hne))
    refine h0w (k + 1, vA, eA) ⟨⟨by dsimp only; omega, by dsimp only; rw [hs1'.out, namesOf_snoc, strs_snoc, mB8_lB, List.length_append, hq'.out]; exact hownA⟩, by dsimp only; omega⟩ (by (focus (repeat (first | exact Sub.nil | refine Sub.cons rfl ?_)))) (fun _ H => H)
   ·have hs1 := txs_no (n:=n) (k:=k) (by rw [Bool.eq_false_iff.2 hd]; rfl)
    have hne : wd k = ⟨#[]⟩ := by simpa [nmd] using hd
    rw [hne] at hx
    have hs1' := Lib.hid hs1
    clear hs1 hbit hd hne
    generalize txs n k = X at *
    repeat' (first | refine h0p ?_ | refine h0e ?_ | refine h0t ?_ | refine h0x ?_ | refine h0r ?_ | refine h0u ?_ | refine h0j rfl ?_ | refine h0h rfl ?_ | (refine gR 3 (p_e (q_b (r:=by exact h1d q_o)) (h:=h0d ?_))) | (refine gR 4 (p_m (h:=p_e (by apply h2n; exact rfl; exact rfl; (focus (apply r_ixv Tryz.underlying175; kernel_rfl; kernel_rfl; exact sz_9; omega; omega; (with_reducible assumption)))) (h:=p_a (h:=p_a (h:=h0d ?_)))))) | (refine gR 5 (p_m (h:=p_m (h:=q_e (q_b (r:=by apply rb_shr; omega; (focus (simp only [IntKind.bits]; exact rfl)))) ?_))) <;> (try refine q_e (q_b (r:=by refine rb_and ?_ ?_; (focus (refine ⟨rfl, ⟨?_, ?_⟩⟩; omega; (focus (simp only [IntKind.bits]; omega)))); (focus (refine ⟨rfl, ⟨?_, ?_⟩⟩; omega; (focus (simp only [IntKind.bits]; omega)))))) ?_) <;> (try refine q_e (by exact q_b (r:=by refine h1i ?_; first | rfl | (with_reducible assumption) | (decide; done) | omega)) ?_) <;> (try refine p_m (h:=p_y (h0m rfl) (h:=p_y (q_b (r:=by exact rb_strne_s)) (h:=p_p (h:=h0d ?_)))))) | (refine gR 7 ?_ <;> (try refine q_e (q_b (r:=by apply h1r; exact c_5; (focus (refine IntWalk.i64_in _ ?_; omega)))) ?_) <;> (try refine p_m (h:=h0d ?_))))
    refine h0w (k + 1, v, e) ⟨⟨by dsimp only; omega, by dsimp only; rw [hs1'.out]; exact hown⟩, by dsimp only; omega⟩ (by (focus (repeat (first | exact Sub.nil | refine Sub.cons rfl ?_)))) (fun _ H => H)
  ·have hb5 := hb4 (by simpa using hbit)
   have hs1 := txs_no (n:=n) (k:=k) (by rw [Bool.eq_false_iff.2 hbit, Bool.and_false])
   have hs1' := Lib.hid hs1
   clear hb3 hb4 hs1 hbit
   generalize txs n k = X at *
   repeat' (first | refine h0p ?_ | refine h0e ?_ | refine h0t ?_ | refine h0x ?_ | refine h0r ?_ | refine h0u ?_ | refine h0j rfl ?_ | refine h0h rfl ?_ | (refine gR 3 (p_e (q_b (r:=by exact h1d q_o)) (h:=h0d ?_))) | (refine gR 4 (p_m (h:=p_e (by apply h2n; exact rfl; exact rfl; (focus (apply r_ixv Tryz.underlying175; kernel_rfl; kernel_rfl; exact sz_9; omega; omega; (with_reducible assumption)))) (h:=p_a (h:=p_a (h:=h0d ?_)))))) | (refine gR 5 (p_m (h:=p_m (h:=q_e (q_b (r:=by apply rb_shr; omega; (focus (simp only [IntKind.bits]; exact rfl)))) ?_))) <;> (try refine q_e (q_b (r:=by refine rb_and ?_ ?_; (focus (refine ⟨rfl, ⟨?_, ?_⟩⟩; omega; (focus (simp only [IntKind.bits]; omega)))); (focus (refine ⟨rfl, ⟨?_, ?_⟩⟩; omega; (focus (simp only [IntKind.bits]; omega)))))) ?_) <;> (try refine p_e (q_b (r:=by exact h1o q_o)) (h:=p_m (h:=p_z (h:=p_z (h:=p_p (h:=h0d ?_))))))) | (refine gR 7 ?_ <;> (try refine q_e (q_b (r:=by apply h1r; exact c_5; (focus (refine IntWalk.i64_in _ ?_; omega)))) ?_) <;> (try refine p_m (h:=h0d ?_))))
   refine h0w (k + 1, v, e) ⟨⟨by dsimp only; omega, by dsimp only; rw [hs1'.out]; exact hown⟩, by dsimp only; omega⟩ (by (focus (repeat (first | exact Sub.nil | refine Sub.cons rfl ?_)))) (fun _ H => H)
 ·obtain rfl : k = 16 := by omega
  rw [txs_16] at hown
  have hlen : (tixs n).length ≤ 16 := by rw [← txs_16]; exact txs_len n 16
  have hjl := lens_le (tixs n) (fun i hi => txs_lt n 16 i (by rw [txs_16]; exact hi))
  have hT : textF n = if tixs n = [] then ⟨#[45]⟩ else mB8 (joinT (tixs n)) := rfl
  rw [hT]
  clear hT
  generalize tixs n = X at *
  by_cases h0 : X = []
  ·subst h0
   rw [if_pos rfl]
   rcases hown.2 with ⟨rfl, -, rfl⟩ | ⟨g, cap, cur, rfl, rfl, -, -, -, -⟩
   all_goals clear hown
   all_goals repeat' (first | refine h0p ?_ | refine h0e ?_ | refine h1u ?_ | refine h1n ?_ | refine h1f ?_ | refine h1v ?_ | refine h2o ?_ | refine h1h ?_ | refine h0j rfl ?_ | refine h0h rfl ?_ | (refine gR 3 (p_e (q_b (r:=by exact h1j q_o)) (h:=h0d ?_))) | (refine gR 8 (p_m (h:=q_e (by apply h0g; exact rfl; exact (fun _ => BigFrame.builtin_len ..); apply h0k Tryz.underlying56; exact h4y) ?_)) <;> (try refine q_e (by exact q_b (r:=by refine h1i ?_; first | rfl | (with_reducible assumption) | (decide; done) | omega)) ?_) <;> (try refine h0d ?_)) | (refine gR 9 (p_a (h:=h0d ?_))))
   all_goals
    (refine h0v Tryz.results34 (.tmp rfl .nil) ?_)
    exact ⟨_, ⟨rfl, rfl⟩, by intro w H; refine H.sub ?_; (try simp only [zzC, zzN]); repeat (first | exact List.Sublist.refl _ | refine List.Sublist.cons _ ?_)⟩
  ·rw [if_neg h0]
   have hpos : 0 < X.length := List.length_pos_iff.2 h0
   obtain ⟨g, cap, cur, rfl, rfl, h1, h2, h3, h4⟩ := hown.some hpos
   rw [Nat.mul_one] at h4
   unfold maxLen at h2
   have hj := fun (L : List Blk) => join_c (S:=S) (w0:=w0) (L:=⟨true, g, .cells cur 9 (0, 0)⟩ :: L) (i:=0) (cap:=cap) (n:=X.length) (namesOf X) rfl (List.length_map ..) h1 h4 (by show (joinT X).length ≤ _; omega) (by omega)
   simp only [List.cons_append, List.nil_append]
   clear hown h3 h4 h0
   repeat' (first | refine h0p ?_ | refine h0e ?_ | refine h1u ?_ | refine h1n ?_ | refine h1v ?_ | refine h0u ?_ | refine h2o ?_ | refine h1h ?_ | refine h0h rfl ?_ | (refine gR 3 (p_e (q_b (r:=by exact h1j q_o)) (h:=h0d ?_))) | (refine gR 8 (p_m (h:=p_e (by apply h0g; exact rfl; exact (fun _ => BigFrame.builtin_len ..); apply h0k Tryz.underlying56; exact h4y) (h:=p_e (q_b (r:=by exact h1o q_o)) (h:=h0d ?_))))) | (refine gR 10 (q_m ?_) <;> (try refine h0f ?_; (refine h1k (F:=63) (by kernel_rfl) rfl rfl (hj _) ?_; rintro _ _ ⟨rfl, rfl⟩)) <;> (try refine p_a (h:=h0d ?_))))
   (refine h0v Tryz.results34 (.tmp rfl .nil) ?_)
   exact ⟨_, ⟨rfl, rfl⟩, by intro w H; refine H.sub ?_; (try simp only [zzC, zzN]); repeat (first | exact List.Sublist.refl _ | refine List.Sublist.cons _ ?_)⟩
def rgC : List Value := ixs.flatMap fun (i : Nat) => [.int .i64 ((i : Nat) : Int), .string (wd i)]
theorem and_pow (a i : Nat) : a &&& 2 ^ i = if a.testBit i then 2 ^ i else 0 := by
 apply Nat.eq_of_testBit_eq
 intro j
 rw [Nat.testBit_and, Nat.testBit_two_pow]
 by_cases h : i = j
 ·subst h
  cases hb : a.testBit i
  ·simp
  ·simp
 ·by_cases hb : a.testBit i = true
  ·rw [if_pos hb, Nat.testBit_two_pow]; simp [h]
  ·rw [if_neg hb]; simp [h]
theorem or_pow (a i : Nat) (h : a.testBit i = false) : a ||| 2 ^ i = a + 2 ^ i := by
 induction i generalizing a with
 | zero =>
  have h0 : a % 2 = 0 := by rw [Nat.testBit_zero] at h; have := of_decide_eq_false h; omega
  have e1 : (a ||| 1) / 2 = a / 2 := by rw [Nat.or_div_two]; simp
  have e2 : (a ||| 1) % 2 = 1 := by rw [Nat.or_mod_two_eq_one]; right; rfl
  show a ||| 1 = a + 1
  omega
 | succ i ih =>
  have h1 := ih (a / 2) (by rw [Nat.testBit_succ] at h; exact h)
  have hp : 2 ^ (i + 1) = 2 ^ i * 2 := Nat.pow_succ ..
  have e1 : (a ||| 2 ^ (i + 1)) / 2 = a / 2 + 2 ^ i := by
   rw [Nat.or_div_two, ← h1, hp, Nat.mul_div_cancel _ (by omega)]
  have e2 : (a ||| 2 ^ (i + 1)) % 2 = a % 2 := by
   have := Nat.or_mod_two_eq_one (a:=a) (b:=2 ^ (i + 1))
   omega
  omega
def parseF : Nat → List (List UInt8) → Nat × Nat
 | acc, [] => (acc, 0)
 | acc, x :: r => match bitF (mB8 x) ixs with
  | none => (0, 202)
  | some i => if acc.testBit i then (0, 206) else parseF (acc + 2 ^ i) r
theorem bitF_mem {s : ByteArray} {l : List Nat} {i : Nat} (h : bitF s l = some i) : i ∈ l ∧ s = wd i := by
 induction l with
 | nil => cases h
 | cons c r ih =>
  rw [bitF] at h
  by_cases hc : s = wd c
  ·rw [if_pos hc] at h
   cases h
   exact ⟨List.mem_cons_self .., hc⟩
  ·rw [if_neg hc] at h
   obtain ⟨h1, h2⟩ := ih h
   exact ⟨List.mem_cons_of_mem _ h1, h2⟩
theorem ixs_lt : ∀ i ∈ ixs, i < 16 := fun i h => List.mem_range.1 (List.mem_filter.1 h).1
theorem parse_step (acc i : Nat) (ha : acc < 65536) (hi : i < 16) : ((acc.testBit i = true → ¬ iand (acc : Int) ((2 ^ i : Nat) : Int) = 0) ∧ (acc.testBit i = false → iand (acc : Int) ((2 ^ i : Nat) : Int) = 0 ∧ ior (acc : Int) ((2 ^ i : Nat) : Int) = ((acc + 2 ^ i : Nat) : Int))) ∧ acc ||| 2 ^ i < 65536 := by
 have hp := Nat.two_pow_pos i
 have hle : 2 ^ i < 2 ^ 16 := Nat.pow_lt_pow_right (by omega) hi
 have e1 : iand (acc : Int) ((2 ^ i : Nat) : Int) = ((acc &&& 2 ^ i : Nat) : Int) := rfl
 have e2 : ior (acc : Int) ((2 ^ i : Nat) : Int) = ((acc ||| 2 ^ i : Nat) : Int) := rfl
 have e3 : acc ||| 2 ^ i < 2 ^ 16 := Nat.or_lt_two_pow ha hle
 rw [e1, e2, and_pow]
 refine ⟨⟨fun h => ?_, fun h => ?_⟩, e3⟩
 ·rw [if_pos h]; omega
 ·rw [if_neg (by simp [h]), or_pow _ _ h]; exact ⟨rfl, rfl⟩
def wst (b : Nat) : Option Nat → List Blk
 | none => [wrd0 b]
 | some m => [wrd1 b m, h3m m (kvW ixs)]
structure PaI (P : List (List UInt8)) (g : Nat × Nat × Option Nat) : Prop where
 le : g.1 ≤ P.length
 lt : g.2.1 < 65536
 eq : parseF 0 P = parseF g.2.1 (P.drop g.1)
 is : g.1 = P.length → g.2.2.isSome = true
theorem strs_at (P : List (List UInt8)) (k : Nat) (h : k < P.length) : (strs P).toArray.toList[k]? = some (.string (mB8 P[k])) := by
 show (strs P)[k]? = _
 unfold strs
 rw [List.getElem?_map, List.getElem?_eq_getElem h]; rfl
set_option maxHeartbeats 2000000 in
theorem parse_c {S w0 L} (b : Nat) (o : Option Nat) (s : ByteArray) (hs : s.size ≤ 1000000) : Fn Tryz.prog 114 #[.pointer (some ⟨b, 0, none⟩), .string s] S w0 (wst b o ++ L) fun v L' => ∃ m, v = h2y [.int .u16 ((parseF 0 (h1p 44 (lB s))).1 : Nat), .int .i64 ((parseF 0 (h1p 44 (lB s))).2 : Nat)] ∧ wst b (some m) ++ L = L' := by
 have hsp := fun (L : List Blk) => split1_c (S:=S) (w0:=w0) (L:=L) s hs 44
 have hlen := splitC_len 44 (lB s)
 have hcl : (lB s).count 44 ≤ s.size := by rw [← h3d]; exact List.count_le_length
 generalize h1p 44 (lB s) = P at *
 have hpos : 0 < P.length := by omega
 have hN : P.length ≤ 1000001 := by omega
 clear hlen hcl
 refine Fn2 Tryz.func114 Tryz.ntmps114 rfl rfl ?_
 repeat' (first | (refine h2r (id:=0) ?_) | refine h0p ?_ | refine h0e ?_ | refine h0u ?_ | refine h0h rfl ?_ | (refine gR 0 (p_a (h:=p_a (h:=h0d ?_)))) | (refine gR 1 (p_m (h:=p_e (q_b (r:=by exact h6h Tryz.underlying74)) (h:=h0d ?_)))) | (refine gR 3 (p_a (h:=h0d ?_))) | (refine gR 4 (q_m ?_) <;> (try refine h0f ?_; (refine q_c 47 (c:=by apply hsp) (h:=?_); rintro _ _ ⟨nb, rfl, rfl⟩; (try simp only [zzE, zzF]))) <;> (try refine p_e (by apply h0g; exact rfl; exact (fun _ => BigFrame.builtin_len ..); apply h0k Tryz.underlying56; exact h4y) (h:=p_m (h:=h0d ?_)))))
 refine ⟨?_⟩
 refine h0r ?_
 refine h2s (γ:=Nat × Nat × Option Nat) (PaI P) (fun g => P.length - g.1) (fun g => [(16, .int .i64 (g.1 : Nat)), (6, .int .u16 (g.2.1 : Nat))]) [(0, _), (14, _), (15, _)]
  (fun g => ⟨true, nb, .cells (strs P).toArray 9 (0, 0)⟩ :: (wst b g.2.2 ++ L))
  (0, 0, o) (.cons rfl (.cons rfl (.cons rfl .nil))) ⟨Nat.zero_le _, by dsimp only; omega, rfl, fun h => by dsimp only at h; omega⟩ (by (focus (repeat (first | exact Sub.nil | refine Sub.cons rfl ?_)))) (fun _ H => H) ?_
 rintro ⟨k, acc, o⟩ ⟨hk, ha, he, his⟩
 dsimp only at hk ha he his ⊢
 have hsz : (strs P).toArray.size = P.length := by rw [List.size_toArray, strs_len]
 by_cases hlt : k < P.length
 ·have hx := strs_at P k hlt
  rw [List.drop_eq_getElem_cons hlt] at he
  clear his
  generalize P[k] = x at hx he
  have h0 := fun (L : List Blk) (i : Nat) (hi : L[i]? = some (wrd0 b)) => Fn.at1 hi (one0_c (S:=S) (w0:=w0) b (mB8 x))
  have h1 := fun (m : Nat) (L : List Blk) (i j : Nat) (hi : L[i]? = some (wrd1 b m)) (hj : (L.eraseIdx i)[j]? = some (h3m m (kvW ixs))) => Fn.at2 hi hj (one1_c (S:=S) (w0:=w0) b m (mB8 x))
  rw [parseF] at he
  cases hb : bitF (mB8 x) ixs with
  | none =>
   simp only [hb, bitV, Option.isSome_none] at he h0 h1
   rw [he]
   clear he hb
   rcases o with _ | m
   ·simp only [wst, List.cons_append, List.nil_append]
    repeat' (first | refine h0p ?_ | refine h0e ?_ | refine h4u ?_ | refine h1f ?_ | refine h2p ?_ | refine h0r ?_ | refine h0u ?_ | refine h1h ?_ | refine h0j rfl ?_ | (refine gR 5 (p_e (q_b (r:=by exact h1d q_o)) (h:=h0d ?_))) | (refine gR 6 (p_e (by apply h0n; exact rfl; exact rfl; (focus (apply h3e Tryz.underlying56 sz_9; omega; omega; exact c_1))) (h:=p_e (by apply h1l (t:=9); exact rfl; exact fd0; kernel_rfl; kernel_rfl; (with_reducible assumption)) (h:=p_a (h:=h0d ?_))))) | (refine gR 7 (p_m (h:=q_m ?_)) <;> (try refine h0f ?_; (refine q_c 123 (c:=by apply h0; exact c_9) (h:=?_); rintro _ _ ⟨m, rfl, rfl⟩; (try simp only [zzE, zzF]))) <;> (try refine p_m (h:=p_x (h:=p_x (h:=p_a (h:=p_a (h:=h0d ?_))))))) | (refine gR 8 (p_m (h:=p_e (by apply E_un; exact rfl; exact h4z) (h:=p_a (h:=h0d ?_))))) | (refine gR 9 (p_a (h:=p_a (h:=h0d ?_)))))
    (refine h0v Tryz.results114 (.tmp rfl (.tmp rfl .nil)) ?_)
    exact ⟨_, ⟨m, rfl, rfl⟩, by (try simp only [wst]); (try simp only [zzC, zzN]); intro w H; refine Sel.out ?_ H; (try simp only [zzC, zzN]); repeat (first | exact Sel.refl _ | (apply Sel.cons; exact fd0; (try simp only [zzE, zzF])) | apply Sel.drop)⟩
   ·simp only [wst, List.cons_append, List.nil_append]
    have h1 := h1 m
    repeat' (first | refine h0p ?_ | refine h0e ?_ | refine h4u ?_ | refine h1f ?_ | refine h2p ?_ | refine h0r ?_ | refine h0u ?_ | refine h1h ?_ | refine h0j rfl ?_ | (refine gR 5 (p_e (q_b (r:=by exact h1d q_o)) (h:=h0d ?_))) | (refine gR 6 (p_e (by apply h0n; exact rfl; exact rfl; (focus (apply h3e Tryz.underlying56 sz_9; omega; omega; exact c_1))) (h:=p_e (by apply h1l (t:=9); exact rfl; exact fd0; kernel_rfl; kernel_rfl; (with_reducible assumption)) (h:=p_a (h:=h0d ?_))))) | (refine gR 7 (p_m (h:=q_m ?_)) <;> (try refine h0f ?_; (refine q_c 123 (c:=by apply h1; exact c_9; exact c_9) (h:=?_); rintro _ _ ⟨rfl, rfl⟩; (try simp only [zzE, zzF]))) <;> (try refine p_m (h:=p_x (h:=p_x (h:=p_a (h:=p_a (h:=h0d ?_))))))) | (refine gR 8 (p_m (h:=p_e (by apply E_un; exact rfl; exact h4z) (h:=p_a (h:=h0d ?_))))) | (refine gR 9 (p_a (h:=p_a (h:=h0d ?_)))))
    (refine h0v Tryz.results114 (.tmp rfl (.tmp rfl .nil)) ?_)
    exact ⟨_, ⟨m, rfl, rfl⟩, by (try simp only [wst]); (try simp only [zzC, zzN]); intro w H; refine Sel.out ?_ H; (try simp only [zzC, zzN]); repeat (first | exact Sel.refl _ | (apply Sel.cons; exact fd0; (try simp only [zzE, zzF])) | apply Sel.drop)⟩
  | some i =>
   have hi := ixs_lt i (bitF_mem hb).1
   simp only [hb, bitV, Option.isSome_some] at he h0 h1
   obtain ⟨⟨hs1, hs2⟩, hs3⟩ := parse_step acc i ha hi
   have hs5 : 2 ^ i < 2 ^ 16 := Nat.pow_lt_pow_right (by omega) hi
   clear hb
   cases ht : acc.testBit i
   ·obtain ⟨hs2, hs4⟩ := hs2 ht
    rw [ht] at he
    rw [or_pow _ _ ht] at hs3
    have he' := Lib.hid he
    have hs4' := Lib.hid hs4
    clear hs1 ht he hs4
    generalize hq : 2 ^ i = q at *
    have hq' := Lib.hid hq
    clear hq
    rcases o with _ | m
    ·simp only [wst, List.cons_append, List.nil_append]
     repeat' (first | refine h0p ?_ | refine h0e ?_ | refine h0t ?_ | refine h0x ?_ | refine h0r ?_ | refine h0u ?_ | refine h0j rfl ?_ | refine h0h rfl ?_ | (refine gR 5 (p_e (q_b (r:=by exact h1d q_o)) (h:=h0d ?_))) | (refine gR 6 (p_e (by apply h0n; exact rfl; exact rfl; (focus (apply h3e Tryz.underlying56 sz_9; omega; omega; exact c_1))) (h:=p_e (by apply h1l (t:=9); exact rfl; exact fd0; kernel_rfl; kernel_rfl; (with_reducible assumption)) (h:=p_a (h:=h0d ?_))))) | (refine gR 7 (p_m (h:=q_m ?_)) <;> (try refine h0f ?_; (refine q_c 123 (c:=by apply h0; exact c_9) (h:=?_); rintro _ _ ⟨m, rfl, rfl⟩; (try simp only [zzE, zzF]))) <;> (try refine p_m (h:=p_x (h:=p_x (h:=p_a (h:=p_a (h:=h0d ?_))))))) | (refine gR 8 (p_m (h:=p_e (by apply E_un; exact rfl; exact h4a) (h:=p_a (h:=h0d ?_))))) | (refine gR 10 (p_m (h:=q_m ?_)) <;> (try refine q_e (q_b (r:=by refine rb_and ?_ ?_; (focus (refine ⟨rfl, ⟨?_, ?_⟩⟩; omega; (focus (simp only [IntKind.bits]; omega)))); (focus (refine ⟨rfl, ⟨?_, ?_⟩⟩; omega; (focus (simp only [IntKind.bits]; omega)))))) ?_) <;> (try refine q_e (by exact q_b (r:=by refine h3o ?_; first | rfl | (with_reducible assumption) | (decide; done) | omega)) ?_) <;> (try refine p_a (h:=h0d ?_))) | (refine gR 12 (p_m (h:=q_m ?_)) <;> (try refine q_e (q_b (r:=by refine rb_or ?_ ?_; (focus (refine ⟨rfl, ⟨?_, ?_⟩⟩; omega; (focus (simp only [IntKind.bits]; omega)))); (focus (refine ⟨rfl, ⟨?_, ?_⟩⟩; omega; (focus (simp only [IntKind.bits]; omega)))))) ?_) <;> (try refine p_a (h:=h0d ?_))) | (refine gR 13 ?_ <;> (try refine q_e (q_b (r:=by apply h1r; exact c_5; (focus (refine IntWalk.i64_in _ ?_; omega)))) ?_) <;> (try refine p_m (h:=h0d ?_))))
     refine h0w (k + 1, acc + q, some m) ⟨⟨by dsimp only; omega, by dsimp only; omega, by dsimp only; rw [he'.out]; rfl, fun _ => rfl⟩, by dsimp only; omega⟩ (by rw [← hs4'.out]; (focus (repeat (first | exact Sub.nil | refine Sub.cons rfl ?_)))) (by (try simp only [wst]); (try simp only [zzC, zzN]); intro w H; refine Sel.out ?_ H; (try simp only [zzC, zzN]); repeat (first | exact Sel.refl _ | (apply Sel.cons; exact h3n; (try simp only [zzE, zzF]))))
    ·simp only [wst, List.cons_append, List.nil_append]
     have h1 := h1 m
     repeat' (first | refine h0p ?_ | refine h0e ?_ | refine h0t ?_ | refine h0x ?_ | refine h0r ?_ | refine h0u ?_ | refine h0j rfl ?_ | refine h0h rfl ?_ | (refine gR 5 (p_e (q_b (r:=by exact h1d q_o)) (h:=h0d ?_))) | (refine gR 6 (p_e (by apply h0n; exact rfl; exact rfl; (focus (apply h3e Tryz.underlying56 sz_9; omega; omega; exact c_1))) (h:=p_e (by apply h1l (t:=9); exact rfl; exact fd0; kernel_rfl; kernel_rfl; (with_reducible assumption)) (h:=p_a (h:=h0d ?_))))) | (refine gR 7 (p_m (h:=q_m ?_)) <;> (try refine h0f ?_; (refine q_c 123 (c:=by apply h1; exact c_9; exact c_9) (h:=?_); rintro _ _ ⟨rfl, rfl⟩; (try simp only [zzE, zzF]))) <;> (try refine p_m (h:=p_x (h:=p_x (h:=p_a (h:=p_a (h:=h0d ?_))))))) | (refine gR 8 (p_m (h:=p_e (by apply E_un; exact rfl; exact h4a) (h:=p_a (h:=h0d ?_))))) | (refine gR 10 (p_m (h:=q_m ?_)) <;> (try refine q_e (q_b (r:=by refine rb_and ?_ ?_; (focus (refine ⟨rfl, ⟨?_, ?_⟩⟩; omega; (focus (simp only [IntKind.bits]; omega)))); (focus (refine ⟨rfl, ⟨?_, ?_⟩⟩; omega; (focus (simp only [IntKind.bits]; omega)))))) ?_) <;> (try refine q_e (by exact q_b (r:=by refine h3o ?_; first | rfl | (with_reducible assumption) | (decide; done) | omega)) ?_) <;> (try refine p_a (h:=h0d ?_))) | (refine gR 12 (p_m (h:=q_m ?_)) <;> (try refine q_e (q_b (r:=by refine rb_or ?_ ?_; (focus (refine ⟨rfl, ⟨?_, ?_⟩⟩; omega; (focus (simp only [IntKind.bits]; omega)))); (focus (refine ⟨rfl, ⟨?_, ?_⟩⟩; omega; (focus (simp only [IntKind.bits]; omega)))))) ?_) <;> (try refine p_a (h:=h0d ?_))) | (refine gR 13 ?_ <;> (try refine q_e (q_b (r:=by apply h1r; exact c_5; (focus (refine IntWalk.i64_in _ ?_; omega)))) ?_) <;> (try refine p_m (h:=h0d ?_))))
     refine h0w (k + 1, acc + q, some m) ⟨⟨by dsimp only; omega, by dsimp only; omega, by dsimp only; rw [he'.out]; rfl, fun _ => rfl⟩, by dsimp only; omega⟩ (by rw [← hs4'.out]; (focus (repeat (first | exact Sub.nil | refine Sub.cons rfl ?_)))) (by (try simp only [wst]); (try simp only [zzC, zzN]); intro w H; refine Sel.out ?_ H; (try simp only [zzC, zzN]); repeat (first | exact Sel.refl _ | (apply Sel.cons; exact h3n; (try simp only [zzE, zzF]))))
   ·have hs1 := hs1 ht
    rw [ht, if_pos rfl] at he
    rw [he]
    clear hs2 ht he
    generalize hq : 2 ^ i = q at *
    have hq' := Lib.hid hq
    clear hq
    rcases o with _ | m
    ·simp only [wst, List.cons_append, List.nil_append]
     repeat' (first | refine h0p ?_ | refine h0e ?_ | refine h4u ?_ | refine h1f ?_ | refine h2p ?_ | refine h0r ?_ | refine h0u ?_ | refine h1h ?_ | refine h0j rfl ?_ | refine h0h rfl ?_ | (refine gR 5 (p_e (q_b (r:=by exact h1d q_o)) (h:=h0d ?_))) | (refine gR 6 (p_e (by apply h0n; exact rfl; exact rfl; (focus (apply h3e Tryz.underlying56 sz_9; omega; omega; exact c_1))) (h:=p_e (by apply h1l (t:=9); exact rfl; exact fd0; kernel_rfl; kernel_rfl; (with_reducible assumption)) (h:=p_a (h:=h0d ?_))))) | (refine gR 7 (p_m (h:=q_m ?_)) <;> (try refine h0f ?_; (refine q_c 123 (c:=by apply h0; exact c_9) (h:=?_); rintro _ _ ⟨m, rfl, rfl⟩; (try simp only [zzE, zzF]))) <;> (try refine p_m (h:=p_x (h:=p_x (h:=p_a (h:=p_a (h:=h0d ?_))))))) | (refine gR 8 (p_m (h:=p_e (by apply E_un; exact rfl; exact h4a) (h:=p_a (h:=h0d ?_))))) | (refine gR 10 (p_m (h:=q_m ?_)) <;> (try refine q_e (q_b (r:=by refine rb_and ?_ ?_; (focus (refine ⟨rfl, ⟨?_, ?_⟩⟩; omega; (focus (simp only [IntKind.bits]; omega)))); (focus (refine ⟨rfl, ⟨?_, ?_⟩⟩; omega; (focus (simp only [IntKind.bits]; omega)))))) ?_) <;> (try refine p_e (q_b (r:=by exact h3v q_o)) (h:=p_a (h:=h0d ?_)))) | (refine gR 11 (p_a (h:=p_a (h:=h0d ?_)))))
     (refine h0v Tryz.results114 (.tmp rfl (.tmp rfl .nil)) ?_)
     exact ⟨_, ⟨m, rfl, rfl⟩, by (try simp only [wst]); (try simp only [zzC, zzN]); intro w H; refine Sel.out ?_ H; (try simp only [zzC, zzN]); repeat (first | exact Sel.refl _ | (apply Sel.cons; exact fd0; (try simp only [zzE, zzF])) | apply Sel.drop)⟩
    ·simp only [wst, List.cons_append, List.nil_append]
     have h1 := h1 m
     repeat' (first | refine h0p ?_ | refine h0e ?_ | refine h4u ?_ | refine h1f ?_ | refine h2p ?_ | refine h0r ?_ | refine h0u ?_ | refine h1h ?_ | refine h0j rfl ?_ | refine h0h rfl ?_ | (refine gR 5 (p_e (q_b (r:=by exact h1d q_o)) (h:=h0d ?_))) | (refine gR 6 (p_e (by apply h0n; exact rfl; exact rfl; (focus (apply h3e Tryz.underlying56 sz_9; omega; omega; exact c_1))) (h:=p_e (by apply h1l (t:=9); exact rfl; exact fd0; kernel_rfl; kernel_rfl; (with_reducible assumption)) (h:=p_a (h:=h0d ?_))))) | (refine gR 7 (p_m (h:=q_m ?_)) <;> (try refine h0f ?_; (refine q_c 123 (c:=by apply h1; exact c_9; exact c_9) (h:=?_); rintro _ _ ⟨rfl, rfl⟩; (try simp only [zzE, zzF]))) <;> (try refine p_m (h:=p_x (h:=p_x (h:=p_a (h:=p_a (h:=h0d ?_))))))) | (refine gR 8 (p_m (h:=p_e (by apply E_un; exact rfl; exact h4a) (h:=p_a (h:=h0d ?_))))) | (refine gR 10 (p_m (h:=q_m ?_)) <;> (try refine q_e (q_b (r:=by refine rb_and ?_ ?_; (focus (refine ⟨rfl, ⟨?_, ?_⟩⟩; omega; (focus (simp only [IntKind.bits]; omega)))); (focus (refine ⟨rfl, ⟨?_, ?_⟩⟩; omega; (focus (simp only [IntKind.bits]; omega)))))) ?_) <;> (try refine p_e (q_b (r:=by exact h3v q_o)) (h:=p_a (h:=h0d ?_)))) | (refine gR 11 (p_a (h:=p_a (h:=h0d ?_)))))
     (refine h0v Tryz.results114 (.tmp rfl (.tmp rfl .nil)) ?_)
     exact ⟨_, ⟨m, rfl, rfl⟩, by (try simp only [wst]); (try simp only [zzC, zzN]); intro w H; refine Sel.out ?_ H; (try simp only [zzC, zzN]); repeat (first | exact Sel.refl _ | (apply Sel.cons; exact fd0; (try simp only [zzE, zzF])) | apply Sel.drop)⟩
 ·obtain rfl : k = P.length := by omega
  rw [List.drop_length, parseF] at he
  obtain ⟨m, rfl⟩ := Option.isSome_iff_exists.1 (his rfl)
  rw [he]
  simp only [wst, List.cons_append, List.nil_append]
  clear he his
  repeat' (first | refine h0p ?_ | refine h0e ?_ | refine h1u ?_ | refine h1n ?_ | refine h1v ?_ | refine h2o ?_ | refine h1h ?_ | refine h0h rfl ?_ | (refine gR 5 (p_e (q_b (r:=by exact h1j q_o)) (h:=h0d ?_))) | (refine gR 14 (p_m (h:=p_a (h:=p_a (h:=h0d ?_))))))
  (refine h0v Tryz.results114 (.tmp rfl (.tmp rfl .nil)) ?_)
  exact ⟨_, ⟨m, rfl, rfl⟩, by (try simp only [wst]); (try simp only [zzC, zzN]); intro w H; refine Sel.out ?_ H; (try simp only [zzC, zzN]); repeat (first | exact Sel.refl _ | (apply Sel.cons; exact h3n; (try simp only [zzE, zzF])) | apply Sel.drop)⟩
end Rg
section
variable {P : Program} {n : Nat} {l : List (Nat × Value)} {S : List Nat} {w0 : World} {L : List Blk} {K : Act → World → Prop} {kt : Kont} {ops : Array Oper} {d : Tmp} {ty : TypeId} {pos : String} {af : Array Edge}
abbrev iterB (b : Nat) (s : ByteArray) (p : Nat) : Blk := ⟨true, b, .stringIter s p⟩
theorem K1_rangeStr {t : TypeId} {x : Operand} {s : ByteArray} (hd : Nat.blt d n = true) (hx : ev l x = some (.string s)) (ht : P.underlying t = some .string)
  (h : ∀ nb, w0.heap.size ≤ nb → G n ((d, .pointer (some ⟨nb, 0, none⟩)) :: l) S w0 (iterB nb s 0 :: L) K) : G n l S w0 L (K1 P ops kt ⟨some d, .range t x, ty, pos, af, none⟩ K) := .mk fun a w hf H => h4n rfl <| by
 unfold Oper.wp execOp
 simp only [hf.eval hx, Instr.range, Sem.run_bind, run_underlying ht, Sem.run_pure, Result.andThen_ok, run_newObj]
 exact (h _ H.size).out _ _ (hf.put (some d) _ hd) (H.alloc _)
theorem K1_nextStr {x : Operand} {i b p : Nat} {s : ByteArray} (hd : Nat.blt d n = true) (hx : ev l x = some (.pointer (some ⟨b, 0, none⟩))) (hi : L[i]? = some (iterB b s p)) (hp : p < s.size)
  (h : G n ((d, .tuple [.bool true, .int .i64 p, .int .i32 (Utf8.decode s p).1].toArray) :: l) S w0 (L.set i (iterB b s (p + (Utf8.decode s p).2))) K) : G n l S w0 L (K1 P ops kt ⟨some d, .next x true, ty, pos, af, none⟩ K) := .mk fun a w hf H => h4n rfl <| by
 have hat := H.at_ i hi
 have hb : b < w.heap.size := H.lt i hi
 have hset : (setObj b (.stringIter s (p + (Utf8.decode s p).2))).run P w = .ok () { w with heap := w.heap.setIfInBounds b (.stringIter s (p + (Utf8.decode s p).2)) } := by
  simp only [setObj, Sem.run, hat]
 have H1 := H.turn i hi { w with heap := w.heap.setIfInBounds b (.stringIter s (p + (Utf8.decode s p).2)) } (.stringIter s (p + (Utf8.decode s p).2)) rfl rfl rfl (by simp) (by simp [hb]) (fun k hk => by rw [Array.getElem?_setIfInBounds, if_neg (fun e => hk (Eq.symm e))])
 have hr : (Instr.next (.pointer (some ⟨b, 0, none⟩)) true ty).run P w = .ok (.tuple [.bool true, .int .i64 p, .int .i32 (Utf8.decode s p).1].toArray) { w with heap := w.heap.setIfInBounds b (.stringIter s (p + (Utf8.decode s p).2)) } := by
  unfold Instr.next
  simp only [Sem.run_bind, getObj, Sem.run, hat, Result.andThen_ok, hp, if_true]
  simp only [Sem.run_bind, hset, Result.andThen_ok, Sem.run_pure, goInt]
 unfold Oper.wp execOp
 simp only [hf.eval hx, Sem.run_bind, hr, Result.andThen_ok, Sem.run_pure]
 exact h.out _ _ (hf.put (some d) _ hd) H1
theorem K1_nextOver {x : Operand} {i b p : Nat} {s : ByteArray} (hd : Nat.blt d n = true) (hx : ev l x = some (.pointer (some ⟨b, 0, none⟩))) (hi : L[i]? = some (iterB b s p)) (hp : ¬ p < s.size)
  (h : G n ((d, .tuple [.bool false].toArray) :: l) S w0 L K) : G n l S w0 L (K1 P ops kt ⟨some d, .next x true, ty, pos, af, none⟩ K) := .mk fun a w hf H => h4n rfl <| by
 have hat := H.at_ i hi
 have hr : (Instr.next (.pointer (some ⟨b, 0, none⟩)) true ty).run P w = .ok (.tuple [.bool false].toArray) w := by
  unfold Instr.next
  simp only [Sem.run_bind, getObj, Sem.run, hat, Result.andThen_ok, hp, if_false, Sem.run_pure]
 unfold Oper.wp execOp
 simp only [hf.eval hx, Sem.run_bind, hr, Result.andThen_ok, Sem.run_pure]
 exact h.out _ _ (hf.put (some d) _ hd) H
end
namespace Wd
def smallc (c : Int) : Bool := decide (97 ≤ c) && decide (c ≤ 122)
def okc (c : Int) : Bool := smallc c || (decide (48 ≤ c) && decide (c ≤ 57)) || decide (c = 45) || decide (c = 95)
def bI (s : ByteArray) : List Int := s.data.toList.map fun c => (c.toNat : Int)
theorem bI_len (s : ByteArray) : (bI s).length = s.size := by rw [bI, List.length_map]; cases s; rfl
def wordF (s : ByteArray) : Bool := (match bI s with | [] => false | c :: r => smallc c && r.all okc) && decide (s.size ≤ 14)
theorem ba_at {s : ByteArray} {k : Nat} (h : k < s.size) : ∃ x : UInt8, s[k]? = some x ∧ (s[k]'h) = x ∧ ((x.toNat : Int) < 256 ∧ 0 ≤ (x.toNat : Int)) ∧ (bI s)[k]? = some (x.toNat : Int) ∧ (bI s).drop k = (x.toNat : Int) :: (bI s).drop (k + 1) := by
 have hl := bI_len s
 have hg : (bI s)[k]? = some ((s[k]'h).toNat : Int) := by
  have hl2 : s.data.toList.length = s.size := by cases s; rfl
  rw [bI, List.getElem?_map, List.getElem?_eq_getElem (by omega)]; rfl
 refine ⟨s[k]'h, by simp [h], rfl, ?_, hg, ?_⟩
 ·have := (s[k]'h).toNat_lt; omega
 ·rw [List.drop_eq_getElem_cons (by omega)]
  rw [List.getElem?_eq_getElem (by omega)] at hg
  rw [Option.some.inj hg]
theorem bI_nil {s : ByteArray} {k : Nat} (h : s.size ≤ k) : (bI s).drop k = [] := List.drop_of_length_le (by rw [bI_len]; exact h)
set_option maxHeartbeats 1000000 in
theorem word_c {S w0 L} (s : ByteArray) (hs : s.size ≤ maxLen) : Fn Tryz.prog 39 #[.string s] S w0 L fun v L' => v = .bool (wordF s) ∧ L = L' := by
  unfold maxLen at hs
  refine Fn1 Tryz.func39 Tryz.ntmps39 rfl rfl ?_
  by_cases h0 : s.size = 0
  · have hw : wordF s = false := by
      have : bI s = [] := by have := bI_nil (s := s) (k := 0) (by omega); simpa using this
      simp [wordF, this]
    have hw' := Lib.hid hw
    clear hw
    repeat' (first | refine h0p ?_ | refine h0e ?_ | refine h1f ?_ | refine h1h ?_ | refine h0j rfl ?_ | (refine gR 0 (p_a (h := h0d ?_))) | (refine gR 1 (p_m (h := p_e (h0g rfl (fun _ => BigFrame.builtin_len ..) (h0q Tryz.underlying9)) (h := p_e (q_b (r := by exact h1d q_o)) (h := p_m (h := p_z (h := p_z (h := p_z (h := p_p (h := p_m (h := p_z (h := p_z (h := p_z (h := p_p (h := p_m (h := p_z (h := p_z (h := p_z (h := p_p (h := h0d ?_)))))))))))))))))))) | (refine gR 2 (p_a (h := h0d ?_))))
    (refine h0v Tryz.results39 (.tmp rfl .nil) ?_)
    exact ⟨_, ⟨by rw [hw'.out]; rfl, rfl⟩, by intro w H; refine H.sub ?_; (try simp only [zzC, zzN]); repeat (exact List.Sublist.refl _)⟩
  obtain ⟨x, hx, _, hxr, _, hx4⟩ := ba_at (s := s) (k := 0) (by omega)
  have hxi : s[(0 : Int).toNat]? = some x := hx
  have hw : wordF s = (smallc x.toNat && ((bI s).drop 1).all okc && decide (s.size ≤ 14)) := by
    have h2 := hx4
    rw [List.drop_zero, Nat.zero_add] at h2
    unfold wordF
    rw [h2]
    simp
  have hal : (bI s).all okc = (okc x.toNat && ((bI s).drop 1).all okc) := by
    have h2 := hx4
    rw [List.drop_zero, Nat.zero_add] at h2
    rw [h2, List.all_cons, List.drop_succ_cons, List.drop_zero]
  have hw' := Lib.hid hw
  have hal' := Lib.hid hal
  clear hw hx hx4 hal
  repeat' (first | (refine h2h (id := 3) ?_) | refine h0p ?_ | refine h0e ?_ | refine h1f ?_ | refine h0u ?_ | refine h1h ?_ | refine h0j rfl ?_ | (refine gR 0 (p_a (h := h0d ?_))) | (refine gR 1 (p_m (h := p_e (h0g rfl (fun _ => BigFrame.builtin_len ..) (h0q Tryz.underlying9)) (h := p_e (q_b (r := by exact h1j q_o)) (h := p_m (h := p_y (h0m rfl) (h := p_y (h0g rfl (fun _ => BigFrame.builtin_len ..) (h0q Tryz.underlying9)) (h := p_y (q_b (r := by exact rb_gtr)) (h := p_p (h := q_m ?_))))))))) <;> (try refine h0f ?_; ((refine h6a rfl rfl (fun hc => ?_) (fun hc => ?_)) <;> (try subst hc) <;> (first | refine h3l rfl rfl rfl rfl ?_ | (refine h1x rfl rfl rfl ?_; (refine q_k (h0m rfl) ?_))))) <;> (try refine h0f ?_; (first | refine h3l rfl rfl rfl rfl ?_ | (refine h1x rfl rfl rfl ?_; (refine q_k (by apply h2n; exact rfl; exact rfl; (focus (apply h3h Tryz.underlying9; omega; (with_reducible assumption)))) ?_)))) <;> (try refine h0f ?_; (first | refine h3l rfl rfl rfl rfl ?_ | (refine h1x rfl rfl rfl ?_; (refine q_k (q_b (r := by exact rb_lss)) ?_)))) <;> (try refine p_p (h := q_m ?_)) <;> (try refine h0f ?_; (first | refine h3l rfl rfl rfl rfl ?_ | ((refine h6a rfl rfl (fun hc => ?_) (fun hc => ?_)) <;> (try subst hc) <;> (first | refine h3l rfl rfl rfl rfl ?_ | (refine h1x rfl rfl rfl ?_; (refine q_k (h0m rfl) ?_)))))) <;> (try refine h0f ?_; (first | refine h3l rfl rfl rfl rfl ?_ | (refine h1x rfl rfl rfl ?_; (refine q_k (by apply h2n; exact rfl; exact rfl; (focus (apply h3h Tryz.underlying9; omega; (with_reducible assumption)))) ?_)))) <;> (try refine h0f ?_; (first | refine h3l rfl rfl rfl rfl ?_ | (refine h1x rfl rfl rfl ?_; (refine q_k (q_b (r := by exact rb_gtr)) ?_)))) <;> (try refine p_p (h := h0d ?_))) | (refine gR 2 (p_a (h := h0d ?_))) | ((refine h5v rfl (fun hc => ?_) (fun hc => ?_)) <;> (try subst hc)))
  all_goals first
    | ((refine h0v Tryz.results39 (.tmp rfl .nil) ?_)
       refine ⟨_, ⟨?_, rfl⟩, by intro w H; refine H.sub ?_; (try simp only [zzC, zzN]); repeat (exact List.Sublist.refl _)⟩
       rw [hw'.out]
       refine congrArg Value.bool ?_
       simp [smallc]
       omega)
    | skip
  refine ⟨?_⟩
  have hsm : smallc x.toNat = true := by simp [smallc]; omega
  have hok : okc x.toNat = true := by simp [okc, hsm]
  have hwf : wordF s = (bI s).all okc := by
    rw [hw'.out, hal'.out, hsm, hok]; simp; omega
  have hwf' := Lib.hid hwf
  clear hwf hsm hok
  repeat' (first | (refine h2r (id := 0) ?_) | refine h0e ?_ | (refine gR 3 (q_m ?_) <;> (try refine h0f ?_; (refine K1_rangeStr rfl rfl Tryz.underlying9 ?_; intro nb hnb)) <;> (try refine h0d ?_)))
  refine ⟨?_⟩
  obtain ⟨nbI, rfl⟩ : ∃ x, x = nb := ⟨_, rfl⟩
  refine h0r ?_
  refine h2s (γ := Nat) (fun p => p ≤ s.size ∧ (bI s).all okc = ((bI s).drop p).all okc) (fun p => s.size - p) (fun p => []) [(24, _)]
    (fun p => iterB nbI s p :: L) 0 (.cons rfl .nil) ⟨Nat.zero_le _, rfl⟩ (by (focus (repeat (exact Sub.nil)))) c_26 ?_
  rintro p ⟨(hp : p ≤ s.size), hgo⟩
  have hgo' := Lib.hid hgo
  clear hgo
  simp only [List.cons_append, List.nil_append]
  by_cases hlt : p < s.size
  · obtain ⟨y, _, hy, hyr, _, hy4⟩ := ba_at hlt
    have hg := hgo'.out
    rw [hy4, List.all_cons] at hg
    have hg' := Lib.hid hg
    clear hy4 hg
    by_cases ha : y.toNat < 128
    · have hd := decode_ascii s p hlt (by rw [hy]; exact ha)
      rw [hy] at hd
      have hd1 : ((Utf8.decode s p).1 : Int) = y.toNat := by rw [hd]
      have hd2 : (Utf8.decode s p).2 = 1 := by rw [hd]
      clear hd
      repeat' (first | refine h0p ?_ | refine h0e ?_ | refine h0t ?_ | refine h4u ?_ | refine h1f ?_ | refine h0x ?_ | refine h2p ?_ | refine h0r ?_ | refine h0u ?_ | refine h1h ?_ | refine h0j rfl ?_ | refine h0h rfl ?_ | (refine gR 4 ?_ <;> (try refine h0f ?_; (apply K1_nextStr; exact rfl; exact rfl; exact fd0; omega; (try simp only [List.set_cons_succ]); (try simp only [List.set_cons_zero]))) <;> (try refine p_x (h := h0d ?_))) | (refine gR 5 (p_x (h := p_a (h := h0d ?_)))) | (refine gR 6 (p_m (h := p_e (q_b (r := by exact rb_lss)) (h := q_m ?_))) <;> (try refine h0f ?_; ((refine h6a rfl rfl (fun hc => ?_) (fun hc => ?_)) <;> (try subst hc) <;> (first | refine h3l rfl rfl rfl rfl ?_ | (refine h1x rfl rfl rfl ?_; (refine q_k (h0m rfl) ?_))))) <;> (try refine h0f ?_; (first | refine h3l rfl rfl rfl rfl ?_ | (refine h1x rfl rfl rfl ?_; (refine q_k (q_b (r := by exact rb_gtr)) ?_)))) <;> (try refine p_p (h := q_m ?_)) <;> (try refine h0f ?_; (first | (refine h1x rfl rfl rfl ?_; (refine q_k (h0m rfl) ?_)) | ((refine h6a rfl rfl (fun hc => ?_) (fun hc => ?_)) <;> (try subst hc) <;> (first | refine h3l rfl rfl rfl rfl ?_ | (refine h1x rfl rfl rfl ?_; (refine q_k (h0m rfl) ?_)))))) <;> (try refine h0f ?_; (first | refine h3l rfl rfl rfl rfl ?_ | (refine h1x rfl rfl rfl ?_; (refine q_k (by exact q_b (r := by first | (exact h1j q_o) | exact rb_lss)) ?_)))) <;> (try refine h0f ?_; (first | refine h3l rfl rfl rfl rfl ?_ | (refine h1x rfl rfl rfl ?_; (refine q_k (h0m rfl) ?_)))) <;> (try refine h0f ?_; (first | (refine h5h rfl rfl rfl ?_) | (refine h1x rfl rfl rfl ?_; (refine q_k (h0m rfl) ?_)) | ((refine h6a rfl rfl (fun hc => ?_) (fun hc => ?_)) <;> (try subst hc) <;> (first | refine h3l rfl rfl rfl rfl ?_ | (refine h1x rfl rfl rfl ?_; (refine q_k (h0m rfl) ?_)))))) <;> (try refine h0f ?_; (first | refine h3l rfl rfl rfl rfl ?_ | (refine h5h rfl rfl rfl ?_) | (refine h1x rfl rfl rfl ?_; (refine q_k (by exact q_b (r := by first | (exact h1y q_o) | exact rb_gtr)) ?_)))) <;> (try refine h0f ?_; (first | refine h3l rfl rfl rfl rfl ?_ | (refine h1x rfl rfl rfl ?_; (refine q_k (h5k rfl rfl) ?_)))) <;> (try refine p_p (h := q_m ?_)) <;> (try refine h0f ?_; (first | refine h3l rfl rfl rfl rfl ?_ | (refine h1x rfl rfl rfl ?_; (refine q_k (h0m rfl) ?_)) | ((refine h6a rfl rfl (fun hc => ?_) (fun hc => ?_)) <;> (try subst hc) <;> (first | refine h3l rfl rfl rfl rfl ?_ | (refine h1x rfl rfl rfl ?_; (refine q_k (h0m rfl) ?_)))))) <;> (try refine h0f ?_; (first | refine h3l rfl rfl rfl rfl ?_ | (refine h1x rfl rfl rfl ?_; (refine q_k (by exact q_b (r := by first | (exact h3v q_o) | exact rb_neq)) ?_)))) <;> (try refine p_p (h := q_m ?_)) <;> (try refine h0f ?_; (first | refine h3l rfl rfl rfl rfl ?_ | (refine h1x rfl rfl rfl ?_; (refine q_k (h0m rfl) ?_)) | ((refine K1_guard_nd rfl rfl (fun hc => ?_) (fun hc => ?_)) <;> (try subst hc) <;> (first | refine h3l rfl rfl rfl rfl ?_ | (refine h1x rfl rfl rfl ?_; (refine q_k (h0m rfl) ?_)))))) <;> (try refine h0f ?_; (first | refine h3l rfl rfl rfl rfl ?_ | (refine h1x rfl rfl rfl ?_; (refine q_k (by exact q_b (r := by first | (exact h3v q_o) | exact rb_neq)) ?_)))) <;> (try refine p_p (h := h0d ?_))) | (refine gR 7 (p_a (h := h0d ?_))) | ((refine G_cond_nd rfl (fun hc => ?_) (fun hc => ?_)) <;> (try subst hc)))
      all_goals first
        | ((refine h0v Tryz.results39 (.tmp rfl .nil) ?_)
           refine ⟨_, ⟨?_, rfl⟩, by intro w H; refine H.sub ?_; (try simp only [zzC, zzN]); repeat (first | exact List.Sublist.refl _ | refine List.Sublist.cons _ ?_)⟩
           have e : okc y.toNat = false := by simp [okc, smallc]; omega
           rw [hwf'.out, hg'.out, e]; rfl)
        | (refine h0w (p + 1) ⟨⟨by show p + 1 ≤ _; omega, ?_⟩, by show _ - (p + 1) < _ - p; omega⟩ (by (focus (repeat (first | exact Sub.nil | refine Sub.cons rfl ?_)))) (by rw [hd2]; intro w H; refine H.sub ?_; (try simp only [zzC, zzN]); repeat (exact List.Sublist.refl _))
           have e : okc y.toNat = true := by simp [okc, smallc]; omega
           rw [hg'.out, e]; rfl)
    · have hd := (decode_high s p hlt (by rw [hy]; omega)).1
      repeat' (first | refine h0p ?_ | refine h0e ?_ | refine h4u ?_ | refine h1f ?_ | refine h2p ?_ | refine h0r ?_ | refine h0u ?_ | refine h1h ?_ | refine h0j rfl ?_ | (refine gR 4 ?_ <;> (try refine h0f ?_; (apply K1_nextStr; exact rfl; exact rfl; exact fd0; omega; (try simp only [List.set_cons_succ]); (try simp only [List.set_cons_zero]))) <;> (try refine p_x (h := h0d ?_))) | (refine gR 5 (p_x (h := p_a (h := h0d ?_)))) | (refine gR 6 (p_m (h := p_e (q_b (r := by exact h1j q_o)) (h := p_m (h := p_y (h0m rfl) (h := p_y (q_b (r := by exact h1y q_o)) (h := p_p (h := p_m (h := p_y (h0m rfl) (h := p_y (q_b (r := by exact h1j q_o)) (h := p_y (h0m rfl) (h := p_y (h0m rfl) (h := p_y (q_b (r := by exact h1y q_o)) (h := p_y (h5k rfl rfl) (h := p_p (h := p_m (h := p_y (h0m rfl) (h := p_y (q_b (r := by exact h3v q_o)) (h := p_p (h := p_m (h := p_y (h0m rfl) (h := p_y (q_b (r := by exact h3v q_o)) (h := p_p (h := h0d ?_)))))))))))))))))))))))) | (refine gR 7 (p_a (h := h0d ?_))))
      all_goals
        (refine h0v Tryz.results39 (.tmp rfl .nil) ?_)
        refine ⟨_, ⟨?_, rfl⟩, by intro w H; refine H.sub ?_; (try simp only [zzC, zzN]); repeat (first | exact List.Sublist.refl _ | refine List.Sublist.cons _ ?_)⟩
        have e : okc y.toNat = false := by simp [okc, smallc]; omega
        rw [hwf'.out, hg'.out, e]; rfl
  · obtain rfl : p = s.size := by omega
    repeat' (first | refine h0p ?_ | refine h0e ?_ | refine h1u ?_ | refine h1n ?_ | refine h1v ?_ | refine h2o ?_ | refine h1h ?_ | refine h0h rfl ?_ | (refine gR 4 ?_ <;> (try refine h0f ?_; (apply K1_nextOver; exact rfl; exact rfl; exact fd0; omega)) <;> (try refine p_x (h := h0d ?_))) | (refine gR 8 (p_a (h := h0d ?_))))
    (refine h0v Tryz.results39 (.tmp rfl .nil) ?_)
    refine ⟨_, ⟨?_, rfl⟩, by intro w H; refine H.sub ?_; (try simp only [zzC, zzN]); repeat (first | exact List.Sublist.refl _ | refine List.Sublist.cons _ ?_)⟩
    rw [hwf'.out, hgo'.out, bI_nil (Nat.le_refl _)]; rfl
end Wd
namespace Pt
def prn (y : UInt8) : Bool := decide (32 < y.toNat ∧ y.toNat < 127 ∧ y.toNat ≠ 35)
def partOk (p : List UInt8) : Bool := decide (¬ (p = [] ∨ p = [46] ∨ p = [46, 46] ∨ 14 < p.length))
def refGo (part : List UInt8) : List UInt8 → Bool
 | [] => partOk part
 | c :: r => if c = 47 then partOk part && refGo [] r else prn c && refGo (part ++ [c]) r
def pathF (l : List UInt8) : Bool := if l = [47] then true else if l.length < 2 ∨ l.length > 120 ∨ l.head? ≠ some 47 then false else refGo [] l.tail
theorem all_ne {l : List (List UInt8)} (h : l ≠ []) (f : List UInt8 → Bool) : l.all f = (f (l.headD []) && l.tail.all f) := by
 cases l with
 | nil => exact absurd rfl h
 | cons a r => rfl
theorem refGo_split (part r : List UInt8) : refGo part r = (r.all prn && (partOk (part ++ (h1p 47 r).headD []) && (h1p 47 r).tail.all partOk)) := by
 induction r generalizing part with
 | nil => simp [refGo, h1p]
 | cons c r ih =>
  rw [refGo, h1p]
  by_cases h : c = 47
  ·subst h
   have h47 : prn 47 = true := by decide
   rw [if_pos rfl, if_pos rfl, ih, List.all_cons, h47, List.headD_cons, List.tail_cons, List.append_nil, all_ne (splitC_ne 47 r), List.nil_append, Bool.true_and]
   cases partOk part <;> simp
  ·rw [if_neg h, if_neg h, ih, List.all_cons, List.headD_cons, List.tail_cons, List.append_assoc, List.singleton_append]
   cases prn c <;> simp
theorem ba_ix {s : ByteArray} {k : Nat} (h : k < s.size) : ∃ x : UInt8, s[k]? = some x ∧ (lB s).drop k = x :: (lB s).drop (k + 1) := by
 have hl := h3d s
 refine ⟨s[k]'h, by simp [h], ?_⟩
 rw [List.drop_eq_getElem_cons (by omega)]; rfl
theorem u8_ne {x y : UInt8} (h : ¬ x = y) : ¬ ((x.toNat : Int) = (y.toNat : Int)) := by
 intro e
 exact h (UInt8.toNat_inj.1 (by omega))
theorem pth_tail {s : ByteArray} {x : UInt8} (hx : (lB s).drop 0 = x :: (lB s).drop (0 + 1)) : (lB s).head? = some x ∧ (lB s).tail = (lB s).drop 1 := by
 rw [List.drop_zero, Nat.zero_add] at hx
 constructor
 ·rw [hx]; rfl
 ·exact List.drop_one.symm
theorem pth_slash (s : ByteArray) (h : ¬ s = ⟨#[47]⟩) : ¬ lB s = [47] := by
 intro e
 apply h
 rw [← mB8_lB s, e]; rfl
theorem one_slash {s : ByteArray} (h1 : s.size = 1) {x : UInt8} (hx : (lB s).drop 0 = x :: (lB s).drop (0 + 1)) (h : ¬ s = ⟨#[47]⟩) : ¬ x = 47 := by
 intro e
 subst e
 apply h
 have hl := h3d s
 rw [← mB8_lB s]
 rw [List.drop_zero, Nat.zero_add, List.drop_of_length_le (by omega)] at hx
 rw [hx]; rfl
set_option maxHeartbeats 1000000 in
theorem prn_c {S w0 L} (y : UInt8) : Fn Tryz.prog 75 #[.int .u8 (y.toNat : Int)] S w0 L fun v L' => v = .bool (prn y) ∧ L = L' := by
 have hy : y.toNat < 256 := y.toNat_lt
 have he : prn y = decide (32 < y.toNat ∧ y.toNat < 127 ∧ y.toNat ≠ 35) := rfl
 have he' := Lib.hid he
 clear he
 generalize y.toNat = n at *
 refine Fn1 Tryz.func75 Tryz.ntmps75 rfl rfl ?_
 repeat' (first | refine h0p ?_ | refine h0e ?_ | refine h1h ?_ | (refine gR 0 (p_a (h:=h0d ?_))) | (refine gR 1 (p_m (h:=p_e (q_b (r:=by exact rb_gtr)) (h:=q_m ?_))) <;> (try refine h0f ?_; ((refine h6a rfl rfl (fun hc => ?_) (fun hc => ?_)) <;> (try subst hc) <;> (first | refine h3l rfl rfl rfl rfl ?_ | (refine h1x rfl rfl rfl ?_; (refine q_k (h0m rfl) ?_))))) <;> (try refine h0f ?_; (first | refine h3l rfl rfl rfl rfl ?_ | (refine h1x rfl rfl rfl ?_; (refine q_k (q_b (r:=by exact rb_lss)) ?_)))) <;> (try refine p_p (h:=q_m ?_)) <;> (try refine h0f ?_; (first | refine h3l rfl rfl rfl rfl ?_ | ((refine h6a rfl rfl (fun hc => ?_) (fun hc => ?_)) <;> (try subst hc) <;> (first | refine h3l rfl rfl rfl rfl ?_ | (refine h1x rfl rfl rfl ?_; (refine q_k (h0m rfl) ?_)))))) <;> (try refine h0f ?_; (first | refine h3l rfl rfl rfl rfl ?_ | (refine h1x rfl rfl rfl ?_; (refine q_k (q_b (r:=by exact rb_neq)) ?_)))) <;> (try refine p_p (h:=p_a (h:=h0d ?_)))))
 all_goals
  (refine h0v Tryz.results75 (.tmp rfl .nil) ?_)
  refine ⟨_, ⟨?_, rfl⟩, by intro w H; refine H.sub ?_; (try simp only [zzC, zzN]); repeat (exact List.Sublist.refl _)⟩
  rw [he'.out]
  refine congrArg Value.bool ?_
  first | (refine decide_eq_decide.2 ?_; omega) | (symm; apply decide_eq_false; omega) | (symm; apply decide_eq_true; omega)
set_option maxHeartbeats 2000000 in
theorem path_c {S w0 L} (s : ByteArray) (hs : s.size ≤ 1000) : Fn Tryz.prog 66 #[.string s] S w0 L fun v L' => v = .bool (pathF (lB s)) ∧ L = L' := by
 have hl := h3d s
 refine Fn1 Tryz.func66 Tryz.ntmps66 rfl rfl ?_
 by_cases h0 : s.size = 0
 ·have hp : pathF (lB s) = false := by
   have : lB s = [] := List.eq_nil_of_length_eq_zero (by omega)
   rw [this]; rfl
  have hp' := Lib.hid hp
  clear hp
  repeat' (first | refine h0p ?_ | refine h0e ?_ | refine h1f ?_ | refine h1h ?_ | refine h0j rfl ?_ | (refine gR 0 (p_a (h:=h0d ?_))) | (refine gR 1 (p_m (h:=p_e (h0g rfl (fun _ => BigFrame.builtin_len ..) (h0q Tryz.underlying9)) (h:=p_e (q_b (r:=by exact h1d q_o)) (h:=p_m (h:=p_z (h:=p_z (h:=p_z (h:=p_p (h:=p_m (h:=p_z (h:=p_z (h:=p_z (h:=p_p (h:=h0d ?_))))))))))))))) | (refine gR 2 (p_a (h:=h0d ?_))))
  all_goals
   (refine h0v Tryz.results66 (.tmp rfl .nil) ?_)
   exact ⟨_, ⟨by rw [hp'.out]; rfl, rfl⟩, by intro w H; refine H.sub ?_; (try simp only [zzC, zzN]); repeat (exact List.Sublist.refl _)⟩
 obtain ⟨x, hx, hxd⟩ := ba_ix (s:=s) (k:=0) (by omega)
 have hxi : s[(0 : Int).toNat]? = some x := hx
 obtain ⟨hhd, htl⟩ := pth_tail hxd
 by_cases h120 : s.size > 120
 ·have hp : pathF (lB s) = false := by
   unfold pathF
   rw [if_neg (by intro e; rw [e] at hl; simp at hl; omega), if_pos (by omega)]
  have hp' := Lib.hid hp
  clear hp
  repeat' (first | refine h0p ?_ | refine h0e ?_ | refine h1f ?_ | refine h1h ?_ | refine h0j rfl ?_ | (refine gR 0 (p_a (h:=h0d ?_))) | (refine gR 1 (p_m (h:=p_e (h0g rfl (fun _ => BigFrame.builtin_len ..) (h0q Tryz.underlying9)) (h:=p_e (q_b (r:=by exact h1j q_o)) (h:=p_m (h:=p_y (h0m rfl) (h:=p_y (h0g rfl (fun _ => BigFrame.builtin_len ..) (h0q Tryz.underlying9)) (h:=p_y (q_b (r:=by exact h1y q_o)) (h:=p_p (h:=p_m (h:=p_z (h:=p_z (h:=p_z (h:=p_p (h:=h0d ?_))))))))))))))) | (refine gR 2 (p_a (h:=h0d ?_))))
  all_goals
   (refine h0v Tryz.results66 (.tmp rfl .nil) ?_)
   exact ⟨_, ⟨by rw [hp'.out]; rfl, rfl⟩, by intro w H; refine H.sub ?_; (try simp only [zzC, zzN]); repeat (exact List.Sublist.refl _)⟩
 by_cases h47 : x = 47
 case neg =>
  have hp : pathF (lB s) = false := by
   unfold pathF
   rw [if_neg (by intro e; rw [e] at hhd; simp at hhd; exact h47 hhd.symm), if_pos (by right; right; rw [hhd]; simpa using h47)]
  have hn : ¬ (x.toNat : Int) = 47 := u8_ne h47
  have hp' := Lib.hid hp
  clear hp
  repeat' (first | refine h0p ?_ | refine h0e ?_ | refine h1f ?_ | refine h1h ?_ | refine h0j rfl ?_ | (refine gR 0 (p_a (h:=h0d ?_))) | (refine gR 1 (p_m (h:=p_e (h0g rfl (fun _ => BigFrame.builtin_len ..) (h0q Tryz.underlying9)) (h:=p_e (q_b (r:=by exact h1j q_o)) (h:=p_m (h:=p_y (h0m rfl) (h:=p_y (h0g rfl (fun _ => BigFrame.builtin_len ..) (h0q Tryz.underlying9)) (h:=p_y (q_b (r:=by exact h2f q_o)) (h:=p_p (h:=p_m (h:=p_y (h0m rfl) (h:=p_y (by apply h2n; exact rfl; exact rfl; (focus (apply h3h Tryz.underlying9; omega; (with_reducible assumption)))) (h:=p_y (q_b (r:=by exact h3v q_o)) (h:=p_p (h:=h0d ?_))))))))))))))) | (refine gR 2 (p_a (h:=h0d ?_))))
  all_goals
   (refine h0v Tryz.results66 (.tmp rfl .nil) ?_)
   exact ⟨_, ⟨by rw [hp'.out]; rfl, rfl⟩, by intro w H; refine H.sub ?_; (try simp only [zzC, zzN]); repeat (exact List.Sublist.refl _)⟩
 subst h47
 have h47n : (((47 : UInt8).toNat : Nat) : Int) = 47 := rfl
 by_cases hsl : s = ⟨#[47]⟩
 ·subst hsl
  repeat' (first | refine h0p ?_ | refine h0e ?_ | refine h1f ?_ | refine h0u ?_ | refine h1h ?_ | refine h0j rfl ?_ | refine h0h rfl ?_ | (refine gR 0 (p_a (h:=h0d ?_))) | (refine gR 1 (p_m (h:=p_e (h0g rfl (fun _ => BigFrame.builtin_len ..) (h0q Tryz.underlying9)) (h:=p_e (q_b (r:=by exact h1j q_o)) (h:=p_m (h:=p_y (h0m rfl) (h:=p_y (h0g rfl (fun _ => BigFrame.builtin_len ..) (h0q Tryz.underlying9)) (h:=p_y (q_b (r:=by exact h2f q_o)) (h:=p_p (h:=p_m (h:=p_y (h0m rfl) (h:=q_y (by apply h2n; exact rfl; exact rfl; (focus (apply h3h Tryz.underlying9; omega; (with_reducible assumption)))) ?_))))))))))) <;> (try refine q_y (by exact q_b (r:=by refine h3o ?_; first | rfl | (with_reducible assumption) | (decide; done) | omega)) ?_) <;> (try refine p_p (h:=h0d ?_))) | (refine gR 3 (p_m (h:=p_e (q_b (r:=by exact h2l)) (h:=h0d ?_)))) | (refine gR 4 (p_a (h:=h0d ?_))))
  all_goals
   (refine h0v Tryz.results66 (.tmp rfl .nil) ?_)
   exact ⟨_, ⟨rfl, rfl⟩, by intro w H; refine H.sub ?_; (try simp only [zzC, zzN]); repeat (exact List.Sublist.refl _)⟩
 have h2 : 2 ≤ s.size := by
  rcases Nat.lt_or_ge s.size 2 with h | h
  ·exact absurd rfl (one_slash (by omega) hxd hsl)
  ·exact h
 have hp : pathF (lB s) = ((lB s).all prn && (h1p 47 ((lB s).drop 1)).all partOk) := by
  have h47 : prn 47 = true := by decide
  have hall : (lB s).all prn = ((lB s).drop 1).all prn := by
   have := hxd
   rw [List.drop_zero, Nat.zero_add] at this
   conv => lhs; rw [this]
   rw [List.all_cons, h47, Bool.true_and]
  unfold pathF
  rw [if_neg (pth_slash s hsl), if_neg (by rw [hhd]; simp; omega), refGo_split, htl, hall, all_ne (splitC_ne 47 _), List.nil_append]
 have hp' := Lib.hid hp
 clear hp
 repeat' (first | (refine h2r (id:=0) ?_) | refine h0p ?_ | refine h0e ?_ | refine h0u ?_ | refine h0h rfl ?_ | (refine gR 0 (p_a (h:=h0d ?_))) | (refine gR 1 (p_m (h:=p_e (h0g rfl (fun _ => BigFrame.builtin_len ..) (h0q Tryz.underlying9)) (h:=p_e (q_b (r:=by exact h1j q_o)) (h:=p_m (h:=p_y (h0m rfl) (h:=p_y (h0g rfl (fun _ => BigFrame.builtin_len ..) (h0q Tryz.underlying9)) (h:=p_y (q_b (r:=by exact h2f q_o)) (h:=p_p (h:=p_m (h:=p_y (h0m rfl) (h:=q_y (by apply h2n; exact rfl; exact rfl; (focus (apply h3h Tryz.underlying9; omega; (with_reducible assumption)))) ?_))))))))))) <;> (try refine q_y (by exact q_b (r:=by refine h3o ?_; first | rfl | (with_reducible assumption) | (decide; done) | omega)) ?_) <;> (try refine p_p (h:=h0d ?_))) | (refine gR 3 (p_m (h:=p_e (q_b (r:=by apply h0y; exact decide_eq_false (by assumption))) (h:=h0d ?_)))) | (refine gR 5 (p_m (h:=p_e (h0g rfl (fun _ => BigFrame.builtin_len ..) (h0q Tryz.underlying9)) (h:=p_m (h:=h0d ?_))))))
 refine ⟨?_⟩
 refine h0r ?_
 refine h2s (γ:=Nat) (fun k => k ≤ s.size ∧ (lB s).all prn = ((lB s).drop k).all prn) (fun k => s.size - k) (fun k => [(23, .int .i64 (k : Nat))]) [(0, _), (22, _)]
  (fun _ => L) 0 (.cons rfl (.cons rfl .nil)) ⟨Nat.zero_le _, rfl⟩ (by (focus (repeat (first | exact Sub.nil | refine Sub.cons rfl ?_)))) c_26 ?_
 rintro k ⟨(hk : k ≤ s.size), hgo⟩
 have hgo' := Lib.hid hgo
 clear hgo
 by_cases hlt : k < s.size
 ·obtain ⟨y, hy, hyd⟩ := ba_ix hlt
  have hyi : s[((k : Nat) : Int).toNat]? = some y := by rw [Int.toNat_natCast]; exact hy
  have hg := hgo'.out
  rw [hyd, List.all_cons] at hg
  have hg' := Lib.hid hg
  clear hyd hg
  have hpc := fun (L : List Blk) => prn_c (S:=S) (w0:=w0) (L:=L) y
  cases hpy : prn y
  ·rw [hpy] at hpc hg'
   have hf : (lB s).all prn = false := by rw [hg'.out]; rfl
   rw [hf] at hp'
   repeat' (first | refine h0p ?_ | refine h0e ?_ | refine h4u ?_ | refine h1f ?_ | refine h2p ?_ | refine h0r ?_ | refine h0u ?_ | refine h1h ?_ | refine h0j rfl ?_ | (refine gR 6 (p_e (q_b (r:=by exact h1d q_o)) (h:=h0d ?_))) | (refine gR 7 (p_m (h:=p_a (h:=h0d ?_)))) | (refine gR 8 (p_m (h:=p_m (h:=q_e (by apply h2n; exact rfl; exact rfl; (focus (apply h3h Tryz.underlying9; omega; (with_reducible assumption)))) ?_))) <;> (try refine h0f ?_; (refine h1k (F:=75) (by kernel_rfl) rfl rfl (hpc _) ?_; rintro _ _ ⟨rfl, rfl⟩)) <;> (try refine p_e (by apply E_un; exact rfl; exact h4z) (h:=h0d ?_))) | (refine gR 9 (p_a (h:=h0d ?_))))
   all_goals
    (refine h0v Tryz.results66 (.tmp rfl .nil) ?_)
    exact ⟨_, ⟨by rw [hp'.out]; rfl, rfl⟩, by intro w H; refine H.sub ?_; (try simp only [zzC, zzN]); repeat (exact List.Sublist.refl _)⟩
  ·rw [hpy] at hpc hg'
   repeat' (first | refine h0p ?_ | refine h0e ?_ | refine h0t ?_ | refine h0x ?_ | refine h0r ?_ | refine h0u ?_ | refine h0j rfl ?_ | refine h0h rfl ?_ | (refine gR 6 (p_e (q_b (r:=by exact h1d q_o)) (h:=h0d ?_))) | (refine gR 7 (p_m (h:=p_a (h:=h0d ?_)))) | (refine gR 8 (p_m (h:=p_m (h:=q_e (by apply h2n; exact rfl; exact rfl; (focus (apply h3h Tryz.underlying9; omega; (with_reducible assumption)))) ?_))) <;> (try refine h0f ?_; (refine h1k (F:=75) (by kernel_rfl) rfl rfl (hpc _) ?_; rintro _ _ ⟨rfl, rfl⟩)) <;> (try refine p_e (by apply E_un; exact rfl; exact h4a) (h:=h0d ?_))) | (refine gR 10 ?_ <;> (try refine q_e (q_b (r:=by apply h1r; exact c_5; (focus (refine IntWalk.i64_in _ ?_; omega)))) ?_) <;> (try refine p_m (h:=h0d ?_))))
   all_goals
    refine h0w (k + 1) ⟨⟨by show k + 1 ≤ _; omega, by rw [hg'.out, Bool.true_and]⟩, by show _ - (k + 1) < _ - k; omega⟩ (by (focus (repeat (first | exact Sub.nil | refine Sub.cons rfl ?_)))) c_26
 ·obtain rfl : k = s.size := by omega
  have hall : (lB s).all prn = true := by rw [hgo'.out, List.drop_of_length_le (by omega)]; rfl
  rw [hall, Bool.true_and] at hp'
  have hex : s.extract 1 s.size = mB8 ((lB s).drop 1) := ext_drop s 1
  have hlb : lB (s.extract 1 s.size) = (lB s).drop 1 := by rw [hex, h4g]
  have hsp := fun (L : List Blk) => split1_c (S:=S) (w0:=w0) (L:=L) (s.extract 1 s.size) (by rw [← h3d, hlb, List.length_drop]; omega) 47
  rw [hlb] at hsp
  have hPl : (h1p 47 ((lB s).drop 1)).length ≤ 1001 := by rw [splitC_len]; have := List.count_le_length (a:=(47 : UInt8)) (l:=(lB s).drop 1); rw [List.length_drop] at this; omega
  generalize h1p 47 ((lB s).drop 1) = P at *
  repeat' (first | (refine h2r (id:=2) ?_) | refine h0p ?_ | refine h0e ?_ | refine h1u ?_ | refine h1n ?_ | refine h1v ?_ | refine h2o ?_ | refine h0h rfl ?_ | (refine gR 6 (p_e (q_b (r:=by exact h1j q_o)) (h:=h0d ?_))) | (refine gR 11 (p_m (h:=q_e (by apply h4w; exact rfl; exact rfl; exact rfl; exact rfl; (focus (apply h5a Tryz.underlying9; (focus (apply bd_10; omega; omega; exact c_0)); exact rfl))) ?_)) <;> (try refine h0f ?_; (refine h1k (F:=47) (by kernel_rfl) rfl rfl (hsp _) ?_; rintro _ _ ⟨nb, rfl, rfl⟩)) <;> (try refine p_e (by apply h0g; exact rfl; exact (fun _ => BigFrame.builtin_len ..); apply h0k Tryz.underlying56; exact h4y) (h:=p_m (h:=h0d ?_)))))
  refine ⟨?_⟩
  refine h0r ?_
  refine h2s (γ:=Nat) (fun k => k ≤ P.length ∧ P.all partOk = (P.drop k).all partOk) (fun k => P.length - k) (fun k => [(36, .int .i64 (k : Nat))]) [(34, _), (35, _)]
   (fun _ => ⟨true, nb, .cells (strs P).toArray 9 (0, 0)⟩ :: L) 0 (.cons rfl (.cons rfl .nil)) ⟨Nat.zero_le _, rfl⟩ (by (focus (repeat (first | exact Sub.nil | refine Sub.cons rfl ?_)))) (fun _ H => H) ?_
  rintro k ⟨(hk : k ≤ P.length), hgo⟩
  have hgo' := Lib.hid hgo
  clear hgo
  by_cases hlt : k < P.length
  ·have hg := hgo'.out
   rw [List.drop_eq_getElem_cons hlt, List.all_cons] at hg
   have hcell : (strs P).toArray.toList[k]? = some (.string (mB8 P[k])) := by
    show (strs P)[k]? = _
    unfold strs
    rw [List.getElem?_map, List.getElem?_eq_getElem hlt]; rfl
   have hpsz : (mB8 P[k]).size = P[k].length := by rw [← h3d, h4g]
   generalize P[k] = p at *
   have hg' := Lib.hid hg
   clear hg
   by_cases e0 : p = [] ∨ p = [46] ∨ p = [46, 46] ∨ 14 < p.length
   ·have hf : P.all partOk = false := by rw [hg'.out]; have e9 : partOk p = false := decide_eq_false (fun h => h e0); rw [e9]; rfl
    have hf' := Lib.hid hf
    clear hf
    rcases e0 with rfl | rfl | rfl | e0
    ·repeat' (first | refine h0p ?_ | refine h0e ?_ | refine h4u ?_ | refine h1f ?_ | refine h2p ?_ | refine h0r ?_ | refine h0u ?_ | refine h1h ?_ | refine h0j rfl ?_ | (refine gR 12 (p_e (q_b (r:=by exact h1d q_o)) (h:=h0d ?_))) | (refine gR 13 (p_e (by apply h0n; exact rfl; exact rfl; (focus (apply h3e Tryz.underlying56 sz_9; omega; omega; exact c_1))) (h:=p_e (by apply h1l (t:=9); exact rfl; exact fd0; kernel_rfl; kernel_rfl; (with_reducible assumption)) (h:=p_a (h:=h0d ?_))))) | (refine gR 14 (p_m (h:=p_e (q_b (r:=by exact h2l)) (h:=p_m (h:=p_z (h:=p_z (h:=p_p (h:=p_m (h:=p_z (h:=p_z (h:=p_p (h:=p_m (h:=p_z (h:=p_z (h:=p_z (h:=p_p (h:=h0d ?_))))))))))))))))) | (refine gR 15 (p_a (h:=h0d ?_))))
     (refine h0v Tryz.results66 (.tmp rfl .nil) ?_)
     exact ⟨_, ⟨by rw [hp'.out, hf'.out]; rfl, rfl⟩, by intro w H; refine H.sub ?_; (try simp only [zzC, zzN]); repeat (first | exact List.Sublist.refl _ | refine List.Sublist.cons _ ?_)⟩
    ·repeat' (first | refine h0p ?_ | refine h0e ?_ | refine h4u ?_ | refine h1f ?_ | refine h2p ?_ | refine h0r ?_ | refine h0u ?_ | refine h1h ?_ | refine h0j rfl ?_ | (refine gR 12 (p_e (q_b (r:=by exact h1d q_o)) (h:=h0d ?_))) | (refine gR 13 (p_e (by apply h0n; exact rfl; exact rfl; (focus (apply h3e Tryz.underlying56 sz_9; omega; omega; exact c_1))) (h:=p_e (by apply h1l (t:=9); exact rfl; exact fd0; kernel_rfl; kernel_rfl; (with_reducible assumption)) (h:=p_a (h:=h0d ?_))))) | (refine gR 14 (p_m (h:=p_e (q_b (r:=by apply h0y; (focus (decide)))) (h:=p_m (h:=p_y (h0m rfl) (h:=p_y (q_b (r:=by exact h2l)) (h:=p_p (h:=p_m (h:=p_z (h:=p_z (h:=p_p (h:=p_m (h:=p_z (h:=p_z (h:=p_z (h:=p_p (h:=h0d ?_))))))))))))))))) | (refine gR 15 (p_a (h:=h0d ?_))))
     (refine h0v Tryz.results66 (.tmp rfl .nil) ?_)
     exact ⟨_, ⟨by rw [hp'.out, hf'.out]; rfl, rfl⟩, by intro w H; refine H.sub ?_; (try simp only [zzC, zzN]); repeat (first | exact List.Sublist.refl _ | refine List.Sublist.cons _ ?_)⟩
    ·repeat' (first | refine h0p ?_ | refine h0e ?_ | refine h4u ?_ | refine h1f ?_ | refine h2p ?_ | refine h0r ?_ | refine h0u ?_ | refine h1h ?_ | refine h0j rfl ?_ | (refine gR 12 (p_e (q_b (r:=by exact h1d q_o)) (h:=h0d ?_))) | (refine gR 13 (p_e (by apply h0n; exact rfl; exact rfl; (focus (apply h3e Tryz.underlying56 sz_9; omega; omega; exact c_1))) (h:=p_e (by apply h1l (t:=9); exact rfl; exact fd0; kernel_rfl; kernel_rfl; (with_reducible assumption)) (h:=p_a (h:=h0d ?_))))) | (refine gR 14 (p_m (h:=p_e (q_b (r:=by apply h0y; (focus (decide)))) (h:=p_m (h:=p_y (h0m rfl) (h:=p_y (q_b (r:=by apply h0y; (focus (decide)))) (h:=p_p (h:=p_m (h:=p_y (h0m rfl) (h:=p_y (q_b (r:=by exact h2l)) (h:=p_p (h:=p_m (h:=p_z (h:=p_z (h:=p_z (h:=p_p (h:=h0d ?_))))))))))))))))) | (refine gR 15 (p_a (h:=h0d ?_))))
     (refine h0v Tryz.results66 (.tmp rfl .nil) ?_)
     exact ⟨_, ⟨by rw [hp'.out, hf'.out]; rfl, rfl⟩, by intro w H; refine H.sub ?_; (try simp only [zzC, zzN]); repeat (first | exact List.Sublist.refl _ | refine List.Sublist.cons _ ?_)⟩
    ·have n0 : ¬ mB8 p = ⟨#[]⟩ := by intro e; have h9 := congrArg ByteArray.size e; rw [hpsz] at h9; have h8 : p.length = 0 := h9; omega
     have n1 : ¬ mB8 p = ⟨#[46]⟩ := by intro e; have h9 := congrArg ByteArray.size e; rw [hpsz] at h9; have h8 : p.length = 1 := h9; omega
     have n2 : ¬ mB8 p = ⟨#[46, 46]⟩ := by intro e; have h9 := congrArg ByteArray.size e; rw [hpsz] at h9; have h8 : p.length = 2 := h9; omega
     repeat' (first | refine h0p ?_ | refine h0e ?_ | refine h4u ?_ | refine h1f ?_ | refine h2p ?_ | refine h0r ?_ | refine h0u ?_ | refine h1h ?_ | refine h0j rfl ?_ | (refine gR 12 (p_e (q_b (r:=by exact h1d q_o)) (h:=h0d ?_))) | (refine gR 13 (p_e (by apply h0n; exact rfl; exact rfl; (focus (apply h3e Tryz.underlying56 sz_9; omega; omega; exact c_1))) (h:=p_e (by apply h1l (t:=9); exact rfl; exact fd0; kernel_rfl; kernel_rfl; (with_reducible assumption)) (h:=p_a (h:=h0d ?_))))) | (refine gR 14 (p_m (h:=p_e (q_b (r:=by apply h0y; exact decide_eq_false (by assumption))) (h:=p_m (h:=p_y (h0m rfl) (h:=p_y (q_b (r:=by apply h0y; exact decide_eq_false (by assumption))) (h:=p_p (h:=p_m (h:=p_y (h0m rfl) (h:=p_y (q_b (r:=by apply h0y; exact decide_eq_false (by assumption))) (h:=p_p (h:=p_m (h:=p_y (h0m rfl) (h:=p_y (h0g rfl (fun _ => BigFrame.builtin_len ..) (h0q Tryz.underlying9)) (h:=p_y (q_b (r:=by exact h1y q_o)) (h:=p_p (h:=h0d ?_))))))))))))))))) | (refine gR 15 (p_a (h:=h0d ?_))))
     (refine h0v Tryz.results66 (.tmp rfl .nil) ?_)
     exact ⟨_, ⟨by rw [hp'.out, hf'.out]; rfl, rfl⟩, by intro w H; refine H.sub ?_; (try simp only [zzC, zzN]); repeat (first | exact List.Sublist.refl _ | refine List.Sublist.cons _ ?_)⟩
   ·have hok : P.all partOk = (P.drop (k + 1)).all partOk := by rw [hg'.out]; have e9 : partOk p = true := decide_eq_true e0; rw [e9, Bool.true_and]
    have n0 : ¬ mB8 p = ⟨#[]⟩ := fun e => e0 (.inl (by rw [← h4g p, e]; rfl))
    have n1 : ¬ mB8 p = ⟨#[46]⟩ := fun e => e0 (.inr (.inl (by rw [← h4g p, e]; rfl)))
    have n2 : ¬ mB8 p = ⟨#[46, 46]⟩ := fun e => e0 (.inr (.inr (.inl (by rw [← h4g p, e]; rfl))))
    have n3 : ¬ 14 < p.length := fun e => e0 (.inr (.inr (.inr e)))
    have hok' := Lib.hid hok
    clear hok e0
    repeat' (first | refine h0p ?_ | refine h0e ?_ | refine h0t ?_ | refine h0x ?_ | refine h0r ?_ | refine h0u ?_ | refine h0j rfl ?_ | refine h0h rfl ?_ | (refine gR 12 (p_e (q_b (r:=by exact h1d q_o)) (h:=h0d ?_))) | (refine gR 13 (p_e (by apply h0n; exact rfl; exact rfl; (focus (apply h3e Tryz.underlying56 sz_9; omega; omega; exact c_1))) (h:=p_e (by apply h1l (t:=9); exact rfl; exact fd0; kernel_rfl; kernel_rfl; (with_reducible assumption)) (h:=p_a (h:=h0d ?_))))) | (refine gR 14 (p_m (h:=p_e (q_b (r:=by apply h0y; exact decide_eq_false (by assumption))) (h:=p_m (h:=p_y (h0m rfl) (h:=p_y (q_b (r:=by apply h0y; exact decide_eq_false (by assumption))) (h:=p_p (h:=p_m (h:=p_y (h0m rfl) (h:=p_y (q_b (r:=by apply h0y; exact decide_eq_false (by assumption))) (h:=p_p (h:=p_m (h:=p_y (h0m rfl) (h:=p_y (h0g rfl (fun _ => BigFrame.builtin_len ..) (h0q Tryz.underlying9)) (h:=p_y (q_b (r:=by exact h2f q_o)) (h:=p_p (h:=h0d ?_))))))))))))))))) | (refine gR 16 ?_ <;> (try refine q_e (q_b (r:=by apply h1r; exact c_5; (focus (refine IntWalk.i64_in _ ?_; omega)))) ?_) <;> (try refine p_m (h:=h0d ?_))))
    refine h0w (k + 1) ⟨⟨by show k + 1 ≤ _; omega, hok'.out⟩, by show _ - (k + 1) < _ - k; omega⟩ (by (focus (repeat (first | exact Sub.nil | refine Sub.cons rfl ?_)))) (fun _ H => H)
  ·obtain rfl : k = P.length := by omega
   have hf : P.all partOk = true := by rw [hgo'.out, List.drop_of_length_le (by omega)]; rfl
   have hf' := Lib.hid hf
   clear hf
   repeat' (first | refine h0p ?_ | refine h0e ?_ | refine h1u ?_ | refine h1n ?_ | refine h1v ?_ | refine h2o ?_ | refine h1h ?_ | refine h0h rfl ?_ | (refine gR 12 (p_e (q_b (r:=by exact h1j q_o)) (h:=h0d ?_))) | (refine gR 17 (p_a (h:=h0d ?_))))
   (refine h0v Tryz.results66 (.tmp rfl .nil) ?_)
   exact ⟨_, ⟨by rw [hp'.out, hf'.out]; rfl, rfl⟩, by intro w H; refine H.sub ?_; (try simp only [zzC, zzN]); repeat (first | exact List.Sublist.refl _ | refine List.Sublist.cons _ ?_)⟩
end Pt
def OnceR (T : TypeId) (b off : Nat) (Q : List Value → List Blk → Prop) (v : Value) (L' : List Blk) : Prop :=
 v = .tuple #[] ∧ ∃ cs L2, Q cs L2 ∧ cs[off]? = some (.int .u32 0) ∧ cs[off + 1]? = some (.int .i32 1) ∧ ⟨true, b, .cells cs.toArray T (0, 0)⟩ :: L2 = L'
def OnceD (T : TypeId) (b off : Nat) (Q : List Value → List Blk → Prop) (v : Value) (L' : List Blk) : Prop :=
 v = .tuple #[] ∧ ∃ cs L2, Q cs L2 ∧ ⟨true, b, .cells ((cs.set off (.int .u32 1)).set (off + 1) (.int .i32 0)).toArray T (0, 0)⟩ :: L2 = L'
set_option maxHeartbeats 1600000 in
theorem slow_c {S w0 L} {T : TypeId} {b off : Nat} {cs : List Value} {Q : List Value → List Blk → Prop} {fv : Value} (h0 : cs[off]? = some (.int .u32 0)) (h1 : cs[off + 1]? = some (.int .i32 0))
  (hf : Fn Tryz.prog 87 #[fv] S w0 (⟨true, b, .cells (cs.set (off + 1) (.int .i32 1)).toArray T (0, 0)⟩ :: L) (OnceR T b off Q)) :
  Fn Tryz.prog 102 #[.pointer (some ⟨b, off, none⟩), .func (.func 87) #[fv] #[]] S w0 (⟨true, b, .cells cs.toArray T (0, 0)⟩ :: L) (OnceD T b off Q) := .mk fun w H => by
 have a0 := H.cellc h0
 have a1 := H.cellc h1
 have f0 : w.frozen? ⟨b, off, none⟩ = false := H.frz
 have f1 : w.frozen? ⟨b, off + 1, none⟩ = false := H.frz
 have hl := run_call_load (P:=Tryz.prog) Tryz.func115 (by kernel_rfl) (by kernel_rfl) (by kernel_rfl) .u32 (by kernel_rfl) (w:=w.setCell ⟨b, off + 1, none⟩ (.int .i32 1)) (a:=⟨b, off, none⟩) (x:=0) ((World.cell?_setCell_other _ ⟨b, off + 1, none⟩ ⟨b, off, none⟩ _ (by simp)).trans a0)
 have hnot : ∀ (x : Bool) (w : World), (Op.unary .not (.bool x)).run Tryz.prog w = .ok (.bool (!x)) w := fun _ _ => rfl
 have H1 := H.setc (off:=off + 1) (.int .i32 1)
 have hcall := hf.out _ H1
 go_enter_defers Tryz.func102, Tryz.ntmps102
 have H2c : ∀ (e : Ending) (w' : World), (∃ v L', e = .returned v ∧ OnceR T b off Q v L' ∧ HP S w0 w' L') → ∃ cs' L2, e = .returned (.tuple #[]) ∧ Q cs' L2 ∧ cs'[off]? = some (.int .u32 0) ∧ cs'[off + 1]? = some (.int .i32 1) ∧ HP S w0 w' (⟨true, b, .cells cs'.toArray T (0, 0)⟩ :: L2) := by
  rintro e w' ⟨_, _, rfl, ⟨rfl, cs', L2, hQ, hc0, hc1, rfl⟩, H2⟩
  exact ⟨cs', L2, rfl, hQ, hc0, hc1, H2⟩
 have hcall2 := hcall.mono H2c
 clear hcall H2c hf H1
 go_wp2_with (first | (go_at_call 116; refine (lock_free ⟨b, off + 1, none⟩ _ (by go_simp) (by go_simp)).mono ?_; rintro e w' ⟨rfl, rfl⟩) | (go_at_call 87; refine hcall2.mono ?_; rintro e w' ⟨cs', L2, rfl, hQ, hc0, hc1, H2⟩) | (go_at_call 101; go_in))
 refine leaves_cons (f:=118) (args:=#[.pointer (some ⟨b, off, none⟩), .bool true]) (by simp) (by simp [go_sem]) ?_
 refine (store_deferred ⟨b, off, none⟩ (.int .u32 0) .returning _ (H2.cellc hc0) H2.frz).mono ?_
 rintro e u' w'' ⟨rfl, rfl, rfl⟩
 have H3 := (H2.drew).setc (off:=off) (.int .u32 1)
 have hc1' : (cs'.set off (.int .u32 1))[off + 1]? = some (.int .i32 1) := by rw [List.getElem?_set_ne (by omega)]; exact hc1
 refine leaves_cons (f:=117) (args:=#[.pointer (some ⟨b, off + 1, none⟩)]) (by simp [settle]) (by simp [go_sem]) ?_
 refine (unlock_deferred ⟨b, off + 1, none⟩ _ _ (H3.cellc hc1') H3.frz).mono ?_
 rintro e u' w'' ⟨rfl, rfl, rfl⟩
 have H4 := H3.setc (off:=off + 1) (.int .i32 0)
 show Leaves _ _ _ _ [] .returning _
 exact ⟨.tuple #[], results_none rfl _ _ _, _, _, rfl, ⟨rfl, cs', L2, hQ, rfl⟩, H4⟩
theorem do_first {S w0 L} {T : TypeId} {b off : Nat} {cs : List Value} {Q : List Value → List Blk → Prop} {fv : Value} (h0 : cs[off]? = some (.int .u32 0)) (h1 : cs[off + 1]? = some (.int .i32 0))
  (hf : Fn Tryz.prog 87 #[fv] S w0 (⟨true, b, .cells (cs.set (off + 1) (.int .i32 1)).toArray T (0, 0)⟩ :: L) (OnceR T b off Q)) :
  Fn Tryz.prog 86 #[.pointer (some ⟨b, off, none⟩), .func (.func 87) #[fv] #[]] S w0 (⟨true, b, .cells cs.toArray T (0, 0)⟩ :: L) (OnceD T b off Q) := .mk fun w H => by
 have hl := run_call_load (P:=Tryz.prog) Tryz.func115 (by kernel_rfl) (by kernel_rfl) (by kernel_rfl) .u32 (by kernel_rfl) (H.cellc h0)
 have hnot : ∀ (x : Bool) (w : World), (Op.unary .not (.bool x)).run Tryz.prog w = .ok (.bool (!x)) w := fun _ _ => rfl
 have hs := (slow_c h0 h1 hf).out w H
 clear hf
 go_enter Tryz.func86, Tryz.ntmps86
 go_wp2_with (first | (go_at_call 102; refine hs.mono ?_; rintro e w' ⟨v, L', rfl, hD, H2⟩) | (go_at_call 101; go_in))
 go_end0
 obtain ⟨rfl, hD⟩ := hD
 exact ⟨_, _, rfl, ⟨rfl, hD⟩, H2⟩
theorem do_done {S w0 L} {T : TypeId} {b off : Nat} {cs : List Value} {fv : Value} (h0 : cs[off]? = some (.int .u32 1)) :
  Fn Tryz.prog 86 #[.pointer (some ⟨b, off, none⟩), fv] S w0 (⟨true, b, .cells cs.toArray T (0, 0)⟩ :: L) fun v L' => v = .tuple #[] ∧ ⟨true, b, .cells cs.toArray T (0, 0)⟩ :: L = L' := .mk fun w H => by
 have hl := run_call_load (P:=Tryz.prog) Tryz.func115 (by kernel_rfl) (by kernel_rfl) (by kernel_rfl) .u32 (by kernel_rfl) (H.cellc h0)
 have hnot : ∀ (x : Bool) (w : World), (Op.unary .not (.bool x)).run Tryz.prog w = .ok (.bool (!x)) w := fun _ _ => rfl
 go_enter Tryz.func86, Tryz.ntmps86
 go_wp2
 go_end0
 exact ⟨_, _, rfl, ⟨rfl, rfl⟩, H⟩
section
variable {P : Program} {n : Nat} {l : List (Nat × Value)} {S : List Nat} {w0 : World} {L : List Blk} {d : Tmp} {ty : TypeId} {pos : String} {af : Array Edge}
theorem K1_aadd {ops : Array Oper} {kt : Kont} {K : Act → World → Prop} {F : FuncId} {fn : Func} {k : IntKind} {x y : Operand} {ats : Array TypeId} {i b off : Nat} {cs : Array Value} {T : TypeId} {u v : Int}
  (hf0 : P.funcs[F]? = some fn) (hname : (fn.name == "runtime.NumGoroutine") = false) (hb : fn.body.isNone = true) (hn : Extern.findNext fn = none) (he : Extern.find fn = some (Extern.Atomic.update (Op.intArith .add) k true)) (hd : Nat.blt d n = true)
  (hx : ev l x = some (.pointer (some ⟨b, off, none⟩))) (hy : ev l y = some (.int k v)) (hi : L[i]? = some ⟨true, b, .cells cs T (0, 0)⟩) (hv : cs.toList[off]? = some (.int k u))
  (h : G n ((d, .int k (k.wrap (u + v))) :: l) S w0 (L.set i ⟨true, b, .cells (cs.setIfInBounds off (.int k (k.wrap (u + v)))) T (0, 0)⟩) K) :
  G n l S w0 L (K1 P ops kt ⟨some d, .call { callee := .value (.func F), args := [x, y].toArray, argTypes := ats }, ty, pos, af, none⟩ K) := .mk fun a w hf H => h4n rfl <| by
 unfold Oper.wp
 rw [execOp_call_go, List.map_toArray]
 have e : [x, y].map a.eval = [.pointer (some ⟨b, off, none⟩), .int k v] := by simp [hf.eval hx, hf.eval hy]
 rw [e]
 have : (#[] ++ [Value.pointer (some ⟨b, off, none⟩), Value.int k v].toArray ++ #[] : Array Value) = #[.pointer (some ⟨b, off, none⟩), .int k v] := by simp
 rw [this, run_call_add hf0 hname hb hn k he ((cell_at H i hi).trans (by simpa using hv)) (by simp [frozen_at H i hi]) (s:=k.wrap (u + v)) (by simp [Op.intArith])]
 have H1 := H.turn i hi (w.setCell ⟨b, off, none⟩ (.int k (k.wrap (u + v)))) (.cells (cs.setIfInBounds off (.int k (k.wrap (u + v)))) T (0, 0)) rfl rfl rfl (by simp)
  (by rw [heap_setCell_same w b off cs T _ (H.at_ i hi)]) (fun q hq => heap_setCell_other w _ q _ hq)
 exact h.out _ _ (hf.put (some d) _ hd) H1
end
theorem aadd_c {S w0 L} (b off T : Nat) (cs : List Value) (u v : Int) (hv : cs.toArray.toList[off]? = some (.int .i64 u)) : Fn Tryz.prog 88 #[.pointer (some ⟨b, off, none⟩), .int .i64 v] S w0 (⟨true, b, .cells cs.toArray T (0, 0)⟩ :: L) fun r L' => r = .int .i64 (IntKind.i64.wrap (u + v)) ∧ ⟨true, b, .cells (cs.set off (.int .i64 (IntKind.i64.wrap (u + v)))).toArray T (0, 0)⟩ :: L = L' := by
 refine Fn2 Tryz.func88 Tryz.ntmps88 rfl rfl ?_
 repeat' (first | refine h0p ?_ | refine h0d ?_ | refine h0e ?_ | refine h0t ?_ | refine h1u ?_ | refine h4u ?_ | refine h1n ?_ | refine h1f ?_ | refine h0x ?_ | refine h2p ?_ | refine h1v ?_ | refine G_blk_y rfl ?_ | refine h0r ?_ | refine h0u ?_ | refine h2o ?_ | refine h1h ?_ | refine h0j rfl ?_ | refine h0h rfl ?_ | (refine gR 0 ?_ <;> (try refine h0f ?_; (first | (refine q_k (h3g rfl) ?_))) <;> (try refine h0d ?_)) | (refine gR 1 ?_ <;> (try refine h0f ?_; (first | (refine q_k (h0m rfl) ?_))) <;> (try refine h0f ?_; (first | (refine q_k (h0l rfl) ?_))) <;> (try refine h0f ?_; (first | (refine q_k (by first | (exact q_f fo_153_2) | (exact q_g fo_153_2)) ?_))) <;> (try refine h0f ?_; (first | (refine q_k (h0m rfl) ?_))) <;> (try refine h0f ?_; (first | (first | (refine K1_aadd (i:=0) Tryz.func104 (by kernel_rfl) (by kernel_rfl) (by kernel_rfl) (by kernel_rfl) rfl rfl rfl rfl hv ?_; (try simp only [List.set_cons_zero]); (try simp only [List.setIfInBounds_toArray]))))) <;> (try refine h0f ?_; (first | (refine q_k (h3g rfl) ?_))) <;> (try refine h0d ?_)) | ((first | (refine G_cond_nd rfl (fun hc => ?_) (fun hc => ?_)) | (refine h5v rfl (fun hc => ?_) (fun hc => ?_)) | (refine G_cond rfl (fun hc => ?_) (fun hc => ?_))) <;> (try subst hc)))
 (refine h0v Tryz.results88 (.tmp rfl .nil) ?_)
 exact ⟨_, ⟨rfl, rfl⟩, fun _ H => H⟩
structure Cll where
 num : Int
 name : ByteArray
 args : Int
def Cll.cells (c : Cll) : List Value := [.int .u32 c.num, .string c.name, .int .i64 c.args]
def Cll.v (c : Cll) : Value := .agg #[.int .u32 c.num, .string c.name, .int .i64 c.args]
def clls : List Cll := [
 ⟨0, ⟨#[114, 101, 97, 100]⟩, 2⟩,
 ⟨1, ⟨#[119, 114, 105, 116, 101]⟩, 2⟩,
 ⟨2, ⟨#[111, 112, 101, 110]⟩, 2⟩,
 ⟨3, ⟨#[99, 108, 111, 115, 101]⟩, 1⟩,
 ⟨4, ⟨#[115, 116, 97, 116]⟩, 1⟩,
 ⟨8, ⟨#[115, 101, 101, 107]⟩, 2⟩,
 ⟨32, ⟨#[100, 117, 112]⟩, 1⟩,
 ⟨39, ⟨#[112, 105, 100]⟩, 0⟩,
 ⟨41, ⟨#[115, 111, 99, 107, 101, 116]⟩, 0⟩,
 ⟨42, ⟨#[99, 111, 110, 110, 101, 99, 116]⟩, 2⟩,
 ⟨49, ⟨#[98, 105, 110, 100]⟩, 2⟩,
 ⟨50, ⟨#[108, 105, 115, 116, 101, 110]⟩, 1⟩,
 ⟨57, ⟨#[102, 111, 114, 107]⟩, 0⟩,
 ⟨60, ⟨#[101, 120, 105, 116]⟩, 1⟩,
 ⟨77, ⟨#[116, 114, 117, 110, 99, 97, 116, 101]⟩, 2⟩,
 ⟨78, ⟨#[114, 101, 97, 100, 100, 105, 114]⟩, 1⟩,
 ⟨79, ⟨#[99, 119, 100]⟩, 0⟩,
 ⟨80, ⟨#[99, 104, 100, 105, 114]⟩, 1⟩,
 ⟨82, ⟨#[114, 101, 110, 97, 109, 101]⟩, 2⟩,
 ⟨83, ⟨#[109, 107, 100, 105, 114]⟩, 1⟩,
 ⟨84, ⟨#[114, 109, 100, 105, 114]⟩, 1⟩,
 ⟨86, ⟨#[108, 105, 110, 107]⟩, 2⟩,
 ⟨87, ⟨#[117, 110, 108, 105, 110, 107]⟩, 1⟩,
 ⟨88, ⟨#[115, 121, 109, 108, 105, 110, 107]⟩, 2⟩,
 ⟨89, ⟨#[114, 101, 97, 100, 108, 105, 110, 107]⟩, 1⟩,
 ⟨157, ⟨#[112, 114, 99, 116, 108]⟩, 1⟩,
 ⟨165, ⟨#[109, 111, 117, 110, 116]⟩, 2⟩,
 ⟨166, ⟨#[117, 109, 111, 117, 110, 116]⟩, 1⟩,
 ⟨317, ⟨#[115, 101, 99, 99, 111, 109, 112]⟩, 1⟩,
 ⟨446, ⟨#[114, 101, 115, 116, 114, 105, 99, 116]⟩, 1⟩]
theorem clls_len : clls.length = 30 := rfl
def flatN (l : List Cll) : List Value := l.flatMap Cll.cells
theorem flatN_len (l : List Cll) : (flatN l).length = l.length * 3 := by
 induction l with
 | nil => rfl
 | cons i l ih => simp only [flatN, List.flatMap_cons, List.length_append, List.length_cons] at ih ⊢; rw [ih]; simp only [Cll.cells, List.length_cons, List.length_nil]; omega
theorem flatN_at (l : List Cll) (k : Nat) (h : k < l.length) : ((flatN l).drop (k * 3)).take 3 = (l[k]).cells := by
 induction l generalizing k with
 | nil => simp at h
 | cons i l ih =>
  cases k with
  | zero => simp [flatN, Cll.cells]
  | succ k =>
   have := ih k (by simpa using h)
   rw [show (k + 1) * 3 = k * 3 + 3 by omega]
   simpa [flatN, Cll.cells] using this
def h6o (l : List Cll) : List (Value × Value) := l.map fun c => (.string c.name, c.v)
def byNum (l : List Cll) : List (Value × Value) := l.map fun c => (.int .u32 c.num, c.v)
abbrev tbl0 (b : Nat) (a m : Int) : Blk := ⟨true, b, .cells [.int .u32 0, .int .i32 0, .int .u32 0, .map none, .map none, .int .i64 a, .int .i64 m].toArray 155 (0, 0)⟩
abbrev tbl1 (b m1 m2 : Nat) (a m : Int) : Blk := ⟨true, b, .cells [.int .u32 1, .int .i32 0, .int .u32 0, .map (some m1), .map (some m2), .int .i64 a, .int .i64 m].toArray 155 (0, 0)⟩
theorem new_c {S w0 L} : Fn Tryz.prog 20 #[] S w0 L fun v L' => ∃ b, v = .pointer (some ⟨b, 0, none⟩) ∧ tbl0 b 0 0 :: L = L' := by
 refine Fn0 Tryz.func20 Tryz.ntmps20 rfl ?_
 repeat' (first | refine h0p ?_ | refine h0e ?_ | refine h1h ?_ | (refine gR 0 (p_a (h:=h0d ?_))) | (refine gR 1 ?_ <;> (try refine q_e (by exact h0s (t:=155) (fun vs => (match vs with | [] => [Value.int .u32 0, Value.int .i32 0, Value.int .u32 0, Value.map none, Value.map none, Value.int .i64 0, Value.int .i64 0] | _ => [])) rfl (fun w => by kernel_rfl)) ?_; (try simp only [Value.cells]); (try simp only [zzC, zzN])) <;> (try refine h0f ?_; (refine h5b (t:=155) rfl rfl ?_; intro nb hnb; (try simp only [Value.cells]))) <;> (try refine p_a (h:=h0d ?_))))
 (refine h0v Tryz.results20 (.tmp rfl .nil) ?_)
 exact ⟨_, ⟨_, rfl, rfl⟩, fun _ H => H⟩
set_option maxHeartbeats 2000000 in
theorem all_c {S w0 L} : Fn Tryz.prog 103 #[] S w0 L fun v L' => ∃ b, v = .slice (some ⟨b, 0, none⟩) 30 30 ∧ ⟨true, b, .cells (flatN clls).toArray 116 (0, 0)⟩ :: L = L' := by
 refine Fn0 Tryz.func103 Tryz.ntmps103 rfl ?_
 repeat' (first | refine h0p ?_ | refine h0e ?_ | refine h1h ?_ | (refine gR 0 (p_a (h:=h0d ?_))) | (refine gR 1 ?_ <;> (try refine q_e (by exact h0s (t:=116) (fun vs => (match vs with | [(_, x0), (_, x1), (_, x2)] => [x0, x1, x2] | _ => [])) rfl (fun w => by kernel_rfl)) ?_; (try simp only [Value.cells]); (try simp only [zzC, zzN])) <;> (try refine q_e (by exact h0s (t:=116) (fun vs => (match vs with | [(_, x0), (_, x1), (_, x2)] => [x0, x1, x2] | _ => [])) rfl (fun w => by kernel_rfl)) ?_; (try simp only [Value.cells]); (try simp only [zzC, zzN])) <;> (try refine q_e (by exact h0s (t:=116) (fun vs => (match vs with | [(_, x0), (_, x1), (_, x2)] => [x0, x1, x2] | _ => [])) rfl (fun w => by kernel_rfl)) ?_; (try simp only [Value.cells]); (try simp only [zzC, zzN])) <;> (try refine q_e (by exact h0s (t:=116) (fun vs => (match vs with | [(_, x0), (_, x1), (_, x2)] => [x0, x1, x2] | _ => [])) rfl (fun w => by kernel_rfl)) ?_; (try simp only [Value.cells]); (try simp only [zzC, zzN])) <;> (try refine q_e (by exact h0s (t:=116) (fun vs => (match vs with | [(_, x0), (_, x1), (_, x2)] => [x0, x1, x2] | _ => [])) rfl (fun w => by kernel_rfl)) ?_; (try simp only [Value.cells]); (try simp only [zzC, zzN])) <;> (try refine q_e (by exact h0s (t:=116) (fun vs => (match vs with | [(_, x0), (_, x1), (_, x2)] => [x0, x1, x2] | _ => [])) rfl (fun w => by kernel_rfl)) ?_; (try simp only [Value.cells]); (try simp only [zzC, zzN])) <;> (try refine q_e (by exact h0s (t:=116) (fun vs => (match vs with | [(_, x0), (_, x1), (_, x2)] => [x0, x1, x2] | _ => [])) rfl (fun w => by kernel_rfl)) ?_; (try simp only [Value.cells]); (try simp only [zzC, zzN])) <;> (try refine q_e (by exact h0s (t:=116) (fun vs => (match vs with | [(_, x0), (_, x1), (_, x2)] => [x0, x1, x2] | _ => [])) rfl (fun w => by kernel_rfl)) ?_; (try simp only [Value.cells]); (try simp only [zzC, zzN])) <;> (try refine q_e (by exact h0s (t:=116) (fun vs => (match vs with | [(_, x0), (_, x1), (_, x2)] => [x0, x1, x2] | _ => [])) rfl (fun w => by kernel_rfl)) ?_; (try simp only [Value.cells]); (try simp only [zzC, zzN])) <;> (try refine q_e (by exact h0s (t:=116) (fun vs => (match vs with | [(_, x0), (_, x1), (_, x2)] => [x0, x1, x2] | _ => [])) rfl (fun w => by kernel_rfl)) ?_; (try simp only [Value.cells]); (try simp only [zzC, zzN])) <;> (try refine q_e (by exact h0s (t:=116) (fun vs => (match vs with | [(_, x0), (_, x1), (_, x2)] => [x0, x1, x2] | _ => [])) rfl (fun w => by kernel_rfl)) ?_; (try simp only [Value.cells]); (try simp only [zzC, zzN])) <;> (try refine q_e (by exact h0s (t:=116) (fun vs => (match vs with | [(_, x0), (_, x1), (_, x2)] => [x0, x1, x2] | _ => [])) rfl (fun w => by kernel_rfl)) ?_; (try simp only [Value.cells]); (try simp only [zzC, zzN])) <;> (try refine q_e (by exact h0s (t:=116) (fun vs => (match vs with | [(_, x0), (_, x1), (_, x2)] => [x0, x1, x2] | _ => [])) rfl (fun w => by kernel_rfl)) ?_; (try simp only [Value.cells]); (try simp only [zzC, zzN])) <;> (try refine q_e (by exact h0s (t:=116) (fun vs => (match vs with | [(_, x0), (_, x1), (_, x2)] => [x0, x1, x2] | _ => [])) rfl (fun w => by kernel_rfl)) ?_; (try simp only [Value.cells]); (try simp only [zzC, zzN])) <;> (try refine q_e (by exact h0s (t:=116) (fun vs => (match vs with | [(_, x0), (_, x1), (_, x2)] => [x0, x1, x2] | _ => [])) rfl (fun w => by kernel_rfl)) ?_; (try simp only [Value.cells]); (try simp only [zzC, zzN])) <;> (try refine q_e (by exact h0s (t:=116) (fun vs => (match vs with | [(_, x0), (_, x1), (_, x2)] => [x0, x1, x2] | _ => [])) rfl (fun w => by kernel_rfl)) ?_; (try simp only [Value.cells]); (try simp only [zzC, zzN])) <;> (try refine q_e (by exact h0s (t:=116) (fun vs => (match vs with | [(_, x0), (_, x1), (_, x2)] => [x0, x1, x2] | _ => [])) rfl (fun w => by kernel_rfl)) ?_; (try simp only [Value.cells]); (try simp only [zzC, zzN])) <;> (try refine q_e (by exact h0s (t:=116) (fun vs => (match vs with | [(_, x0), (_, x1), (_, x2)] => [x0, x1, x2] | _ => [])) rfl (fun w => by kernel_rfl)) ?_; (try simp only [Value.cells]); (try simp only [zzC, zzN])) <;> (try refine q_e (by exact h0s (t:=116) (fun vs => (match vs with | [(_, x0), (_, x1), (_, x2)] => [x0, x1, x2] | _ => [])) rfl (fun w => by kernel_rfl)) ?_; (try simp only [Value.cells]); (try simp only [zzC, zzN])) <;> (try refine q_e (by exact h0s (t:=116) (fun vs => (match vs with | [(_, x0), (_, x1), (_, x2)] => [x0, x1, x2] | _ => [])) rfl (fun w => by kernel_rfl)) ?_; (try simp only [Value.cells]); (try simp only [zzC, zzN])) <;> (try refine q_e (by exact h0s (t:=116) (fun vs => (match vs with | [(_, x0), (_, x1), (_, x2)] => [x0, x1, x2] | _ => [])) rfl (fun w => by kernel_rfl)) ?_; (try simp only [Value.cells]); (try simp only [zzC, zzN])) <;> (try refine q_e (by exact h0s (t:=116) (fun vs => (match vs with | [(_, x0), (_, x1), (_, x2)] => [x0, x1, x2] | _ => [])) rfl (fun w => by kernel_rfl)) ?_; (try simp only [Value.cells]); (try simp only [zzC, zzN])) <;> (try refine q_e (by exact h0s (t:=116) (fun vs => (match vs with | [(_, x0), (_, x1), (_, x2)] => [x0, x1, x2] | _ => [])) rfl (fun w => by kernel_rfl)) ?_; (try simp only [Value.cells]); (try simp only [zzC, zzN])) <;> (try refine q_e (by exact h0s (t:=116) (fun vs => (match vs with | [(_, x0), (_, x1), (_, x2)] => [x0, x1, x2] | _ => [])) rfl (fun w => by kernel_rfl)) ?_; (try simp only [Value.cells]); (try simp only [zzC, zzN])) <;> (try refine q_e (by exact h0s (t:=116) (fun vs => (match vs with | [(_, x0), (_, x1), (_, x2)] => [x0, x1, x2] | _ => [])) rfl (fun w => by kernel_rfl)) ?_; (try simp only [Value.cells]); (try simp only [zzC, zzN])) <;> (try refine q_e (by exact h0s (t:=116) (fun vs => (match vs with | [(_, x0), (_, x1), (_, x2)] => [x0, x1, x2] | _ => [])) rfl (fun w => by kernel_rfl)) ?_; (try simp only [Value.cells]); (try simp only [zzC, zzN])) <;> (try refine q_e (by exact h0s (t:=116) (fun vs => (match vs with | [(_, x0), (_, x1), (_, x2)] => [x0, x1, x2] | _ => [])) rfl (fun w => by kernel_rfl)) ?_; (try simp only [Value.cells]); (try simp only [zzC, zzN])) <;> (try refine q_e (by exact h0s (t:=116) (fun vs => (match vs with | [(_, x0), (_, x1), (_, x2)] => [x0, x1, x2] | _ => [])) rfl (fun w => by kernel_rfl)) ?_; (try simp only [Value.cells]); (try simp only [zzC, zzN])) <;> (try refine q_e (by exact h0s (t:=116) (fun vs => (match vs with | [(_, x0), (_, x1), (_, x2)] => [x0, x1, x2] | _ => [])) rfl (fun w => by kernel_rfl)) ?_; (try simp only [Value.cells]); (try simp only [zzC, zzN])) <;> (try refine q_e (by exact h0s (t:=116) (fun vs => (match vs with | [(_, x0), (_, x1), (_, x2)] => [x0, x1, x2] | _ => [])) rfl (fun w => by kernel_rfl)) ?_; (try simp only [Value.cells]); (try simp only [zzC, zzN])) <;> (try refine h0f ?_; (refine h0o (t:=204) (m:=30) (e:=116) (fun vs => (match vs with | [(_, x0), (_, x1), (_, x2), (_, x3), (_, x4), (_, x5), (_, x6), (_, x7), (_, x8), (_, x9), (_, x10), (_, x11), (_, x12), (_, x13), (_, x14), (_, x15), (_, x16), (_, x17), (_, x18), (_, x19), (_, x20), (_, x21), (_, x22), (_, x23), (_, x24), (_, x25), (_, x26), (_, x27), (_, x28), (_, x29)] => x0.cells.toList ++ (x1.cells.toList ++ (x2.cells.toList ++ (x3.cells.toList ++ (x4.cells.toList ++ (x5.cells.toList ++ (x6.cells.toList ++ (x7.cells.toList ++ (x8.cells.toList ++ (x9.cells.toList ++ (x10.cells.toList ++ (x11.cells.toList ++ (x12.cells.toList ++ (x13.cells.toList ++ (x14.cells.toList ++ (x15.cells.toList ++ (x16.cells.toList ++ (x17.cells.toList ++ (x18.cells.toList ++ (x19.cells.toList ++ (x20.cells.toList ++ (x21.cells.toList ++ (x22.cells.toList ++ (x23.cells.toList ++ (x24.cells.toList ++ (x25.cells.toList ++ (x26.cells.toList ++ (x27.cells.toList ++ (x28.cells.toList ++ x29.cells.toList)))))))))))))))))))))))))))) | _ => [])) rfl rfl (fun w => by kernel_rfl) ?_; intro nb hnb; (try simp only [Value.cells]); (try simp only [zzC, zzN]))) <;> (try refine p_a (h:=h0d ?_))))
 (refine h0v Tryz.results103 (.tmp rfl .nil) ?_)
 exact ⟨_, ⟨_, rfl, rfl⟩, fun _ H => H⟩
theorem fd_app_none {d : TypeDesc} {k : Value} {a : List (Value × Value)} {i : Nat} (h : ∀ p ∈ a, Instr.sameNow d k p.1 = some false) : fd d k a i = some none := by
 induction a generalizing i with
 | nil => rfl
 | cons p r ih =>
  simp only [fd, h p (by simp)]
  exact ih (fun q hq => h q (by simp [hq]))
theorem names_new : ∀ k : Fin 30, ∀ c ∈ clls.take k.val, (clls[k.val]'(by have := k.isLt; rw [clls_len]; exact this)).name ≠ c.name ∧ (clls[k.val]'(by have := k.isLt; rw [clls_len]; exact this)).num ≠ c.num := by decide +kernel
theorem fd_name {l : List Cll} {s : ByteArray} (h : ∀ c ∈ l, s ≠ c.name) : fd .string (.string s) (h6o l) 0 = some none := by
 apply fd_app_none
 intro p hp
 obtain ⟨c, hc, rfl⟩ := List.mem_map.1 hp
 simp [Instr.sameNow, ba_beq, h c hc]
theorem fd_num {l : List Cll} {s : Int} (h : ∀ c ∈ l, s ≠ c.num) : fd (.int .u32) (.int .u32 s) (byNum l) 0 = some none := by
 apply fd_app_none
 intro p hp
 obtain ⟨c, hc, rfl⟩ := List.mem_map.1 hp
 simp [Instr.sameNow, h c hc]
set_option maxHeartbeats 1000000 in
theorem fill_c {S w0 L} (b : Nat) (sm a m : Int) (hm : 0 ≤ m ∧ m < 4000000000000000000) : Fn Tryz.prog 87 #[.pointer (some ⟨b, 0, none⟩)] S w0 (⟨true, b, .cells [.int .u32 0, .int .i32 1, .int .u32 sm, .map none, .map none, .int .i64 a, .int .i64 m].toArray 155 (0, 0)⟩ :: L)
  (OnceR 155 b 0 fun cs L2 => ∃ m1 m2, cs = [.int .u32 0, .int .i32 1, .int .u32 sm, .map (some m1), .map (some m2), .int .i64 a, .int .i64 (m + 1)] ∧ L2 = h3m m1 (h6o clls) :: h3m m2 (byNum clls) :: L) := by
 have e1 : IntKind.i64.wrap (m + 1) = m + 1 := IntWalk.i64_in _ (by omega)
 refine Fn1 Tryz.func87 Tryz.ntmps87 rfl rfl ?_
 repeat' (first | (refine h2r (id:=0) ?_) | refine h0p ?_ | refine h0e ?_ | (refine gR 0 (p_m (h:=q_m ?_)) <;> (try refine h0f ?_; (refine K1_makeMap rfl ?_; intro nb hnb)) <;> (try refine h0f ?_; (refine K1_makeMap rfl ?_; intro nb hnb)) <;> (try refine p_n (h:=q_e (q_f fo_155_1) ?_)) <;> (try refine h0f ?_; (refine q_S ?_)) <;> (try refine p_n (h:=q_e (q_f fo_155_2) ?_)) <;> (try refine h0f ?_; (refine q_S ?_)) <;> (try refine h0d ?_)) | (refine gR 1 ?_ <;> (try refine h0f ?_; (refine q_c 103 (c:=by apply all_c) (h:=?_); rintro _ _ ⟨bs, rfl, rfl⟩; (try simp only [zzE, zzF]))) <;> (try refine p_e (by apply h0g; exact rfl; exact (fun _ => BigFrame.builtin_len ..); apply h0k Tryz.underlying204; exact h4y) (h:=p_m (h:=h0d ?_)))))
 refine ⟨?_⟩
 obtain ⟨m2, rfl⟩ : ∃ x, x = nb := ⟨_, rfl⟩
 obtain ⟨m1, rfl⟩ : ∃ x, x = nb := ⟨_, rfl⟩
 refine h0r ?_
 refine h2s (γ:=Nat) (fun k => k ≤ 30) (fun k => 30 - k) (fun k => [(14, .int .i64 (k : Nat))]) [(0, _), (12, _), (13, _)]
  (fun k => ⟨true, b, .cells [.int .u32 0, .int .i32 1, .int .u32 sm, .map (some m1), .map (some m2), .int .i64 a, .int .i64 m].toArray 155 (0, 0)⟩ :: h3m m1 (h6o (clls.take k)) :: h3m m2 (byNum (clls.take k)) :: ⟨true, bs, .cells (flatN clls).toArray 116 (0, 0)⟩ :: L)
  0 (.cons rfl (.cons rfl (.cons rfl .nil))) (Nat.zero_le _) (by (focus (repeat (first | exact Sub.nil | refine Sub.cons rfl ?_)))) ?_ ?_
 ·intro w H
  exact (((H.pick (i:=3) rfl).perm (.cons _ (.cons _ (.swap _ _ _)))).perm (.cons _ (.swap _ _ _))).perm (.cons _ (.cons _ (.swap _ _ _)))
 intro k (hk : k ≤ 30)
 simp only [List.cons_append, List.nil_append]
 by_cases hlt : k < 30
 ·have hx := flatN_at clls k hlt
  have hsz : k * 3 + 3 ≤ (flatN clls).toArray.size := by rw [List.size_toArray, flatN_len, clls_len]; omega
  have hnn := names_new ⟨k, hlt⟩
  have hs1 : clls.take (k + 1) = clls.take k ++ [clls[k]'(by rw [clls_len]; exact hlt)] := by rw [List.take_add_one, List.getElem?_eq_getElem]; rfl
  dsimp only at hnn
  generalize hc : clls[k]'(by rw [clls_len]; exact hlt) = c at *
  have hf1 := fd_name (l:=clls.take k) (s:=c.name) (fun q hq => (hnn q hq).1)
  have hf2 := fd_num (l:=clls.take k) (s:=c.num) (fun q hq => (hnn q hq).2)
  obtain ⟨num, name, args⟩ := c
  simp only [Cll.cells] at hx hf1 hf2
  have hs1' := Lib.hid hs1
  clear hs1 hnn hc
  repeat' (first | refine h0p ?_ | refine h0e ?_ | refine h0t ?_ | refine h0x ?_ | refine h0r ?_ | refine h0u ?_ | refine h0j rfl ?_ | (refine gR 2 (p_e (q_b (r:=by exact h1d q_o)) (h:=h0d ?_))) | (refine gR 3 (p_e (by apply h0n; exact rfl; exact rfl; (focus (apply h3e Tryz.underlying204 sz_116; omega; omega; exact c_1))) (h:=q_e (by apply h3p (t:=116); exact rfl; exact h3n; kernel_rfl; kernel_rfl; exact sz_116; (with_reducible assumption); (with_reducible assumption)) ?_)) <;> (try refine h0f ?_; (refine h0i (t:=116) rfl Tryz.zeroValue116 ?_; intro nb hnb; (try simp only [Value.cells]))) <;> (try refine h0f ?_; (refine q_W ?_)) <;> (try refine h0d ?_)) | ((apply h4t (i:=2) (j:=2) (id:=4) (m:=20); exact c_11; kernel_rfl; exact rfl) <;> (try refine q_t 0 (e:=c_3) (x:=by exact h0m rfl) (h:=q_t 1 (e:=c_3) (x:=by exact h0l rfl) (h:=q_t 2 (e:=c_3) (x:=by exact q_f fo_155_1) (h:=q_t 3 (e:=c_3) (x:=by exact q_l) (h:=q_t 4 (e:=c_3) (x:=by exact q_f fo_116_1) (h:=q_t 5 (e:=c_3) (x:=by exact q_l) (h:=q_t 6 (e:=c_3) (x:=by exact h0m rfl) (h:=q_t 7 (e:=c_3) (x:=by exact h0l rfl) (h:=q_t 8 (e:=c_3) (x:=by exact q_f fo_155_2) (h:=q_t 9 (e:=c_3) (x:=by exact q_l) (h:=q_t 10 (e:=c_3) (x:=by exact q_f fo_116_0) (h:=q_t 11 (e:=c_3) (x:=by exact q_l) (h:=q_t 12 (e:=c_3) (x:=by exact q_L sz_116) (h:=q_t 13 (e:=c_3) (x:=by exact q_L sz_116) (h:=?_))))))))))))))) <;> (try refine q_r 14 ?_; (apply K1_mapEntry; exact rfl; exact rfl; exact rfl; exact h3n; exact Tryz.underlying149; exact Tryz.underlying9; exact trivial; exact Tryz.zeroValue116; (with_reducible assumption); (try simp only [List.set_cons_succ]); (try simp only [List.set_cons_zero])); refine h1g c_3 ?_) <;> (try refine q_t 15 (e:=c_3) (x:=by exact h4d rfl rfl) (h:=?_)) <;> (try refine q_r 16 ?_; (apply K1_entryStoreL; exact rfl; exact rfl; exact rfl; exact h3n; (try simp only [List.set_cons_succ]); (try simp only [List.set_cons_zero])); refine h1g c_3 ?_) <;> (try refine q_r 17 ?_; (apply K1_mapEntry; exact rfl; exact rfl; exact rfl; exact h3n; exact Tryz.underlying150; exact Tryz.underlying28; exact rfl; exact Tryz.zeroValue116; (with_reducible assumption); (try simp only [List.set_cons_succ]); (try simp only [List.set_cons_zero])); refine h1g c_3 ?_) <;> (try refine q_t 18 (e:=c_3) (x:=by exact h4d rfl rfl) (h:=?_)) <;> (try refine q_r 19 ?_; (apply K1_entryStoreL; exact rfl; exact rfl; exact rfl; exact h3n; (try simp only [List.set_cons_succ]); (try simp only [List.set_cons_zero])); refine h1g c_3 ?_) <;> (try refine h1e (by kernel_rfl) ?_)) | (refine gR 5 ?_ <;> (try refine q_e (q_b (r:=by apply h1r; exact c_5; (focus (refine IntWalk.i64_in _ ?_; omega)))) ?_) <;> (try refine p_m (h:=h0d ?_))))
  refine h0w (k + 1) ⟨by omega, by omega⟩ (by (focus (repeat (first | exact Sub.nil | refine Sub.cons rfl ?_)))) ?_
  have eb : h6o (clls.take (k + 1)) = h6o (clls.take k) ++ [(Value.string name, Value.agg #[.int .u32 num, .string name, .int .i64 args])] := by rw [hs1'.out, h6o, List.map_append]; rfl
  have en : byNum (clls.take (k + 1)) = byNum (clls.take k) ++ [(Value.int .u32 num, Value.agg #[.int .u32 num, .string name, .int .i64 args])] := by rw [hs1'.out, byNum, List.map_append]; rfl
  rw [eb, en]
  exact fun _ H => H.tail
 ·obtain rfl : k = 30 := by omega
  have ha1 := fun (L : List Blk) => aadd_c (S:=S) (w0:=w0) (L:=L) b 6 155 [.int .u32 0, .int .i32 1, .int .u32 sm, .map (some m1), .map (some m2), .int .i64 a, .int .i64 m] m 1 rfl
  simp only [e1, List.set_cons_succ, List.set_cons_zero] at ha1
  rw [show clls.take 30 = clls from List.take_of_length_le (Nat.le_refl _)]
  repeat' (first | refine h0p ?_ | refine h0e ?_ | refine h1u ?_ | refine h1n ?_ | refine h1v ?_ | refine h2o ?_ | refine h0h rfl ?_ | (refine gR 2 (p_e (q_b (r:=by exact h1j q_o)) (h:=h0d ?_))) | (refine gR 6 (p_m (h:=p_n (h:=q_e (q_f fo_155_4) ?_))) <;> (try refine h0f ?_; (refine h1k (F:=88) (by kernel_rfl) rfl rfl (ha1 _) ?_; rintro _ _ ⟨rfl, rfl⟩)) <;> (try refine h0d ?_)))
  (first | refine h0v Tryz.results87 .nil ?_ | refine h2w Tryz.results87 .nil ?_)
  refine ⟨_, ⟨rfl, _, h3m m1 (h6o clls) :: h3m m2 (byNum clls) :: L, ⟨m1, m2, rfl, rfl⟩, rfl, rfl, rfl⟩, by intro w H; refine H.sub ?_; (try simp only [zzC, zzN]); repeat (first | exact List.Sublist.refl _ | refine List.Sublist.cons_cons _ ?_ | refine List.Sublist.cons _ ?_)⟩
theorem ask0_c {S w0 L} (b : Nat) (a m : Int) (ha : 0 ≤ a ∧ a < 4000000000000000000) (hm : 0 ≤ m ∧ m < 4000000000000000000) : Fn Tryz.prog 60 #[.pointer (some ⟨b, 0, none⟩)] S w0 (tbl0 b a m :: L) fun v L' => ∃ m1 m2, v = .bool true ∧ tbl1 b m1 m2 (a + 1) (m + 1) :: h3m m1 (h6o clls) :: h3m m2 (byNum clls) :: L = L' := by
 have e1 : IntKind.i64.wrap (a + 1) = a + 1 := IntWalk.i64_in _ (by omega)
 have hdo := do_first (S:=S) (w0:=w0) (L:=L) (T:=155) (b:=b) (off:=0) (cs:=[.int .u32 0, .int .i32 0, .int .u32 0, .map none, .map none, .int .i64 a, .int .i64 m]) rfl rfl (fill_c (L:=L) b 0 a m hm)
 have ha1 := fun (L : List Blk) (m1 m2 : Nat) => aadd_c (S:=S) (w0:=w0) (L:=L) b 5 155 [.int .u32 1, .int .i32 0, .int .u32 0, .map (some m1), .map (some m2), .int .i64 a, .int .i64 (m + 1)] a 1 rfl
 simp only [e1, List.set_cons_succ, List.set_cons_zero] at ha1
 refine Fn1 Tryz.func60 Tryz.ntmps60 rfl rfl ?_
 repeat' (first | refine h0p ?_ | refine h0e ?_ | refine h0u ?_ | refine h1h ?_ | refine h0h rfl ?_ | (refine gR 0 (p_a (h:=h0d ?_))) | (refine gR 1 (p_m (h:=p_e (q_b (r:=by exact h6h Tryz.underlying41)) (h:=h0d ?_)))) | (refine gR 3 (p_m (h:=p_n (h:=p_e (q_f fo_155_0) (h:=p_m (h:=q_e (by apply E_makeFunc; exact rfl; exact rfl) ?_))))) <;> (try refine h0f ?_; (refine h1k (F:=86) (by kernel_rfl) rfl rfl hdo ?_; rintro _ _ ⟨rfl, cs', L2, ⟨m1, m2, rfl, rfl⟩, rfl⟩; simp only [List.set_cons_zero, List.set_cons_succ, Nat.zero_add])) <;> (try refine h0d ?_)) | (refine gR 4 (p_m (h:=p_n (h:=q_e (q_f fo_155_3) ?_))) <;> (try refine h0f ?_; (refine h1k (F:=88) (by kernel_rfl) rfl rfl (ha1 _ _ _) ?_; rintro _ _ ⟨rfl, rfl⟩)) <;> (try refine h0d ?_)) | (refine gR 5 (p_a (h:=h0d ?_))))
 (refine h0v Tryz.results60 (.tmp rfl .nil) ?_)
 exact ⟨_, ⟨m1, m2, rfl, rfl⟩, fun _ H => H⟩
theorem ask1_c {S w0 L} (b m1 m2 : Nat) (a m : Int) (ha : 0 ≤ a ∧ a < 4000000000000000000) : Fn Tryz.prog 60 #[.pointer (some ⟨b, 0, none⟩)] S w0 (tbl1 b m1 m2 a m :: L) fun v L' => v = .bool true ∧ tbl1 b m1 m2 (a + 1) m :: L = L' := by
 have e1 : IntKind.i64.wrap (a + 1) = a + 1 := IntWalk.i64_in _ (by omega)
 have hdo := fun fv => do_done (S:=S) (w0:=w0) (L:=L) (T:=155) (b:=b) (off:=0) (cs:=[.int .u32 1, .int .i32 0, .int .u32 0, .map (some m1), .map (some m2), .int .i64 a, .int .i64 m]) (fv:=fv) rfl
 have ha1 := fun (L : List Blk) => aadd_c (S:=S) (w0:=w0) (L:=L) b 5 155 [.int .u32 1, .int .i32 0, .int .u32 0, .map (some m1), .map (some m2), .int .i64 a, .int .i64 m] a 1 rfl
 simp only [e1, List.set_cons_succ, List.set_cons_zero] at ha1
 refine Fn1 Tryz.func60 Tryz.ntmps60 rfl rfl ?_
 repeat' (first | refine h0p ?_ | refine h0e ?_ | refine h0u ?_ | refine h1h ?_ | refine h0h rfl ?_ | (refine gR 0 (p_a (h:=h0d ?_))) | (refine gR 1 (p_m (h:=p_e (q_b (r:=by exact h6h Tryz.underlying41)) (h:=h0d ?_)))) | (refine gR 3 (p_m (h:=p_n (h:=p_e (q_f fo_155_0) (h:=p_m (h:=q_e (by apply E_makeFunc; exact rfl; exact rfl) ?_))))) <;> (try refine h0f ?_; (refine h1k (F:=86) (by kernel_rfl) rfl rfl (hdo _) ?_; rintro _ _ ⟨rfl, rfl⟩)) <;> (try refine h0d ?_)) | (refine gR 4 (p_m (h:=p_n (h:=q_e (q_f fo_155_3) ?_))) <;> (try refine h0f ?_; (refine h1k (F:=88) (by kernel_rfl) rfl rfl (ha1 _) ?_; rintro _ _ ⟨rfl, rfl⟩)) <;> (try refine h0d ?_)) | (refine gR 5 (p_a (h:=h0d ?_))))
 (refine h0v Tryz.results60 (.tmp rfl .nil) ?_)
 exact ⟨_, ⟨rfl, rfl⟩, fun _ H => H⟩
def cllV : Option Cll → Value
 | some c => .agg #[.int .u32 c.num, .string c.name, .int .i64 c.args]
 | none => .agg #[.int .u32 0, .string ⟨#[]⟩, .int .i64 0]
def nameF (s : ByteArray) : List Cll → Option Cll
 | [] => none
 | c :: r => if s = c.name then some c else nameF s r
def h5x (n : Int) : List Cll → Option Cll
 | [] => none
 | c :: r => if n = c.num then some c else h5x n r
def zC : Value := .agg #[.int .u32 0, .string ⟨#[]⟩, .int .i64 0]
theorem fd_byName (s : ByteArray) (l : List Cll) (i : Nat) : ∃ r, fd .string (.string s) (h6o l) i = some r ∧ found r zC = cllV (nameF s l) ∧ r.isSome = (nameF s l).isSome := by
 induction l generalizing i with
 | nil => exact ⟨none, rfl, rfl, rfl⟩
 | cons c r ih =>
  by_cases h : s = c.name
  ·exact ⟨some (i, c.v), by simp [h6o, fd, Instr.sameNow, ba_beq, h], by simp [nameF, h, found, cllV, Cll.v], by simp [nameF, h]⟩
  ·obtain ⟨q, h1, h2, h3⟩ := ih (i + 1)
   exact ⟨q, by simpa [h6o, fd, Instr.sameNow, ba_beq, h] using h1, by simpa [nameF, h] using h2, by simpa [nameF, h] using h3⟩
theorem fd_byNum (s : Int) (l : List Cll) (i : Nat) : ∃ r, fd (.int .u32) (.int .u32 s) (byNum l) i = some r ∧ found r zC = cllV (h5x s l) ∧ r.isSome = (h5x s l).isSome := by
 induction l generalizing i with
 | nil => exact ⟨none, rfl, rfl, rfl⟩
 | cons c r ih =>
  by_cases h : s = c.num
  ·exact ⟨some (i, c.v), by simp [byNum, fd, Instr.sameNow, h], by simp [h5x, h, found, cllV, Cll.v], by simp [h5x, h]⟩
  ·obtain ⟨q, h1, h2, h3⟩ := ih (i + 1)
   exact ⟨q, by
    have e : (s == c.num) = false := by simpa using h
    simpa [byNum, fd, Instr.sameNow, e] using h1, by simpa [h5x, h] using h2, by simpa [h5x, h] using h3⟩
theorem cllV_agg (o : Option Cll) : ∃ n s a, cllV o = .agg #[.int .u32 n, .string s, .int .i64 a] := by
 cases o with
 | none => exact ⟨_, _, _, rfl⟩
 | some c => exact ⟨_, _, _, rfl⟩
def gotV (o : Option Cll) : Value := h2y [cllV o, .bool o.isSome]
theorem named1_c {S w0 L} (b m1 m2 : Nat) (a m : Int) (ha : 0 ≤ a ∧ a < 4000000000000000000) (s : ByteArray) : Fn Tryz.prog 98 #[.pointer (some ⟨b, 0, none⟩), .string s] S w0 (tbl1 b m1 m2 a m :: h3m m1 (h6o clls) :: h3m m2 (byNum clls) :: L) fun v L' => v = gotV (nameF s clls) ∧ tbl1 b m1 m2 (a + 1) m :: h3m m1 (h6o clls) :: h3m m2 (byNum clls) :: L = L' := by
 have hk := fun (L : List Blk) => ask1_c (S:=S) (w0:=w0) (L:=L) b m1 m2 a m ha
 obtain ⟨r, hr, hv, hb⟩ := fd_byName s clls 0
 have hg : gotV (nameF s clls) = h2y [cllV (nameF s clls), .bool (nameF s clls).isSome] := rfl
 obtain ⟨cn, cs, ca, hc⟩ := cllV_agg (nameF s clls)
 rw [hg, hc]
 rw [hc] at hv
 generalize clls = cl at *
 generalize (nameF s cl).isSome = fb at *
 clear hg hc
 unfold zC at hv
 refine Fn2 Tryz.func98 Tryz.ntmps98 rfl rfl ?_
 repeat' (first | refine h0p ?_ | refine h0e ?_ | refine h0u ?_ | refine h1h ?_ | refine h0h rfl ?_ | (refine gR 0 ?_ <;> (try refine h0f ?_; (refine h0i (t:=116) rfl Tryz.zeroValue116 ?_; intro nb hnb; (try simp only [Value.cells]))) <;> (try refine p_a (h:=h0d ?_))) | (refine gR 1 (q_m ?_) <;> (try refine h0f ?_; (refine h1k (F:=60) (by kernel_rfl) rfl rfl ((hk _).swp) ?_; rintro _ _ ⟨rfl, rfl⟩)) <;> (try refine p_e (by apply E_un; exact rfl; exact h4a) (h:=h0d ?_))) | (refine gR 3 (p_m (h:=p_n (h:=p_e (q_f fo_155_1) (h:=p_e q_l (h:=p_m (h:=p_e (by apply E_lookup; exact rfl; exact rfl; exact h3n; exact Tryz.underlying149; exact Tryz.underlying9; exact trivial; exact Tryz.zeroValue116; (with_reducible assumption); (with_reducible assumption); (with_reducible assumption)) (h:=p_m (h:=p_x (h:=q_x ?_))))))))) <;> (try refine h0f ?_; (refine h0i (t:=116) rfl Tryz.zeroValue116 ?_; intro nb hnb; (try simp only [Value.cells]))) <;> (try refine h0f ?_; (refine q_W ?_)) <;> (try refine p_a (h:=h0d ?_))) | (refine gR 4 (p_e (q_L sz_116) (h:=q_m ?_)) <;> (try refine h0f ?_; (refine q_W ?_)) <;> (try refine p_a (h:=h0d ?_))))
 (apply h0v Tryz.results98; (focus (apply Res.agg; exact rfl; (focus (repeat (first | exact fd0 | (with_reducible assumption) | apply fdA | apply fdS))); kernel_rfl; kernel_rfl; exact c_16; exact sz_116; apply Res.tmp; exact rfl; exact Res.nil)))
 exact ⟨_, ⟨rfl, rfl⟩, by intro w H; refine H.sub ?_; (try simp only [zzC, zzN]); repeat (first | exact List.Sublist.refl _ | refine List.Sublist.cons _ ?_)⟩
theorem numbered1_c {S w0 L} (b m1 m2 : Nat) (a m : Int) (ha : 0 ≤ a ∧ a < 4000000000000000000) (s : Int) : Fn Tryz.prog 31 #[.pointer (some ⟨b, 0, none⟩), .int .u32 s] S w0 (tbl1 b m1 m2 a m :: h3m m1 (h6o clls) :: h3m m2 (byNum clls) :: L) fun v L' => v = gotV (h5x s clls) ∧ tbl1 b m1 m2 (a + 1) m :: h3m m1 (h6o clls) :: h3m m2 (byNum clls) :: L = L' := by
 have hk := fun (L : List Blk) => ask1_c (S:=S) (w0:=w0) (L:=L) b m1 m2 a m ha
 obtain ⟨r, hr, hv, hb⟩ := fd_byNum s clls 0
 have hg : gotV (h5x s clls) = h2y [cllV (h5x s clls), .bool (h5x s clls).isSome] := rfl
 obtain ⟨cn, cs, ca, hc⟩ := cllV_agg (h5x s clls)
 rw [hg, hc]
 rw [hc] at hv
 generalize clls = cl at *
 generalize (h5x s cl).isSome = fb at *
 clear hg hc
 unfold zC at hv
 refine Fn2 Tryz.func31 Tryz.ntmps31 rfl rfl ?_
 repeat' (first | refine h0p ?_ | refine h0e ?_ | refine h0u ?_ | refine h1h ?_ | refine h0h rfl ?_ | (refine gR 0 ?_ <;> (try refine h0f ?_; (refine h0i (t:=116) rfl Tryz.zeroValue116 ?_; intro nb hnb; (try simp only [Value.cells]))) <;> (try refine p_a (h:=h0d ?_))) | (refine gR 1 (q_m ?_) <;> (try refine h0f ?_; (refine h1k (F:=60) (by kernel_rfl) rfl rfl ((hk _).swp) ?_; rintro _ _ ⟨rfl, rfl⟩)) <;> (try refine p_e (by apply E_un; exact rfl; exact h4a) (h:=h0d ?_))) | (refine gR 3 (p_m (h:=p_n (h:=p_e (q_f fo_155_2) (h:=p_e q_l (h:=p_m (h:=p_e (by apply E_lookup; exact rfl; exact rfl; exact h3n; exact Tryz.underlying150; exact Tryz.underlying28; exact rfl; exact Tryz.zeroValue116; (with_reducible assumption); (with_reducible assumption); (with_reducible assumption)) (h:=p_m (h:=p_x (h:=q_x ?_))))))))) <;> (try refine h0f ?_; (refine h0i (t:=116) rfl Tryz.zeroValue116 ?_; intro nb hnb; (try simp only [Value.cells]))) <;> (try refine h0f ?_; (refine q_W ?_)) <;> (try refine p_a (h:=h0d ?_))) | (refine gR 4 (p_e (q_L sz_116) (h:=q_m ?_)) <;> (try refine h0f ?_; (refine q_W ?_)) <;> (try refine p_a (h:=h0d ?_))))
 (apply h0v Tryz.results31; (focus (apply Res.agg; exact rfl; (focus (repeat (first | exact fd0 | (with_reducible assumption) | apply fdA | apply fdS))); kernel_rfl; kernel_rfl; exact c_16; exact sz_116; apply Res.tmp; exact rfl; exact Res.nil)))
 exact ⟨_, ⟨rfl, rfl⟩, by intro w H; refine H.sub ?_; (try simp only [zzC, zzN]); repeat (first | exact List.Sublist.refl _ | refine List.Sublist.cons _ ?_)⟩
theorem named0_c {S w0 L} (b : Nat) (a m : Int) (ha : 0 ≤ a ∧ a < 4000000000000000000) (hm : 0 ≤ m ∧ m < 4000000000000000000) (s : ByteArray) : Fn Tryz.prog 98 #[.pointer (some ⟨b, 0, none⟩), .string s] S w0 (tbl0 b a m :: L) fun v L' => ∃ m1 m2, v = gotV (nameF s clls) ∧ tbl1 b m1 m2 (a + 1) (m + 1) :: h3m m1 (h6o clls) :: h3m m2 (byNum clls) :: L = L' := by
 have hk := fun (L : List Blk) (i : Nat) (h1 : L[i]? = some (tbl0 b a m)) => Fn.at1 h1 (ask0_c (S:=S) (w0:=w0) (L:=L.eraseIdx i) b a m ha hm)
 obtain ⟨r, hr, hv, hb⟩ := fd_byName s clls 0
 have hg : gotV (nameF s clls) = h2y [cllV (nameF s clls), .bool (nameF s clls).isSome] := rfl
 obtain ⟨cn, cs, ca, hc⟩ := cllV_agg (nameF s clls)
 rw [hg, hc]
 rw [hc] at hv
 generalize clls = cl at *
 generalize (nameF s cl).isSome = fb at *
 clear hg hc
 unfold zC at hv
 refine Fn2 Tryz.func98 Tryz.ntmps98 rfl rfl ?_
 repeat' (first | refine h0p ?_ | refine h0e ?_ | refine h0u ?_ | refine h1h ?_ | refine h0h rfl ?_ | (refine gR 0 ?_ <;> (try refine h0f ?_; (refine h0i (t:=116) rfl Tryz.zeroValue116 ?_; intro nb hnb; (try simp only [Value.cells]))) <;> (try refine p_a (h:=h0d ?_))) | (refine gR 1 (q_m ?_) <;> (try refine h0f ?_; (refine q_c 60 (c:=by apply hk; exact c_9) (h:=?_); rintro _ _ ⟨m1, m2, rfl, rfl⟩; (try simp only [zzE, zzF]))) <;> (try refine p_e (by apply E_un; exact rfl; exact h4a) (h:=h0d ?_))) | (refine gR 3 (p_m (h:=p_n (h:=p_e (q_f fo_155_1) (h:=p_e q_l (h:=p_m (h:=p_e (by apply E_lookup; exact rfl; exact rfl; exact h3n; exact Tryz.underlying149; exact Tryz.underlying9; exact trivial; exact Tryz.zeroValue116; (with_reducible assumption); (with_reducible assumption); (with_reducible assumption)) (h:=p_m (h:=p_x (h:=q_x ?_))))))))) <;> (try refine h0f ?_; (refine h0i (t:=116) rfl Tryz.zeroValue116 ?_; intro nb hnb; (try simp only [Value.cells]))) <;> (try refine h0f ?_; (refine q_W ?_)) <;> (try refine p_a (h:=h0d ?_))) | (refine gR 4 (p_e (q_L sz_116) (h:=q_m ?_)) <;> (try refine h0f ?_; (refine q_W ?_)) <;> (try refine p_a (h:=h0d ?_))))
 (apply h0v Tryz.results98; (focus (apply Res.agg; exact rfl; (focus (repeat (first | exact fd0 | (with_reducible assumption) | apply fdA | apply fdS))); kernel_rfl; kernel_rfl; exact c_16; exact sz_116; apply Res.tmp; exact rfl; exact Res.nil)))
 exact ⟨_, ⟨m1, m2, rfl, rfl⟩, by intro w H; refine H.sub ?_; (try simp only [zzC, zzN]); repeat (first | exact List.Sublist.refl _ | refine List.Sublist.cons_cons _ ?_ | refine List.Sublist.cons _ ?_)⟩
theorem numbered0_c {S w0 L} (b : Nat) (a m : Int) (ha : 0 ≤ a ∧ a < 4000000000000000000) (hm : 0 ≤ m ∧ m < 4000000000000000000) (s : Int) : Fn Tryz.prog 31 #[.pointer (some ⟨b, 0, none⟩), .int .u32 s] S w0 (tbl0 b a m :: L) fun v L' => ∃ m1 m2, v = gotV (h5x s clls) ∧ tbl1 b m1 m2 (a + 1) (m + 1) :: h3m m1 (h6o clls) :: h3m m2 (byNum clls) :: L = L' := by
 have hk := fun (L : List Blk) (i : Nat) (h1 : L[i]? = some (tbl0 b a m)) => Fn.at1 h1 (ask0_c (S:=S) (w0:=w0) (L:=L.eraseIdx i) b a m ha hm)
 obtain ⟨r, hr, hv, hb⟩ := fd_byNum s clls 0
 have hg : gotV (h5x s clls) = h2y [cllV (h5x s clls), .bool (h5x s clls).isSome] := rfl
 obtain ⟨cn, cs, ca, hc⟩ := cllV_agg (h5x s clls)
 rw [hg, hc]
 rw [hc] at hv
 generalize clls = cl at *
 generalize (h5x s cl).isSome = fb at *
 clear hg hc
 unfold zC at hv
 refine Fn2 Tryz.func31 Tryz.ntmps31 rfl rfl ?_
 repeat' (first | refine h0p ?_ | refine h0e ?_ | refine h0u ?_ | refine h1h ?_ | refine h0h rfl ?_ | (refine gR 0 ?_ <;> (try refine h0f ?_; (refine h0i (t:=116) rfl Tryz.zeroValue116 ?_; intro nb hnb; (try simp only [Value.cells]))) <;> (try refine p_a (h:=h0d ?_))) | (refine gR 1 (q_m ?_) <;> (try refine h0f ?_; (refine q_c 60 (c:=by apply hk; exact c_9) (h:=?_); rintro _ _ ⟨m1, m2, rfl, rfl⟩; (try simp only [zzE, zzF]))) <;> (try refine p_e (by apply E_un; exact rfl; exact h4a) (h:=h0d ?_))) | (refine gR 3 (p_m (h:=p_n (h:=p_e (q_f fo_155_2) (h:=p_e q_l (h:=p_m (h:=p_e (by apply E_lookup; exact rfl; exact rfl; exact h3n; exact Tryz.underlying150; exact Tryz.underlying28; exact rfl; exact Tryz.zeroValue116; (with_reducible assumption); (with_reducible assumption); (with_reducible assumption)) (h:=p_m (h:=p_x (h:=q_x ?_))))))))) <;> (try refine h0f ?_; (refine h0i (t:=116) rfl Tryz.zeroValue116 ?_; intro nb hnb; (try simp only [Value.cells]))) <;> (try refine h0f ?_; (refine q_W ?_)) <;> (try refine p_a (h:=h0d ?_))) | (refine gR 4 (p_e (q_L sz_116) (h:=q_m ?_)) <;> (try refine h0f ?_; (refine q_W ?_)) <;> (try refine p_a (h:=h0d ?_))))
 (apply h0v Tryz.results31; (focus (apply Res.agg; exact rfl; (focus (repeat (first | exact fd0 | (with_reducible assumption) | apply fdA | apply fdS))); kernel_rfl; kernel_rfl; exact c_16; exact sz_116; apply Res.tmp; exact rfl; exact Res.nil)))
 exact ⟨_, ⟨m1, m2, rfl, rfl⟩, by intro w H; refine H.sub ?_; (try simp only [zzC, zzN]); repeat (first | exact List.Sublist.refl _ | refine List.Sublist.cons_cons _ ?_ | refine List.Sublist.cons _ ?_)⟩
theorem cnumF_mem {n : Int} {l : List Cll} {c : Cll} (h : h5x n l = some c) : c ∈ l ∧ c.num = n := by
 induction l with
 | nil => simp [h5x] at h
 | cons d r ih =>
  unfold h5x at h
  split at h
  ·rename_i e; obtain rfl := Option.some.inj h; exact ⟨by simp, e.symm⟩
  ·have := ih h; exact ⟨by simp [this.1], this.2⟩
end Go.Proofs.YtecbgehooembmaaGreatDoor
