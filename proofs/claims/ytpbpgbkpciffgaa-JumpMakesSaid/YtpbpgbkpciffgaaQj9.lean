/- Part 9 of what the last text of this claim leans on: rules of walks, contracts, plain facts. Conditions: those of each statement. -/
import Derived.Test.YtpbpgbkpciffgaaQj8
set_option maxRecDepth 100000
namespace Go.Proofs.Ytpbpgbkpciffgaa
open Go Go.RowKit
def farL (c k T E : Int) : List Ins :=
 if E > 253 then (if T + 1 > 253 then [⟨c, 0, 1, k⟩, ⟨5, 0, 0, T + 1⟩, ⟨5, 0, 0, E⟩] else [⟨c, T + 1, 0, k⟩, ⟨5, 0, 0, E⟩])
 else if T > 253 then [⟨c, 0, E + 1, k⟩, ⟨5, 0, 0, T⟩] else [⟨c, T, E, k⟩]
theorem far_out (m : Mk) (p : Prt) (T E : Int) (hT : 0 ≤ T ∧ T ≤ 5000) (hE : 0 ≤ E ∧ E ≤ 5000) : (m.far p T E).out = m.out ++ (farL p.ins.code p.ins.k T E).reverse := by
 have w1 : IntKind.u32.wrap T = T := IntWalk.u32_in _ (by omega)
 have w2 : IntKind.u32.wrap E = E := IntWalk.u32_in _ (by omega)
 have w3 : IntKind.u32.wrap (T + 1) = T + 1 := IntWalk.u32_in _ (by omega)
 unfold Mk.far Mk.far1 farL Mk.far2 Mk.hop Mk.put
 by_cases hb : E > 253
 ·by_cases ha : T + 1 > 253
  ·simp [hb, ha, w2, w3]
  ·simp [hb, ha, w2]
 ·by_cases ha : T > 253
  ·simp [hb, ha, w1]
  ·simp [hb, ha]
theorem says_step {l : List Ins} {f k : Nat} {m : Mch} {i : Ins} {v : Int} (he : m.en = false) (hp : m.pos = (k : Nat)) (hk : l[k]? = some i) (h : Says l f (stp { m with pos := (k : Int) + 1 } i) v) : Says l (f + 1) m v := by
 intro n
 rw [jz_s he hp hk]
 exact h _
theorem stp_if (m : Mch) (c jt jf k : Int) (hc : c = 21 ∨ c = 37 ∨ c = 53 ∨ c = 69) : stp m ⟨c, jt, jf, k⟩ = { m with pos := m.pos + (if cnd m.a ⟨c, 0, 0, k⟩ then jt else jf) } := by
 have e1 : h6e 21 15 = 16 := by decide +kernel
 have e2 : h6e 37 15 = 32 := by decide +kernel
 have e3 : h6e 53 15 = 48 := by decide +kernel
 have e4 : h6e 69 15 = 64 := by decide +kernel
 have f1 : iand 21 8 = 0 := by decide +kernel
 have f2 : iand 37 8 = 0 := by decide +kernel
 have f3 : iand 53 8 = 0 := by decide +kernel
 have f4 : iand 69 8 = 0 := by decide +kernel
 rcases hc with rfl | rfl | rfl | rfl <;> simp only [stp, jmp, holds, h5w, cnd, e1, e2, e3, e4, f1, f2, f3, f4] <;> simp <;> split <;> simp_all
theorem says_if {l : List Ins} {f k : Nat} {m : Mch} {c jt jf kk v : Int} (hc : c = 21 ∨ c = 37 ∨ c = 53 ∨ c = 69) (he : m.en = false) (hp : m.pos = (k : Nat)) (hk : l[k]? = some ⟨c, jt, jf, kk⟩)
  (h : Says l f { m with pos := (k : Int) + 1 + (if cnd m.a ⟨c, 0, 0, kk⟩ then jt else jf) } v) : Says l (f + 1) m v :=
 says_step he hp hk (by rw [stp_if _ c jt jf kk hc]; exact h)
theorem stp_ld (m : Mch) (jt jf k : Int) : stp m ⟨32, jt, jf, k⟩ = { m with a := word m.rc k } := by
 have e : h6e 32 7 = 32 := by decide +kernel
 simp [stp, ld, e]
theorem stp_and (m : Mch) (jt jf k : Int) : stp m ⟨84, jt, jf, k⟩ = { m with a := iand m.a k } := by
 have e : h6e 84 15 = 80 := by decide +kernel
 have f : iand 84 8 = 0 := by decide +kernel
 simp [stp, red, h5w, e, f]
theorem get_at (Y : List Ins) (i : Ins) (Z : List Ins) : (Y ++ i :: Z)[Y.length]? = some i := by simp
def At2 (code : List Ins) (s : List Prt) (k : Nat) : Prop := ∃ Y, code = Y ++ (co s).reverse ∧ Y.length = k
theorem At2.aft {code : List Ins} {s : List Prt} {k : Nat} (h : At2 code s k) (hk : okP s) (hw : wt s ≤ 4096) (n : Int) : At2 code (after n s) (k + ((co s).length - (co (after n s)).length)) ∧ (co (after n s)).length ≤ (co s).length := by
 obtain ⟨Y, rfl, rfl⟩ := h
 obtain ⟨x, hx⟩ := co_after (n:=n) hk hw
 have hl : (co s).length = (co (after n s)).length + x.length := by rw [hx, List.length_append]
 refine ⟨⟨Y ++ x.reverse, by rw [hx]; simp, ?_⟩, by omega⟩
 rw [List.length_append, List.length_reverse]; omega
theorem wt_after (n : Int) (s : List Prt) : wt (after n s) ≤ wt s := by
 induction s with
 | nil => simp [after]
 | cons p s ih =>
  unfold after
  split
  ·exact Nat.le_refl _
  ·rw [wt]; omega
theorem sim {r : Rec} {s : List Prt} {a v : Int} (h : Big r s a v) : okP s → Good s → LR s → wt s ≤ 4096 → ∀ (code : List Ins) (k f : Nat) (m : Mch), At2 code s k → (co s).length ≤ f → m.en = false → m.pos = (k : Nat) → m.a = a → m.rc = r → Says code f m v := by
 induction h with
 | nil a => intro _ _ hl; exact hl.elim
 | @here p s a v k1 _ ih =>
  intro hk hg hl hw code k f m hat hf he hp ha hr
  have hc := (co_s hk hw).c1 k1
  rw [wt] at hw
  refine ih hk.1 (fun q hq => hg q (List.mem_cons_of_mem _ hq)) (hl.next (by omega)) (by omega) code k f m ?_ (by rwa [hc] at hf) he hp ha hr
  obtain ⟨Y, h1, h2⟩ := hat
  exact ⟨Y, by rw [h1, hc], h2⟩
 | @goto p s a v k4 _ ih =>
  intro hk hg hl hw code k f m hat hf he hp ha hr
  have hc := (co_s hk hw).c4 k4
  rw [wt] at hw
  have hn : p.to ∈ h2f s := by rcases hk.2 with ⟨k, _⟩ | ⟨k, _⟩ | ⟨_, h⟩ | ⟨k, _⟩; omega; omega; exact h; omega
  obtain ⟨Y, h1, h2⟩ := hat
  rw [hc, List.reverse_append] at h1
  simp only [List.reverse_cons, List.reverse_nil, List.nil_append, List.cons_append] at h1
  have hat2 : At2 code s (k + 1) := ⟨Y ++ [⟨5, 0, 0, ((co s).length : Int) - (co (after p.to s)).length⟩], by rw [h1]; simp, by simp [h2]⟩
  obtain ⟨ha2, hle⟩ := hat2.aft hk.1 (by omega) p.to
  rw [hc, List.length_append] at hf
  simp only [List.length_cons, List.length_nil] at hf
  obtain ⟨f, rfl⟩ : ∃ g, f = g + 1 := ⟨f - 1, by omega⟩
  have hkk : code[k]? = some ⟨5, 0, 0, ((co s).length : Int) - (co (after p.to s)).length⟩ := by rw [h1, ← h2]; exact get_at ..
  refine says_hop he hp hkk (ih (okP_after hk.1) (Good.after fun q hq => hg q (List.mem_cons_of_mem _ hq)) ((hl.next (by omega)).after hn) (by have := wt_after p.to s; omega) code _ f _ ha2 (by omega) he ?_ ha hr)
  dsimp only; omega
 | @ift p s a v k3 hc _ ih =>
  intro hk hg hl hw code k f m hat hf he hp ha hr
  have hco := (co_s hk hw).c3 k3
  rw [wt] at hw
  have hn : p.to ∈ h2f s ∧ p.els ∈ h2f s := by rcases hk.2 with ⟨k, _⟩ | ⟨k, _⟩ | ⟨k, _⟩ | ⟨_, _, _, h⟩; omega; omega; omega; exact h
  have hcd : p.ins.code = 21 ∨ p.ins.code = 37 ∨ p.ins.code = 53 ∨ p.ins.code = 69 := by
   rcases hg p (List.mem_cons_self ..) with h | ⟨h, _⟩ | h | ⟨_, h⟩; omega; omega; omega; exact h
  have hsz := (mk_s hk.1 (by omega)).le
  obtain ⟨x1, hx1⟩ := co_after (n:=p.to) hk.1 (by omega)
  obtain ⟨x2, hx2⟩ := co_after (n:=p.els) hk.1 (by omega)
  have hl1 : (co s).length = (co (after p.to s)).length + x1.length := by rw [← List.length_append, ← hx1]
  have hl2 : (co s).length = (co (after p.els s)).length + x2.length := by rw [← List.length_append, ← hx2]
  rw [far_out _ p _ _ (by omega) (by omega)] at hco
  have hco : co (p :: s) = co s ++ (farL p.ins.code p.ins.k (((co s).length : Int) - (co (after p.to s)).length) (((co s).length : Int) - (co (after p.els s)).length)).reverse := hco
  obtain ⟨Y, h1, h2⟩ := hat
  rw [hco, List.reverse_append, List.reverse_reverse] at h1
  have hfin := ih (okP_after hk.1) (Good.after fun q hq => hg q (List.mem_cons_of_mem _ hq)) ((hl.next (by omega)).after hn.1) (by have := wt_after p.to s; omega) code
  have hat2 : ∀ X, farL p.ins.code p.ins.k (((co s).length : Int) - (co (after p.to s)).length) (((co s).length : Int) - (co (after p.els s)).length) = X → At2 code (after p.to s) (k + X.length + ((co s).length - (co (after p.to s)).length)) := fun X hX => by
   subst hX
   exact (At2.aft ⟨Y ++ _, by rw [h1, List.append_assoc], by rw [List.length_append, h2]⟩ hk.1 (by omega) p.to).1
  rw [hco, List.length_append, List.length_reverse] at hf
  have hcnd : cnd m.a ⟨p.ins.code, 0, 0, p.ins.k⟩ = true := by rw [ha]; exact hc
  generalize hT : ((co s).length : Int) - (co (after p.to s)).length = T at *
  generalize hE : ((co s).length : Int) - (co (after p.els s)).length = E at *
  have g0 : ∀ X i, farL p.ins.code p.ins.k T E = i :: X → code[k]? = some i := fun X i hX => by rw [h1, hX, ← h2]; simp
  have g1 : ∀ X i j, farL p.ins.code p.ins.k T E = i :: j :: X → code[k + 1]? = some j := fun X i j hX => by rw [h1, hX, ← h2]; simp
  by_cases c1 : E > 253
  ·by_cases c2 : T + 1 > 253
   ·have e : farL p.ins.code p.ins.k T E = [⟨p.ins.code, 0, 1, p.ins.k⟩, ⟨5, 0, 0, T + 1⟩, ⟨5, 0, 0, E⟩] := by rw [farL, if_pos c1, if_pos c2]
    rw [e] at hf
    simp only [List.length_cons, List.length_nil] at hf
    obtain ⟨f, rfl⟩ : ∃ g, f = g + 2 := ⟨f - 2, by omega⟩
    refine says_if hcd he hp (g0 _ _ e) ?_
    rw [hcnd, if_pos rfl]
    refine says_hop (k:=k + 1) he (by dsimp only; omega) (g1 _ _ _ e) (hfin _ f _ (hat2 _ e) (by omega) he ?_ ha hr)
    simp only [List.length_cons, List.length_nil]; omega
   ·have e : farL p.ins.code p.ins.k T E = [⟨p.ins.code, T + 1, 0, p.ins.k⟩, ⟨5, 0, 0, E⟩] := by rw [farL, if_pos c1, if_neg c2]
    rw [e] at hf
    simp only [List.length_cons, List.length_nil] at hf
    obtain ⟨f, rfl⟩ : ∃ g, f = g + 1 := ⟨f - 1, by omega⟩
    refine says_if hcd he hp (g0 _ _ e) ?_
    rw [hcnd, if_pos rfl]
    refine hfin _ f _ (hat2 _ e) (by omega) he ?_ ha hr
    simp only [List.length_cons, List.length_nil]; omega
  ·by_cases c2 : T > 253
   ·have e : farL p.ins.code p.ins.k T E = [⟨p.ins.code, 0, E + 1, p.ins.k⟩, ⟨5, 0, 0, T⟩] := by rw [farL, if_neg c1, if_pos c2]
    rw [e] at hf
    simp only [List.length_cons, List.length_nil] at hf
    obtain ⟨f, rfl⟩ : ∃ g, f = g + 2 := ⟨f - 2, by omega⟩
    refine says_if hcd he hp (g0 _ _ e) ?_
    rw [hcnd, if_pos rfl]
    refine says_hop (k:=k + 1) he (by dsimp only; omega) (g1 _ _ _ e) (hfin _ f _ (hat2 _ e) (by omega) he ?_ ha hr)
    simp only [List.length_cons, List.length_nil]; omega
   ·have e : farL p.ins.code p.ins.k T E = [⟨p.ins.code, T, E, p.ins.k⟩] := by rw [farL, if_neg c1, if_neg c2]
    rw [e] at hf
    simp only [List.length_cons, List.length_nil] at hf
    obtain ⟨f, rfl⟩ : ∃ g, f = g + 1 := ⟨f - 1, by omega⟩
    refine says_if hcd he hp (g0 _ _ e) ?_
    rw [hcnd, if_pos rfl]
    refine hfin _ f _ (hat2 _ e) (by omega) he ?_ ha hr
    simp only [List.length_cons, List.length_nil]; omega
 | @iff p s a v k3 hc _ ih =>
  intro hk hg hl hw code k f m hat hf he hp ha hr
  have hco := (co_s hk hw).c3 k3
  rw [wt] at hw
  have hn : p.to ∈ h2f s ∧ p.els ∈ h2f s := by rcases hk.2 with ⟨k, _⟩ | ⟨k, _⟩ | ⟨k, _⟩ | ⟨_, _, _, h⟩; omega; omega; omega; exact h
  have hcd : p.ins.code = 21 ∨ p.ins.code = 37 ∨ p.ins.code = 53 ∨ p.ins.code = 69 := by
   rcases hg p (List.mem_cons_self ..) with h | ⟨h, _⟩ | h | ⟨_, h⟩; omega; omega; omega; exact h
  have hsz := (mk_s hk.1 (by omega)).le
  obtain ⟨x1, hx1⟩ := co_after (n:=p.to) hk.1 (by omega)
  obtain ⟨x2, hx2⟩ := co_after (n:=p.els) hk.1 (by omega)
  have hl1 : (co s).length = (co (after p.to s)).length + x1.length := by rw [← List.length_append, ← hx1]
  have hl2 : (co s).length = (co (after p.els s)).length + x2.length := by rw [← List.length_append, ← hx2]
  rw [far_out _ p _ _ (by omega) (by omega)] at hco
  have hco : co (p :: s) = co s ++ (farL p.ins.code p.ins.k (((co s).length : Int) - (co (after p.to s)).length) (((co s).length : Int) - (co (after p.els s)).length)).reverse := hco
  obtain ⟨Y, h1, h2⟩ := hat
  rw [hco, List.reverse_append, List.reverse_reverse] at h1
  have hfin := ih (okP_after hk.1) (Good.after fun q hq => hg q (List.mem_cons_of_mem _ hq)) ((hl.next (by omega)).after hn.2) (by have := wt_after p.els s; omega) code
  have hat2 : ∀ X, farL p.ins.code p.ins.k (((co s).length : Int) - (co (after p.to s)).length) (((co s).length : Int) - (co (after p.els s)).length) = X → At2 code (after p.els s) (k + X.length + ((co s).length - (co (after p.els s)).length)) := fun X hX => by
   subst hX
   exact (At2.aft ⟨Y ++ _, by rw [h1, List.append_assoc], by rw [List.length_append, h2]⟩ hk.1 (by omega) p.els).1
  rw [hco, List.length_append, List.length_reverse] at hf
  have hcnd : cnd m.a ⟨p.ins.code, 0, 0, p.ins.k⟩ = false := by rw [ha]; exact hc
  generalize hT : ((co s).length : Int) - (co (after p.to s)).length = T at *
  generalize hE : ((co s).length : Int) - (co (after p.els s)).length = E at *
  have g0 : ∀ X i, farL p.ins.code p.ins.k T E = i :: X → code[k]? = some i := fun X i hX => by rw [h1, hX, ← h2]; simp
  have g1 : ∀ X i j, farL p.ins.code p.ins.k T E = i :: j :: X → code[k + 1]? = some j := fun X i j hX => by rw [h1, hX, ← h2]; simp
  have g2 : ∀ X i j q, farL p.ins.code p.ins.k T E = i :: j :: q :: X → code[k + 2]? = some q := fun X i j q hX => by rw [h1, hX, ← h2]; simp
  by_cases c1 : E > 253
  ·by_cases c2 : T + 1 > 253
   ·have e : farL p.ins.code p.ins.k T E = [⟨p.ins.code, 0, 1, p.ins.k⟩, ⟨5, 0, 0, T + 1⟩, ⟨5, 0, 0, E⟩] := by rw [farL, if_pos c1, if_pos c2]
    rw [e] at hf
    simp only [List.length_cons, List.length_nil] at hf
    obtain ⟨f, rfl⟩ : ∃ g, f = g + 2 := ⟨f - 2, by omega⟩
    refine says_if hcd he hp (g0 _ _ e) ?_
    rw [hcnd, if_neg (by simp)]
    refine says_hop (k:=k + 2) he (by dsimp only; omega) (g2 _ _ _ _ e) (hfin _ f _ (hat2 _ e) (by omega) he ?_ ha hr)
    simp only [List.length_cons, List.length_nil]; omega
   ·have e : farL p.ins.code p.ins.k T E = [⟨p.ins.code, T + 1, 0, p.ins.k⟩, ⟨5, 0, 0, E⟩] := by rw [farL, if_pos c1, if_neg c2]
    rw [e] at hf
    simp only [List.length_cons, List.length_nil] at hf
    obtain ⟨f, rfl⟩ : ∃ g, f = g + 2 := ⟨f - 2, by omega⟩
    refine says_if hcd he hp (g0 _ _ e) ?_
    rw [hcnd, if_neg (by simp)]
    refine says_hop (k:=k + 1) he (by dsimp only; omega) (g1 _ _ _ e) (hfin _ f _ (hat2 _ e) (by omega) he ?_ ha hr)
    simp only [List.length_cons, List.length_nil]; omega
  ·by_cases c2 : T > 253
   ·have e : farL p.ins.code p.ins.k T E = [⟨p.ins.code, 0, E + 1, p.ins.k⟩, ⟨5, 0, 0, T⟩] := by rw [farL, if_neg c1, if_pos c2]
    rw [e] at hf
    simp only [List.length_cons, List.length_nil] at hf
    obtain ⟨f, rfl⟩ : ∃ g, f = g + 1 := ⟨f - 1, by omega⟩
    refine says_if hcd he hp (g0 _ _ e) ?_
    rw [hcnd, if_neg (by simp)]
    refine hfin _ f _ (hat2 _ e) (by omega) he ?_ ha hr
    simp only [List.length_cons, List.length_nil]; omega
   ·have e : farL p.ins.code p.ins.k T E = [⟨p.ins.code, T, E, p.ins.k⟩] := by rw [farL, if_neg c1, if_neg c2]
    rw [e] at hf
    simp only [List.length_cons, List.length_nil] at hf
    obtain ⟨f, rfl⟩ : ∃ g, f = g + 1 := ⟨f - 1, by omega⟩
    refine says_if hcd he hp (g0 _ _ e) ?_
    rw [hcnd, if_neg (by simp)]
    refine hfin _ f _ (hat2 _ e) (by omega) he ?_ ha hr
    simp only [List.length_cons, List.length_nil]; omega
 | @ret p s a k2 c6 =>
  intro hk hg hl hw code k f m hat hf he hp ha hr
  have hc := (co_s hk hw).c2 k2
  obtain ⟨Y, h1, h2⟩ := hat
  rw [hc, List.reverse_append] at h1
  simp only [List.reverse_cons, List.reverse_nil, List.nil_append, List.cons_append] at h1
  rw [hc, List.length_append] at hf
  simp only [List.length_cons, List.length_nil] at hf
  obtain ⟨f, rfl⟩ : ∃ g, f = g + 1 := ⟨f - 1, by omega⟩
  have hkk : code[k]? = some p.ins := by rw [h1, ← h2]; exact get_at ..
  intro n
  rw [jz_s he hp hkk, jz_e (by simp [stp, c6])]
  simp [stp, c6]
 | @pl p s a v k2 c6 _ ih =>
  intro hk hg hl hw code k f m hat hf he hp ha hr
  have hc := (co_s hk hw).c2 k2
  rw [wt] at hw
  obtain ⟨Y, h1, h2⟩ := hat
  rw [hc, List.reverse_append] at h1
  simp only [List.reverse_cons, List.reverse_nil, List.nil_append, List.cons_append] at h1
  rw [hc, List.length_append] at hf
  simp only [List.length_cons, List.length_nil] at hf
  obtain ⟨f, rfl⟩ : ∃ g, f = g + 1 := ⟨f - 1, by omega⟩
  have hkk : code[k]? = some p.ins := by rw [h1, ← h2]; exact get_at ..
  have hat2 : At2 code s (k + 1) := ⟨Y ++ [p.ins], by rw [h1]; simp, by simp [h2]⟩
  refine says_step he hp hkk (ih hk.1 (fun q hq => hg q (List.mem_cons_of_mem _ hq)) (hl.next (fun h => c6 h.2)) (by omega) code (k + 1) f _ hat2 (by omega) ?_ ?_ ?_ ?_)
  all_goals
   have hgi := hg p (List.mem_cons_self ..)
   obtain ⟨kd, to, els, cd, jt, jf, kk⟩ := p
   dsimp only at *
   rcases hgi with h | ⟨_, ⟨rfl, _⟩ | ⟨rfl, _⟩ | ⟨rfl, _⟩⟩ | h | ⟨h, _⟩
  all_goals first
   | (exfalso; dsimp only at *; omega)
   | (rw [stp_ld]; first | exact he | (dsimp only; omega) | exact hr | (dsimp only; rw [hr]; rfl))
   | (rw [stp_and]; first | exact he | (dsimp only; omega) | exact hr | (dsimp only; rw [ha]; rfl))
theorem co_head {s : List Prt} (hl : LR s) (hk : okP s) (hw : wt s ≤ 4096) : ∃ i t, co s = i :: t ∧ i.code = 6 := by
 induction s with
 | nil => exact hl.elim
 | cons p s ih =>
  have C := co_s hk hw
  rw [wt] at hw
  by_cases hs : s = [] ∧ p.kind = 2 ∧ p.ins.code = 6
  ·obtain ⟨rfl, k2, c6⟩ := hs
   exact ⟨p.ins, [], by rw [C.c2 k2]; rfl, c6⟩
  ·have hl2 : LR s := by rcases hl with h | h; exact (hs h).elim; exact h
   obtain ⟨i, t, h1, h2⟩ := ih hl2 hk.1 (by omega)
   obtain ⟨x, hx⟩ : ∃ x, co (p :: s) = co s ++ x := by
    rcases hk.2 with ⟨k, _⟩ | ⟨k, _⟩ | ⟨k, _⟩ | ⟨k, _⟩
    ·exact ⟨[], by rw [C.c1 k]; simp⟩
    ·exact ⟨_, C.c2 k⟩
    ·exact ⟨_, C.c4 k⟩
    ·have hsz := (mk_s hk.1 (by omega)).le
     obtain ⟨x1, hx1⟩ := co_after (n:=p.to) hk.1 (by omega)
     obtain ⟨x2, hx2⟩ := co_after (n:=p.els) hk.1 (by omega)
     have hl1 : (co s).length = (co (after p.to s)).length + x1.length := by rw [← List.length_append, ← hx1]
     have hl2 : (co s).length = (co (after p.els s)).length + x2.length := by rw [← List.length_append, ← hx2]
     exact ⟨_, (C.c3 k).trans (far_out _ p _ _ (by omega) (by omega))⟩
   exact ⟨i, t ++ x, by rw [hx, h1]; rfl, h2⟩
structure Fits (n : Int) (i : Ins) : Prop where
 ok : i.ok
 ld : isLd i = false
 one : ∀ at_ N : Int, N - at_ - 1 = n → one i at_ N = 0
theorem fits_hop {d n : Int} (h : 0 ≤ d ∧ d < n) (hn : n ≤ 5000) : Fits n ⟨5, 0, 0, d⟩ :=
 ⟨⟨by simp, by simp, by simp, by simp; omega⟩, by simp [isLd], fun a N e => one_hop d a N (by omega)⟩
theorem fits_if {c jt jf k n : Int} (hc : c = 21 ∨ c = 37 ∨ c = 53 ∨ c = 69) (h1 : 0 ≤ jt ∧ jt < 256 ∧ jt < n) (h2 : 0 ≤ jf ∧ jf < 256 ∧ jf < n) (hk : 0 ≤ k ∧ k < 4294967296) : Fits n ⟨c, jt, jf, k⟩ := by
 have k1 : h6i 21 = true := by decide +kernel
 have k2 : h6i 37 = true := by decide +kernel
 have k3 : h6i 53 = true := by decide +kernel
 have k4 : h6i 69 = true := by decide +kernel
 refine ⟨⟨by dsimp only; omega, by dsimp only; omega, by dsimp only; omega, hk⟩, by rcases hc with rfl | rfl | rfl | rfl <;> simp [isLd], fun a N e => ?_⟩
 have hm : ¬ (max jt jf ≥ N - a - 1) := by omega
 rcases hc with rfl | rfl | rfl | rfl <;> simp [one, k1, k2, k3, k4, hm]
theorem fits_pl {p : Prt} (hg : GoodI p) (k2 : p.kind = 2) (hp : p.ok) (n : Int) : Fits n p.ins := by
 have k1 : h6i 32 = true := by decide +kernel
 have k3 : h6i 84 = true := by decide +kernel
 have k4 : h6i 6 = true := by decide +kernel
 have ho := hp.ins
 obtain ⟨kd, to, els, cd, jt, jf, kk⟩ := p
 dsimp only at *
 rcases hg with h | ⟨_, ⟨rfl, h1, h2, h3⟩ | ⟨rfl, _⟩ | ⟨rfl, _⟩⟩ | h | ⟨h, _⟩
 ·dsimp only at h; omega
 ·dsimp only at h1 h3
  refine ⟨ho, by simp [isLd], fun a N e => ?_⟩
  have hm : ¬ (kk > 60) := by omega
  simp [one, k1, h1, hm]
 ·exact ⟨ho, by simp [isLd], fun a N e => by simp [one, k3]⟩
 ·exact ⟨ho, by simp [isLd], fun a N e => by simp [one, k4]⟩
 ·dsimp only at h; omega
 ·dsimp only at h; omega
def FitsL (n : Nat) : List Ins → Prop
 | [] => True
 | i :: r => Fits ((r.length + n : Nat) : Int) i ∧ FitsL n r
theorem co_new {p : Prt} {s : List Prt} (hk : okP (p :: s)) (hw : wt (p :: s) ≤ 4096) (hg : GoodI p) (hpo : p.ok) (hl : LR (p :: s)) :
  ∃ x : List Ins, co (p :: s) = co s ++ x.reverse ∧ FitsL (co s).length x := by
 have C := co_s hk hw
 rw [wt] at hw
 have hsz := (mk_s hk.1 (by omega)).le
 have pos : LR s → ∀ n, n ∈ h2f s → 1 ≤ (co (after n s)).length ∧ (co (after n s)).length ≤ (co s).length := fun hl n hn => by
  obtain ⟨i, t, h1, _⟩ := co_head (hl.after hn) (okP_after hk.1) (by have := wt_after n s; omega)
  obtain ⟨y, hy⟩ := co_after (n:=n) hk.1 (by omega)
  have hl2 : (co s).length = (co (after n s)).length + y.length := by rw [← List.length_append, ← hy]
  have hl3 : (co (after n s)).length = t.length + 1 := by rw [h1]; rfl
  omega
 rcases hk.2 with ⟨k, _⟩ | ⟨k, _⟩ | ⟨k, hn⟩ | ⟨k, _, _, hn1, hn2⟩
 ·exact ⟨[], by rw [C.c1 k]; simp, trivial⟩
 ·exact ⟨[p.ins], C.c2 k, fits_pl hg k hpo _, trivial⟩
 ·obtain ⟨h1, h2⟩ := pos (hl.next (by omega)) _ hn
  exact ⟨[⟨5, 0, 0, ((co s).length : Int) - (co (after p.to s)).length⟩], C.c4 k, fits_hop (by simp; omega) (by simp; omega), trivial⟩
 ·obtain ⟨h1, h2⟩ := pos (hl.next (by omega)) _ hn1
  obtain ⟨h3, h4⟩ := pos (hl.next (by omega)) _ hn2
  have hcd : p.ins.code = 21 ∨ p.ins.code = 37 ∨ p.ins.code = 53 ∨ p.ins.code = 69 := by
   rcases hg with h | ⟨h, _⟩ | h | ⟨_, h⟩; omega; omega; omega; exact h
  have hkk := hpo.ins.k
  refine ⟨farL p.ins.code p.ins.k (((co s).length : Int) - (co (after p.to s)).length) (((co s).length : Int) - (co (after p.els s)).length), (C.c3 k).trans (far_out _ p _ _ (by omega) (by omega)), ?_⟩
  generalize hT : ((co s).length : Int) - (co (after p.to s)).length = T at *
  generalize hE : ((co s).length : Int) - (co (after p.els s)).length = E at *
  unfold farL
  by_cases c1 : E > 253
  ·by_cases c2 : T + 1 > 253
   ·rw [if_pos c1, if_pos c2]
    exact ⟨fits_if hcd (by simp; omega) (by simp; omega) hkk, fits_hop (by simp; omega) (by simp; omega), fits_hop (by simp; omega) (by simp; omega), trivial⟩
   ·rw [if_pos c1, if_neg c2]
    exact ⟨fits_if hcd (by simp; omega) (by simp; omega) hkk, fits_hop (by simp; omega) (by simp; omega), trivial⟩
  ·by_cases c2 : T > 253
   ·rw [if_neg c1, if_pos c2]
    exact ⟨fits_if hcd (by simp; omega) (by simp; omega) hkk, fits_hop (by simp; omega) (by simp; omega), trivial⟩
   ·rw [if_neg c1, if_neg c2]
    exact ⟨fits_if hcd (by simp; omega) (by simp; omega) hkk, trivial⟩
theorem fitsL_app {n : Nat} {a b : List Ins} (ha : FitsL (b.length + n) a) (hb : FitsL n b) : FitsL n (a ++ b) := by
 induction a with
 | nil => exact hb
 | cons i a ih =>
  refine ⟨?_, ih ha.2⟩
  have h1 := ha.1
  show Fits (((a ++ b).length + n : Nat) : Int) i
  rwa [List.length_append, show a.length + b.length + n = a.length + (b.length + n) by omega]
theorem fits_all {s : List Prt} (hk : okP s) (hg : Good s) (ho : ∀ p ∈ s, p.ok) (hl : LR s) (hw : wt s ≤ 4096) : FitsL 0 (co s).reverse := by
 induction s with
 | nil => exact hl.elim
 | cons p s ih =>
  obtain ⟨x, h1, h2⟩ := co_new hk hw (hg p (List.mem_cons_self ..)) (ho p (List.mem_cons_self ..)) hl
  rw [h1, List.reverse_append, List.reverse_reverse]
  rw [wt] at hw
  refine fitsL_app (by simpa using h2) ?_
  rcases hl with ⟨rfl, _⟩ | hl
  ·trivial
  ·exact ih hk.1 (fun q hq => hg q (List.mem_cons_of_mem _ hq)) (fun q hq => ho q (List.mem_cons_of_mem _ hq)) hl (by omega)
theorem fits_bad {N : Nat} {l : List Ins} {at_ : Nat} (h : FitsL 0 l) (hN : at_ + l.length = N) : h4k N l at_ = none := by
 induction l generalizing at_ with
 | nil => rfl
 | cons i r ih =>
  simp only [List.length_cons] at hN
  rw [h4y, if_neg (by rw [h.1.one at_ N (by omega)]; simp)]
  exact ih h.2 (by omega)
theorem fits_mem {n : Nat} {l : List Ins} (h : FitsL n l) : ∀ i ∈ l, i.ok ∧ isLd i = false := by
 induction l with
 | nil => simp
 | cons j r ih =>
  intro i hi
  rcases List.mem_cons.1 hi with rfl | hi
  ·exact ⟨h.1.ok, h.1.ld⟩
  ·exact ih h.2 i hi
theorem make_fit {s : List Prt} (hk : okP s) (hg : Good s) (ho : ∀ p ∈ s, p.ok) (hl : LR s) (hw : wt s ≤ 4096) : make s = (0, (co s).reverse) ∧ check (co s).reverse = (0, 0) ∧ ∀ i ∈ (co s).reverse, i.ok := by
 have hf := fits_all hk hg ho hl hw
 have I := mk_s hk hw
 obtain ⟨i, t, h1, h2⟩ := co_head hl hk hw
 have hle := I.le
 refine ⟨by unfold make; rw [if_pos I.ok, I.ok]; rfl, ?_, fun i hi => (fits_mem hf i hi).1⟩
 have hlen : (co s).reverse.length = (co s).length := List.length_reverse
 have hlast : (co s).reverse.getD ((co s).reverse.length - 1) ⟨0, 0, 0, 0⟩ = i := by
  rw [h1]; simp [List.getD_eq_getElem?_getD]
 have hpos : 0 < (co s).length := by rw [h1]; simp
 unfold check
 rw [if_neg (by omega), if_neg (by omega), fits_bad hf (by omega)]
 dsimp only
 rw [hlast, if_pos (by simp [isRet, h2])]
 exact loads_no _ (fun j hj => (fits_mem hf j hj).2) _ _
theorem make_says {r : Rec} {s : List Prt} {v : Int} (hk : okP s) (hg : Good s) (hl : LR s) (hw : wt s ≤ 4096) (h : Big r s 0 v) : (runF (co s).reverse r).1 = v := by
 have := sim h hk hg hl hw (co s).reverse 0 (co s).reverse.length (m0 r) ⟨[], rfl, rfl⟩ (by rw [List.length_reverse]; exact Nat.le_refl _) rfl rfl rfl rfl 0
 unfold runF
 dsimp only
 rw [if_pos this.1, this.2]
structure SPt where
 kind : Int
 to : Int
 els : Int
 how : Int
 k : Int
 pad : Int
def SPt.cells (p : SPt) : List Value := [.int .u8 p.kind, .int .u8 p.to, .int .u8 p.els, .int .u8 p.how, .int .u8 p.k, .int .u16 p.pad]
structure SPt.ok (p : SPt) : Prop where
 kind : 0 ≤ p.kind ∧ p.kind < 256
 to : 0 ≤ p.to ∧ p.to < 256
 els : 0 ≤ p.els ∧ p.els < 256
 how : 0 ≤ p.how ∧ p.how < 256
 k : 0 ≤ p.k ∧ p.k < 256
 pad : 0 ≤ p.pad ∧ p.pad < 65536
def zI : Ins := ⟨0, 0, 0, 0⟩
def ifTo (p : SPt) (i : Nat) : Int := if p.kind % 2 ≠ 0 ∧ p.kind % 3 = 0 then 100 + i else 1 + p.to % 6
def ifOt (p : SPt) (i : Nat) : Int := if p.kind % 2 = 0 then 100 + i else 1 + p.els % 6
def ifCode (h : Int) : Int := if h % 4 = 0 then 21 else if h % 4 = 1 then 37 else if h % 4 = 2 then 53 else 69
def hd1 (p : SPt) (i : Nat) : List Prt :=
 if p.kind % 5 = 0 then [⟨2, 0, 0, ⟨32, 0, 0, p.k % 16 * 4⟩⟩]
 else if p.kind % 5 = 1 then [⟨4, 1 + p.to % 6, 0, zI⟩]
 else [⟨3, ifTo p i, ifOt p i, ⟨ifCode p.how, 0, 0, p.k % 4⟩⟩, ⟨1, 100 + i, 0, zI⟩]
def h5r : List SPt → Nat → List Prt
 | [], _ => []
 | p :: r, i => hd1 p i ++ h5r r (i + 1)
def mask : Prt := ⟨2, 0, 0, ⟨84, 0, 0, 255⟩⟩
def tl1 (pad n : Nat) : List Prt := List.replicate pad mask ++ ⟨1, (n : Int), 0, zI⟩ :: (if n % 2 = 0 then [⟨2, 0, 0, ⟨6, 0, 0, (n : Int)⟩⟩] else [])
def h6h (pad : Nat) : Nat → List Prt
 | 0 => []
 | n + 1 => h6h pad n ++ tl1 pad (n + 1)
def ret9 : Prt := ⟨2, 0, 0, ⟨6, 0, 0, 9⟩⟩
def partsF (l : List SPt) (pad : Nat) : List Prt := h5r (l.take 20) 0 ++ (h6h pad 6 ++ [ret9])
theorem names_app (a b : List Prt) : h2f (a ++ b) = h2f a ++ h2f b := by
 induction a with
 | nil => rfl
 | cons p a ih =>
  rw [List.cons_append, h2f, h2f, ih]
  split <;> rfl
theorem names_mask (n : Nat) : h2f (List.replicate n mask) = [] := by
 induction n with
 | zero => rfl
 | succ n ih => rw [List.replicate_succ, h2f, if_neg (by decide), ih]
theorem names_tl1 (pad n : Nat) : h2f (tl1 pad n) = [(n : Int)] := by
 unfold tl1
 rw [names_app, names_mask, List.nil_append, h2f, if_pos rfl]
 split
 ·rw [h2f, if_neg (by simp)]; rfl
 ·rfl
theorem names_tails (pad : Nat) : h2f (h6h pad 6 ++ [ret9]) = [1, 2, 3, 4, 5, 6] := by
 simp only [h6h, names_app, names_tl1]
 rfl
theorem okP_mask {n : Nat} {r : List Prt} (h : okP r) : okP (List.replicate n mask ++ r) := by
 induction n with
 | zero => exact h
 | succ n ih => exact ⟨ih, .inr (.inl ⟨rfl, by decide⟩)⟩
theorem okP_tl1 {pad n : Nat} {r : List Prt} (h : okP r) (hn : (n : Int) ∉ h2f r) : okP (tl1 pad n ++ r) := by
 unfold tl1
 rw [List.append_assoc, List.cons_append]
 refine okP_mask ⟨?_, ?_⟩
 ·split
  ·exact ⟨h, .inr (.inl ⟨rfl, by simp⟩)⟩
  ·exact h
 ·refine .inl ⟨rfl, ?_⟩
  rw [names_app]
  split
  ·rw [h2f, if_neg (by simp)]
   simpa [h2f] using hn
  ·simpa [h2f] using hn
theorem okP_tails {pad : Nat} : okP (h6h pad 6 ++ [ret9]) := by
 simp only [h6h, List.append_assoc, List.nil_append]
 have h0 : okP [ret9] := ⟨trivial, .inr (.inl ⟨rfl, by decide⟩)⟩
 have n0 : h2f [ret9] = [] := rfl
 have s6 := okP_tl1 (pad:=pad) (n:=5 + 1) h0 (by simp [n0])
 have n6 : h2f (tl1 pad (5 + 1) ++ [ret9]) = [6] := by rw [names_app, names_tl1, n0]; rfl
 have s5 := okP_tl1 (pad:=pad) (n:=4 + 1) s6 (by rw [n6]; simp)
 have n5 : h2f (tl1 pad (4 + 1) ++ (tl1 pad (5 + 1) ++ [ret9])) = [5, 6] := by rw [names_app, names_tl1, n6]; rfl
 have s4 := okP_tl1 (pad:=pad) (n:=3 + 1) s5 (by rw [n5]; simp)
 have n4 : h2f (tl1 pad (3 + 1) ++ (tl1 pad (4 + 1) ++ (tl1 pad (5 + 1) ++ [ret9]))) = [4, 5, 6] := by rw [names_app, names_tl1, n5]; rfl
 have s3 := okP_tl1 (pad:=pad) (n:=2 + 1) s4 (by rw [n4]; simp)
 have n3 : h2f (tl1 pad (2 + 1) ++ (tl1 pad (3 + 1) ++ (tl1 pad (4 + 1) ++ (tl1 pad (5 + 1) ++ [ret9])))) = [3, 4, 5, 6] := by rw [names_app, names_tl1, n4]; rfl
 have s2 := okP_tl1 (pad:=pad) (n:=1 + 1) s3 (by rw [n3]; simp)
 have n2 : h2f (tl1 pad (1 + 1) ++ (tl1 pad (2 + 1) ++ (tl1 pad (3 + 1) ++ (tl1 pad (4 + 1) ++ (tl1 pad (5 + 1) ++ [ret9]))))) = [2, 3, 4, 5, 6] := by rw [names_app, names_tl1, n3]; rfl
 exact okP_tl1 (pad:=pad) (n:=0 + 1) s2 (by rw [n2]; simp)
theorem heads_ok {T : List Prt} (hT : okP T) (nT : h2f T = [1, 2, 3, 4, 5, 6]) (l : List SPt) (i : Nat) :
  okP (h5r l i ++ T) ∧ (∀ x : Int, (1 ≤ x ∧ x ≤ 6) → x ∈ h2f (h5r l i ++ T)) ∧ ∀ x ∈ h2f (h5r l i ++ T), x ≤ 6 ∨ (100 + i : Int) ≤ x := by
 induction l generalizing i with
 | nil =>
  refine ⟨hT, ?_, ?_⟩
  ·intro x hx
   show x ∈ h2f T
   rw [nT]
   simp only [List.mem_cons, List.not_mem_nil, or_false]
   omega
  ·intro x hx
   have hx : x ∈ h2f T := hx
   rw [nT] at hx
   simp only [List.mem_cons, List.not_mem_nil, or_false] at hx
   omega
 | cons p r ih =>
  obtain ⟨h1, h2, h3⟩ := ih (i + 1)
  rw [h5r, List.append_assoc]
  generalize h5r r (i + 1) ++ T = R at *
  have hlow : ∀ x ∈ h2f R, x ≤ 6 ∨ (100 + i : Int) ≤ x := fun x hx => by have := h3 x hx; omega
  unfold hd1
  split
  ·exact ⟨⟨h1, .inr (.inl ⟨rfl, by simp⟩)⟩, h2, hlow⟩
  split
  ·exact ⟨⟨h1, .inr (.inr (.inl ⟨rfl, h2 (1 + p.to % 6) (by omega)⟩))⟩, h2, hlow⟩
  ·have hon : (100 + i : Int) ∉ h2f R := fun hx => by have := h3 _ hx; omega
   have hN : h2f (⟨1, 100 + (i : Int), 0, zI⟩ :: R) = (100 + (i : Int)) :: h2f R := by rw [h2f, if_pos rfl]
   have hcode : ifCode p.how % 8 = 5 ∧ ifCode p.how ≠ 5 := by unfold ifCode; (repeat' split) <;> omega
   refine ⟨⟨⟨h1, .inl ⟨rfl, hon⟩⟩, .inr (.inr (.inr ⟨rfl, hcode.1, hcode.2, ?_, ?_⟩))⟩, ?_, ?_⟩
   ·show ifTo p i ∈ h2f (⟨1, 100 + (i : Int), 0, zI⟩ :: R)
    rw [hN]
    unfold ifTo
    split
    ·exact List.mem_cons_self ..
    ·exact List.mem_cons_of_mem _ (h2 (1 + p.to % 6) (by omega))
   ·show ifOt p i ∈ h2f (⟨1, 100 + (i : Int), 0, zI⟩ :: R)
    rw [hN]
    unfold ifOt
    split
    ·exact List.mem_cons_self ..
    ·exact List.mem_cons_of_mem _ (h2 (1 + p.els % 6) (by omega))
   ·intro x hx
    show x ∈ h2f (⟨1, 100 + (i : Int), 0, zI⟩ :: R)
    rw [hN]
    exact List.mem_cons_of_mem _ (h2 x hx)
   ·intro x hx
    have hx : x ∈ h2f (⟨1, 100 + (i : Int), 0, zI⟩ :: R) := hx
    rw [hN] at hx
    rcases List.mem_cons.1 hx with rfl | h
    ·omega
    ·exact hlow x h
theorem partsF_ok (l : List SPt) (pad : Nat) : okP (partsF l pad) := (heads_ok okP_tails (names_tails pad) _ 0).1
theorem hd1_len (p : SPt) (i : Nat) : (hd1 p i).length ≤ 2 := by unfold hd1; (repeat' split) <;> simp
theorem heads_len (l : List SPt) (i : Nat) : (h5r l i).length ≤ 2 * l.length := by
 induction l generalizing i with
 | nil => simp [h5r]
 | cons p r ih =>
  have := ih (i + 1)
  have := hd1_len p i
  rw [h5r, List.length_append, List.length_cons]
  omega
theorem tl1_len (pad n : Nat) : (tl1 pad n).length ≤ pad + 2 := by unfold tl1; rw [List.length_append, List.length_replicate, List.length_cons]; split <;> simp
theorem partsF_len (l : List SPt) (pad : Nat) : (partsF l pad).length ≤ 53 + 6 * pad := by
 have h1 := heads_len (l.take 20) 0
 have h2 : (l.take 20).length ≤ 20 := by rw [List.length_take]; omega
 unfold partsF
 have t := fun n => tl1_len pad n
 have := t 1; have := t 2; have := t 3; have := t 4; have := t 5; have := t 6
 simp only [h6h, List.length_append, List.length_nil, List.length_singleton, Nat.zero_add, Nat.reduceAdd]
 omega
def Fw : List Prt → Prop
 | [] => True
 | p :: r => (p.kind = 1 → p.to < 100 → ∀ q ∈ r, q.kind ≠ 4) ∧ (p.kind = 4 → p.to < 100) ∧ Fw r
theorem Fw.sub {a b : List Prt} (h : a.Sublist b) (hb : Fw b) : Fw a := by
 induction h with
 | slnil => exact hb
 | cons x h ih => exact ih hb.2.2
 | cons_cons x h ih => exact ⟨fun h1 h2 q hq => hb.1 h1 h2 q (h.subset hq), hb.2.1, ih hb.2.2⟩
theorem Fw.goto {l : List Prt} (h : Fw l) {q : Prt} (hq : q ∈ l) (hk : q.kind = 4) : q.to < 100 := by
 induction l with
 | nil => simp at hq
 | cons p r ih =>
  rcases List.mem_cons.1 hq with rfl | hm
  ·exact h.2.1 hk
  ·exact ih h.2.2 hm
theorem keepGo_sub (us : List Int) (l : List Prt) (dead : Bool) : (h4e us l dead).Sublist l := by
 induction l generalizing dead with
 | nil => exact .slnil
 | cons p r ih =>
  unfold h4e
  split
  ·split
   ·exact (ih _).cons_cons p
   ·exact (ih _).cons p
  ·split
   ·exact (ih _).cons p
   ·exact (ih _).cons_cons p
def WFw (w : List (Int × Int)) : Prop := ∀ q ∈ w, 100 ≤ q.1 ∧ q.2 < 100
theorem look_none {w : List (Int × Int)} (hw : WFw w) {n : Int} (hn : n < 100) : look n w = none := by
 induction w with
 | nil => rfl
 | cons c r ih =>
  have := (hw c (List.mem_cons_self ..)).1
  rw [look, if_neg (by omega)]
  exact ih fun q hq => hw q (List.mem_cons_of_mem _ hq)
theorem along_lt {w : List (Int × Int)} (hw : WFw w) {n : Int} (hn : n < 100) : along w n = n := along_keep (look_none hw hn) _
theorem fwd_kind (w : List (Int × Int)) (p : Prt) : (fwd w p).kind = p.kind := by
 unfold fwd
 split
 ·rfl
 ·split <;> rfl
theorem fwd_here {w : List (Int × Int)} {p : Prt} (h : p.kind = 1) : fwd w p = p := by
 unfold fwd
 rw [if_neg (by omega), if_neg (by omega)]
theorem fwd_goto {w : List (Int × Int)} {p : Prt} (h : p.kind = 4) : (fwd w p).to = along w p.to := by
 unfold fwd
 rw [if_pos h]
theorem Fw.map {w : List (Int × Int)} (hw : WFw w) {l : List Prt} (h : Fw l) : Fw (l.map (fwd w)) := by
 induction l with
 | nil => exact h
 | cons p r ih =>
  refine ⟨?_, ?_, ih h.2.2⟩
  ·intro h1 h2 q hq
   rw [fwd_kind] at h1
   rw [fwd_here h1] at h2
   obtain ⟨q0, hq0, rfl⟩ := List.mem_map.1 hq
   rw [fwd_kind]
   exact h.1 h1 h2 q0 hq0
  ·intro h1
   rw [fwd_kind] at h1
   rw [fwd_goto h1, along_lt hw (h.2.1 h1)]
   exact h.2.1 h1
theorem names_append (a b : List Prt) : h2f (a ++ b) = h2f a ++ h2f b := by
 induction a with
 | nil => rfl
 | cons p a ih =>
  rw [List.cons_append, h2f, h2f, ih]
  split <;> rfl
theorem after_app {n : Int} {a b : List Prt} (h : n ∉ h2f a) : after n (a ++ b) = after n b := by
 induction a with
 | nil => rfl
 | cons p a ih =>
  rw [h2f] at h
  rw [List.cons_append, h3y, ih]
  ·intro hm; apply h; split; exact List.mem_cons_of_mem _ hm; exact hm
  ·intro hc; rw [if_pos hc.1] at h; exact h (hc.2 ▸ List.mem_cons_self ..)
theorem after_split (n : Int) (s : List Prt) : ∃ x, s = x ++ after n s ∧ n ∉ h2f x := by
 induction s with
 | nil => exact ⟨[], rfl, by simp [h2f]⟩
 | cons p s ih =>
  by_cases c : p.kind = 1 ∧ p.to = n
  ·exact ⟨[], by rw [h5s c]; rfl, by simp [h2f]⟩
  ·obtain ⟨x, h1, h2⟩ := ih
   refine ⟨p :: x, by rw [h3y c, List.cons_append, ← h1], ?_⟩
   rw [h2f]
   split
   ·rename_i k1
    rw [List.mem_cons, not_or]
    exact ⟨fun e => c ⟨k1, e.symm⟩, h2⟩
   ·exact h2
theorem okP_app {a b : List Prt} (h : okP (a ++ b)) : okP b ∧ ∀ n ∈ h2f b, n ∉ h2f a := by
 induction a with
 | nil => exact ⟨h, fun n _ => by simp [h2f]⟩
 | cons p a ih =>
  obtain ⟨h1, h2⟩ := h
  obtain ⟨i1, i2⟩ := ih h1
  refine ⟨i1, fun n hn => ?_⟩
  rw [h2f]
  split
  ·rename_i k1
   rw [List.mem_cons, not_or]
   refine ⟨fun e => ?_, i2 n hn⟩
   rcases h2 with ⟨_, h⟩ | ⟨k, _⟩ | ⟨k, _⟩ | ⟨k, _⟩
   ·apply h
    have : p.to ∈ h2f (a ++ b) := by rw [names_append]; exact List.mem_append_right _ (e ▸ hn)
    exact this
   ·omega
   ·omega
   ·omega
  ·exact i2 n hn
theorem names_after {n m : Int} {s : List Prt} (h : m ∈ h2f (after n s)) : m ∈ h2f s := by
 obtain ⟨x, h1, _⟩ := after_split n s
 rw [h1, names_append]; exact List.mem_append_right _ h
theorem after_after {n t : Int} {s : List Prt} (hk : okP s) (h : t ∈ h2f (after n s)) : after t (after n s) = after t s := by
 obtain ⟨x, h1, _⟩ := after_split n s
 have h2 : t ∉ h2f x := (okP_app (h1 ▸ hk)).2 t h
 have := after_app (b:=after n s) h2
 rw [← h1] at this
 exact this.symm
theorem after_lt {n : Int} {p : Prt} {s : List Prt} : (after n s).length < (p :: s).length := by have := after_len n s; simp; omega
def Leads (l : List Prt) (n t : Int) : Prop := t ∈ h2f (after n l) ∧ ∀ r a v, Big r (after n l) a v → Big r (after t (after n l)) a v
theorem ng_leads {s : List Prt} {t : Int} (hk : okP s) (h : ng s = some t) : t ∈ h2f s ∧ ∀ r a v, Big r s a v → Big r (after t s) a v := by
 induction s with
 | nil => simp [ng] at h
 | cons p s ih =>
  obtain ⟨hs, hp⟩ := hk
  rw [ng] at h
  by_cases k1 : p.kind = 1
  ·rw [if_pos k1] at h
   obtain ⟨i1, i2⟩ := ih hs h
   have hne : p.to ≠ t := by
    rcases hp with ⟨_, hn⟩ | ⟨k, _⟩ | ⟨k, _⟩ | ⟨k, _⟩
    ·exact fun e => hn (e ▸ i1)
    ·omega
    ·omega
    ·omega
   refine ⟨by rw [h2f, if_pos k1]; exact List.mem_cons_of_mem _ i1, fun r a v hb => ?_⟩
   rw [h3y (fun c => hne c.2)]
   cases hb with
   | here _ hb => exact i2 r a v hb
   | goto k _ => omega
   | ift k _ _ => omega
   | iff k _ _ => omega
   | ret k _ => omega
   | pl k _ _ => omega
  ·rw [if_neg k1] at h
   split at h
   ·rename_i k4
    injection h with h
    subst h
    have hn : p.to ∈ h2f s := by
     rcases hp with ⟨k, _⟩ | ⟨k, _⟩ | ⟨_, h⟩ | ⟨k, _⟩
     ·omega
     ·omega
     ·exact h
     ·omega
    refine ⟨by rw [h2f, if_neg k1]; exact hn, fun r a v hb => ?_⟩
    rw [h3y (fun c => k1 c.1)]
    cases hb with
    | here k _ => omega
    | goto _ hb => exact hb
    | ift k _ _ => omega
    | iff k _ _ => omega
    | ret k _ => omega
    | pl k _ _ => omega
   ·simp at h
theorem thr_leads {l : List Prt} (hk : okP l) : ∀ (s pre : List Prt) (w : List (Int × Int)), l = pre ++ s → (∀ n t, look n w = some t → Leads l n t) → ∀ n t, look n (threadsGo s w) = some t → Leads l n t := by
 intro s
 induction s with
 | nil => intro pre w _ hw n t h; exact hw n t h
 | cons p s ih =>
  intro pre w hl hw n t h
  refine ih (pre ++ [p]) (thr1 p s w) (by rw [hl]; simp) ?_ n t h
  intro n t h
  unfold thr1 at h
  by_cases k1 : p.kind = 1
  ·rw [if_pos k1] at h
   cases hg : ng s with
   | none => rw [hg] at h; exact hw n t h
   | some x =>
    rw [hg] at h
    dsimp only at h
    rw [look_wset] at h
    split at h
    ·rename_i hn
     injection h with h
     subst h hn
     have hps := okP_app (hl ▸ hk)
     have ha : after p.to l = p :: s := by
      rw [hl, after_app (hps.2 _ (by rw [h2f, if_pos k1]; exact List.mem_cons_self ..)), h5s ⟨k1, rfl⟩]
     have hng : ng (p :: s) = some x := by rw [ng, if_pos k1]; exact hg
     unfold Leads
     rw [ha]
     exact ng_leads hps.1 hng
    ·exact hw n t h
  ·rw [if_neg k1] at h
   exact hw n t h
theorem along_leads {l pre s : List Prt} {w : List (Int × Int)} (hk : okP l) (hl : l = pre ++ s) (hw : ∀ n t, look n w = some t → Leads l n t) : ∀ (f : Nat) (n : Int), n ∈ h2f s → alongGo w f n ∈ h2f s ∧ ∀ r a v, Big r (after n s) a v → Big r (after (alongGo w f n) s) a v := by
 intro f
 induction f with
 | zero => intro n hn; exact ⟨hn, fun _ _ _ h => h⟩
 | succ f ih =>
  intro n hn
  rw [alongGo]
  cases hlk : look n w with
  | none => exact ⟨hn, fun _ _ _ h => h⟩
  | some t =>
   have hps := okP_app (hl ▸ hk)
   have ha : after n l = after n s := by rw [hl, after_app (hps.2 n hn)]
   have hL := hw n t hlk
   unfold Leads at hL
   rw [ha] at hL
   have ht := names_after hL.1
   obtain ⟨i1, i2⟩ := ih t ht
   refine ⟨i1, fun r a v hb => i2 r a v ?_⟩
   have := hL.2 r a v hb
   rwa [after_after hps.1 hL.1] at this
theorem fwd_ins (w : List (Int × Int)) (p : Prt) : (fwd w p).ins = p.ins := by unfold fwd; (repeat' split) <;> rfl
theorem names_fwd (w : List (Int × Int)) (l : List Prt) : h2f (l.map (fwd w)) = h2f l := by
 induction l with
 | nil => rfl
 | cons p l ih =>
  rw [List.map_cons, h2f, h2f, ih, fwd_kind]
  by_cases k1 : p.kind = 1
  ·rw [if_pos k1, if_pos k1, fwd_here k1]
  ·rw [if_neg k1, if_neg k1]
theorem after_fwd (w : List (Int × Int)) (n : Int) (l : List Prt) : after n (l.map (fwd w)) = (after n l).map (fwd w) := by
 induction l with
 | nil => rfl
 | cons p l ih =>
  rw [List.map_cons]
  by_cases c : p.kind = 1 ∧ p.to = n
  ·rw [h5s c, h5s (by rw [fwd_here c.1]; exact c)]; rfl
  ·rw [h3y c, h3y (by rw [fwd_kind]; intro h; rw [fwd_here h.1] at h; exact c h), ih]
theorem fwd_goto4 {w : List (Int × Int)} {p : Prt} (h : p.kind = 4) : fwd w p = { p with to := along w p.to } := by unfold fwd; rw [if_pos h]
theorem fwd_if3 {w : List (Int × Int)} {p : Prt} (h : p.kind = 3) : fwd w p = { p with to := along w p.to, els := along w p.els } := by unfold fwd; rw [if_neg (by omega), if_pos h]
theorem fwd_pl2 {w : List (Int × Int)} {p : Prt} (h : p.kind = 2) : fwd w p = p := by unfold fwd; rw [if_neg (by omega), if_neg (by omega)]
theorem fwd_big {l : List Prt} {w : List (Int × Int)} (hk : okP l) (hw : ∀ n t, look n w = some t → Leads l n t) {r : Rec} : ∀ (m : Nat) (s pre : List Prt) (a v : Int), s.length ≤ m → l = pre ++ s → Big r s a v → Big r (s.map (fwd w)) a v := by
 intro m
 induction m with
 | zero => intro s pre a v h _ hb; obtain rfl : s = [] := List.eq_nil_of_length_eq_zero (by omega); exact hb
 | succ m ih =>
  intro s pre a v h hl hb
  have hps := okP_app (hl ▸ hk)
  have suf : ∀ (p : Prt) (s' : List Prt), s = p :: s' → ∀ n a v, Big r (after n s') a v → Big r (after n (s'.map (fwd w))) a v := fun p s' e n a2 v2 hb2 => by
   subst e
   rw [after_fwd]
   obtain ⟨x, h1, _⟩ := after_split n s'
   refine ih (after n s') (pre ++ p :: x) a2 v2 (by have := after_lt (n:=n) (p:=p) (s:=s'); omega) ?_ hb2
   rw [hl, List.append_assoc, List.cons_append, ← h1]
  cases hb with
  | nil a => exact .nil a
  | @here p s' _ _ k1 hb =>
   rw [List.map_cons]
   exact .here (by rw [fwd_kind]; exact k1) (ih s' (pre ++ [p]) a v (by simp at h; omega) (by rw [hl]; simp) hb)
  | @goto p s' _ _ k4 hb =>
   have hn : p.to ∈ h2f s' := by rcases hps.1.2 with ⟨k, _⟩ | ⟨k, _⟩ | ⟨_, h⟩ | ⟨k, _⟩; omega; omega; exact h; omega
   obtain ⟨_, i2⟩ := along_leads (pre:=pre ++ [p]) (s:=s') hk (by rw [hl]; simp) hw w.length p.to hn
   rw [List.map_cons, fwd_goto4 k4]
   exact .goto k4 (suf p s' rfl _ a v (i2 r a v hb))
  | @ift p s' _ _ k3 c hb =>
   have hn : p.to ∈ h2f s' := by rcases hps.1.2 with ⟨k, _⟩ | ⟨k, _⟩ | ⟨k, _⟩ | ⟨_, _, _, h, _⟩; omega; omega; omega; exact h
   obtain ⟨_, i2⟩ := along_leads (pre:=pre ++ [p]) (s:=s') hk (by rw [hl]; simp) hw w.length p.to hn
   rw [List.map_cons, fwd_if3 k3]
   exact .ift k3 c (suf p s' rfl _ a v (i2 r a v hb))
  | @iff p s' _ _ k3 c hb =>
   have hn : p.els ∈ h2f s' := by rcases hps.1.2 with ⟨k, _⟩ | ⟨k, _⟩ | ⟨k, _⟩ | ⟨_, _, _, _, h⟩; omega; omega; omega; exact h
   obtain ⟨_, i2⟩ := along_leads (pre:=pre ++ [p]) (s:=s') hk (by rw [hl]; simp) hw w.length p.els hn
   rw [List.map_cons, fwd_if3 k3]
   exact .iff k3 c (suf p s' rfl _ a v (i2 r a v hb))
  | @ret p s' _ k2 c =>
   rw [List.map_cons, fwd_pl2 k2]
   exact .ret k2 c
  | @pl p s' _ _ k2 c hb =>
   rw [List.map_cons, fwd_pl2 k2]
   exact .pl k2 c (ih s' (pre ++ [p]) _ v (by simp at h; omega) (by rw [hl]; simp) hb)
theorem fwd_okP {l : List Prt} {w : List (Int × Int)} (hk : okP l) (hw : ∀ n t, look n w = some t → Leads l n t) : ∀ (s pre : List Prt), l = pre ++ s → okP (s.map (fwd w)) := by
 intro s
 induction s with
 | nil => intro pre _; trivial
 | cons p s ih =>
  intro pre hl
  have hl2 : l = (pre ++ [p]) ++ s := by rw [hl]; simp
  have hps := okP_app (hl ▸ hk)
  refine ⟨ih (pre ++ [p]) hl2, ?_⟩
  have hal := fun n hn => (along_leads (pre:=pre ++ [p]) (s:=s) hk hl2 hw w.length n hn).1
  show okH (fwd w p) (s.map (fwd w))
  unfold okH
  rw [names_fwd, fwd_kind, fwd_ins]
  rcases hps.1.2 with ⟨k, h⟩ | ⟨k, h⟩ | ⟨k, h⟩ | ⟨k, h1, h2, h3, h4⟩
  ·rw [fwd_here k]; exact .inl ⟨k, h⟩
  ·exact .inr (.inl ⟨k, h⟩)
  ·rw [fwd_goto4 k]; exact .inr (.inr (.inl ⟨k, hal _ h⟩))
  ·rw [fwd_if3 k]; exact .inr (.inr (.inr ⟨k, h1, h2, hal _ h3, hal _ h4⟩))
theorem fwd_LR (w : List (Int × Int)) {l : List Prt} (h : LR l) : LR (l.map (fwd w)) := by
 induction l with
 | nil => exact h
 | cons p l ih =>
  rcases h with ⟨rfl, k, c⟩ | h
  ·exact .inl ⟨rfl, by rw [fwd_kind]; exact k, by rw [fwd_ins]; exact c⟩
  ·exact .inr (ih h)
theorem fwd_wt (w : List (Int × Int)) (l : List Prt) : wt (l.map (fwd w)) = wt l := by
 induction l with
 | nil => rfl
 | cons p l ih => rw [List.map_cons, wt, wt, ih, wt1, wt1, fwd_kind]
theorem fwd_Good (w : List (Int × Int)) {l : List Prt} (h : Good l) : Good (l.map (fwd w)) := fun p hp => by
 obtain ⟨q, hq, rfl⟩ := List.mem_map.1 hp
 have := h q hq
 unfold GoodI at this ⊢
 rwa [fwd_kind, fwd_ins]
def Tg (us : List Int) (l : List Prt) : Prop := ∀ p ∈ l, (p.kind = 4 → p.to ∈ us) ∧ (p.kind = 3 → p.to ∈ us ∧ p.els ∈ us)
theorem Tg.after {us : List Int} {l : List Prt} {n : Int} (h : Tg us l) : Tg us (after n l) := fun p hp => h p (mem_after hp)
theorem keep_here {us : List Int} {p : Prt} {s : List Prt} {d : Bool} (k1 : p.kind = 1) : h4e us (p :: s) d = if p.to ∈ us then p :: h4e us s false else h4e us s d := by rw [h4e, if_pos k1]
theorem h4v {us : List Int} {p : Prt} {s : List Prt} {d : Bool} (k1 : ¬ p.kind = 1) : h4e us (p :: s) d = if d = true ∨ (p.kind = 4 ∧ follows s p.to = true) then h4e us s d else p :: h4e us s (ends p) := by rw [h4e, if_neg k1]
theorem after_keep {us : List Int} {n : Int} (hu : n ∈ us) : ∀ {s : List Prt} (d : Bool), n ∈ h2f s → after n (h4e us s d) = h4e us (after n s) false := by
 intro s
 induction s with
 | nil => intro d h; simp [h2f] at h
 | cons p s ih =>
  intro d h
  by_cases k1 : p.kind = 1
  ·rw [keep_here k1]
   by_cases e : p.to = n
   ·rw [h5s ⟨k1, e⟩, keep_here k1, if_pos (e ▸ hu), if_pos (e ▸ hu), h5s ⟨k1, e⟩]
   ·rw [h3y (fun c => e c.2)]
    have h2 : n ∈ h2f s := by rw [h2f, if_pos k1] at h; exact (List.mem_cons.1 h).resolve_left (fun x => e x.symm)
    split
    ·rw [h3y (fun c => e c.2), ih false h2]
    ·exact ih d h2
  ·rw [h4v k1, h3y (fun c => k1 c.1)]
   have h2 : n ∈ h2f s := by rwa [h2f, if_neg k1] at h
   split
   ·exact ih d h2
   ·rw [h3y (fun c => k1 c.1)]; exact ih _ h2
theorem names_keep_sub {us : List Int} {n : Int} : ∀ {s : List Prt} {d : Bool}, n ∈ h2f (h4e us s d) → n ∈ h2f s := by
 intro s
 induction s with
 | nil => intro d h; simpa [h4e] using h
 | cons p s ih =>
  intro d h
  by_cases k1 : p.kind = 1
  ·rw [keep_here k1] at h
   rw [h2f, if_pos k1]
   split at h
   ·rw [h2f, if_pos k1] at h
    rcases List.mem_cons.1 h with rfl | h
    ·exact List.mem_cons_self ..
    ·exact List.mem_cons_of_mem _ (ih h)
   ·exact List.mem_cons_of_mem _ (ih h)
  ·rw [h4v k1] at h
   rw [h2f, if_neg k1]
   split at h
   ·exact ih h
   ·rw [h2f, if_neg k1] at h; exact ih h
theorem names_keep {us : List Int} {n : Int} (hu : n ∈ us) : ∀ {s : List Prt} (d : Bool), n ∈ h2f s → n ∈ h2f (h4e us s d) := by
 intro s
 induction s with
 | nil => intro d h; simp [h2f] at h
 | cons p s ih =>
  intro d h
  by_cases k1 : p.kind = 1
  ·rw [keep_here k1]
   rw [h2f, if_pos k1] at h
   split
   ·rw [h2f, if_pos k1]
    rcases List.mem_cons.1 h with rfl | h
    ·exact List.mem_cons_self ..
    ·exact List.mem_cons_of_mem _ (ih _ h)
   ·rename_i hnu
    rcases List.mem_cons.1 h with rfl | h
    ·exact (hnu hu).elim
    ·exact ih _ h
  ·rw [h4v k1]
   rw [h2f, if_neg k1] at h
   split
   ·exact ih _ h
   ·rw [h2f, if_neg k1]; exact ih _ h
theorem follows_big {r : Rec} {n : Int} {a v : Int} : ∀ {s : List Prt}, follows s n = true → Big r (after n s) a v → Big r s a v := by
 intro s
 induction s with
 | nil => intro h; simp [follows] at h
 | cons p s ih =>
  intro h hb
  rw [follows] at h
  by_cases k1 : p.kind = 1
  ·rw [if_neg (by omega)] at h
   by_cases e : p.to = n
   ·rwa [h5s ⟨k1, e⟩] at hb
   ·rw [if_neg e] at h
    rw [h3y (fun c => e c.2)] at hb
    exact .here k1 (ih h hb)
  ·rw [if_pos k1] at h; simp at h
theorem ends_3 {p : Prt} (k : p.kind = 3) : ends p = false := by simp [ends, k]
theorem ends_pl {p : Prt} (hg : GoodI p) (k : p.kind = 2) (c : p.ins.code ≠ 6) : ends p = false := by
 rcases hg with h | ⟨_, ⟨h, _⟩ | ⟨h, _⟩ | ⟨h, _⟩⟩ | h | ⟨h, _⟩
 ·omega
 ·simp [ends, k, h]
 ·simp [ends, k, h]
 ·exact (c h).elim
 ·omega
 ·omega
theorem keep_big {us : List Int} {r : Rec} : ∀ (m : Nat) (s : List Prt) (a v : Int), s.length ≤ m → okP s → Good s → Tg us s → Big r s a v → Big r (h4e us s false) a v := by
 intro m
 induction m with
 | zero => intro s a v h _ _ _ hb; obtain rfl : s = [] := List.eq_nil_of_length_eq_zero (by omega); exact hb
 | succ m ih =>
  intro s a v h hk hg ht hb
  have suf : ∀ (p : Prt) (s' : List Prt), s = p :: s' → ∀ n d a v, n ∈ us → n ∈ h2f s' → Big r (after n s') a v → Big r (after n (h4e us s' d)) a v := fun p s' e n d a2 v2 hu hn hb2 => by
   subst e
   rw [after_keep hu d hn]
   exact ih (after n s') a2 v2 (by have := after_lt (n:=n) (p:=p) (s:=s'); omega) (okP_after hk.1) (Good.after fun q hq => hg q (List.mem_cons_of_mem _ hq)) (Tg.after fun q hq => ht q (List.mem_cons_of_mem _ hq)) hb2
  have nxt : ∀ (p : Prt) (s' : List Prt), s = p :: s' → ∀ a v, Big r s' a v → Big r (h4e us s' false) a v := fun p s' e a2 v2 hb2 => by
   subst e
   exact ih s' a2 v2 (by simp at h; omega) hk.1 (fun q hq => hg q (List.mem_cons_of_mem _ hq)) (fun q hq => ht q (List.mem_cons_of_mem _ hq)) hb2
  cases hb with
  | nil a => exact .nil a
  | @here p s' _ _ k1 hb =>
   rw [keep_here k1]
   split
   ·exact .here k1 (nxt p s' rfl a v hb)
   ·exact nxt p s' rfl a v hb
  | @goto p s' _ _ k4 hb =>
   have hn : p.to ∈ h2f s' := by rcases hk.2 with ⟨k, _⟩ | ⟨k, _⟩ | ⟨_, h⟩ | ⟨k, _⟩; omega; omega; exact h; omega
   have hu := (ht p (List.mem_cons_self ..)).1 k4
   rw [h4v (by omega)]
   split
   ·rename_i hf
    have hf2 := (hf.resolve_left (by simp)).2
    exact nxt p s' rfl a v (follows_big hf2 hb)
   ·exact .goto k4 (suf p s' rfl _ _ a v hu hn hb)
  | @ift p s' _ _ k3 c hb =>
   have hn : p.to ∈ h2f s' := by rcases hk.2 with ⟨k, _⟩ | ⟨k, _⟩ | ⟨k, _⟩ | ⟨_, _, _, h, _⟩; omega; omega; omega; exact h
   have hu := (ht p (List.mem_cons_self ..)).2 k3
   rw [h4v (by omega), if_neg (by simp; omega)]
   exact .ift k3 c (suf p s' rfl _ _ a v hu.1 hn hb)
  | @iff p s' _ _ k3 c hb =>
   have hn : p.els ∈ h2f s' := by rcases hk.2 with ⟨k, _⟩ | ⟨k, _⟩ | ⟨k, _⟩ | ⟨_, _, _, _, h⟩; omega; omega; omega; exact h
   have hu := (ht p (List.mem_cons_self ..)).2 k3
   rw [h4v (by omega), if_neg (by simp; omega)]
   exact .iff k3 c (suf p s' rfl _ _ a v hu.2 hn hb)
  | @ret p s' _ k2 c =>
   rw [h4v (by omega), if_neg (by simp; omega)]
   exact .ret k2 c
  | @pl p s' _ _ k2 c hb =>
   rw [h4v (by omega), if_neg (by simp; omega), ends_pl (hg p (List.mem_cons_self ..)) k2 c]
   exact .pl k2 c (nxt p s' rfl _ v hb)
theorem keep_okP {us : List Int} : ∀ {s : List Prt} (d : Bool), okP s → Tg us s → okP (h4e us s d) := by
 intro s
 induction s with
 | nil => intro d h _; exact h
 | cons p s ih =>
  intro d hk ht
  have ht2 : Tg us s := fun q hq => ht q (List.mem_cons_of_mem _ hq)
  by_cases k1 : p.kind = 1
  ·rw [keep_here k1]
   split
   ·refine ⟨ih _ hk.1 ht2, .inl ⟨k1, fun h => ?_⟩⟩
    rcases hk.2 with ⟨_, h2⟩ | ⟨k, _⟩ | ⟨k, _⟩ | ⟨k, _⟩
    ·exact h2 (names_keep_sub h)
    ·omega
    ·omega
    ·omega
   ·exact ih _ hk.1 ht2
  ·rw [h4v k1]
   split
   ·exact ih _ hk.1 ht2
   ·refine ⟨ih _ hk.1 ht2, ?_⟩
    have hu := ht p (List.mem_cons_self ..)
    rcases hk.2 with ⟨k, _⟩ | ⟨k, h⟩ | ⟨k, h⟩ | ⟨k, h1, h2, h3, h4⟩
    ·omega
    ·exact .inr (.inl ⟨k, h⟩)
    ·exact .inr (.inr (.inl ⟨k, names_keep (hu.1 k) _ h⟩))
    ·exact .inr (.inr (.inr ⟨k, h1, h2, names_keep (hu.2 k).1 _ h3, names_keep (hu.2 k).2 _ h4⟩))
theorem keep_nil {us : List Int} : ∀ {s : List Prt}, (∀ n ∈ us, n ∉ h2f s) → h4e us s true = [] := by
 intro s
 induction s with
 | nil => intro _; rfl
 | cons p s ih =>
  intro h
  by_cases k1 : p.kind = 1
  ·rw [keep_here k1, if_neg (fun hu => h _ hu (by rw [h2f, if_pos k1]; exact List.mem_cons_self ..))]
   exact ih (fun n hn hm => h n hn (by rw [h2f, if_pos k1]; exact List.mem_cons_of_mem _ hm))
  ·rw [h4v k1, if_pos (.inl rfl)]
   exact ih (fun n hn hm => h n hn (by rw [h2f, if_neg k1]; exact hm))
theorem keep_LR {us : List Int} : ∀ {s : List Prt} (d : Bool), okP s → Good s → Tg us s → LR s → (d = false ∨ ∃ n ∈ us, n ∈ h2f s) → LR (h4e us s d) := by
 intro s
 induction s with
 | nil => intro d _ _ _ h; exact h.elim
 | cons p s ih =>
  intro d hk hg ht hl hd
  have ht2 : Tg us s := fun q hq => ht q (List.mem_cons_of_mem _ hq)
  have hg2 : Good s := fun q hq => hg q (List.mem_cons_of_mem _ hq)
  by_cases hs : s = [] ∧ p.kind = 2 ∧ p.ins.code = 6
  ·obtain ⟨rfl, k2, c6⟩ := hs
   have hd0 : d = false := hd.resolve_right (by rintro ⟨n, _, hn⟩; rw [h2f, if_neg (by omega)] at hn; simp [h2f] at hn)
   subst hd0
   rw [h4v (by omega), if_neg (by simp; omega)]
   exact .inl ⟨rfl, k2, c6⟩
  have hl2 : LR s := by rcases hl with h | h; exact (hs h).elim; exact h
  by_cases k1 : p.kind = 1
  ·rw [keep_here k1]
   split
   ·exact .inr (ih false hk.1 hg2 ht2 hl2 (.inl rfl))
   ·rename_i hnu
    refine ih d hk.1 hg2 ht2 hl2 (hd.imp id ?_)
    rintro ⟨n, hn, hm⟩
    rw [h2f, if_pos k1] at hm
    rcases List.mem_cons.1 hm with rfl | hm
    ·exact (hnu hn).elim
    ·exact ⟨n, hn, hm⟩
  ·have hd2 : d = false ∨ ∃ n ∈ us, n ∈ h2f s := by rwa [h2f, if_neg k1] at hd
   rw [h4v k1]
   split
   ·exact ih d hk.1 hg2 ht2 hl2 hd2
   ·cases he : ends p
    ·exact .inr (ih false hk.1 hg2 ht2 hl2 (.inl rfl))
    ·by_cases hx : ∃ n ∈ us, n ∈ h2f s
     ·exact .inr (ih true hk.1 hg2 ht2 hl2 (.inr hx))
     ·rw [keep_nil (fun n hn hm => hx ⟨n, hn, hm⟩)]
      have hu := ht p (List.mem_cons_self ..)
      have hgp := hg p (List.mem_cons_self ..)
      rcases hk.2 with ⟨k, _⟩ | ⟨k, _⟩ | ⟨k, h⟩ | ⟨k, _⟩
      ·omega
      ·by_cases c6 : p.ins.code = 6
       ·exact .inl ⟨rfl, k, c6⟩
       ·rw [ends_pl hgp k c6] at he; simp at he
      ·exact (hx ⟨_, hu.1 k, h⟩).elim
      ·rw [ends_3 k] at he; simp at he
theorem wt_sub {a b : List Prt} (h : a.Sublist b) : wt a ≤ wt b := by
 induction h with
 | slnil => exact Nat.le_refl _
 | cons p _ ih => rw [wt]; omega
 | cons_cons p _ ih => rw [wt, wt]; omega
theorem uset_keep {n m : Int} {us : List Int} (h : m ∈ us) : m ∈ uset n us := (mem_uset n m us).2 (.inr h)
theorem use_keep {m : Int} : ∀ (l : List Prt) {us : List Int}, m ∈ us → m ∈ l.foldl useP us := by
 intro l
 induction l with
 | nil => intro us h; exact h
 | cons p l ih =>
  intro us h
  refine ih ?_
  unfold useP
  split
  ·exact uset_keep h
  ·split
   ·exact uset_keep (uset_keep h)
   ·exact h
theorem use_tg : ∀ (l : List Prt) (us : List Int), Tg (l.foldl useP us) l := by
 intro l
 induction l with
 | nil => intro us p hp; simp at hp
 | cons q l ih =>
  intro us p hp
  rcases List.mem_cons.1 hp with rfl | hp
  ·refine ⟨fun k => ?_, fun k => ⟨?_, ?_⟩⟩
   ·refine use_keep l ?_
    unfold useP
    rw [if_pos k]
    exact (mem_uset _ _ _).2 (.inl rfl)
   ·refine use_keep l ?_
    unfold useP
    rw [if_neg (by omega), if_pos k]
    exact uset_keep ((mem_uset _ _ _).2 (.inl rfl))
   ·refine use_keep l ?_
    unfold useP
    rw [if_neg (by omega), if_pos k]
    exact (mem_uset _ _ _).2 (.inl rfl)
  ·exact ih (useP us q) p hp
structure Right (l : List Prt) : Prop where
 ok : okP l
 good : Good l
 lr : LR l
theorem once_right {l : List Prt} (h : Right l) : Right (once l) ∧ wt (once l) ≤ wt l ∧ ∀ r a v, Big r l a v → Big r (once l) a v := by
 have hw := thr_leads h.ok l [] [] rfl (fun n t h => by simp [look] at h)
 have h1 : okP (onceP l) := fwd_okP h.ok hw l [] rfl
 have h2 : Good (onceP l) := fwd_Good _ h.good
 have h3 : LR (onceP l) := fwd_LR _ h.lr
 have ht := use_tg (onceP l) []
 have hsub := keepGo_sub ((onceP l).foldl useP []) (onceP l) false
 refine ⟨⟨keep_okP false h1 ht, fun p hp => h2 p (hsub.mem hp), keep_LR false h1 h2 ht h3 (.inl rfl)⟩, ?_, fun r a v hb => ?_⟩
 ·have := wt_sub hsub
  rwa [show wt (onceP l) = wt l from fwd_wt _ l] at this
 ·exact keep_big (onceP l).length (onceP l) a v (Nat.le_refl _) h1 h2 ht (fwd_big h.ok hw l.length l [] a v (Nat.le_refl _) rfl hb)
theorem tidy_right : ∀ (n : Nat) (l : List Prt), l.length ≤ n → Right l → Right (tidy l) ∧ wt (tidy l) ≤ wt l ∧ (tidy l).length ≤ l.length ∧ ∀ r a v, Big r l a v → Big r (tidy l) a v := by
 intro n
 induction n with
 | zero =>
  intro l hl h
  obtain rfl : l = [] := List.eq_nil_of_length_eq_zero (by omega)
  exact h.lr.elim
 | succ n ih =>
  intro l hl h
  obtain ⟨o1, o2, o3⟩ := once_right h
  have ho := once_len l
  rw [tidy]
  split
  ·exact ⟨o1, o2, ho, o3⟩
  ·obtain ⟨i1, i2, i3, i4⟩ := ih (once l) (by omega) o1
   exact ⟨i1, by omega, by omega, fun r a v hb => i4 r a v (o3 r a v hb)⟩
structure Sml where
 code : Int
 jt : Int
 jf : Int
 k : Int
 any : Ins
 raw : Bool
def Sml.cells (s : Sml) : List Value := [.int .u8 s.code, .int .u8 s.jt, .int .u8 s.jf, .int .u8 s.k, .int .u16 s.any.code, .int .u8 s.any.jt, .int .u8 s.any.jf, .int .u32 s.any.k, .bool s.raw]
structure Sml.ok (s : Sml) : Prop where
 c : 0 ≤ s.code ∧ s.code < 256
 t : 0 ≤ s.jt ∧ s.jt < 256
 f : 0 ≤ s.jf ∧ s.jf < 256
 k : 0 ≤ s.k ∧ s.k < 256
 any : s.any.ok
def updL (ws : List Nat) (k : Nat) (st : List Int) : List Int := ws.foldl (fun st x => st.set k (max (st.getD k 0) (st.getD x 0))) st
def stepL (i : Ins) (k : Nat) (st : List Int) : List Int := (updL (ways i k) k st).set k ((updL (ways i k) k st).getD k 0 + 1)
def longGo (l : List Ins) : Nat → List Int → List Int
 | 0, st => st
 | k + 1, st => longGo l k (stepL (l.getD k ⟨0, 0, 0, 0⟩) k st)
def longest (l : List Ins) : Int := (longGo l l.length (List.replicate l.length 0)).getD 0 0
theorem firstBad_err {n : Nat} {l : List Ins} {at_ : Nat} {r : Int × Int} (h : h4k n l at_ = some r) : r.2 ≠ 0 := by
 induction l generalizing at_ with
 | nil => cases h
 | cons i l ih =>
  rw [h4y] at h
  split at h
  ·rename_i h1
   cases h
   exact h1
  ·exact ih h
theorem check_parts {l : List Ins} (h : check l = (0, 0)) : 0 < l.length ∧ l.length ≤ 4096 ∧ h4k l.length l 0 = none ∧ isRet (l.getD (l.length - 1) ⟨0, 0, 0, 0⟩) = true ∧ loads l = (0, 0) := by
 unfold check at h
 split at h
 ·exact absurd (congrArg Prod.snd h) (by simp)
 rename_i h1
 split at h
 ·exact absurd (congrArg Prod.snd h) (by simp)
 rename_i h2
 split at h
 ·rename_i r hr
  exact absurd (congrArg Prod.snd h) (firstBad_err hr)
 rename_i h3
 split at h
 ·rename_i h4
  exact ⟨by omega, by omega, h3, h4, h⟩
 ·exact absurd (congrArg Prod.snd h) (by simp)
theorem check_of {l : List Ins} (h1 : 0 < l.length) (h2 : l.length ≤ 4096) (h3 : h4k l.length l 0 = none) (h4 : isRet (l.getD (l.length - 1) ⟨0, 0, 0, 0⟩) = true) (h5 : loads l = (0, 0)) : check l = (0, 0) := by
 unfold check
 rw [if_neg (by omega), if_neg (by omega), h3]
 simp only [h4, if_true]
 exact h5
def I0 : Ins := ⟨0, 0, 0, 0⟩
def Wd (l : List Ins) : Prop := ∀ (k : Nat) (h : k < l.length), ∀ x ∈ ways l[k] k, k < x ∧ x < l.length
def setAll (ws : List Nat) (st : List Bool) : List Bool := ws.foldl (fun st x => st.set x true) st
def stepR (i : Ins) (k : Nat) (st : List Bool) : List Bool := if st.getD k false then setAll (ways i k) st else st
def reachGo : List Ins → Nat → List Bool → List Bool
 | [], _, st => st
 | i :: r, k, st => reachGo r (k + 1) (stepR i k st)
def reached (l : List Ins) : List Bool := reachGo l 0 ((List.replicate l.length false).set 0 true)
def cnt (r : List Bool) (k : Nat) : Nat := (r.take k).countP id
def near (r : List Bool) (i : Ins) (k : Nat) : Ins :=
 if i.code = 5 then { i with k := IntKind.u32.wrap ((cnt r (k + 1 + i.k.toNat) : Int) - ((cnt r k : Int) + 1)) }
 else if i.code % 8 = 5 then { i with jt := IntKind.u8.wrap ((cnt r (k + 1 + i.jt.toNat) : Int) - ((cnt r k : Int) + 1)), jf := IntKind.u8.wrap ((cnt r (k + 1 + i.jf.toNat) : Int) - ((cnt r k : Int) + 1)) }
 else i
def h5b (r : List Bool) : List Ins → Nat → List Ins
 | [], _ => []
 | i :: t, k => if r.getD k false then near r i k :: h5b r t (k + 1) else h5b r t (k + 1)
def strip (l : List Ins) : List Ins := if check l = (0, 0) then h5b (reached l) l 0 else l
theorem setAll_len (ws : List Nat) (st : List Bool) : (setAll ws st).length = st.length := by
 unfold setAll
 induction ws generalizing st with
 | nil => rfl
 | cons w ws ih => rw [List.foldl_cons, ih, List.length_set]
theorem stepR_len (i : Ins) (k : Nat) (st : List Bool) : (stepR i k st).length = st.length := by
 unfold stepR
 split
 ·exact setAll_len _ _
 ·rfl
theorem h6d {α} (st : List α) (x y : Nat) (v d : α) : (st.set x v).getD y d = if x = y ∧ x < st.length then v else st.getD y d := by
 rw [List.getD_eq_getElem?_getD, List.getElem?_set, List.getD_eq_getElem?_getD]
 split
 ·rename_i h
  subst h
  split
  ·simp [*]
  ·rename_i h2
   rw [if_neg (by omega), List.getElem?_eq_none (by omega)]
 ·rename_i h
  rw [if_neg (by omega)]
theorem setAll_get (ws : List Nat) (st : List Bool) (x : Nat) (hws : ∀ w ∈ ws, w < st.length) : (setAll ws st).getD x false = (st.getD x false || decide (x ∈ ws)) := by
 unfold setAll
 induction ws generalizing st with
 | nil => simp
 | cons w ws ih =>
  rw [List.foldl_cons, ih _ (fun y hy => by rw [List.length_set]; exact hws y (by simp [hy])), h6d]
  have hw := hws w (by simp)
  by_cases h : w = x
  ·subst h; simp [hw]
  ·have h' : ¬ x = w := fun e => h e.symm
   simp [h, h']
theorem stepR_get {i : Ins} {k : Nat} {st : List Bool} (hws : ∀ w ∈ ways i k, w < st.length) (x : Nat) : (stepR i k st).getD x false = (st.getD x false || (st.getD k false && decide (x ∈ ways i k))) := by
 unfold stepR
 split
 ·rename_i h; rw [setAll_get _ _ _ hws, h]; simp
 ·rename_i h; rw [Bool.not_eq_true] at h; rw [h]; simp
theorem reachGo_inv (l : List Ins) (Inv : Nat → List Bool → Prop) (hs : ∀ (k : Nat) (h : k < l.length) st, Inv k st → Inv (k + 1) (stepR l[k] k st)) (k : Nat) (hk : k ≤ l.length) (st : List Bool) (h : Inv k st) :
  Inv l.length (reachGo (l.drop k) k st) := by
 obtain ⟨m, hm⟩ : ∃ m, m = l.length - k := ⟨_, rfl⟩
 induction m generalizing k st with
 | zero =>
  obtain rfl : k = l.length := by omega
  rw [List.drop_length]; exact h
 | succ m ih =>
  have hlt : k < l.length := by omega
  rw [List.drop_eq_getElem_cons hlt, reachGo]
  exact ih (k + 1) (by omega) _ (hs k hlt _ h) (by omega)
structure Rch (l : List Ins) (r : List Bool) : Prop where
 len : r.length = l.length
 zero : 0 < l.length → r.getD 0 false = true
 next : ∀ (k : Nat) (h : k < l.length), r.getD k false = true → ∀ x ∈ ways l[k] k, r.getD x false = true
 prev : ∀ x, x ≠ 0 → r.getD x false = true → ∃ k, ∃ h : k < l.length, r.getD k false = true ∧ x ∈ ways l[k] k
structure RchI (l : List Ins) (j : Nat) (r : List Bool) : Prop where
 len : r.length = l.length
 zero : 0 < l.length → r.getD 0 false = true
 next : ∀ (k : Nat) (h : k < l.length), k < j → r.getD k false = true → ∀ x ∈ ways l[k] k, r.getD x false = true
 prev : ∀ x, x ≠ 0 → r.getD x false = true → ∃ k, ∃ h : k < l.length, r.getD k false = true ∧ x ∈ ways l[k] k
theorem reached_rch {l : List Ins} (hw : Wd l) : Rch l (reached l) := by
 have h := reachGo_inv l (RchI l) ?_ 0 (Nat.zero_le _) ((List.replicate l.length false).set 0 true) ?_
 ·rw [List.drop_zero] at h
  exact ⟨h.len, h.zero, fun k hk => h.next k hk hk, h.prev⟩
 ·intro k hk st ⟨h1, h2, h3, h4⟩
  have hws : ∀ w ∈ ways l[k] k, w < st.length := fun w h => by rw [h1]; exact (hw k hk w h).2
  refine ⟨by rw [stepR_len, h1], fun h0 => by rw [stepR_get hws, h2 h0]; rfl, ?_, ?_⟩
  ·intro j hj hjk hr x hx
   rw [stepR_get hws] at hr ⊢
   by_cases e : j = k
   ·subst e
    have : st.getD j false = true := by
     by_cases q : st.getD j false = true
     ·exact q
     ·simp at q; simp [q] at hr
    rw [this]; simp [hx]
   ·have hj2 : j < k := by omega
    have : st.getD j false = true := by
     rcases Bool.or_eq_true_iff.1 hr with q | q
     ·exact q
     ·have := (Bool.and_eq_true_iff.1 q).2
      have := (hw k hk j (of_decide_eq_true this)).1
      omega
    rw [h3 j hj hj2 this x hx]; rfl
  ·intro x hx hr
   rw [stepR_get hws] at hr
   rcases Bool.or_eq_true_iff.1 hr with q | q
   ·obtain ⟨j, hj, hr2, hm⟩ := h4 x hx q
    exact ⟨j, hj, by rw [stepR_get hws, hr2]; rfl, hm⟩
   ·have q2 := Bool.and_eq_true_iff.1 q
    exact ⟨k, hk, by rw [stepR_get hws, q2.1]; rfl, of_decide_eq_true q2.2⟩
 ·refine ⟨by simp, fun h0 => ?_, fun k _ h => by omega, ?_⟩
  ·rw [h6d]; simp [h0]
  ·intro x hx hr
   rw [h6d] at hr
   rw [if_neg (by omega)] at hr
   simp only [List.getD_eq_getElem?_getD, List.getElem?_replicate] at hr
   split at hr <;> simp at hr
theorem cnt_succ (r : List Bool) (k : Nat) : cnt r (k + 1) = cnt r k + (if r.getD k false then 1 else 0) := by
 unfold cnt
 by_cases h : k < r.length
 ·rw [List.take_succ_eq_append_getElem h, List.countP_append, List.getD_eq_getElem?_getD, List.getElem?_eq_getElem h]
  cases hb : r[k] <;> simp
 ·rw [List.take_of_length_le (by omega), List.take_of_length_le (by omega), List.getD_eq_getElem?_getD, List.getElem?_eq_none (by omega)]
  simp
theorem cnt_mono (r : List Bool) {a b : Nat} (h : a ≤ b) : cnt r a ≤ cnt r b := by
  induction b with
  | zero => obtain rfl : a = 0 := by omega
            exact Nat.le_refl _
  | succ b ih =>
    by_cases e : a = b + 1
    · subst e; exact Nat.le_refl _
    · have := ih (by omega)
      rw [cnt_succ]; omega
theorem cnt_le (r : List Bool) (k : Nat) : cnt r k ≤ k := by
 induction k with
 | zero => simp [cnt]
 | succ k ih => rw [cnt_succ]; split <;> omega
theorem cnt_zero (r : List Bool) : cnt r 0 = 0 := by simp [cnt]
theorem cnt_yes {r : List Bool} {k : Nat} (h : r.getD k false = true) : cnt r (k + 1) = cnt r k + 1 := by rw [cnt_succ, h]; rfl
theorem cnt_inj {r : List Bool} {a b : Nat} (ha : r.getD a false = true) (hb : r.getD b false = true) (h : cnt r a = cnt r b) : a = b := by
 rcases Nat.lt_trichotomy a b with q | q | q
 ·have h1 := cnt_mono r (show a + 1 ≤ b from q); rw [cnt_yes ha] at h1; omega
 ·exact q
 ·have h1 := cnt_mono r (show b + 1 ≤ a from q); rw [cnt_yes hb] at h1; omega
theorem cnt_lt {r : List Bool} {a b : Nat} (ha : r.getD a false = true) (h : a < b) : cnt r a < cnt r b := by
 have h1 := cnt_mono r (show a + 1 ≤ b from h); rw [cnt_yes ha] at h1; omega
theorem cnt_surj (r : List Bool) {m n : Nat} (h : m < cnt r n) : ∃ k, k < n ∧ r.getD k false = true ∧ cnt r k = m := by
 induction n with
 | zero => simp [cnt] at h
 | succ n ih =>
  rw [cnt_succ] at h
  by_cases q : m < cnt r n
  ·obtain ⟨k, h1, h2, h3⟩ := ih q
   exact ⟨k, by omega, h2, h3⟩
  ·by_cases hb : r.getD n false = true
   ·rw [hb] at h
    simp only [if_true] at h
    exact ⟨n, by omega, hb, by omega⟩
   ·simp only [Bool.not_eq_true] at hb
    rw [hb] at h
    simp at h
    omega
theorem stripGo_len (r : List Bool) (l : List Ins) (k : Nat) : (h5b r l k).length + cnt r k = cnt r (k + l.length) := by
 induction l generalizing k with
 | nil => simp [h5b]
 | cons i t ih =>
  have := ih (k + 1)
  rw [cnt_succ] at this
  unfold h5b
  rw [List.length_cons, show k + (t.length + 1) = k + 1 + t.length by omega]
  split
  ·rename_i h
   rw [h] at this
   simp only [if_true] at this
   rw [List.length_cons]; omega
  ·rename_i h
   simp only [Bool.not_eq_true] at h
   rw [h] at this
   simp only [Bool.false_eq_true, if_false] at this
   omega
theorem stripGo_get (r : List Bool) (l : List Ins) (k j : Nat) (hj : j < l.length) (hr : r.getD (k + j) false = true) : (h5b r l k)[cnt r (k + j) - cnt r k]? = some (near r l[j] (k + j)) := by
 induction l generalizing k j with
 | nil => simp at hj
 | cons i t ih =>
  unfold h5b
  cases j with
  | zero =>
   rw [Nat.add_zero] at hr
   rw [if_pos hr]
   simp
  | succ j =>
   have h1 := ih (k + 1) j (by simpa using hj) (by rw [show k + 1 + j = k + (j + 1) by omega]; exact hr)
   rw [show k + 1 + j = k + (j + 1) by omega] at h1
   have hm := cnt_mono r (show k + 1 ≤ k + (j + 1) by omega)
   rw [cnt_succ] at h1 hm
   split
   ·rename_i hb
    rw [hb] at h1 hm
    simp only [if_true] at h1 hm
    rw [show cnt r (k + (j + 1)) - cnt r k = (cnt r (k + (j + 1)) - (cnt r k + 1)) + 1 by omega, List.getElem?_cons_succ, h1]
    rfl
   ·rename_i hb
    simp only [Bool.not_eq_true] at hb
    rw [hb] at h1
    simpa using h1
structure Flt (l : List Ins) : Prop where
 ok : ∀ i ∈ l, i.ok
 pos : 0 < l.length
 max : l.length ≤ 4096
 one : ∀ (k : Nat) (h : k < l.length), one l[k] (k : Int) l.length = 0
 wd : Wd l
 ret : ∀ h : l.length - 1 < l.length, isRet l[l.length - 1] = true
 lds : loads l = (0, 0)
theorem flt_of {l : List Ins} (hl : ∀ i ∈ l, i.ok) (h : check l = (0, 0)) : Flt l := by
 obtain ⟨h1, h2, h3, h4, h5⟩ := check_parts h
 refine ⟨hl, h1, h2, ?_, ways_lt hl h3 h4, ?_, h5⟩
 ·intro k hk
  have := firstBad_none h3 k hk
  rwa [Nat.zero_add] at this
 ·intro hh
  rwa [List.getD_eq_getElem?_getD, List.getElem?_eq_getElem hh] at h4
theorem firstBad_nil {n : Nat} {l : List Ins} {at_ : Nat} (h : ∀ (k : Nat) (h : k < l.length), one l[k] ((at_ + k : Nat) : Int) n = 0) : h4k n l at_ = none := by
 induction l generalizing at_ with
 | nil => rfl
 | cons i l ih =>
  have h0 := h 0 (by simp)
  simp only [List.getElem_cons_zero, Nat.add_zero] at h0
  rw [h4y, if_neg (fun q => q h0)]
  refine ih fun k hk => ?_
  have := h (k + 1) (by simpa using hk)
  rwa [List.getElem_cons_succ, show at_ + (k + 1) = at_ + 1 + k by omega] at this
theorem Flt.check {l : List Ins} (f : Flt l) : check l = (0, 0) := by
 refine check_of f.pos f.max (firstBad_nil fun k hk => ?_) ?_ f.lds
 ·rw [Nat.zero_add]; exact f.one k hk
 ·rw [List.getD_eq_getElem?_getD, List.getElem?_eq_getElem (by have := f.pos; omega)]
  exact f.ret (by have := f.pos; omega)
-- the certificate of loads
def sub (a b : Int) : Prop := ∀ j, a.toNat.testBit j = true → b.toNat.testBit j = true
theorem sub_refl (a : Int) : sub a a := fun _ h => h
theorem sub_trans {a b c : Int} (h : sub a b) (h2 : sub b c) : sub a c := fun j q => h2 j (h j q)
theorem sub_and {a b c : Int} (h : sub a b) (h2 : sub a c) : sub a (iand b c) := by
 intro j q
 simp only [iand, Int.toNat_natCast, Nat.testBit_and, h j q, h2 j q, Bool.and_self]
theorem and_sub1 (a b : Int) : sub (iand a b) a := by
 intro j q
 simp only [iand, Int.toNat_natCast, Nat.testBit_and, Bool.and_eq_true] at q
 exact q.1
theorem and_sub2 (a b : Int) : sub (iand a b) b := by
 intro j q
 simp only [iand, Int.toNat_natCast, Nat.testBit_and, Bool.and_eq_true] at q
 exact q.2
theorem sub_now {i : Ins} {a b : Int} (h : sub a b) : sub (nowOf i a) (nowOf i b) := by
 unfold nowOf
 split
 ·intro j q
  simp only [ior, Int.toNat_natCast, Nat.testBit_or, Bool.or_eq_true] at q ⊢
  rcases q with q | q
  ·exact .inl (h j q)
  ·exact .inr q
 ·exact h
theorem bit_sub {a b k : Int} (ha : 0 ≤ a) (hb : 0 ≤ b) (h : sub a b) (h1 : bit a k ≠ 0) : bit b k ≠ 0 := by
 have key : ∀ x : Int, 0 ≤ x → (bit x k ≠ 0 ↔ x.toNat.testBit (min k.toNat 16) = true) := by
  intro x hx
  obtain ⟨n, rfl⟩ := Int.eq_ofNat_of_zero_le hx
  have e : (n : Int).fdiv (2 ^ (min k.toNat 16)) = ((n / 2 ^ (min k.toNat 16) : Nat) : Int) := by
   rw [Int.fdiv_eq_ediv_of_nonneg _ (Int.le_of_lt (Int.pow_pos (by omega)))]
   simp
  unfold bit iand
  rw [e]
  simp only [Int.toNat_natCast]
  rw [Nat.testBit_eq_decide_div_mod_eq, decide_eq_true_iff]
  have e2 : (1 : Int).toNat = 1 := rfl
  rw [e2, Nat.and_one_is_mod]
  omega
 exact (key b hb).2 (h _ ((key a ha).1 h1))
theorem meetAll_get_sub {ws : List Nat} {nw c : Int} {st : List Int} {x : Nat} (h : sub c (st.getD x 0)) (h2 : x ∈ ws → sub c nw) : sub c ((h5c ws nw st).getD x 0) := by
 unfold h5c
 induction ws generalizing st with
 | nil => exact h
 | cons w ws ih =>
  rw [List.foldl_cons]
  refine ih ?_ (fun q => h2 (by simp [q]))
  rw [h6d]
  split
  ·rename_i e
   obtain ⟨rfl, _⟩ := e
   exact sub_and h (h2 (by simp))
  ·exact h
theorem meetAll_sub_get {ws : List Nat} {nw : Int} {st : List Int} {x : Nat} : sub ((h5c ws nw st).getD x 0) (st.getD x 0) := by
 unfold h5c
 induction ws generalizing st with
 | nil => exact sub_refl _
 | cons w ws ih =>
  rw [List.foldl_cons]
  refine sub_trans ih ?_
  rw [h6d]
  split
  ·rename_i e
   obtain ⟨rfl, _⟩ := e
   exact and_sub1 _ _
  ·exact sub_refl _
theorem meetAll_sub_now {ws : List Nat} {nw : Int} {st : List Int} {x : Nat} (hx : x ∈ ws) (hl : x < st.length) : sub ((h5c ws nw st).getD x 0) nw := by
 induction ws generalizing st with
 | nil => simp at hx
 | cons w ws ih =>
  have e : h5c (w :: ws) nw st = h5c ws nw (st.set w (iand (st.getD w 0) nw)) := rfl
  rw [e]
  by_cases q : x ∈ ws
  ·exact ih q (by rw [List.length_set]; exact hl)
  ·have : x = w := by simpa [q] using hx
   subst this
   refine sub_trans meetAll_sub_get ?_
   rw [h6d, if_pos ⟨rfl, hl⟩]
   exact and_sub2 _ _
structure LC (l : List Ins) (S : Nat → Int) : Prop where
 zero : S 0 = 0
 rng : ∀ k, k < l.length → 0 ≤ S k ∧ S k < 65536
 ld : ∀ (k : Nat) (h : k < l.length), isLd l[k] = true → bit (S k) l[k].k ≠ 0
 next : ∀ (k : Nat) (h : k < l.length), ∀ x ∈ ways l[k] k, sub (S x) (nowOf l[k] (S k))
theorem sub_full {a : Int} (h : 0 ≤ a ∧ a < 65536) : sub a 65535 := by
 intro j q
 have hj : j < 16 := by
  by_cases c : j < 16
  ·exact c
  ·have : a.toNat < 2 ^ j := Nat.lt_of_lt_of_le (by omega) (Nat.pow_le_pow_right (by omega) (show 16 ≤ j by omega))
   rw [Nat.testBit_lt_two_pow this] at q
   simp at q
 have e : (65535 : Int).toNat = 2 ^ 16 - 1 := rfl
 rw [e, Nat.testBit_two_pow_sub_one]
 simpa using hj
theorem init_get {n x : Nat} (hx : x < n) : ((List.replicate n (65535 : Int)).set 0 0).getD x 0 = if x = 0 then 0 else 65535 := by
 rw [h6d]
 by_cases h : x = 0
 ·subst h; simp [hx]
 ·rw [if_neg (by omega), if_neg h, List.getD_eq_getElem?_getD, List.getElem?_replicate]
  simp [hx]
theorem loads_of {l : List Ins} {S : Nat → Int} (hw : Wd l) (c : LC l S) : loads l = (0, 0) := by
 have go : ∀ (m k : Nat) (st : List Int), l.length - k = m → k ≤ l.length → st.length = l.length → (∀ x ∈ st, 0 ≤ x ∧ x < 65536) → (∀ x, x < l.length → sub (S x) (st.getD x 0)) → loadsGo (l.drop k) k st = (0, 0) := by
  intro m
  induction m with
  | zero =>
   intro k st hm hk _ _ _
   obtain rfl : k = l.length := by omega
   rw [List.drop_length]; rfl
  | succ m ih =>
   intro k st hm hk hlen hrg hs
   have hlt : k < l.length := by omega
   rw [List.drop_eq_getElem_cons hlt, loadsGo]
   have hg : ∀ x, 0 ≤ st.getD x 0 := by
    intro x
    rw [List.getD_eq_getElem?_getD]
    cases hx : st[x]? with
    | none => simp
    | some y => exact (hrg y (List.mem_of_getElem? hx)).1
   rw [if_neg]
   ·refine ih (k + 1) _ (by omega) (by omega) (by rw [meetAll_len, hlen]) (meetAll_rng _ _ _ hrg) ?_
    intro x hx
    refine meetAll_get_sub (hs x hx) (fun q => ?_)
    exact sub_trans (c.next k hlt x q) (sub_now (hs k hlt))
   ·intro q
    simp only [Bool.and_eq_true, decide_eq_true_eq] at q
    exact bit_sub (c.rng k hlt).1 (hg k) (hs k hlt) (c.ld k hlt q.1) q.2
 have := go l.length 0 ((List.replicate l.length 65535).set 0 0) rfl (Nat.zero_le _) (by simp) ?_ ?_
 ·rwa [List.drop_zero] at this
 ·intro x hx
  rcases List.mem_or_eq_of_mem_set hx with h | rfl
  ·have := List.eq_of_mem_replicate h; omega
  ·omega
 ·intro x hx
  rw [init_get hx]
  split
  ·rename_i e; subst e; rw [c.zero]; exact sub_refl _
  ·exact sub_full (c.rng x hx)
def stAt (l : List Ins) : Nat → List Int
 | 0 => (List.replicate l.length 65535).set 0 0
 | k + 1 => h5c (ways (l.getD k I0) k) (nowOf (l.getD k I0) ((stAt l k).getD k 0)) (stAt l k)
theorem getD_lt {l : List Ins} {k : Nat} (h : k < l.length) : l.getD k I0 = l[k] := by rw [List.getD_eq_getElem?_getD, List.getElem?_eq_getElem h]; rfl
theorem stAt_len (l : List Ins) (k : Nat) : (stAt l k).length = l.length := by
 induction k with
 | zero => simp [stAt]
 | succ k ih => rw [stAt, meetAll_len, ih]
theorem stAt_rng (l : List Ins) (k : Nat) : ∀ x ∈ stAt l k, 0 ≤ x ∧ x < 65536 := by
 induction k with
 | zero =>
  intro x hx
  rcases List.mem_or_eq_of_mem_set hx with h | rfl
  ·have := List.eq_of_mem_replicate h; omega
  ·omega
 | succ k ih => exact meetAll_rng _ _ _ ih
theorem stAt_dec (l : List Ins) {a b : Nat} (h : a ≤ b) (x : Nat) : sub ((stAt l b).getD x 0) ((stAt l a).getD x 0) := by
  induction b with
  | zero => obtain rfl : a = 0 := by omega
            exact sub_refl _
  | succ b ih =>
    by_cases e : a = b + 1
    · subst e; exact sub_refl _
    · exact sub_trans meetAll_sub_get (ih (by omega))
theorem stAt_go {l : List Ins} (h : loads l = (0, 0)) (k : Nat) (hk : k ≤ l.length) : loadsGo (l.drop k) k (stAt l k) = (0, 0) := by
 induction k with
 | zero => rw [List.drop_zero]; exact h
 | succ k ih =>
  have h1 := ih (by omega)
  have hlt : k < l.length := by omega
  rw [List.drop_eq_getElem_cons hlt, loadsGo] at h1
  split at h1
  ·exact absurd (congrArg Prod.snd h1) (by simp)
  ·rw [stAt, getD_lt hlt]; exact h1
theorem loads_cert {l : List Ins} (hw : Wd l) (h0 : 0 < l.length) (h : loads l = (0, 0)) : LC l (fun k => (stAt l k).getD k 0) := by
 have rg : ∀ k x, 0 ≤ (stAt l k).getD x 0 ∧ (stAt l k).getD x 0 < 65536 := by
  intro k x
  rw [List.getD_eq_getElem?_getD]
  cases hx : (stAt l k)[x]? with
  | none => simp
  | some y => exact stAt_rng l k y (List.mem_of_getElem? hx)
 refine ⟨?_, fun k _ => rg k k, ?_, ?_⟩
 ·rw [stAt, init_get h0]; rfl
 ·intro k hk hl
  have h1 := stAt_go h k (by omega)
  rw [List.drop_eq_getElem_cons hk, loadsGo] at h1
  split at h1
  ·exact absurd (congrArg Prod.snd h1) (by simp)
  ·rename_i q
   intro e
   exact q (by simp only [Bool.and_eq_true, decide_eq_true_eq]; exact ⟨hl, e⟩)
 ·intro k hk x hx
  have hx2 := hw k hk x hx
  have h1 := stAt_dec l (show k + 1 ≤ x by omega) x
  refine sub_trans h1 ?_
  rw [stAt, getD_lt hk]
  exact meetAll_sub_now hx (by rw [stAt_len]; exact hx2.2)
-- the certificate of longest
def mx (xs : List Int) : Int := xs.foldl max 0
structure MC (l : List Ins) (f : Nat → Int) : Prop where
 eq : ∀ (k : Nat) (h : k < l.length), f k = mx ((ways l[k] k).map f) + 1
theorem updL_eq {ws : List Nat} {k : Nat} {st : List Int} (hk : k < st.length) (h : ∀ x ∈ ws, x ≠ k) : updL ws k st = st.set k (ws.foldl (fun m x => max m (st.getD x 0)) (st.getD k 0)) := by
 have go : ∀ (ws : List Nat) (m : Int), (∀ x ∈ ws, x ≠ k) → updL ws k (st.set k m) = st.set k (ws.foldl (fun m x => max m (st.getD x 0)) m) := by
  intro ws
  induction ws with
  | nil => intro m _; rfl
  | cons w ws ih =>
   intro m hh
   have hw := hh w (by simp)
   have e : updL (w :: ws) k (st.set k m) = updL ws k ((st.set k m).set k (max ((st.set k m).getD k 0) ((st.set k m).getD w 0))) := rfl
   rw [e, h6d, if_pos ⟨rfl, hk⟩, h6d, if_neg (by omega), List.set_set, ih _ (fun x hx => hh x (by simp [hx]))]
   rfl
 have e : st.set k (st.getD k 0) = st := by
  apply List.ext_getElem?
  intro j
  rw [List.getElem?_set]
  split
  ·rename_i q; subst q
   rw [List.getD_eq_getElem?_getD, List.getElem?_eq_getElem hk]
   first | rfl | (rw [if_pos hk]; rfl)
  ·rfl
 have := go ws (st.getD k 0) h
 rwa [e] at this
theorem foldl_max_map (ws : List Nat) (f : Nat → Int) (m : Int) : ws.foldl (fun m x => max m (f x)) m = (ws.map f).foldl max m := by
 induction ws generalizing m with
 | nil => rfl
 | cons w ws ih => exact ih _
theorem stepL_eq {i : Ins} {k : Nat} {st : List Int} (hk : k < st.length) (h0 : st.getD k 0 = 0) (h : ∀ x ∈ ways i k, k < x) : stepL i k st = st.set k (mx ((ways i k).map fun x => st.getD x 0) + 1) := by
 unfold stepL mx
 rw [updL_eq hk (fun x hx => by have := h x hx; omega), h0, h6d, if_pos ⟨rfl, hk⟩, List.set_set, foldl_max_map _ (fun x => st.getD x 0)]
theorem longest_of {l : List Ins} {f : Nat → Int} (hw : Wd l) (h0 : 0 < l.length) (c : MC l f) : longest l = f 0 := by
 have go : ∀ (k : Nat) (st : List Int), k ≤ l.length → st.length = l.length → (∀ x, k ≤ x → x < l.length → st.getD x 0 = f x) → (∀ x, x < k → st.getD x 0 = 0) → (longGo l k st).getD 0 0 = f 0 := by
  intro k
  induction k with
  | zero => intro st _ _ h _; exact h 0 (Nat.le_refl _) h0
  | succ k ih =>
   intro st hk hlen h h2
   have hlt : k < l.length := by omega
   have hd : l.getD k ⟨0, 0, 0, 0⟩ = l[k] := getD_lt hlt
   rw [longGo, hd, stepL_eq (by omega) (h2 k (by omega)) (fun x hx => (hw k hlt x hx).1)]
   have e : (ways l[k] k).map (fun x => st.getD x 0) = (ways l[k] k).map f := by
    apply List.map_congr_left
    intro x hx
    have := hw k hlt x hx
    exact h x (by omega) this.2
   rw [e, ← c.eq k hlt]
   refine ih _ (by omega) (by rw [List.length_set]; exact hlen) ?_ ?_
   ·intro x hx hx2
    rw [h6d]
    split
    ·rename_i q; rw [q.1]
    ·rename_i q; exact h x (by omega) hx2
   ·intro x hx
    rw [h6d, if_neg (by omega)]
    exact h2 x (by omega)
 refine go l.length _ (Nat.le_refl _) (by simp) (fun x h1 h2 => by omega) ?_
 intro x hx
 rw [List.getD_eq_getElem?_getD, List.getElem?_replicate]
 simp [hx]
theorem longest_cert {l : List Ins} (hw : Wd l) : ∃ f, MC l f := by
 have go : ∀ m, ∃ f : Nat → Int, ∀ (k : Nat) (h : k < l.length), l.length ≤ k + m → f k = mx ((ways l[k] k).map f) + 1 := by
  intro m
  induction m with
  | zero => exact ⟨fun _ => 0, fun k h h2 => by omega⟩
  | succ m ih =>
   obtain ⟨f, hf⟩ := ih
   by_cases hm : m < l.length
   ·refine ⟨fun x => if x = l.length - (m + 1) then mx ((ways (l.getD (l.length - (m + 1)) I0) (l.length - (m + 1))).map f) + 1 else f x, fun k h h2 => ?_⟩
    have e : (ways l[k] k).map (fun x => if x = l.length - (m + 1) then mx ((ways (l.getD (l.length - (m + 1)) I0) (l.length - (m + 1))).map f) + 1 else f x) = (ways l[k] k).map f := by
     apply List.map_congr_left
     intro x hx
     have := hw k h x hx
     rw [if_neg (by omega)]
    rw [e]
    by_cases q : k = l.length - (m + 1)
    ·dsimp only
     rw [if_pos q, ← q, getD_lt h]
    ·dsimp only
     rw [if_neg q]
     exact hf k h (by omega)
   ·exact ⟨f, fun k h h2 => hf k h (by omega)⟩
 obtain ⟨f, hf⟩ := go l.length
 exact ⟨f, ⟨fun k h => hf k h (by omega)⟩⟩
theorem nat_xor_mod (x n : Nat) : x ^^^ (x % 2 ^ n) = x - x % 2 ^ n := by
 have e : x ^^^ (x % 2 ^ n) = (x >>> n) <<< n := by
  apply Nat.eq_of_testBit_eq
  intro i
  rw [Nat.testBit_xor, Nat.testBit_mod_two_pow, Nat.testBit_shiftLeft, Nat.testBit_shiftRight]
  by_cases h : i < n
  ·have h2 : ¬ n ≤ i := by omega
   simp [h, h2]
  ·have h2 : n ≤ i := by omega
   have h3 : n + (i - n) = i := by omega
   simp [h, h2, h3]
 rw [e, Nat.shiftLeft_eq, Nat.shiftRight_eq_div_pow]
 have := Nat.div_add_mod x (2 ^ n)
 rw [Nat.mul_comm] at this
 omega
theorem iandn_mask (a : Int) (n : Nat) (h : 0 ≤ a) : h6e a (2 ^ n - 1) = a - a % 2 ^ n := by
 obtain ⟨x, rfl⟩ : ∃ x : Nat, a = x := ⟨a.toNat, by omega⟩
 have h2 : ((2 : Int) ^ n - 1).toNat = 2 ^ n - 1 := by
  have : ((2 ^ n : Nat) : Int) = (2 : Int) ^ n := by simp
  have h3 := Nat.two_pow_pos n
  omega
 unfold h6e
 rw [h2, Int.toNat_natCast, Nat.and_two_pow_sub_one_eq_mod, nat_xor_mod]
 have h3 := Nat.mod_le x (2 ^ n)
 have h4 : ((x % 2 ^ n : Nat) : Int) = (x : Int) % 2 ^ n := by simp
 omega
structure Str (l : List Ins) (r : List Bool) : Prop where
 f : Flt l
 r : Rch l r
variable {l : List Ins} {r : List Bool}
theorem Str.lt (s : Str l r) {k : Nat} (h : r.getD k false = true) : k < l.length := by
 by_cases q : k < l.length
 ·exact q
 ·rw [List.getD_eq_getElem?_getD, List.getElem?_eq_none (by rw [s.r.len]; omega)] at h
  simp at h
theorem near_code (r : List Bool) (i : Ins) (k : Nat) : (near r i k).code = i.code := by unfold near; split <;> (try split) <;> rfl
theorem near_k {r : List Bool} {i : Ins} {k : Nat} (h : i.code ≠ 5) : (near r i k).k = i.k := by unfold near; rw [if_neg h]; split <;> rfl
theorem wrapu32_of {x : Int} (h : 0 ≤ x ∧ x < 4294967296) : IntKind.u32.wrap x = x := by
 have : IntKind.u32.wrap x = x % 4294967296 := by simp only [IntKind.wrap, IntKind.bits, IntKind.signed]; simp
 omega
theorem wrapu8_of {x : Int} (h : 0 ≤ x ∧ x < 256) : IntKind.u8.wrap x = x := by
 have : IntKind.u8.wrap x = x % 256 := by simp only [IntKind.wrap, IntKind.bits, IntKind.signed]; simp
 omega
theorem Str.far (s : Str l r) {k : Nat} (hr : r.getD k false = true) {d : Int} (hd : 0 ≤ d) (h : k + 1 + d.toNat < l.length) (ht : r.getD (k + 1 + d.toNat) false = true) :
  0 ≤ (cnt r (k + 1 + d.toNat) : Int) - ((cnt r k : Int) + 1) ∧ (cnt r (k + 1 + d.toNat) : Int) - ((cnt r k : Int) + 1) ≤ d ∧ (cnt r (k + 1 + d.toNat) : Int) < cnt r l.length := by
 have h1 := cnt_lt hr (show k < k + 1 + d.toNat by omega)
 have h2 := cnt_lt ht h
 have h3 : cnt r (k + 1 + d.toNat) ≤ cnt r (k + 1) + d.toNat := by
  clear h ht h1 h2
  generalize d.toNat = m
  induction m with
  | zero => exact Nat.le_refl _
  | succ m ih => rw [show k + 1 + (m + 1) = k + 1 + m + 1 by omega, cnt_succ]; split <;> omega
 rw [cnt_yes hr] at h3
 omega
theorem Str.near (s : Str l r) {k : Nat} (hr : r.getD k false = true) (hk : k < l.length) :
  (near r l[k] k).ok ∧ one (near r l[k] k) (cnt r k) (cnt r l.length) = 0 ∧ ways (near r l[k] k) (cnt r k) = (ways l[k] k).map (cnt r) := by
 have hok := s.f.ok _ (List.getElem_mem hk)
 have h1 := s.f.one k hk
 have hwd := s.f.wd k hk
 have hnx := s.r.next k hk hr
 have hn := cnt_mono r (show k + 1 ≤ l.length from hk)
 rw [cnt_yes hr] at hn
 generalize l[k] = i at *
 obtain ⟨c, jt, jf, kk⟩ := i
 obtain ⟨hc, ht, hf, hkk⟩ := hok
 dsimp only at hc ht hf hkk
 by_cases c5 : c = 5
 ·subst c5
  have hway : ways ⟨5, jt, jf, kk⟩ k = [k + 1 + kk.toNat] := by simp [ways]
  rw [hway] at hwd hnx ⊢
  have q1 := hwd (k + 1 + kk.toNat) (by simp)
  have q2 := hnx (k + 1 + kk.toNat) (by simp)
  have q3 := s.far hr hkk.1 q1.2 q2
  have e : Go.Proofs.Ytpbpgbkpciffgaa.near r ⟨5, jt, jf, kk⟩ k = ⟨5, jt, jf, (cnt r (k + 1 + kk.toNat) : Int) - ((cnt r k : Int) + 1)⟩ := by
   unfold Go.Proofs.Ytpbpgbkpciffgaa.near
   rw [if_pos rfl, wrapu32_of (by dsimp only; omega)]
  rw [e]
  refine ⟨⟨by dsimp only; omega, ht, hf, by dsimp only; omega⟩, ?_, ?_⟩
  ·have hkn : h6i 5 = true := by decide
   simp [one, hkn]
   omega
  ·simp [ways]
   omega
 ·by_cases c8 : c % 8 = 5
  ·have hway : ways ⟨c, jt, jf, kk⟩ k = [k + 1 + jt.toNat, k + 1 + jf.toNat] := by simp [ways, c5, c8]
   rw [hway] at hwd hnx ⊢
   have q1 := hwd (k + 1 + jt.toNat) (by simp)
   have q2 := hnx (k + 1 + jt.toNat) (by simp)
   have q3 := s.far hr ht.1 q1.2 q2
   have p1 := hwd (k + 1 + jf.toNat) (by simp)
   have p2 := hnx (k + 1 + jf.toNat) (by simp)
   have p3 := s.far hr hf.1 p1.2 p2
   have e : Go.Proofs.Ytpbpgbkpciffgaa.near r ⟨c, jt, jf, kk⟩ k = ⟨c, (cnt r (k + 1 + jt.toNat) : Int) - ((cnt r k : Int) + 1), (cnt r (k + 1 + jf.toNat) : Int) - ((cnt r k : Int) + 1), kk⟩ := by
    unfold Go.Proofs.Ytpbpgbkpciffgaa.near
    rw [if_neg c5, if_pos c8, wrapu8_of (by dsimp only; omega), wrapu8_of (by dsimp only; omega)]
   rw [e]
   refine ⟨⟨hc, by dsimp only; omega, by dsimp only; omega, hkk⟩, ?_, ?_⟩
   ·unfold one at h1 ⊢
    dsimp only at h1 ⊢
    split at h1
    ·omega
    rename_i k1
    rw [if_neg k1, if_neg (fun q => c5 q.1), if_neg (fun q => by omega)]
    split at h1
    ·omega
    rw [if_neg (fun q => by omega), if_neg (fun q => by simp at q; omega), if_neg (fun q => by omega), if_neg (fun q => by omega)]
   ·simp [ways, c5, c8]
    omega
  ·have e : Go.Proofs.Ytpbpgbkpciffgaa.near r ⟨c, jt, jf, kk⟩ k = ⟨c, jt, jf, kk⟩ := by
    unfold Go.Proofs.Ytpbpgbkpciffgaa.near
    rw [if_neg c5, if_neg c8]
   rw [e]
   refine ⟨⟨hc, ht, hf, hkk⟩, ?_, ?_⟩
   ·unfold one at h1 ⊢
    dsimp only at h1 ⊢
    split at h1
    ·omega
    rename_i k1
    rw [if_neg k1, if_neg (fun q => c5 q.1), if_neg (fun q => c8 q.1)]
    rw [if_neg (fun q => c5 q.1), if_neg (fun q => c8 q.1)] at h1
    exact h1
   ·by_cases c6 : c % 8 = 6
    ·simp [ways, c6]
    ·simp [ways, c5, c8, c6, cnt_yes hr]
theorem Str.zero (s : Str l r) : r.getD 0 false = true := s.r.zero s.f.pos
theorem Str.get (s : Str l r) {k : Nat} (hr : r.getD k false = true) : (h5b r l 0)[cnt r k]? = some (Go.Proofs.Ytpbpgbkpciffgaa.near r (l[k]'(s.lt hr)) k) := by
 have h := stripGo_get r l 0 k (s.lt hr) (by rwa [Nat.zero_add])
 rwa [Nat.zero_add, cnt_zero, Nat.sub_zero] at h
theorem Str.len (s : Str l r) : (h5b r l 0).length = cnt r l.length := by
 have h := stripGo_len r l 0
 rwa [cnt_zero, Nat.zero_add, Nat.add_zero] at h
theorem Str.from (s : Str l r) {m : Nat} (hm : m < (h5b r l 0).length) : ∃ k, ∃ hr : r.getD k false = true, cnt r k = m ∧ (h5b r l 0)[m] = Go.Proofs.Ytpbpgbkpciffgaa.near r (l[k]'(s.lt hr)) k := by
 rw [s.len] at hm
 obtain ⟨k, _, h2, h3⟩ := cnt_surj r hm
 refine ⟨k, h2, h3, ?_⟩
 have := s.get h2
 subst h3
 rw [List.getElem?_eq_getElem (by rw [s.len]; exact hm)] at this
 exact Option.some.inj this
noncomputable def lif (r : List Bool) (g : Nat → Int) (m : Nat) : Int := by
 classical exact if h : ∃ k, r.getD k false = true ∧ cnt r k = m then g h.choose else 0
theorem lif_at (g : Nat → Int) {k : Nat} (hr : r.getD k false = true) : lif r g (cnt r k) = g k := by
 have h : ∃ j, r.getD j false = true ∧ cnt r j = cnt r k := ⟨k, hr, rfl⟩
 unfold lif
 rw [dif_pos h]
 rw [cnt_inj h.choose_spec.1 hr h.choose_spec.2]
theorem Str.strip (s : Str l r) : Flt (h5b r l 0) := by
 have hz := s.zero
 have hp : 0 < (h5b r l 0).length := by rw [s.len]; have := cnt_lt hz s.f.pos; omega
 have hwd : Wd (h5b r l 0) := by
  intro m hm x hx
  obtain ⟨k, hr, rfl, e⟩ := s.from hm
  rw [e, (s.near hr (s.lt hr)).2.2] at hx
  obtain ⟨y, hy, rfl⟩ := List.mem_map.1 hx
  have h1 := s.f.wd k (s.lt hr) y hy
  have h2 := s.r.next k (s.lt hr) hr y hy
  rw [s.len]
  exact ⟨cnt_lt hr h1.1, cnt_lt h2 h1.2⟩
 have hn : (h5b r l 0).length ≤ l.length := by rw [s.len]; exact cnt_le r _
 refine ⟨?_, hp, by have := s.f.max; omega, ?_, hwd, ?_, ?_⟩
 ·intro i hi
  obtain ⟨m, hm, rfl⟩ := List.getElem_of_mem hi
  obtain ⟨k, hr, rfl, e⟩ := s.from hm
  rw [e]; exact (s.near hr (s.lt hr)).1
 ·intro m hm
  obtain ⟨k, hr, rfl, e⟩ := s.from hm
  rw [e, s.len]; exact (s.near hr (s.lt hr)).2.1
 ·intro hh
  obtain ⟨k, hr, hk, e⟩ := s.from hh
  rw [e]
  unfold isRet
  rw [near_code]
  by_cases q : (l[k]'(s.lt hr)).code % 8 = 6
  ·simpa using q
  ·exfalso
   have : ∃ x, x ∈ ways (l[k]'(s.lt hr)) k := by
    unfold ways
    rw [if_neg q]
    split
    ·exact ⟨_, List.mem_cons_self ..⟩
    split
    ·exact ⟨_, List.mem_cons_self ..⟩
    ·exact ⟨_, List.mem_cons_self ..⟩
   obtain ⟨x, hx⟩ := this
   have h1 := s.f.wd k (s.lt hr) x hx
   have h2 := s.r.next k (s.lt hr) hr x hx
   have h3 := cnt_lt h2 h1.2
   have h4 := cnt_lt hr h1.1
   rw [s.len] at hk hp
   omega
 ·have c := loads_cert s.f.wd s.f.pos s.f.lds
  generalize (fun k => (stAt l k).getD k 0) = S at c
  refine loads_of (S:=lif r S) hwd ⟨?_, ?_, ?_, ?_⟩
  ·have := lif_at S hz
   rw [cnt_zero] at this
   rw [this, c.zero]
  ·intro m hm
   obtain ⟨k, hr, rfl, e⟩ := s.from hm
   rw [lif_at S hr]
   exact c.rng k (s.lt hr)
  ·intro m hm hld
   obtain ⟨k, hr, rfl, e⟩ := s.from hm
   rw [e] at hld ⊢
   rw [lif_at S hr]
   have hld2 : isLd (l[k]'(s.lt hr)) = true := by unfold isLd at hld ⊢; rwa [near_code] at hld
   rw [near_k]
   ·exact c.ld k (s.lt hr) hld2
   ·intro e5; simp [isLd, e5] at hld2
  ·intro m hm x hx
   obtain ⟨k, hr, rfl, e⟩ := s.from hm
   rw [e, (s.near hr (s.lt hr)).2.2] at hx
   obtain ⟨y, hy, rfl⟩ := List.mem_map.1 hx
   have h2 := s.r.next k (s.lt hr) hr y hy
   rw [e, lif_at S hr, lif_at S h2]
   have h3 := c.next k (s.lt hr) y hy
   unfold nowOf at h3 ⊢
   have hst : isSt (Go.Proofs.Ytpbpgbkpciffgaa.near r (l[k]'(s.lt hr)) k) = isSt (l[k]'(s.lt hr)) := by unfold isSt; rw [near_code]
   rw [hst]
   split
   ·rename_i q
    rw [if_pos q] at h3
    rw [near_k]
    ·exact h3
    ·intro e5; simp [isSt, e5] at q
   ·rename_i q
    rw [if_neg q] at h3
    exact h3
theorem Str.longest (s : Str l r) : longest (h5b r l 0) = longest l := by
 obtain ⟨f, c⟩ := longest_cert s.f.wd
 rw [longest_of s.f.wd s.f.pos c, longest_of (f:=lif r f) s.strip.wd s.strip.pos ⟨?_⟩]
 ·have := lif_at f s.zero
  rw [cnt_zero] at this
  exact this
 ·intro m hm
  obtain ⟨k, hr, rfl, e⟩ := s.from hm
  rw [e, (s.near hr (s.lt hr)).2.2, lif_at f hr, c.eq k (s.lt hr), List.map_map]
  congr 2
  apply List.map_congr_left
  intro x hx
  exact (lif_at f (s.r.next k (s.lt hr) hr x hx)).symm
theorem Str.all (s : Str l r) : ∀ m, m < (h5b r l 0).length → (reached (h5b r l 0)).getD m false = true := by
 have R := reached_rch s.strip.wd
 have go : ∀ (b k : Nat), k < b → r.getD k false = true → (reached (h5b r l 0)).getD (cnt r k) false = true := by
  intro b
  induction b with
  | zero => intro k h; omega
  | succ b ih =>
   intro k hb hr
   by_cases h0 : k = 0
   ·subst h0; rw [cnt_zero]; exact R.zero s.strip.pos
   ·obtain ⟨j, hj, hjr, hm⟩ := s.r.prev k h0 hr
    have h1 := s.f.wd j hj k hm
    have h2 := ih j (by omega) hjr
    have hlt : cnt r j < (h5b r l 0).length := by rw [s.len]; exact cnt_lt hjr hj
    refine R.next (cnt r j) hlt h2 _ ?_
    obtain ⟨j', hr', e1, e2⟩ := s.from hlt
    obtain rfl := cnt_inj hr' hjr e1
    rw [e2, (s.near hjr hj).2.2]
    exact List.mem_map_of_mem hm
 intro m hm
 obtain ⟨k, hr, rfl, _⟩ := s.from hm
 exact go (k + 1) k (by omega) hr
def Mch.to (m : Mch) (p : Int) : Mch := { m with pos := p }
structure Sim (A B : List Ins) (G : Nat → Prop) (w : Nat → Nat) : Prop where
 la : ∀ k, G k → k < A.length
 lb : ∀ k, G k → w k < B.length
 step : ∀ (k : Nat) (g : G k) (m : Mch), ∃ p : Int, stp (m.to ((w k : Int) + 1)) (B[w k]'(lb k g)) = (stp (m.to ((k : Int) + 1)) (A[k]'(la k g))).to p ∧
  ((stp (m.to ((k : Int) + 1)) (A[k]'(la k g))).en = false → ∃ k2 : Nat, (stp (m.to ((k : Int) + 1)) (A[k]'(la k g))).pos = (k2 : Int) ∧ G k2 ∧ p = (w k2 : Int) ∧ k < k2 ∧ w k < w k2)
def obs (q : Mch × Nat) : Int × Nat := (if q.1.en then q.1.act else 2147483648, q.2)
theorem runGo_end {l : List Ins} {m : Mch} {n f : Nat} (h : m.en = true) : h5u l f m n = (m, n) := by
 cases f with
 | zero => rfl
 | succ f => rw [h5u, if_pos (.inl h)]
theorem Sim.run {A B : List Ins} {G : Nat → Prop} {w : Nat → Nat} (s : Sim A B G w) : ∀ (f : Nat) (k : Nat) (m : Mch) (n f' : Nat), m.en = false → m.pos = (k : Int) → G k → A.length ≤ f + k → B.length ≤ f' + w k →
  obs (h5u B f' (m.to (w k)) n) = obs (h5u A f m n) ∧ (h5u A f m n).1.en = true := by
 intro f
 induction f with
 | zero => intro k m n f' _ _ g h; have := s.la k g; omega
 | succ f ih =>
  intro k m n f' he hp g h1 h2
  have la := s.la k g
  have lb := s.lb k g
  obtain ⟨f2, rfl⟩ : ∃ f2, f' = f2 + 1 := ⟨f' - 1, by omega⟩
  have hA : h5u A (f + 1) m n = h5u A f (stp (m.to ((k : Int) + 1)) A[k]) (n + 1) := by
   rw [h5u, if_neg (by rw [he, hp]; simp; omega), hp, Int.toNat_natCast, List.getD_eq_getElem?_getD, List.getElem?_eq_getElem la]
   rfl
  have hB : h5u B (f2 + 1) (m.to (w k)) n = h5u B f2 (stp (m.to ((w k : Int) + 1)) B[w k]) (n + 1) := by
   have e1 : (m.to (w k)).en = false := he
   have e2 : (m.to (w k)).pos = (w k : Int) := rfl
   rw [h5u, if_neg (by rw [e1, e2]; simp; omega), e2, Int.toNat_natCast, List.getD_eq_getElem?_getD, List.getElem?_eq_getElem lb]
   rfl
  obtain ⟨p, e, hnx⟩ := s.step k g m
  rw [hA, hB, e]
  generalize stp (m.to ((k : Int) + 1)) A[k] = m2 at *
  cases he2 : m2.en with
  | true =>
   have e3 : (m2.to p).en = true := he2
   rw [runGo_end e3, runGo_end he2]
   exact ⟨rfl, he2⟩
  | false =>
   obtain ⟨k2, hp2, g2, rfl, h3, h4⟩ := hnx he2
   exact ih k2 m2 (n + 1) f2 he2 hp2 g2 (by omega) (by omega)
theorem Sim.runF {A B : List Ins} {G : Nat → Prop} {w : Nat → Nat} (s : Sim A B G w) (g0 : G 0) (w0 : w 0 = 0) (r : Rec) : runF B r = runF A r ∧ (h5u A A.length (m0 r) 0).1.en = true := by
 have h := s.run A.length 0 (m0 r) 0 B.length rfl rfl g0 (by omega) (by omega)
 rw [w0] at h
 exact h
structure StF (r : Rec) (i : Ins) (m : Mch) : Prop where
 ld : i.code = 32 → m.a = word r i.k
 ldx : i.code = 1 → m.x = i.k
structure LaF (i : Ins) (m : Mch) : Prop where
 k : i.code = 6 → m.act = i.k
 a : i.code = 22 → m.act = m.a
 d : i.code % 8 ≠ 6 → h6e i.code 8 = 52 ∧ m.act = 0
def Chn (l : List Ins) (r : Rec) : Nat → List (Nat × Mch) → Prop
 | _, [] => False
 | k, q :: t => q.1 = k ∧ k < l.length ∧ StF r (l.getD k I0) q.2 ∧ ((t = [] ∧ q.2.en = true ∧ LaF (l.getD k I0) q.2) ∨ ∃ k2, k2 ∈ ways (l.getD k I0) k ∧ Chn l r k2 t)
theorem Chn.at_ {l : List Ins} {r : Rec} {k : Nat} {xs : List (Nat × Mch)} (h : Chn l r k xs) (j : Nat) (hj : j < xs.length) :
  (xs[j]).1 < l.length ∧ StF r (l.getD (xs[j]).1 I0) (xs[j]).2 ∧ (∀ h2 : j + 1 < xs.length, (xs[j + 1]).1 ∈ ways (l.getD (xs[j]).1 I0) (xs[j]).1) ∧ (j + 1 = xs.length → (xs[j]).2.en = true ∧ LaF (l.getD (xs[j]).1 I0) (xs[j]).2) := by
 induction xs generalizing k j with
 | nil => simp at hj
 | cons q t ih =>
  obtain ⟨h1, h2, h3, h4⟩ := h
  cases j with
  | zero =>
   simp only [List.getElem_cons_zero]
   rw [h1]
   refine ⟨h2, h3, ?_, ?_⟩
   ·intro hh
    rcases h4 with ⟨rfl, _, _⟩ | ⟨k2, h5, h6⟩
    ·simp at hh
    ·cases t with
     | nil => simp at hh
     | cons q2 t2 => simp only [Nat.zero_add, List.getElem_cons_succ, List.getElem_cons_zero]; rw [h6.1]; exact h5
   ·intro hh
    rcases h4 with ⟨_, h5, h6⟩ | ⟨k2, h5, h6⟩
    ·exact ⟨h5, h6⟩
    ·cases t with
     | nil => exact absurd h6 id
     | cons q2 t2 => simp at hh
  | succ j =>
   rcases h4 with ⟨rfl, _, _⟩ | ⟨k2, h5, h6⟩
   ·simp at hj
   ·have := ih h6 j (by simpa using hj)
    simp only [List.getElem_cons_succ, List.length_cons, Nat.add_lt_add_iff_right, Nat.add_right_cancel_iff]
    exact this
theorem Chn.zero {l : List Ins} {r : Rec} {k : Nat} {xs : List (Nat × Mch)} (h : Chn l r k xs) : ∃ h0 : 0 < xs.length, (xs[0]).1 = k := by
 cases xs with
 | nil => exact absurd h id
 | cons q t => exact ⟨by simp, h.1⟩
def oth (m : Mch) (i : Ins) : Int := if i.code / 8 % 2 = 1 then m.x else i.k
theorem iand8v (c : Int) (h : 0 ≤ c) : iand c 8 = c / 8 % 2 * 8 := by
 obtain ⟨x, rfl⟩ : ∃ x : Nat, c = x := ⟨c.toNat, by omega⟩
 have h0 : ∀ y : Nat, y < 16 → y &&& 8 = y / 8 * 8 := by decide
 have h1 : x &&& 15 = x % 16 := Nat.and_two_pow_sub_one_eq_mod x 4
 have h15 : (15 &&& 8 : Nat) = 8 := by decide
 have h2 : x &&& 8 = (x &&& 15) &&& 8 := by rw [Nat.and_assoc, h15]
 have h3 := h0 (x % 16) (Nat.mod_lt _ (by omega))
 have e : iand (x : Int) 8 = ((x &&& 8 : Nat) : Int) := by unfold iand; rfl
 rw [e, h2, h1, h3]
 omega
theorem iand8 (c : Int) (h : 0 ≤ c) : iand c 8 ≠ 0 ↔ c / 8 % 2 = 1 := by
 rw [iand8v c h]; omega
theorem oth_eq {m : Mch} {i : Ins} (hi : i.ok) : h5w m i = oth m i := by
 unfold h5w oth
 have h := iand8 i.code hi.c.1
 by_cases h1 : i.code / 8 % 2 = 1
 ·rw [if_pos (h.2 h1), if_pos h1]
 ·rw [if_neg (fun q => h1 (h.1 q)), if_neg h1]
theorem n15 {c : Int} (h : 0 ≤ c) : h6e c 15 = c - c % 16 := iandn_mask c 4 h
theorem n7 {c : Int} (h : 0 ≤ c) : h6e c 7 = c - c % 8 := iandn_mask c 3 h
theorem opOf_eq {c : Int} (h : 0 ≤ c) : opOf c = c - c % 16 := by
 unfold opOf
 rw [iand8v c h]
 rcases (show c / 8 % 2 = 0 ∨ c / 8 % 2 = 1 by omega) with h1 | h1
 ·rw [h1]
  have e : ior (0 * 8) 7 = 7 := by decide
  rw [e, n7 h]; omega
 ·rw [h1]
  have e : ior (1 * 8) 7 = 15 := by decide
  rw [e, n15 h]
def rck (o a b : Int) : Int :=
 if o = 0 then (a + b) % 4294967296 else if o = 1 then (a - b) % 4294967296 else if o = 2 then (a * b) % 4294967296 else if o = 3 then a / b
 else if o = 4 then ior a b else if o = 5 then iand a b else if o = 6 then (a * 2 ^ (b % 32).toNat) % 4294967296 else if o = 7 then a / 2 ^ (b % 32).toNat
 else if o = 8 then (0 - a) % 4294967296 else ixor a b
theorem opOf_red {c : Int} (h : 0 ≤ c) (hk : h6i c = true) (h4 : c % 8 = 4) : c / 16 = 0 ∨ c / 16 = 1 ∨ c / 16 = 2 ∨ c / 16 = 3 ∨ c / 16 = 4 ∨ c / 16 = 5 ∨ c / 16 = 6 ∨ c / 16 = 7 ∨ c / 16 = 8 ∨ c / 16 = 10 := by
 simp only [h6i, opOf_eq h, Bool.or_eq_true, Bool.and_eq_true, decide_eq_true_eq] at hk
 omega
theorem red_eq {m : Mch} {i : Ins} (hi : i.ok) (hk : h6i i.code = true) (h4 : i.code % 8 = 4) : red m i = if i.code / 16 = 3 ∧ oth m i = 0 then { m with en := true } else { m with a := rck (i.code / 16) m.a (oth m i) } := by
 have hc := hi.c.1
 have ho := opOf_red hc hk h4
 unfold red
 dsimp only
 rw [n15 hc, oth_eq hi]
 generalize oth m i = b
 generalize hcc : i.code = c at *
 have e : c - c % 16 = c / 16 * 16 := by omega
 rw [e]
 generalize c / 16 = o at *
 rcases ho with rfl | rfl | rfl | rfl | rfl | rfl | rfl | rfl | rfl | rfl
 all_goals simp [rck]
def rjmp (m : Mch) (i : Ins) : Int :=
 if i.code / 16 = 0 then i.k
 else if (if i.code / 16 = 1 then decide (m.a = oth m i) else if i.code / 16 = 2 then decide (m.a > oth m i) else if i.code / 16 = 3 then decide (m.a ≥ oth m i) else decide (iand m.a (oth m i) ≠ 0)) = true then i.jt else i.jf
theorem opOf_jmp {c : Int} (h : 0 ≤ c) (hk : h6i c = true) (h4 : c % 8 = 5) : c / 16 = 0 ∨ c / 16 = 1 ∨ c / 16 = 2 ∨ c / 16 = 3 ∨ c / 16 = 4 := by
 simp only [h6i, opOf_eq h, Bool.or_eq_true, Bool.and_eq_true, decide_eq_true_eq] at hk
 omega
theorem jmp_eq {m : Mch} {i : Ins} (hi : i.ok) (hk : h6i i.code = true) (h4 : i.code % 8 = 5) : jmp m i = { m with pos := m.pos + rjmp m i } := by
 have hc := hi.c.1
 have ho := opOf_jmp hc hk h4
 unfold jmp holds rjmp
 dsimp only
 rw [n15 hc, oth_eq hi]
 generalize oth m i = b
 generalize hcc : i.code = c at *
 have e : c - c % 16 = c / 16 * 16 := by omega
 rw [e]
 generalize c / 16 = o at *
 rcases ho with rfl | rfl | rfl | rfl | rfl
 ·simp
 all_goals
  simp
  split <;> rfl
def ofF (r : Rec) : List Int := [r.num, r.arch, r.at_ % 4294967296, r.at_ / 4294967296] ++ r.args.flatMap fun a => [a % 4294967296, a / 4294967296]
def rld (m : Mch) (i : Ins) : Int :=
 if i.code / 32 = 1 then (ofF m.rc).getD (i.k / 4 % 16).toNat 0 else if i.code / 32 = 3 then m.sc.getD (i.k % 16).toNat 0 else if i.code / 32 = 4 then 64 else i.k
theorem codes_ld {c : Int} (h : 0 ≤ c) (hk : h6i c = true) (h4 : c % 8 = 0 ∨ c % 8 = 1) : c = 32 ∨ c = 0 ∨ c = 96 ∨ c = 128 ∨ c = 1 ∨ c = 97 ∨ c = 129 := by
 simp only [h6i, opOf_eq h, Bool.or_eq_true, Bool.and_eq_true, decide_eq_true_eq] at hk
 omega
theorem ld_eq {m : Mch} {i : Ins} (hi : i.ok) (hk : h6i i.code = true) (h4 : i.code % 8 = 0 ∨ i.code % 8 = 1) (hw : i.code = 32 → word m.rc i.k = (ofF m.rc).getD (i.k / 4 % 16).toNat 0) : ld m i = rld m i := by
 have hc := hi.c.1
 have ho := codes_ld hc hk h4
 unfold ld rld
 rw [n7 hc]
 generalize i.code = c at *
 rcases ho with rfl | rfl | rfl | rfl | rfl | rfl | rfl
 ·simpa using hw rfl
 all_goals simp
theorem ior_add {a b : Int} (m : Nat) (ha : 0 ≤ a) (h1 : a.toNat < 2 ^ m) (hb : 0 ≤ b) : ior a (b * ((2 ^ m : Nat) : Int)) = a + b * ((2 ^ m : Nat) : Int) := by
 obtain ⟨x, rfl⟩ : ∃ x : Nat, a = x := ⟨a.toNat, by omega⟩
 obtain ⟨y, rfl⟩ : ∃ y : Nat, b = y := ⟨b.toNat, by omega⟩
 have h := Nat.two_pow_add_eq_or_of_lt (b:=x) (i:=m) (by simpa using h1) y
 have e : ((y : Int) * ((2 ^ m : Nat) : Int)) = ((2 ^ m * y : Nat) : Int) := by rw [Nat.mul_comm]; exact (Int.natCast_mul _ _).symm
 rw [e]
 unfold ior
 simp only [Int.toNat_natCast]
 rw [Nat.or_comm, ← h]
 omega
theorem take4 {cs : List Int} {b0 b1 b2 b3 : Int} (h0 : cs.getD 0 0 = b0) (h1 : cs.getD 1 0 = b1) (h2 : cs.getD 2 0 = b2) (h3 : cs.getD 3 0 = b3)
  (r0 : 0 ≤ b0 ∧ b0 < 256) (r1 : 0 ≤ b1 ∧ b1 < 256) (r2 : 0 ≤ b2 ∧ b2 < 256) (r3 : 0 ≤ b3 ∧ b3 < 256) :
  takeK cs 4 = b0 + b1 * 256 + b2 * 65536 + b3 * 16777216 := by
 have w0 : IntKind.u64.wrap (b0 * 2 ^ (min (8 * ((0 : Nat) : Int)).toNat 64)) = b0 * ((2 ^ 0 : Nat) : Int) := by
  have : (2 : Int) ^ (min (8 * ((0 : Nat) : Int)).toNat 64) = 1 := by decide
  rw [this]; refine (IntWalk.u64_in _ ?_).trans (by simp); omega
 have w1 : IntKind.u64.wrap (b1 * 2 ^ (min (8 * ((1 : Nat) : Int)).toNat 64)) = b1 * ((2 ^ 8 : Nat) : Int) := by
  have : (2 : Int) ^ (min (8 * ((1 : Nat) : Int)).toNat 64) = 256 := by decide
  rw [this]; refine (IntWalk.u64_in _ ?_).trans (by simp); omega
 have w2 : IntKind.u64.wrap (b2 * 2 ^ (min (8 * ((2 : Nat) : Int)).toNat 64)) = b2 * ((2 ^ 16 : Nat) : Int) := by
  have : (2 : Int) ^ (min (8 * ((2 : Nat) : Int)).toNat 64) = 65536 := by decide
  rw [this]; refine (IntWalk.u64_in _ ?_).trans (by simp); omega
 have w3 : IntKind.u64.wrap (b3 * 2 ^ (min (8 * ((3 : Nat) : Int)).toNat 64)) = b3 * ((2 ^ 24 : Nat) : Int) := by
  have : (2 : Int) ^ (min (8 * ((3 : Nat) : Int)).toNat 64) = 16777216 := by decide
  rw [this]; refine (IntWalk.u64_in _ ?_).trans (by simp); omega
 have e : takeK cs 4 = ior (ior (ior (ior 0 (IntKind.u64.wrap (b0 * 2 ^ (min (8 * ((0 : Nat) : Int)).toNat 64)))) (IntKind.u64.wrap (b1 * 2 ^ (min (8 * ((1 : Nat) : Int)).toNat 64)))) (IntKind.u64.wrap (b2 * 2 ^ (min (8 * ((2 : Nat) : Int)).toNat 64)))) (IntKind.u64.wrap (b3 * 2 ^ (min (8 * ((3 : Nat) : Int)).toNat 64))) := by
  subst h0 h1 h2 h3; rfl
 rw [e, w0, w1, w2, w3]
 rw [ior_add 0 (by omega) (by simp) r0.1]
 rw [ior_add 8 (by simp; omega) (by simp; omega) r1.1]
 rw [ior_add 16 (by simp; omega) (by simp; omega) r2.1]
 rw [ior_add 24 (by simp; omega) (by simp; omega) r3.1]
 simp
theorem byteOf_eq {n : Int} (hn : 0 ≤ n) : h5z n 0 = n % 256 ∧ h5z n 1 = n / 256 % 256 ∧ h5z n 2 = n / 65536 % 256 ∧ h5z n 3 = n / 16777216 % 256 ∧ h5z n 4 = n / 4294967296 % 256 ∧ h5z n 5 = n / 1099511627776 % 256 ∧ h5z n 6 = n / 281474976710656 % 256 ∧ h5z n 7 = n / 72057594037927936 % 256 := by
 have h : ∀ (k : Nat) (d : Int), (2 : Int) ^ (min (8 * (k : Int)).toNat IntKind.u64.bits) = d → 0 ≤ d → h5z n k = n / d % 256 := by
  intro k d h1 h2
  unfold h5z
  rw [h1, Int.fdiv_eq_ediv_of_nonneg _ h2]
  rfl
 exact ⟨by have := h 0 1 (by decide) (by decide); simpa using this, h 1 _ (by decide) (by decide), h 2 _ (by decide) (by decide), h 3 _ (by decide) (by decide), h 4 _ (by decide) (by decide), h 5 _ (by decide) (by decide), h 6 _ (by decide) (by decide), h 7 _ (by decide) (by decide)⟩
theorem lo4 {cs : List Int} {n : Int} (hn : 0 ≤ n) (h : cs.getD 0 0 = h5z n 0 ∧ cs.getD 1 0 = h5z n 1 ∧ cs.getD 2 0 = h5z n 2 ∧ cs.getD 3 0 = h5z n 3) : takeK cs 4 % 4294967296 = n % 4294967296 := by
 obtain ⟨e0, e1, e2, e3, _⟩ := byteOf_eq hn
 rw [take4 h.1 h.2.1 h.2.2.1 h.2.2.2 (h5y _ _) (h5y _ _) (h5y _ _) (h5y _ _), e0, e1, e2, e3]
 omega
theorem hi4 {cs : List Int} {n : Int} (hn : 0 ≤ n ∧ n < 18446744073709551616) (h : cs.getD 0 0 = h5z n 4 ∧ cs.getD 1 0 = h5z n 5 ∧ cs.getD 2 0 = h5z n 6 ∧ cs.getD 3 0 = h5z n 7) : takeK cs 4 % 4294967296 = n / 4294967296 := by
 obtain ⟨_, _, _, _, e0, e1, e2, e3⟩ := byteOf_eq hn.1
 rw [take4 h.1 h.2.1 h.2.2.1 h.2.2.2 (h5y _ _) (h5y _ _) (h5y _ _) (h5y _ _), e0, e1, e2, e3]
 omega
set_option maxHeartbeats 1000000 in
theorem word_eq {r : Rec} (hr : r.ok) {k : Int} (hk : 0 ≤ k) (h4 : k % 4 = 0) (h60 : k ≤ 60) : word r k = (ofF r).getD (k / 4 % 16).toNat 0 := by
 unfold word
 rw [if_pos ⟨h4, h60⟩]
 have h1 := hr.num
 have h2 := hr.arch
 have h3 := hr.at_
 have hargs := hr.args
 obtain ⟨num, arch, at_, args⟩ := r
 obtain ⟨b0, b1, b2, b3, b4, b5, rfl⟩ : ∃ b0 b1 b2 b3 b4 b5, args = [b0, b1, b2, b3, b4, b5] := by
  match args, hr.len with
  | [_, _, _, _, _, _], _ => exact ⟨_, _, _, _, _, _, rfl⟩
 dsimp only at h1 h2 h3 hargs
 have g0 := hargs b0 (by simp)
 have g1 := hargs b1 (by simp)
 have g2 := hargs b2 (by simp)
 have g3 := hargs b3 (by simp)
 have g4 := hargs b4 (by simp)
 have g5 := hargs b5 (by simp)
 obtain ⟨j, rfl⟩ : ∃ j : Nat, k = (4 * j : Nat) := ⟨(k / 4).toNat, by omega⟩
 have hj : j < 16 := by omega
 have ej : ((4 * j : Nat) : Int) / 4 % 16 = (j : Int) := by omega
 rw [ej, Int.toNat_natCast, Int.toNat_natCast]
 match j, hj with
 | 0, _ => exact (lo4 h1.1 ⟨by kernel_rfl, by kernel_rfl, by kernel_rfl, by kernel_rfl⟩).trans (by show num % 4294967296 = num; omega)
 | 1, _ => exact (lo4 h2.1 ⟨by kernel_rfl, by kernel_rfl, by kernel_rfl, by kernel_rfl⟩).trans (by show arch % 4294967296 = arch; omega)
 | 2, _ => exact lo4 h3.1 ⟨by kernel_rfl, by kernel_rfl, by kernel_rfl, by kernel_rfl⟩
 | 3, _ => exact hi4 h3 ⟨by kernel_rfl, by kernel_rfl, by kernel_rfl, by kernel_rfl⟩
 | 4, _ => exact lo4 g0.1 ⟨by kernel_rfl, by kernel_rfl, by kernel_rfl, by kernel_rfl⟩
 | 5, _ => exact hi4 g0 ⟨by kernel_rfl, by kernel_rfl, by kernel_rfl, by kernel_rfl⟩
 | 6, _ => exact lo4 g1.1 ⟨by kernel_rfl, by kernel_rfl, by kernel_rfl, by kernel_rfl⟩
 | 7, _ => exact hi4 g1 ⟨by kernel_rfl, by kernel_rfl, by kernel_rfl, by kernel_rfl⟩
 | 8, _ => exact lo4 g2.1 ⟨by kernel_rfl, by kernel_rfl, by kernel_rfl, by kernel_rfl⟩
 | 9, _ => exact hi4 g2 ⟨by kernel_rfl, by kernel_rfl, by kernel_rfl, by kernel_rfl⟩
 | 10, _ => exact lo4 g3.1 ⟨by kernel_rfl, by kernel_rfl, by kernel_rfl, by kernel_rfl⟩
 | 11, _ => exact hi4 g3 ⟨by kernel_rfl, by kernel_rfl, by kernel_rfl, by kernel_rfl⟩
 | 12, _ => exact lo4 g4.1 ⟨by kernel_rfl, by kernel_rfl, by kernel_rfl, by kernel_rfl⟩
 | 13, _ => exact hi4 g4 ⟨by kernel_rfl, by kernel_rfl, by kernel_rfl, by kernel_rfl⟩
 | 14, _ => exact lo4 g5.1 ⟨by kernel_rfl, by kernel_rfl, by kernel_rfl, by kernel_rfl⟩
 | 15, _ => exact hi4 g5 ⟨by kernel_rfl, by kernel_rfl, by kernel_rfl, by kernel_rfl⟩
theorem LR_app {a b : List Prt} (h : LR b) : LR (a ++ b) := by
 induction a with
 | nil => exact h
 | cons p a ih => exact .inr ih
theorem wt_app (a b : List Prt) : wt (a ++ b) = wt a + wt b := by
 induction a with
 | nil => simp [wt]
 | cons p a ih => rw [List.cons_append, wt, wt, ih]; omega
theorem wt_mask (n : Nat) : wt (List.replicate n mask) = n := by
 induction n with
 | zero => rfl
 | succ n ih => rw [List.replicate_succ, wt, ih]; simp [wt1, mask]; omega
theorem wt_tl1 (pad n : Nat) : wt (tl1 pad n) ≤ pad + 1 := by
 unfold tl1
 rw [wt_app, wt_mask, wt]
 split <;> simp [wt, wt1]
theorem wt_tails (pad : Nat) : ∀ n, wt (h6h pad n) ≤ n * (pad + 1) := by
 intro n
 induction n with
 | zero => simp [h6h, wt]
 | succ n ih =>
  rw [h6h, wt_app, Nat.add_mul]
  have := wt_tl1 pad (n + 1)
  omega
theorem wt_heads (l : List SPt) (i : Nat) : wt (h5r l i) ≤ 3 * l.length := by
 induction l generalizing i with
 | nil => simp [h5r, wt]
 | cons p l ih =>
  rw [h5r, wt_app]
  have := ih (i + 1)
  have h : wt (hd1 p i) ≤ 3 := by
   unfold hd1
   split
   ·simp [wt, wt1]
   ·split
    ·simp [wt, wt1]
    ·simp [wt, wt1]
  simp only [List.length_cons]
  omega
theorem wt_parts (l : List SPt) (pad : Nat) (hp : pad ≤ 300) : wt (partsF l pad) ≤ 4096 := by
 unfold partsF
 rw [wt_app, wt_app]
 have h1 := wt_heads (l.take 20) 0
 have h2 : (l.take 20).length ≤ 20 := by rw [List.length_take]; omega
 have h3 := wt_tails pad 6
 have h4 : wt [ret9] = 1 := rfl
 omega
theorem good_hd1 {p : SPt} (hp : p.ok) (i : Nat) : Good (hd1 p i) := by
 have hk := hp.k
 intro q hq
 unfold hd1 at hq
 split at hq
 ·rw [List.mem_singleton] at hq; subst hq
  exact .inr (.inl ⟨rfl, .inl ⟨rfl, by dsimp only; omega, by dsimp only; omega, by dsimp only; omega⟩⟩)
 ·split at hq
  ·rw [List.mem_singleton] at hq; subst hq
   exact .inr (.inr (.inl rfl))
  ·rcases List.mem_cons.1 hq with rfl | hq
   ·refine .inr (.inr (.inr ⟨rfl, ?_⟩))
    dsimp only
    unfold ifCode
    repeat' split
    all_goals simp
   ·rw [List.mem_singleton] at hq; subst hq
    exact .inl rfl
theorem good_heads {l : List SPt} (hl : ∀ p ∈ l, p.ok) (i : Nat) : Good (h5r l i) := by
 induction l generalizing i with
 | nil => intro q hq; simp [h5r] at hq
 | cons p l ih =>
  intro q hq
  rw [h5r] at hq
  rcases List.mem_append.1 hq with hq | hq
  ·exact good_hd1 (hl p (List.mem_cons_self ..)) i q hq
  ·exact ih (fun x hx => hl x (List.mem_cons_of_mem _ hx)) _ q hq
theorem good_tl1 (pad n : Nat) : Good (tl1 pad n) := by
 intro q hq
 unfold tl1 at hq
 rcases List.mem_append.1 hq with hq | hq
 ·obtain rfl := List.eq_of_mem_replicate hq
  exact .inr (.inl ⟨rfl, .inr (.inl ⟨rfl, by decide⟩)⟩)
 ·rcases List.mem_cons.1 hq with rfl | hq
  ·exact .inl rfl
  ·split at hq
   ·rw [List.mem_singleton] at hq; subst hq
    exact .inr (.inl ⟨rfl, .inr (.inr ⟨rfl, by dsimp only; omega⟩)⟩)
   ·simp at hq
theorem good_tails (pad : Nat) : ∀ n, Good (h6h pad n) := by
 intro n
 induction n with
 | zero => intro q hq; simp [h6h] at hq
 | succ n ih =>
  intro q hq
  rw [h6h] at hq
  rcases List.mem_append.1 hq with hq | hq
  ·exact ih q hq
  ·exact good_tl1 _ _ q hq
theorem right_parts {l : List SPt} (hl : ∀ p ∈ l, p.ok) (pad : Nat) : Right (partsF l pad) := by
 refine ⟨partsF_ok l pad, fun q hq => ?_, LR_app (LR_app (.inl ⟨rfl, rfl, rfl⟩))⟩
 unfold partsF at hq
 rcases List.mem_append.1 hq with hq | hq
 ·exact good_heads (fun p hp => hl p (List.mem_of_mem_take hp)) 0 q hq
 ·rcases List.mem_append.1 hq with hq | hq
  ·exact good_tails _ _ q hq
  ·rw [List.mem_singleton] at hq; subst hq
   exact .inr (.inl ⟨rfl, .inr (.inr ⟨rfl, by decide⟩)⟩)
def ask4 (a c k : Int) : List Ins := [⟨0, 0, 0, a⟩, ⟨c, 0, 1, k⟩, ⟨6, 0, 0, 1⟩, ⟨6, 0, 0, 2⟩]
theorem ask4_flt {a c k : Int} (ha : 0 ≤ a ∧ a < 4294967296) (hk : 0 ≤ k ∧ k < 4294967296) (hc : c = 21 ∨ c = 37 ∨ c = 53 ∨ c = 69) : Flt (ask4 a c k) := by
 have k0 : h6i 0 = true := by decide +kernel
 have k1 : h6i 21 = true := by decide +kernel
 have k2 : h6i 37 = true := by decide +kernel
 have k3 : h6i 53 = true := by decide +kernel
 have k4 : h6i 69 = true := by decide +kernel
 have k6 : h6i 6 = true := by decide +kernel
 refine flt_of ?_ ?_
 ·intro i hi
  simp only [ask4, List.mem_cons, List.not_mem_nil, or_false] at hi
  rcases hi with rfl | rfl | rfl | rfl
  ·exact ⟨by simp, by simp, by simp, ha⟩
  ·exact ⟨by dsimp only; omega, by simp, by simp, hk⟩
  ·exact ⟨by simp, by simp, by simp, by simp⟩
  ·exact ⟨by simp, by simp, by simp, by simp⟩
 ·have hb : h4k 4 (ask4 a c k) 0 = none := by
   unfold ask4
   rw [h4y, if_neg (by simp [one, k0]), h4y, if_neg (by have hm : max (0 : Int) 1 < 2 := (by omega); rcases hc with rfl | rfl | rfl | rfl <;> simp [one, k1, k2, k3, k4, hm]), h4y, if_neg (by simp [one, k6]), h4y, if_neg (by simp [one, k6])]
   rfl
  have hl : (ask4 a c k).length = 4 := rfl
  unfold check
  rw [hl, if_neg (by omega), if_neg (by omega), hb]
  dsimp only
  rw [if_pos (by simp [ask4, isRet])]
  refine loads_no _ (fun i hi => ?_) _ _
  simp only [ask4, List.mem_cons, List.not_mem_nil, or_false] at hi
  rcases hi with rfl | rfl | rfl | rfl
  ·simp [isLd]
  ·rcases hc with rfl | rfl | rfl | rfl <;> simp [isLd]
  ·simp [isLd]
  ·simp [isLd]
theorem ask4_run {a c k : Int} (hc : c = 21 ∨ c = 37 ∨ c = 53 ∨ c = 69) (r : Rec) : (runF (ask4 a c k) r).1 = if cnd a ⟨c, 0, 0, k⟩ then 1 else 2 := by
 have e0 : h6e 0 7 = 0 := by decide +kernel
 have h : Says (ask4 a c k) 4 (m0 r) (if cnd a ⟨c, 0, 0, k⟩ then 1 else 2) := by
  refine says_step (k:=0) (i:=⟨0, 0, 0, a⟩) rfl rfl rfl ?_
  have e : stp { m0 r with pos := ((0 : Nat) : Int) + 1 } ⟨0, 0, 0, a⟩ = { m0 r with pos := 1, a := a } := by simp [stp, ld, e0]
  rw [e]
  refine says_if (k:=1) (c:=c) (jt:=0) (jf:=1) (kk:=k) hc rfl rfl rfl ?_
  dsimp only
  cases cnd a ⟨c, 0, 0, k⟩
  ·simp only [Bool.false_eq_true, if_false]
   exact says_ret (v:=2) (k:=3) rfl rfl rfl
  ·simp only [if_true]
   exact says_ret (v:=1) (k:=2) rfl rfl rfl
 have h2 := h 0
 unfold runF
 dsimp only
 rw [show (ask4 a c k).length = 4 from rfl, if_pos h2.1, h2.2]
theorem big_cases {r : Rec} {p : Prt} {s : List Prt} {a v : Int} (hk : okP (p :: s)) (hg : GoodI p) (hb : Big r (p :: s) a v) :
  (p.kind = 1 ∧ Big r s a v) ∨ (p.kind = 4 ∧ p.to ∈ h2f s ∧ Big r (after p.to s) a v) ∨
  (p.kind = 3 ∧ (p.ins.code = 21 ∨ p.ins.code = 37 ∨ p.ins.code = 53 ∨ p.ins.code = 69) ∧ ((cnd a p.ins = true ∧ p.to ∈ h2f s ∧ Big r (after p.to s) a v) ∨ (cnd a p.ins = false ∧ p.els ∈ h2f s ∧ Big r (after p.els s) a v))) ∨
  (p.kind = 2 ∧ p.ins.code = 6 ∧ v = p.ins.k) ∨ (p.kind = 2 ∧ p.ins.code = 32 ∧ (p.ins.k % 4 = 0 ∧ 0 ≤ p.ins.k ∧ p.ins.k ≤ 60) ∧ Big r s (word r p.ins.k) v) ∨ (p.kind = 2 ∧ p.ins.code = 84 ∧ Big r s (iand a p.ins.k) v) := by
 have hn := hk.2
 have hcd : p.kind = 3 → p.ins.code = 21 ∨ p.ins.code = 37 ∨ p.ins.code = 53 ∨ p.ins.code = 69 := fun k => by
  rcases hg with h | ⟨h, _⟩ | h | ⟨_, h⟩; omega; omega; omega; exact h
 cases hb with
 | here k hb => exact .inl ⟨k, hb⟩
 | goto k hb => exact .inr (.inl ⟨k, by rcases hn with ⟨k, _⟩ | ⟨k, _⟩ | ⟨_, h⟩ | ⟨k, _⟩; omega; omega; exact h; omega, hb⟩)
 | ift k c hb => exact .inr (.inr (.inl ⟨k, hcd k, .inl ⟨c, by rcases hn with ⟨k, _⟩ | ⟨k, _⟩ | ⟨k, _⟩ | ⟨_, _, _, h, _⟩; omega; omega; omega; exact h, hb⟩⟩))
 | iff k c hb => exact .inr (.inr (.inl ⟨k, hcd k, .inr ⟨c, by rcases hn with ⟨k, _⟩ | ⟨k, _⟩ | ⟨k, _⟩ | ⟨_, _, _, _, h⟩; omega; omega; omega; exact h, hb⟩⟩))
 | ret k c => exact .inr (.inr (.inr (.inl ⟨k, c, rfl⟩)))
 | pl k c hb =>
  rcases hg with h | ⟨_, ⟨h, h1⟩ | ⟨h, _⟩ | ⟨h, _⟩⟩ | h | ⟨h, _⟩
  ·omega
  ·exact .inr (.inr (.inr (.inr (.inl ⟨k, h, h1, by rwa [acc, if_pos h] at hb⟩))))
  ·exact .inr (.inr (.inr (.inr (.inr ⟨k, h, by rwa [acc, if_neg (by omega)] at hb⟩))))
  ·exact (c h).elim
  ·omega
  ·omega
theorem ofF_in {r : Rec} (hr : r.ok) : ∀ x ∈ ofF r, 0 ≤ x ∧ x < 4294967296 := by
 have h1 := hr.num
 have h2 := hr.arch
 have h3 := hr.at_
 intro x hx
 unfold ofF at hx
 rcases List.mem_append.1 hx with hx | hx
 ·simp only [List.mem_cons, List.not_mem_nil, or_false] at hx
  rcases hx with rfl | rfl | rfl | rfl <;> omega
 ·obtain ⟨a, ha, hx⟩ := List.mem_flatMap.1 hx
  have := hr.args a ha
  simp only [List.mem_cons, List.not_mem_nil, or_false] at hx
  rcases hx with rfl | rfl <;> omega
def plc (l : List Prt) (n : Int) : Nat := l.length - (after n l).length
theorem plc_drop (l : List Prt) (n : Int) : l.drop (plc l n) = after n l := by
 obtain ⟨x, h1, _⟩ := after_split n l
 have h2 : plc l n = x.length := by
  unfold plc
  have : l.length = x.length + (after n l).length := by
   have := congrArg List.length h1
   rwa [List.length_append] at this
  omega
 rw [h2]
 conv => lhs; rw [h1]
 exact List.drop_left ..
theorem plc_fwd {l : List Prt} (hk : okP l) {k : Nat} (hlt : k < l.length) {n : Int} (hn : n ∈ h2f (l.drop (k + 1))) : k < plc l n ∧ plc l n ≤ l.length ∧ l.drop (plc l n) = after n (l.drop (k + 1)) := by
 have e : l = l.take (k + 1) ++ l.drop (k + 1) := (List.take_append_drop ..).symm
 have h1 : after n l = after n (l.drop (k + 1)) := by
  have := (okP_app (e ▸ hk)).2 n hn
  conv => lhs; rw [e]
  exact after_app this
 have h2 := after_len n (l.drop (k + 1))
 have h3 : (l.drop (k + 1)).length = l.length - (k + 1) := List.length_drop
 refine ⟨?_, ?_, by rw [plc_drop, h1]⟩
 ·unfold plc; rw [h1]; omega
 ·unfold plc; omega
theorem u32s_at {xs : List Int} {n : Nat} (h : n < xs.length) : (xs.map (Value.int .u32)).toArray.toList[n]? = some (.int .u32 (xs.getD n 0)) := by
 simp [List.getElem?_map, List.getD_eq_getElem?_getD, List.getElem?_eq_getElem h]
theorem ofF_len {r : Rec} (hr : r.ok) : (ofF r).length = 16 := by
 have h := hr.len
 unfold ofF
 rw [List.length_append, List.length_flatMap]
 match r.args, h with
 | [_, _, _, _, _, _], _ => rfl
set_option maxHeartbeats 1000000 in
theorem rload_c {S w0 L} (m : Mch) (hm : m.ok) (i : Ins) (hi : i.ok) : Fn Try.prog 70 #[.agg #[.int .i64 i.code, .int .i64 i.jt, .int .i64 i.jf, .int .u32 i.k], .agg ((ofF m.rc).map (Value.int .u32)).toArray, .agg (m.sc.map (Value.int .u32)).toArray] S w0 L fun v L' => v = .int .u32 (rld m i) ∧ L = L' := by
 have h1 := ofF_len hm.rc
 have h2 := hm.sc
 unfold rld
 obtain ⟨c, jt, jf, k⟩ := i
 obtain ⟨hc, ht, hf, hk⟩ := hi
 dsimp only at *
 have g1 := u32s_at (xs:=ofF m.rc) (n:=(k / 4 % 16).toNat) (by omega)
 have g2 := u32s_at (xs:=m.sc) (n:=(k % 16).toNat) (by omega)
 have s1 : ((ofF m.rc).map (Value.int .u32)).length = 16 := by rw [List.length_map, h1]
 have s2 : (m.sc.map (Value.int .u32)).length = 16 := by rw [List.length_map, h2]
 generalize (ofF m.rc).getD (k / 4 % 16).toNat 0 = v1 at *
 generalize m.sc.getD (k % 16).toNat 0 = v2 at *
 generalize (ofF m.rc).map (Value.int .u32) = l1 at *
 generalize m.sc.map (Value.int .u32) = l2 at *
 have key : (c / 32 = 1) ∨ (c / 32 = 3) ∨ (c / 32 = 4) ∨ (c / 32 ≠ 1 ∧ c / 32 ≠ 3 ∧ c / 32 ≠ 4) := by omega
 refine Fn3 Try.func70 Try.ntmps70 rfl rfl ?_
 rcases key with q | q | q | ⟨q1, q2, q3⟩
 ·rw [if_pos q]
  repeat' (first | refine h1k ?_ | refine h0k ?_ | refine h1n ?_ | refine h1u ?_ | refine h0q ?_ | refine h2v ?_ | refine h0o rfl ?_ | (refine gR 0 ?_ <;> (try refine h0a ?_; (refine h3e (t:=149) rfl rfl ?_; intro nb hnb; (try simp only [Value.cells]))) <;> (try refine h0a ?_; (refine h3e (t:=143) rfl rfl ?_; intro nb hnb; (try simp only [Value.cells]))) <;> (try refine h0a ?_; (refine h3e (t:=136) rfl rfl ?_; intro nb hnb; (try simp only [Value.cells]))) <;> (try refine p_a (h:=h0b ?_))) | (refine gR 1 (p_e (q_f h3a) (h:=q_e q_l ?_)) <;> (try refine q_e (q_b (r:=by apply h4q; omega; omega; exact c_9; (focus (refine IntWalk.i64_in _ ?_; omega)))) ?_) <;> (try refine h0b ?_)) | (refine gR 2 ?_ <;> (try refine q_e (by exact q_b (r:=by refine h0g ?_; first | rfl | (with_reducible assumption) | (decide; done) | omega)) ?_) <;> (try refine p_a (h:=h0b ?_))) | (refine gR 3 (p_e (q_f h4p) (h:=q_e q_l ?_)) <;> (try refine q_e (q_b (r:=by apply h4q; omega; omega; exact c_9; (focus (refine IntWalk.u32_in _ ?_; omega)))) ?_) <;> (try refine p_e (q_b (r:=by apply h1x; omega; omega; exact c_9)) (h:=p_e (by apply h0f; exact rfl; exact rfl; (focus (apply h5p Try.underlying143 sz_22; omega; omega; exact c_2))) (h:=p_e (by apply h0l (t:=22); exact rfl; exact h6c; kernel_rfl; kernel_rfl; (with_reducible assumption)) (h:=p_a (h:=h0b ?_)))))))
  (refine h2k Try.results70 (.tmp rfl .nil) ?_)
  exact ⟨_, ⟨rfl, rfl⟩, by intro w H; refine H.sub ?_; (try simp only [zzC, zzN]); repeat (first | exact List.Sublist.refl _ | refine List.Sublist.cons _ ?_)⟩
 ·rw [if_neg (by omega), if_pos q]
  repeat' (first | refine h1k ?_ | refine h0k ?_ | refine h1n ?_ | refine h1u ?_ | refine h0q ?_ | refine h2v ?_ | refine h0o rfl ?_ | refine h0n rfl ?_ | (refine gR 0 ?_ <;> (try refine h0a ?_; (refine h3e (t:=149) rfl rfl ?_; intro nb hnb; (try simp only [Value.cells]))) <;> (try refine h0a ?_; (refine h3e (t:=143) rfl rfl ?_; intro nb hnb; (try simp only [Value.cells]))) <;> (try refine h0a ?_; (refine h3e (t:=136) rfl rfl ?_; intro nb hnb; (try simp only [Value.cells]))) <;> (try refine p_a (h:=h0b ?_))) | (refine gR 1 (p_e (q_f h3a) (h:=q_e q_l ?_)) <;> (try refine q_e (q_b (r:=by apply h4q; omega; omega; exact c_9; (focus (refine IntWalk.i64_in _ ?_; omega)))) ?_) <;> (try refine h0b ?_)) | (refine gR 2 (p_e (q_b (r:=by exact h0e q_o)) (h:=p_a (h:=h0b ?_)))) | (refine gR 4 ?_ <;> (try refine q_e (by exact q_b (r:=by refine h0g ?_; first | rfl | (with_reducible assumption) | (decide; done) | omega)) ?_) <;> (try refine p_a (h:=h0b ?_))) | (refine gR 5 (p_e (q_f h4p) (h:=p_e q_l (h:=p_e (q_b (r:=by apply h1x; omega; omega; exact c_9)) (h:=p_e (by apply h0f; exact rfl; exact rfl; (focus (apply h5p Try.underlying136 sz_22; omega; omega; exact c_2))) (h:=p_e (by apply h0l (t:=22); exact rfl; exact fd0; kernel_rfl; kernel_rfl; (with_reducible assumption)) (h:=p_a (h:=h0b ?_)))))))))
  (refine h2k Try.results70 (.tmp rfl .nil) ?_)
  exact ⟨_, ⟨rfl, rfl⟩, by intro w H; refine H.sub ?_; (try simp only [zzC, zzN]); repeat (first | exact List.Sublist.refl _ | refine List.Sublist.cons _ ?_)⟩
 ·rw [if_neg (by omega), if_neg (by omega), if_pos q]
  repeat' (first | refine h1k ?_ | refine h0k ?_ | refine h1n ?_ | refine h1u ?_ | refine h0q ?_ | refine h2v ?_ | refine h0o rfl ?_ | refine h0n rfl ?_ | (refine gR 0 ?_ <;> (try refine h0a ?_; (refine h3e (t:=149) rfl rfl ?_; intro nb hnb; (try simp only [Value.cells]))) <;> (try refine h0a ?_; (refine h3e (t:=143) rfl rfl ?_; intro nb hnb; (try simp only [Value.cells]))) <;> (try refine h0a ?_; (refine h3e (t:=136) rfl rfl ?_; intro nb hnb; (try simp only [Value.cells]))) <;> (try refine p_a (h:=h0b ?_))) | (refine gR 1 (p_e (q_f h3a) (h:=q_e q_l ?_)) <;> (try refine q_e (q_b (r:=by apply h4q; omega; omega; exact c_9; (focus (refine IntWalk.i64_in _ ?_; omega)))) ?_) <;> (try refine h0b ?_)) | (refine gR 2 (p_e (q_b (r:=by exact h0e q_o)) (h:=p_a (h:=h0b ?_)))) | (refine gR 4 (p_e (q_b (r:=by exact h0e q_o)) (h:=p_a (h:=h0b ?_)))) | (refine gR 6 ?_ <;> (try refine q_e (by exact q_b (r:=by refine h0g ?_; first | rfl | (with_reducible assumption) | (decide; done) | omega)) ?_) <;> (try refine p_a (h:=h0b ?_))) | (refine gR 7 (p_a (h:=h0b ?_))))
  (refine h2k Try.results70 (.tmp rfl .nil) ?_)
  exact ⟨_, ⟨rfl, rfl⟩, by intro w H; refine H.sub ?_; (try simp only [zzC, zzN]); repeat (first | exact List.Sublist.refl _ | refine List.Sublist.cons _ ?_)⟩
 ·rw [if_neg q1, if_neg q2, if_neg q3]
  repeat' (first | refine h1k ?_ | refine h0k ?_ | refine h0y ?_ | refine h0q ?_ | refine h1j ?_ | refine h2v ?_ | refine h0n rfl ?_ | (refine gR 0 ?_ <;> (try refine h0a ?_; (refine h3e (t:=149) rfl rfl ?_; intro nb hnb; (try simp only [Value.cells]))) <;> (try refine h0a ?_; (refine h3e (t:=143) rfl rfl ?_; intro nb hnb; (try simp only [Value.cells]))) <;> (try refine h0a ?_; (refine h3e (t:=136) rfl rfl ?_; intro nb hnb; (try simp only [Value.cells]))) <;> (try refine p_a (h:=h0b ?_))) | (refine gR 1 (p_e (q_f h3a) (h:=q_e q_l ?_)) <;> (try refine q_e (q_b (r:=by apply h4q; omega; omega; exact c_9; (focus (refine IntWalk.i64_in _ ?_; omega)))) ?_) <;> (try refine h0b ?_)) | (refine gR 2 (p_e (q_b (r:=by exact h0e q_o)) (h:=p_a (h:=h0b ?_)))) | (refine gR 4 (p_e (q_b (r:=by exact h0e q_o)) (h:=p_a (h:=h0b ?_)))) | (refine gR 6 (p_e (q_b (r:=by exact h0e q_o)) (h:=p_a (h:=h0b ?_)))) | (refine gR 8 (p_e (q_f h4p) (h:=p_e q_l (h:=p_a (h:=h0b ?_))))))
  (refine h2k Try.results70 (.tmp rfl .nil) ?_)
  exact ⟨_, ⟨rfl, rfl⟩, by intro w H; refine H.sub ?_; (try simp only [zzC, zzN]); repeat (first | exact List.Sublist.refl _ | refine List.Sublist.cons _ ?_)⟩
set_option maxHeartbeats 1000000 in
theorem rjump_c {S w0 L} (m : Mch) (hm : m.ok) (i : Ins) (hi : i.ok) : Fn Try.prog 72 #[.agg #[.int .i64 i.code, .int .i64 i.jt, .int .i64 i.jf, .int .u32 i.k], .int .u32 m.a, .int .u32 (oth m i)] S w0 L fun v L' => v = .int .i64 (rjmp m i) ∧ L = L' := by
 have ha := hm.a
 have hb : 0 ≤ oth m i ∧ oth m i < 4294967296 := by rw [← oth_eq hi]; exact other_rng hm hi
 obtain ⟨z, hz⟩ : ∃ z, z = rjmp m i := ⟨_, rfl⟩
 rw [← hz]
 unfold rjmp at hz
 generalize oth m i = b at *
 generalize m.a = a at *
 obtain ⟨c, jt, jf, k⟩ := i
 obtain ⟨hc, ht, hf, hk⟩ := hi
 dsimp only at *
 have key : (c / 16 = 0 ∧ z = k) ∨ (c / 16 = 1 ∧ a = b ∧ z = jt) ∨ (c / 16 = 1 ∧ a ≠ b ∧ z = jf) ∨ (c / 16 = 2 ∧ a > b ∧ z = jt) ∨ (c / 16 = 2 ∧ ¬ a > b ∧ z = jf) ∨ (c / 16 = 3 ∧ a ≥ b ∧ z = jt) ∨ (c / 16 = 3 ∧ ¬ a ≥ b ∧ z = jf) ∨
   ((c / 16 ≠ 0 ∧ c / 16 ≠ 1 ∧ c / 16 ≠ 2 ∧ c / 16 ≠ 3) ∧ iand a b ≠ 0 ∧ z = jt) ∨ ((c / 16 ≠ 0 ∧ c / 16 ≠ 1 ∧ c / 16 ≠ 2 ∧ c / 16 ≠ 3) ∧ iand a b = 0 ∧ z = jf) := by
  by_cases q0 : c / 16 = 0
  ·simp [q0] at hz ⊢; exact hz
  by_cases q1 : c / 16 = 1
  ·by_cases h : a = b <;> simp [q1, h] at hz ⊢ <;> exact hz
  by_cases q2 : c / 16 = 2
  ·by_cases h : a > b
   ·rw [if_neg q0, if_neg (show ¬ c / 16 = 1 by omega), if_pos q2, decide_eq_true h, if_pos rfl] at hz
    omega
   ·rw [if_neg q0, if_neg (show ¬ c / 16 = 1 by omega), if_pos q2, decide_eq_false h, if_neg (by simp)] at hz
    omega
  by_cases q3 : c / 16 = 3
  ·by_cases h : a ≥ b
   ·rw [if_neg q0, if_neg q1, if_neg q2, if_pos q3, decide_eq_true h, if_pos rfl] at hz
    omega
   ·rw [if_neg q0, if_neg q1, if_neg q2, if_pos q3, decide_eq_false h, if_neg (by simp)] at hz
    omega
  rw [if_neg q0, if_neg q1, if_neg q2, if_neg q3] at hz
  by_cases h : iand a b = 0
  ·rw [decide_eq_false (by simpa using h), if_neg (by simp)] at hz
   exact .inr (.inr (.inr (.inr (.inr (.inr (.inr (.inr ⟨⟨q0, q1, q2, q3⟩, h, hz⟩)))))))
  ·rw [decide_eq_true h, if_pos rfl] at hz
   exact .inr (.inr (.inr (.inr (.inr (.inr (.inr (.inl ⟨⟨q0, q1, q2, q3⟩, h, hz⟩)))))))
 clear hz
 refine Fn3 Try.func72 Try.ntmps72 rfl rfl ?_
 rcases key with ⟨q, rfl⟩ | ⟨q, h, rfl⟩ | ⟨q, h, rfl⟩ | ⟨q, h, rfl⟩ | ⟨q, h, rfl⟩ | ⟨q, h, rfl⟩ | ⟨q, h, rfl⟩ | ⟨⟨q0, q1, q2, q3⟩, h, rfl⟩ | ⟨⟨q0, q1, q2, q3⟩, h, rfl⟩
 all_goals
  repeat' (first | refine h1k ?_ | refine h0k ?_ | refine h1n ?_ | refine h0y ?_ | refine h1u ?_ | refine h0q ?_ | refine h1j ?_ | refine h2v ?_ | refine h0o rfl ?_ | refine h0n rfl ?_ | (refine gR 0 ?_ <;> (try refine h0a ?_; (refine h3e (t:=149) rfl rfl ?_; intro nb hnb; (try simp only [Value.cells]))) <;> (try refine p_a (h:=h0b ?_))) | (refine gR 1 (p_a (h:=h0b ?_))) | (refine gR 2 (p_e (q_f h3a) (h:=q_e q_l ?_)) <;> (try refine q_e (q_b (r:=by apply h4q; omega; omega; exact c_9; (focus (refine IntWalk.i64_in _ ?_; omega)))) ?_) <;> (try refine h0b ?_)) | (refine gR 4 ?_ <;> (try refine q_e (by exact q_b (r:=by first | (refine h0g ?_; first | rfl | (with_reducible assumption) | (decide; done) | omega) | (exact h0e q_o))) ?_) <;> (try refine p_a (h:=h0b ?_))) | (refine gR 5 (p_e (q_f h4p) (h:=q_e q_l ?_)) <;> (try refine q_e (by apply h2l; exact rfl; (focus (apply h2j Try.underlying22 Try.underlying3; first | (refine IntWalk.i64_in _ ?_; omega) | (refine IntWalk.u8_in _ ?_; omega) | (refine IntWalk.u16_in _ ?_; omega) | (refine IntWalk.u32_in _ ?_; omega) | (refine IntWalk.u64_in _ ?_; omega) | (refine IntWalk.i32_in _ ?_; omega) | exact rfl))) ?_) <;> (try refine p_a (h:=h0b ?_))) | (refine gR 6 ?_ <;> (try refine q_e (by exact q_b (r:=by first | (refine h0g ?_; first | rfl | (with_reducible assumption) | (decide; done) | omega) | (exact h0e q_o))) ?_) <;> (try refine p_a (h:=h0b ?_))) | (refine gR 7 (p_m (h:=q_m ?_)) <;> (try refine q_e (by exact q_b (r:=by first | (refine h0g ?_; first | rfl | (with_reducible assumption) | (decide; done) | omega) | (exact h0e q_o))) ?_) <;> (try refine p_a (h:=h0b ?_))) | (refine gR 8 ?_ <;> (try refine q_e (by exact q_b (r:=by first | (refine h0g ?_; first | rfl | (with_reducible assumption) | (decide; done) | omega) | (exact h0e q_o))) ?_) <;> (try refine p_a (h:=h0b ?_))) | (refine gR 9 (p_m (h:=p_m (h:=p_e (by exact q_b (r:=by first | (exact h5g q_o) | (exact h4j q_o))) (h:=p_a (h:=h0b ?_)))))) | (refine gR 10 ?_ <;> (try refine q_e (by exact q_b (r:=by first | (refine h0g ?_; first | rfl | (with_reducible assumption) | (decide; done) | omega) | (exact h0e q_o))) ?_) <;> (try refine p_a (h:=h0b ?_))) | (refine gR 11 (p_m (h:=p_m (h:=p_e (by exact q_b (r:=by first | (exact h5v q_o) | (exact h4m q_o))) (h:=p_a (h:=h0b ?_)))))) | (refine gR 3 (p_m (h:=q_m ?_)) <;> (try refine q_e (q_b (r:=by refine h5e ?_ ?_; (focus (refine ⟨rfl, ⟨?_, ?_⟩⟩; omega; (focus (simp only [IntKind.bits]; omega)))); (focus (refine ⟨rfl, ⟨?_, ?_⟩⟩; omega; (focus (simp only [IntKind.bits]; omega)))))) ?_) <;> (try refine q_e (by exact q_b (r:=by first | (refine h4c ?_; first | rfl | (with_reducible assumption) | (decide; done) | omega) | (exact h4w q_o))) ?_) <;> (try refine p_a (h:=h0b ?_))) | (refine gR 12 (p_m (h:=h0b ?_))) | (refine gR 13 (p_e (q_f fo_149_1) (h:=p_e q_l (h:=p_a (h:=h0b ?_))))) | (refine gR 14 (p_e (q_f fo_149_2) (h:=p_e q_l (h:=p_a (h:=h0b ?_))))))
  (refine h2k Try.results72 (.tmp rfl .nil) ?_)
  exact ⟨_, ⟨rfl, rfl⟩, by intro w H; refine H.sub ?_; (try simp only [zzC, zzN]); repeat (first | exact List.Sublist.refl _ | refine List.Sublist.cons _ ?_)⟩
end Go.Proofs.Ytpbpgbkpciffgaa
