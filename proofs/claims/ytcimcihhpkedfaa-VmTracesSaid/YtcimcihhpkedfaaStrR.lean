/- CheckStrips, the plain law, its end. -/
import Derived.Test.YtcimcihhpkedfaaStrQ
namespace Go.Proofs.Ytcimcihhpkedfaa
open Go Go.RowKit
/-- a filter and what of it is reached -/
structure Str (l : List Ins) (r : List Bool) : Prop where
  f : Flt l
  r : Rch l r
variable {l : List Ins} {r : List Bool}
theorem Str.lt (s : Str l r) {k : Nat} (h : r.getD k false = true) : k < l.length := by
  by_cases q : k < l.length
  · exact q
  · rw [List.getD_eq_getElem?_getD, List.getElem?_eq_none (by rw [s.r.len]; omega)] at h
    simp at h
theorem near_code (r : List Bool) (i : Ins) (k : Nat) : (near r i k).code = i.code := by unfold near; split <;> (try split) <;> rfl
theorem near_k {r : List Bool} {i : Ins} {k : Nat} (h : i.code ≠ 5) : (near r i k).k = i.k := by unfold near; rw [if_neg h]; split <;> rfl
theorem wrapu32_of {x : Int} (h : 0 ≤ x ∧ x < 4294967296) : IntKind.u32.wrap x = x := by
  have : IntKind.u32.wrap x = x % 4294967296 := by simp only [IntKind.wrap, IntKind.bits, IntKind.signed]; simp
  omega
theorem wrapu8_of {x : Int} (h : 0 ≤ x ∧ x < 256) : IntKind.u8.wrap x = x := by
  have : IntKind.u8.wrap x = x % 256 := by simp only [IntKind.wrap, IntKind.bits, IntKind.signed]; simp
  omega
/-- how far a way goes in what is left -/
theorem Str.far (s : Str l r) {k : Nat} (hr : r.getD k false = true) {d : Int} (hd : 0 ≤ d) (h : k + 1 + d.toNat < l.length) (ht : r.getD (k + 1 + d.toNat) false = true) :
    0 ≤ (cnt r (k + 1 + d.toNat) : Int) - ((cnt r k : Int) + 1) ∧ (cnt r (k + 1 + d.toNat) : Int) - ((cnt r k : Int) + 1) ≤ d ∧ (cnt r (k + 1 + d.toNat) : Int) < cnt r l.length := by
  have h1 := cnt_lt hr (show k < k + 1 + d.toNat by omega)
  have h2 := cnt_lt ht h
  have h3 : cnt r (k + 1 + d.toNat) ≤ cnt r (k + 1) + d.toNat := by
    clear h ht h1 h2
    generalize d.toNat = m
    induction m with
    | zero => exact Nat.le_refl _
    | succ m ih => rw [show k + 1 + (m + 1) = k + 1 + m + 1 by omega, cnt_succ]; split <;> omega
  rw [cnt_yes hr] at h3
  omega
theorem Str.near (s : Str l r) {k : Nat} (hr : r.getD k false = true) (hk : k < l.length) :
    (near r l[k] k).ok ∧ one (near r l[k] k) (cnt r k) (cnt r l.length) = 0 ∧ ways (near r l[k] k) (cnt r k) = (ways l[k] k).map (cnt r) := by
  have hok := s.f.ok _ (List.getElem_mem hk)
  have h1 := s.f.one k hk
  have hwd := s.f.wd k hk
  have hnx := s.r.next k hk hr
  have hn := cnt_mono r (show k + 1 ≤ l.length from hk)
  rw [cnt_yes hr] at hn
  generalize l[k] = i at *
  obtain ⟨c, jt, jf, kk⟩ := i
  obtain ⟨hc, ht, hf, hkk⟩ := hok
  dsimp only at hc ht hf hkk
  by_cases c5 : c = 5
  · subst c5
    have hway : ways ⟨5, jt, jf, kk⟩ k = [k + 1 + kk.toNat] := by simp [ways]
    rw [hway] at hwd hnx ⊢
    have q1 := hwd (k + 1 + kk.toNat) (by simp)
    have q2 := hnx (k + 1 + kk.toNat) (by simp)
    have q3 := s.far hr hkk.1 q1.2 q2
    have e : Go.Proofs.Ytcimcihhpkedfaa.near r ⟨5, jt, jf, kk⟩ k = ⟨5, jt, jf, (cnt r (k + 1 + kk.toNat) : Int) - ((cnt r k : Int) + 1)⟩ := by
      unfold Go.Proofs.Ytcimcihhpkedfaa.near
      rw [if_pos rfl, wrapu32_of (by dsimp only; omega)]
    rw [e]
    refine ⟨⟨by dsimp only; omega, ht, hf, by dsimp only; omega⟩, ?_, ?_⟩
    · have hkn : known 5 = true := by decide
      simp [one, hkn]
      omega
    · simp [ways]
      omega
  · by_cases c8 : c % 8 = 5
    · have hway : ways ⟨c, jt, jf, kk⟩ k = [k + 1 + jt.toNat, k + 1 + jf.toNat] := by simp [ways, c5, c8]
      rw [hway] at hwd hnx ⊢
      have q1 := hwd (k + 1 + jt.toNat) (by simp)
      have q2 := hnx (k + 1 + jt.toNat) (by simp)
      have q3 := s.far hr ht.1 q1.2 q2
      have p1 := hwd (k + 1 + jf.toNat) (by simp)
      have p2 := hnx (k + 1 + jf.toNat) (by simp)
      have p3 := s.far hr hf.1 p1.2 p2
      have e : Go.Proofs.Ytcimcihhpkedfaa.near r ⟨c, jt, jf, kk⟩ k = ⟨c, (cnt r (k + 1 + jt.toNat) : Int) - ((cnt r k : Int) + 1), (cnt r (k + 1 + jf.toNat) : Int) - ((cnt r k : Int) + 1), kk⟩ := by
        unfold Go.Proofs.Ytcimcihhpkedfaa.near
        rw [if_neg c5, if_pos c8, wrapu8_of (by dsimp only; omega), wrapu8_of (by dsimp only; omega)]
      rw [e]
      refine ⟨⟨hc, by dsimp only; omega, by dsimp only; omega, hkk⟩, ?_, ?_⟩
      · unfold one at h1 ⊢
        dsimp only at h1 ⊢
        split at h1
        · omega
        rename_i k1
        rw [if_neg k1, if_neg (fun q => c5 q.1), if_neg (fun q => by omega)]
        split at h1
        · omega
        rw [if_neg (fun q => by omega), if_neg (fun q => by simp at q; omega), if_neg (fun q => by omega), if_neg (fun q => by omega)]
      · simp [ways, c5, c8]
        omega
    · have e : Go.Proofs.Ytcimcihhpkedfaa.near r ⟨c, jt, jf, kk⟩ k = ⟨c, jt, jf, kk⟩ := by
        unfold Go.Proofs.Ytcimcihhpkedfaa.near
        rw [if_neg c5, if_neg c8]
      rw [e]
      refine ⟨⟨hc, ht, hf, hkk⟩, ?_, ?_⟩
      · unfold one at h1 ⊢
        dsimp only at h1 ⊢
        split at h1
        · omega
        rename_i k1
        rw [if_neg k1, if_neg (fun q => c5 q.1), if_neg (fun q => c8 q.1)]
        rw [if_neg (fun q => c5 q.1), if_neg (fun q => c8 q.1)] at h1
        exact h1
      · by_cases c6 : c % 8 = 6
        · simp [ways, c6]
        · simp [ways, c5, c8, c6, cnt_yes hr]
theorem Str.zero (s : Str l r) : r.getD 0 false = true := s.r.zero s.f.pos
theorem Str.get (s : Str l r) {k : Nat} (hr : r.getD k false = true) : (stripGo r l 0)[cnt r k]? = some (Go.Proofs.Ytcimcihhpkedfaa.near r (l[k]'(s.lt hr)) k) := by
  have h := stripGo_get r l 0 k (s.lt hr) (by rwa [Nat.zero_add])
  rwa [Nat.zero_add, cnt_zero, Nat.sub_zero] at h
theorem Str.len (s : Str l r) : (stripGo r l 0).length = cnt r l.length := by
  have h := stripGo_len r l 0
  rwa [cnt_zero, Nat.zero_add, Nat.add_zero] at h
/-- each instruction of what is left is one that is reached -/
theorem Str.from (s : Str l r) {m : Nat} (hm : m < (stripGo r l 0).length) : ∃ k, ∃ hr : r.getD k false = true, cnt r k = m ∧ (stripGo r l 0)[m] = Go.Proofs.Ytcimcihhpkedfaa.near r (l[k]'(s.lt hr)) k := by
  rw [s.len] at hm
  obtain ⟨k, _, h2, h3⟩ := cnt_surj r hm
  refine ⟨k, h2, h3, ?_⟩
  have := s.get h2
  subst h3
  rw [List.getElem?_eq_getElem (by rw [s.len]; exact hm)] at this
  exact Option.some.inj this
/-- a function of places, carried to what is left -/
noncomputable def lif (r : List Bool) (g : Nat → Int) (m : Nat) : Int := by
  classical exact if h : ∃ k, r.getD k false = true ∧ cnt r k = m then g h.choose else 0
theorem lif_at (g : Nat → Int) {k : Nat} (hr : r.getD k false = true) : lif r g (cnt r k) = g k := by
  have h : ∃ j, r.getD j false = true ∧ cnt r j = cnt r k := ⟨k, hr, rfl⟩
  unfold lif
  rw [dif_pos h]
  rw [cnt_inj h.choose_spec.1 hr h.choose_spec.2]
theorem Str.strip (s : Str l r) : Flt (stripGo r l 0) := by
  have hz := s.zero
  have hp : 0 < (stripGo r l 0).length := by rw [s.len]; have := cnt_lt hz s.f.pos; omega
  have hwd : Wd (stripGo r l 0) := by
    intro m hm x hx
    obtain ⟨k, hr, rfl, e⟩ := s.from hm
    rw [e, (s.near hr (s.lt hr)).2.2] at hx
    obtain ⟨y, hy, rfl⟩ := List.mem_map.1 hx
    have h1 := s.f.wd k (s.lt hr) y hy
    have h2 := s.r.next k (s.lt hr) hr y hy
    rw [s.len]
    exact ⟨cnt_lt hr h1.1, cnt_lt h2 h1.2⟩
  have hn : (stripGo r l 0).length ≤ l.length := by rw [s.len]; exact cnt_le r _
  refine ⟨?_, hp, by have := s.f.max; omega, ?_, hwd, ?_, ?_⟩
  · intro i hi
    obtain ⟨m, hm, rfl⟩ := List.getElem_of_mem hi
    obtain ⟨k, hr, rfl, e⟩ := s.from hm
    rw [e]; exact (s.near hr (s.lt hr)).1
  · intro m hm
    obtain ⟨k, hr, rfl, e⟩ := s.from hm
    rw [e, s.len]; exact (s.near hr (s.lt hr)).2.1
  · intro hh
    obtain ⟨k, hr, hk, e⟩ := s.from hh
    rw [e]
    unfold isRet
    rw [near_code]
    by_cases q : (l[k]'(s.lt hr)).code % 8 = 6
    · simpa using q
    · exfalso
      have : ∃ x, x ∈ ways (l[k]'(s.lt hr)) k := by
        unfold ways
        rw [if_neg q]
        split
        · exact ⟨_, List.mem_cons_self ..⟩
        split
        · exact ⟨_, List.mem_cons_self ..⟩
        · exact ⟨_, List.mem_cons_self ..⟩
      obtain ⟨x, hx⟩ := this
      have h1 := s.f.wd k (s.lt hr) x hx
      have h2 := s.r.next k (s.lt hr) hr x hx
      have h3 := cnt_lt h2 h1.2
      have h4 := cnt_lt hr h1.1
      rw [s.len] at hk hp
      omega
  · have c := loads_cert s.f.wd s.f.pos s.f.lds
    generalize (fun k => (stAt l k).getD k 0) = S at c
    refine loads_of (S := lif r S) hwd ⟨?_, ?_, ?_, ?_⟩
    · have := lif_at S hz
      rw [cnt_zero] at this
      rw [this, c.zero]
    · intro m hm
      obtain ⟨k, hr, rfl, e⟩ := s.from hm
      rw [lif_at S hr]
      exact c.rng k (s.lt hr)
    · intro m hm hld
      obtain ⟨k, hr, rfl, e⟩ := s.from hm
      rw [e] at hld ⊢
      rw [lif_at S hr]
      have hld2 : isLd (l[k]'(s.lt hr)) = true := by unfold isLd at hld ⊢; rwa [near_code] at hld
      rw [near_k]
      · exact c.ld k (s.lt hr) hld2
      · intro e5; simp [isLd, e5] at hld2
    · intro m hm x hx
      obtain ⟨k, hr, rfl, e⟩ := s.from hm
      rw [e, (s.near hr (s.lt hr)).2.2] at hx
      obtain ⟨y, hy, rfl⟩ := List.mem_map.1 hx
      have h2 := s.r.next k (s.lt hr) hr y hy
      rw [e, lif_at S hr, lif_at S h2]
      have h3 := c.next k (s.lt hr) y hy
      unfold nowOf at h3 ⊢
      have hst : isSt (Go.Proofs.Ytcimcihhpkedfaa.near r (l[k]'(s.lt hr)) k) = isSt (l[k]'(s.lt hr)) := by unfold isSt; rw [near_code]
      rw [hst]
      split
      · rename_i q
        rw [if_pos q] at h3
        rw [near_k]
        · exact h3
        · intro e5; simp [isSt, e5] at q
      · rename_i q
        rw [if_neg q] at h3
        exact h3
theorem Str.longest (s : Str l r) : longest (stripGo r l 0) = longest l := by
  obtain ⟨f, c⟩ := longest_cert s.f.wd
  rw [longest_of s.f.wd s.f.pos c, longest_of (f := lif r f) s.strip.wd s.strip.pos ⟨?_⟩]
  · have := lif_at f s.zero
    rw [cnt_zero] at this
    exact this
  · intro m hm
    obtain ⟨k, hr, rfl, e⟩ := s.from hm
    rw [e, (s.near hr (s.lt hr)).2.2, lif_at f hr, c.eq k (s.lt hr), List.map_map]
    congr 2
    apply List.map_congr_left
    intro x hx
    exact (lif_at f (s.r.next k (s.lt hr) hr x hx)).symm
theorem Str.all (s : Str l r) : ∀ m, m < (stripGo r l 0).length → (reached (stripGo r l 0)).getD m false = true := by
  have R := reached_rch s.strip.wd
  have go : ∀ (b k : Nat), k < b → r.getD k false = true → (reached (stripGo r l 0)).getD (cnt r k) false = true := by
    intro b
    induction b with
    | zero => intro k h; omega
    | succ b ih =>
      intro k hb hr
      by_cases h0 : k = 0
      · subst h0; rw [cnt_zero]; exact R.zero s.strip.pos
      · obtain ⟨j, hj, hjr, hm⟩ := s.r.prev k h0 hr
        have h1 := s.f.wd j hj k hm
        have h2 := ih j (by omega) hjr
        have hlt : cnt r j < (stripGo r l 0).length := by rw [s.len]; exact cnt_lt hjr hj
        refine R.next (cnt r j) hlt h2 _ ?_
        obtain ⟨j', hr', e1, e2⟩ := s.from hlt
        obtain rfl := cnt_inj hr' hjr e1
        rw [e2, (s.near hjr hj).2.2]
        exact List.mem_map_of_mem hm
  intro m hm
  obtain ⟨k, hr, rfl, _⟩ := s.from hm
  exact go (k + 1) k (by omega) hr
theorem cnt_all {r : List Bool} (h : ∀ k, k < r.length → r.getD k false = true) : cnt r r.length = r.length := by
  have go : ∀ k, k ≤ r.length → cnt r k = k := by
    intro k
    induction k with
    | zero => intro _; exact cnt_zero r
    | succ k ih => intro hk; rw [cnt_yes (h k (by omega)), ih (by omega)]
  exact go _ (Nat.le_refl _)
theorem strip_str {l : List Ins} (hl : ∀ i ∈ l, i.ok) (h : check l = (0, 0)) : Str l (reached l) := ⟨flt_of hl h, reached_rch (flt_of hl h).wd⟩
/-- the law -/
theorem strip_ok {l : List Ins} (hl : ∀ i ∈ l, i.ok) (h : check l = (0, 0)) :
    (strip l).length = (reached l).countP id ∧ (∀ i ∈ strip l, i.ok) ∧ check (strip l) = (0, 0) ∧ longest (strip l) = longest l ∧ (strip (strip l)).length = (strip l).length ∧ (∀ b ∈ reached (strip l), b = true) := by
  have s := strip_str hl h
  have e : strip l = stripGo (reached l) l 0 := by unfold strip; rw [if_pos h]
  have c := s.strip.check
  have hall := s.all
  have hlen := s.r.len
  have R2 := reached_rch s.strip.wd
  rw [e]
  refine ⟨?_, s.strip.ok, c, s.longest, ?_, ?_⟩
  · rw [s.len, ← hlen]; unfold cnt; rw [List.take_length]
  · have s2 : Str (stripGo (reached l) l 0) (reached (stripGo (reached l) l 0)) := ⟨s.strip, R2⟩
    unfold strip
    rw [if_pos c, s2.len]
    rw [← R2.len] at hall ⊢
    exact cnt_all hall
  · intro b hb
    obtain ⟨m, hm, rfl⟩ := List.getElem_of_mem hb
    have := hall m (by rw [← R2.len]; exact hm)
    rwa [List.getD_eq_getElem?_getD, List.getElem?_eq_getElem hm] at this
end Go.Proofs.Ytcimcihhpkedfaa
