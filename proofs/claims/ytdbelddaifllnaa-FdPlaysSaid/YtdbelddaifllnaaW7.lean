import Derived.Test.YtdbelddaifllnaaW8
import Derived.Test.YtdbelddaifllnaaW5
import Derived.Test.YtdbelddaifllnaaKit4
import Derived.Deep.DeepCutAuto
import Derived.Deep.CutBlock
import Derived.Test.YtdbelddaifllnaaKit5
namespace Go.Proofs.Ytdbelddaifllnaa
open Go Go.RowKit

theorem allOpen_nil : AllOpen (List.replicate 16 none) := by
  intro j x cs h
  have := (List.mem_replicate.1 (List.mem_of_getElem? h)).2
  simp at this

/-- an act's cells -/
def IsAct (cs : Array Value) (k n y : Int) (raw : Bool) (o : Array Value) : Prop :=
  IsOpen o.toList ∧ cs = #[.int .u8 k, .int .u8 n] ++ o ++ #[.int .u64 y, .bool raw] ∧ 0 ≤ k ∧ k ≤ 255 ∧ 0 ≤ n ∧ n ≤ 255 ∧ 0 ≤ y ∧ y ≤ 18446744073709551615

theorem act_size {cs : Array Value} {k n y : Int} {raw : Bool} {o : Array Value} (h : IsAct cs k n y raw o) : cs.size = 11 := by
  obtain ⟨⟨_, _, _, _, _, _, _, e, _⟩, rfl, _⟩ := h
  have : o.size = 7 := by rw [← Array.length_toList, e]; rfl
  simp [this]
theorem act_one {cs : Array Value} {k n y : Int} {raw : Bool} {o : Array Value} (h : IsAct cs k n y raw o) : cs.toList.all (·.oneCell') = true := by
  obtain ⟨⟨_, _, _, _, _, _, _, e, _⟩, rfl, _⟩ := h
  simp only [Array.toList_append, e]
  rfl
theorem act_bounds {cs : Array Value} {k n y : Int} {raw : Bool} {o : Array Value} (h : IsAct cs k n y raw o) : 0 ≤ k ∧ k ≤ 255 ∧ 0 ≤ n ∧ n ≤ 255 ∧ 0 ≤ y ∧ y ≤ 18446744073709551615 := h.2.2
theorem act_explicit {cs : Array Value} {k n y : Int} {raw : Bool} {o : Array Value} (h : IsAct cs k n y raw o) : ∃ a b c d e f g, o = #[a, b, c, d, e, f, g] ∧ cs = #[.int .u8 k, .int .u8 n, a, b, c, d, e, f, g, .int .u64 y, .bool raw] := by
  obtain ⟨⟨_, _, _, _, _, _, _, e, _⟩, rfl, _⟩ := h
  have ho : o = _ := Array.ext' (ys := #[_, _, _, _, _, _, _]) e
  exact ⟨_, _, _, _, _, _, _, ho, by rw [ho]; rfl⟩
theorem act_k {cs : Array Value} {k n y : Int} {raw : Bool} {o : Array Value} (h : IsAct cs k n y raw o) : cs[0]? = some (.int .u8 k) := by
  obtain ⟨_, _, _, _, _, _, _, _, rfl⟩ := act_explicit h; rfl
theorem act_n {cs : Array Value} {k n y : Int} {raw : Bool} {o : Array Value} (h : IsAct cs k n y raw o) : cs[1]? = some (.int .u8 n) := by
  obtain ⟨_, _, _, _, _, _, _, _, rfl⟩ := act_explicit h; rfl
theorem act_y {cs : Array Value} {k n y : Int} {raw : Bool} {o : Array Value} (h : IsAct cs k n y raw o) : cs[9]? = some (.int .u64 y) := by
  obtain ⟨_, _, _, _, _, _, _, _, rfl⟩ := act_explicit h; rfl
theorem act_raw {cs : Array Value} {k n y : Int} {raw : Bool} {o : Array Value} (h : IsAct cs k n y raw o) : cs[10]? = some (.bool raw) := by
  obtain ⟨_, _, _, _, _, _, _, _, rfl⟩ := act_explicit h; rfl
theorem act_o {cs : Array Value} {k n y : Int} {raw : Bool} {o : Array Value} (h : IsAct cs k n y raw o) : cs.extract 2 (2 + 7) = o := by
  obtain ⟨_, _, _, _, _, _, _, rfl, rfl⟩ := act_explicit h; rfl
theorem ro_at {x y z : Blk} (E F : List Blk) : (x :: y :: (E ++ (F ++ [z])))[2 + E.length + F.length]? = some z := by
  have e : 2 + E.length + F.length = (E.length + F.length) + 1 + 1 := by omega
  rw [e, List.getElem?_cons_succ, List.getElem?_cons_succ, List.getElem?_append_right (by omega), List.getElem?_append_right (by omega)]
  simp

def Acts (w : World) (a : Option Addr) (len : Nat) (ro : List Blk) : Prop :=
  HP [] w w ro ∧ (0 < len → ∃ b off acs T fr, a = some ⟨b, off, none⟩ ∧ ro = [⟨false, b, .cells acs T fr⟩] ∧
    ∀ i, i < len → ∃ cs k n y raw o, IsAct cs k n y raw o ∧ off + i * 11 + 11 ≤ acs.size ∧ acs.extract (off + i * 11) (off + i * 11 + 11) = cs)

theorem wf_of_open {o : Array Value} (h : IsOpen o.toList) : o.size = 7 ∧ o.toList.all (·.oneCell') = true := by
  obtain ⟨k, m, i, t, r, p, l, e, _⟩ := h
  rw [← Array.length_toList, e]; exact ⟨rfl, rfl⟩
theorem ps_none {M : Tbl} {j : Nat} (h : M.ps[j]? = some none) : M[j]? = some none := by
  simp only [Tbl.ps, List.getElem?_map] at h
  cases hm : M[j]? with
  | none => simp [hm] at h
  | some s => cases s <;> simp_all
theorem ps_some' {M : Tbl} {j x : Nat} (h : M.ps[j]? = some (some x)) : ∃ cs, M[j]? = some (some (x, cs)) := by
  simp only [Tbl.ps, List.getElem?_map] at h
  cases hm : M[j]? with
  | none => simp [hm] at h
  | some s =>
    cases s with
    | none => simp [hm] at h
    | some p => obtain ⟨y, cs⟩ := p; simp [hm] at h; exact ⟨cs, by rw [h]⟩
theorem ps_some {M T : Tbl} (hS : Same M T) {j y : Nat} (h : M.ps[j]? = some (some y)) : ∃ x, T.ps[j]? = some (some x) := by
  obtain ⟨cs, hm⟩ := ps_some' h
  obtain ⟨x, hx⟩ := vals_some hS.vals.symm hm
  exact ⟨x, by simp [Tbl.ps, hx]⟩

def PRel (w0 : World) (bm bt : Nat) (ro : List Blk) (ad : Option Addr) (len cap : Nat) (g : Nat) (a : Act) (w : World) : Prop :=
  ∃ (i : Nat) (M T : Tbl), i ≤ len ∧ g = len - i ∧ Same M T ∧
    St 249 [(3, .pointer (some ⟨bt, 0, none⟩)), (4, .pointer (some ⟨bm, 0, none⟩)), (28, .slice ad len cap), (29, .int .i64 (len : Int)), (30, .int .i64 (i : Int))] [] w0 (Mem bm bt M T ro) a w

set_option maxRecDepth 100000 in
set_option maxHeartbeats 4000000 in
theorem fdPlays (a : Option Addr) (len cap : Nat) (w0 : World) (ro : List Blk) (hlen : len ≤ maxLen) (hA : Acts w0 a len ro) :
    Calls Try.prog 3 #[.slice a len cap] w0 (NonePost w0) := by
  unfold maxLen at hlen
  obtain ⟨H, hA⟩ := hA
  replace hA := hide hA
  go_enter Try.func3, Try.ntmps3
  go_wp2_with (first
    | (go_at_call 8; refine (awake H).mono ?_; rintro e w ⟨rfl, H⟩)
    | ((with_reducible show wpList _ _ _ _ _ _); first
      | (refine hp_alloc_agg 27 _ H rfl rfl Try.zeroValue27 ?_; intro bt w hbt H)
      | (refine hp_alloc_agg 25 _ H rfl rfl Try.zeroValue25 ?_; intro bm w hbm H)
      | (refine stop_alloc rfl rfl ?_) | (refine stop_load rfl rfl ?_) | (refine stop_store rfl rfl ?_)))
  refine wp_loop_ghost (fun g a' w => PRel w0 bm bt ro a len cap g a' w) len ?_ ?_
  · exact ⟨0, List.replicate 16 none, List.replicate 16 none, by omega, by omega, ⟨rfl, rfl, allOpen_nil⟩, ⟨rfl, rfl⟩, ⟨rfl, rfl, rfl, rfl, rfl, trivial⟩, H⟩
  clear H
  rintro g a' wr ⟨i, M, T, hi, rfl, hS, hst⟩
  obtain ⟨t, ha, H⟩ := St.out hst
  have e : (List.range 249).map (look [(3, .pointer (some ⟨bt, 0, none⟩)), (4, .pointer (some ⟨bm, 0, none⟩)), (28, .slice a len cap), (29, .int .i64 (len : Int)), (30, .int .i64 (i : Int))] t) = (t 0 :: t 1 :: t 2 :: (.pointer (some ⟨bt, 0, none⟩) : Value) :: (.pointer (some ⟨bm, 0, none⟩) : Value) :: t 5 :: t 6 :: t 7 :: t 8 :: t 9 :: t 10 :: t 11 :: t 12 :: t 13 :: t 14 :: t 15 :: t 16 :: t 17 :: t 18 :: t 19 :: t 20 :: t 21 :: t 22 :: t 23 :: t 24 :: t 25 :: t 26 :: t 27 :: (.slice a len cap : Value) :: (.int .i64 (len : Int) : Value) :: (.int .i64 (i : Int) : Value) :: t 31 :: t 32 :: t 33 :: t 34 :: t 35 :: t 36 :: t 37 :: t 38 :: t 39 :: t 40 :: t 41 :: t 42 :: t 43 :: t 44 :: t 45 :: t 46 :: t 47 :: t 48 :: t 49 :: t 50 :: t 51 :: t 52 :: t 53 :: t 54 :: t 55 :: t 56 :: t 57 :: t 58 :: t 59 :: t 60 :: t 61 :: t 62 :: t 63 :: t 64 :: t 65 :: t 66 :: t 67 :: t 68 :: t 69 :: t 70 :: t 71 :: t 72 :: t 73 :: t 74 :: t 75 :: t 76 :: t 77 :: t 78 :: t 79 :: t 80 :: t 81 :: t 82 :: t 83 :: t 84 :: t 85 :: t 86 :: t 87 :: t 88 :: t 89 :: t 90 :: t 91 :: t 92 :: t 93 :: t 94 :: t 95 :: t 96 :: t 97 :: t 98 :: t 99 :: t 100 :: t 101 :: t 102 :: t 103 :: t 104 :: t 105 :: t 106 :: t 107 :: t 108 :: t 109 :: t 110 :: t 111 :: t 112 :: t 113 :: t 114 :: t 115 :: t 116 :: t 117 :: t 118 :: t 119 :: t 120 :: t 121 :: t 122 :: t 123 :: t 124 :: t 125 :: t 126 :: t 127 :: t 128 :: t 129 :: t 130 :: t 131 :: t 132 :: t 133 :: t 134 :: t 135 :: t 136 :: t 137 :: t 138 :: t 139 :: t 140 :: t 141 :: t 142 :: t 143 :: t 144 :: t 145 :: t 146 :: t 147 :: t 148 :: t 149 :: t 150 :: t 151 :: t 152 :: t 153 :: t 154 :: t 155 :: t 156 :: t 157 :: t 158 :: t 159 :: t 160 :: t 161 :: t 162 :: t 163 :: t 164 :: t 165 :: t 166 :: t 167 :: t 168 :: t 169 :: t 170 :: t 171 :: t 172 :: t 173 :: t 174 :: t 175 :: t 176 :: t 177 :: t 178 :: t 179 :: t 180 :: t 181 :: t 182 :: t 183 :: t 184 :: t 185 :: t 186 :: t 187 :: t 188 :: t 189 :: t 190 :: t 191 :: t 192 :: t 193 :: t 194 :: t 195 :: t 196 :: t 197 :: t 198 :: t 199 :: t 200 :: t 201 :: t 202 :: t 203 :: t 204 :: t 205 :: t 206 :: t 207 :: t 208 :: t 209 :: t 210 :: t 211 :: t 212 :: t 213 :: t 214 :: t 215 :: t 216 :: t 217 :: t 218 :: t 219 :: t 220 :: t 221 :: t 222 :: t 223 :: t 224 :: t 225 :: t 226 :: t 227 :: t 228 :: t 229 :: t 230 :: t 231 :: t 232 :: t 233 :: t 234 :: t 235 :: t 236 :: t 237 :: t 238 :: t 239 :: t 240 :: t 241 :: t 242 :: t 243 :: t 244 :: t 245 :: t 246 :: t 247 :: t 248 :: []) := rfl
  rw [e] at ha
  subst ha
  clear e
  by_cases hlt : i < len
  case neg =>
    obtain rfl : i = len := by omega
    go_wp2_with fail
    go_ret
    exact ⟨rfl, H.below⟩
  case pos =>
    obtain ⟨b, off, acs, Ta, fra, rfl, rfl, hel⟩ := hA.out (by omega)
    obtain ⟨cs, k, n, y, raw, o, hact, hsz, hext⟩ := hel i hlt
    replace hsz := hide hsz
    replace hext := hide hext
    replace hact := hide hact
    clear hel hA
    obtain ⟨hk0, hk1, hn0, hn1, hy0, hy1⟩ := act_bounds hact.out
    have hn2 : 0 ≤ n % 18 := by omega
    have hn3 : n % 18 ≤ 17 := by omega
    by_cases h80 : i < 80
    case neg =>
      go_wp2_with ((with_reducible show wpList _ _ _ _ _ _); first
          | (refine hp_load_agg H (2 + T.ents.length + M.ents.length) cs rfl rfl rfl (ro_at _ _) (by kernel_rfl) (by kernel_rfl) (by kernel_rfl) hsz.out hext.out ?_)
          | (refine hp_alloc_agg 38 _ H rfl rfl Try.zeroValue38 ?_; intro ba w hba H)
          | (refine hp_store_all H 0 rfl rfl rfl rfl rfl (by kernel_rfl) rfl (act_size hact.out) (act_one hact.out) ?_; intro w H; replace H : HP [] w0 w (⟨true, ba, .cells cs 38 (0, 0)⟩ :: Mem bm bt M T [⟨false, b, .cells acs Ta fra⟩]) := H)
          | (refine hp_load_one H 0 rfl rfl rfl rfl (by kernel_rfl) (by kernel_rfl) (act_n hact.out) ?_)
          | (refine hp_load_one H 0 rfl rfl rfl rfl (by kernel_rfl) (by kernel_rfl) (act_raw hact.out) ?_)
          | (refine hp_load_one H 0 rfl rfl rfl rfl (by kernel_rfl) (by kernel_rfl) (act_y hact.out) ?_)
          | (refine stop_alloc rfl rfl ?_) | (refine stop_load rfl rfl ?_) | (refine stop_store rfl rfl ?_))
      go_ret
      exact ⟨rfl, H.below⟩
    case pos =>
      go_upto_if 42 with ((with_reducible show wpList _ _ _ _ _ _); first
          | (refine hp_load_agg H (2 + T.ents.length + M.ents.length) cs rfl rfl rfl (ro_at _ _) (by kernel_rfl) (by kernel_rfl) (by kernel_rfl) hsz.out hext.out ?_)
          | (refine hp_alloc_agg 38 _ H rfl rfl Try.zeroValue38 ?_; intro ba w hba H)
          | (refine hp_store_all H 0 rfl rfl rfl rfl rfl (by kernel_rfl) rfl (act_size hact.out) (act_one hact.out) ?_; intro w H; replace H : HP [] w0 w (⟨true, ba, .cells cs 38 (0, 0)⟩ :: Mem bm bt M T [⟨false, b, .cells acs Ta fra⟩]) := H)
          | (refine hp_load_one H 0 rfl rfl rfl rfl (by kernel_rfl) (by kernel_rfl) (act_n hact.out) ?_)
          | (refine hp_load_one H 0 rfl rfl rfl rfl (by kernel_rfl) (by kernel_rfl) (act_raw hact.out) ?_)
          | (refine hp_load_one H 0 rfl rfl rfl rfl (by kernel_rfl) (by kernel_rfl) (act_y hact.out) ?_)
          | (refine stop_alloc rfl rfl ?_) | (refine stop_load rfl rfl ?_) | (refine stop_store rfl rfl ?_))
      simp only [Act.put, List.setIfInBounds_toArray, List.set_cons_succ, List.set_cons_zero]
      refine wp_then_cut (fun a w => Hid (∃ nn : Int, 0 ≤ nn ∧ nn ≤ 18446744073709551615 ∧ St 249 [(3, .pointer (some ⟨bt, 0, none⟩)), (4, .pointer (some ⟨bm, 0, none⟩)), (28, .slice (some ⟨b, off, none⟩) len cap), (29, .int .i64 (len : Int)), (30, .int .i64 (i : Int)), (6, .pointer (some ⟨ba, 0, none⟩)), (7, .int .u64 nn)] [] w0 (⟨true, ba, .cells cs 38 (0, 0)⟩ :: Mem bm bt M T [⟨false, b, .cells acs Ta fra⟩]) a w)) ?_ ?_
      · go_wp2_with ((with_reducible show wpList _ _ _ _ _ _); first
          | (refine hp_load_agg H (2 + T.ents.length + M.ents.length) cs rfl rfl rfl (ro_at _ _) (by kernel_rfl) (by kernel_rfl) (by kernel_rfl) hsz.out hext.out ?_)
          | (refine hp_alloc_agg 38 _ H rfl rfl Try.zeroValue38 ?_; intro ba w hba H)
          | (refine hp_store_all H 0 rfl rfl rfl rfl rfl (by kernel_rfl) rfl (act_size hact.out) (act_one hact.out) ?_; intro w H; replace H : HP [] w0 w (⟨true, ba, .cells cs 38 (0, 0)⟩ :: Mem bm bt M T [⟨false, b, .cells acs Ta fra⟩]) := H)
          | (refine hp_load_one H 0 rfl rfl rfl rfl (by kernel_rfl) (by kernel_rfl) (act_n hact.out) ?_)
          | (refine hp_load_one H 0 rfl rfl rfl rfl (by kernel_rfl) (by kernel_rfl) (act_raw hact.out) ?_)
          | (refine hp_load_one H 0 rfl rfl rfl rfl (by kernel_rfl) (by kernel_rfl) (act_y hact.out) ?_)
          | (refine stop_alloc rfl rfl ?_) | (refine stop_load rfl rfl ?_) | (refine stop_store rfl rfl ?_))
        · exact ⟨_, by assumption, by assumption, ⟨⟨rfl, rfl⟩, ⟨rfl, rfl, rfl, rfl, rfl, rfl, rfl, trivial⟩, H⟩⟩
        · exact ⟨_, by assumption, by omega, ⟨⟨rfl, rfl⟩, ⟨rfl, rfl, rfl, rfl, rfl, rfl, rfl, trivial⟩, H⟩⟩
      · clear H
        rintro a wr ⟨nn, hnn0, hnn1, hst⟩
        obtain ⟨t, ha, H⟩ := St.out hst
        have e : (List.range 249).map (look [(3, .pointer (some ⟨bt, 0, none⟩)), (4, .pointer (some ⟨bm, 0, none⟩)), (28, .slice (some ⟨b, off, none⟩) len cap), (29, .int .i64 (len : Int)), (30, .int .i64 (i : Int)), (6, .pointer (some ⟨ba, 0, none⟩)), (7, .int .u64 nn)] t) = (t 0 :: t 1 :: t 2 :: (.pointer (some ⟨bt, 0, none⟩) : Value) :: (.pointer (some ⟨bm, 0, none⟩) : Value) :: t 5 :: (.pointer (some ⟨ba, 0, none⟩) : Value) :: (.int .u64 nn : Value) :: t 8 :: t 9 :: t 10 :: t 11 :: t 12 :: t 13 :: t 14 :: t 15 :: t 16 :: t 17 :: t 18 :: t 19 :: t 20 :: t 21 :: t 22 :: t 23 :: t 24 :: t 25 :: t 26 :: t 27 :: (.slice (some ⟨b, off, none⟩) len cap : Value) :: (.int .i64 (len : Int) : Value) :: (.int .i64 (i : Int) : Value) :: t 31 :: t 32 :: t 33 :: t 34 :: t 35 :: t 36 :: t 37 :: t 38 :: t 39 :: t 40 :: t 41 :: t 42 :: t 43 :: t 44 :: t 45 :: t 46 :: t 47 :: t 48 :: t 49 :: t 50 :: t 51 :: t 52 :: t 53 :: t 54 :: t 55 :: t 56 :: t 57 :: t 58 :: t 59 :: t 60 :: t 61 :: t 62 :: t 63 :: t 64 :: t 65 :: t 66 :: t 67 :: t 68 :: t 69 :: t 70 :: t 71 :: t 72 :: t 73 :: t 74 :: t 75 :: t 76 :: t 77 :: t 78 :: t 79 :: t 80 :: t 81 :: t 82 :: t 83 :: t 84 :: t 85 :: t 86 :: t 87 :: t 88 :: t 89 :: t 90 :: t 91 :: t 92 :: t 93 :: t 94 :: t 95 :: t 96 :: t 97 :: t 98 :: t 99 :: t 100 :: t 101 :: t 102 :: t 103 :: t 104 :: t 105 :: t 106 :: t 107 :: t 108 :: t 109 :: t 110 :: t 111 :: t 112 :: t 113 :: t 114 :: t 115 :: t 116 :: t 117 :: t 118 :: t 119 :: t 120 :: t 121 :: t 122 :: t 123 :: t 124 :: t 125 :: t 126 :: t 127 :: t 128 :: t 129 :: t 130 :: t 131 :: t 132 :: t 133 :: t 134 :: t 135 :: t 136 :: t 137 :: t 138 :: t 139 :: t 140 :: t 141 :: t 142 :: t 143 :: t 144 :: t 145 :: t 146 :: t 147 :: t 148 :: t 149 :: t 150 :: t 151 :: t 152 :: t 153 :: t 154 :: t 155 :: t 156 :: t 157 :: t 158 :: t 159 :: t 160 :: t 161 :: t 162 :: t 163 :: t 164 :: t 165 :: t 166 :: t 167 :: t 168 :: t 169 :: t 170 :: t 171 :: t 172 :: t 173 :: t 174 :: t 175 :: t 176 :: t 177 :: t 178 :: t 179 :: t 180 :: t 181 :: t 182 :: t 183 :: t 184 :: t 185 :: t 186 :: t 187 :: t 188 :: t 189 :: t 190 :: t 191 :: t 192 :: t 193 :: t 194 :: t 195 :: t 196 :: t 197 :: t 198 :: t 199 :: t 200 :: t 201 :: t 202 :: t 203 :: t 204 :: t 205 :: t 206 :: t 207 :: t 208 :: t 209 :: t 210 :: t 211 :: t 212 :: t 213 :: t 214 :: t 215 :: t 216 :: t 217 :: t 218 :: t 219 :: t 220 :: t 221 :: t 222 :: t 223 :: t 224 :: t 225 :: t 226 :: t 227 :: t 228 :: t 229 :: t 230 :: t 231 :: t 232 :: t 233 :: t 234 :: t 235 :: t 236 :: t 237 :: t 238 :: t 239 :: t 240 :: t 241 :: t 242 :: t 243 :: t 244 :: t 245 :: t 246 :: t 247 :: t 248 :: []) := rfl
        rw [e] at ha
        subst ha
        clear e
        obtain ⟨here, hhere⟩ : ∃ here : Option Nat, (16 ≤ nn ∧ here = none) ∨ (nn < 16 ∧ M.ps[nn.toNat]? = some here) := by
          by_cases h : nn < 16
          · exact ⟨_, .inr ⟨h, List.getElem?_eq_getElem (by rw [Tbl.ps, List.length_map, ← len_vals hS.vals, hS.len]; omega)⟩⟩
          · exact ⟨none, .inl ⟨by omega, rfl⟩⟩
        replace hhere := hide hhere
        go_upto_if 46 with (fail)
        refine wp_then_cut (fun a w => St 249 [(3, .pointer (some ⟨bt, 0, none⟩)), (4, .pointer (some ⟨bm, 0, none⟩)), (28, .slice (some ⟨b, off, none⟩) len cap), (29, .int .i64 (len : Int)), (30, .int .i64 (i : Int)), (6, .pointer (some ⟨ba, 0, none⟩)), (7, .int .u64 nn), (8, pv here)] [] w0 (⟨true, ba, .cells cs 38 (0, 0)⟩ :: Mem bm bt M T [⟨false, b, .cells acs Ta fra⟩]) a w) ?_ ?_
        · by_cases hn16 : nn < 16
          · obtain ⟨m, rfl⟩ := Int.eq_ofNat_of_zero_le hnn0
            have hm : m < 16 := by omega
            have hmp : M.ps[m]? = some here := by
              rcases hhere.out with h | h
              · omega
              · exact h.2
            have hc : (ptrs M.ps)[m]? = some (pv here) := by simp [ptrs, hmp]
            go_wp2_with ((with_reducible show wpList _ _ _ _ _ _); first
              | (refine hp_load_one H 1 rfl rfl rfl rfl (by kernel_rfl) (by kernel_rfl) hc ?_)
              | (refine stop_load rfl rfl ?_))
            exact ⟨⟨rfl, rfl⟩, ⟨rfl, rfl, rfl, rfl, rfl, rfl, rfl, rfl, trivial⟩, H⟩
          · have : here = none := by
              rcases hhere.out with h | h
              · exact h.2
              · omega
            subst this
            go_wp2_with fail
            exact ⟨⟨rfl, rfl⟩, ⟨rfl, rfl, rfl, rfl, rfl, rfl, rfl, rfl, trivial⟩, H⟩
        · clear H
          rintro a wr hst
          obtain ⟨t, ha, H⟩ := St.out hst
          have e : (List.range 249).map (look [(3, .pointer (some ⟨bt, 0, none⟩)), (4, .pointer (some ⟨bm, 0, none⟩)), (28, .slice (some ⟨b, off, none⟩) len cap), (29, .int .i64 (len : Int)), (30, .int .i64 (i : Int)), (6, .pointer (some ⟨ba, 0, none⟩)), (7, .int .u64 nn), (8, pv here)] t) = (t 0 :: t 1 :: t 2 :: (.pointer (some ⟨bt, 0, none⟩) : Value) :: (.pointer (some ⟨bm, 0, none⟩) : Value) :: t 5 :: (.pointer (some ⟨ba, 0, none⟩) : Value) :: (.int .u64 nn : Value) :: (pv here : Value) :: t 9 :: t 10 :: t 11 :: t 12 :: t 13 :: t 14 :: t 15 :: t 16 :: t 17 :: t 18 :: t 19 :: t 20 :: t 21 :: t 22 :: t 23 :: t 24 :: t 25 :: t 26 :: t 27 :: (.slice (some ⟨b, off, none⟩) len cap : Value) :: (.int .i64 (len : Int) : Value) :: (.int .i64 (i : Int) : Value) :: t 31 :: t 32 :: t 33 :: t 34 :: t 35 :: t 36 :: t 37 :: t 38 :: t 39 :: t 40 :: t 41 :: t 42 :: t 43 :: t 44 :: t 45 :: t 46 :: t 47 :: t 48 :: t 49 :: t 50 :: t 51 :: t 52 :: t 53 :: t 54 :: t 55 :: t 56 :: t 57 :: t 58 :: t 59 :: t 60 :: t 61 :: t 62 :: t 63 :: t 64 :: t 65 :: t 66 :: t 67 :: t 68 :: t 69 :: t 70 :: t 71 :: t 72 :: t 73 :: t 74 :: t 75 :: t 76 :: t 77 :: t 78 :: t 79 :: t 80 :: t 81 :: t 82 :: t 83 :: t 84 :: t 85 :: t 86 :: t 87 :: t 88 :: t 89 :: t 90 :: t 91 :: t 92 :: t 93 :: t 94 :: t 95 :: t 96 :: t 97 :: t 98 :: t 99 :: t 100 :: t 101 :: t 102 :: t 103 :: t 104 :: t 105 :: t 106 :: t 107 :: t 108 :: t 109 :: t 110 :: t 111 :: t 112 :: t 113 :: t 114 :: t 115 :: t 116 :: t 117 :: t 118 :: t 119 :: t 120 :: t 121 :: t 122 :: t 123 :: t 124 :: t 125 :: t 126 :: t 127 :: t 128 :: t 129 :: t 130 :: t 131 :: t 132 :: t 133 :: t 134 :: t 135 :: t 136 :: t 137 :: t 138 :: t 139 :: t 140 :: t 141 :: t 142 :: t 143 :: t 144 :: t 145 :: t 146 :: t 147 :: t 148 :: t 149 :: t 150 :: t 151 :: t 152 :: t 153 :: t 154 :: t 155 :: t 156 :: t 157 :: t 158 :: t 159 :: t 160 :: t 161 :: t 162 :: t 163 :: t 164 :: t 165 :: t 166 :: t 167 :: t 168 :: t 169 :: t 170 :: t 171 :: t 172 :: t 173 :: t 174 :: t 175 :: t 176 :: t 177 :: t 178 :: t 179 :: t 180 :: t 181 :: t 182 :: t 183 :: t 184 :: t 185 :: t 186 :: t 187 :: t 188 :: t 189 :: t 190 :: t 191 :: t 192 :: t 193 :: t 194 :: t 195 :: t 196 :: t 197 :: t 198 :: t 199 :: t 200 :: t 201 :: t 202 :: t 203 :: t 204 :: t 205 :: t 206 :: t 207 :: t 208 :: t 209 :: t 210 :: t 211 :: t 212 :: t 213 :: t 214 :: t 215 :: t 216 :: t 217 :: t 218 :: t 219 :: t 220 :: t 221 :: t 222 :: t 223 :: t 224 :: t 225 :: t 226 :: t 227 :: t 228 :: t 229 :: t 230 :: t 231 :: t 232 :: t 233 :: t 234 :: t 235 :: t 236 :: t 237 :: t 238 :: t 239 :: t 240 :: t 241 :: t 242 :: t 243 :: t 244 :: t 245 :: t 246 :: t 247 :: t 248 :: []) := rfl
          rw [e] at ha
          subst ha
          clear e
          have hent : ∀ (k x : Nat) (cs' : Array Value), T[k]? = some (some (x, cs')) → WfOpen cs' ∧ ∃ (i : Nat) (q : Bool) (Tt : Nat) (fr : Nat × Nat), (⟨true, ba, .cells cs 38 (0, 0)⟩ :: Mem bm bt M T [⟨false, b, .cells acs Ta fra⟩])[i]? = some ⟨q, x, .cells cs' Tt fr⟩ := by
            intro k x cs' hk
            refine ⟨hS.opens.wf hk, 3 + entIdx T k, true, 35, (0, 0), ?_⟩
            have := ents_get hk
            have e3 : 3 + entIdx T k = entIdx T k + 1 + 1 + 1 := by omega
            rw [e3, Mem, List.getElem?_cons_succ, List.getElem?_cons_succ, List.getElem?_cons_succ, List.getElem?_append_left (by have h := List.getElem?_eq_some_iff.1 this; exact h.1), this]
          have hent := hide hent
          go_upto_block 2 with (first
            | (go_at_call 9; refine (copy_some H hS.len (i0 := 2) rfl hent.out).mono ?_; rintro e w ⟨cb, C, rfl, hcb, hCv, H⟩)
            | ((with_reducible show wpList _ _ _ _ _ _); first
              | (refine hp_load_one H (1 + C.ents.length) rfl rfl rfl (by rw [Nat.add_comm, List.getElem?_cons_succ, List.getElem?_append_right (by omega), Nat.sub_self]; rfl) (by kernel_rfl) (by kernel_rfl) (act_k hact.out) ?_)
              | (refine stop_load rfl rfl ?_)))
          clear hst
          refine wp_then_cut (fun a w => Hid (∃ M' T', Same M' T' ∧ St 249 [(3, .pointer (some ⟨bt, 0, none⟩)), (4, .pointer (some ⟨bm, 0, none⟩)), (28, .slice (some ⟨b, off, none⟩) len cap), (29, .int .i64 (len : Int)), (30, .int .i64 (i : Int))] [] w0 (Mem bm bt M' T' [⟨false, b, .cells acs Ta fra⟩]) a w)) ?_ ?_
          · by_cases hq4 : k % 8 < 4
            · replace H := H.sub (L' := ⟨true, ba, .cells cs 38 (0, 0)⟩ :: Mem bm bt M T [⟨false, b, .cells acs Ta fra⟩]) ((List.sublist_append_right _ _).trans (List.sublist_cons_self _ _))
              have hop : IsOpen o.toList := hact.out.1
              obtain ⟨hosz, hoone⟩ : o.size = 7 ∧ o.toList.all (·.oneCell') = true := wf_of_open hop
              replace hosz := hide hosz
              replace hop := hide hop
              go_wp2_with fail
              refine wp_loop_ghost (fun g a w => Hid (∃ want jj : Int, g ≤ 16 ∧ jj = (g : Int) - 1 ∧ Want M.ps g want ∧ St 249 [(3, .pointer (some ⟨bt, 0, none⟩)), (4, .pointer (some ⟨bm, 0, none⟩)), (28, .slice (some ⟨b, off, none⟩) len cap), (29, .int .i64 (len : Int)), (30, .int .i64 (i : Int)), (6, .pointer (some ⟨ba, 0, none⟩)), (7, .int .u64 nn), (8, pv here), (11, .int .i64 want), (12, .int .i64 jj)] [] w0 (⟨true, ba, .cells cs 38 (0, 0)⟩ :: Mem bm bt M T [⟨false, b, .cells acs Ta fra⟩]) a w)) 16 ?_ ?_
              · exact ⟨-1, 15, by omega, by omega, Want.start _, ⟨⟨rfl, rfl⟩, ⟨rfl, rfl, rfl, rfl, rfl, rfl, rfl, rfl, rfl, rfl, trivial⟩, H⟩⟩
              · clear H
                rintro g a wr ⟨want, jj, hg, hjj, hw, hst⟩
                obtain ⟨t, ha, H⟩ := St.out hst
                have e : (List.range 249).map (look [(3, .pointer (some ⟨bt, 0, none⟩)), (4, .pointer (some ⟨bm, 0, none⟩)), (28, .slice (some ⟨b, off, none⟩) len cap), (29, .int .i64 (len : Int)), (30, .int .i64 (i : Int)), (6, .pointer (some ⟨ba, 0, none⟩)), (7, .int .u64 nn), (8, pv here), (11, .int .i64 want), (12, .int .i64 jj)] t) = (t 0 :: t 1 :: t 2 :: (.pointer (some ⟨bt, 0, none⟩) : Value) :: (.pointer (some ⟨bm, 0, none⟩) : Value) :: t 5 :: (.pointer (some ⟨ba, 0, none⟩) : Value) :: (.int .u64 nn : Value) :: (pv here : Value) :: t 9 :: t 10 :: (.int .i64 want : Value) :: (.int .i64 jj : Value) :: t 13 :: t 14 :: t 15 :: t 16 :: t 17 :: t 18 :: t 19 :: t 20 :: t 21 :: t 22 :: t 23 :: t 24 :: t 25 :: t 26 :: t 27 :: (.slice (some ⟨b, off, none⟩) len cap : Value) :: (.int .i64 (len : Int) : Value) :: (.int .i64 (i : Int) : Value) :: t 31 :: t 32 :: t 33 :: t 34 :: t 35 :: t 36 :: t 37 :: t 38 :: t 39 :: t 40 :: t 41 :: t 42 :: t 43 :: t 44 :: t 45 :: t 46 :: t 47 :: t 48 :: t 49 :: t 50 :: t 51 :: t 52 :: t 53 :: t 54 :: t 55 :: t 56 :: t 57 :: t 58 :: t 59 :: t 60 :: t 61 :: t 62 :: t 63 :: t 64 :: t 65 :: t 66 :: t 67 :: t 68 :: t 69 :: t 70 :: t 71 :: t 72 :: t 73 :: t 74 :: t 75 :: t 76 :: t 77 :: t 78 :: t 79 :: t 80 :: t 81 :: t 82 :: t 83 :: t 84 :: t 85 :: t 86 :: t 87 :: t 88 :: t 89 :: t 90 :: t 91 :: t 92 :: t 93 :: t 94 :: t 95 :: t 96 :: t 97 :: t 98 :: t 99 :: t 100 :: t 101 :: t 102 :: t 103 :: t 104 :: t 105 :: t 106 :: t 107 :: t 108 :: t 109 :: t 110 :: t 111 :: t 112 :: t 113 :: t 114 :: t 115 :: t 116 :: t 117 :: t 118 :: t 119 :: t 120 :: t 121 :: t 122 :: t 123 :: t 124 :: t 125 :: t 126 :: t 127 :: t 128 :: t 129 :: t 130 :: t 131 :: t 132 :: t 133 :: t 134 :: t 135 :: t 136 :: t 137 :: t 138 :: t 139 :: t 140 :: t 141 :: t 142 :: t 143 :: t 144 :: t 145 :: t 146 :: t 147 :: t 148 :: t 149 :: t 150 :: t 151 :: t 152 :: t 153 :: t 154 :: t 155 :: t 156 :: t 157 :: t 158 :: t 159 :: t 160 :: t 161 :: t 162 :: t 163 :: t 164 :: t 165 :: t 166 :: t 167 :: t 168 :: t 169 :: t 170 :: t 171 :: t 172 :: t 173 :: t 174 :: t 175 :: t 176 :: t 177 :: t 178 :: t 179 :: t 180 :: t 181 :: t 182 :: t 183 :: t 184 :: t 185 :: t 186 :: t 187 :: t 188 :: t 189 :: t 190 :: t 191 :: t 192 :: t 193 :: t 194 :: t 195 :: t 196 :: t 197 :: t 198 :: t 199 :: t 200 :: t 201 :: t 202 :: t 203 :: t 204 :: t 205 :: t 206 :: t 207 :: t 208 :: t 209 :: t 210 :: t 211 :: t 212 :: t 213 :: t 214 :: t 215 :: t 216 :: t 217 :: t 218 :: t 219 :: t 220 :: t 221 :: t 222 :: t 223 :: t 224 :: t 225 :: t 226 :: t 227 :: t 228 :: t 229 :: t 230 :: t 231 :: t 232 :: t 233 :: t 234 :: t 235 :: t 236 :: t 237 :: t 238 :: t 239 :: t 240 :: t 241 :: t 242 :: t 243 :: t 244 :: t 245 :: t 246 :: t 247 :: t 248 :: []) := rfl
                rw [e] at ha
                subst ha
                clear e
                clear hst
                have hwb := hw.bd
                obtain ⟨hwb0, hwb1⟩ := hwb
                replace hw := hide hw
                by_cases hg0 : g = 0
                · subst hg0
                  have hjm : jj < 0 := by omega
                  rcases hw.out with ⟨rfl, hall⟩ | ⟨x, rfl, _, hx16, hxn, _⟩
                  · have hallT : ∀ j, j < 16 → ∃ x, T.ps[j]? = some (some x) := by
                      intro j hj
                      obtain ⟨y, hy⟩ := hall j (by omega) hj
                      exact ps_some hS hy
                    have hfull : (((lst T.ps 16).length : Int) == 16) = true := by rw [lst_full hallT]; rfl
                    replace hallT := hide hallT
                    clear hall hw
                    have hTl : T.ps.length = 16 := by rw [Tbl.ps, List.length_map]; exact hS.len
                    replace hTl := hide hTl
                    replace hfull := hide hfull
                    go_wp2_with (first
                      | (go_at_call 10; refine (add_full H o 2 hTl.out rfl hallT.out).mono ?_; rintro e w ⟨nb, rfl, H⟩)
                      | (go_at_call 11; refine (full_is H (i0 := 3) hTl.out rfl hfull.out).mono ?_; rintro e w ⟨rfl, H⟩)
                      | ((with_reducible show wpList _ _ _ _ _ _); first | (refine hp_load_agg H 0 o rfl rfl rfl rfl (by kernel_rfl) (by kernel_rfl) (by kernel_rfl) (by rw [act_size hact.out]; omega) (act_o hact.out) ?_) | (refine stop_alloc rfl rfl ?_) | (refine stop_load rfl rfl ?_) | (refine stop_store rfl rfl ?_)))
                    replace H := H.dropTo 2 rfl
                    exact ⟨M, T, hS, ⟨⟨rfl, rfl⟩, ⟨rfl, rfl, rfl, rfl, rfl, trivial⟩, H⟩⟩
                  · have hM := ps_none hxn
                    have hT := vals_none hS.vals.symm hM
                    have hTn : T.ps[x]? = some none := by simp [Tbl.ps, hT]
                    have hl : ∀ j, j < x → ∃ y, T.ps[j]? = some (some y) := by
                      intro j hj
                      rcases hw.out with ⟨e, _⟩ | ⟨x', e, _, _, _, hz⟩
                      · omega
                      · obtain rfl : x' = x := by omega
                        obtain ⟨y, hy⟩ := hz j (by omega) hj
                        exact ps_some hS hy
                    replace hl := hide hl
                    have hTl : T.ps.length = 16 := by rw [Tbl.ps, List.length_map]; exact hS.len
                    have hMl : (ptrs M.ps).size = 16 := by rw [ptrs_size, Tbl.ps, List.length_map, ← len_vals hS.vals]; exact hS.len
                    replace hTl := hide hTl
                    replace hMl := hide hMl
                    replace hTn := hide hTn
                    clear hw hxn
                    go_wp2_with (first
                      | (go_at_call 10; refine (add_some H o 2 bt 27 x T.ps hTl.out rfl hx16 hTn.out hl.out).mono ?_; rintro e w ⟨nb, rfl, hnb, H⟩)
                      | ((with_reducible show wpList _ _ _ _ _ _); first | (refine hp_load_agg H 1 o rfl rfl rfl rfl (by kernel_rfl) (by kernel_rfl) (by kernel_rfl) (by rw [act_size hact.out]; omega) (act_o hact.out) ?_) | (refine hp_load_agg H 0 o rfl rfl rfl rfl (by kernel_rfl) (by kernel_rfl) (by kernel_rfl) (by rw [act_size hact.out]; omega) (act_o hact.out) ?_) | (refine hp_alloc_agg 35 _ H rfl rfl Try.zeroValue35 ?_; intro ob w hob H) | (refine hp_store_all H 0 rfl rfl rfl rfl rfl (by kernel_rfl) rfl hosz.out hoone ?_; intro w H) | (refine hp_store_one H 3 rfl rfl rfl rfl rfl rfl rfl (by kernel_rfl) (by rw [hMl.out]; exact hx16) ?_; intro w H) | (refine stop_alloc rfl rfl ?_) | (refine stop_load rfl rfl ?_) | (refine stop_store rfl rfl ?_)))
                    refine ⟨M.set x (some (ob, o)), T.set x (some (nb, o)), hS.add hop.out, ⟨rfl, rfl⟩, ⟨rfl, rfl, rfl, rfl, rfl, trivial⟩, mem_add (ab := ⟨true, ba, .cells cs 38 (0, 0)⟩) hT hM ?_⟩
                    rw [← ptrs_set]
                    exact H
                · obtain ⟨j, rfl⟩ : ∃ j, g = j + 1 := ⟨g - 1, by omega⟩
                  obtain rfl : jj = (j : Int) := by omega
                  clear hjj hg0
                  have hj16 : j < 16 := by omega
                  obtain ⟨s, hs⟩ : ∃ s, M.ps[j]? = some s := ⟨_, List.getElem?_eq_getElem (by rw [Tbl.ps, List.length_map, ← len_vals hS.vals, hS.len]; exact hj16)⟩
                  have hc : (ptrs M.ps)[j]? = some (pv s) := by simp [ptrs, hs]
                  replace hs := hide hs
                  cases s with
                  | none =>
                    simp only [pv, Option.map_none] at hc
                    replace hc := hide hc
                    go_wp2_with ((with_reducible show wpList _ _ _ _ _ _); first | (refine hp_load_one H 1 rfl rfl rfl rfl (by kernel_rfl) (by kernel_rfl) hc.out ?_) | (refine stop_alloc rfl rfl ?_) | (refine stop_load rfl rfl ?_) | (refine stop_store rfl rfl ?_))
                    exact ⟨j, by omega, (j : Int), (j : Int) - 1, by omega, rfl, Want.hit hj16 hs.out, ⟨⟨rfl, rfl⟩, ⟨rfl, rfl, rfl, rfl, rfl, rfl, rfl, rfl, rfl, rfl, trivial⟩, H⟩⟩
                  | some s =>
                    simp only [pv, Option.map_some] at hc
                    replace hc := hide hc
                    go_wp2_with ((with_reducible show wpList _ _ _ _ _ _); first | (refine hp_load_one H 1 rfl rfl rfl rfl (by kernel_rfl) (by kernel_rfl) hc.out ?_) | (refine stop_alloc rfl rfl ?_) | (refine stop_load rfl rfl ?_) | (refine stop_store rfl rfl ?_))
                    exact ⟨j, by omega, want, (j : Int) - 1, by omega, rfl, Want.miss hw.out hs.out, ⟨⟨rfl, rfl⟩, ⟨rfl, rfl, rfl, rfl, rfl, rfl, rfl, rfl, rfl, rfl, trivial⟩, H⟩⟩
            · by_cases hq6 : k % 8 < 6
              · replace H := H.sub (L' := ⟨true, ba, .cells cs 38 (0, 0)⟩ :: Mem bm bt M T [⟨false, b, .cells acs Ta fra⟩]) ((List.sublist_append_right _ _).trans (List.sublist_cons_self _ _))
                cases here with
                | none =>
                  have hcond : 16 ≤ nn ∨ (0 ≤ nn ∧ T.ps[nn.toNat]? = some none) := by
                    rcases hhere.out with h | h
                    · exact .inl h.1
                    · refine .inr ⟨hnn0, ?_⟩
                      have hT := vals_none hS.vals.symm (ps_none h.2)
                      simp [Tbl.ps, hT]
                  replace hcond := hide hcond
                  simp only [pv, Option.map_none]
                  go_upto_region 41 with (first
                    | (go_at_call 12; refine (drop_none H (i0 := 2) rfl nn hcond.out).mono ?_; rintro e w ⟨blk, rfl, H⟩; replace H := H.sub (List.sublist_append_right _ _))
                    | ((with_reducible show wpList _ _ _ _ _ _); first | (refine hp_alloc_agg 35 _ H rfl rfl Try.zeroValue35 ?_; intro ob w hob H) | (refine hp_store_all H 0 rfl rfl rfl rfl rfl (by kernel_rfl) rfl rfl rfl ?_; intro w H; replace H : HP [] w0 w (⟨true, ob, .cells zeroOpen 35 (0, 0)⟩ :: ⟨true, ba, .cells cs 38 (0, 0)⟩ :: Mem bm bt M T [⟨false, b, .cells acs Ta fra⟩]) := H) | (refine stop_alloc rfl rfl ?_) | (refine stop_load rfl rfl ?_) | (refine stop_store rfl rfl ?_)))
                  refine wp_region_hp H (by kernel_rfl) (by kernel_rfl) ?_
                  repeat (first
                    | ((with_reducible show WQ _ _ _ _ (Oper.mk _ _ _ _ _ (some (_, _)) :: _) _); refine q_skip ?_ ?_; focus (go_simp; done))
                    | ((with_reducible show WQ _ _ _ _ (Oper.mk _ (.binOp .neq 35 _ _ _) _ _ _ _ :: _) _); refine q_value (.bool false) ?_ (fun w _ => run_neq_zero rfl rfl rfl w) ?_; focus (go_simp; done))
                    | ((with_reducible show WQ _ _ _ _ (Oper.mk _ (.build _ _) _ _ _ _ :: _) _); refine q_value (.agg zeroOpen) ?_ (fun w _ => run_build_zero rfl w) ?_; focus (go_simp; done))
                    | ((with_reducible show WQ _ _ _ _ (Oper.mk _ (.load _ _) _ _ _ _ :: _) _); refine q_load_all (0) ?_ rfl rfl rfl (by kernel_rfl) (by kernel_rfl) (rfl) (by kernel_rfl) ?_; focus (go_simp; done))
                    | (refine q_step (fun K hK => ?_); go_simp; first | (refine hK _ ?_; clear hK K) | (refine ⟨_, fun _ _ => rfl, hK _ ?_⟩; clear hK K)))
                  refine q_nil ?_
                  clear H
                  intro w H
                  go_wp2_with fail
                  replace H := H.dropTo 2 rfl
                  exact ⟨M, T, hS, ⟨⟨rfl, rfl⟩, ⟨rfl, rfl, rfl, rfl, rfl, trivial⟩, H⟩⟩
                | some yb =>
                  obtain ⟨m, rfl⟩ := Int.eq_ofNat_of_zero_le hnn0
                  obtain ⟨hm, hMps⟩ : m < 16 ∧ M.ps[m]? = some (some yb) := by
                    rcases hhere.out with h | h
                    · exact absurd h.2 (by simp)
                    · exact ⟨by omega, h.2⟩
                  obtain ⟨cso, hM⟩ := ps_some' hMps
                  obtain ⟨xb, hT⟩ := vals_some hS.vals.symm hM
                  have hTps : T.ps[m]? = some (some xb) := by simp [Tbl.ps, hT]
                  have hcso := hS.opens m xb cso hT
                  obtain ⟨hsz7, hone7⟩ := wf_of_open hcso
                  replace hcso := hide hcso
                  replace hsz7 := hide hsz7
                  have hTl : T.ps.length = 16 := by rw [Tbl.ps, List.length_map]; exact hS.len
                  have hMl : (ptrs M.ps).size = 16 := by rw [ptrs_size, Tbl.ps, List.length_map, ← len_vals hS.vals]; exact hS.len
                  replace hTl := hide hTl
                  replace hMl := hide hMl
                  replace hTps := hide hTps
                  replace hhere := hide hhere
                  clear hMps
                  simp only [pv, Option.map_some]
                  go_upto_region 41 with (first
                    | (go_at_call 12; refine (drop_some H (i0 := 2) (i1 := 3 + entIdx T m) hTl.out rfl m hm hTps.out (at_T hT [_, _, _] _ _ rfl) (by omega) hsz7.out hone7).mono ?_; rintro e w ⟨blk, rfl, H⟩)
                    | ((with_reducible show wpList _ _ _ _ _ _); first | (refine hp_alloc_agg 35 _ H rfl rfl Try.zeroValue35 ?_; intro ob w hob H) | (refine hp_store_all H 0 rfl rfl rfl rfl rfl (by kernel_rfl) rfl hsz7.out hone7 ?_; intro w H) | (refine stop_alloc rfl rfl ?_) | (refine stop_load rfl rfl ?_) | (refine stop_store rfl rfl ?_)))
                  refine wp_region_hp H (by kernel_rfl) (by kernel_rfl) ?_
                  repeat (first
                    | ((with_reducible show WQ _ _ _ _ (Oper.mk _ _ _ _ _ (some (_, _)) :: _) _); refine q_skip ?_ ?_; focus (go_simp; done))
                    | ((with_reducible show WQ _ _ _ _ (Oper.mk _ (.binOp .neq 35 _ _ _) _ _ _ _ :: _) _); refine q_value (.bool false) ?_ (fun w _ => run_neq_open hcso.out rfl rfl rfl w) ?_; focus (go_simp; done))
                    | ((with_reducible show WQ _ _ _ _ (Oper.mk _ (.load _ _) _ _ _ _ :: _) _); refine q_load_all (0) ?_ rfl rfl rfl (by kernel_rfl) (by kernel_rfl) (hsz7.out) (by kernel_rfl) ?_; focus (go_simp; done))
                    | ((with_reducible show WQ _ _ _ _ (Oper.mk _ (.load _ _) _ _ _ _ :: _) _); refine q_load_all (5 + (T.ents.length + entIdx M m)) ?_ rfl rfl (at_M hM [_, _, _, _, _] _ _ _ rfl) (by kernel_rfl) (by kernel_rfl) (hsz7.out) (by kernel_rfl) ?_; focus (go_simp; done))
                    | (refine q_step (fun K hK => ?_); go_simp; first | (refine hK _ ?_; clear hK K) | (refine ⟨_, fun _ _ => rfl, hK _ ?_⟩; clear hK K)))
                  refine q_nil ?_
                  clear H
                  intro w H
                  go_wp2_with ((with_reducible show wpList _ _ _ _ _ _); first | (refine hp_store_one H 3 rfl rfl rfl rfl rfl rfl rfl (by kernel_rfl) (by rw [hMl.out]; exact hm) ?_; intro w H) | (refine stop_alloc rfl rfl ?_) | (refine stop_load rfl rfl ?_) | (refine stop_store rfl rfl ?_))
                  replace H := H.dropTo 3 rfl
                  refine ⟨M.set m none, T.set m none, hS.drop m, ⟨rfl, rfl⟩, ⟨rfl, rfl, rfl, rfl, rfl, trivial⟩, mem_drop hT hM ?_⟩
                  rw [← ptrs_set]
                  exact H
              · by_cases hq7 : k % 8 = 6
                · replace H := H.sub (L' := ⟨true, ba, .cells cs 38 (0, 0)⟩ :: Mem bm bt M T [⟨false, b, .cells acs Ta fra⟩]) ((List.sublist_append_right _ _).trans (List.sublist_cons_self _ _))
                  replace hq7 := hide hq7
                  have hq7' : ((k % 8) == 6) = true := by simp [hq7.out]
                  cases here with
                  | none =>
                    have hcond : 16 ≤ nn ∨ (0 ≤ nn ∧ T.ps[nn.toNat]? = some none) := by
                      rcases hhere.out with h | h
                      · exact .inl h.1
                      · refine .inr ⟨hnn0, ?_⟩
                        have hT := vals_none hS.vals.symm (ps_none h.2)
                        simp [Tbl.ps, hT]
                    replace hcond := hide hcond
                    simp only [pv, Option.map_none]
                    go_upto_region 47 with (go_at_call 13; refine (get_none H (i0 := 2) rfl nn hcond.out).mono ?_; rintro e w' ⟨rfl, rfl⟩)
                    refine wp_region_hp H (by kernel_rfl) (by kernel_rfl) ?_
                    repeat (first
                      | ((with_reducible show WQ _ _ _ _ (Oper.mk _ _ _ _ _ (some (_, _)) :: _) _); refine q_skip ?_ ?_; focus (go_simp; done))
                      | (refine q_step (fun K hK => ?_); go_simp; first | (refine hK _ ?_; clear hK K) | (refine ⟨_, fun _ _ => rfl, hK _ ?_⟩; clear hK K)))
                    refine q_nil ?_
                    clear H
                    intro w H
                    go_wp2_with fail
                    replace H := H.dropTo 1 rfl
                    exact ⟨M, T, hS, ⟨⟨rfl, rfl⟩, ⟨rfl, rfl, rfl, rfl, rfl, trivial⟩, H⟩⟩
                  | some yb =>
                    obtain ⟨m, rfl⟩ := Int.eq_ofNat_of_zero_le hnn0
                    obtain ⟨hm, hMps⟩ : m < 16 ∧ M.ps[m]? = some (some yb) := by
                      rcases hhere.out with h | h
                      · exact absurd h.2 (by simp)
                      · exact ⟨by omega, h.2⟩
                    obtain ⟨cso, hM⟩ := ps_some' hMps
                    obtain ⟨xb, hT⟩ := vals_some hS.vals.symm hM
                    have hTps : T.ps[m]? = some (some xb) := by simp [Tbl.ps, hT]
                    have hcso := hS.opens m xb cso hT
                    obtain ⟨hsz7, hone7⟩ := wf_of_open hcso
                    replace hcso := hide hcso
                    replace hsz7 := hide hsz7
                    have hTl : T.ps.length = 16 := by rw [Tbl.ps, List.length_map]; exact hS.len
                    have hMl : (ptrs M.ps).size = 16 := by rw [ptrs_size, Tbl.ps, List.length_map, ← len_vals hS.vals]; exact hS.len
                    replace hTl := hide hTl
                    replace hMl := hide hMl
                    replace hTps := hide hTps
                    replace hhere := hide hhere
                    clear hMps
                    simp only [pv, Option.map_some]
                    go_upto_region 47 with (go_at_call 13; refine (get_in H (i0 := 2) rfl m hm hTps.out).mono ?_; rintro e w' ⟨rfl, rfl⟩; simp only [pv, Option.map_some])
                    refine wp_region_hp H (by kernel_rfl) (by kernel_rfl) ?_
                    repeat (first
                      | ((with_reducible show WQ _ _ _ _ (Oper.mk _ _ _ _ _ (some (_, _)) :: _) _); refine q_skip ?_ ?_; focus (go_simp; done))
                      | ((with_reducible show WQ _ _ _ _ (Oper.mk _ (.binOp .neq 35 _ _ _) _ _ _ _ :: _) _); refine q_value (.bool false) ?_ (fun w _ => run_neq_open hcso.out rfl rfl rfl w) ?_; focus (go_simp; done))
                      | ((with_reducible show WQ _ _ _ _ (Oper.mk _ (.load _ _) _ _ _ _ :: _) _); refine q_load_all (3 + entIdx T m) ?_ rfl rfl (at_T hT [_, _, _] _ _ rfl) (by kernel_rfl) (by kernel_rfl) (hsz7.out) (by kernel_rfl) ?_; focus (go_simp; done))
                      | ((with_reducible show WQ _ _ _ _ (Oper.mk _ (.load _ _) _ _ _ _ :: _) _); refine q_load_all (3 + (T.ents.length + entIdx M m)) ?_ rfl rfl (at_M hM [_, _, _] _ _ _ rfl) (by kernel_rfl) (by kernel_rfl) (hsz7.out) (by kernel_rfl) ?_; focus (go_simp; done))
                      | (refine q_step (fun K hK => ?_); go_simp; first | (refine hK _ ?_; clear hK K) | (refine ⟨_, fun _ _ => rfl, hK _ ?_⟩; clear hK K)))
                    refine q_nil ?_
                    clear H
                    intro w H
                    go_wp2_with fail
                    replace H := H.dropTo 1 rfl
                    exact ⟨M, T, hS, ⟨⟨rfl, rfl⟩, ⟨rfl, rfl, rfl, rfl, rfl, trivial⟩, H⟩⟩
                · replace H := H.perm (perm_copy _ _ _ _ _ _)
                  have hq7' : ((k % 8) == 6) = false := by simp [hq7]
                  replace hq7 := hide hq7
                  cases here with
                  | none =>
                    have hcond : 16 ≤ nn ∨ (0 ≤ nn ∧ T.ps[nn.toNat]? = some none) := by
                      rcases hhere.out with h | h
                      · exact .inl h.1
                      · refine .inr ⟨hnn0, ?_⟩
                        have hT := vals_none hS.vals.symm (ps_none h.2)
                        simp [Tbl.ps, hT]
                    replace hcond := hide hcond
                    simp only [pv, Option.map_none]
                    go_wp2_with (go_at_call 13; refine (get_none H (i0 := 2) rfl nn hcond.out).mono ?_; rintro e w' ⟨rfl, rfl⟩)
                    replace H := H.sub (L' := Mem bm bt M T [⟨false, b, .cells acs Ta fra⟩]) (.cons _ (.cons_cons _ (.cons_cons _ (.cons _ (List.sublist_append_right _ _)))))
                    exact ⟨M, T, hS, ⟨⟨rfl, rfl⟩, ⟨rfl, rfl, rfl, rfl, rfl, trivial⟩, H⟩⟩
                  | some yb =>
                    obtain ⟨m, rfl⟩ := Int.eq_ofNat_of_zero_le hnn0
                    obtain ⟨hm, hMps⟩ : m < 16 ∧ M.ps[m]? = some (some yb) := by
                      rcases hhere.out with h | h
                      · exact absurd h.2 (by simp)
                      · exact ⟨by omega, h.2⟩
                    obtain ⟨cso, hM⟩ := ps_some' hMps
                    obtain ⟨xb, hT⟩ := vals_some hS.vals.symm hM
                    have hTps : T.ps[m]? = some (some xb) := by simp [Tbl.ps, hT]
                    have hcso := hS.opens m xb cso hT
                    obtain ⟨hsz7, hone7⟩ := wf_of_open hcso
                    replace hcso := hide hcso
                    replace hsz7 := hide hsz7
                    have hTl : T.ps.length = 16 := by rw [Tbl.ps, List.length_map]; exact hS.len
                    have hMl : (ptrs M.ps).size = 16 := by rw [ptrs_size, Tbl.ps, List.length_map, ← len_vals hS.vals]; exact hS.len
                    replace hTl := hide hTl
                    replace hMl := hide hMl
                    replace hTps := hide hTps
                    replace hhere := hide hhere
                    clear hMps
                    simp only [pv, Option.map_some]
                    obtain ⟨zb, hC⟩ := vals_some hCv.symm hT
                    have hCps : C.ps[m]? = some (some zb) := by simp [Tbl.ps, hC]
                    replace hCps := hide hCps
                    obtain ⟨tt, ht3, hbo, hb3⟩ := open_at hcso.out
                    replace ht3 := hide ht3
                    replace hb3 := hide hb3
                    replace hbo := hide hbo
                    go_upto_region 22 with (first
                      | ((with_reducible show Calls _ 13 #[.pointer (some ⟨bt, _, _⟩), _] _ _); refine (get_in H (i0 := 2) rfl m hm hTps.out).mono ?_; rintro e w' ⟨rfl, rfl⟩; simp only [pv, Option.map_some])
                      | ((with_reducible show Calls _ 13 #[.pointer (some ⟨cb, _, _⟩), _] _ _); refine (get_in H (i0 := 3) rfl m hm hCps.out).mono ?_; rintro e w' ⟨rfl, rfl⟩; simp only [pv, Option.map_some])
                      | ((with_reducible show wpList _ _ _ _ _ _); first | (refine hp_load_one H (4 + (C.ents.length + entIdx T m)) rfl rfl rfl (at_M hT [_, _, _, _] _ _ _ rfl) (by kernel_rfl) (by kernel_rfl) ht3.out ?_) | (refine hp_load_one H (4 + (C.ents.length + ((Tbl.ents (T.set m (some (xb, bump cso tt)))).length + entIdx M m))) rfl rfl rfl (at_N hM [_, _, _, _] _ _ _ _ rfl) (by kernel_rfl) (by kernel_rfl) ht3.out ?_) | (refine hp_store_one H (4 + (C.ents.length + entIdx T m)) rfl rfl rfl rfl rfl rfl (at_M hT [_, _, _, _] _ _ _ rfl) (by kernel_rfl) (by rw [hsz7.out]; omega) ?_; intro w H; replace H := Eq.mp (congrArg (HP [] w0 w) (set_M (bump cso tt) hT [_, _, _, _] C.ents (M.ents ++ [⟨false, b, .cells acs Ta fra⟩]) _ rfl)) H) | (refine hp_store_one H (4 + (C.ents.length + ((Tbl.ents (T.set m (some (xb, bump cso tt)))).length + entIdx M m))) rfl rfl rfl rfl rfl rfl (at_N hM [_, _, _, _] _ _ _ _ rfl) (by kernel_rfl) (by rw [hsz7.out]; omega) ?_; intro w H; replace H := Eq.mp (congrArg (HP [] w0 w) (set_N (bump cso tt) hM [_, _, _, _] C.ents (Tbl.ents (T.set m (some (xb, bump cso tt)))) [⟨false, b, .cells acs Ta fra⟩] _ rfl)) H) | (refine stop_alloc rfl rfl ?_) | (refine stop_load rfl rfl ?_) | (refine stop_store rfl rfl ?_)))
                    have hwr : IntKind.i64.wrap (tt + 1) = wrap64 (tt + 1) := by rw [IntKind.wrap_i64]; unfold wrap64; omega
                    have hT' : (T.set m (some (xb, bump cso tt)))[m]? = some (some (xb, bump cso tt)) := List.getElem?_set_self (by rw [hS.len]; exact hm)
                    refine wp_region_hp H (by kernel_rfl) (by kernel_rfl) ?_
                    repeat (first
                      | ((with_reducible show WQ _ _ _ _ (Oper.mk _ _ _ _ _ (some (_, _)) :: _) _); refine q_skip ?_ ?_; focus (go_simp; done))
                      | ((with_reducible show WQ _ _ _ _ (Oper.mk _ (.load _ _) _ _ _ _ :: _) _); first | (refine q_load_one (4 + entIdx C m) ?_ rfl rfl (at_T hC [_, _, _, _] _ _ rfl) (by kernel_rfl) (by kernel_rfl) ht3.out ?_; focus (go_simp; done)) | (refine q_load_one (4 + (C.ents.length + entIdx (T.set m (some (xb, bump cso tt))) m)) ?_ rfl rfl (at_M hT' [_, _, _, _] _ _ _ rfl) (by kernel_rfl) (by kernel_rfl) hb3.out ?_; focus (go_simp; done)))
                      | (refine q_step (fun K hK => ?_); go_simp; first | (refine hK _ ?_; clear hK K) | (refine ⟨_, fun _ _ => rfl, hK _ ?_⟩; clear hK K)))
                    refine q_nil ?_
                    clear H
                    intro w H
                    go_wp2_with fail
                    replace H := H.sub (L' := MB bm M :: TB bt T :: (Tbl.ents (T.set m (some (xb, bump cso tt))) ++ (Tbl.ents (M.set m (some (yb, bump cso tt))) ++ [⟨false, b, .cells acs Ta fra⟩]))) (.cons _ (.cons_cons _ (.cons_cons _ (.cons _ (List.sublist_append_right _ _)))))
                    refine ⟨M.set m (some (yb, bump cso tt)), T.set m (some (xb, bump cso tt)), hS.add hbo.out, ⟨rfl, rfl⟩, ⟨rfl, rfl, rfl, rfl, rfl, trivial⟩, ?_⟩
                    unfold Mem MB TB
                    rw [ps_same _ hT, ps_same _ hM]
                    exact H
          · clear H
            rintro a wr ⟨M', T', hS', hst⟩
            obtain ⟨t, ha, H⟩ := St.out hst
            have e : (List.range 249).map (look [(3, .pointer (some ⟨bt, 0, none⟩)), (4, .pointer (some ⟨bm, 0, none⟩)), (28, .slice (some ⟨b, off, none⟩) len cap), (29, .int .i64 (len : Int)), (30, .int .i64 (i : Int))] t) = (t 0 :: t 1 :: t 2 :: (.pointer (some ⟨bt, 0, none⟩) : Value) :: (.pointer (some ⟨bm, 0, none⟩) : Value) :: t 5 :: t 6 :: t 7 :: t 8 :: t 9 :: t 10 :: t 11 :: t 12 :: t 13 :: t 14 :: t 15 :: t 16 :: t 17 :: t 18 :: t 19 :: t 20 :: t 21 :: t 22 :: t 23 :: t 24 :: t 25 :: t 26 :: t 27 :: (.slice (some ⟨b, off, none⟩) len cap : Value) :: (.int .i64 (len : Int) : Value) :: (.int .i64 (i : Int) : Value) :: t 31 :: t 32 :: t 33 :: t 34 :: t 35 :: t 36 :: t 37 :: t 38 :: t 39 :: t 40 :: t 41 :: t 42 :: t 43 :: t 44 :: t 45 :: t 46 :: t 47 :: t 48 :: t 49 :: t 50 :: t 51 :: t 52 :: t 53 :: t 54 :: t 55 :: t 56 :: t 57 :: t 58 :: t 59 :: t 60 :: t 61 :: t 62 :: t 63 :: t 64 :: t 65 :: t 66 :: t 67 :: t 68 :: t 69 :: t 70 :: t 71 :: t 72 :: t 73 :: t 74 :: t 75 :: t 76 :: t 77 :: t 78 :: t 79 :: t 80 :: t 81 :: t 82 :: t 83 :: t 84 :: t 85 :: t 86 :: t 87 :: t 88 :: t 89 :: t 90 :: t 91 :: t 92 :: t 93 :: t 94 :: t 95 :: t 96 :: t 97 :: t 98 :: t 99 :: t 100 :: t 101 :: t 102 :: t 103 :: t 104 :: t 105 :: t 106 :: t 107 :: t 108 :: t 109 :: t 110 :: t 111 :: t 112 :: t 113 :: t 114 :: t 115 :: t 116 :: t 117 :: t 118 :: t 119 :: t 120 :: t 121 :: t 122 :: t 123 :: t 124 :: t 125 :: t 126 :: t 127 :: t 128 :: t 129 :: t 130 :: t 131 :: t 132 :: t 133 :: t 134 :: t 135 :: t 136 :: t 137 :: t 138 :: t 139 :: t 140 :: t 141 :: t 142 :: t 143 :: t 144 :: t 145 :: t 146 :: t 147 :: t 148 :: t 149 :: t 150 :: t 151 :: t 152 :: t 153 :: t 154 :: t 155 :: t 156 :: t 157 :: t 158 :: t 159 :: t 160 :: t 161 :: t 162 :: t 163 :: t 164 :: t 165 :: t 166 :: t 167 :: t 168 :: t 169 :: t 170 :: t 171 :: t 172 :: t 173 :: t 174 :: t 175 :: t 176 :: t 177 :: t 178 :: t 179 :: t 180 :: t 181 :: t 182 :: t 183 :: t 184 :: t 185 :: t 186 :: t 187 :: t 188 :: t 189 :: t 190 :: t 191 :: t 192 :: t 193 :: t 194 :: t 195 :: t 196 :: t 197 :: t 198 :: t 199 :: t 200 :: t 201 :: t 202 :: t 203 :: t 204 :: t 205 :: t 206 :: t 207 :: t 208 :: t 209 :: t 210 :: t 211 :: t 212 :: t 213 :: t 214 :: t 215 :: t 216 :: t 217 :: t 218 :: t 219 :: t 220 :: t 221 :: t 222 :: t 223 :: t 224 :: t 225 :: t 226 :: t 227 :: t 228 :: t 229 :: t 230 :: t 231 :: t 232 :: t 233 :: t 234 :: t 235 :: t 236 :: t 237 :: t 238 :: t 239 :: t 240 :: t 241 :: t 242 :: t 243 :: t 244 :: t 245 :: t 246 :: t 247 :: t 248 :: []) := rfl
            rw [e] at ha
            subst ha
            clear e
            clear hst hS hCv hent hhere hact hsz hext hk0 hk1 hn0 hn1 hn2 hn3 hy0 hy1 hnn0 hnn1
            have hTl : T'.ps.length = 16 := by rw [Tbl.ps, List.length_map]; exact hS'.len
            replace hTl := hide hTl
            have hMsz : (ptrs M'.ps).size = 16 := by rw [ptrs_size, Tbl.ps, List.length_map, ← len_vals hS'.vals]; exact hS'.len
            replace hMsz := hide hMsz
            have hLM : ∀ k, lst T'.ps k = lst M'.ps k := fun k => lst_vals hS'.vals k
            replace hLM := hide hLM
            go_wp2_with (first
              | (go_at_call 14; refine (list_some H (i0 := 1) hTl.out rfl).mono ?_; rintro e w ⟨v, blk, rfl, hown, H⟩; replace hown := hide hown)
              | ((with_reducible show wpList _ _ _ _ _ _); first | (refine hp_load_all H (blk.length + 0) rfl rfl rfl (at_skip _ _ _) (by kernel_rfl) (by kernel_rfl) hMsz.out (by kernel_rfl) ?_) | (refine stop_alloc rfl rfl ?_) | (refine stop_load rfl rfl ?_) | (refine stop_store rfl rfl ?_)))
            refine wp_loop_ghost (fun g a w => Hid (∃ (j : Nat), j ≤ 16 ∧ g = 16 - j ∧ St 249 [(3, .pointer (some ⟨bt, 0, none⟩)), (4, .pointer (some ⟨bm, 0, none⟩)), (28, .slice (some ⟨b, off, none⟩) len cap), (29, .int .i64 (len : Int)), (30, .int .i64 (i : Int)), (21, .int .i64 ((lst T'.ps j).length : Int)), (22, v), (195, .agg (ptrs M'.ps)), (196, .int .i64 (j : Int))] [] w0 (blk ++ Mem bm bt M' T' [⟨false, b, .cells acs Ta fra⟩]) a w)) 16 ?_ ?_
            · exact ⟨0, by omega, by omega, ⟨⟨rfl, rfl⟩, ⟨rfl, rfl, rfl, rfl, rfl, rfl, rfl, rfl, rfl, trivial⟩, H⟩⟩
            · clear H
              rintro g a wr ⟨j, hj, rfl, hst⟩
              obtain ⟨t, ha, H⟩ := St.out hst
              have e : (List.range 249).map (look [(3, .pointer (some ⟨bt, 0, none⟩)), (4, .pointer (some ⟨bm, 0, none⟩)), (28, .slice (some ⟨b, off, none⟩) len cap), (29, .int .i64 (len : Int)), (30, .int .i64 (i : Int)), (21, .int .i64 ((lst T'.ps j).length : Int)), (22, v), (195, .agg (ptrs M'.ps)), (196, .int .i64 (j : Int))] t) = (t 0 :: t 1 :: t 2 :: (.pointer (some ⟨bt, 0, none⟩) : Value) :: (.pointer (some ⟨bm, 0, none⟩) : Value) :: t 5 :: t 6 :: t 7 :: t 8 :: t 9 :: t 10 :: t 11 :: t 12 :: t 13 :: t 14 :: t 15 :: t 16 :: t 17 :: t 18 :: t 19 :: t 20 :: (.int .i64 ((lst T'.ps j).length : Int) : Value) :: v :: t 23 :: t 24 :: t 25 :: t 26 :: t 27 :: (.slice (some ⟨b, off, none⟩) len cap : Value) :: (.int .i64 (len : Int) : Value) :: (.int .i64 (i : Int) : Value) :: t 31 :: t 32 :: t 33 :: t 34 :: t 35 :: t 36 :: t 37 :: t 38 :: t 39 :: t 40 :: t 41 :: t 42 :: t 43 :: t 44 :: t 45 :: t 46 :: t 47 :: t 48 :: t 49 :: t 50 :: t 51 :: t 52 :: t 53 :: t 54 :: t 55 :: t 56 :: t 57 :: t 58 :: t 59 :: t 60 :: t 61 :: t 62 :: t 63 :: t 64 :: t 65 :: t 66 :: t 67 :: t 68 :: t 69 :: t 70 :: t 71 :: t 72 :: t 73 :: t 74 :: t 75 :: t 76 :: t 77 :: t 78 :: t 79 :: t 80 :: t 81 :: t 82 :: t 83 :: t 84 :: t 85 :: t 86 :: t 87 :: t 88 :: t 89 :: t 90 :: t 91 :: t 92 :: t 93 :: t 94 :: t 95 :: t 96 :: t 97 :: t 98 :: t 99 :: t 100 :: t 101 :: t 102 :: t 103 :: t 104 :: t 105 :: t 106 :: t 107 :: t 108 :: t 109 :: t 110 :: t 111 :: t 112 :: t 113 :: t 114 :: t 115 :: t 116 :: t 117 :: t 118 :: t 119 :: t 120 :: t 121 :: t 122 :: t 123 :: t 124 :: t 125 :: t 126 :: t 127 :: t 128 :: t 129 :: t 130 :: t 131 :: t 132 :: t 133 :: t 134 :: t 135 :: t 136 :: t 137 :: t 138 :: t 139 :: t 140 :: t 141 :: t 142 :: t 143 :: t 144 :: t 145 :: t 146 :: t 147 :: t 148 :: t 149 :: t 150 :: t 151 :: t 152 :: t 153 :: t 154 :: t 155 :: t 156 :: t 157 :: t 158 :: t 159 :: t 160 :: t 161 :: t 162 :: t 163 :: t 164 :: t 165 :: t 166 :: t 167 :: t 168 :: t 169 :: t 170 :: t 171 :: t 172 :: t 173 :: t 174 :: t 175 :: t 176 :: t 177 :: t 178 :: t 179 :: t 180 :: t 181 :: t 182 :: t 183 :: t 184 :: t 185 :: t 186 :: t 187 :: t 188 :: t 189 :: t 190 :: t 191 :: t 192 :: t 193 :: t 194 :: (.agg (ptrs M'.ps) : Value) :: (.int .i64 (j : Int) : Value) :: t 197 :: t 198 :: t 199 :: t 200 :: t 201 :: t 202 :: t 203 :: t 204 :: t 205 :: t 206 :: t 207 :: t 208 :: t 209 :: t 210 :: t 211 :: t 212 :: t 213 :: t 214 :: t 215 :: t 216 :: t 217 :: t 218 :: t 219 :: t 220 :: t 221 :: t 222 :: t 223 :: t 224 :: t 225 :: t 226 :: t 227 :: t 228 :: t 229 :: t 230 :: t 231 :: t 232 :: t 233 :: t 234 :: t 235 :: t 236 :: t 237 :: t 238 :: t 239 :: t 240 :: t 241 :: t 242 :: t 243 :: t 244 :: t 245 :: t 246 :: t 247 :: t 248 :: []) := rfl
              rw [e] at ha
              subst ha
              clear e
              clear hst
              obtain ⟨av, cap', hv⟩ := hown.out.len
              subst hv
              by_cases hj16 : j < 16
              · obtain ⟨s, hs⟩ : ∃ s, M'[j]? = some s := ⟨_, List.getElem?_eq_getElem (by rw [← len_vals hS'.vals, hS'.len]; exact hj16)⟩
                have hix := fun w => run_index_ptr16 w (ptrs M'.ps) j hj16 hMsz.out
                cases s with
                | none =>
                  have hMps : M'.ps[j]? = some none := by simp [Tbl.ps, hs]
                  have hTps : T'.ps[j]? = some none := by simp [Tbl.ps, vals_none hS'.vals.symm hs]
                  rw [ptrs_get hMps] at hix
                  simp only [pv, Option.map_none] at hix
                  replace hTps := hide hTps
                  clear hs hMps
                  go_upto_region 55 with (go_at_call 13; refine (get_in H (i0 := blk.length + 1) (at_skip _ _ _) j hj16 hTps.out).mono ?_; rintro e w' ⟨rfl, rfl⟩; simp only [pv, Option.map_none])
                  refine wp_region_hp H (by kernel_rfl) (by kernel_rfl) ?_
                  repeat (first
                    | ((with_reducible show WQ _ _ _ _ (Oper.mk _ _ _ _ _ (some (_, _)) :: _) _); refine q_skip ?_ ?_; focus (go_simp; done))
                    | (refine q_step (fun K hK => ?_); go_simp; first | (refine hK _ ?_; clear hK K) | (refine ⟨_, fun _ _ => rfl, hK _ ?_⟩; clear hK K)))
                  refine q_nil ?_
                  clear H
                  intro w H
                  go_wp2_with fail
                  refine ⟨16 - (j + 1), by omega, j + 1, by omega, rfl, ⟨rfl, rfl⟩, ⟨rfl, rfl, rfl, rfl, rfl, ?_, rfl, rfl, by go_num, trivial⟩, H⟩
                  rw [lst_none hTps.out]; rfl
                | some p =>
                  obtain ⟨yb, cso⟩ := p
                  obtain ⟨xb, hT⟩ := vals_some hS'.vals.symm hs
                  have hMps : M'.ps[j]? = some (some yb) := by simp [Tbl.ps, hs]
                  have hTps : T'.ps[j]? = some (some xb) := by simp [Tbl.ps, hT]
                  rw [ptrs_get hMps] at hix
                  simp only [pv, Option.map_some] at hix
                  have hcso := hS'.opens j xb cso hT
                  obtain ⟨hsz7, hone7⟩ := wf_of_open hcso
                  replace hcso := hide hcso
                  replace hsz7 := hide hsz7
                  have hat := lst_at hj16 hTps
                  have hlt2 : (lst T'.ps j).length < (lst T'.ps 16).length := (List.getElem?_eq_some_iff.1 hat).1
                  have hdec : decide ((lst T'.ps 16).length ≤ (lst T'.ps j).length) = false := decide_eq_false (by omega)
                  have hsucc := lst_some hTps
                  have hle15 := lst_le T'.ps j
                  replace hsucc := hide hsucc
                  replace hTps := hide hTps
                  clear hMps
                  obtain ⟨gb, cur, rfl, hblk, hcur⟩ : ∃ gb cur, av = some ⟨gb, 0, none⟩ ∧ blk = [⟨true, gb, .cells cur 3 (0, 0)⟩] ∧ cur[(lst T'.ps j).length]? = some (.int .i64 (j : Int)) := by
                    rcases hown.out.2 with ⟨_, h0, _⟩ | ⟨gb, cp, cur, hv, hb, _, _, _, htk⟩
                    · omega
                    · refine ⟨gb, cur, by simp at hv; exact hv.1, hb, ?_⟩
                      have h1 : (ints (lst T'.ps 16))[(lst T'.ps j).length]? = some (.int .i64 (j : Int)) := by simp [ints, hat]
                      rw [← htk, List.getElem?_take, if_pos (by omega)] at h1
                      simpa using h1
                  replace hcur := hide hcur
                  clear hat
                  go_upto_region 55 with (go_at_call 13; refine (get_in H (i0 := blk.length + 1) (at_skip _ _ _) j hj16 hTps.out).mono ?_; rintro e w' ⟨rfl, rfl⟩; simp only [pv, Option.map_some])
                  refine wp_region_hp H (by kernel_rfl) (by kernel_rfl) ?_
                  repeat (first
                    | ((with_reducible show WQ _ _ _ _ (Oper.mk _ _ _ _ _ (some (_, _)) :: _) _); refine q_skip ?_ ?_; focus (go_simp; done))
                    | ((with_reducible show WQ _ _ _ _ (Oper.mk _ (.binOp .neq 35 _ _ _) _ _ _ _ :: _) _); refine q_value (.bool false) ?_ (fun w _ => run_neq_open hcso.out rfl rfl rfl w) ?_; focus (go_simp; done))
                    | ((with_reducible show WQ _ _ _ _ (Oper.mk _ (.load _ _) _ _ _ _ :: _) _); first | (refine q_load_all (blk.length + (2 + entIdx T' j)) ?_ rfl rfl ((at_skip _ _ _).trans (at_T hT [_, _] _ _ rfl)) (by kernel_rfl) (by kernel_rfl) hsz7.out (by kernel_rfl) ?_; focus (go_simp; done)) | (refine q_load_all (blk.length + (2 + (T'.ents.length + entIdx M' j))) ?_ rfl rfl ((at_skip _ _ _).trans (at_M hs [_, _] _ _ _ rfl)) (by kernel_rfl) (by kernel_rfl) hsz7.out (by kernel_rfl) ?_; focus (go_simp; done)))
                    | (refine q_step (fun K hK => ?_); go_simp; first | (refine hK _ ?_; clear hK K) | (refine ⟨_, fun _ _ => rfl, hK _ ?_⟩; clear hK K)))
                  refine q_nil ?_
                  clear H
                  intro w H
                  go_wp2_with ((with_reducible show wpList _ _ _ _ _ _); first | (refine hp_load_one H 0 rfl rfl rfl (by rw [hblk]; rfl) (by kernel_rfl) (by kernel_rfl) hcur.out ?_) | (refine stop_alloc rfl rfl ?_) | (refine stop_load rfl rfl ?_) | (refine stop_store rfl rfl ?_))
                  refine ⟨16 - (j + 1), by omega, j + 1, by omega, rfl, ⟨rfl, rfl⟩, ⟨rfl, rfl, rfl, rfl, rfl, ?_, rfl, rfl, by go_num, trivial⟩, H⟩
                  rw [hsucc.out, List.length_append]; rfl
              · obtain rfl : j = 16 := by omega
                clear hj hj16
                go_wp2_with (go_at_call 11; refine (full_is H (i0 := blk.length + 1) hTl.out (at_skip _ _ _) rfl).mono ?_; rintro e w ⟨rfl, H⟩)
                exact ⟨len - (i + 1), by omega, i + 1, M', T', by omega, rfl, hS', ⟨rfl, rfl⟩, ⟨rfl, rfl, rfl, rfl, by go_num, trivial⟩, H.sub (List.sublist_append_right _ _)⟩
end Go.Proofs.Ytdbelddaifllnaa
