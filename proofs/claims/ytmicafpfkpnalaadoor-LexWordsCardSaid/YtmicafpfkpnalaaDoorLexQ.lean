/- One word alone on a line. Plain. -/
import Derived.Test.YtmicafpfkpnalaaDoorLexP
namespace Go.Proofs.YtmicafpfkpnalaaDoor
open Go Go.RowKit
theorem wl_all {p : UInt8 → Bool} {l : List UInt8} (h : ∀ c ∈ l, p c = true) : wl p l = l.length := by
  induction l with
  | nil => rfl
  | cons c r ih => rw [wl_yes _ (h c (List.mem_cons_self ..)), ih (fun x hx => h x (List.mem_cons_of_mem _ hx)), List.length_cons]
theorem wl_stop {p : UInt8 → Bool} {l r : List UInt8} {c : UInt8} (h : ∀ x ∈ l, p x = true) (hc : p c = false) : wl p (l ++ c :: r) = l.length := by
  induction l with
  | nil => exact wl_no _ hc
  | cons x l ih => rw [List.cons_append, wl_yes _ (h x (List.mem_cons_self ..)), ih (fun y hy => h y (List.mem_cons_of_mem _ hy)), List.length_cons]
theorem splitC_no {c : UInt8} {l : List UInt8} (h : c ∉ l) : splitC c l = [l] := ix_none (List.count_eq_zero.2 h)
theorem next_word (line : Nat) {b w : List UInt8} {c : UInt8} {r : List UInt8} (hw : w = c :: r) (hb : ∀ x ∈ b, blkF x = true) (hc : blkF c = false) (hp : ∀ x ∈ w, predF (kindF c) x = true) :
    nextF line (b ++ w) 0 = if (rightF (kindF c) w).1 = 0 then .tok ⟨kindF c, w, (rightF (kindF c) w).2, line, b.length + 1⟩ (b.length + w.length) else .wrong (b.length + 1) (rightF (kindF c) w).1 := by
  subst hw
  unfold nextF
  rw [List.drop_zero, wl_stop hb hc, Nat.zero_add, List.drop_left]
  have hnA : nextAt line b.length (c :: r) c = (if (rightF (kindF c) ((c :: r).take (wl (predF (kindF c)) (c :: r)))).1 = 0 then Nx.tok ⟨kindF c, (c :: r).take (wl (predF (kindF c)) (c :: r)), (rightF (kindF c) ((c :: r).take (wl (predF (kindF c)) (c :: r)))).2, line, b.length + 1⟩ (b.length + wl (predF (kindF c)) (c :: r)) else .wrong (b.length + 1) (rightF (kindF c) ((c :: r).take (wl (predF (kindF c)) (c :: r)))).1) := rfl
  show nextAt line b.length (c :: r) c = _
  rw [hnA, wl_all hp, List.take_length]
theorem next_end (line : Nat) (l : List UInt8) : nextF line l l.length = .done := by
  unfold nextF
  rw [List.drop_length, wl_nil, Nat.add_zero, List.drop_length]
theorem lexF_line {l : List UInt8} (h10 : (10 : UInt8) ∉ l) (h35 : (35 : UInt8) ∉ l) (hl : l.length ≤ 65536) : lexF l = match lexLn 1 l with
    | (_, some (c, e)) => ([], some (1, c, e))
    | (ts, none) => ((if ts = [] then [] else ts ++ [⟨0, [], 0, 1, l.length + 1⟩]), none) := by
  have hh : headF 35 l = l := by unfold headF; rw [splitC_no h35]; rfl
  unfold lexF
  rw [if_neg (by omega), splitC_no h10, lexAll, hh, Nat.zero_add]
  cases lexLn 1 l with
  | mk ts w =>
    cases w with
    | none => dsimp only; rw [lexAll]; rfl
    | some w => rfl
theorem lexF_word {b w : List UInt8} {c : UInt8} {r : List UInt8} (hw : w = c :: r) (hb : ∀ x ∈ b, blkF x = true) (hc : blkF c = false) (hp : ∀ x ∈ w, predF (kindF c) x = true)
    (h10 : (10 : UInt8) ∉ b ++ w) (h35 : (35 : UInt8) ∉ b ++ w) (hl : (b ++ w).length ≤ 65536) :
    lexF (b ++ w) = if (rightF (kindF c) w).1 = 0 then ([⟨kindF c, w, (rightF (kindF c) w).2, 1, b.length + 1⟩, ⟨0, [], 0, 1, (b ++ w).length + 1⟩], none) else ([], some (1, b.length + 1, (rightF (kindF c) w).1)) := by
  have hn := next_word 1 hw hb hc hp
  have hwl : 0 < w.length := by rw [hw, List.length_cons]; omega
  have hbl : (b ++ w).length = b.length + w.length := List.length_append
  rw [lexF_line h10 h35 hl]
  unfold lexLn
  obtain ⟨f, hf⟩ : ∃ f, (b ++ w).length = f + 1 := ⟨(b ++ w).length - 1, by omega⟩
  by_cases hr : (rightF (kindF c) w).1 = 0
  · rw [if_pos hr] at hn ⊢
    have e : lexGo 1 (b ++ w) ((b ++ w).length + 1) 0 [] = ([⟨kindF c, w, (rightF (kindF c) w).2, 1, b.length + 1⟩], none) := by
      rw [lexGo_tok hn]
      have e2 : lexGo 1 (b ++ w) (b ++ w).length (b.length + w.length) [] = ([], none) := by
        have h9 := next_end 1 (b ++ w)
        rw [hbl] at h9
        rw [hf, lexGo, h9]
      rw [e2]
    rw [e]; rfl
  · rw [if_neg hr] at hn ⊢
    rw [lexGo, hn]
end Go.Proofs.YtmicafpfkpnalaaDoor
