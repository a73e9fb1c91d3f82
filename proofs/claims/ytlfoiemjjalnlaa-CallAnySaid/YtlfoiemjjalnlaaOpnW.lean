/- How long bytes that come in can be. -/
import Derived.Test.YtlfoiemjjalnlaaOpn
import Derived.SizedLaws
namespace Go.Proofs.Ytlfoiemjjalnlaa
open Go Go.RowKit
theorem slice_len_w {H : Type} {enc : TypeId × Value → H} {P : Program} {w : World} {base : Nat} {spare : Nat → Bool} {held : Bool} {fuel : Nat} {x : DataW H × List MemPlace} {t e : TypeId} {a : Option Addr} {len cap m : Nat}
    (hu : P.underlying t = some (.slice e)) (h : DataW.trod enc P w base spare held fuel t [.slice a len cap] = some x) (hb : P.bytesOf e = 1) (hw : ∀ n ∈ x.1.weights P t, n ≤ m) : len ≤ m := by
  rcases DataW.trod_slice hu h with ⟨h2, _⟩ | ⟨a', len', cap', elems, rest, n', _, h2, h3, _, _, _, h4, _⟩
  · simp only [List.cons.injEq, Value.slice.injEq, and_true] at h2
    omega
  · simp only [List.cons.injEq, Value.slice.injEq, and_true] at h2
    obtain ⟨_, rfl, _⟩ := h2
    have h5 : (elems.length + rest.length) * P.bytesOf e ∈ x.1.weights P t := by
      rw [h3]; simp [DataW.weights, hu]
    have h7 := hw _ h5
    rw [hb, h4] at h7
    omega
end Go.Proofs.Ytlfoiemjjalnlaa
