/- Fresh rows, in the engine's words (own text). -/
import Derived.Test.YtpciieagafddcaaDoorQhEB
namespace Go.Proofs.YtpciieagafddcaaDoor.E
open Go Go.RowKit Go.Proofs Go.Proofs.YtpciieagafddcaaDoorW.PrintWords Go.Proofs.YtpciieagafddcaaDoorW.PrintLast Go.Proofs.YtpciieagafddcaaDoorW.PrintMore Go.Proofs.YtpciieagafddcaaDoor.F
set_option linter.unusedVariables false
set_option linter.unusedSimpArgs false
section
variable {w : World} {I : Nat → Prop}
theorem S_of_reads {α : Type} {R : α → List Value → Prop} {sz : Nat} {xs : List α} {el : Nat → Nat → CV} {A : Option Addr} {c : Nat} (hI : ∀ (a : Addr), A = some a → I a.block)
    (hel : ∀ i x, xs[i]? = some x → ∀ us : List Value, R x us → ∀ j u, us[j]? = some u → (el i j).S w I u ∧ u.oneCell' = true)
    (hc : xs.length ≤ c) (h : ReadsRow R sz w A xs.length xs) : (CV.sl xs.length sz el).S w I (.slice A xs.length c) := by
  obtain ⟨h1, h2, h3⟩ := h
  refine ⟨A, c, rfl, hc, h2, fun i j hi hj => ?_⟩
  obtain ⟨a, rfl, h4⟩ := h3 (by omega)
  obtain ⟨us, h5, h6, h7⟩ := h4 i _ (List.getElem?_eq_getElem hi)
  have hu := List.getElem?_eq_getElem (show j < us.length by rw [h5]; exact hj)
  have := hel i _ (List.getElem?_eq_getElem hi) us h6 j _ hu
  exact ⟨a, _, rfl, hI a rfl, h7 j _ hu, this.1, this.2⟩
theorem R_ints {e base : Nat} {ok : Nat → Prop} {v : Value} {xs : List Int} (h : (Kd.int .i64).R e w base ok v xs) (hI : ∀ k, base ≤ k → k < w.heap.size → I k) : (cInts xs).S w I v ∧ v.oneCell' = true := by
  obtain ⟨h0, hrow⟩ := h
  obtain ⟨A, c, rfl, hc, hr⟩ := OwnRow.reads hrow
  obtain ⟨inner, ho, -⟩ := hrow
  refine ⟨S_of_reads (fun a ha => ?_) (fun i x hx us hK j u hu => ?_) hc hr, rfl⟩
  · subst ha
    exact hI _ (own_base ho a.block rfl) (own_lt ho a.block rfl)
  · have e : us = [.int .i64 x] := hK
    subst e
    rw [getD_some hx]
    match j, hu with
    | 0, hu => cases hu; exact ⟨rfl, rfl⟩
end
end Go.Proofs.YtpciieagafddcaaDoor.E
