/- Rows of lamps that are the same, walked by the engine (own text). -/
import Derived.Test.YtpciieagafddcaaDoorQgEB
import Derived.Test.YtpciieagafddcaaDoorQgPG
namespace Go.Proofs.YtpciieagafddcaaDoor.E
open Go Go.RowKit Go.Proofs Go.Proofs.YtpciieagafddcaaDoorW.PrintWords Go.Proofs.YtpciieagafddcaaDoorW.PrintLast Go.Proofs.YtpciieagafddcaaDoorW.PrintMore Go.Proofs.YtpciieagafddcaaDoor.F
set_option linter.unusedVariables false
set_option linter.unusedSimpArgs false
set_option maxRecDepth 100000
set_option maxHeartbeats 8000000
attribute [local irreducible] acode callR
namespace Rw
theorem wr64 {x : Int} (h0 : -9223372036854775808 ≤ x) (h1 : x ≤ 9223372036854775807) : IntKind.i64.wrap x = x := (i64_w x).trans (PG.wr h0 h1)
theorem fI_eq {a b : Int} (h : a = b) : some (fI a) = some (fI b) := by rw [h]
def fRows (x : List (List Int)) : FV := .t (.one (cRows x))
theorem S_el {w : World} {I : Nat → Prop} {n sz : Nat} {el el' : Nat → Nat → CV} {y : Value} (h : (CV.sl n sz el).S w I y) (he : ∀ i j, i < n → j < sz → el i j = el' i j) : (CV.sl n sz el').S w I y := by
  obtain ⟨A, c, rfl, h1, h2, h3⟩ := h
  refine ⟨A, c, rfl, h1, h2, fun i j hi hj => ?_⟩
  obtain ⟨a, u, h4, h5, h6, h7, h8⟩ := h3 i j hi hj
  exact ⟨a, u, h4, h5, h6, by rw [← he i j hi hj]; exact h7, h8⟩
theorem SpecOk.pre {P : Program} {f : Nat} {G G' : List FV → FV → Prop} (h : SpecOk P f (.pure G)) (hw : ∀ a r, G' a r → ∃ b, G b r ∧ ∀ (c : Cx) ys, all2 (FV.R c) a ys → all2 (FV.R c) b ys) : SpecOk P f (.pure G') := by
  rintro args pre r post ⟨hG, rfl, rfl⟩ c ys hgl hy hI hZ hpre hdj
  obtain ⟨b, h1, h2⟩ := hw _ _ hG
  exact h b [] r [] ⟨h1, rfl, rfl⟩ c ys hgl (h2 c ys hy) hI hZ hpre hdj
end Rw
end Go.Proofs.YtpciieagafddcaaDoor.E
