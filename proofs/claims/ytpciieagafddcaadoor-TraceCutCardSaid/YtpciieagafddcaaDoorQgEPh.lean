/- stage.phase, walked by the engine (own text). -/
import Derived.Test.YtpciieagafddcaaDoorQgEB
import Derived.Test.YtpciieagafddcaaDoorQgD
namespace Go.Proofs.YtpciieagafddcaaDoor.E
open Go Go.RowKit Go.Proofs Go.Proofs.YtpciieagafddcaaDoorW.PrintWords Go.Proofs.YtpciieagafddcaaDoorW.PrintLast Go.Proofs.YtpciieagafddcaaDoorW.PrintMore Go.Proofs.YtpciieagafddcaaDoor.F
set_option linter.unusedVariables false
set_option linter.unusedSimpArgs false
set_option maxRecDepth 100000
set_option maxHeartbeats 8000000
attribute [local irreducible] acode callR
namespace Ph
def inB (n a b : Int) : Bool := decide (a ≤ n) && decide (n ≤ b)
theorem idx {p : S25} {s : Sg} {b : Bool} (h : stage_phase.f p.f0 p.f1 p.f2 p.f3 p.f4 s.plan s.stage s.next s.phase s.t s.hold s.held s.ask s.want s.stop = some b) (hp : (s.phase == 0) = true) (ht : decide (s.t ≥ s.held) = true) : 0 ≤ s.stage ∧ s.stage < (p.f1.length : Int) := by
  unfold stage_phase.f at h
  rw [if_pos (by simpa using hp), if_pos (of_decide_eq_true ht)] at h
  by_cases h1 : 0 ≤ s.stage
  · by_cases h2 : s.stage < (p.f1.length : Int)
    · exact ⟨h1, h2⟩
    · rw [if_pos h1, if_neg h2] at h; cases h
  · rw [if_neg h1] at h; cases h
end Ph
end Go.Proofs.YtpciieagafddcaaDoor.E
