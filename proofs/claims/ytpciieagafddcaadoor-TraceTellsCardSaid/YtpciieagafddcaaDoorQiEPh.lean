/- stage.phase, walked by the engine (own text). -/
import Derived.Test.YtpciieagafddcaaDoorQiEB
import Derived.Test.YtpciieagafddcaaDoorQiD
import Derived.Test.YtpciieagafddcaaDoorQiF0
namespace Go.Proofs.YtpciieagafddcaaDoor.E
open Go Go.RowKit Go.Proofs Go.Proofs.YtpciieagafddcaaDoorW.PrintWords Go.Proofs.YtpciieagafddcaaDoorW.PrintLast Go.Proofs.YtpciieagafddcaaDoorW.PrintMore Go.Proofs.YtpciieagafddcaaDoor.F
set_option linter.unusedVariables false
set_option linter.unusedSimpArgs false
set_option maxRecDepth 100000
set_option maxHeartbeats 8000000
attribute [local irreducible] acode callR
namespace Ph
def inB (n a b : Int) : Bool := decide (a ≤ n) && decide (n ≤ b)
theorem idx {p : S25} {s : Sg} {b : Bool} (h : stage_phase.f p.f0 p.f1 p.f2 p.f3 p.f4 s.plan s.stage s.next s.phase s.t s.hold s.held s.ask s.want s.stop = some b) (hp : (s.phase == 0) = true) (ht : decide (s.t ≥ s.held) = true) : 0 ≤ s.stage ∧ s.stage < (p.f1.length : Int) := by
  unfold stage_phase.f at h
  rw [if_pos (by simpa using hp), if_pos (of_decide_eq_true ht)] at h
  by_cases h1 : 0 ≤ s.stage
  · by_cases h2 : s.stage < (p.f1.length : Int)
    · exact ⟨h1, h2⟩
    · rw [if_pos h1, if_neg h2] at h; cases h
  · rw [if_neg h1] at h; cases h
end Ph
end Go.Proofs.YtpciieagafddcaaDoor.E
/- Woven by wip/weave/weave.py of this repo (own tool) out of the translation: the contracts of some functions. Lean checks it. -/
namespace Go.Proofs.YtpciieagafddcaaDoor.F
open Go.RowKit Go.Proofs.YtpciieagafddcaaDoorW.PrintWords Go.Proofs.YtpciieagafddcaaDoorW.PrintLast Go.Proofs.YtpciieagafddcaaDoorW.PrintMore
attribute [local go_sem] max2_int min2_int max_two min_two max_three min_three max_four min_four   -- for this text's walks alone
set_option linter.unusedVariables false
set_option linter.unusedSimpArgs false
-- NOT PRINTED: function 45 (trace_runs)
-- NOT PRINTED: function 19 (trace_Long)
/-! ### plan_in: function 56 -/
set_option maxHeartbeats 8000000 in
set_option maxRecDepth 100000 in
theorem plan_in.calls (a0 : Int) (a1 : Int) (a2 : Int) (r : Bool) (w : World) (h : plan_in.f a0 a1 a2 = some r) :
    Calls Tryd.prog 56 #[.int .i64 a0, .int .i64 a1, .int .i64 a2] w fun e w' => e = .returned (.bool r) ∧ Drawn0 w w' := by
  have H : (if a0 ≥ a1 then (some (decide (a0 ≤ a2))) else (some false)) = some r := h
  clear h
  by_cases c4 : a0 ≥ a1
  · rw [if_pos c4] at H
    have c4b0 : decide (a1 ≤ a0) = true := decide_eq_true c4
    clear c4
    obtain rfl := Option.some.inj H
    go_enter Tryd.func56, Tryd.ntmps56
    go_wp2
    go_ret
    exact ⟨by first | rfl | (simp; done) | (simp [*]; done), by repeat (first | exact Drawn0.refl _ | apply Drawn0.step)⟩
  · rw [if_neg c4] at H
    have c4b0 : decide (a1 ≤ a0) = false := decide_eq_false c4
    clear c4
    obtain rfl := Option.some.inj H
    go_enter Tryd.func56, Tryd.ntmps56
    go_wp2
    go_ret
    exact ⟨by first | rfl | (simp; done) | (simp [*]; done), by repeat (first | exact Drawn0.refl _ | apply Drawn0.step)⟩
-- NOT PRINTED: function 109 (slices_IndexFunc_int_int)
-- NOT PRINTED: function 84 (slices_ContainsFunc_int_int)
end Go.Proofs.YtpciieagafddcaaDoor.F
