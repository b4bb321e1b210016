/- Plain laws on signal machines: several ticks, what a tick does in each phase, a machine that stops (own text). -/
import Derived.Test.YtechgjbhgeddjaaDoorQcPU
namespace Go.Proofs.YtechgjbhgeddjaaDoor.PV
open Go.RowKit Go.Proofs.YtechgjbhgeddjaaDoorW.PrintWords Go.Proofs.YtechgjbhgeddjaaDoorW.PrintLast Go.Proofs.YtechgjbhgeddjaaDoorW.PrintMore Go.Proofs.YtechgjbhgeddjaaDoor.F Go.Proofs.YtechgjbhgeddjaaDoor.PG Go.Proofs.YtechgjbhgeddjaaDoor.PM Go.Proofs.YtechgjbhgeddjaaDoor.PP Go.Proofs.YtechgjbhgeddjaaDoor.PQ Go.Proofs.YtechgjbhgeddjaaDoor.PL Go.Proofs.YtechgjbhgeddjaaDoor.PT Go.Proofs.YtechgjbhgeddjaaDoor.PU
set_option linter.unusedSimpArgs false
/-! ### several ticks -/
/-! ### what a tick does, by phase -/
theorem tick_hold {l : List S39} {s : Sg} (h : May l s) (hp : s.phase = 0) (hh : 0 < s.hold) : stage_tickB.f l s = { s with t := s.t + 1, hold := s.hold - 1, held := s.held + 1 } := by
  have ht := h.t
  unfold stage_tickB.f stage_greenB.f
  rw [if_pos (may_to h), if_pos hp, if_pos hh, wr (by omega) (by omega)]
def asked (s : Sg) : Bool := s.stop || decide (s.ask ≠ -1) || decide (s.want ≠ -1)
theorem tick_green_stay {l : List S39} {s : Sg} (h : May l s) (hp : s.phase = 0) (hh : s.hold = 0) (ht : s.t + 1 < (St l s).f1 ∨ (asked s = false ∧ s.t + 1 < (St l s).f2)) : stage_tickB.f l s = { s with t := s.t + 1 } := by
  have h1 := h.t
  unfold stage_tickB.f stage_greenB.f
  rw [if_pos (may_to h), if_pos hp, if_neg (by omega), wr (by omega) (by omega), if_pos]
  unfold asked at ht
  rcases ht with ht | ⟨ha, ht⟩
  · rw [decide_eq_true ht, Bool.true_or]
  · rw [ha, decide_eq_true (show s.t + 1 < (rd_T41 (rd_T39 l s.plan).f1 s.stage).f2 from ht)]
    simp
theorem tick_green_end {l : List S39} {s : Sg} (h : May l s) (hp : s.phase = 0) (hh : s.hold = 0) (ht : (St l s).f1 ≤ s.t + 1) (ht2 : asked s = true ∨ (St l s).f2 ≤ s.t + 1) : stage_tickB.f l s = { s with t := 0, next := (if s.ask = -1 then Int.tmod (s.stage + 1) ((P l s).f1.length : Int) else s.ask), phase := 1, held := 0, ask := -1 } := by
  have h1 := h.t
  unfold stage_tickB.f stage_greenB.f
  rw [if_pos (may_to h), if_pos hp, if_neg (by omega), wr (by omega) (by omega), if_neg]
  unfold asked at ht2
  rw [decide_eq_false (show ¬ s.t + 1 < (rd_T41 (rd_T39 l s.plan).f1 s.stage).f1 by have : (St l s).f1 ≤ s.t + 1 := ht; simp only [St, P] at this; omega), Bool.false_or]
  rcases ht2 with ha | ht2
  · rw [ha]; simp
  · rw [decide_eq_false (show ¬ s.t + 1 < (rd_T41 (rd_T39 l s.plan).f1 s.stage).f2 by have : (St l s).f2 ≤ s.t + 1 := ht2; simp only [St, P] at this; omega)]; simp
/-! ### a machine that stops -/
end Go.Proofs.YtechgjbhgeddjaaDoor.PV
