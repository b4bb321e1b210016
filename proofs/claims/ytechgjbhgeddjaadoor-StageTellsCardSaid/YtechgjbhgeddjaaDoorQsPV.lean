/- Plain laws on signal machines: several ticks, what a tick does in each phase, a machine that stops (own text). -/
import Derived.Test.YtechgjbhgeddjaaDoorQsPU
namespace Go.Proofs.YtechgjbhgeddjaaDoor.PV
open Go.RowKit Go.Proofs.YtechgjbhgeddjaaDoorW.PrintWords Go.Proofs.YtechgjbhgeddjaaDoorW.PrintLast Go.Proofs.YtechgjbhgeddjaaDoorW.PrintMore Go.Proofs.YtechgjbhgeddjaaDoor.F Go.Proofs.YtechgjbhgeddjaaDoor.PG Go.Proofs.YtechgjbhgeddjaaDoor.PM Go.Proofs.YtechgjbhgeddjaaDoor.PP Go.Proofs.YtechgjbhgeddjaaDoor.PQ Go.Proofs.YtechgjbhgeddjaaDoor.PL Go.Proofs.YtechgjbhgeddjaaDoor.PT Go.Proofs.YtechgjbhgeddjaaDoor.PU
set_option linter.unusedSimpArgs false
/-! ### several ticks -/
def tickN (l : List S39) : Nat → Sg → Sg
  | 0, s => s
  | n + 1, s => tickN l n (stage_tickB.f l s)
def rowsN (l : List S39) : Nat → Sg → List (List Int)
  | 0, _ => []
  | n + 1, s => lampsB l (stage_tickB.f l s) :: rowsN l n (stage_tickB.f l s)
theorem rowsN_len (l : List S39) : ∀ n s, (rowsN l n s).length = n
  | 0, _ => rfl
  | n + 1, s => by rw [rowsN, List.length_cons, rowsN_len l n]
theorem tickN_add (l : List S39) : ∀ m n s, tickN l (m + n) s = tickN l n (tickN l m s)
  | 0, n, s => by rw [Nat.zero_add]; rfl
  | m + 1, n, s => by rw [show m + 1 + n = (m + n) + 1 by omega, tickN, tickN, tickN_add l m n]
theorem rowsN_add (l : List S39) : ∀ m n s, rowsN l (m + n) s = rowsN l m s ++ rowsN l n (tickN l m s)
  | 0, n, s => by rw [Nat.zero_add]; rfl
  | m + 1, n, s => by rw [show m + 1 + n = (m + n) + 1 by omega, rowsN, rowsN, tickN, rowsN_add l m n]; rfl
theorem tickN_may {l : List S39} : ∀ n {s : Sg}, May l s → May l (tickN l n s)
  | 0, _, h => h
  | n + 1, _, h => tickN_may n (tick_may h)
/-! ### what a tick does, by phase -/
theorem tick_amber_stay {l : List S39} {s : Sg} (h : May l s) (hp : s.phase = 1) (ht : s.t + 1 ≠ (P l s).f2) : stage_tickB.f l s = { s with t := s.t + 1 } := by
  unfold stage_tickB.f stage_amberB.f
  rw [if_pos (may_to h), if_neg (by omega), if_pos hp, if_neg ht]
theorem tick_amber_end {l : List S39} {s : Sg} (h : May l s) (hp : s.phase = 1) (ht : s.t + 1 = (P l s).f2) : stage_tickB.f l s = { s with phase := 2, t := 0 } := by
  unfold stage_tickB.f stage_amberB.f
  rw [if_pos (may_to h), if_neg (by omega), if_pos hp, if_pos ht]
theorem mn_le {a b : Int} (h : a ≤ b) : mn a b = a := by unfold mn; split <;> omega
theorem mn_ge {a b : Int} (h : b ≤ a) : mn a b = b := by unfold mn; split <;> omega
theorem tick_red_stay {l : List S39} {s : Sg} (h : May l s) (hp : s.phase = 2) (ht : s.t + 1 < (P l s).f3) : stage_tickB.f l s = { s with t := s.t + 1 } := by
  simp only [P] at ht
  unfold stage_tickB.f stage_redB.f
  rw [if_pos (may_to h), if_neg (by omega), if_neg (by omega), mn_le (by omega), if_pos (.inl ht)]
theorem tick_red_stop {l : List S39} {s : Sg} (h : May l s) (hp : s.phase = 2) (ht : (P l s).f3 ≤ s.t + 1) (hs : s.stop = true) : stage_tickB.f l s = { s with t := (P l s).f3 } := by
  simp only [P] at ht
  unfold stage_tickB.f stage_redB.f
  rw [if_pos (may_to h), if_neg (by omega), if_neg (by omega), mn_ge (by omega), if_pos (.inr hs)]
theorem tick_red_want {l : List S39} {s : Sg} (h : May l s) (hp : s.phase = 2) (ht : (P l s).f3 ≤ s.t + 1) (hs : s.stop = false) (hw : s.want ≠ -1) : stage_tickB.f l s = { s with plan := s.want, want := -1, next := 0, phase := 0, stage := 0, t := 0 } := by
  simp only [P] at ht
  unfold stage_tickB.f stage_redB.f
  rw [if_pos (may_to h), if_neg (by omega), if_neg (by omega), mn_ge (by omega), if_neg (by rw [hs]; simp), if_pos hw]
theorem tick_red_next {l : List S39} {s : Sg} (h : May l s) (hp : s.phase = 2) (ht : (P l s).f3 ≤ s.t + 1) (hs : s.stop = false) (hw : s.want = -1) : stage_tickB.f l s = { s with phase := 0, stage := s.next, t := 0 } := by
  simp only [P] at ht
  unfold stage_tickB.f stage_redB.f
  rw [if_pos (may_to h), if_neg (by omega), if_neg (by omega), mn_ge (by omega), if_neg (by rw [hs]; simp), if_neg (by simp [hw])]
theorem tick_hold {l : List S39} {s : Sg} (h : May l s) (hp : s.phase = 0) (hh : 0 < s.hold) : stage_tickB.f l s = { s with t := s.t + 1, hold := s.hold - 1, held := s.held + 1 } := by
  have ht := h.t
  unfold stage_tickB.f stage_greenB.f
  rw [if_pos (may_to h), if_pos hp, if_pos hh, wr (by omega) (by omega)]
def asked (s : Sg) : Bool := s.stop || decide (s.ask ≠ -1) || decide (s.want ≠ -1)
theorem tick_green_stay {l : List S39} {s : Sg} (h : May l s) (hp : s.phase = 0) (hh : s.hold = 0) (ht : s.t + 1 < (St l s).f1 ∨ (asked s = false ∧ s.t + 1 < (St l s).f2)) : stage_tickB.f l s = { s with t := s.t + 1 } := by
  have h1 := h.t
  unfold stage_tickB.f stage_greenB.f
  rw [if_pos (may_to h), if_pos hp, if_neg (by omega), wr (by omega) (by omega), if_pos]
  unfold asked at ht
  rcases ht with ht | ⟨ha, ht⟩
  · rw [decide_eq_true ht, Bool.true_or]
  · rw [ha, decide_eq_true (show s.t + 1 < (rd_T41 (rd_T39 l s.plan).f1 s.stage).f2 from ht)]
    simp
theorem tick_green_end {l : List S39} {s : Sg} (h : May l s) (hp : s.phase = 0) (hh : s.hold = 0) (ht : (St l s).f1 ≤ s.t + 1) (ht2 : asked s = true ∨ (St l s).f2 ≤ s.t + 1) : stage_tickB.f l s = { s with t := 0, next := (if s.ask = -1 then Int.tmod (s.stage + 1) ((P l s).f1.length : Int) else s.ask), phase := 1, held := 0, ask := -1 } := by
  have h1 := h.t
  unfold stage_tickB.f stage_greenB.f
  rw [if_pos (may_to h), if_pos hp, if_neg (by omega), wr (by omega) (by omega), if_neg]
  unfold asked at ht2
  rw [decide_eq_false (show ¬ s.t + 1 < (rd_T41 (rd_T39 l s.plan).f1 s.stage).f1 by have : (St l s).f1 ≤ s.t + 1 := ht; simp only [St, P] at this; omega), Bool.false_or]
  rcases ht2 with ha | ht2
  · rw [ha]; simp
  · rw [decide_eq_false (show ¬ s.t + 1 < (rd_T41 (rd_T39 l s.plan).f1 s.stage).f2 by have : (St l s).f2 ≤ s.t + 1 := ht2; simp only [St, P] at this; omega)]; simp
/-! ### a machine that stops -/
end Go.Proofs.YtechgjbhgeddjaaDoor.PV
