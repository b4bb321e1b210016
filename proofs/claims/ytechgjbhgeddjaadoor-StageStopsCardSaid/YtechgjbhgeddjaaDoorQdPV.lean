/- Plain laws on signal machines: several ticks, what a tick does in each phase, a machine that stops (own text). -/
import Derived.Test.YtechgjbhgeddjaaDoorQdPU
namespace Go.Proofs.YtechgjbhgeddjaaDoor.PV
open Go.RowKit Go.Proofs.YtechgjbhgeddjaaDoorW.PrintWords Go.Proofs.YtechgjbhgeddjaaDoorW.PrintLast Go.Proofs.YtechgjbhgeddjaaDoorW.PrintMore Go.Proofs.YtechgjbhgeddjaaDoor.F Go.Proofs.YtechgjbhgeddjaaDoor.PG Go.Proofs.YtechgjbhgeddjaaDoor.PM Go.Proofs.YtechgjbhgeddjaaDoor.PP Go.Proofs.YtechgjbhgeddjaaDoor.PQ Go.Proofs.YtechgjbhgeddjaaDoor.PL Go.Proofs.YtechgjbhgeddjaaDoor.PT Go.Proofs.YtechgjbhgeddjaaDoor.PU
set_option linter.unusedSimpArgs false
/-! ### several ticks -/
def tickN (l : List S39) : Nat → Sg → Sg
  | 0, s => s
  | n + 1, s => tickN l n (stage_tickB.f l s)
def rowsN (l : List S39) : Nat → Sg → List (List Int)
  | 0, _ => []
  | n + 1, s => lampsB l (stage_tickB.f l s) :: rowsN l n (stage_tickB.f l s)
theorem rowsN_len (l : List S39) : ∀ n s, (rowsN l n s).length = n
  | 0, _ => rfl
  | n + 1, s => by rw [rowsN, List.length_cons, rowsN_len l n]
theorem tickN_may {l : List S39} : ∀ n {s : Sg}, May l s → May l (tickN l n s)
  | 0, _, h => h
  | n + 1, _, h => tickN_may n (tick_may h)
/-- The flat answer of a function that returns a machine, and rows. -/
abbrev rn (s : Sg) (x : List (List Int)) : Int × Int × Int × Int × Int × Int × Int × Int × Int × Bool × List (List Int) := (s.plan, s.stage, s.next, s.phase, s.t, s.hold, s.held, s.ask, s.want, s.stop, x)
theorem run_loop (l : List S39) (N : Nat) (hN : N ≤ 2000) : ∀ d k : Nat, k + d = N → ∀ (s : Sg) (acc : List (List Int)), May l s → acc.length = k → Ev (fun n => stage_Run.l0 n l acc (N : Int) (k : Int) s.plan s.stage s.next s.phase s.t s.hold s.held s.ask s.want s.stop) (rn (tickN l d s) (acc ++ rowsN l d s)) := by
  intro d
  induction d with
  | zero =>
    intro k hk s acc _ _
    refine Ev.step (f := fun _ => some (rn (tickN l 0 s) (acc ++ rowsN l 0 s))) (fun n => ?_) (Ev.now _)
    simp only [stage_Run.l0]
    rw [if_neg (by omega)]
    simp [tickN, rowsN]
  | succ d ih =>
    intro k hk s acc h hacc
    have h2 := tick_may h
    have e1 : ((k : Int) + 1) = ((k + 1 : Nat) : Int) := by omega
    have hrec := ih (k + 1) (by omega) (stage_tickB.f l s) (acc ++ [lampsB l (stage_tickB.f l s)]) h2 (by rw [List.length_append, hacc]; rfl)
    have hl := lamps_ev l (stage_tickB.f l s) h2.wf
    have e2 : rn (tickN l (d + 1) s) (acc ++ rowsN l (d + 1) s) = rn (tickN l d (stage_tickB.f l s)) ((acc ++ [lampsB l (stage_tickB.f l s)]) ++ rowsN l d (stage_tickB.f l s)) := by rw [tickN, rowsN, List.append_assoc]; rfl
    rw [e2]
    refine Ev.step (fun n => ?_) (Ev.bind (f := fun n t162 => stage_Run.l0 n l (acc ++ [t162]) (N : Int) ((k + 1 : Nat) : Int) (stage_tickB.f l s).plan (stage_tickB.f l s).stage (stage_tickB.f l s).next (stage_tickB.f l s).phase (stage_tickB.f l s).t (stage_tickB.f l s).hold (stage_tickB.f l s).held (stage_tickB.f l s).ask (stage_tickB.f l s).want (stage_tickB.f l s).stop) hl hrec)
    simp only [stage_Run.l0]
    rw [if_pos (by omega), tick_f, Option.bind_some, wr (by omega) (by omega), e1]
    have hlt : acc.length < 5864062014805 := by omega
    simp only [hlt, if_true]
theorem run_ev {l : List S39} {s : Sg} (h : May l s) {n : Nat} (hn : n ≤ 2000) : Ev (fun k => stage_Run.f k l s.plan s.stage s.next s.phase s.t s.hold s.held s.ask s.want s.stop (n : Int)) (rn (tickN l n s) (rowsN l n s)) := by
  refine Ev.congr (fun n => rfl) (Ev.bind (may_rounds l s) ?_)
  rw [may_to h]
  have e : decide ((0 : Int) ≤ (n : Int) ∧ (n : Int) ≤ 2000) = true := decide_eq_true (by omega)
  simp only [if_true, stin_some, Option.bind_some, e, Bool.not_true]
  have := run_loop l n hn n 0 (Nat.zero_add _) s [] h rfl
  refine Ev.step (fun k => ?_) this
  simp only [stage_Run.j0, Bool.false_eq_true, if_false]
  rfl
/-! ### what a tick does, by phase -/
theorem tick_amber_stay {l : List S39} {s : Sg} (h : May l s) (hp : s.phase = 1) (ht : s.t + 1 ≠ (P l s).f2) : stage_tickB.f l s = { s with t := s.t + 1 } := by
  unfold stage_tickB.f stage_amberB.f
  rw [if_pos (may_to h), if_neg (by omega), if_pos hp, if_neg ht]
theorem tick_amber_end {l : List S39} {s : Sg} (h : May l s) (hp : s.phase = 1) (ht : s.t + 1 = (P l s).f2) : stage_tickB.f l s = { s with phase := 2, t := 0 } := by
  unfold stage_tickB.f stage_amberB.f
  rw [if_pos (may_to h), if_neg (by omega), if_pos hp, if_pos ht]
theorem mn_le {a b : Int} (h : a ≤ b) : mn a b = a := by unfold mn; split <;> omega
theorem mn_ge {a b : Int} (h : b ≤ a) : mn a b = b := by unfold mn; split <;> omega
theorem tick_red_stay {l : List S39} {s : Sg} (h : May l s) (hp : s.phase = 2) (ht : s.t + 1 < (P l s).f3) : stage_tickB.f l s = { s with t := s.t + 1 } := by
  simp only [P] at ht
  unfold stage_tickB.f stage_redB.f
  rw [if_pos (may_to h), if_neg (by omega), if_neg (by omega), mn_le (by omega), if_pos (.inl ht)]
theorem tick_red_stop {l : List S39} {s : Sg} (h : May l s) (hp : s.phase = 2) (ht : (P l s).f3 ≤ s.t + 1) (hs : s.stop = true) : stage_tickB.f l s = { s with t := (P l s).f3 } := by
  simp only [P] at ht
  unfold stage_tickB.f stage_redB.f
  rw [if_pos (may_to h), if_neg (by omega), if_neg (by omega), mn_ge (by omega), if_pos (.inr hs)]
def asked (s : Sg) : Bool := s.stop || decide (s.ask ≠ -1) || decide (s.want ≠ -1)
theorem tick_green_stay {l : List S39} {s : Sg} (h : May l s) (hp : s.phase = 0) (hh : s.hold = 0) (ht : s.t + 1 < (St l s).f1 ∨ (asked s = false ∧ s.t + 1 < (St l s).f2)) : stage_tickB.f l s = { s with t := s.t + 1 } := by
  have h1 := h.t
  unfold stage_tickB.f stage_greenB.f
  rw [if_pos (may_to h), if_pos hp, if_neg (by omega), wr (by omega) (by omega), if_pos]
  unfold asked at ht
  rcases ht with ht | ⟨ha, ht⟩
  · rw [decide_eq_true ht, Bool.true_or]
  · rw [ha, decide_eq_true (show s.t + 1 < (rd_T41 (rd_T39 l s.plan).f1 s.stage).f2 from ht)]
    simp
theorem tick_green_end {l : List S39} {s : Sg} (h : May l s) (hp : s.phase = 0) (hh : s.hold = 0) (ht : (St l s).f1 ≤ s.t + 1) (ht2 : asked s = true ∨ (St l s).f2 ≤ s.t + 1) : stage_tickB.f l s = { s with t := 0, next := (if s.ask = -1 then Int.tmod (s.stage + 1) ((P l s).f1.length : Int) else s.ask), phase := 1, held := 0, ask := -1 } := by
  have h1 := h.t
  unfold stage_tickB.f stage_greenB.f
  rw [if_pos (may_to h), if_pos hp, if_neg (by omega), wr (by omega) (by omega), if_neg]
  unfold asked at ht2
  rw [decide_eq_false (show ¬ s.t + 1 < (rd_T41 (rd_T39 l s.plan).f1 s.stage).f1 by have : (St l s).f1 ≤ s.t + 1 := ht; simp only [St, P] at this; omega), Bool.false_or]
  rcases ht2 with ha | ht2
  · rw [ha]; simp
  · rw [decide_eq_false (show ¬ s.t + 1 < (rd_T41 (rd_T39 l s.plan).f1 s.stage).f2 by have : (St l s).f2 ≤ s.t + 1 := ht2; simp only [St, P] at this; omega)]; simp
/-- All red. -/
theorem lamps_red {l : List S39} {s : Sg} (h : May l s) (hp : s.phase = 2) : ∀ x ∈ lampsB l s, x = 0 := by
  unfold lampsB
  rw [if_pos (may_to h), hp]
  unfold lamp_showL.f lamp_on.f
  intro x hx
  rw [List.mem_map] at hx
  obtain ⟨j, _, rfl⟩ := hx
  split <;> rfl
theorem rows_red {l : List S39} : ∀ (n : Nat) {s : Sg}, May l s → (∀ j, j < n → (tickN l (j + 1) s).phase = 2) → ∀ y ∈ rowsN l n s, ∀ x ∈ y, x = 0
  | 0, s, _, _ => by intro y hy; cases hy
  | n + 1, s, h, hj => by
    intro y hy
    rw [rowsN] at hy
    have h2 := tick_may h
    rcases List.mem_cons.1 hy with rfl | hy
    · exact lamps_red h2 (hj 0 (by omega))
    · exact rows_red n h2 (fun j hlt => hj (j + 1) (by omega)) y hy
/-! ### a machine that stops -/
def left_ (l : List S39) (s : Sg) : Int := if s.phase = 0 then (if (St l s).f1 - s.t ≤ 1 then 1 else (St l s).f1 - s.t) + (P l s).f2 + (P l s).f3 else if s.phase = 1 then (P l s).f2 - s.t + (P l s).f3 else (P l s).f3 - s.t
theorem stop_tick {l : List S39} {s : Sg} (h : May l s) (hs : s.stop = true) : (stage_tickB.f l s).stop = true ∧ (stage_tickB.f l s).plan = s.plan ∧ (0 < left_ l s → left_ l (stage_tickB.f l s) = left_ l s - 1) ∧ (left_ l s = 0 → stage_tickB.f l s = s) ∧ 0 ≤ left_ l s := by
  have hsp := h.span
  have ha := h.fits.amber
  have hr := h.fits.red
  by_cases p0 : s.phase = 0
  · obtain ⟨g1, g2, g3⟩ := h.green p0
    have hh : s.hold = 0 := by have := h.hold; have : ¬ 0 < s.hold := fun hx => g3 ⟨hs, hx⟩; omega
    by_cases hm : s.t + 1 < (St l s).f1
    · rw [tick_green_stay h p0 hh (.inl hm)]
      refine ⟨hs, rfl, fun _ => ?_, fun h0 => ?_, ?_⟩
      · show (if s.phase = 0 then (if (St l s).f1 - (s.t + 1) ≤ 1 then 1 else (St l s).f1 - (s.t + 1)) + (P l s).f2 + (P l s).f3 else _) = _ - 1
        unfold left_
        rw [if_pos p0, if_pos p0]
        split <;> split <;> omega
      · unfold left_ at h0
        rw [if_pos p0] at h0
        split at h0 <;> omega
      · unfold left_
        rw [if_pos p0]
        split <;> omega
    · rw [tick_green_end h p0 hh (by omega) (.inl (by unfold asked; rw [hs]; rfl))]
      refine ⟨hs, rfl, fun _ => ?_, fun h0 => ?_, ?_⟩
      · show (if (1 : Int) = 0 then _ else if (1 : Int) = 1 then (P l s).f2 - 0 + (P l s).f3 else _) = _ - 1
        unfold left_
        rw [if_pos p0, if_neg (by decide), if_pos rfl, if_pos (by omega)]
        omega
      · unfold left_ at h0
        rw [if_pos p0] at h0
        split at h0 <;> omega
      · unfold left_
        rw [if_pos p0]
        split <;> omega
  · obtain ⟨g1, g2, g3, g4, g5⟩ := h.other p0
    by_cases p1 : s.phase = 1
    · rw [if_pos p1] at g5
      by_cases ht : s.t + 1 = (P l s).f2
      · rw [tick_amber_end h p1 ht]
        refine ⟨hs, rfl, fun _ => ?_, fun h0 => ?_, ?_⟩
        · show (if (2 : Int) = 0 then _ else if (2 : Int) = 1 then _ else (P l s).f3 - 0) = _ - 1
          unfold left_
          rw [if_neg (by decide), if_neg (by decide), if_neg p0, if_pos p1]
          omega
        · unfold left_ at h0
          rw [if_neg p0, if_pos p1] at h0
          omega
        · unfold left_
          rw [if_neg p0, if_pos p1]
          omega
      · rw [tick_amber_stay h p1 ht]
        refine ⟨hs, rfl, fun _ => ?_, fun h0 => ?_, ?_⟩
        · show (if s.phase = 0 then _ else if s.phase = 1 then (P l s).f2 - (s.t + 1) + (P l s).f3 else _) = _ - 1
          unfold left_
          rw [if_neg p0, if_pos p1, if_neg p0, if_pos p1]
          omega
        · unfold left_ at h0
          rw [if_neg p0, if_pos p1] at h0
          omega
        · unfold left_
          rw [if_neg p0, if_pos p1]
          omega
    · have p2 : s.phase = 2 := by have := h.phase; omega
      rw [if_neg p1] at g5
      by_cases ht : s.t + 1 < (P l s).f3
      · rw [tick_red_stay h p2 ht]
        refine ⟨hs, rfl, fun _ => ?_, fun h0 => ?_, ?_⟩
        · show (if s.phase = 0 then _ else if s.phase = 1 then _ else (P l s).f3 - (s.t + 1)) = _ - 1
          unfold left_
          rw [if_neg p0, if_neg p1, if_neg p0, if_neg p1]
          omega
        · unfold left_ at h0
          rw [if_neg p0, if_neg p1] at h0
          omega
        · unfold left_
          rw [if_neg p0, if_neg p1]
          omega
      · rw [tick_red_stop h p2 (by omega) hs]
        refine ⟨hs, rfl, fun h0 => ?_, fun h0 => ?_, ?_⟩
        · show (if s.phase = 0 then _ else if s.phase = 1 then _ else (P l s).f3 - (P l s).f3) = _ - 1
          unfold left_ at h0 ⊢
          rw [if_neg p0, if_neg p1] at h0
          rw [if_neg p0, if_neg p1, if_neg p0, if_neg p1]
          omega
        · unfold left_ at h0
          rw [if_neg p0, if_neg p1] at h0
          rw [show (P l s).f3 = s.t by omega]
        · unfold left_
          rw [if_neg p0, if_neg p1]
          omega
theorem stop_run {l : List S39} : ∀ (n : Nat) {s : Sg}, May l s → s.stop = true → left_ l s ≤ (n : Int) → left_ l (tickN l n s) = 0 ∧ (tickN l n s).stop = true ∧ (tickN l n s).plan = s.plan
  | 0, s, h, hs, hn => by
    have := stop_tick h hs
    rw [tickN]
    exact ⟨by omega, hs, rfl⟩
  | n + 1, s, h, hs, hn => by
    obtain ⟨g1, g2, g3, g4, g5⟩ := stop_tick h hs
    have h2 := tick_may h
    rw [tickN]
    by_cases h0 : 0 < left_ l s
    · obtain ⟨k1, k2, k3⟩ := stop_run n h2 g1 (by rw [g3 h0]; omega)
      exact ⟨k1, k2, k3.trans g2⟩
    · have e := g4 (by omega)
      rw [e]
      exact stop_run n h hs (by omega)
theorem stop_done {l : List S39} {s : Sg} (h : May l s) (h0 : left_ l s = 0) : s.phase = 2 ∧ s.t = (P l s).f3 := by
  have hsp := h.span
  have ha := h.fits.amber
  have hr := h.fits.red
  unfold left_ at h0
  by_cases p0 : s.phase = 0
  · rw [if_pos p0] at h0
    split at h0 <;> omega
  · have ho := h.other p0
    by_cases p1 : s.phase = 1
    · rw [if_neg p0, if_pos p1] at h0
      rw [if_pos p1] at ho
      omega
    · rw [if_neg p0, if_neg p1] at h0
      exact ⟨by have := h.phase; omega, by omega⟩
theorem stop_stays {l : List S39} {s : Sg} (h : May l s) (hs : s.stop = true) (h0 : left_ l s = 0) : ∀ n, tickN l n s = s
  | 0 => rfl
  | n + 1 => by rw [tickN, (stop_tick h hs).2.2.2.1 h0]; exact stop_stays h hs h0 n
theorem left_le {l : List S39} {s : Sg} (h : May l s) : left_ l s ≤ (St l s).f2 + (P l s).f2 + (P l s).f3 := by
  have hsp := h.span
  have ht := h.t
  have ha := h.fits.amber
  have hr := h.fits.red
  unfold left_
  split
  · split <;> omega
  · split <;> omega
end Go.Proofs.YtechgjbhgeddjaaDoor.PV
