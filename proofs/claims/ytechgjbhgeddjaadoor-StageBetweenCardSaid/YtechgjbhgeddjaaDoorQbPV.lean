/- Plain laws on signal machines: several ticks, what a tick does in each phase, a machine that stops (own text). -/
import Derived.Test.YtechgjbhgeddjaaDoorQbPU
namespace Go.Proofs.YtechgjbhgeddjaaDoor.PV
open Go.RowKit Go.Proofs.YtechgjbhgeddjaaDoorW.PrintWords Go.Proofs.YtechgjbhgeddjaaDoorW.PrintLast Go.Proofs.YtechgjbhgeddjaaDoorW.PrintMore Go.Proofs.YtechgjbhgeddjaaDoor.F Go.Proofs.YtechgjbhgeddjaaDoor.PG Go.Proofs.YtechgjbhgeddjaaDoor.PM Go.Proofs.YtechgjbhgeddjaaDoor.PP Go.Proofs.YtechgjbhgeddjaaDoor.PQ Go.Proofs.YtechgjbhgeddjaaDoor.PL Go.Proofs.YtechgjbhgeddjaaDoor.PT Go.Proofs.YtechgjbhgeddjaaDoor.PU
set_option linter.unusedSimpArgs false
/-! ### several ticks -/
def tickN (l : List S39) : Nat → Sg → Sg
  | 0, s => s
  | n + 1, s => tickN l n (stage_tickB.f l s)
def rowsN (l : List S39) : Nat → Sg → List (List Int)
  | 0, _ => []
  | n + 1, s => lampsB l (stage_tickB.f l s) :: rowsN l n (stage_tickB.f l s)
theorem rowsN_len (l : List S39) : ∀ n s, (rowsN l n s).length = n
  | 0, _ => rfl
  | n + 1, s => by rw [rowsN, List.length_cons, rowsN_len l n]
theorem tickN_may {l : List S39} : ∀ n {s : Sg}, May l s → May l (tickN l n s)
  | 0, _, h => h
  | n + 1, _, h => tickN_may n (tick_may h)
/-- The flat answer of a function that returns a machine, and rows. -/
abbrev rn (s : Sg) (x : List (List Int)) : Int × Int × Int × Int × Int × Int × Int × Int × Int × Bool × List (List Int) := (s.plan, s.stage, s.next, s.phase, s.t, s.hold, s.held, s.ask, s.want, s.stop, x)
theorem run_loop (l : List S39) (N : Nat) (hN : N ≤ 2000) : ∀ d k : Nat, k + d = N → ∀ (s : Sg) (acc : List (List Int)), May l s → acc.length = k → Ev (fun n => stage_Run.l0 n l acc (N : Int) (k : Int) s.plan s.stage s.next s.phase s.t s.hold s.held s.ask s.want s.stop) (rn (tickN l d s) (acc ++ rowsN l d s)) := by
  intro d
  induction d with
  | zero =>
    intro k hk s acc _ _
    refine Ev.step (f := fun _ => some (rn (tickN l 0 s) (acc ++ rowsN l 0 s))) (fun n => ?_) (Ev.now _)
    simp only [stage_Run.l0]
    rw [if_neg (by omega)]
    simp [tickN, rowsN]
  | succ d ih =>
    intro k hk s acc h hacc
    have h2 := tick_may h
    have e1 : ((k : Int) + 1) = ((k + 1 : Nat) : Int) := by omega
    have hrec := ih (k + 1) (by omega) (stage_tickB.f l s) (acc ++ [lampsB l (stage_tickB.f l s)]) h2 (by rw [List.length_append, hacc]; rfl)
    have hl := lamps_ev l (stage_tickB.f l s) h2.wf
    have e2 : rn (tickN l (d + 1) s) (acc ++ rowsN l (d + 1) s) = rn (tickN l d (stage_tickB.f l s)) ((acc ++ [lampsB l (stage_tickB.f l s)]) ++ rowsN l d (stage_tickB.f l s)) := by rw [tickN, rowsN, List.append_assoc]; rfl
    rw [e2]
    refine Ev.step (fun n => ?_) (Ev.bind (f := fun n t162 => stage_Run.l0 n l (acc ++ [t162]) (N : Int) ((k + 1 : Nat) : Int) (stage_tickB.f l s).plan (stage_tickB.f l s).stage (stage_tickB.f l s).next (stage_tickB.f l s).phase (stage_tickB.f l s).t (stage_tickB.f l s).hold (stage_tickB.f l s).held (stage_tickB.f l s).ask (stage_tickB.f l s).want (stage_tickB.f l s).stop) hl hrec)
    simp only [stage_Run.l0]
    rw [if_pos (by omega), tick_f, Option.bind_some, wr (by omega) (by omega), e1]
    have hlt : acc.length < 5864062014805 := by omega
    simp only [hlt, if_true]
theorem run_ev {l : List S39} {s : Sg} (h : May l s) {n : Nat} (hn : n ≤ 2000) : Ev (fun k => stage_Run.f k l s.plan s.stage s.next s.phase s.t s.hold s.held s.ask s.want s.stop (n : Int)) (rn (tickN l n s) (rowsN l n s)) := by
  refine Ev.congr (fun n => rfl) (Ev.bind (may_rounds l s) ?_)
  rw [may_to h]
  have e : decide ((0 : Int) ≤ (n : Int) ∧ (n : Int) ≤ 2000) = true := decide_eq_true (by omega)
  simp only [if_true, stin_some, Option.bind_some, e, Bool.not_true]
  have := run_loop l n hn n 0 (Nat.zero_add _) s [] h rfl
  refine Ev.step (fun k => ?_) this
  simp only [stage_Run.j0, Bool.false_eq_true, if_false]
  rfl
/-! ### what a tick does, by phase -/
theorem tick_amber_stay {l : List S39} {s : Sg} (h : May l s) (hp : s.phase = 1) (ht : s.t + 1 ≠ (P l s).f2) : stage_tickB.f l s = { s with t := s.t + 1 } := by
  unfold stage_tickB.f stage_amberB.f
  rw [if_pos (may_to h), if_neg (by omega), if_pos hp, if_neg ht]
theorem tick_amber_end {l : List S39} {s : Sg} (h : May l s) (hp : s.phase = 1) (ht : s.t + 1 = (P l s).f2) : stage_tickB.f l s = { s with phase := 2, t := 0 } := by
  unfold stage_tickB.f stage_amberB.f
  rw [if_pos (may_to h), if_neg (by omega), if_pos hp, if_pos ht]
theorem mn_le {a b : Int} (h : a ≤ b) : mn a b = a := by unfold mn; split <;> omega
theorem mn_ge {a b : Int} (h : b ≤ a) : mn a b = b := by unfold mn; split <;> omega
theorem tick_red_stay {l : List S39} {s : Sg} (h : May l s) (hp : s.phase = 2) (ht : s.t + 1 < (P l s).f3) : stage_tickB.f l s = { s with t := s.t + 1 } := by
  simp only [P] at ht
  unfold stage_tickB.f stage_redB.f
  rw [if_pos (may_to h), if_neg (by omega), if_neg (by omega), mn_le (by omega), if_pos (.inl ht)]
theorem tick_red_stop {l : List S39} {s : Sg} (h : May l s) (hp : s.phase = 2) (ht : (P l s).f3 ≤ s.t + 1) (hs : s.stop = true) : stage_tickB.f l s = { s with t := (P l s).f3 } := by
  simp only [P] at ht
  unfold stage_tickB.f stage_redB.f
  rw [if_pos (may_to h), if_neg (by omega), if_neg (by omega), mn_ge (by omega), if_pos (.inr hs)]
theorem tick_red_want {l : List S39} {s : Sg} (h : May l s) (hp : s.phase = 2) (ht : (P l s).f3 ≤ s.t + 1) (hs : s.stop = false) (hw : s.want ≠ -1) : stage_tickB.f l s = { s with plan := s.want, want := -1, next := 0, phase := 0, stage := 0, t := 0 } := by
  simp only [P] at ht
  unfold stage_tickB.f stage_redB.f
  rw [if_pos (may_to h), if_neg (by omega), if_neg (by omega), mn_ge (by omega), if_neg (by rw [hs]; simp), if_pos hw]
theorem tick_red_next {l : List S39} {s : Sg} (h : May l s) (hp : s.phase = 2) (ht : (P l s).f3 ≤ s.t + 1) (hs : s.stop = false) (hw : s.want = -1) : stage_tickB.f l s = { s with phase := 0, stage := s.next, t := 0 } := by
  simp only [P] at ht
  unfold stage_tickB.f stage_redB.f
  rw [if_pos (may_to h), if_neg (by omega), if_neg (by omega), mn_ge (by omega), if_neg (by rw [hs]; simp), if_neg (by simp [hw])]
theorem tick_hold {l : List S39} {s : Sg} (h : May l s) (hp : s.phase = 0) (hh : 0 < s.hold) : stage_tickB.f l s = { s with t := s.t + 1, hold := s.hold - 1, held := s.held + 1 } := by
  have ht := h.t
  unfold stage_tickB.f stage_greenB.f
  rw [if_pos (may_to h), if_pos hp, if_pos hh, wr (by omega) (by omega)]
def asked (s : Sg) : Bool := s.stop || decide (s.ask ≠ -1) || decide (s.want ≠ -1)
theorem tick_green_stay {l : List S39} {s : Sg} (h : May l s) (hp : s.phase = 0) (hh : s.hold = 0) (ht : s.t + 1 < (St l s).f1 ∨ (asked s = false ∧ s.t + 1 < (St l s).f2)) : stage_tickB.f l s = { s with t := s.t + 1 } := by
  have h1 := h.t
  unfold stage_tickB.f stage_greenB.f
  rw [if_pos (may_to h), if_pos hp, if_neg (by omega), wr (by omega) (by omega), if_pos]
  unfold asked at ht
  rcases ht with ht | ⟨ha, ht⟩
  · rw [decide_eq_true ht, Bool.true_or]
  · rw [ha, decide_eq_true (show s.t + 1 < (rd_T41 (rd_T39 l s.plan).f1 s.stage).f2 from ht)]
    simp
theorem tick_green_end {l : List S39} {s : Sg} (h : May l s) (hp : s.phase = 0) (hh : s.hold = 0) (ht : (St l s).f1 ≤ s.t + 1) (ht2 : asked s = true ∨ (St l s).f2 ≤ s.t + 1) : stage_tickB.f l s = { s with t := 0, next := (if s.ask = -1 then Int.tmod (s.stage + 1) ((P l s).f1.length : Int) else s.ask), phase := 1, held := 0, ask := -1 } := by
  have h1 := h.t
  unfold stage_tickB.f stage_greenB.f
  rw [if_pos (may_to h), if_pos hp, if_neg (by omega), wr (by omega) (by omega), if_neg]
  unfold asked at ht2
  rw [decide_eq_false (show ¬ s.t + 1 < (rd_T41 (rd_T39 l s.plan).f1 s.stage).f1 by have : (St l s).f1 ≤ s.t + 1 := ht; simp only [St, P] at this; omega), Bool.false_or]
  rcases ht2 with ha | ht2
  · rw [ha]; simp
  · rw [decide_eq_false (show ¬ s.t + 1 < (rd_T41 (rd_T39 l s.plan).f1 s.stage).f2 by have : (St l s).f2 ≤ s.t + 1 := ht2; simp only [St, P] at this; omega)]; simp
/-- All red. -/
theorem lamps_red {l : List S39} {s : Sg} (h : May l s) (hp : s.phase = 2) : ∀ x ∈ lampsB l s, x = 0 := by
  unfold lampsB
  rw [if_pos (may_to h), hp]
  unfold lamp_showL.f lamp_on.f
  intro x hx
  rw [List.mem_map] at hx
  obtain ⟨j, _, rfl⟩ := hx
  split <;> rfl
theorem amber_run {l : List S39} : ∀ (k : Nat) {s : Sg}, May l s → s.phase = 1 → s.t + (k : Int) ≤ (P l s).f2 - 1 → tickN l k s = { s with t := s.t + (k : Int) }
  | 0, s, _, _, _ => by rw [tickN]; show s = { s with t := s.t + 0 }; rw [Int.add_zero]
  | k + 1, s, h, hp, hk => by
    have hk' : s.t + ((k : Int) + 1) ≤ (P l s).f2 - 1 := by omega
    have e := tick_amber_stay h hp (by omega)
    have h2 := tick_may h
    rw [tickN]
    rw [e] at h2 ⊢
    rw [amber_run k h2 hp (by show s.t + 1 + (k : Int) ≤ (P l s).f2 - 1; omega)]
    show { s with t := s.t + 1 + (k : Int) } = ({ s with t := s.t + ((k + 1 : Nat) : Int) } : Sg)
    rw [show s.t + 1 + (k : Int) = s.t + ((k + 1 : Nat) : Int) by omega]
theorem red_run {l : List S39} : ∀ (k : Nat) {s : Sg}, May l s → s.phase = 2 → s.t + (k : Int) < (P l s).f3 → tickN l k s = { s with t := s.t + (k : Int) }
  | 0, s, _, _, _ => by rw [tickN]; show s = { s with t := s.t + 0 }; rw [Int.add_zero]
  | k + 1, s, h, hp, hk => by
    have hk' : s.t + ((k : Int) + 1) < (P l s).f3 := by omega
    have e := tick_red_stay h hp (by omega)
    have h2 := tick_may h
    rw [tickN]
    rw [e] at h2 ⊢
    rw [red_run k h2 hp (by show s.t + 1 + (k : Int) < (P l s).f3; omega)]
    show { s with t := s.t + 1 + (k : Int) } = ({ s with t := s.t + ((k + 1 : Nat) : Int) } : Sg)
    rw [show s.t + 1 + (k : Int) = s.t + ((k + 1 : Nat) : Int) by omega]
theorem rows_red {l : List S39} : ∀ (n : Nat) {s : Sg}, May l s → (∀ j, j < n → (tickN l (j + 1) s).phase = 2) → ∀ y ∈ rowsN l n s, ∀ x ∈ y, x = 0
  | 0, s, _, _ => by intro y hy; cases hy
  | n + 1, s, h, hj => by
    intro y hy
    rw [rowsN] at hy
    have h2 := tick_may h
    rcases List.mem_cons.1 hy with rfl | hy
    · exact lamps_red h2 (hj 0 (by omega))
    · exact rows_red n h2 (fun j hlt => hj (j + 1) (by omega)) y hy
/-- Behind the end of a green: amber, then all red. -/
theorem between {l : List S39} {t : Sg} (h : May l t) (hp : t.phase = 1) (ht : t.t = 0) : ∃ A R : Nat, (P l t).f2 = (A : Int) + 1 ∧ (P l t).f3 = (R : Int) + 1 ∧ A ≤ 200 ∧ R ≤ 200 ∧
    tickN l A t = { t with t := (A : Int) } ∧ tickN l (R + 1) { t with t := (A : Int) } = { t with phase := 2, t := (R : Int) } ∧ (∀ y ∈ rowsN l (R + 1) { t with t := (A : Int) }, ∀ x ∈ y, x = 0) := by
  have ha := h.fits.amber
  have hr := h.fits.red
  obtain ⟨A, hA⟩ := Int.eq_ofNat_of_zero_le (show 0 ≤ (P l t).f2 - 1 by omega)
  obtain ⟨R, hR⟩ := Int.eq_ofNat_of_zero_le (show 0 ≤ (P l t).f3 - 1 by omega)
  have e1 : tickN l A t = { t with t := (A : Int) } := by
    rw [amber_run A h hp (by omega), ht, Int.zero_add]
  have h2 : May l { t with t := (A : Int) } := by rw [← e1]; exact tickN_may A h
  have e2 : stage_tickB.f l { t with t := (A : Int) } = { t with phase := 2, t := 0 } := tick_amber_end h2 hp (by show (A : Int) + 1 = (P l t).f2; omega)
  have h3 : May l { t with phase := 2, t := 0 } := by rw [← e2]; exact tick_may h2
  have e3 : ∀ k : Nat, k ≤ R → tickN l k { t with phase := 2, t := 0 } = { t with phase := 2, t := (k : Int) } := fun k hk => by
    rw [red_run k h3 rfl (by show (0 : Int) + (k : Int) < (P l t).f3; omega)]
    show ({ t with phase := 2, t := (0 : Int) + (k : Int) } : Sg) = { t with phase := 2, t := (k : Int) }
    rw [Int.zero_add]
  refine ⟨A, R, by omega, by omega, by omega, by omega, e1, ?_, rows_red _ h2 fun j hj => ?_⟩
  · rw [tickN, e2, e3 R (Nat.le_refl _)]
  · rw [tickN, e2, e3 j (by omega)]
/-! ### a machine that stops -/
end Go.Proofs.YtechgjbhgeddjaaDoor.PV
