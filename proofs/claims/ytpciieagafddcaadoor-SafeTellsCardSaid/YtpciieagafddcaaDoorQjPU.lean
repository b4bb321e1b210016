/- Plain laws on signal machines: what may be stays so by a tick; what it shows (own text). -/
import Derived.Test.YtpciieagafddcaaDoorQjPQ
namespace Go.Proofs.YtpciieagafddcaaDoor.PU
open Go.RowKit Go.Proofs.YtpciieagafddcaaDoorW.PrintWords Go.Proofs.YtpciieagafddcaaDoorW.PrintLast Go.Proofs.YtpciieagafddcaaDoorW.PrintMore Go.Proofs.YtpciieagafddcaaDoor.F Go.Proofs.YtpciieagafddcaaDoor.PG Go.Proofs.YtpciieagafddcaaDoor.PM Go.Proofs.YtpciieagafddcaaDoor.PP Go.Proofs.YtpciieagafddcaaDoor.PQ Go.Proofs.YtpciieagafddcaaDoor.PL Go.Proofs.YtpciieagafddcaaDoor.PT
set_option linter.unusedSimpArgs false
def Wf (s : Sg) : Prop := -9223372036854775808 ≤ s.t ∧ s.t ≤ 9223372036854775807
def allB (l : List S25) : Bool := decide (1 ≤ l.length ∧ l.length ≤ 3) && !(l.any (plan_badB.f (rd_T25 l 0).f0.length))
abbrev P (l : List S25) (s : Sg) : S25 := rd_T25 l s.plan
abbrev St (l : List S25) (s : Sg) : S87 := rd_T87 (P l s).f1 s.stage
structure May (l : List S25) (s : Sg) : Prop where
  all : allB l = true
  plan : 0 ≤ s.plan ∧ s.plan < (l.length : Int)
  stage : 0 ≤ s.stage ∧ s.stage < ((P l s).f1.length : Int)
  next : 0 ≤ s.next ∧ s.next < ((P l s).f1.length : Int)
  ask : -1 ≤ s.ask ∧ s.ask < ((P l s).f1.length : Int)
  want : -1 ≤ s.want ∧ s.want < (l.length : Int)
  phase : 0 ≤ s.phase ∧ s.phase < 3
  held : 0 ≤ s.held ∧ s.held ≤ (P l s).f4
  hold : 0 ≤ s.hold ∧ s.hold ≤ (P l s).f4 - s.held
  green : s.phase = 0 → s.held ≤ s.t ∧ s.t - s.held < (St l s).f2 ∧ ¬ (s.stop = true ∧ 0 < s.hold)
  other : s.phase ≠ 0 → s.hold = 0 ∧ s.held = 0 ∧ s.ask = -1 ∧ 0 ≤ s.t ∧ s.t ≤ (if s.phase = 1 then (P l s).f2 - 1 else (P l s).f3)
theorem fits_at {l : List S25} (h : allB l = true) {k : Int} (h0 : 0 ≤ k) (h1 : k < (l.length : Int)) : Fits (rd_T25 l k).f0 (rd_T25 l k).f1 (rd_T25 l k).f2 (rd_T25 l k).f3 (rd_T25 l k).f4 ∧ (rd_T25 l k).f0.length = (rd_T25 l 0).f0.length := may_plan h h0 h1
theorem May.fits {l : List S25} {s : Sg} (h : May l s) : Fits (P l s).f0 (P l s).f1 (P l s).f2 (P l s).f3 (P l s).f4 := (fits_at h.all h.plan.1 h.plan.2).1
theorem fits_stage {m : List Int} {ss : List S87} {am red hold : Int} (h : Fits m ss am red hold) {k : Int} (h0 : 0 ≤ k) (h1 : k < (ss.length : Int)) : (1 ≤ (rd_T87 ss k).f1 ∧ (rd_T87 ss k).f1 ≤ 200) ∧ ((rd_T87 ss k).f1 ≤ (rd_T87 ss k).f2 ∧ (rd_T87 ss k).f2 ≤ 200) := by
  obtain ⟨j, rfl⟩ := Int.eq_ofNat_of_zero_le h0
  have hj : j < ss.length := by omega
  rw [rd_stage ss hj]
  exact (h.stage _ (List.getElem_mem hj)).2.2
theorem May.span {l : List S25} {s : Sg} (h : May l s) : (1 ≤ (St l s).f1 ∧ (St l s).f1 ≤ 200) ∧ ((St l s).f1 ≤ (St l s).f2 ∧ (St l s).f2 ≤ 200) := fits_stage h.fits h.stage.1 h.stage.2
theorem may_of {l : List S25} {s : Sg} (hw : Wf s) (h : stage_mayB.f l s = true) : May l s := by
  obtain ⟨h1, h2, h3, h4, h5, h6, h7, h8, h9, h10⟩ := mayB_parts h
  refine ⟨mayB_all h, h1, h2, h3, h4, h5, h6, h7, h8, fun hp => ?_, h10⟩
  obtain ⟨g1, g2, g3⟩ := h9 hp
  refine ⟨g1, ?_, g3⟩
  have hf := (fits_at (mayB_all h) h1.1 h1.2).1.hold
  unfold Wf at hw
  rw [wr (by omega) (by omega)] at g2
  exact g2
theorem May.t {l : List S25} {s : Sg} (h : May l s) : 0 ≤ s.t ∧ s.t ≤ 500 := by
  have h1 := h.span
  have h2 := h.fits.hold
  have h3 := h.fits.amber
  have h4 := h.fits.red
  have h5 := h.held
  by_cases hp : s.phase = 0
  · have := h.green hp
    omega
  · have := h.other hp
    split at this <;> omega
theorem May.wf {l : List S25} {s : Sg} (h : May l s) : Wf s := by have := h.t; unfold Wf; omega
theorem may_to {l : List S25} {s : Sg} (h : May l s) : stage_mayB.f l s = true := by
  have ht := h.t
  have h5 := h.held
  have h6 := h.fits.hold
  unfold stage_mayB.f
  rw [Bool.and_eq_true]
  refine ⟨h.all, ?_⟩
  simp only [Bool.and_eq_true, decide_eq_true_eq]
  refine ⟨h.plan, h.stage, h.next, h.ask, h.want, h.phase, h.held, h.hold, ?_⟩
  by_cases hp : s.phase = 0
  · rw [if_pos hp]
    obtain ⟨g1, g2, g3⟩ := h.green hp
    rw [Bool.and_eq_true, decide_eq_true_eq, wr (by omega) (by omega)]
    refine ⟨⟨g1, g2⟩, ?_⟩
    cases hs : s.stop with
    | false => rfl
    | true =>
      have : ¬ (0 < s.hold) := fun hh => g3 ⟨hs, hh⟩
      simp [this]
  · rw [if_neg hp, decide_eq_true_eq]
    exact h.other hp
theorem tmod_rng {a n : Int} (h0 : 0 ≤ a) (hn : 0 < n) : 0 ≤ Int.tmod a n ∧ Int.tmod a n < n := ⟨Int.tmod_nonneg n h0, Int.tmod_lt_of_pos a hn⟩
theorem tick_may {l : List S25} {s : Sg} (h : May l s) : May l (stage_tickB.f l s) := by
  have ht := h.t
  have hsp := h.span
  have hho := h.fits.hold
  have ham := h.fits.amber
  have hre := h.fits.red
  have hfew := h.fits.few
  have h5 := h.held
  have h6 := h.hold
  have h7 := h.stage
  have h8 := h.ask
  simp only [P, St] at hsp hho ham hre hfew h5 h6 h7 h8
  unfold stage_tickB.f
  rw [if_pos (may_to h)]
  by_cases p0 : s.phase = 0
  · rw [if_pos p0]
    obtain ⟨g1, g2, g3⟩ := h.green p0
    simp only [P, St] at g2
    have hw : wrap64 (s.t + 1) = s.t + 1 := wr (by omega) (by omega)
    unfold stage_greenB.f
    rw [hw]
    by_cases hh : 0 < s.hold
    · rw [if_pos hh]
      exact ⟨h.all, h.plan, h.stage, h.next, h.ask, h.want, h.phase, by simp only [P, St]; omega, by simp only [P, St]; omega, fun _ => ⟨by simp only [P, St]; omega, by simp only [P, St]; omega, fun hx => g3 ⟨hx.1, hh⟩⟩, fun hx => absurd p0 hx⟩
    · rw [if_neg hh]
      by_cases hst : (decide (s.t + 1 < (rd_T87 (rd_T25 l s.plan).f1 s.stage).f1) || (!(s.stop || decide (s.ask ≠ -1) || decide (s.want ≠ -1)) && decide (s.t + 1 < (rd_T87 (rd_T25 l s.plan).f1 s.stage).f2))) = true
      · rw [if_pos hst]
        have : s.t + 1 < (rd_T87 (rd_T25 l s.plan).f1 s.stage).f2 := by
          simp only [Bool.or_eq_true, Bool.and_eq_true, decide_eq_true_eq] at hst
          rcases hst with h1 | h1
          · omega
          · exact h1.2
        exact ⟨h.all, h.plan, h.stage, h.next, h.ask, h.want, h.phase, h.held, h.hold, fun _ => ⟨by simp only [P, St]; omega, by simp only [P, St]; omega, g3⟩, fun hx => absurd p0 hx⟩
      · rw [if_neg hst]
        have hn : 0 ≤ (if s.ask = -1 then Int.tmod (s.stage + 1) ((rd_T25 l s.plan).f1.length : Int) else s.ask) ∧ (if s.ask = -1 then Int.tmod (s.stage + 1) ((rd_T25 l s.plan).f1.length : Int) else s.ask) < ((rd_T25 l s.plan).f1.length : Int) := by
          split
          · exact tmod_rng (by omega) (by omega)
          · omega
        refine ⟨h.all, h.plan, h.stage, hn, ⟨by simp, by simp only [P, St]; omega⟩, h.want, ⟨by simp, by simp⟩, ⟨by simp, by simp only [P, St]; omega⟩, ⟨h.hold.1, by simp only [P, St]; omega⟩, fun hx => ?_, fun _ => ?_⟩
        · simp at hx
        · refine ⟨by simp only [P, St]; omega, rfl, rfl, by simp, ?_⟩
          show (0 : Int) ≤ if (1 : Int) = 1 then (rd_T25 l s.plan).f2 - 1 else (rd_T25 l s.plan).f3
          rw [if_pos rfl]
          omega
  · rw [if_neg p0]
    obtain ⟨g1, g2, g3, g4, g5⟩ := h.other p0
    simp only [P, St] at g5
    by_cases p1 : s.phase = 1
    · rw [if_pos p1]
      rw [if_pos p1] at g5
      unfold stage_amberB.f
      by_cases he : s.t + 1 = (rd_T25 l s.plan).f2
      · rw [if_pos he]
        refine ⟨h.all, h.plan, h.stage, h.next, h.ask, h.want, ⟨by simp, by simp⟩, h.held, h.hold, fun hx => ?_, fun _ => ⟨g1, g2, g3, by simp, ?_⟩⟩
        · simp at hx
        · show (0 : Int) ≤ if (2 : Int) = 1 then (rd_T25 l s.plan).f2 - 1 else (rd_T25 l s.plan).f3
          rw [if_neg (by decide)]
          omega
      · rw [if_neg he]
        refine ⟨h.all, h.plan, h.stage, h.next, h.ask, h.want, h.phase, h.held, h.hold, fun hx => absurd hx p0, fun _ => ⟨g1, g2, g3, by simp only [P, St]; omega, ?_⟩⟩
        show s.t + 1 ≤ if s.phase = 1 then (rd_T25 l s.plan).f2 - 1 else (rd_T25 l s.plan).f3
        rw [if_pos p1]
        omega
    · rw [if_neg p1]
      rw [if_neg p1] at g5
      have hmn : mn (s.t + 1) (rd_T25 l s.plan).f3 = if s.t + 1 < (rd_T25 l s.plan).f3 then s.t + 1 else (rd_T25 l s.plan).f3 := by unfold mn; split <;> split <;> omega
      unfold stage_redB.f
      by_cases hs : mn (s.t + 1) (rd_T25 l s.plan).f3 < (rd_T25 l s.plan).f3 ∨ s.stop = true
      · rw [if_pos hs]
        refine ⟨h.all, h.plan, h.stage, h.next, h.ask, h.want, h.phase, h.held, h.hold, fun hx => absurd hx p0, fun _ => ⟨g1, g2, g3, ?_, ?_⟩⟩
        · simp only
          rw [hmn]
          split <;> omega
        · show mn (s.t + 1) (rd_T25 l s.plan).f3 ≤ if s.phase = 1 then (rd_T25 l s.plan).f2 - 1 else (rd_T25 l s.plan).f3
          rw [if_neg p1, hmn]
          split <;> omega
      · rw [if_neg hs]
        by_cases hwa : s.want ≠ -1
        · rw [if_pos hwa]
          have hwr := h.want
          have hff := (fits_at h.all (k := s.want) (by omega) hwr.2).1
          have hfe := hff.few
          have hfh := hff.hold
          have hst0 := fits_stage hff (k := 0) (Int.le_refl _) (by omega)
          refine ⟨h.all, ⟨by simp only [P, St]; omega, hwr.2⟩, ⟨by simp, by simp only [P, St]; omega⟩, ⟨by simp, by simp only [P, St]; omega⟩, ⟨by simp only [P, St]; omega, by simp only [P, St]; omega⟩, ⟨by simp, by simp only [P, St]; omega⟩, ⟨by simp, by simp⟩, ⟨by simp only [P, St]; omega, by simp only [P, St]; omega⟩, ⟨by simp only [P, St]; omega, by simp only [P, St]; omega⟩, fun _ => ⟨by simp only [P, St]; omega, by simp only [P, St]; omega, fun hx => by have := hx.2; simp only at this; omega⟩, fun hx => absurd rfl hx⟩
        · rw [if_neg hwa]
          have hst0 := fits_stage h.fits h.next.1 h.next.2
          simp only [P] at hst0
          refine ⟨h.all, h.plan, h.next, h.next, h.ask, h.want, ⟨by simp, by simp⟩, h.held, h.hold, fun _ => ⟨by simp only [P, St]; omega, by simp only [P, St]; omega, fun hx => by have := hx.2; simp only at this; omega⟩, fun hx => absurd rfl hx⟩
def lampsB (l : List S25) (s : Sg) : List Int := if stage_mayB.f l s = true then lamp_showL.f (P l s).f0.length (St l s).f0 (lamp_on.f s.phase) else []
theorem May.length {l : List S25} {s : Sg} (h : May l s) : (P l s).f0.length = (rd_T25 l 0).f0.length := (fits_at h.all h.plan.1 h.plan.2).2
theorem May.rows {l : List S25} {s : Sg} (h : May l s) : (lampsB l s).length = (rd_T25 l 0).f0.length ∧ lamp_mayB.f (lampsB l s) = true ∧ clashB (P l s).f0 (P l s).f1 (P l s).f2 (P l s).f3 (P l s).f4 (lampsB l s) = false := by
  unfold lampsB
  rw [if_pos (may_to h)]
  have hl : 1 ≤ (P l s).f0.length ∧ (P l s).f0.length ≤ 8 := ⟨h.fits.may.len1, h.fits.may.len8⟩
  exact ⟨by rw [show_len]; exact h.length, show_may _ _ _ hl (on_rng _), show_clash h.fits h.stage _⟩
theorem fewAll_loop (l : List S25) : ∀ d k : Nat, k + d = 6 → ∃ b, Ev (fun n => pelicanlaw14_FewAll.l0 n l (k : Int)) b := by
  have hj : ∀ k : Nat, Ev (fun n => pelicanlaw14_FewAll.j1 n l (k : Int) false) (decide ((l.length : Int) ≤ 5)) := fun k => Ev.step (f := fun _ => some (decide ((l.length : Int) ≤ 5))) (fun n => by simp only [pelicanlaw14_FewAll.j1, Bool.false_eq_true, if_false]) (Ev.now _)
  intro d
  induction d with
  | zero =>
    intro k hk
    refine ⟨_, Ev.step (fun n => ?_) (hj k)⟩
    simp only [pelicanlaw14_FewAll.l0]
    rw [decide_eq_false (show ¬ ((k : Int) ≤ 5) by omega), ite_self]
  | succ d ih =>
    intro k hk
    by_cases hlt : k < l.length
    · obtain ⟨b, hb⟩ := ih (k + 1) (by omega)
      have e1 : ((k : Int) + 1) = ((k + 1 : Nat) : Int) := by omega
      have key : ∃ b, Ev (fun n => pelicanlaw14_FewAll.j1 n l (k : Int) true) b := by
        cases hfw : decide ((rd_T25 l (k : Int)).f0.length ≤ 10 ∧ (rd_T25 l (k : Int)).f1.length ≤ 10) with
        | true =>
          refine ⟨b, Ev.step (fun n => ?_) hb⟩
          simp only [pelicanlaw14_FewAll.j1, if_true, few_f, Option.bind_some]
          rw [if_pos (by omega), if_pos (by omega), hfw, if_pos rfl, wr (by omega) (by omega), e1]
        | false =>
          refine ⟨false, Ev.step (f := fun _ => some false) (fun n => ?_) (Ev.now _)⟩
          simp only [pelicanlaw14_FewAll.j1, if_true, few_f, Option.bind_some]
          rw [if_pos (by omega), if_pos (by omega), hfw, if_neg (by simp)]
      obtain ⟨b, hb⟩ := key
      refine ⟨b, Ev.step (fun n => ?_) hb⟩
      simp only [pelicanlaw14_FewAll.l0]
      rw [if_pos (by omega), decide_eq_true (show (k : Int) ≤ 5 by omega)]
    · refine ⟨_, Ev.step (fun n => ?_) (hj k)⟩
      simp only [pelicanlaw14_FewAll.l0]
      rw [if_neg (by omega)]
theorem fewAll_ev (l : List S25) : ∃ b, Ev (fun n => pelicanlaw14_FewAll.f n l) b := fewAll_loop l 6 0 (by omega)
end Go.Proofs.YtpciieagafddcaaDoor.PU
/- Plain laws on signal machines: several ticks, what a tick does in each phase, a machine that stops (own text). -/
namespace Go.Proofs.YtpciieagafddcaaDoor.PV
open Go.RowKit Go.Proofs.YtpciieagafddcaaDoorW.PrintWords Go.Proofs.YtpciieagafddcaaDoorW.PrintLast Go.Proofs.YtpciieagafddcaaDoorW.PrintMore Go.Proofs.YtpciieagafddcaaDoor.F Go.Proofs.YtpciieagafddcaaDoor.PG Go.Proofs.YtpciieagafddcaaDoor.PM Go.Proofs.YtpciieagafddcaaDoor.PP Go.Proofs.YtpciieagafddcaaDoor.PQ Go.Proofs.YtpciieagafddcaaDoor.PL Go.Proofs.YtpciieagafddcaaDoor.PT Go.Proofs.YtpciieagafddcaaDoor.PU
set_option linter.unusedSimpArgs false
theorem tick_amber_stay {l : List S25} {s : Sg} (h : May l s) (hp : s.phase = 1) (ht : s.t + 1 ≠ (P l s).f2) : stage_tickB.f l s = { s with t := s.t + 1 } := by
  unfold stage_tickB.f stage_amberB.f
  rw [if_pos (may_to h), if_neg (by omega), if_pos hp, if_neg ht]
theorem tick_amber_end {l : List S25} {s : Sg} (h : May l s) (hp : s.phase = 1) (ht : s.t + 1 = (P l s).f2) : stage_tickB.f l s = { s with phase := 2, t := 0 } := by
  unfold stage_tickB.f stage_amberB.f
  rw [if_pos (may_to h), if_neg (by omega), if_pos hp, if_pos ht]
theorem mn_le {a b : Int} (h : a ≤ b) : mn a b = a := by unfold mn; split <;> omega
theorem mn_ge {a b : Int} (h : b ≤ a) : mn a b = b := by unfold mn; split <;> omega
theorem tick_red_stay {l : List S25} {s : Sg} (h : May l s) (hp : s.phase = 2) (ht : s.t + 1 < (P l s).f3) : stage_tickB.f l s = { s with t := s.t + 1 } := by
  simp only [P] at ht
  unfold stage_tickB.f stage_redB.f
  rw [if_pos (may_to h), if_neg (by omega), if_neg (by omega), mn_le (by omega), if_pos (.inl ht)]
theorem tick_red_stop {l : List S25} {s : Sg} (h : May l s) (hp : s.phase = 2) (ht : (P l s).f3 ≤ s.t + 1) (hs : s.stop = true) : stage_tickB.f l s = { s with t := (P l s).f3 } := by
  simp only [P] at ht
  unfold stage_tickB.f stage_redB.f
  rw [if_pos (may_to h), if_neg (by omega), if_neg (by omega), mn_ge (by omega), if_pos (.inr hs)]
theorem tick_red_want {l : List S25} {s : Sg} (h : May l s) (hp : s.phase = 2) (ht : (P l s).f3 ≤ s.t + 1) (hs : s.stop = false) (hw : s.want ≠ -1) : stage_tickB.f l s = { s with plan := s.want, want := -1, next := 0, phase := 0, stage := 0, t := 0 } := by
  simp only [P] at ht
  unfold stage_tickB.f stage_redB.f
  rw [if_pos (may_to h), if_neg (by omega), if_neg (by omega), mn_ge (by omega), if_neg (by rw [hs]; simp), if_pos hw]
theorem tick_red_next {l : List S25} {s : Sg} (h : May l s) (hp : s.phase = 2) (ht : (P l s).f3 ≤ s.t + 1) (hs : s.stop = false) (hw : s.want = -1) : stage_tickB.f l s = { s with phase := 0, stage := s.next, t := 0 } := by
  simp only [P] at ht
  unfold stage_tickB.f stage_redB.f
  rw [if_pos (may_to h), if_neg (by omega), if_neg (by omega), mn_ge (by omega), if_neg (by rw [hs]; simp), if_neg (by simp [hw])]
theorem tick_hold {l : List S25} {s : Sg} (h : May l s) (hp : s.phase = 0) (hh : 0 < s.hold) : stage_tickB.f l s = { s with t := s.t + 1, hold := s.hold - 1, held := s.held + 1 } := by
  have ht := h.t
  unfold stage_tickB.f stage_greenB.f
  rw [if_pos (may_to h), if_pos hp, if_pos hh, wr (by omega) (by omega)]
def asked (s : Sg) : Bool := s.stop || decide (s.ask ≠ -1) || decide (s.want ≠ -1)
theorem tick_green_stay {l : List S25} {s : Sg} (h : May l s) (hp : s.phase = 0) (hh : s.hold = 0) (ht : s.t + 1 < (St l s).f1 ∨ (asked s = false ∧ s.t + 1 < (St l s).f2)) : stage_tickB.f l s = { s with t := s.t + 1 } := by
  have h1 := h.t
  unfold stage_tickB.f stage_greenB.f
  rw [if_pos (may_to h), if_pos hp, if_neg (by omega), wr (by omega) (by omega), if_pos]
  unfold asked at ht
  rcases ht with ht | ⟨ha, ht⟩
  · rw [decide_eq_true ht, Bool.true_or]
  · rw [ha, decide_eq_true (show s.t + 1 < (rd_T87 (rd_T25 l s.plan).f1 s.stage).f2 from ht)]
    simp
theorem tick_green_end {l : List S25} {s : Sg} (h : May l s) (hp : s.phase = 0) (hh : s.hold = 0) (ht : (St l s).f1 ≤ s.t + 1) (ht2 : asked s = true ∨ (St l s).f2 ≤ s.t + 1) : stage_tickB.f l s = { s with t := 0, next := (if s.ask = -1 then Int.tmod (s.stage + 1) ((P l s).f1.length : Int) else s.ask), phase := 1, held := 0, ask := -1 } := by
  have h1 := h.t
  unfold stage_tickB.f stage_greenB.f
  rw [if_pos (may_to h), if_pos hp, if_neg (by omega), wr (by omega) (by omega), if_neg]
  unfold asked at ht2
  rw [decide_eq_false (show ¬ s.t + 1 < (rd_T87 (rd_T25 l s.plan).f1 s.stage).f1 by have : (St l s).f1 ≤ s.t + 1 := ht; simp only [St, P] at this; omega), Bool.false_or]
  rcases ht2 with ha | ht2
  · rw [ha]; simp
  · rw [decide_eq_false (show ¬ s.t + 1 < (rd_T87 (rd_T25 l s.plan).f1 s.stage).f2 by have : (St l s).f2 ≤ s.t + 1 := ht2; simp only [St, P] at this; omega)]; simp
end Go.Proofs.YtpciieagafddcaaDoor.PV
