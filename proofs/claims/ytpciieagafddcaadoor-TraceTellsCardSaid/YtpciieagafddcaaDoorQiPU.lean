/- Plain laws on signal machines: what may be stays so by a tick; what it shows (own text). -/
import Derived.Test.YtpciieagafddcaaDoorQiF36
import Derived.Test.YtpciieagafddcaaDoorQiPL
namespace Go.Proofs.YtpciieagafddcaaDoor.PU
open Go.RowKit Go.Proofs.YtpciieagafddcaaDoorW.PrintWords Go.Proofs.YtpciieagafddcaaDoorW.PrintLast Go.Proofs.YtpciieagafddcaaDoorW.PrintMore Go.Proofs.YtpciieagafddcaaDoor.F Go.Proofs.YtpciieagafddcaaDoor.PG Go.Proofs.YtpciieagafddcaaDoor.PM Go.Proofs.YtpciieagafddcaaDoor.PP Go.Proofs.YtpciieagafddcaaDoor.PQ Go.Proofs.YtpciieagafddcaaDoor.PL Go.Proofs.YtpciieagafddcaaDoor.PT
set_option linter.unusedSimpArgs false
/-- A machine whose count of ticks is an int. -/
def Wf (s : Sg) : Prop := -9223372036854775808 ≤ s.t ∧ s.t ≤ 9223372036854775807
def allB (l : List S25) : Bool := decide (1 ≤ l.length ∧ l.length ≤ 3) && !(l.any (plan_badB.f (rd_T25 l 0).f0.length))
abbrev P (l : List S25) (s : Sg) : S25 := rd_T25 l s.plan
abbrev St (l : List S25) (s : Sg) : S87 := rd_T87 (P l s).f1 s.stage
structure May (l : List S25) (s : Sg) : Prop where
  all : allB l = true
  plan : 0 ≤ s.plan ∧ s.plan < (l.length : Int)
  stage : 0 ≤ s.stage ∧ s.stage < ((P l s).f1.length : Int)
  next : 0 ≤ s.next ∧ s.next < ((P l s).f1.length : Int)
  ask : -1 ≤ s.ask ∧ s.ask < ((P l s).f1.length : Int)
  want : -1 ≤ s.want ∧ s.want < (l.length : Int)
  phase : 0 ≤ s.phase ∧ s.phase < 3
  held : 0 ≤ s.held ∧ s.held ≤ (P l s).f4
  hold : 0 ≤ s.hold ∧ s.hold ≤ (P l s).f4 - s.held
  green : s.phase = 0 → s.held ≤ s.t ∧ s.t - s.held < (St l s).f2 ∧ ¬ (s.stop = true ∧ 0 < s.hold)
  other : s.phase ≠ 0 → s.hold = 0 ∧ s.held = 0 ∧ s.ask = -1 ∧ 0 ≤ s.t ∧ s.t ≤ (if s.phase = 1 then (P l s).f2 - 1 else (P l s).f3)
theorem fits_at {l : List S25} (h : allB l = true) {k : Int} (h0 : 0 ≤ k) (h1 : k < (l.length : Int)) : Fits (rd_T25 l k).f0 (rd_T25 l k).f1 (rd_T25 l k).f2 (rd_T25 l k).f3 (rd_T25 l k).f4 ∧ (rd_T25 l k).f0.length = (rd_T25 l 0).f0.length := may_plan h h0 h1
theorem May.fits {l : List S25} {s : Sg} (h : May l s) : Fits (P l s).f0 (P l s).f1 (P l s).f2 (P l s).f3 (P l s).f4 := (fits_at h.all h.plan.1 h.plan.2).1
theorem fits_stage {m : List Int} {ss : List S87} {am red hold : Int} (h : Fits m ss am red hold) {k : Int} (h0 : 0 ≤ k) (h1 : k < (ss.length : Int)) : (1 ≤ (rd_T87 ss k).f1 ∧ (rd_T87 ss k).f1 ≤ 200) ∧ ((rd_T87 ss k).f1 ≤ (rd_T87 ss k).f2 ∧ (rd_T87 ss k).f2 ≤ 200) := by
  obtain ⟨j, rfl⟩ := Int.eq_ofNat_of_zero_le h0
  have hj : j < ss.length := by omega
  rw [rd_stage ss hj]
  exact (h.stage _ (List.getElem_mem hj)).2.2
theorem May.span {l : List S25} {s : Sg} (h : May l s) : (1 ≤ (St l s).f1 ∧ (St l s).f1 ≤ 200) ∧ ((St l s).f1 ≤ (St l s).f2 ∧ (St l s).f2 ≤ 200) := fits_stage h.fits h.stage.1 h.stage.2
theorem may_of {l : List S25} {s : Sg} (hw : Wf s) (h : stage_mayB.f l s = true) : May l s := by
  obtain ⟨h1, h2, h3, h4, h5, h6, h7, h8, h9, h10⟩ := mayB_parts h
  refine ⟨mayB_all h, h1, h2, h3, h4, h5, h6, h7, h8, fun hp => ?_, h10⟩
  obtain ⟨g1, g2, g3⟩ := h9 hp
  refine ⟨g1, ?_, g3⟩
  have hf := (fits_at (mayB_all h) h1.1 h1.2).1.hold
  unfold Wf at hw
  rw [wr (by omega) (by omega)] at g2
  exact g2
theorem May.t {l : List S25} {s : Sg} (h : May l s) : 0 ≤ s.t ∧ s.t ≤ 500 := by
  have h1 := h.span
  have h2 := h.fits.hold
  have h3 := h.fits.amber
  have h4 := h.fits.red
  have h5 := h.held
  by_cases hp : s.phase = 0
  · have := h.green hp
    omega
  · have := h.other hp
    split at this <;> omega
theorem May.wf {l : List S25} {s : Sg} (h : May l s) : Wf s := by have := h.t; unfold Wf; omega
theorem may_to {l : List S25} {s : Sg} (h : May l s) : stage_mayB.f l s = true := by
  have ht := h.t
  have h5 := h.held
  have h6 := h.fits.hold
  unfold stage_mayB.f
  rw [Bool.and_eq_true]
  refine ⟨h.all, ?_⟩
  simp only [Bool.and_eq_true, decide_eq_true_eq]
  refine ⟨h.plan, h.stage, h.next, h.ask, h.want, h.phase, h.held, h.hold, ?_⟩
  by_cases hp : s.phase = 0
  · rw [if_pos hp]
    obtain ⟨g1, g2, g3⟩ := h.green hp
    rw [Bool.and_eq_true, decide_eq_true_eq, wr (by omega) (by omega)]
    refine ⟨⟨g1, g2⟩, ?_⟩
    cases hs : s.stop with
    | false => rfl
    | true =>
      have : ¬ (0 < s.hold) := fun hh => g3 ⟨hs, hh⟩
      simp [this]
  · rw [if_neg hp, decide_eq_true_eq]
    exact h.other hp
/-! ### what it shows -/
def lampsB (l : List S25) (s : Sg) : List Int := if stage_mayB.f l s = true then lamp_showL.f (P l s).f0.length (St l s).f0 (lamp_on.f s.phase) else []
/-- The flat answer of a function that returns a machine. -/
abbrev fl (s : Sg) : Int × Int × Int × Int × Int × Int × Int × Int × Int × Bool := (s.plan, s.stage, s.next, s.phase, s.t, s.hold, s.held, s.ask, s.want, s.stop)
theorem May.length {l : List S25} {s : Sg} (h : May l s) : (P l s).f0.length = (rd_T25 l 0).f0.length := (fits_at h.all h.plan.1 h.plan.2).2
theorem May.rows {l : List S25} {s : Sg} (h : May l s) : (lampsB l s).length = (rd_T25 l 0).f0.length ∧ lamp_mayB.f (lampsB l s) = true ∧ clashB (P l s).f0 (P l s).f1 (P l s).f2 (P l s).f3 (P l s).f4 (lampsB l s) = false := by
  unfold lampsB
  rw [if_pos (may_to h)]
  have hl : 1 ≤ (P l s).f0.length ∧ (P l s).f0.length ≤ 8 := ⟨h.fits.may.len1, h.fits.may.len8⟩
  exact ⟨by rw [show_len]; exact h.length, show_may _ _ _ hl (on_rng _), show_clash h.fits h.stage _⟩
end Go.Proofs.YtpciieagafddcaaDoor.PU
