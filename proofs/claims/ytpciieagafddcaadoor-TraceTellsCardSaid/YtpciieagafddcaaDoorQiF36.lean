/- Woven by wip/weave/weave.py of this repo (own tool) out of the translation: the contracts of some functions. Lean checks it. -/
import Derived.Test.YtpciieagafddcaaDoorQiD
import Derived.Test.YtpciieagafddcaaDoorQiF0
import Derived.Test.YtpciieagafddcaaDoorQiF8
import Derived.Test.YtpciieagafddcaaDoorQiPP
namespace Go.Proofs.YtpciieagafddcaaDoor.F
open Go.RowKit Go.Proofs.YtpciieagafddcaaDoorW.PrintWords Go.Proofs.YtpciieagafddcaaDoorW.PrintLast Go.Proofs.YtpciieagafddcaaDoorW.PrintMore
attribute [local go_sem] max2_int min2_int max_two min_two max_three min_three max_four min_four   -- for this text's walks alone
set_option linter.unusedVariables false
set_option linter.unusedSimpArgs false
-- NOT PRINTED: function 28 (pelicanlaw17_awake)
/-! ### pelicanlaw14_FewAll: function 29 -/
end Go.Proofs.YtpciieagafddcaaDoor.F
/- More plain laws on plans: what a plan that fits is made of, and the stage behind one (own text). -/
namespace Go.Proofs.YtpciieagafddcaaDoor.PQ
open Go.RowKit Go.Proofs.YtpciieagafddcaaDoorW.PrintWords Go.Proofs.YtpciieagafddcaaDoorW.PrintLast Go.Proofs.YtpciieagafddcaaDoorW.PrintMore Go.Proofs.YtpciieagafddcaaDoor.F Go.Proofs.YtpciieagafddcaaDoor.PG Go.Proofs.YtpciieagafddcaaDoor.PM Go.Proofs.YtpciieagafddcaaDoor.PP
theorem few_f (m : List Int) (ss : List S87) (am red hold : Int) : pelicanlaw14_Few.f m ss am red hold = some (decide (m.length ≤ 10 ∧ ss.length ≤ 10)) := by
  unfold pelicanlaw14_Few.f
  by_cases h : (m.length : Int) ≤ 10
  · rw [if_pos h]
    congr 1
    rw [decide_eq_decide]
    omega
  · rw [if_neg h]
    congr 1
    exact (decide_eq_false (by omega)).symm
structure Fits (m : List Int) (ss : List S87) (am red hold : Int) : Prop where
  stage : ∀ s ∈ ss, freeB m s.f0 = true ∧ s.f0 ≠ 0 ∧ (1 ≤ s.f1 ∧ s.f1 ≤ 200) ∧ (s.f1 ≤ s.f2 ∧ s.f2 ≤ 200)
  may : MayOk m
  few : 2 ≤ ss.length ∧ ss.length ≤ 6
  had : ss.foldl (fun o s => Go.bits .or .i64 o s.f0) 0 = wrap64 ((shl .i64 1 (m.length : Int)) - 1)
  amber : 1 ≤ am ∧ am ≤ 200
  red : 1 ≤ red ∧ red ≤ 200
  hold : 0 ≤ hold ∧ hold ≤ 300
theorem fits_iff (m : List Int) (ss : List S87) (am red hold : Int) : plan_fitB.f m ss am red hold = true ↔ Fits m ss am red hold := by
  unfold plan_fitB.f
  simp only [Bool.and_eq_true, decide_eq_true_eq, List.all_eq_true, may_iff, stage_eq]
  constructor
  · rintro ⟨h1, h2, h3, h4, h5, h6, h7⟩
    exact ⟨fun s hs => h1 s hs, h2, h3, h4, h5, h6, h7⟩
  · rintro ⟨h1, h2, h3, h4, h5, h6, h7⟩
    exact ⟨fun s hs => h1 s hs, h2, h3, h4, h5, h6, h7⟩
end Go.Proofs.YtpciieagafddcaaDoor.PQ
/- Plain laws on signal machines: what may be (own text). -/
namespace Go.Proofs.YtpciieagafddcaaDoor.PT
open Go.RowKit Go.Proofs.YtpciieagafddcaaDoorW.PrintWords Go.Proofs.YtpciieagafddcaaDoorW.PrintLast Go.Proofs.YtpciieagafddcaaDoorW.PrintMore Go.Proofs.YtpciieagafddcaaDoor.F
set_option linter.unusedSimpArgs false
theorem may_plan {l : List S25} (hall : (decide (1 ≤ l.length ∧ l.length ≤ 3) && !(l.any (plan_badB.f (rd_T25 l 0).f0.length))) = true) {k : Int} (h0 : 0 ≤ k) (h1 : k < (l.length : Int)) : PQ.Fits (rd_T25 l k).f0 (rd_T25 l k).f1 (rd_T25 l k).f2 (rd_T25 l k).f3 (rd_T25 l k).f4 ∧ (rd_T25 l k).f0.length = (rd_T25 l 0).f0.length := by
  rw [Bool.and_eq_true, Bool.not_eq_true', List.any_eq_false] at hall
  obtain ⟨j, rfl⟩ := Int.eq_ofNat_of_zero_le h0
  have hj : j < l.length := by omega
  have e : rd_T25 l (j : Int) = l[j] := by simp [rd_T25, hj]
  rw [e]
  have hb := hall.2 _ (List.getElem_mem hj)
  unfold plan_badB.f at hb
  simp only [Bool.or_eq_true, Bool.not_eq_true', decide_eq_true_eq, not_or, Bool.not_eq_false, ne_eq, Decidable.not_not] at hb
  exact ⟨(PQ.fits_iff _ _ _ _ _).1 hb.1, hb.2⟩
theorem mayB_parts {l : List S25} {s : Sg} (h : stage_mayB.f l s = true) :
    (0 ≤ s.plan ∧ s.plan < (l.length : Int)) ∧ (0 ≤ s.stage ∧ s.stage < ((rd_T25 l s.plan).f1.length : Int)) ∧ (0 ≤ s.next ∧ s.next < ((rd_T25 l s.plan).f1.length : Int)) ∧ (-1 ≤ s.ask ∧ s.ask < ((rd_T25 l s.plan).f1.length : Int)) ∧ (-1 ≤ s.want ∧ s.want < (l.length : Int)) ∧ (0 ≤ s.phase ∧ s.phase < 3) ∧ (0 ≤ s.held ∧ s.held ≤ (rd_T25 l s.plan).f4) ∧ (0 ≤ s.hold ∧ s.hold ≤ (rd_T25 l s.plan).f4 - s.held) ∧
    (s.phase = 0 → s.held ≤ s.t ∧ wrap64 (s.t - s.held) < (rd_T87 (rd_T25 l s.plan).f1 s.stage).f2 ∧ ¬ (s.stop = true ∧ 0 < s.hold)) ∧ (s.phase ≠ 0 → s.hold = 0 ∧ s.held = 0 ∧ s.ask = -1 ∧ 0 ≤ s.t ∧ s.t ≤ (if s.phase = 1 then (rd_T25 l s.plan).f2 - 1 else (rd_T25 l s.plan).f3)) := by
  unfold stage_mayB.f at h
  rw [Bool.and_eq_true] at h
  obtain ⟨-, h⟩ := h
  simp only [Bool.and_eq_true, decide_eq_true_eq] at h
  obtain ⟨h1, h2, h3, h4, h5, h6, h7, h8, h9⟩ := h
  refine ⟨h1, h2, h3, h4, h5, h6, h7, h8, fun hp => ?_, fun hp => ?_⟩
  · rw [if_pos hp] at h9
    simp only [Bool.and_eq_true, decide_eq_true_eq, Bool.not_eq_true', Bool.and_eq_false_iff, decide_eq_false_iff_not] at h9
    refine ⟨h9.1.1, h9.1.2, fun hh => ?_⟩
    rcases h9.2 with h | h
    · rw [hh.1] at h; cases h
    · exact h hh.2
  · rw [if_neg hp] at h9
    exact of_decide_eq_true h9
theorem mayB_all {l : List S25} {s : Sg} (h : stage_mayB.f l s = true) : (decide (1 ≤ l.length ∧ l.length ≤ 3) && !(l.any (plan_badB.f (rd_T25 l 0).f0.length))) = true := by
  unfold stage_mayB.f at h
  rw [Bool.and_eq_true] at h
  exact h.1
end Go.Proofs.YtpciieagafddcaaDoor.PT
