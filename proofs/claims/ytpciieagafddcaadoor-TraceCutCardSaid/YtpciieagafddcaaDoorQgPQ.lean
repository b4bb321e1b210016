/- More plain laws on plans: what a plan that fits is made of, and the stage behind one (own text). -/
import Derived.Test.YtpciieagafddcaaDoorQgPP
namespace Go.Proofs.YtpciieagafddcaaDoor.PQ
open Go.RowKit Go.Proofs.YtpciieagafddcaaDoorW.PrintWords Go.Proofs.YtpciieagafddcaaDoorW.PrintLast Go.Proofs.YtpciieagafddcaaDoorW.PrintMore Go.Proofs.YtpciieagafddcaaDoor.F Go.Proofs.YtpciieagafddcaaDoor.PG Go.Proofs.YtpciieagafddcaaDoor.PM Go.Proofs.YtpciieagafddcaaDoor.PP
theorem few_f (m : List Int) (ss : List S87) (am red hold : Int) : pelicanlaw14_Few.f m ss am red hold = some (decide (m.length ≤ 10 ∧ ss.length ≤ 10)) := by
  unfold pelicanlaw14_Few.f
  by_cases h : (m.length : Int) ≤ 10
  · rw [if_pos h]
    congr 1
    rw [decide_eq_decide]
    omega
  · rw [if_neg h]
    congr 1
    exact (decide_eq_false (by omega)).symm
structure Fits (m : List Int) (ss : List S87) (am red hold : Int) : Prop where
  stage : ∀ s ∈ ss, freeB m s.f0 = true ∧ s.f0 ≠ 0 ∧ (1 ≤ s.f1 ∧ s.f1 ≤ 200) ∧ (s.f1 ≤ s.f2 ∧ s.f2 ≤ 200)
  may : MayOk m
  few : 2 ≤ ss.length ∧ ss.length ≤ 6
  had : ss.foldl (fun o s => Go.bits .or .i64 o s.f0) 0 = wrap64 ((shl .i64 1 (m.length : Int)) - 1)
  amber : 1 ≤ am ∧ am ≤ 200
  red : 1 ≤ red ∧ red ≤ 200
  hold : 0 ≤ hold ∧ hold ≤ 300
theorem fits_iff (m : List Int) (ss : List S87) (am red hold : Int) : plan_fitB.f m ss am red hold = true ↔ Fits m ss am red hold := by
  unfold plan_fitB.f
  simp only [Bool.and_eq_true, decide_eq_true_eq, List.all_eq_true, may_iff, stage_eq]
  constructor
  · rintro ⟨h1, h2, h3, h4, h5, h6, h7⟩
    exact ⟨fun s hs => h1 s hs, h2, h3, h4, h5, h6, h7⟩
  · rintro ⟨h1, h2, h3, h4, h5, h6, h7⟩
    exact ⟨fun s hs => h1 s hs, h2, h3, h4, h5, h6, h7⟩
end Go.Proofs.YtpciieagafddcaaDoor.PQ
