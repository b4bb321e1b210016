/- Woven by wip/weave/weave.py of this repo (own tool) out of the translation: the contracts of some functions. Lean checks it. -/
import Derived.Test.YtnogkpofgkaefaaDoorD
namespace Go.Proofs.YtnogkpofgkaefaaDoor.F
open Go.RowKit Go.Proofs.YtnogkpofgkaefaaDoorW.PrintWords Go.Proofs.YtnogkpofgkaefaaDoorW.PrintLast Go.Proofs.YtnogkpofgkaefaaDoorW.PrintMore
attribute [local go_sem] max2_int min2_int max_two min_two max_three min_three max_four min_four   -- for this text's walks alone
set_option linter.unusedVariables false
set_option linter.unusedSimpArgs false

def pelicanlaw14_PlanCycle.j0 : Nat → Int → Bool → Bool → List Int → List (S47) → Int → Int → Int → Option (Bool)
  | 0, _, _, _, _, _, _, _, _ => none
  | k + 1, x1, x5, x33, x414000, x414001, x414002, x414003, x414004 => if x33 = true then (some x5) else ((plan_Cycle.f k x414000 x414001 x414002 x414003 x414004).bind fun t417 => (if 0 ≤ x1 then (if x1 < (x414001.length : Int) then (if t417 ≥ (wrap64 ((wrap64 ((wrap64 (((rd_T47 x414001 x1).f1) + (wrap64 ((x414001.length : Int) * (wrap64 (x414002 + x414003)))))) + (x414001.length : Int))) - 1)) then (if t417 ≤ 3600 then ((plan_Fit.f k x414000 x414001 (wrap64 (x414002 + 1)) x414003 x414004).bind fun t420 => (if t420 = true then ((plan_Cycle.f k x414000 x414001 (wrap64 (x414002 + 1)) x414003 x414004).bind fun t421 => (some (t421 == (wrap64 (t417 + (x414001.length : Int)))))) else (some true))) else (some false)) else (some false)) else (none)) else (none)))
def pelicanlaw14_PlanCycle.f (k : Nat) (l0_0 : List Int) (l0_1 : List (S47)) (a0_2 : Int) (a0_3 : Int) (a0_4 : Int) (a1 : Int) : Option (Bool) := (pelicanlaw14_awake.f k).bind fun t414 => ((pelicanlaw14_Few.f l0_0 l0_1 a0_2 a0_3 a0_4).bind fun t415 => (if t414 = true then (if t415 = true then ((plan_Fit.f k l0_0 l0_1 a0_2 a0_3 a0_4).bind fun t416 => (if t416 = true then (if a1 < 0 then (pelicanlaw14_PlanCycle.j0 k a1 t414 true l0_0 l0_1 a0_2 a0_3 a0_4) else (pelicanlaw14_PlanCycle.j0 k a1 t414 (decide (a1 ≥ (l0_1.length : Int))) l0_0 l0_1 a0_2 a0_3 a0_4)) else (pelicanlaw14_PlanCycle.j0 k a1 t414 true l0_0 l0_1 a0_2 a0_3 a0_4))) else (pelicanlaw14_PlanCycle.j0 k a1 t414 true l0_0 l0_1 a0_2 a0_3 a0_4)) else (pelicanlaw14_PlanCycle.j0 k a1 t414 true l0_0 l0_1 a0_2 a0_3 a0_4)))
theorem pelicanlaw14_PlanCycle.mono_l : ∀ k, (∀ y0 y1 y2 y3 y4 y5 y6 y7, LeO (pelicanlaw14_PlanCycle.j0 k y0 y1 y2 y3 y4 y5 y6 y7) (pelicanlaw14_PlanCycle.j0 (k + 1) y0 y1 y2 y3 y4 y5 y6 y7))
  | 0 => fun _ _ _ _ _ _ _ _ r h => by simp [pelicanlaw14_PlanCycle.j0] at h
  | k + 1 => by
    have ih0 := pelicanlaw14_PlanCycle.mono_l k
    · intro y0 y1 y2 y3 y4 y5 y6 y7
      unfold pelicanlaw14_PlanCycle.j0
      repeat' first
      | (with_reducible exact ih0 _ _ _ _ _ _ _ _)
      | (with_reducible exact pelicanlaw14_awake.mono _)
      | (with_reducible exact plan_Cycle.mono _ _ _ _ _ _)
      | (with_reducible exact plan_Fit.mono _ _ _ _ _ _)
      | (with_reducible exact LeO.refl _)
      | (with_reducible exact LeO.none _)
      | (with_reducible refine LeO.ite ?_ ?_)
      | (with_reducible refine LeO.bind ?_ (fun _ => ?_))
      | exact ih0 _ _ _ _ _ _ _ _
      | exact pelicanlaw14_awake.mono _
      | exact plan_Cycle.mono _ _ _ _ _ _
      | exact plan_Fit.mono _ _ _ _ _ _
      | exact LeO.none _
      | refine LeO.ite ?_ ?_
      | refine LeO.bind ?_ (fun _ => ?_)
theorem pelicanlaw14_PlanCycle.mono : ∀ a0 a1 a2 a3 a4 a5 k, LeO (pelicanlaw14_PlanCycle.f k a0 a1 a2 a3 a4 a5) (pelicanlaw14_PlanCycle.f (k + 1) a0 a1 a2 a3 a4 a5) := by
  intro a0 a1 a2 a3 a4 a5 k
  have ih0 := pelicanlaw14_PlanCycle.mono_l k
  unfold pelicanlaw14_PlanCycle.f
  repeat' first
      | (with_reducible exact ih0 _ _ _ _ _ _ _ _)
      | (with_reducible exact pelicanlaw14_awake.mono _)
      | (with_reducible exact plan_Cycle.mono _ _ _ _ _ _)
      | (with_reducible exact plan_Fit.mono _ _ _ _ _ _)
      | (with_reducible exact LeO.refl _)
      | (with_reducible exact LeO.none _)
      | (with_reducible refine LeO.ite ?_ ?_)
      | (with_reducible refine LeO.bind ?_ (fun _ => ?_))
      | exact ih0 _ _ _ _ _ _ _ _
      | exact pelicanlaw14_awake.mono _
      | exact plan_Cycle.mono _ _ _ _ _ _
      | exact plan_Fit.mono _ _ _ _ _ _
      | exact LeO.none _
      | refine LeO.ite ?_ ?_
      | refine LeO.bind ?_ (fun _ => ?_)
end Go.Proofs.YtnogkpofgkaefaaDoor.F
