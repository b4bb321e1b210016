/- Woven by wip/weave/weave.py of this repo (own tool) out of the translation: the contracts of some functions. Lean checks it. -/
import Derived.Test.YtnogkpofgkaefaaDoorD
import Derived.Test.YtnogkpofgkaefaaDoorDR14
namespace Go.Proofs.YtnogkpofgkaefaaDoor.F
open Go.RowKit Go.Proofs.YtnogkpofgkaefaaDoorW.PrintWords Go.Proofs.YtnogkpofgkaefaaDoorW.PrintLast Go.Proofs.YtnogkpofgkaefaaDoorW.PrintMore
attribute [local go_sem] max2_int min2_int max_two min_two max_three min_three max_four min_four   -- for this text's walks alone
set_option linter.unusedVariables false
set_option linter.unusedSimpArgs false

def pelicanlaw14_PlanTells.j0 : Nat → List (S37) → Int → Int → Bool → Bool → List Int → List (S47) → Int → Int → Int → List Int → List (S47) → Int → Int → Int → Option (Bool)
  | 0, _, _, _, _, _, _, _, _, _, _, _, _, _, _, _ => none
  | k + 1, x2, x3, x4, x11, x38, x330000, x330001, x330002, x330003, x330004, x331000, x331001, x331002, x331003, x331004 => if x38 = true then (some x11) else ((pelicanref14_Fit.f k x330000 x330001 x330002 x330003 x330004).bind fun t335 => ((pelicanref14_All.f k x2).bind fun t336 => ((pelicanref14_Same.f k x330000 x330001 x330002 x330003 x330004 x331000 x331001 x331002 x331003 x331004).bind fun t337 => ((plan_Fit.f k x330000 x330001 x330002 x330003 x330004).bind fun t338 => (if (t338 == t335) = true then ((plan_All.f x2).bind fun t339 => (if (t339 == t336) = true then ((plan_Same.f k x330000 x330001 x330002 x330003 x330004 x331000 x331001 x331002 x331003 x331004).bind fun t340 => (if (t340 == t337) = true then ((plan_Next.f k x330000 x330001 x330002 x330003 x330004 x3).bind fun t341 => ((pelicanref14_Next.f k x330000 x330001 x330002 x330003 x330004 x3).bind fun t342 => (if t341 = t342 then ((plan_Least.f k x330000 x330001 x330002 x330003 x330004 x4).bind fun t343 => ((pelicanref14_Least.f k x330000 x330001 x330002 x330003 x330004 x4).bind fun t344 => (if t343 = t344 then ((plan_Cycle.f k x330000 x330001 x330002 x330003 x330004).bind fun t345 => ((pelicanref14_Cycle.f k x330000 x330001 x330002 x330003 x330004).bind fun t346 => (some (t345 == t346)))) else (some false)))) else (some false)))) else (some false))) else (some false))) else (some false))))))
def pelicanlaw14_PlanTells.f (k : Nat) (l0_0 : List Int) (l0_1 : List (S47)) (a0_2 : Int) (a0_3 : Int) (a0_4 : Int) (l1_0 : List Int) (l1_1 : List (S47)) (a1_2 : Int) (a1_3 : Int) (a1_4 : Int) (l2 : List (S37)) (a3 : Int) (a4 : Int) : Option (Bool) := (pelicanlaw14_awake.f k).bind fun t331 => ((pelicanlaw14_Few.f l0_0 l0_1 a0_2 a0_3 a0_4).bind fun t332 => ((pelicanlaw14_Few.f l1_0 l1_1 a1_2 a1_3 a1_4).bind fun t333 => ((pelicanlaw14_FewAll.f k l2).bind fun t334 => (if t331 = true then (if t332 = true then (if t333 = true then (pelicanlaw14_PlanTells.j0 k l2 a3 a4 t331 (!t334) l0_0 l0_1 a0_2 a0_3 a0_4 l1_0 l1_1 a1_2 a1_3 a1_4) else (pelicanlaw14_PlanTells.j0 k l2 a3 a4 t331 true l0_0 l0_1 a0_2 a0_3 a0_4 l1_0 l1_1 a1_2 a1_3 a1_4)) else (pelicanlaw14_PlanTells.j0 k l2 a3 a4 t331 true l0_0 l0_1 a0_2 a0_3 a0_4 l1_0 l1_1 a1_2 a1_3 a1_4)) else (pelicanlaw14_PlanTells.j0 k l2 a3 a4 t331 true l0_0 l0_1 a0_2 a0_3 a0_4 l1_0 l1_1 a1_2 a1_3 a1_4)))))
theorem pelicanlaw14_PlanTells.mono_l : ∀ k, (∀ y0 y1 y2 y3 y4 y5 y6 y7 y8 y9 y10 y11 y12 y13 y14, LeO (pelicanlaw14_PlanTells.j0 k y0 y1 y2 y3 y4 y5 y6 y7 y8 y9 y10 y11 y12 y13 y14) (pelicanlaw14_PlanTells.j0 (k + 1) y0 y1 y2 y3 y4 y5 y6 y7 y8 y9 y10 y11 y12 y13 y14))
  | 0 => fun _ _ _ _ _ _ _ _ _ _ _ _ _ _ _ r h => by simp [pelicanlaw14_PlanTells.j0] at h
  | k + 1 => by
    have ih0 := pelicanlaw14_PlanTells.mono_l k
    · intro y0 y1 y2 y3 y4 y5 y6 y7 y8 y9 y10 y11 y12 y13 y14
      unfold pelicanlaw14_PlanTells.j0
      repeat' first
      | (with_reducible exact ih0 _ _ _ _ _ _ _ _ _ _ _ _ _ _ _)
      | (with_reducible exact pelicanlaw14_FewAll.mono _ _)
      | (with_reducible exact pelicanlaw14_awake.mono _)
      | (with_reducible exact pelicanref14_All.mono _ _)
      | (with_reducible exact pelicanref14_Cycle.mono _ _ _ _ _ _)
      | (with_reducible exact pelicanref14_Fit.mono _ _ _ _ _ _)
      | (with_reducible exact pelicanref14_Least.mono _ _ _ _ _ _ _)
      | (with_reducible exact pelicanref14_Next.mono _ _ _ _ _ _ _)
      | (with_reducible exact pelicanref14_Same.mono _ _ _ _ _ _ _ _ _ _ _)
      | (with_reducible exact plan_Cycle.mono _ _ _ _ _ _)
      | (with_reducible exact plan_Fit.mono _ _ _ _ _ _)
      | (with_reducible exact plan_Least.mono _ _ _ _ _ _ _)
      | (with_reducible exact plan_Next.mono _ _ _ _ _ _ _)
      | (with_reducible exact plan_Same.mono _ _ _ _ _ _ _ _ _ _ _)
      | (with_reducible exact LeO.refl _)
      | (with_reducible exact LeO.none _)
      | (with_reducible refine LeO.ite ?_ ?_)
      | (with_reducible refine LeO.bind ?_ (fun _ => ?_))
      | exact ih0 _ _ _ _ _ _ _ _ _ _ _ _ _ _ _
      | exact pelicanlaw14_FewAll.mono _ _
      | exact pelicanlaw14_awake.mono _
      | exact pelicanref14_All.mono _ _
      | exact pelicanref14_Cycle.mono _ _ _ _ _ _
      | exact pelicanref14_Fit.mono _ _ _ _ _ _
      | exact pelicanref14_Least.mono _ _ _ _ _ _ _
      | exact pelicanref14_Next.mono _ _ _ _ _ _ _
      | exact pelicanref14_Same.mono _ _ _ _ _ _ _ _ _ _ _
      | exact plan_Cycle.mono _ _ _ _ _ _
      | exact plan_Fit.mono _ _ _ _ _ _
      | exact plan_Least.mono _ _ _ _ _ _ _
      | exact plan_Next.mono _ _ _ _ _ _ _
      | exact plan_Same.mono _ _ _ _ _ _ _ _ _ _ _
      | exact LeO.none _
      | refine LeO.ite ?_ ?_
      | refine LeO.bind ?_ (fun _ => ?_)
theorem pelicanlaw14_PlanTells.mono : ∀ a0 a1 a2 a3 a4 a5 a6 a7 a8 a9 a10 a11 a12 k, LeO (pelicanlaw14_PlanTells.f k a0 a1 a2 a3 a4 a5 a6 a7 a8 a9 a10 a11 a12) (pelicanlaw14_PlanTells.f (k + 1) a0 a1 a2 a3 a4 a5 a6 a7 a8 a9 a10 a11 a12) := by
  intro a0 a1 a2 a3 a4 a5 a6 a7 a8 a9 a10 a11 a12 k
  have ih0 := pelicanlaw14_PlanTells.mono_l k
  unfold pelicanlaw14_PlanTells.f
  repeat' first
      | (with_reducible exact ih0 _ _ _ _ _ _ _ _ _ _ _ _ _ _ _)
      | (with_reducible exact pelicanlaw14_FewAll.mono _ _)
      | (with_reducible exact pelicanlaw14_awake.mono _)
      | (with_reducible exact pelicanref14_All.mono _ _)
      | (with_reducible exact pelicanref14_Cycle.mono _ _ _ _ _ _)
      | (with_reducible exact pelicanref14_Fit.mono _ _ _ _ _ _)
      | (with_reducible exact pelicanref14_Least.mono _ _ _ _ _ _ _)
      | (with_reducible exact pelicanref14_Next.mono _ _ _ _ _ _ _)
      | (with_reducible exact pelicanref14_Same.mono _ _ _ _ _ _ _ _ _ _ _)
      | (with_reducible exact plan_Cycle.mono _ _ _ _ _ _)
      | (with_reducible exact plan_Fit.mono _ _ _ _ _ _)
      | (with_reducible exact plan_Least.mono _ _ _ _ _ _ _)
      | (with_reducible exact plan_Next.mono _ _ _ _ _ _ _)
      | (with_reducible exact plan_Same.mono _ _ _ _ _ _ _ _ _ _ _)
      | (with_reducible exact LeO.refl _)
      | (with_reducible exact LeO.none _)
      | (with_reducible refine LeO.ite ?_ ?_)
      | (with_reducible refine LeO.bind ?_ (fun _ => ?_))
      | exact ih0 _ _ _ _ _ _ _ _ _ _ _ _ _ _ _
      | exact pelicanlaw14_FewAll.mono _ _
      | exact pelicanlaw14_awake.mono _
      | exact pelicanref14_All.mono _ _
      | exact pelicanref14_Cycle.mono _ _ _ _ _ _
      | exact pelicanref14_Fit.mono _ _ _ _ _ _
      | exact pelicanref14_Least.mono _ _ _ _ _ _ _
      | exact pelicanref14_Next.mono _ _ _ _ _ _ _
      | exact pelicanref14_Same.mono _ _ _ _ _ _ _ _ _ _ _
      | exact plan_Cycle.mono _ _ _ _ _ _
      | exact plan_Fit.mono _ _ _ _ _ _
      | exact plan_Least.mono _ _ _ _ _ _ _
      | exact plan_Next.mono _ _ _ _ _ _ _
      | exact plan_Same.mono _ _ _ _ _ _ _ _ _ _ _
      | exact LeO.none _
      | refine LeO.ite ?_ ?_
      | refine LeO.bind ?_ (fun _ => ?_)
end Go.Proofs.YtnogkpofgkaefaaDoor.F
