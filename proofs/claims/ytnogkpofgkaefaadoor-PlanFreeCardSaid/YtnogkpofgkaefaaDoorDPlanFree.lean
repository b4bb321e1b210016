/- Woven by wip/weave/weave.py of this repo (own tool) out of the translation: the contracts of some functions. Lean checks it. -/
import Derived.Test.YtnogkpofgkaefaaDoorD
namespace Go.Proofs.YtnogkpofgkaefaaDoor.F
open Go.RowKit Go.Proofs.YtnogkpofgkaefaaDoorW.PrintWords Go.Proofs.YtnogkpofgkaefaaDoorW.PrintLast Go.Proofs.YtnogkpofgkaefaaDoorW.PrintMore
attribute [local go_sem] max2_int min2_int max_two min_two max_three min_three max_four min_four   -- for this text's walks alone
set_option linter.unusedVariables false
set_option linter.unusedSimpArgs false

def pelicanlaw14_PlanFree.j0 : Nat → Int → Int → Int → Bool → Bool → List Int → List (S47) → Int → Int → Int → Option (Bool)
  | 0, _, _, _, _, _, _, _, _, _, _ => none
  | k + 1, x1, x2, x3, x9, x62, x364000, x364001, x364002, x364003, x364004 => if x62 = true then (some x9) else (if 0 ≤ x1 then (if x1 < (x364001.length : Int) then (if 0 ≤ x2 then (if x2 < (x364000.length : Int) then (if 0 ≤ x3 then ((group_Against.f x364000 (shl .i64 1 x2)).bind fun t369 => (if ((rd_T47 x364001 x1).f0) > 0 then ((group_Free.f x364000 ((rd_T47 x364001 x1).f0)).bind fun t370 => (if t370 = true then (if (Go.bits .and .i64 (shr .i64 (rd x364000 x2) x3) 1) = 1 then (if (Go.bits .and .i64 (shr .i64 ((rd_T47 x364001 x1).f0) x2) 1) = 1 then (if ((Go.bits .and .i64 (shr .i64 ((rd_T47 x364001 x1).f0) x3) 1) = 1) then (some false) else (if (t369 = (wrap64 ((wrap64 ((shl .i64 1 (x364000.length : Int)) - 1)) - (shl .i64 1 x2)))) then (if ((Go.bits .and .i64 (shr .i64 ((rd_T47 x364001 x1).f0) x2) 1) = 1) then (some (((rd_T47 x364001 x1).f0) == (shl .i64 1 x2))) else (some true)) else (some true))) else (if (t369 = (wrap64 ((wrap64 ((shl .i64 1 (x364000.length : Int)) - 1)) - (shl .i64 1 x2)))) then (if ((Go.bits .and .i64 (shr .i64 ((rd_T47 x364001 x1).f0) x2) 1) = 1) then (some (((rd_T47 x364001 x1).f0) == (shl .i64 1 x2))) else (some true)) else (some true))) else (if (t369 = (wrap64 ((wrap64 ((shl .i64 1 (x364000.length : Int)) - 1)) - (shl .i64 1 x2)))) then (if ((Go.bits .and .i64 (shr .i64 ((rd_T47 x364001 x1).f0) x2) 1) = 1) then (some (((rd_T47 x364001 x1).f0) == (shl .i64 1 x2))) else (some true)) else (some true))) else (some false))) else (some false))) else (none)) else (none)) else (none)) else (none)) else (none))
def pelicanlaw14_PlanFree.f (k : Nat) (l0_0 : List Int) (l0_1 : List (S47)) (a0_2 : Int) (a0_3 : Int) (a0_4 : Int) (a1 : Int) (a2 : Int) (a3 : Int) : Option (Bool) := (pelicanlaw14_awake.f k).bind fun t364 => ((pelicanlaw14_Few.f l0_0 l0_1 a0_2 a0_3 a0_4).bind fun t365 => (if t364 = true then (if t365 = true then ((plan_Fit.f k l0_0 l0_1 a0_2 a0_3 a0_4).bind fun t366 => (if t366 = true then (if a1 < 0 then (pelicanlaw14_PlanFree.j0 k a1 a2 a3 t364 true l0_0 l0_1 a0_2 a0_3 a0_4) else (if a1 ≥ (l0_1.length : Int) then (pelicanlaw14_PlanFree.j0 k a1 a2 a3 t364 true l0_0 l0_1 a0_2 a0_3 a0_4) else (if a2 < 0 then (pelicanlaw14_PlanFree.j0 k a1 a2 a3 t364 true l0_0 l0_1 a0_2 a0_3 a0_4) else (if a2 ≥ (l0_0.length : Int) then (pelicanlaw14_PlanFree.j0 k a1 a2 a3 t364 true l0_0 l0_1 a0_2 a0_3 a0_4) else (if a3 < 0 then (pelicanlaw14_PlanFree.j0 k a1 a2 a3 t364 true l0_0 l0_1 a0_2 a0_3 a0_4) else (pelicanlaw14_PlanFree.j0 k a1 a2 a3 t364 (decide (a3 ≥ (l0_0.length : Int))) l0_0 l0_1 a0_2 a0_3 a0_4)))))) else (pelicanlaw14_PlanFree.j0 k a1 a2 a3 t364 true l0_0 l0_1 a0_2 a0_3 a0_4))) else (pelicanlaw14_PlanFree.j0 k a1 a2 a3 t364 true l0_0 l0_1 a0_2 a0_3 a0_4)) else (pelicanlaw14_PlanFree.j0 k a1 a2 a3 t364 true l0_0 l0_1 a0_2 a0_3 a0_4)))
theorem pelicanlaw14_PlanFree.mono_l : ∀ k, (∀ y0 y1 y2 y3 y4 y5 y6 y7 y8 y9, LeO (pelicanlaw14_PlanFree.j0 k y0 y1 y2 y3 y4 y5 y6 y7 y8 y9) (pelicanlaw14_PlanFree.j0 (k + 1) y0 y1 y2 y3 y4 y5 y6 y7 y8 y9))
  | 0 => fun _ _ _ _ _ _ _ _ _ _ r h => by simp [pelicanlaw14_PlanFree.j0] at h
  | k + 1 => by
    have ih0 := pelicanlaw14_PlanFree.mono_l k
    · intro y0 y1 y2 y3 y4 y5 y6 y7 y8 y9
      unfold pelicanlaw14_PlanFree.j0
      repeat' first
      | (with_reducible exact ih0 _ _ _ _ _ _ _ _ _ _)
      | (with_reducible exact pelicanlaw14_awake.mono _)
      | (with_reducible exact plan_Fit.mono _ _ _ _ _ _)
      | (with_reducible exact LeO.refl _)
      | (with_reducible exact LeO.none _)
      | (with_reducible refine LeO.ite ?_ ?_)
      | (with_reducible refine LeO.bind ?_ (fun _ => ?_))
      | exact ih0 _ _ _ _ _ _ _ _ _ _
      | exact pelicanlaw14_awake.mono _
      | exact plan_Fit.mono _ _ _ _ _ _
      | exact LeO.none _
      | refine LeO.ite ?_ ?_
      | refine LeO.bind ?_ (fun _ => ?_)
theorem pelicanlaw14_PlanFree.mono : ∀ a0 a1 a2 a3 a4 a5 a6 a7 k, LeO (pelicanlaw14_PlanFree.f k a0 a1 a2 a3 a4 a5 a6 a7) (pelicanlaw14_PlanFree.f (k + 1) a0 a1 a2 a3 a4 a5 a6 a7) := by
  intro a0 a1 a2 a3 a4 a5 a6 a7 k
  have ih0 := pelicanlaw14_PlanFree.mono_l k
  unfold pelicanlaw14_PlanFree.f
  repeat' first
      | (with_reducible exact ih0 _ _ _ _ _ _ _ _ _ _)
      | (with_reducible exact pelicanlaw14_awake.mono _)
      | (with_reducible exact plan_Fit.mono _ _ _ _ _ _)
      | (with_reducible exact LeO.refl _)
      | (with_reducible exact LeO.none _)
      | (with_reducible refine LeO.ite ?_ ?_)
      | (with_reducible refine LeO.bind ?_ (fun _ => ?_))
      | exact ih0 _ _ _ _ _ _ _ _ _ _
      | exact pelicanlaw14_awake.mono _
      | exact plan_Fit.mono _ _ _ _ _ _
      | exact LeO.none _
      | refine LeO.ite ?_ ?_
      | refine LeO.bind ?_ (fun _ => ?_)
end Go.Proofs.YtnogkpofgkaefaaDoor.F
