/- Woven by wip/weave/weave.py of this repo (own tool) out of the translation: the contracts of some functions. Lean checks it. -/
import Derived.Test.YtnogkpofgkaefaaDoorD
namespace Go.Proofs.YtnogkpofgkaefaaDoor.F
open Go.RowKit Go.Proofs.YtnogkpofgkaefaaDoorW.PrintWords Go.Proofs.YtnogkpofgkaefaaDoorW.PrintLast Go.Proofs.YtnogkpofgkaefaaDoorW.PrintMore
attribute [local go_sem] max2_int min2_int max_two min_two max_three min_three max_four min_four   -- for this text's walks alone
set_option linter.unusedVariables false
set_option linter.unusedSimpArgs false

mutual
def pelicanlaw14_PlanLeast.j0 : Nat → Int → Int → Bool → Bool → List Int → List (S47) → Int → Int → Int → Option (Bool)
  | 0, _, _, _, _, _, _, _, _, _ => none
  | k + 1, x1, x2, x7, x47, x354000, x354001, x354002, x354003, x354004 => if x47 = true then (some x7) else ((plan_Least.f k x354000 x354001 x354002 x354003 x354004 x2).bind fun t357 => (pelicanlaw14_PlanLeast.l0 k x1 x2 t357 false 0 x354000 x354001 x354002 x354003 x354004))
def pelicanlaw14_PlanLeast.l0 : Nat → Int → Int → Int → Bool → Int → List Int → List (S47) → Int → Int → Int → Option (Bool)
  | 0, _, _, _, _, _, _, _, _, _, _ => none
  | k + 1, x1, x2, x9, x10, x11, x354000, x354001, x354002, x354003, x354004 => if x11 < (x354001.length : Int) then (if x10 = true then (pelicanlaw14_PlanLeast.l0 k x1 x2 x9 true (wrap64 (x11 + 1)) x354000 x354001 x354002 x354003 x354004) else (if 0 ≤ x11 then (if 0 ≤ x2 then (if (Go.bits .and .i64 (shr .i64 ((rd_T47 x354001 x11).f0) x2) 1) = 1 then (pelicanlaw14_PlanLeast.l0 k x1 x2 x9 (((rd_T47 x354001 x11).f1) == x9) (wrap64 (x11 + 1)) x354000 x354001 x354002 x354003 x354004) else (pelicanlaw14_PlanLeast.l0 k x1 x2 x9 false (wrap64 (x11 + 1)) x354000 x354001 x354002 x354003 x354004)) else (none)) else (none))) else (if x10 = true then (if x9 ≥ 1 then (if 0 ≤ x1 then (if x1 < (x354001.length : Int) then (if 0 ≤ x2 then (if (Go.bits .and .i64 (shr .i64 ((rd_T47 x354001 x1).f0) x2) 1) = 0 then (some true) else (if ((rd_T47 x354001 x1).f1) ≥ x9 then (some (decide (((rd_T47 x354001 x1).f2) ≥ x9))) else (some false))) else (none)) else (none)) else (none)) else (some false)) else (some false))
end
def pelicanlaw14_PlanLeast.f (k : Nat) (l0_0 : List Int) (l0_1 : List (S47)) (a0_2 : Int) (a0_3 : Int) (a0_4 : Int) (a1 : Int) (a2 : Int) : Option (Bool) := (pelicanlaw14_awake.f k).bind fun t354 => ((pelicanlaw14_Few.f l0_0 l0_1 a0_2 a0_3 a0_4).bind fun t355 => (if t354 = true then (if t355 = true then ((plan_Fit.f k l0_0 l0_1 a0_2 a0_3 a0_4).bind fun t356 => (if t356 = true then (if a1 < 0 then (pelicanlaw14_PlanLeast.j0 k a1 a2 t354 true l0_0 l0_1 a0_2 a0_3 a0_4) else (if a1 ≥ (l0_1.length : Int) then (pelicanlaw14_PlanLeast.j0 k a1 a2 t354 true l0_0 l0_1 a0_2 a0_3 a0_4) else (if a2 < 0 then (pelicanlaw14_PlanLeast.j0 k a1 a2 t354 true l0_0 l0_1 a0_2 a0_3 a0_4) else (pelicanlaw14_PlanLeast.j0 k a1 a2 t354 (decide (a2 ≥ (l0_0.length : Int))) l0_0 l0_1 a0_2 a0_3 a0_4)))) else (pelicanlaw14_PlanLeast.j0 k a1 a2 t354 true l0_0 l0_1 a0_2 a0_3 a0_4))) else (pelicanlaw14_PlanLeast.j0 k a1 a2 t354 true l0_0 l0_1 a0_2 a0_3 a0_4)) else (pelicanlaw14_PlanLeast.j0 k a1 a2 t354 true l0_0 l0_1 a0_2 a0_3 a0_4)))
theorem pelicanlaw14_PlanLeast.mono_l : ∀ k, (∀ y0 y1 y2 y3 y4 y5 y6 y7 y8, LeO (pelicanlaw14_PlanLeast.j0 k y0 y1 y2 y3 y4 y5 y6 y7 y8) (pelicanlaw14_PlanLeast.j0 (k + 1) y0 y1 y2 y3 y4 y5 y6 y7 y8)) ∧ (∀ y0 y1 y2 y3 y4 y5 y6 y7 y8 y9, LeO (pelicanlaw14_PlanLeast.l0 k y0 y1 y2 y3 y4 y5 y6 y7 y8 y9) (pelicanlaw14_PlanLeast.l0 (k + 1) y0 y1 y2 y3 y4 y5 y6 y7 y8 y9))
  | 0 => ⟨fun _ _ _ _ _ _ _ _ _ r h => by simp [pelicanlaw14_PlanLeast.j0] at h, fun _ _ _ _ _ _ _ _ _ _ r h => by simp [pelicanlaw14_PlanLeast.l0] at h⟩
  | k + 1 => by
    obtain ⟨ih0, ih1⟩ := pelicanlaw14_PlanLeast.mono_l k
    refine ⟨?_, ?_⟩
    · intro y0 y1 y2 y3 y4 y5 y6 y7 y8
      unfold pelicanlaw14_PlanLeast.j0
      repeat' first
      | (with_reducible exact ih0 _ _ _ _ _ _ _ _ _)
      | (with_reducible exact ih1 _ _ _ _ _ _ _ _ _ _)
      | (with_reducible exact pelicanlaw14_awake.mono _)
      | (with_reducible exact plan_Fit.mono _ _ _ _ _ _)
      | (with_reducible exact plan_Least.mono _ _ _ _ _ _ _)
      | (with_reducible exact LeO.refl _)
      | (with_reducible exact LeO.none _)
      | (with_reducible refine LeO.ite ?_ ?_)
      | (with_reducible refine LeO.bind ?_ (fun _ => ?_))
      | exact ih0 _ _ _ _ _ _ _ _ _
      | exact ih1 _ _ _ _ _ _ _ _ _ _
      | exact pelicanlaw14_awake.mono _
      | exact plan_Fit.mono _ _ _ _ _ _
      | exact plan_Least.mono _ _ _ _ _ _ _
      | exact LeO.none _
      | refine LeO.ite ?_ ?_
      | refine LeO.bind ?_ (fun _ => ?_)
    · intro y0 y1 y2 y3 y4 y5 y6 y7 y8 y9
      unfold pelicanlaw14_PlanLeast.l0
      repeat' first
      | (with_reducible exact ih0 _ _ _ _ _ _ _ _ _)
      | (with_reducible exact ih1 _ _ _ _ _ _ _ _ _ _)
      | (with_reducible exact pelicanlaw14_awake.mono _)
      | (with_reducible exact plan_Fit.mono _ _ _ _ _ _)
      | (with_reducible exact plan_Least.mono _ _ _ _ _ _ _)
      | (with_reducible exact LeO.refl _)
      | (with_reducible exact LeO.none _)
      | (with_reducible refine LeO.ite ?_ ?_)
      | (with_reducible refine LeO.bind ?_ (fun _ => ?_))
      | exact ih0 _ _ _ _ _ _ _ _ _
      | exact ih1 _ _ _ _ _ _ _ _ _ _
      | exact pelicanlaw14_awake.mono _
      | exact plan_Fit.mono _ _ _ _ _ _
      | exact plan_Least.mono _ _ _ _ _ _ _
      | exact LeO.none _
      | refine LeO.ite ?_ ?_
      | refine LeO.bind ?_ (fun _ => ?_)
theorem pelicanlaw14_PlanLeast.mono : ∀ a0 a1 a2 a3 a4 a5 a6 k, LeO (pelicanlaw14_PlanLeast.f k a0 a1 a2 a3 a4 a5 a6) (pelicanlaw14_PlanLeast.f (k + 1) a0 a1 a2 a3 a4 a5 a6) := by
  intro a0 a1 a2 a3 a4 a5 a6 k
  obtain ⟨ih0, ih1⟩ := pelicanlaw14_PlanLeast.mono_l k
  unfold pelicanlaw14_PlanLeast.f
  repeat' first
      | (with_reducible exact ih0 _ _ _ _ _ _ _ _ _)
      | (with_reducible exact ih1 _ _ _ _ _ _ _ _ _ _)
      | (with_reducible exact pelicanlaw14_awake.mono _)
      | (with_reducible exact plan_Fit.mono _ _ _ _ _ _)
      | (with_reducible exact plan_Least.mono _ _ _ _ _ _ _)
      | (with_reducible exact LeO.refl _)
      | (with_reducible exact LeO.none _)
      | (with_reducible refine LeO.ite ?_ ?_)
      | (with_reducible refine LeO.bind ?_ (fun _ => ?_))
      | exact ih0 _ _ _ _ _ _ _ _ _
      | exact ih1 _ _ _ _ _ _ _ _ _ _
      | exact pelicanlaw14_awake.mono _
      | exact plan_Fit.mono _ _ _ _ _ _
      | exact plan_Least.mono _ _ _ _ _ _ _
      | exact LeO.none _
      | refine LeO.ite ?_ ?_
      | refine LeO.bind ?_ (fun _ => ?_)
end Go.Proofs.YtnogkpofgkaefaaDoor.F
