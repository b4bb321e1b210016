/- Woven by wip/weave/weave.py of this repo (own tool) out of the translation: the contracts of some functions. Lean checks it. -/
import Derived.Test.YtnogkpofgkaefaaDoorD
namespace Go.Proofs.YtnogkpofgkaefaaDoor.F
open Go.RowKit Go.Proofs.YtnogkpofgkaefaaDoorW.PrintWords Go.Proofs.YtnogkpofgkaefaaDoorW.PrintLast Go.Proofs.YtnogkpofgkaefaaDoorW.PrintMore
attribute [local go_sem] max2_int min2_int max_two min_two max_three min_three max_four min_four   -- for this text's walks alone
set_option linter.unusedVariables false
set_option linter.unusedSimpArgs false

mutual
def pelicanlaw14_PlanRound.j0 : Nat → Int → Bool → Bool → List Int → List (S47) → Int → Int → Int → Option (Bool)
  | 0, _, _, _, _, _, _, _, _ => none
  | k + 1, x1, x5, x23, x348000, x348001, x348002, x348003, x348004 => if x23 = true then (some x5) else (if x1 < 0 then (pelicanlaw14_PlanRound.j1 k x1 true x348000 x348001 x348002 x348003 x348004) else (pelicanlaw14_PlanRound.j1 k x1 (decide (x1 ≥ (x348001.length : Int))) x348000 x348001 x348002 x348003 x348004))
def pelicanlaw14_PlanRound.j1 : Nat → Int → Bool → List Int → List (S47) → Int → Int → Int → Option (Bool)
  | 0, _, _, _, _, _, _, _ => none
  | k + 1, x1, x33, x348000, x348001, x348002, x348003, x348004 => if x33 = true then ((plan_Next.f k x348000 x348001 x348002 x348003 x348004 x1).bind fun t351 => (some (t351 == (-1)))) else (pelicanlaw14_PlanRound.l0 k x1 x1 0 0 x348000 x348001 x348002 x348003 x348004)
def pelicanlaw14_PlanRound.l0 : Nat → Int → Int → Int → Int → List Int → List (S47) → Int → Int → Int → Option (Bool)
  | 0, _, _, _, _, _, _, _, _, _ => none
  | k + 1, x1, x7, x8, x9, x348000, x348001, x348002, x348003, x348004 => if x9 < (x348001.length : Int) then (if x7 < 0 then (some false) else (if x7 ≥ (x348001.length : Int) then (some false) else (if 0 ≤ x7 then (if (Go.bits .and .i64 (shr .i64 x8 x7) 1) = 1 then (some false) else ((plan_Next.f k x348000 x348001 x348002 x348003 x348004 x7).bind fun t352 => (pelicanlaw14_PlanRound.l0 k x1 t352 (Go.bits .or .i64 x8 (shl .i64 1 x7)) (wrap64 (x9 + 1)) x348000 x348001 x348002 x348003 x348004))) else (none)))) else (some (x7 == x1))
end
def pelicanlaw14_PlanRound.f (k : Nat) (l0_0 : List Int) (l0_1 : List (S47)) (a0_2 : Int) (a0_3 : Int) (a0_4 : Int) (a1 : Int) : Option (Bool) := (pelicanlaw14_awake.f k).bind fun t348 => ((pelicanlaw14_Few.f l0_0 l0_1 a0_2 a0_3 a0_4).bind fun t349 => (if t348 = true then (if t349 = true then ((plan_Fit.f k l0_0 l0_1 a0_2 a0_3 a0_4).bind fun t350 => (pelicanlaw14_PlanRound.j0 k a1 t348 (!t350) l0_0 l0_1 a0_2 a0_3 a0_4)) else (pelicanlaw14_PlanRound.j0 k a1 t348 true l0_0 l0_1 a0_2 a0_3 a0_4)) else (pelicanlaw14_PlanRound.j0 k a1 t348 true l0_0 l0_1 a0_2 a0_3 a0_4)))
theorem pelicanlaw14_PlanRound.mono_l : ∀ k, (∀ y0 y1 y2 y3 y4 y5 y6 y7, LeO (pelicanlaw14_PlanRound.j0 k y0 y1 y2 y3 y4 y5 y6 y7) (pelicanlaw14_PlanRound.j0 (k + 1) y0 y1 y2 y3 y4 y5 y6 y7)) ∧ (∀ y0 y1 y2 y3 y4 y5 y6, LeO (pelicanlaw14_PlanRound.j1 k y0 y1 y2 y3 y4 y5 y6) (pelicanlaw14_PlanRound.j1 (k + 1) y0 y1 y2 y3 y4 y5 y6)) ∧ (∀ y0 y1 y2 y3 y4 y5 y6 y7 y8, LeO (pelicanlaw14_PlanRound.l0 k y0 y1 y2 y3 y4 y5 y6 y7 y8) (pelicanlaw14_PlanRound.l0 (k + 1) y0 y1 y2 y3 y4 y5 y6 y7 y8))
  | 0 => ⟨fun _ _ _ _ _ _ _ _ r h => by simp [pelicanlaw14_PlanRound.j0] at h, fun _ _ _ _ _ _ _ r h => by simp [pelicanlaw14_PlanRound.j1] at h, fun _ _ _ _ _ _ _ _ _ r h => by simp [pelicanlaw14_PlanRound.l0] at h⟩
  | k + 1 => by
    obtain ⟨ih0, ih1, ih2⟩ := pelicanlaw14_PlanRound.mono_l k
    refine ⟨?_, ?_, ?_⟩
    · intro y0 y1 y2 y3 y4 y5 y6 y7
      unfold pelicanlaw14_PlanRound.j0
      repeat' first
      | (with_reducible exact ih0 _ _ _ _ _ _ _ _)
      | (with_reducible exact ih1 _ _ _ _ _ _ _)
      | (with_reducible exact ih2 _ _ _ _ _ _ _ _ _)
      | (with_reducible exact pelicanlaw14_awake.mono _)
      | (with_reducible exact plan_Fit.mono _ _ _ _ _ _)
      | (with_reducible exact plan_Next.mono _ _ _ _ _ _ _)
      | (with_reducible exact LeO.refl _)
      | (with_reducible exact LeO.none _)
      | (with_reducible refine LeO.ite ?_ ?_)
      | (with_reducible refine LeO.bind ?_ (fun _ => ?_))
      | exact ih0 _ _ _ _ _ _ _ _
      | exact ih1 _ _ _ _ _ _ _
      | exact ih2 _ _ _ _ _ _ _ _ _
      | exact pelicanlaw14_awake.mono _
      | exact plan_Fit.mono _ _ _ _ _ _
      | exact plan_Next.mono _ _ _ _ _ _ _
      | exact LeO.none _
      | refine LeO.ite ?_ ?_
      | refine LeO.bind ?_ (fun _ => ?_)
    · intro y0 y1 y2 y3 y4 y5 y6
      unfold pelicanlaw14_PlanRound.j1
      repeat' first
      | (with_reducible exact ih0 _ _ _ _ _ _ _ _)
      | (with_reducible exact ih1 _ _ _ _ _ _ _)
      | (with_reducible exact ih2 _ _ _ _ _ _ _ _ _)
      | (with_reducible exact pelicanlaw14_awake.mono _)
      | (with_reducible exact plan_Fit.mono _ _ _ _ _ _)
      | (with_reducible exact plan_Next.mono _ _ _ _ _ _ _)
      | (with_reducible exact LeO.refl _)
      | (with_reducible exact LeO.none _)
      | (with_reducible refine LeO.ite ?_ ?_)
      | (with_reducible refine LeO.bind ?_ (fun _ => ?_))
      | exact ih0 _ _ _ _ _ _ _ _
      | exact ih1 _ _ _ _ _ _ _
      | exact ih2 _ _ _ _ _ _ _ _ _
      | exact pelicanlaw14_awake.mono _
      | exact plan_Fit.mono _ _ _ _ _ _
      | exact plan_Next.mono _ _ _ _ _ _ _
      | exact LeO.none _
      | refine LeO.ite ?_ ?_
      | refine LeO.bind ?_ (fun _ => ?_)
    · intro y0 y1 y2 y3 y4 y5 y6 y7 y8
      unfold pelicanlaw14_PlanRound.l0
      repeat' first
      | (with_reducible exact ih0 _ _ _ _ _ _ _ _)
      | (with_reducible exact ih1 _ _ _ _ _ _ _)
      | (with_reducible exact ih2 _ _ _ _ _ _ _ _ _)
      | (with_reducible exact pelicanlaw14_awake.mono _)
      | (with_reducible exact plan_Fit.mono _ _ _ _ _ _)
      | (with_reducible exact plan_Next.mono _ _ _ _ _ _ _)
      | (with_reducible exact LeO.refl _)
      | (with_reducible exact LeO.none _)
      | (with_reducible refine LeO.ite ?_ ?_)
      | (with_reducible refine LeO.bind ?_ (fun _ => ?_))
      | exact ih0 _ _ _ _ _ _ _ _
      | exact ih1 _ _ _ _ _ _ _
      | exact ih2 _ _ _ _ _ _ _ _ _
      | exact pelicanlaw14_awake.mono _
      | exact plan_Fit.mono _ _ _ _ _ _
      | exact plan_Next.mono _ _ _ _ _ _ _
      | exact LeO.none _
      | refine LeO.ite ?_ ?_
      | refine LeO.bind ?_ (fun _ => ?_)
theorem pelicanlaw14_PlanRound.mono : ∀ a0 a1 a2 a3 a4 a5 k, LeO (pelicanlaw14_PlanRound.f k a0 a1 a2 a3 a4 a5) (pelicanlaw14_PlanRound.f (k + 1) a0 a1 a2 a3 a4 a5) := by
  intro a0 a1 a2 a3 a4 a5 k
  obtain ⟨ih0, ih1, ih2⟩ := pelicanlaw14_PlanRound.mono_l k
  unfold pelicanlaw14_PlanRound.f
  repeat' first
      | (with_reducible exact ih0 _ _ _ _ _ _ _ _)
      | (with_reducible exact ih1 _ _ _ _ _ _ _)
      | (with_reducible exact ih2 _ _ _ _ _ _ _ _ _)
      | (with_reducible exact pelicanlaw14_awake.mono _)
      | (with_reducible exact plan_Fit.mono _ _ _ _ _ _)
      | (with_reducible exact plan_Next.mono _ _ _ _ _ _ _)
      | (with_reducible exact LeO.refl _)
      | (with_reducible exact LeO.none _)
      | (with_reducible refine LeO.ite ?_ ?_)
      | (with_reducible refine LeO.bind ?_ (fun _ => ?_))
      | exact ih0 _ _ _ _ _ _ _ _
      | exact ih1 _ _ _ _ _ _ _
      | exact ih2 _ _ _ _ _ _ _ _ _
      | exact pelicanlaw14_awake.mono _
      | exact plan_Fit.mono _ _ _ _ _ _
      | exact plan_Next.mono _ _ _ _ _ _ _
      | exact LeO.none _
      | refine LeO.ite ?_ ?_
      | refine LeO.bind ?_ (fun _ => ?_)
end Go.Proofs.YtnogkpofgkaefaaDoor.F
