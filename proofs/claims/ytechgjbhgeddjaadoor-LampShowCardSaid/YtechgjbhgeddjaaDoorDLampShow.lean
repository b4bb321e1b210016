/- Woven by wip/weave/weave.py of this repo (own tool) out of the translation: the contracts of some functions. Lean checks it. -/
import Derived.Test.YtechgjbhgeddjaaDoorD
namespace Go.Proofs.YtechgjbhgeddjaaDoor.F
open Go.RowKit Go.Proofs.YtechgjbhgeddjaaDoorW.PrintWords Go.Proofs.YtechgjbhgeddjaaDoorW.PrintLast Go.Proofs.YtechgjbhgeddjaaDoorW.PrintMore
attribute [local go_sem] max2_int min2_int max_two min_two max_three min_three max_four min_four   -- for this text's walks alone
set_option linter.unusedVariables false
set_option linter.unusedSimpArgs false

def pelicanlaw15_LampShow.j0 : Nat → Int → Int → Bool → Bool → List Int → List (S41) → Int → Int → Int → Option (Bool)
  | 0, _, _, _, _, _, _, _, _, _ => none
  | k + 1, x1, x2, x7, x48, x749000, x749001, x749002, x749003, x749004 => if x48 = true then (some x7) else ((lamp_Show.f x749000 x749001 x749002 x749003 x749004 x1 0).bind fun t752 => ((lamp_Show.f x749000 x749001 x749002 x749003 x749004 x1 1).bind fun t755 => ((lamp_Show.f x749000 x749001 x749002 x749003 x749004 x1 2).bind fun t758 => (if (t752.length : Int) = (x749000.length : Int) then (if (t755.length : Int) = (x749000.length : Int) then (if (t758.length : Int) = (x749000.length : Int) then (if 0 ≤ x1 then (if x1 < (x749001.length : Int) then (if 0 ≤ x2 then (if x2 < (t758.length : Int) then (if (rd t758 x2) = 0 then (if (Go.bits .and .i64 (shr .i64 ((rd_T41 x749001 x1).f0) x2) 1) = 1 then (if x2 < (t752.length : Int) then (if (rd t752 x2) = 2 then (if x2 < (t755.length : Int) then (if (rd t755 x2) = 1 then (some true) else (if ((Go.bits .and .i64 (shr .i64 ((rd_T41 x749001 x1).f0) x2) 1) = 1) then (some false) else (if (rd t752 x2) = 0 then (some ((rd t755 x2) == 0)) else (some false)))) else (none)) else (if ((Go.bits .and .i64 (shr .i64 ((rd_T41 x749001 x1).f0) x2) 1) = 1) then (some false) else (if (rd t752 x2) = 0 then (if x2 < (t755.length : Int) then (some ((rd t755 x2) == 0)) else (none)) else (some false)))) else (none)) else (if ((Go.bits .and .i64 (shr .i64 ((rd_T41 x749001 x1).f0) x2) 1) = 1) then (some false) else (if x2 < (t752.length : Int) then (if (rd t752 x2) = 0 then (if x2 < (t755.length : Int) then (some ((rd t755 x2) == 0)) else (none)) else (some false)) else (none)))) else (some false)) else (none)) else (none)) else (none)) else (none)) else (some false)) else (some false)) else (some false)))))
def pelicanlaw15_LampShow.f (k : Nat) (l0_0 : List Int) (l0_1 : List (S41)) (a0_2 : Int) (a0_3 : Int) (a0_4 : Int) (a1 : Int) (a2 : Int) : Option (Bool) := (pelicanlaw15_awake.f k).bind fun t749 => ((pelicanlaw14_Few.f l0_0 l0_1 a0_2 a0_3 a0_4).bind fun t750 => (if t749 = true then (if t750 = true then ((plan_Fit.f k l0_0 l0_1 a0_2 a0_3 a0_4).bind fun t751 => (if t751 = true then (if a1 < 0 then (pelicanlaw15_LampShow.j0 k a1 a2 t749 true l0_0 l0_1 a0_2 a0_3 a0_4) else (if a1 ≥ (l0_1.length : Int) then (pelicanlaw15_LampShow.j0 k a1 a2 t749 true l0_0 l0_1 a0_2 a0_3 a0_4) else (if a2 < 0 then (pelicanlaw15_LampShow.j0 k a1 a2 t749 true l0_0 l0_1 a0_2 a0_3 a0_4) else (pelicanlaw15_LampShow.j0 k a1 a2 t749 (decide (a2 ≥ (l0_0.length : Int))) l0_0 l0_1 a0_2 a0_3 a0_4)))) else (pelicanlaw15_LampShow.j0 k a1 a2 t749 true l0_0 l0_1 a0_2 a0_3 a0_4))) else (pelicanlaw15_LampShow.j0 k a1 a2 t749 true l0_0 l0_1 a0_2 a0_3 a0_4)) else (pelicanlaw15_LampShow.j0 k a1 a2 t749 true l0_0 l0_1 a0_2 a0_3 a0_4)))
theorem pelicanlaw15_LampShow.mono_l : ∀ k, (∀ y0 y1 y2 y3 y4 y5 y6 y7 y8, LeO (pelicanlaw15_LampShow.j0 k y0 y1 y2 y3 y4 y5 y6 y7 y8) (pelicanlaw15_LampShow.j0 (k + 1) y0 y1 y2 y3 y4 y5 y6 y7 y8))
  | 0 => fun _ _ _ _ _ _ _ _ _ r h => by simp [pelicanlaw15_LampShow.j0] at h
  | k + 1 => by
    have ih0 := pelicanlaw15_LampShow.mono_l k
    · intro y0 y1 y2 y3 y4 y5 y6 y7 y8
      unfold pelicanlaw15_LampShow.j0
      repeat' first
      | (with_reducible exact ih0 _ _ _ _ _ _ _ _ _)
      | (with_reducible exact pelicanlaw15_awake.mono _)
      | (with_reducible exact plan_Fit.mono _ _ _ _ _ _)
      | (with_reducible exact LeO.refl _)
      | (with_reducible exact LeO.none _)
      | (with_reducible refine LeO.ite ?_ ?_)
      | (with_reducible refine LeO.bind ?_ (fun _ => ?_))
      | exact ih0 _ _ _ _ _ _ _ _ _
      | exact pelicanlaw15_awake.mono _
      | exact plan_Fit.mono _ _ _ _ _ _
      | exact LeO.none _
      | refine LeO.ite ?_ ?_
      | refine LeO.bind ?_ (fun _ => ?_)
theorem pelicanlaw15_LampShow.mono : ∀ a0 a1 a2 a3 a4 a5 a6 k, LeO (pelicanlaw15_LampShow.f k a0 a1 a2 a3 a4 a5 a6) (pelicanlaw15_LampShow.f (k + 1) a0 a1 a2 a3 a4 a5 a6) := by
  intro a0 a1 a2 a3 a4 a5 a6 k
  have ih0 := pelicanlaw15_LampShow.mono_l k
  unfold pelicanlaw15_LampShow.f
  repeat' first
      | (with_reducible exact ih0 _ _ _ _ _ _ _ _ _)
      | (with_reducible exact pelicanlaw15_awake.mono _)
      | (with_reducible exact plan_Fit.mono _ _ _ _ _ _)
      | (with_reducible exact LeO.refl _)
      | (with_reducible exact LeO.none _)
      | (with_reducible refine LeO.ite ?_ ?_)
      | (with_reducible refine LeO.bind ?_ (fun _ => ?_))
      | exact ih0 _ _ _ _ _ _ _ _ _
      | exact pelicanlaw15_awake.mono _
      | exact plan_Fit.mono _ _ _ _ _ _
      | exact LeO.none _
      | refine LeO.ite ?_ ?_
      | refine LeO.bind ?_ (fun _ => ?_)
end Go.Proofs.YtechgjbhgeddjaaDoor.F
