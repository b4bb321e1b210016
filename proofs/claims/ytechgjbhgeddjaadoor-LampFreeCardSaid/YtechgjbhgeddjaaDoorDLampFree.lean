/- Woven by wip/weave/weave.py of this repo (own tool) out of the translation: the contracts of some functions. Lean checks it. -/
import Derived.Test.YtechgjbhgeddjaaDoorD
namespace Go.Proofs.YtechgjbhgeddjaaDoor.F
open Go.RowKit Go.Proofs.YtechgjbhgeddjaaDoorW.PrintWords Go.Proofs.YtechgjbhgeddjaaDoorW.PrintLast Go.Proofs.YtechgjbhgeddjaaDoorW.PrintMore
attribute [local go_sem] max2_int min2_int max_two min_two max_three min_three max_four min_four   -- for this text's walks alone
set_option linter.unusedVariables false
set_option linter.unusedSimpArgs false

def pelicanlaw15_LampFree.j0 : Nat → Int → Int → Bool → Bool → List Int → List (S41) → Int → Int → Int → Option (Bool)
  | 0, _, _, _, _, _, _, _, _, _ => none
  | k + 1, x1, x2, x7, x19, x740000, x740001, x740002, x740003, x740004 => if x19 = true then (some x7) else ((lamp_Show.f x740000 x740001 x740002 x740003 x740004 x1 x2).bind fun t742 => ((plan_Fit.f k x740000 x740001 x740002 x740003 x740004).bind fun t745 => (if t745 = true then (if x1 ≥ 0 then (if x1 < (x740001.length : Int) then (if x2 ≥ 0 then (if x2 < 3 then (if (t742.length : Int) = (x740000.length : Int) then ((lamp_May.f t742).bind fun t746 => (if t746 = true then ((lamp_Clash.f k x740000 x740001 x740002 x740003 x740004 t742).bind fun t747 => (some (!t747))) else (some false))) else (some false)) else (if (t742.length : Int) = 0 then (some true) else (some false))) else (if (t742.length : Int) = 0 then (some true) else (some false))) else (if (t742.length : Int) = 0 then (some true) else (some false))) else (if (t742.length : Int) = 0 then (some true) else (some false))) else (if (t742.length : Int) = 0 then (some true) else (some false)))))
def pelicanlaw15_LampFree.f (k : Nat) (l0_0 : List Int) (l0_1 : List (S41)) (a0_2 : Int) (a0_3 : Int) (a0_4 : Int) (a1 : Int) (a2 : Int) : Option (Bool) := (pelicanlaw15_awake.f k).bind fun t740 => ((pelicanlaw14_Few.f l0_0 l0_1 a0_2 a0_3 a0_4).bind fun t741 => (if t740 = true then (pelicanlaw15_LampFree.j0 k a1 a2 t740 (!t741) l0_0 l0_1 a0_2 a0_3 a0_4) else (pelicanlaw15_LampFree.j0 k a1 a2 t740 true l0_0 l0_1 a0_2 a0_3 a0_4)))
theorem pelicanlaw15_LampFree.mono_l : ∀ k, (∀ y0 y1 y2 y3 y4 y5 y6 y7 y8, LeO (pelicanlaw15_LampFree.j0 k y0 y1 y2 y3 y4 y5 y6 y7 y8) (pelicanlaw15_LampFree.j0 (k + 1) y0 y1 y2 y3 y4 y5 y6 y7 y8))
  | 0 => fun _ _ _ _ _ _ _ _ _ r h => by simp [pelicanlaw15_LampFree.j0] at h
  | k + 1 => by
    have ih0 := pelicanlaw15_LampFree.mono_l k
    · intro y0 y1 y2 y3 y4 y5 y6 y7 y8
      unfold pelicanlaw15_LampFree.j0
      repeat' first
      | (with_reducible exact ih0 _ _ _ _ _ _ _ _ _)
      | (with_reducible exact lamp_Clash.mono _ _ _ _ _ _ _)
      | (with_reducible exact pelicanlaw15_awake.mono _)
      | (with_reducible exact plan_Fit.mono _ _ _ _ _ _)
      | (with_reducible exact LeO.refl _)
      | (with_reducible exact LeO.none _)
      | (with_reducible refine LeO.ite ?_ ?_)
      | (with_reducible refine LeO.bind ?_ (fun _ => ?_))
      | exact ih0 _ _ _ _ _ _ _ _ _
      | exact lamp_Clash.mono _ _ _ _ _ _ _
      | exact pelicanlaw15_awake.mono _
      | exact plan_Fit.mono _ _ _ _ _ _
      | exact LeO.none _
      | refine LeO.ite ?_ ?_
      | refine LeO.bind ?_ (fun _ => ?_)
theorem pelicanlaw15_LampFree.mono : ∀ a0 a1 a2 a3 a4 a5 a6 k, LeO (pelicanlaw15_LampFree.f k a0 a1 a2 a3 a4 a5 a6) (pelicanlaw15_LampFree.f (k + 1) a0 a1 a2 a3 a4 a5 a6) := by
  intro a0 a1 a2 a3 a4 a5 a6 k
  have ih0 := pelicanlaw15_LampFree.mono_l k
  unfold pelicanlaw15_LampFree.f
  repeat' first
      | (with_reducible exact ih0 _ _ _ _ _ _ _ _ _)
      | (with_reducible exact lamp_Clash.mono _ _ _ _ _ _ _)
      | (with_reducible exact pelicanlaw15_awake.mono _)
      | (with_reducible exact plan_Fit.mono _ _ _ _ _ _)
      | (with_reducible exact LeO.refl _)
      | (with_reducible exact LeO.none _)
      | (with_reducible refine LeO.ite ?_ ?_)
      | (with_reducible refine LeO.bind ?_ (fun _ => ?_))
      | exact ih0 _ _ _ _ _ _ _ _ _
      | exact lamp_Clash.mono _ _ _ _ _ _ _
      | exact pelicanlaw15_awake.mono _
      | exact plan_Fit.mono _ _ _ _ _ _
      | exact LeO.none _
      | refine LeO.ite ?_ ?_
      | refine LeO.bind ?_ (fun _ => ?_)
end Go.Proofs.YtechgjbhgeddjaaDoor.F
