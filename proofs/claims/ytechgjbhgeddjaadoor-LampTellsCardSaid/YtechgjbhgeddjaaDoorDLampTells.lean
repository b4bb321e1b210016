/- Woven by wip/weave/weave.py of this repo (own tool) out of the translation: the contracts of some functions. Lean checks it. -/
import Derived.Test.YtechgjbhgeddjaaDoorD
import Derived.Test.YtechgjbhgeddjaaDoorDR15
namespace Go.Proofs.YtechgjbhgeddjaaDoor.F
open Go.RowKit Go.Proofs.YtechgjbhgeddjaaDoorW.PrintWords Go.Proofs.YtechgjbhgeddjaaDoorW.PrintLast Go.Proofs.YtechgjbhgeddjaaDoorW.PrintMore
attribute [local go_sem] max2_int min2_int max_two min_two max_three min_three max_four min_four   -- for this text's walks alone
set_option linter.unusedVariables false
set_option linter.unusedSimpArgs false

def pelicanlaw15_LampTells.j0 : Nat → Int → Int → List Int → ByteArray → Bool → Bool → List Int → List (S41) → Int → Int → Int → Option (Bool)
  | 0, _, _, _, _, _, _, _, _, _, _, _ => none
  | k + 1, x1, x2, x3, x4, x11, x39, x693000, x693001, x693002, x693003, x693004 => if x39 = true then (some x11) else ((lamp_Read.f x4).bind fun bt695 => ((pelicanref15_Read.f k x4).bind fun bt699 => ((pelicanref05_Ints.f k bt695.1 bt699.1).bind fun t703 => ((lamp_Show.f x693000 x693001 x693002 x693003 x693004 x1 x2).bind fun t704 => ((pelicanref15_Show.f k x693000 x693001 x693002 x693003 x693004 x1 x2).bind fun t707 => ((pelicanref05_Ints.f k t704 t707).bind fun t710 => ((pelicanref15_May.f k x3).bind fun t711 => ((pelicanref15_Clash.f k x693000 x693001 x693002 x693003 x693004 x3).bind fun t712 => (if t703 = true then (if (bt695.2 == bt699.2) = true then (if t710 = true then ((lamp_May.f x3).bind fun t713 => (if (t713 == t711) = true then ((lamp_Text.f x3).bind fun t714 => ((pelicanref15_Text.f k x3).bind fun t715 => (if t714.toList = t715.toList then ((lamp_Clash.f k x693000 x693001 x693002 x693003 x693004 x3).bind fun t716 => (some (t716 == t712))) else (some false)))) else (some false))) else (some false)) else (some false)) else (some false))))))))))
def pelicanlaw15_LampTells.f (k : Nat) (l0_0 : List Int) (l0_1 : List (S41)) (a0_2 : Int) (a0_3 : Int) (a0_4 : Int) (a1 : Int) (a2 : Int) (l3 : List Int) (a4 : ByteArray) : Option (Bool) := (pelicanlaw15_awake.f k).bind fun t693 => ((pelicanlaw14_Few.f l0_0 l0_1 a0_2 a0_3 a0_4).bind fun t694 => (if t693 = true then (if t694 = true then (if (l3.length : Int) > 20 then (pelicanlaw15_LampTells.j0 k a1 a2 l3 a4 t693 true l0_0 l0_1 a0_2 a0_3 a0_4) else (pelicanlaw15_LampTells.j0 k a1 a2 l3 a4 t693 (decide ((a4.size : Int) > 40)) l0_0 l0_1 a0_2 a0_3 a0_4)) else (pelicanlaw15_LampTells.j0 k a1 a2 l3 a4 t693 true l0_0 l0_1 a0_2 a0_3 a0_4)) else (pelicanlaw15_LampTells.j0 k a1 a2 l3 a4 t693 true l0_0 l0_1 a0_2 a0_3 a0_4)))
theorem pelicanlaw15_LampTells.mono_l : ∀ k, (∀ y0 y1 y2 y3 y4 y5 y6 y7 y8 y9 y10, LeO (pelicanlaw15_LampTells.j0 k y0 y1 y2 y3 y4 y5 y6 y7 y8 y9 y10) (pelicanlaw15_LampTells.j0 (k + 1) y0 y1 y2 y3 y4 y5 y6 y7 y8 y9 y10))
  | 0 => fun _ _ _ _ _ _ _ _ _ _ _ r h => by simp [pelicanlaw15_LampTells.j0] at h
  | k + 1 => by
    have ih0 := pelicanlaw15_LampTells.mono_l k
    · intro y0 y1 y2 y3 y4 y5 y6 y7 y8 y9 y10
      unfold pelicanlaw15_LampTells.j0
      repeat' first
      | (with_reducible exact ih0 _ _ _ _ _ _ _ _ _ _ _)
      | (with_reducible exact lamp_Clash.mono _ _ _ _ _ _ _)
      | (with_reducible exact pelicanlaw15_awake.mono _)
      | (with_reducible exact pelicanref05_Ints.mono _ _ _)
      | (with_reducible exact pelicanref15_Clash.mono _ _ _ _ _ _ _)
      | (with_reducible exact pelicanref15_May.mono _ _)
      | (with_reducible exact pelicanref15_Read.mono _ _)
      | (with_reducible exact pelicanref15_Show.mono _ _ _ _ _ _ _ _)
      | (with_reducible exact pelicanref15_Text.mono _ _)
      | (with_reducible exact LeO.refl _)
      | (with_reducible exact LeO.none _)
      | (with_reducible refine LeO.ite ?_ ?_)
      | (with_reducible refine LeO.bind ?_ (fun _ => ?_))
      | exact ih0 _ _ _ _ _ _ _ _ _ _ _
      | exact lamp_Clash.mono _ _ _ _ _ _ _
      | exact pelicanlaw15_awake.mono _
      | exact pelicanref05_Ints.mono _ _ _
      | exact pelicanref15_Clash.mono _ _ _ _ _ _ _
      | exact pelicanref15_May.mono _ _
      | exact pelicanref15_Read.mono _ _
      | exact pelicanref15_Show.mono _ _ _ _ _ _ _ _
      | exact pelicanref15_Text.mono _ _
      | exact LeO.none _
      | refine LeO.ite ?_ ?_
      | refine LeO.bind ?_ (fun _ => ?_)
theorem pelicanlaw15_LampTells.mono : ∀ a0 a1 a2 a3 a4 a5 a6 a7 a8 k, LeO (pelicanlaw15_LampTells.f k a0 a1 a2 a3 a4 a5 a6 a7 a8) (pelicanlaw15_LampTells.f (k + 1) a0 a1 a2 a3 a4 a5 a6 a7 a8) := by
  intro a0 a1 a2 a3 a4 a5 a6 a7 a8 k
  have ih0 := pelicanlaw15_LampTells.mono_l k
  unfold pelicanlaw15_LampTells.f
  repeat' first
      | (with_reducible exact ih0 _ _ _ _ _ _ _ _ _ _ _)
      | (with_reducible exact lamp_Clash.mono _ _ _ _ _ _ _)
      | (with_reducible exact pelicanlaw15_awake.mono _)
      | (with_reducible exact pelicanref05_Ints.mono _ _ _)
      | (with_reducible exact pelicanref15_Clash.mono _ _ _ _ _ _ _)
      | (with_reducible exact pelicanref15_May.mono _ _)
      | (with_reducible exact pelicanref15_Read.mono _ _)
      | (with_reducible exact pelicanref15_Show.mono _ _ _ _ _ _ _ _)
      | (with_reducible exact pelicanref15_Text.mono _ _)
      | (with_reducible exact LeO.refl _)
      | (with_reducible exact LeO.none _)
      | (with_reducible refine LeO.ite ?_ ?_)
      | (with_reducible refine LeO.bind ?_ (fun _ => ?_))
      | exact ih0 _ _ _ _ _ _ _ _ _ _ _
      | exact lamp_Clash.mono _ _ _ _ _ _ _
      | exact pelicanlaw15_awake.mono _
      | exact pelicanref05_Ints.mono _ _ _
      | exact pelicanref15_Clash.mono _ _ _ _ _ _ _
      | exact pelicanref15_May.mono _ _
      | exact pelicanref15_Read.mono _ _
      | exact pelicanref15_Show.mono _ _ _ _ _ _ _ _
      | exact pelicanref15_Text.mono _ _
      | exact LeO.none _
      | refine LeO.ite ?_ ?_
      | refine LeO.bind ?_ (fun _ => ?_)
end Go.Proofs.YtechgjbhgeddjaaDoor.F
