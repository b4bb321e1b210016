/- Woven by wip/weave/weave.py of this repo (own tool) out of the translation: the contracts of some functions. Lean checks it. -/
import Derived.Test.YtnogkpofgkaefaaDoorD
import Derived.Test.YtnogkpofgkaefaaDoorDR13
namespace Go.Proofs.YtnogkpofgkaefaaDoor.F
open Go.RowKit Go.Proofs.YtnogkpofgkaefaaDoorW.PrintWords Go.Proofs.YtnogkpofgkaefaaDoorW.PrintLast Go.Proofs.YtnogkpofgkaefaaDoorW.PrintMore
attribute [local go_sem] max2_int min2_int max_two min_two max_three min_three max_four min_four   -- for this text's walks alone
set_option linter.unusedVariables false
set_option linter.unusedSimpArgs false

def pelicanlaw13_GroupTells.j0 : Nat → List Int → Int → List Int → Bool → Bool → Option (Bool)
  | 0, _, _, _, _, _ => none
  | k + 1, x0, x1, x2, x7, x24 => if x24 = true then (some x7) else ((pelicanref13_May.f k x0).bind fun t170 => ((pelicanref13_Free.f k x0 x1).bind fun t171 => ((group_Sets.f k x0).bind fun t172 => ((pelicanref13_Sets.f k x0).bind fun t175 => ((pelicanref05_Ints.f k t172 t175).bind fun t178 => ((group_List.f x1).bind fun t179 => ((pelicanref13_List.f k x1).bind fun t182 => ((pelicanref05_Ints.f k t179 t182).bind fun t185 => ((group_May.f x0).bind fun t186 => (if (t186 == t170) = true then ((group_Free.f x0 x1).bind fun t187 => (if (t187 == t171) = true then ((group_Against.f x0 x1).bind fun t188 => ((pelicanref13_Against.f k x0 x1).bind fun t189 => (if t188 = t189 then (if t178 = true then (if t185 = true then ((group_Of.f k x2).bind fun t190 => ((pelicanref13_Of.f k x2).bind fun t191 => (some (t190 == t191)))) else (some false)) else (some false)) else (some false)))) else (some false))) else (some false)))))))))))
def pelicanlaw13_GroupTells.f (k : Nat) (l0 : List Int) (a1 : Int) (l2 : List Int) : Option (Bool) := (pelicanlaw13_awake.f k).bind fun t169 => (if t169 = true then (if (l0.length : Int) > 10 then (pelicanlaw13_GroupTells.j0 k l0 a1 l2 t169 true) else (pelicanlaw13_GroupTells.j0 k l0 a1 l2 t169 (decide ((l2.length : Int) > 20)))) else (pelicanlaw13_GroupTells.j0 k l0 a1 l2 t169 true))
theorem pelicanlaw13_GroupTells.mono_l : ∀ k, (∀ y0 y1 y2 y3 y4, LeO (pelicanlaw13_GroupTells.j0 k y0 y1 y2 y3 y4) (pelicanlaw13_GroupTells.j0 (k + 1) y0 y1 y2 y3 y4))
  | 0 => fun _ _ _ _ _ r h => by simp [pelicanlaw13_GroupTells.j0] at h
  | k + 1 => by
    have ih0 := pelicanlaw13_GroupTells.mono_l k
    · intro y0 y1 y2 y3 y4
      unfold pelicanlaw13_GroupTells.j0
      repeat' first
      | (with_reducible exact ih0 _ _ _ _ _)
      | (with_reducible exact group_Of.mono _ _)
      | (with_reducible exact group_Sets.mono _ _)
      | (with_reducible exact pelicanlaw13_awake.mono _)
      | (with_reducible exact pelicanref05_Ints.mono _ _ _)
      | (with_reducible exact pelicanref13_Against.mono _ _ _)
      | (with_reducible exact pelicanref13_Free.mono _ _ _)
      | (with_reducible exact pelicanref13_List.mono _ _)
      | (with_reducible exact pelicanref13_May.mono _ _)
      | (with_reducible exact pelicanref13_Of.mono _ _)
      | (with_reducible exact pelicanref13_Sets.mono _ _)
      | (with_reducible exact LeO.refl _)
      | (with_reducible exact LeO.none _)
      | (with_reducible refine LeO.ite ?_ ?_)
      | (with_reducible refine LeO.bind ?_ (fun _ => ?_))
      | exact ih0 _ _ _ _ _
      | exact group_Of.mono _ _
      | exact group_Sets.mono _ _
      | exact pelicanlaw13_awake.mono _
      | exact pelicanref05_Ints.mono _ _ _
      | exact pelicanref13_Against.mono _ _ _
      | exact pelicanref13_Free.mono _ _ _
      | exact pelicanref13_List.mono _ _
      | exact pelicanref13_May.mono _ _
      | exact pelicanref13_Of.mono _ _
      | exact pelicanref13_Sets.mono _ _
      | exact LeO.none _
      | refine LeO.ite ?_ ?_
      | refine LeO.bind ?_ (fun _ => ?_)
theorem pelicanlaw13_GroupTells.mono : ∀ a0 a1 a2 k, LeO (pelicanlaw13_GroupTells.f k a0 a1 a2) (pelicanlaw13_GroupTells.f (k + 1) a0 a1 a2) := by
  intro a0 a1 a2 k
  have ih0 := pelicanlaw13_GroupTells.mono_l k
  unfold pelicanlaw13_GroupTells.f
  repeat' first
      | (with_reducible exact ih0 _ _ _ _ _)
      | (with_reducible exact group_Of.mono _ _)
      | (with_reducible exact group_Sets.mono _ _)
      | (with_reducible exact pelicanlaw13_awake.mono _)
      | (with_reducible exact pelicanref05_Ints.mono _ _ _)
      | (with_reducible exact pelicanref13_Against.mono _ _ _)
      | (with_reducible exact pelicanref13_Free.mono _ _ _)
      | (with_reducible exact pelicanref13_List.mono _ _)
      | (with_reducible exact pelicanref13_May.mono _ _)
      | (with_reducible exact pelicanref13_Of.mono _ _)
      | (with_reducible exact pelicanref13_Sets.mono _ _)
      | (with_reducible exact LeO.refl _)
      | (with_reducible exact LeO.none _)
      | (with_reducible refine LeO.ite ?_ ?_)
      | (with_reducible refine LeO.bind ?_ (fun _ => ?_))
      | exact ih0 _ _ _ _ _
      | exact group_Of.mono _ _
      | exact group_Sets.mono _ _
      | exact pelicanlaw13_awake.mono _
      | exact pelicanref05_Ints.mono _ _ _
      | exact pelicanref13_Against.mono _ _ _
      | exact pelicanref13_Free.mono _ _ _
      | exact pelicanref13_List.mono _ _
      | exact pelicanref13_May.mono _ _
      | exact pelicanref13_Of.mono _ _
      | exact pelicanref13_Sets.mono _ _
      | exact LeO.none _
      | refine LeO.ite ?_ ?_
      | refine LeO.bind ?_ (fun _ => ?_)
end Go.Proofs.YtnogkpofgkaefaaDoor.F
