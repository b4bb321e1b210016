/- Woven by wip/weave/weave.py of this repo (own tool) out of the translation: the contracts of some functions. Lean checks it. -/
import Derived.Test.YtechgjbhgeddjaaDoorD
namespace Go.Proofs.YtechgjbhgeddjaaDoor.F
open Go.RowKit Go.Proofs.YtechgjbhgeddjaaDoorW.PrintWords Go.Proofs.YtechgjbhgeddjaaDoorW.PrintLast Go.Proofs.YtechgjbhgeddjaaDoorW.PrintMore
attribute [local go_sem] max2_int min2_int max_two min_two max_three min_three max_four min_four   -- for this text's walks alone
set_option linter.unusedVariables false
set_option linter.unusedSimpArgs false

mutual
def pelicanlaw15_LampBack.j0 : Nat → List Int → List Int → ByteArray → Bool → Bool → Option (Bool)
  | 0, _, _, _, _, _ => none
  | k + 1, x0, x1, x2, x7, x32 => if x32 = true then (some x7) else ((lamp_Text.f x0).bind fun t718 => ((lamp_Read.f t718).bind fun bt719 => ((pelicanref05_Ints.f k bt719.1 x0).bind fun t723 => ((pelicanref05_Ints.f k x0 x1).bind fun t724 => ((lamp_May.f x0).bind fun t725 => (if (t725 != (t718.toList != ([] : List UInt8))) = true then (pelicanlaw15_LampBack.j1 k x2 true) else ((lamp_May.f x0).bind fun t726 => (if t726 = true then (if bt719.2 = true then (if t723 = true then (if (t718.size : Int) = (x0.length : Int) then ((lamp_May.f x0).bind fun t727 => (if t727 = true then ((lamp_May.f x1).bind fun t728 => (if t728 = true then ((lamp_Text.f x1).bind fun t729 => (pelicanlaw15_LampBack.j1 k x2 ((t729.toList == t718.toList) != t724))) else (pelicanlaw15_LampBack.j1 k x2 false))) else (pelicanlaw15_LampBack.j1 k x2 false))) else (pelicanlaw15_LampBack.j1 k x2 true)) else (pelicanlaw15_LampBack.j1 k x2 true)) else (pelicanlaw15_LampBack.j1 k x2 true)) else ((lamp_May.f x0).bind fun t730 => (if t730 = true then ((lamp_May.f x1).bind fun t731 => (if t731 = true then ((lamp_Text.f x1).bind fun t732 => (pelicanlaw15_LampBack.j1 k x2 ((t732.toList == t718.toList) != t724))) else (pelicanlaw15_LampBack.j1 k x2 false))) else (pelicanlaw15_LampBack.j1 k x2 false)))))))))))
def pelicanlaw15_LampBack.j1 : Nat → ByteArray → Bool → Option (Bool)
  | 0, _, _ => none
  | k + 1, x2, x86 => if x86 = true then (some false) else ((lamp_Read.f x2).bind fun bt733 => (if bt733.2 = true then ((lamp_May.f bt733.1).bind fun t737 => (if t737 = true then ((lamp_Text.f bt733.1).bind fun t738 => (some (t738.toList == x2.toList))) else (some false))) else (if (bt733.1.length : Int) = 0 then (some true) else (some false))))
end
def pelicanlaw15_LampBack.f (k : Nat) (l0 : List Int) (l1 : List Int) (a2 : ByteArray) : Option (Bool) := (pelicanlaw15_awake.f k).bind fun t717 => (if t717 = true then (if (l0.length : Int) > 20 then (pelicanlaw15_LampBack.j0 k l0 l1 a2 t717 true) else (if (l1.length : Int) > 20 then (pelicanlaw15_LampBack.j0 k l0 l1 a2 t717 true) else (pelicanlaw15_LampBack.j0 k l0 l1 a2 t717 (decide ((a2.size : Int) > 40))))) else (pelicanlaw15_LampBack.j0 k l0 l1 a2 t717 true))
theorem pelicanlaw15_LampBack.mono_l : ∀ k, (∀ y0 y1 y2 y3 y4, LeO (pelicanlaw15_LampBack.j0 k y0 y1 y2 y3 y4) (pelicanlaw15_LampBack.j0 (k + 1) y0 y1 y2 y3 y4)) ∧ (∀ y0 y1, LeO (pelicanlaw15_LampBack.j1 k y0 y1) (pelicanlaw15_LampBack.j1 (k + 1) y0 y1))
  | 0 => ⟨fun _ _ _ _ _ r h => by simp [pelicanlaw15_LampBack.j0] at h, fun _ _ r h => by simp [pelicanlaw15_LampBack.j1] at h⟩
  | k + 1 => by
    obtain ⟨ih0, ih1⟩ := pelicanlaw15_LampBack.mono_l k
    refine ⟨?_, ?_⟩
    · intro y0 y1 y2 y3 y4
      unfold pelicanlaw15_LampBack.j0
      repeat' first
      | (with_reducible exact ih0 _ _ _ _ _)
      | (with_reducible exact ih1 _ _)
      | (with_reducible exact pelicanlaw15_awake.mono _)
      | (with_reducible exact pelicanref05_Ints.mono _ _ _)
      | (with_reducible exact LeO.refl _)
      | (with_reducible exact LeO.none _)
      | (with_reducible refine LeO.ite ?_ ?_)
      | (with_reducible refine LeO.bind ?_ (fun _ => ?_))
      | exact ih0 _ _ _ _ _
      | exact ih1 _ _
      | exact pelicanlaw15_awake.mono _
      | exact pelicanref05_Ints.mono _ _ _
      | exact LeO.none _
      | refine LeO.ite ?_ ?_
      | refine LeO.bind ?_ (fun _ => ?_)
    · intro y0 y1
      unfold pelicanlaw15_LampBack.j1
      repeat' first
      | (with_reducible exact ih0 _ _ _ _ _)
      | (with_reducible exact ih1 _ _)
      | (with_reducible exact pelicanlaw15_awake.mono _)
      | (with_reducible exact pelicanref05_Ints.mono _ _ _)
      | (with_reducible exact LeO.refl _)
      | (with_reducible exact LeO.none _)
      | (with_reducible refine LeO.ite ?_ ?_)
      | (with_reducible refine LeO.bind ?_ (fun _ => ?_))
      | exact ih0 _ _ _ _ _
      | exact ih1 _ _
      | exact pelicanlaw15_awake.mono _
      | exact pelicanref05_Ints.mono _ _ _
      | exact LeO.none _
      | refine LeO.ite ?_ ?_
      | refine LeO.bind ?_ (fun _ => ?_)
theorem pelicanlaw15_LampBack.mono : ∀ a0 a1 a2 k, LeO (pelicanlaw15_LampBack.f k a0 a1 a2) (pelicanlaw15_LampBack.f (k + 1) a0 a1 a2) := by
  intro a0 a1 a2 k
  obtain ⟨ih0, ih1⟩ := pelicanlaw15_LampBack.mono_l k
  unfold pelicanlaw15_LampBack.f
  repeat' first
      | (with_reducible exact ih0 _ _ _ _ _)
      | (with_reducible exact ih1 _ _)
      | (with_reducible exact pelicanlaw15_awake.mono _)
      | (with_reducible exact pelicanref05_Ints.mono _ _ _)
      | (with_reducible exact LeO.refl _)
      | (with_reducible exact LeO.none _)
      | (with_reducible refine LeO.ite ?_ ?_)
      | (with_reducible refine LeO.bind ?_ (fun _ => ?_))
      | exact ih0 _ _ _ _ _
      | exact ih1 _ _
      | exact pelicanlaw15_awake.mono _
      | exact pelicanref05_Ints.mono _ _ _
      | exact LeO.none _
      | refine LeO.ite ?_ ?_
      | refine LeO.bind ?_ (fun _ => ?_)
end Go.Proofs.YtechgjbhgeddjaaDoor.F
