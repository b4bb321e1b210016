/- Woven by wip/weave/weave.py of this repo (own tool) out of the translation: the contracts of some functions. Lean checks it. -/
import Derived.Test.YtnogkpofgkaefaaDoorD
namespace Go.Proofs.YtnogkpofgkaefaaDoor.F
open Go.RowKit Go.Proofs.YtnogkpofgkaefaaDoorW.PrintWords Go.Proofs.YtnogkpofgkaefaaDoorW.PrintLast Go.Proofs.YtnogkpofgkaefaaDoorW.PrintMore
attribute [local go_sem] max2_int min2_int max_two min_two max_three min_three max_four min_four   -- for this text's walks alone
set_option linter.unusedVariables false
set_option linter.unusedSimpArgs false

mutual
def pelicanlaw14_PlanAll.j0 : Nat → Bool → Bool → List Int → List (S47) → Int → Int → Int → List Int → List (S47) → Int → Int → Int → List Int → List (S47) → Int → Int → Int → Option (Bool)
  | 0, _, _, _, _, _, _, _, _, _, _, _, _, _, _, _, _, _ => none
  | k + 1, x7, x36, x372000, x372001, x372002, x372003, x372004, x373000, x373001, x373002, x373003, x373004, x374000, x374001, x374002, x374003, x374004 => if x36 = true then (if x7 = true then ((plan_All.f ([] : List (S37))).bind fun t379 => (some (!t379))) else (some false)) else ((plan_Fit.f k x372000 x372001 x372002 x372003 x372004).bind fun t380 => (if t380 = true then ((plan_Fit.f k x373000 x373001 x373002 x373003 x373004).bind fun t381 => (if t381 = true then ((plan_Fit.f k x374000 x374001 x374002 x374003 x374004).bind fun t382 => (pelicanlaw14_PlanAll.j1 k t382 x372000 x372001 x372002 x372003 x372004 x373000 x373001 x373002 x373003 x373004 x374000 x374001 x374002 x374003 x374004)) else (pelicanlaw14_PlanAll.j1 k false x372000 x372001 x372002 x372003 x372004 x373000 x373001 x373002 x373003 x373004 x374000 x374001 x374002 x374003 x374004))) else (pelicanlaw14_PlanAll.j1 k false x372000 x372001 x372002 x372003 x372004 x373000 x373001 x373002 x373003 x373004 x374000 x374001 x374002 x374003 x374004)))
def pelicanlaw14_PlanAll.j1 : Nat → Bool → List Int → List (S47) → Int → Int → Int → List Int → List (S47) → Int → Int → Int → List Int → List (S47) → Int → Int → Int → Option (Bool)
  | 0, _, _, _, _, _, _, _, _, _, _, _, _, _, _, _, _ => none
  | k + 1, x11, x372000, x372001, x372002, x372003, x372004, x373000, x373001, x373002, x373003, x373004, x374000, x374001, x374002, x374003, x374004 => if (x372000.length : Int) = (x373000.length : Int) then (pelicanlaw14_PlanAll.j2 k x11 ((x373000.length : Int) == (x374000.length : Int)) x372000 x372001 x372002 x372003 x372004 x373000 x373001 x373002 x373003 x373004 x374000 x374001 x374002 x374003 x374004) else (pelicanlaw14_PlanAll.j2 k x11 false x372000 x372001 x372002 x372003 x372004 x373000 x373001 x373002 x373003 x373004 x374000 x374001 x374002 x374003 x374004)
def pelicanlaw14_PlanAll.j2 : Nat → Bool → Bool → List Int → List (S47) → Int → Int → Int → List Int → List (S47) → Int → Int → Int → List Int → List (S47) → Int → Int → Int → Option (Bool)
  | 0, _, _, _, _, _, _, _, _, _, _, _, _, _, _, _, _, _ => none
  | k + 1, x11, x12, x372000, x372001, x372002, x372003, x372004, x373000, x373001, x373002, x373003, x373004, x374000, x374001, x374002, x374003, x374004 => (plan_All.f (([(⟨x372000, x372001, x372002, x372003, x372004⟩ : S37), (⟨x373000, x373001, x373002, x373003, x373004⟩ : S37), (⟨x374000, x374001, x374002, x374003, x374004⟩ : S37)] : List (S37)))).bind fun t386 => (if x11 = true then (if (t386 == x12) = true then ((plan_All.f (([(⟨x374000, x374001, x374002, x374003, x374004⟩ : S37), (⟨x372000, x372001, x372002, x372003, x372004⟩ : S37), (⟨x373000, x373001, x373002, x373003, x373004⟩ : S37)] : List (S37)))).bind fun t390 => (if (t390 == x12) = true then ((plan_All.f (([(⟨x372000, x372001, x372002, x372003, x372004⟩ : S37)] : List (S37)))).bind fun t394 => ((plan_Fit.f k x372000 x372001 x372002 x372003 x372004).bind fun t395 => (if (t394 == t395) = true then ((plan_All.f (([(⟨x372000, x372001, x372002, x372003, x372004⟩ : S37), (⟨x373000, x373001, x373002, x373003, x373004⟩ : S37), (⟨x374000, x374001, x374002, x374003, x374004⟩ : S37), (⟨x372000, x372001, x372002, x372003, x372004⟩ : S37)] : List (S37)))).bind fun t399 => (some (!t399))) else (some false)))) else (some false))) else (some false)) else (if (t386 == false) = true then ((plan_All.f (([(⟨x374000, x374001, x374002, x374003, x374004⟩ : S37), (⟨x372000, x372001, x372002, x372003, x372004⟩ : S37), (⟨x373000, x373001, x373002, x373003, x373004⟩ : S37)] : List (S37)))).bind fun t403 => (if (t403 == false) = true then ((plan_All.f (([(⟨x372000, x372001, x372002, x372003, x372004⟩ : S37)] : List (S37)))).bind fun t407 => ((plan_Fit.f k x372000 x372001 x372002 x372003 x372004).bind fun t408 => (if (t407 == t408) = true then ((plan_All.f (([(⟨x372000, x372001, x372002, x372003, x372004⟩ : S37), (⟨x373000, x373001, x373002, x373003, x373004⟩ : S37), (⟨x374000, x374001, x374002, x374003, x374004⟩ : S37), (⟨x372000, x372001, x372002, x372003, x372004⟩ : S37)] : List (S37)))).bind fun t412 => (some (!t412))) else (some false)))) else (some false))) else (some false)))
end
def pelicanlaw14_PlanAll.f (k : Nat) (l0_0 : List Int) (l0_1 : List (S47)) (a0_2 : Int) (a0_3 : Int) (a0_4 : Int) (l1_0 : List Int) (l1_1 : List (S47)) (a1_2 : Int) (a1_3 : Int) (a1_4 : Int) (l2_0 : List Int) (l2_1 : List (S47)) (a2_2 : Int) (a2_3 : Int) (a2_4 : Int) : Option (Bool) := (pelicanlaw14_awake.f k).bind fun t374 => ((pelicanlaw14_Few.f l0_0 l0_1 a0_2 a0_3 a0_4).bind fun t375 => ((pelicanlaw14_Few.f l1_0 l1_1 a1_2 a1_3 a1_4).bind fun t376 => ((pelicanlaw14_Few.f l2_0 l2_1 a2_2 a2_3 a2_4).bind fun t377 => (if t374 = true then (if t375 = true then (if t376 = true then (if t377 = true then ((plan_All.f ([] : List (S37))).bind fun t378 => (pelicanlaw14_PlanAll.j0 k t374 t378 l0_0 l0_1 a0_2 a0_3 a0_4 l1_0 l1_1 a1_2 a1_3 a1_4 l2_0 l2_1 a2_2 a2_3 a2_4)) else (pelicanlaw14_PlanAll.j0 k t374 true l0_0 l0_1 a0_2 a0_3 a0_4 l1_0 l1_1 a1_2 a1_3 a1_4 l2_0 l2_1 a2_2 a2_3 a2_4)) else (pelicanlaw14_PlanAll.j0 k t374 true l0_0 l0_1 a0_2 a0_3 a0_4 l1_0 l1_1 a1_2 a1_3 a1_4 l2_0 l2_1 a2_2 a2_3 a2_4)) else (pelicanlaw14_PlanAll.j0 k t374 true l0_0 l0_1 a0_2 a0_3 a0_4 l1_0 l1_1 a1_2 a1_3 a1_4 l2_0 l2_1 a2_2 a2_3 a2_4)) else (pelicanlaw14_PlanAll.j0 k t374 true l0_0 l0_1 a0_2 a0_3 a0_4 l1_0 l1_1 a1_2 a1_3 a1_4 l2_0 l2_1 a2_2 a2_3 a2_4)))))
theorem pelicanlaw14_PlanAll.mono_l : ∀ k, (∀ y0 y1 y2 y3 y4 y5 y6 y7 y8 y9 y10 y11 y12 y13 y14 y15 y16, LeO (pelicanlaw14_PlanAll.j0 k y0 y1 y2 y3 y4 y5 y6 y7 y8 y9 y10 y11 y12 y13 y14 y15 y16) (pelicanlaw14_PlanAll.j0 (k + 1) y0 y1 y2 y3 y4 y5 y6 y7 y8 y9 y10 y11 y12 y13 y14 y15 y16)) ∧ (∀ y0 y1 y2 y3 y4 y5 y6 y7 y8 y9 y10 y11 y12 y13 y14 y15, LeO (pelicanlaw14_PlanAll.j1 k y0 y1 y2 y3 y4 y5 y6 y7 y8 y9 y10 y11 y12 y13 y14 y15) (pelicanlaw14_PlanAll.j1 (k + 1) y0 y1 y2 y3 y4 y5 y6 y7 y8 y9 y10 y11 y12 y13 y14 y15)) ∧ (∀ y0 y1 y2 y3 y4 y5 y6 y7 y8 y9 y10 y11 y12 y13 y14 y15 y16, LeO (pelicanlaw14_PlanAll.j2 k y0 y1 y2 y3 y4 y5 y6 y7 y8 y9 y10 y11 y12 y13 y14 y15 y16) (pelicanlaw14_PlanAll.j2 (k + 1) y0 y1 y2 y3 y4 y5 y6 y7 y8 y9 y10 y11 y12 y13 y14 y15 y16))
  | 0 => ⟨fun _ _ _ _ _ _ _ _ _ _ _ _ _ _ _ _ _ r h => by simp [pelicanlaw14_PlanAll.j0] at h, fun _ _ _ _ _ _ _ _ _ _ _ _ _ _ _ _ r h => by simp [pelicanlaw14_PlanAll.j1] at h, fun _ _ _ _ _ _ _ _ _ _ _ _ _ _ _ _ _ r h => by simp [pelicanlaw14_PlanAll.j2] at h⟩
  | k + 1 => by
    obtain ⟨ih0, ih1, ih2⟩ := pelicanlaw14_PlanAll.mono_l k
    refine ⟨?_, ?_, ?_⟩
    · intro y0 y1 y2 y3 y4 y5 y6 y7 y8 y9 y10 y11 y12 y13 y14 y15 y16
      unfold pelicanlaw14_PlanAll.j0
      repeat' first
      | (with_reducible exact ih0 _ _ _ _ _ _ _ _ _ _ _ _ _ _ _ _ _)
      | (with_reducible exact ih1 _ _ _ _ _ _ _ _ _ _ _ _ _ _ _ _)
      | (with_reducible exact ih2 _ _ _ _ _ _ _ _ _ _ _ _ _ _ _ _ _)
      | (with_reducible exact pelicanlaw14_awake.mono _)
      | (with_reducible exact plan_Fit.mono _ _ _ _ _ _)
      | (with_reducible exact LeO.refl _)
      | (with_reducible exact LeO.none _)
      | (with_reducible refine LeO.ite ?_ ?_)
      | (with_reducible refine LeO.bind ?_ (fun _ => ?_))
      | exact ih0 _ _ _ _ _ _ _ _ _ _ _ _ _ _ _ _ _
      | exact ih1 _ _ _ _ _ _ _ _ _ _ _ _ _ _ _ _
      | exact ih2 _ _ _ _ _ _ _ _ _ _ _ _ _ _ _ _ _
      | exact pelicanlaw14_awake.mono _
      | exact plan_Fit.mono _ _ _ _ _ _
      | exact LeO.none _
      | refine LeO.ite ?_ ?_
      | refine LeO.bind ?_ (fun _ => ?_)
    · intro y0 y1 y2 y3 y4 y5 y6 y7 y8 y9 y10 y11 y12 y13 y14 y15
      unfold pelicanlaw14_PlanAll.j1
      repeat' first
      | (with_reducible exact ih0 _ _ _ _ _ _ _ _ _ _ _ _ _ _ _ _ _)
      | (with_reducible exact ih1 _ _ _ _ _ _ _ _ _ _ _ _ _ _ _ _)
      | (with_reducible exact ih2 _ _ _ _ _ _ _ _ _ _ _ _ _ _ _ _ _)
      | (with_reducible exact pelicanlaw14_awake.mono _)
      | (with_reducible exact plan_Fit.mono _ _ _ _ _ _)
      | (with_reducible exact LeO.refl _)
      | (with_reducible exact LeO.none _)
      | (with_reducible refine LeO.ite ?_ ?_)
      | (with_reducible refine LeO.bind ?_ (fun _ => ?_))
      | exact ih0 _ _ _ _ _ _ _ _ _ _ _ _ _ _ _ _ _
      | exact ih1 _ _ _ _ _ _ _ _ _ _ _ _ _ _ _ _
      | exact ih2 _ _ _ _ _ _ _ _ _ _ _ _ _ _ _ _ _
      | exact pelicanlaw14_awake.mono _
      | exact plan_Fit.mono _ _ _ _ _ _
      | exact LeO.none _
      | refine LeO.ite ?_ ?_
      | refine LeO.bind ?_ (fun _ => ?_)
    · intro y0 y1 y2 y3 y4 y5 y6 y7 y8 y9 y10 y11 y12 y13 y14 y15 y16
      unfold pelicanlaw14_PlanAll.j2
      repeat' first
      | (with_reducible exact ih0 _ _ _ _ _ _ _ _ _ _ _ _ _ _ _ _ _)
      | (with_reducible exact ih1 _ _ _ _ _ _ _ _ _ _ _ _ _ _ _ _)
      | (with_reducible exact ih2 _ _ _ _ _ _ _ _ _ _ _ _ _ _ _ _ _)
      | (with_reducible exact pelicanlaw14_awake.mono _)
      | (with_reducible exact plan_Fit.mono _ _ _ _ _ _)
      | (with_reducible exact LeO.refl _)
      | (with_reducible exact LeO.none _)
      | (with_reducible refine LeO.ite ?_ ?_)
      | (with_reducible refine LeO.bind ?_ (fun _ => ?_))
      | exact ih0 _ _ _ _ _ _ _ _ _ _ _ _ _ _ _ _ _
      | exact ih1 _ _ _ _ _ _ _ _ _ _ _ _ _ _ _ _
      | exact ih2 _ _ _ _ _ _ _ _ _ _ _ _ _ _ _ _ _
      | exact pelicanlaw14_awake.mono _
      | exact plan_Fit.mono _ _ _ _ _ _
      | exact LeO.none _
      | refine LeO.ite ?_ ?_
      | refine LeO.bind ?_ (fun _ => ?_)
theorem pelicanlaw14_PlanAll.mono : ∀ a0 a1 a2 a3 a4 a5 a6 a7 a8 a9 a10 a11 a12 a13 a14 k, LeO (pelicanlaw14_PlanAll.f k a0 a1 a2 a3 a4 a5 a6 a7 a8 a9 a10 a11 a12 a13 a14) (pelicanlaw14_PlanAll.f (k + 1) a0 a1 a2 a3 a4 a5 a6 a7 a8 a9 a10 a11 a12 a13 a14) := by
  intro a0 a1 a2 a3 a4 a5 a6 a7 a8 a9 a10 a11 a12 a13 a14 k
  obtain ⟨ih0, ih1, ih2⟩ := pelicanlaw14_PlanAll.mono_l k
  unfold pelicanlaw14_PlanAll.f
  repeat' first
      | (with_reducible exact ih0 _ _ _ _ _ _ _ _ _ _ _ _ _ _ _ _ _)
      | (with_reducible exact ih1 _ _ _ _ _ _ _ _ _ _ _ _ _ _ _ _)
      | (with_reducible exact ih2 _ _ _ _ _ _ _ _ _ _ _ _ _ _ _ _ _)
      | (with_reducible exact pelicanlaw14_awake.mono _)
      | (with_reducible exact plan_Fit.mono _ _ _ _ _ _)
      | (with_reducible exact LeO.refl _)
      | (with_reducible exact LeO.none _)
      | (with_reducible refine LeO.ite ?_ ?_)
      | (with_reducible refine LeO.bind ?_ (fun _ => ?_))
      | exact ih0 _ _ _ _ _ _ _ _ _ _ _ _ _ _ _ _ _
      | exact ih1 _ _ _ _ _ _ _ _ _ _ _ _ _ _ _ _
      | exact ih2 _ _ _ _ _ _ _ _ _ _ _ _ _ _ _ _ _
      | exact pelicanlaw14_awake.mono _
      | exact plan_Fit.mono _ _ _ _ _ _
      | exact LeO.none _
      | refine LeO.ite ?_ ?_
      | refine LeO.bind ?_ (fun _ => ?_)
end Go.Proofs.YtnogkpofgkaefaaDoor.F
