/- Woven by wip/weave/weave.py of this repo (own tool) out of the translation: the contracts of some functions. Lean checks it. -/
import Derived.Test.YtechgjbhgeddjaaDoorD
import Derived.Test.YtechgjbhgeddjaaDoorDR13
namespace Go.Proofs.YtechgjbhgeddjaaDoor.F
open Go.RowKit Go.Proofs.YtechgjbhgeddjaaDoorW.PrintWords Go.Proofs.YtechgjbhgeddjaaDoorW.PrintLast Go.Proofs.YtechgjbhgeddjaaDoorW.PrintMore
attribute [local go_sem] max2_int min2_int max_two min_two max_three min_three max_four min_four   -- for this text's walks alone
set_option linter.unusedVariables false
set_option linter.unusedSimpArgs false

def pelicanref14_Has.f (k : Nat) (l0_0 : List Int) (l0_1 : List (S41)) (a0_2 : Int) (a0_3 : Int) (a0_4 : Int) (a1 : Int) (a2 : Int) : Option (Bool) := if 0 ≤ a1 then (if a1 < (l0_1.length : Int) then ((pelicanref13_In.f k ((rd_T41 l0_1 a1).f0) a2).bind fun t229 => (some t229)) else (none)) else (none)
theorem pelicanref14_Has.mono : ∀ a0 a1 a2 a3 a4 a5 a6 k, LeO (pelicanref14_Has.f k a0 a1 a2 a3 a4 a5 a6) (pelicanref14_Has.f (k + 1) a0 a1 a2 a3 a4 a5 a6) := by
  intro a0 a1 a2 a3 a4 a5 a6 k
  unfold pelicanref14_Has.f
  repeat' first
      | (with_reducible exact pelicanref13_In.mono _ _ _)
      | (with_reducible exact LeO.refl _)
      | (with_reducible exact LeO.none _)
      | (with_reducible refine LeO.ite ?_ ?_)
      | (with_reducible refine LeO.bind ?_ (fun _ => ?_))
      | exact pelicanref13_In.mono _ _ _
      | exact LeO.none _
      | refine LeO.ite ?_ ?_
      | refine LeO.bind ?_ (fun _ => ?_)
def pelicanref14_stage.f (k : Nat) (l0_0 : List Int) (l0_1 : List (S41)) (a0_2 : Int) (a0_3 : Int) (a0_4 : Int) (a1_0 : Int) (a1_1 : Int) (a1_2 : Int) : Option (Bool) := (pelicanref13_Free.f k l0_0 a1_0).bind fun t245 => (if t245 = true then (if a1_0 = 0 then (some false) else (if a1_1 ≥ 1 then (if a1_1 ≤ 200 then (if a1_2 ≥ a1_1 then (some (decide (a1_2 ≤ 200))) else (some false)) else (some false)) else (some false))) else (some false))
theorem pelicanref14_stage.mono : ∀ a0 a1 a2 a3 a4 a5 a6 a7 k, LeO (pelicanref14_stage.f k a0 a1 a2 a3 a4 a5 a6 a7) (pelicanref14_stage.f (k + 1) a0 a1 a2 a3 a4 a5 a6 a7) := by
  intro a0 a1 a2 a3 a4 a5 a6 a7 k
  unfold pelicanref14_stage.f
  repeat' first
      | (with_reducible exact pelicanref13_Free.mono _ _ _)
      | (with_reducible exact LeO.refl _)
      | (with_reducible exact LeO.none _)
      | (with_reducible refine LeO.ite ?_ ?_)
      | (with_reducible refine LeO.bind ?_ (fun _ => ?_))
      | exact pelicanref13_Free.mono _ _ _
      | exact LeO.none _
      | refine LeO.ite ?_ ?_
      | refine LeO.bind ?_ (fun _ => ?_)
mutual
def pelicanref14_Fit.j0 : Nat → Bool → List Int → List (S41) → Int → Int → Int → Option (Bool)
  | 0, _, _, _, _, _, _ => none
  | k + 1, x26, x247000, x247001, x247002, x247003, x247004 => if x26 = true then (some false) else (pelicanref14_Fit.l0 k 0 x247000 x247001 x247002 x247003 x247004)
def pelicanref14_Fit.l0 : Nat → Int → List Int → List (S41) → Int → Int → Int → Option (Bool)
  | 0, _, _, _, _, _, _ => none
  | k + 1, x4, x247000, x247001, x247002, x247003, x247004 => if x4 < (x247001.length : Int) then (if 0 ≤ x4 then ((pelicanref14_stage.f k x247000 x247001 x247002 x247003 x247004 ((rd_T41 x247001 x4).f0) ((rd_T41 x247001 x4).f1) ((rd_T41 x247001 x4).f2)).bind fun t249 => (if t249 = true then (pelicanref14_Fit.l0 k (wrap64 (x4 + 1)) x247000 x247001 x247002 x247003 x247004) else (some false))) else (none)) else (pelicanref14_Fit.l1 k 0 x247000 x247001 x247002 x247003 x247004)
def pelicanref14_Fit.l1 : Nat → Int → List Int → List (S41) → Int → Int → Int → Option (Bool)
  | 0, _, _, _, _, _, _ => none
  | k + 1, x6, x247000, x247001, x247002, x247003, x247004 => if x6 < (x247000.length : Int) then (pelicanref14_Fit.l2 k x6 false 0 x247000 x247001 x247002 x247003 x247004) else (if x247002 ≥ 1 then (if x247002 ≤ 200 then (if x247003 ≥ 1 then (if x247003 ≤ 200 then (if x247004 ≥ 0 then (some (decide (x247004 ≤ 300))) else (some false)) else (some false)) else (some false)) else (some false)) else (some false))
def pelicanref14_Fit.l2 : Nat → Int → Bool → Int → List Int → List (S41) → Int → Int → Int → Option (Bool)
  | 0, _, _, _, _, _, _, _, _ => none
  | k + 1, x6, x7, x8, x247000, x247001, x247002, x247003, x247004 => if x8 < (x247001.length : Int) then ((pelicanref14_Has.f k x247000 x247001 x247002 x247003 x247004 x8 x6).bind fun t250 => (if x7 = true then (pelicanref14_Fit.l2 k x6 true (wrap64 (x8 + 1)) x247000 x247001 x247002 x247003 x247004) else (pelicanref14_Fit.l2 k x6 t250 (wrap64 (x8 + 1)) x247000 x247001 x247002 x247003 x247004))) else (if x7 = true then (pelicanref14_Fit.l1 k (wrap64 (x6 + 1)) x247000 x247001 x247002 x247003 x247004) else (some false))
end
def pelicanref14_Fit.f (k : Nat) (l0_0 : List Int) (l0_1 : List (S41)) (a0_2 : Int) (a0_3 : Int) (a0_4 : Int) : Option (Bool) := (pelicanref13_May.f k l0_0).bind fun t247 => (if t247 = true then (if (l0_1.length : Int) < 2 then (pelicanref14_Fit.j0 k true l0_0 l0_1 a0_2 a0_3 a0_4) else (pelicanref14_Fit.j0 k (decide ((l0_1.length : Int) > 6)) l0_0 l0_1 a0_2 a0_3 a0_4)) else (pelicanref14_Fit.j0 k true l0_0 l0_1 a0_2 a0_3 a0_4))
theorem pelicanref14_Fit.mono_l : ∀ k, (∀ y0 y1 y2 y3 y4 y5, LeO (pelicanref14_Fit.j0 k y0 y1 y2 y3 y4 y5) (pelicanref14_Fit.j0 (k + 1) y0 y1 y2 y3 y4 y5)) ∧ (∀ y0 y1 y2 y3 y4 y5, LeO (pelicanref14_Fit.l0 k y0 y1 y2 y3 y4 y5) (pelicanref14_Fit.l0 (k + 1) y0 y1 y2 y3 y4 y5)) ∧ (∀ y0 y1 y2 y3 y4 y5, LeO (pelicanref14_Fit.l1 k y0 y1 y2 y3 y4 y5) (pelicanref14_Fit.l1 (k + 1) y0 y1 y2 y3 y4 y5)) ∧ (∀ y0 y1 y2 y3 y4 y5 y6 y7, LeO (pelicanref14_Fit.l2 k y0 y1 y2 y3 y4 y5 y6 y7) (pelicanref14_Fit.l2 (k + 1) y0 y1 y2 y3 y4 y5 y6 y7))
  | 0 => ⟨fun _ _ _ _ _ _ r h => by simp [pelicanref14_Fit.j0] at h, fun _ _ _ _ _ _ r h => by simp [pelicanref14_Fit.l0] at h, fun _ _ _ _ _ _ r h => by simp [pelicanref14_Fit.l1] at h, fun _ _ _ _ _ _ _ _ r h => by simp [pelicanref14_Fit.l2] at h⟩
  | k + 1 => by
    obtain ⟨ih0, ih1, ih2, ih3⟩ := pelicanref14_Fit.mono_l k
    refine ⟨?_, ?_, ?_, ?_⟩
    · intro y0 y1 y2 y3 y4 y5
      unfold pelicanref14_Fit.j0
      repeat' first
      | (with_reducible exact ih0 _ _ _ _ _ _)
      | (with_reducible exact ih1 _ _ _ _ _ _)
      | (with_reducible exact ih2 _ _ _ _ _ _)
      | (with_reducible exact ih3 _ _ _ _ _ _ _ _)
      | (with_reducible exact pelicanref13_May.mono _ _)
      | (with_reducible exact pelicanref14_Has.mono _ _ _ _ _ _ _ _)
      | (with_reducible exact pelicanref14_stage.mono _ _ _ _ _ _ _ _ _)
      | (with_reducible exact LeO.refl _)
      | (with_reducible exact LeO.none _)
      | (with_reducible refine LeO.ite ?_ ?_)
      | (with_reducible refine LeO.bind ?_ (fun _ => ?_))
      | exact ih0 _ _ _ _ _ _
      | exact ih1 _ _ _ _ _ _
      | exact ih2 _ _ _ _ _ _
      | exact ih3 _ _ _ _ _ _ _ _
      | exact pelicanref13_May.mono _ _
      | exact pelicanref14_Has.mono _ _ _ _ _ _ _ _
      | exact pelicanref14_stage.mono _ _ _ _ _ _ _ _ _
      | exact LeO.none _
      | refine LeO.ite ?_ ?_
      | refine LeO.bind ?_ (fun _ => ?_)
    · intro y0 y1 y2 y3 y4 y5
      unfold pelicanref14_Fit.l0
      repeat' first
      | (with_reducible exact ih0 _ _ _ _ _ _)
      | (with_reducible exact ih1 _ _ _ _ _ _)
      | (with_reducible exact ih2 _ _ _ _ _ _)
      | (with_reducible exact ih3 _ _ _ _ _ _ _ _)
      | (with_reducible exact pelicanref13_May.mono _ _)
      | (with_reducible exact pelicanref14_Has.mono _ _ _ _ _ _ _ _)
      | (with_reducible exact pelicanref14_stage.mono _ _ _ _ _ _ _ _ _)
      | (with_reducible exact LeO.refl _)
      | (with_reducible exact LeO.none _)
      | (with_reducible refine LeO.ite ?_ ?_)
      | (with_reducible refine LeO.bind ?_ (fun _ => ?_))
      | exact ih0 _ _ _ _ _ _
      | exact ih1 _ _ _ _ _ _
      | exact ih2 _ _ _ _ _ _
      | exact ih3 _ _ _ _ _ _ _ _
      | exact pelicanref13_May.mono _ _
      | exact pelicanref14_Has.mono _ _ _ _ _ _ _ _
      | exact pelicanref14_stage.mono _ _ _ _ _ _ _ _ _
      | exact LeO.none _
      | refine LeO.ite ?_ ?_
      | refine LeO.bind ?_ (fun _ => ?_)
    · intro y0 y1 y2 y3 y4 y5
      unfold pelicanref14_Fit.l1
      repeat' first
      | (with_reducible exact ih0 _ _ _ _ _ _)
      | (with_reducible exact ih1 _ _ _ _ _ _)
      | (with_reducible exact ih2 _ _ _ _ _ _)
      | (with_reducible exact ih3 _ _ _ _ _ _ _ _)
      | (with_reducible exact pelicanref13_May.mono _ _)
      | (with_reducible exact pelicanref14_Has.mono _ _ _ _ _ _ _ _)
      | (with_reducible exact pelicanref14_stage.mono _ _ _ _ _ _ _ _ _)
      | (with_reducible exact LeO.refl _)
      | (with_reducible exact LeO.none _)
      | (with_reducible refine LeO.ite ?_ ?_)
      | (with_reducible refine LeO.bind ?_ (fun _ => ?_))
      | exact ih0 _ _ _ _ _ _
      | exact ih1 _ _ _ _ _ _
      | exact ih2 _ _ _ _ _ _
      | exact ih3 _ _ _ _ _ _ _ _
      | exact pelicanref13_May.mono _ _
      | exact pelicanref14_Has.mono _ _ _ _ _ _ _ _
      | exact pelicanref14_stage.mono _ _ _ _ _ _ _ _ _
      | exact LeO.none _
      | refine LeO.ite ?_ ?_
      | refine LeO.bind ?_ (fun _ => ?_)
    · intro y0 y1 y2 y3 y4 y5 y6 y7
      unfold pelicanref14_Fit.l2
      repeat' first
      | (with_reducible exact ih0 _ _ _ _ _ _)
      | (with_reducible exact ih1 _ _ _ _ _ _)
      | (with_reducible exact ih2 _ _ _ _ _ _)
      | (with_reducible exact ih3 _ _ _ _ _ _ _ _)
      | (with_reducible exact pelicanref13_May.mono _ _)
      | (with_reducible exact pelicanref14_Has.mono _ _ _ _ _ _ _ _)
      | (with_reducible exact pelicanref14_stage.mono _ _ _ _ _ _ _ _ _)
      | (with_reducible exact LeO.refl _)
      | (with_reducible exact LeO.none _)
      | (with_reducible refine LeO.ite ?_ ?_)
      | (with_reducible refine LeO.bind ?_ (fun _ => ?_))
      | exact ih0 _ _ _ _ _ _
      | exact ih1 _ _ _ _ _ _
      | exact ih2 _ _ _ _ _ _
      | exact ih3 _ _ _ _ _ _ _ _
      | exact pelicanref13_May.mono _ _
      | exact pelicanref14_Has.mono _ _ _ _ _ _ _ _
      | exact pelicanref14_stage.mono _ _ _ _ _ _ _ _ _
      | exact LeO.none _
      | refine LeO.ite ?_ ?_
      | refine LeO.bind ?_ (fun _ => ?_)
theorem pelicanref14_Fit.mono : ∀ a0 a1 a2 a3 a4 k, LeO (pelicanref14_Fit.f k a0 a1 a2 a3 a4) (pelicanref14_Fit.f (k + 1) a0 a1 a2 a3 a4) := by
  intro a0 a1 a2 a3 a4 k
  obtain ⟨ih0, ih1, ih2, ih3⟩ := pelicanref14_Fit.mono_l k
  unfold pelicanref14_Fit.f
  repeat' first
      | (with_reducible exact ih0 _ _ _ _ _ _)
      | (with_reducible exact ih1 _ _ _ _ _ _)
      | (with_reducible exact ih2 _ _ _ _ _ _)
      | (with_reducible exact ih3 _ _ _ _ _ _ _ _)
      | (with_reducible exact pelicanref13_May.mono _ _)
      | (with_reducible exact pelicanref14_Has.mono _ _ _ _ _ _ _ _)
      | (with_reducible exact pelicanref14_stage.mono _ _ _ _ _ _ _ _ _)
      | (with_reducible exact LeO.refl _)
      | (with_reducible exact LeO.none _)
      | (with_reducible refine LeO.ite ?_ ?_)
      | (with_reducible refine LeO.bind ?_ (fun _ => ?_))
      | exact ih0 _ _ _ _ _ _
      | exact ih1 _ _ _ _ _ _
      | exact ih2 _ _ _ _ _ _
      | exact ih3 _ _ _ _ _ _ _ _
      | exact pelicanref13_May.mono _ _
      | exact pelicanref14_Has.mono _ _ _ _ _ _ _ _
      | exact pelicanref14_stage.mono _ _ _ _ _ _ _ _ _
      | exact LeO.none _
      | refine LeO.ite ?_ ?_
      | refine LeO.bind ?_ (fun _ => ?_)
mutual
def pelicanref14_All.j0 : Nat → List (S39) → Bool → Option (Bool)
  | 0, _, _ => none
  | k + 1, x0, x12 => if x12 = true then (some false) else (pelicanref14_All.l0 k x0 0)
def pelicanref14_All.l0 : Nat → List (S39) → Int → Option (Bool)
  | 0, _, _ => none
  | k + 1, x0, x3 => if x3 < (x0.length : Int) then (if 0 ≤ x3 then ((pelicanref14_Fit.f k ((rd_T39 x0 x3).f0) ((rd_T39 x0 x3).f1) ((rd_T39 x0 x3).f2) ((rd_T39 x0 x3).f3) ((rd_T39 x0 x3).f4)).bind fun t252 => (if t252 = true then (if 0 < (x0.length : Int) then (if (((rd_T39 x0 x3).f0).length : Int) = (((rd_T39 x0 0).f0).length : Int) then (pelicanref14_All.l0 k x0 (wrap64 (x3 + 1))) else (some false)) else (none)) else (some false))) else (none)) else (some true)
end
def pelicanref14_All.f (k : Nat) (l0 : List (S39)) : Option (Bool) := if (l0.length : Int) < 1 then (pelicanref14_All.j0 k l0 true) else (pelicanref14_All.j0 k l0 (decide ((l0.length : Int) > 3)))
theorem pelicanref14_All.mono_l : ∀ k, (∀ y0 y1, LeO (pelicanref14_All.j0 k y0 y1) (pelicanref14_All.j0 (k + 1) y0 y1)) ∧ (∀ y0 y1, LeO (pelicanref14_All.l0 k y0 y1) (pelicanref14_All.l0 (k + 1) y0 y1))
  | 0 => ⟨fun _ _ r h => by simp [pelicanref14_All.j0] at h, fun _ _ r h => by simp [pelicanref14_All.l0] at h⟩
  | k + 1 => by
    obtain ⟨ih0, ih1⟩ := pelicanref14_All.mono_l k
    refine ⟨?_, ?_⟩
    · intro y0 y1
      unfold pelicanref14_All.j0
      repeat' first
      | (with_reducible exact ih0 _ _)
      | (with_reducible exact ih1 _ _)
      | (with_reducible exact pelicanref14_Fit.mono _ _ _ _ _ _)
      | (with_reducible exact LeO.refl _)
      | (with_reducible exact LeO.none _)
      | (with_reducible refine LeO.ite ?_ ?_)
      | (with_reducible refine LeO.bind ?_ (fun _ => ?_))
      | exact ih0 _ _
      | exact ih1 _ _
      | exact pelicanref14_Fit.mono _ _ _ _ _ _
      | exact LeO.none _
      | refine LeO.ite ?_ ?_
      | refine LeO.bind ?_ (fun _ => ?_)
    · intro y0 y1
      unfold pelicanref14_All.l0
      repeat' first
      | (with_reducible exact ih0 _ _)
      | (with_reducible exact ih1 _ _)
      | (with_reducible exact pelicanref14_Fit.mono _ _ _ _ _ _)
      | (with_reducible exact LeO.refl _)
      | (with_reducible exact LeO.none _)
      | (with_reducible refine LeO.ite ?_ ?_)
      | (with_reducible refine LeO.bind ?_ (fun _ => ?_))
      | exact ih0 _ _
      | exact ih1 _ _
      | exact pelicanref14_Fit.mono _ _ _ _ _ _
      | exact LeO.none _
      | refine LeO.ite ?_ ?_
      | refine LeO.bind ?_ (fun _ => ?_)
theorem pelicanref14_All.mono : ∀ a0 k, LeO (pelicanref14_All.f k a0) (pelicanref14_All.f (k + 1) a0) := by
  intro a0 k
  obtain ⟨ih0, ih1⟩ := pelicanref14_All.mono_l k
  unfold pelicanref14_All.f
  repeat' first
      | (with_reducible exact ih0 _ _)
      | (with_reducible exact ih1 _ _)
      | (with_reducible exact pelicanref14_Fit.mono _ _ _ _ _ _)
      | (with_reducible exact LeO.refl _)
      | (with_reducible exact LeO.none _)
      | (with_reducible refine LeO.ite ?_ ?_)
      | (with_reducible refine LeO.bind ?_ (fun _ => ?_))
      | exact ih0 _ _
      | exact ih1 _ _
      | exact pelicanref14_Fit.mono _ _ _ _ _ _
      | exact LeO.none _
      | refine LeO.ite ?_ ?_
      | refine LeO.bind ?_ (fun _ => ?_)
def pelicanref14_Next.j0 : Nat → Int → Bool → List Int → List (S41) → Int → Int → Int → Option (Int)
  | 0, _, _, _, _, _, _, _ => none
  | k + 1, x1, x20, x288000, x288001, x288002, x288003, x288004 => if x20 = true then (some (-1)) else (if x1 = (wrap64 ((x288001.length : Int) - 1)) then (some 0) else (some (wrap64 (x1 + 1))))
def pelicanref14_Next.f (k : Nat) (l0_0 : List Int) (l0_1 : List (S41)) (a0_2 : Int) (a0_3 : Int) (a0_4 : Int) (a1 : Int) : Option (Int) := (pelicanref14_Fit.f k l0_0 l0_1 a0_2 a0_3 a0_4).bind fun t288 => (if t288 = true then (if a1 < 0 then (pelicanref14_Next.j0 k a1 true l0_0 l0_1 a0_2 a0_3 a0_4) else (pelicanref14_Next.j0 k a1 (decide (a1 ≥ (l0_1.length : Int))) l0_0 l0_1 a0_2 a0_3 a0_4)) else (pelicanref14_Next.j0 k a1 true l0_0 l0_1 a0_2 a0_3 a0_4))
theorem pelicanref14_Next.mono_l : ∀ k, (∀ y0 y1 y2 y3 y4 y5 y6, LeO (pelicanref14_Next.j0 k y0 y1 y2 y3 y4 y5 y6) (pelicanref14_Next.j0 (k + 1) y0 y1 y2 y3 y4 y5 y6))
  | 0 => fun _ _ _ _ _ _ _ r h => by simp [pelicanref14_Next.j0] at h
  | k + 1 => by
    have ih0 := pelicanref14_Next.mono_l k
    · intro y0 y1 y2 y3 y4 y5 y6
      unfold pelicanref14_Next.j0
      repeat' first
      | (with_reducible exact ih0 _ _ _ _ _ _ _)
      | (with_reducible exact pelicanref14_Fit.mono _ _ _ _ _ _)
      | (with_reducible exact LeO.refl _)
      | (with_reducible exact LeO.none _)
      | (with_reducible refine LeO.ite ?_ ?_)
      | (with_reducible refine LeO.bind ?_ (fun _ => ?_))
      | exact ih0 _ _ _ _ _ _ _
      | exact pelicanref14_Fit.mono _ _ _ _ _ _
      | exact LeO.none _
      | refine LeO.ite ?_ ?_
      | refine LeO.bind ?_ (fun _ => ?_)
theorem pelicanref14_Next.mono : ∀ a0 a1 a2 a3 a4 a5 k, LeO (pelicanref14_Next.f k a0 a1 a2 a3 a4 a5) (pelicanref14_Next.f (k + 1) a0 a1 a2 a3 a4 a5) := by
  intro a0 a1 a2 a3 a4 a5 k
  have ih0 := pelicanref14_Next.mono_l k
  unfold pelicanref14_Next.f
  repeat' first
      | (with_reducible exact ih0 _ _ _ _ _ _ _)
      | (with_reducible exact pelicanref14_Fit.mono _ _ _ _ _ _)
      | (with_reducible exact LeO.refl _)
      | (with_reducible exact LeO.none _)
      | (with_reducible refine LeO.ite ?_ ?_)
      | (with_reducible refine LeO.bind ?_ (fun _ => ?_))
      | exact ih0 _ _ _ _ _ _ _
      | exact pelicanref14_Fit.mono _ _ _ _ _ _
      | exact LeO.none _
      | refine LeO.ite ?_ ?_
      | refine LeO.bind ?_ (fun _ => ?_)
end Go.Proofs.YtechgjbhgeddjaaDoor.F
