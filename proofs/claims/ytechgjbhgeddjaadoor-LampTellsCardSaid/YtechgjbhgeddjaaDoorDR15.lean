/- Woven by wip/weave/weave.py of this repo (own tool) out of the translation: the contracts of some functions. Lean checks it. -/
import Derived.Test.YtechgjbhgeddjaaDoorD
import Derived.Test.YtechgjbhgeddjaaDoorDR13
import Derived.Test.YtechgjbhgeddjaaDoorDR14
namespace Go.Proofs.YtechgjbhgeddjaaDoor.F
open Go.RowKit Go.Proofs.YtechgjbhgeddjaaDoorW.PrintWords Go.Proofs.YtechgjbhgeddjaaDoorW.PrintLast Go.Proofs.YtechgjbhgeddjaaDoorW.PrintMore
attribute [local go_sem] max2_int min2_int max_two min_two max_three min_three max_four min_four   -- for this text's walks alone
set_option linter.unusedVariables false
set_option linter.unusedSimpArgs false

mutual
def pelicanref15_Show.j0 : Nat → Int → Int → Bool → List Int → List (S41) → Int → Int → Int → Option (List Int)
  | 0, _, _, _, _, _, _, _, _ => none
  | k + 1, x1, x2, x34, x261000, x261001, x261002, x261003, x261004 => if x34 = true then (some ([] : List Int)) else (pelicanref15_Show.l0 k x1 x2 ([] : List Int) 0 x261000 x261001 x261002 x261003 x261004)
def pelicanref15_Show.l0 : Nat → Int → Int → List Int → Int → List Int → List (S41) → Int → Int → Int → Option (List Int)
  | 0, _, _, _, _, _, _, _, _, _ => none
  | k + 1, x1, x2, x8, x9, x261000, x261001, x261002, x261003, x261004 => if x9 < (x261000.length : Int) then ((pelicanref14_Has.f k x261000 x261001 x261002 x261003 x261004 x1 x9).bind fun t262 => (if t262 = true then (pelicanref15_Show.j2 k x1 x2 x8 x9 t262 0 (x2 == 0) x261000 x261001 x261002 x261003 x261004) else (pelicanref15_Show.j2 k x1 x2 x8 x9 t262 0 false x261000 x261001 x261002 x261003 x261004))) else (some x8)
def pelicanref15_Show.j2 : Nat → Int → Int → List Int → Int → Bool → Int → Bool → List Int → List (S41) → Int → Int → Int → Option (List Int)
  | 0, _, _, _, _, _, _, _, _, _, _, _, _ => none
  | k + 1, x1, x2, x8, x9, x10, x11, x50, x261000, x261001, x261002, x261003, x261004 => if x50 = true then (if x10 = true then (if x2 = 1 then (if x8.length < 17592186044416 then (pelicanref15_Show.l0 k x1 x2 (x8 ++ [1]) (wrap64 (x9 + 1)) x261000 x261001 x261002 x261003 x261004) else (none)) else (if x8.length < 17592186044416 then (pelicanref15_Show.l0 k x1 x2 (x8 ++ [2]) (wrap64 (x9 + 1)) x261000 x261001 x261002 x261003 x261004) else (none))) else (if x8.length < 17592186044416 then (pelicanref15_Show.l0 k x1 x2 (x8 ++ [2]) (wrap64 (x9 + 1)) x261000 x261001 x261002 x261003 x261004) else (none))) else (if x10 = true then (if x2 = 1 then (if x8.length < 17592186044416 then (pelicanref15_Show.l0 k x1 x2 (x8 ++ [1]) (wrap64 (x9 + 1)) x261000 x261001 x261002 x261003 x261004) else (none)) else (if x8.length < 17592186044416 then (pelicanref15_Show.l0 k x1 x2 (x8 ++ [x11]) (wrap64 (x9 + 1)) x261000 x261001 x261002 x261003 x261004) else (none))) else (if x8.length < 17592186044416 then (pelicanref15_Show.l0 k x1 x2 (x8 ++ [x11]) (wrap64 (x9 + 1)) x261000 x261001 x261002 x261003 x261004) else (none)))
end
def pelicanref15_Show.f (k : Nat) (l0_0 : List Int) (l0_1 : List (S41)) (a0_2 : Int) (a0_3 : Int) (a0_4 : Int) (a1 : Int) (a2 : Int) : Option (List Int) := (pelicanref14_Fit.f k l0_0 l0_1 a0_2 a0_3 a0_4).bind fun t261 => (if t261 = true then (if a1 < 0 then (pelicanref15_Show.j0 k a1 a2 true l0_0 l0_1 a0_2 a0_3 a0_4) else (if a1 ≥ (l0_1.length : Int) then (pelicanref15_Show.j0 k a1 a2 true l0_0 l0_1 a0_2 a0_3 a0_4) else (if a2 < 0 then (pelicanref15_Show.j0 k a1 a2 true l0_0 l0_1 a0_2 a0_3 a0_4) else (pelicanref15_Show.j0 k a1 a2 (decide (a2 ≥ 3)) l0_0 l0_1 a0_2 a0_3 a0_4)))) else (pelicanref15_Show.j0 k a1 a2 true l0_0 l0_1 a0_2 a0_3 a0_4))
theorem pelicanref15_Show.mono_l : ∀ k, (∀ y0 y1 y2 y3 y4 y5 y6 y7, LeO (pelicanref15_Show.j0 k y0 y1 y2 y3 y4 y5 y6 y7) (pelicanref15_Show.j0 (k + 1) y0 y1 y2 y3 y4 y5 y6 y7)) ∧ (∀ y0 y1 y2 y3 y4 y5 y6 y7 y8, LeO (pelicanref15_Show.l0 k y0 y1 y2 y3 y4 y5 y6 y7 y8) (pelicanref15_Show.l0 (k + 1) y0 y1 y2 y3 y4 y5 y6 y7 y8)) ∧ (∀ y0 y1 y2 y3 y4 y5 y6 y7 y8 y9 y10 y11, LeO (pelicanref15_Show.j2 k y0 y1 y2 y3 y4 y5 y6 y7 y8 y9 y10 y11) (pelicanref15_Show.j2 (k + 1) y0 y1 y2 y3 y4 y5 y6 y7 y8 y9 y10 y11))
  | 0 => ⟨fun _ _ _ _ _ _ _ _ r h => by simp [pelicanref15_Show.j0] at h, fun _ _ _ _ _ _ _ _ _ r h => by simp [pelicanref15_Show.l0] at h, fun _ _ _ _ _ _ _ _ _ _ _ _ r h => by simp [pelicanref15_Show.j2] at h⟩
  | k + 1 => by
    obtain ⟨ih0, ih1, ih2⟩ := pelicanref15_Show.mono_l k
    refine ⟨?_, ?_, ?_⟩
    · intro y0 y1 y2 y3 y4 y5 y6 y7
      unfold pelicanref15_Show.j0
      repeat' first
      | (with_reducible exact ih0 _ _ _ _ _ _ _ _)
      | (with_reducible exact ih1 _ _ _ _ _ _ _ _ _)
      | (with_reducible exact ih2 _ _ _ _ _ _ _ _ _ _ _ _)
      | (with_reducible exact pelicanref14_Fit.mono _ _ _ _ _ _)
      | (with_reducible exact pelicanref14_Has.mono _ _ _ _ _ _ _ _)
      | (with_reducible exact LeO.refl _)
      | (with_reducible exact LeO.none _)
      | (with_reducible refine LeO.ite ?_ ?_)
      | (with_reducible refine LeO.bind ?_ (fun _ => ?_))
      | exact ih0 _ _ _ _ _ _ _ _
      | exact ih1 _ _ _ _ _ _ _ _ _
      | exact ih2 _ _ _ _ _ _ _ _ _ _ _ _
      | exact pelicanref14_Fit.mono _ _ _ _ _ _
      | exact pelicanref14_Has.mono _ _ _ _ _ _ _ _
      | exact LeO.none _
      | refine LeO.ite ?_ ?_
      | refine LeO.bind ?_ (fun _ => ?_)
    · intro y0 y1 y2 y3 y4 y5 y6 y7 y8
      unfold pelicanref15_Show.l0
      repeat' first
      | (with_reducible exact ih0 _ _ _ _ _ _ _ _)
      | (with_reducible exact ih1 _ _ _ _ _ _ _ _ _)
      | (with_reducible exact ih2 _ _ _ _ _ _ _ _ _ _ _ _)
      | (with_reducible exact pelicanref14_Fit.mono _ _ _ _ _ _)
      | (with_reducible exact pelicanref14_Has.mono _ _ _ _ _ _ _ _)
      | (with_reducible exact LeO.refl _)
      | (with_reducible exact LeO.none _)
      | (with_reducible refine LeO.ite ?_ ?_)
      | (with_reducible refine LeO.bind ?_ (fun _ => ?_))
      | exact ih0 _ _ _ _ _ _ _ _
      | exact ih1 _ _ _ _ _ _ _ _ _
      | exact ih2 _ _ _ _ _ _ _ _ _ _ _ _
      | exact pelicanref14_Fit.mono _ _ _ _ _ _
      | exact pelicanref14_Has.mono _ _ _ _ _ _ _ _
      | exact LeO.none _
      | refine LeO.ite ?_ ?_
      | refine LeO.bind ?_ (fun _ => ?_)
    · intro y0 y1 y2 y3 y4 y5 y6 y7 y8 y9 y10 y11
      unfold pelicanref15_Show.j2
      repeat' first
      | (with_reducible exact ih0 _ _ _ _ _ _ _ _)
      | (with_reducible exact ih1 _ _ _ _ _ _ _ _ _)
      | (with_reducible exact ih2 _ _ _ _ _ _ _ _ _ _ _ _)
      | (with_reducible exact pelicanref14_Fit.mono _ _ _ _ _ _)
      | (with_reducible exact pelicanref14_Has.mono _ _ _ _ _ _ _ _)
      | (with_reducible exact LeO.refl _)
      | (with_reducible exact LeO.none _)
      | (with_reducible refine LeO.ite ?_ ?_)
      | (with_reducible refine LeO.bind ?_ (fun _ => ?_))
      | exact ih0 _ _ _ _ _ _ _ _
      | exact ih1 _ _ _ _ _ _ _ _ _
      | exact ih2 _ _ _ _ _ _ _ _ _ _ _ _
      | exact pelicanref14_Fit.mono _ _ _ _ _ _
      | exact pelicanref14_Has.mono _ _ _ _ _ _ _ _
      | exact LeO.none _
      | refine LeO.ite ?_ ?_
      | refine LeO.bind ?_ (fun _ => ?_)
theorem pelicanref15_Show.mono : ∀ a0 a1 a2 a3 a4 a5 a6 k, LeO (pelicanref15_Show.f k a0 a1 a2 a3 a4 a5 a6) (pelicanref15_Show.f (k + 1) a0 a1 a2 a3 a4 a5 a6) := by
  intro a0 a1 a2 a3 a4 a5 a6 k
  obtain ⟨ih0, ih1, ih2⟩ := pelicanref15_Show.mono_l k
  unfold pelicanref15_Show.f
  repeat' first
      | (with_reducible exact ih0 _ _ _ _ _ _ _ _)
      | (with_reducible exact ih1 _ _ _ _ _ _ _ _ _)
      | (with_reducible exact ih2 _ _ _ _ _ _ _ _ _ _ _ _)
      | (with_reducible exact pelicanref14_Fit.mono _ _ _ _ _ _)
      | (with_reducible exact pelicanref14_Has.mono _ _ _ _ _ _ _ _)
      | (with_reducible exact LeO.refl _)
      | (with_reducible exact LeO.none _)
      | (with_reducible refine LeO.ite ?_ ?_)
      | (with_reducible refine LeO.bind ?_ (fun _ => ?_))
      | exact ih0 _ _ _ _ _ _ _ _
      | exact ih1 _ _ _ _ _ _ _ _ _
      | exact ih2 _ _ _ _ _ _ _ _ _ _ _ _
      | exact pelicanref14_Fit.mono _ _ _ _ _ _
      | exact pelicanref14_Has.mono _ _ _ _ _ _ _ _
      | exact LeO.none _
      | refine LeO.ite ?_ ?_
      | refine LeO.bind ?_ (fun _ => ?_)
mutual
def pelicanref15_May.j0 : Nat → List Int → Bool → Option (Bool)
  | 0, _, _ => none
  | k + 1, x0, x11 => if x11 = true then (some false) else (pelicanref15_May.l0 k x0 0)
def pelicanref15_May.l0 : Nat → List Int → Int → Option (Bool)
  | 0, _, _ => none
  | k + 1, x0, x3 => if x3 < (x0.length : Int) then (if 0 ≤ x3 then (if (rd x0 x3) < 0 then (some false) else (if (rd x0 x3) ≥ 3 then (some false) else (pelicanref15_May.l0 k x0 (wrap64 (x3 + 1))))) else (none)) else (some true)
end
def pelicanref15_May.f (k : Nat) (l0 : List Int) : Option (Bool) := if (l0.length : Int) < 1 then (pelicanref15_May.j0 k l0 true) else (pelicanref15_May.j0 k l0 (decide ((l0.length : Int) > 8)))
theorem pelicanref15_May.mono_l : ∀ k, (∀ y0 y1, LeO (pelicanref15_May.j0 k y0 y1) (pelicanref15_May.j0 (k + 1) y0 y1)) ∧ (∀ y0 y1, LeO (pelicanref15_May.l0 k y0 y1) (pelicanref15_May.l0 (k + 1) y0 y1))
  | 0 => ⟨fun _ _ r h => by simp [pelicanref15_May.j0] at h, fun _ _ r h => by simp [pelicanref15_May.l0] at h⟩
  | k + 1 => by
    obtain ⟨ih0, ih1⟩ := pelicanref15_May.mono_l k
    refine ⟨?_, ?_⟩
    · intro y0 y1
      unfold pelicanref15_May.j0
      repeat' first
      | (with_reducible exact ih0 _ _)
      | (with_reducible exact ih1 _ _)
      | (with_reducible exact LeO.refl _)
      | (with_reducible exact LeO.none _)
      | (with_reducible refine LeO.ite ?_ ?_)
      | (with_reducible refine LeO.bind ?_ (fun _ => ?_))
      | exact ih0 _ _
      | exact ih1 _ _
      | exact LeO.none _
      | refine LeO.ite ?_ ?_
      | refine LeO.bind ?_ (fun _ => ?_)
    · intro y0 y1
      unfold pelicanref15_May.l0
      repeat' first
      | (with_reducible exact ih0 _ _)
      | (with_reducible exact ih1 _ _)
      | (with_reducible exact LeO.refl _)
      | (with_reducible exact LeO.none _)
      | (with_reducible refine LeO.ite ?_ ?_)
      | (with_reducible refine LeO.bind ?_ (fun _ => ?_))
      | exact ih0 _ _
      | exact ih1 _ _
      | exact LeO.none _
      | refine LeO.ite ?_ ?_
      | refine LeO.bind ?_ (fun _ => ?_)
theorem pelicanref15_May.mono : ∀ a0 k, LeO (pelicanref15_May.f k a0) (pelicanref15_May.f (k + 1) a0) := by
  intro a0 k
  obtain ⟨ih0, ih1⟩ := pelicanref15_May.mono_l k
  unfold pelicanref15_May.f
  repeat' first
      | (with_reducible exact ih0 _ _)
      | (with_reducible exact ih1 _ _)
      | (with_reducible exact LeO.refl _)
      | (with_reducible exact LeO.none _)
      | (with_reducible refine LeO.ite ?_ ?_)
      | (with_reducible refine LeO.bind ?_ (fun _ => ?_))
      | exact ih0 _ _
      | exact ih1 _ _
      | exact LeO.none _
      | refine LeO.ite ?_ ?_
      | refine LeO.bind ?_ (fun _ => ?_)
mutual
def pelicanref15_Text.l0 : Nat → List Int → Bool → ByteArray → Int → Option (ByteArray)
  | 0, _, _, _, _ => none
  | k + 1, x0, x3, x4, x5 => if x5 < (x0.length : Int) then (pelicanref15_Text.j1 k x0 x3 x4 x5 x3) else (pelicanref15_Text.j1 k x0 x3 x4 x5 false)
def pelicanref15_Text.j1 : Nat → List Int → Bool → ByteArray → Int → Bool → Option (ByteArray)
  | 0, _, _, _, _, _ => none
  | k + 1, x0, x3, x4, x5, x14 => if x14 = true then (if 0 ≤ x5 then (if x5 < (x0.length : Int) then (if (rd x0 x5) = 0 then (if x4.size + 1 ≤ 9223372036854775807 then (pelicanref15_Text.j2 k x0 x3 (x4 ++ (⟨#[114]⟩ : ByteArray)) x5) else (none)) else (pelicanref15_Text.j2 k x0 x3 x4 x5)) else (none)) else (none)) else (some x4)
def pelicanref15_Text.j2 : Nat → List Int → Bool → ByteArray → Int → Option (ByteArray)
  | 0, _, _, _, _ => none
  | k + 1, x0, x3, x4, x5 => if 0 ≤ x5 then (if x5 < (x0.length : Int) then (if (rd x0 x5) = 1 then (if x4.size + 1 ≤ 9223372036854775807 then (if (rd x0 x5) = 2 then (if (x4 ++ (⟨#[97]⟩ : ByteArray)).size + 1 ≤ 9223372036854775807 then (pelicanref15_Text.l0 k x0 x3 ((x4 ++ (⟨#[97]⟩ : ByteArray)) ++ (⟨#[103]⟩ : ByteArray)) (wrap64 (x5 + 1))) else (none)) else (pelicanref15_Text.l0 k x0 x3 (x4 ++ (⟨#[97]⟩ : ByteArray)) (wrap64 (x5 + 1)))) else (none)) else (if (rd x0 x5) = 2 then (if x4.size + 1 ≤ 9223372036854775807 then (pelicanref15_Text.l0 k x0 x3 (x4 ++ (⟨#[103]⟩ : ByteArray)) (wrap64 (x5 + 1))) else (none)) else (pelicanref15_Text.l0 k x0 x3 x4 (wrap64 (x5 + 1))))) else (none)) else (none)
end
def pelicanref15_Text.f (k : Nat) (l0 : List Int) : Option (ByteArray) := (pelicanref15_May.f k l0).bind fun t665 => (pelicanref15_Text.l0 k l0 t665 (⟨#[]⟩ : ByteArray) 0)
theorem pelicanref15_Text.mono_l : ∀ k, (∀ y0 y1 y2 y3, LeO (pelicanref15_Text.l0 k y0 y1 y2 y3) (pelicanref15_Text.l0 (k + 1) y0 y1 y2 y3)) ∧ (∀ y0 y1 y2 y3 y4, LeO (pelicanref15_Text.j1 k y0 y1 y2 y3 y4) (pelicanref15_Text.j1 (k + 1) y0 y1 y2 y3 y4)) ∧ (∀ y0 y1 y2 y3, LeO (pelicanref15_Text.j2 k y0 y1 y2 y3) (pelicanref15_Text.j2 (k + 1) y0 y1 y2 y3))
  | 0 => ⟨fun _ _ _ _ r h => by simp [pelicanref15_Text.l0] at h, fun _ _ _ _ _ r h => by simp [pelicanref15_Text.j1] at h, fun _ _ _ _ r h => by simp [pelicanref15_Text.j2] at h⟩
  | k + 1 => by
    obtain ⟨ih0, ih1, ih2⟩ := pelicanref15_Text.mono_l k
    refine ⟨?_, ?_, ?_⟩
    · intro y0 y1 y2 y3
      unfold pelicanref15_Text.l0
      repeat' first
      | (with_reducible exact ih0 _ _ _ _)
      | (with_reducible exact ih1 _ _ _ _ _)
      | (with_reducible exact ih2 _ _ _ _)
      | (with_reducible exact pelicanref15_May.mono _ _)
      | (with_reducible exact LeO.refl _)
      | (with_reducible exact LeO.none _)
      | (with_reducible refine LeO.ite ?_ ?_)
      | (with_reducible refine LeO.bind ?_ (fun _ => ?_))
      | exact ih0 _ _ _ _
      | exact ih1 _ _ _ _ _
      | exact ih2 _ _ _ _
      | exact pelicanref15_May.mono _ _
      | exact LeO.none _
      | refine LeO.ite ?_ ?_
      | refine LeO.bind ?_ (fun _ => ?_)
    · intro y0 y1 y2 y3 y4
      unfold pelicanref15_Text.j1
      repeat' first
      | (with_reducible exact ih0 _ _ _ _)
      | (with_reducible exact ih1 _ _ _ _ _)
      | (with_reducible exact ih2 _ _ _ _)
      | (with_reducible exact pelicanref15_May.mono _ _)
      | (with_reducible exact LeO.refl _)
      | (with_reducible exact LeO.none _)
      | (with_reducible refine LeO.ite ?_ ?_)
      | (with_reducible refine LeO.bind ?_ (fun _ => ?_))
      | exact ih0 _ _ _ _
      | exact ih1 _ _ _ _ _
      | exact ih2 _ _ _ _
      | exact pelicanref15_May.mono _ _
      | exact LeO.none _
      | refine LeO.ite ?_ ?_
      | refine LeO.bind ?_ (fun _ => ?_)
    · intro y0 y1 y2 y3
      unfold pelicanref15_Text.j2
      repeat' first
      | (with_reducible exact ih0 _ _ _ _)
      | (with_reducible exact ih1 _ _ _ _ _)
      | (with_reducible exact ih2 _ _ _ _)
      | (with_reducible exact pelicanref15_May.mono _ _)
      | (with_reducible exact LeO.refl _)
      | (with_reducible exact LeO.none _)
      | (with_reducible refine LeO.ite ?_ ?_)
      | (with_reducible refine LeO.bind ?_ (fun _ => ?_))
      | exact ih0 _ _ _ _
      | exact ih1 _ _ _ _ _
      | exact ih2 _ _ _ _
      | exact pelicanref15_May.mono _ _
      | exact LeO.none _
      | refine LeO.ite ?_ ?_
      | refine LeO.bind ?_ (fun _ => ?_)
theorem pelicanref15_Text.mono : ∀ a0 k, LeO (pelicanref15_Text.f k a0) (pelicanref15_Text.f (k + 1) a0) := by
  intro a0 k
  obtain ⟨ih0, ih1, ih2⟩ := pelicanref15_Text.mono_l k
  unfold pelicanref15_Text.f
  repeat' first
      | (with_reducible exact ih0 _ _ _ _)
      | (with_reducible exact ih1 _ _ _ _ _)
      | (with_reducible exact ih2 _ _ _ _)
      | (with_reducible exact pelicanref15_May.mono _ _)
      | (with_reducible exact LeO.refl _)
      | (with_reducible exact LeO.none _)
      | (with_reducible refine LeO.ite ?_ ?_)
      | (with_reducible refine LeO.bind ?_ (fun _ => ?_))
      | exact ih0 _ _ _ _
      | exact ih1 _ _ _ _ _
      | exact ih2 _ _ _ _
      | exact pelicanref15_May.mono _ _
      | exact LeO.none _
      | refine LeO.ite ?_ ?_
      | refine LeO.bind ?_ (fun _ => ?_)
mutual
def pelicanref15_Read.l0 : Nat → ByteArray → List Int → Int → Option (List Int × Bool)
  | 0, _, _, _ => none
  | k + 1, x0, x4, x5 => if x5 < (x0.size : Int) then (pelicanref15_Read.j1 k x0 x4 x5 (decide (x5 < 9))) else (pelicanref15_Read.j1 k x0 x4 x5 false)
def pelicanref15_Read.j1 : Nat → ByteArray → List Int → Int → Bool → Option (List Int × Bool)
  | 0, _, _, _, _ => none
  | k + 1, x0, x4, x5, x14 => if x14 = true then (if 0 ≤ x5 then (if x5 < (x0.size : Int) then (if (bt x0 x5) = 114 then (pelicanref15_Read.j2 k x0 x4 x5 0) else (pelicanref15_Read.j2 k x0 x4 x5 (-1))) else (none)) else (none)) else (if x0.toList = ([] : List UInt8) then (some (([] : List Int), false)) else ((pelicanref15_Text.f k x4).bind fun t670 => (if t670.toList = x0.toList then (some (x4, true)) else (some (([] : List Int), false)))))
def pelicanref15_Read.j2 : Nat → ByteArray → List Int → Int → Int → Option (List Int × Bool)
  | 0, _, _, _, _ => none
  | k + 1, x0, x4, x5, x6 => if 0 ≤ x5 then (if x5 < (x0.size : Int) then (if (bt x0 x5) = 97 then (if (bt x0 x5) = 103 then (if x4.length < 17592186044416 then (pelicanref15_Read.l0 k x0 (x4 ++ [2]) (wrap64 (x5 + 1))) else (none)) else (if x4.length < 17592186044416 then (pelicanref15_Read.l0 k x0 (x4 ++ [1]) (wrap64 (x5 + 1))) else (none))) else (if (bt x0 x5) = 103 then (if x4.length < 17592186044416 then (pelicanref15_Read.l0 k x0 (x4 ++ [2]) (wrap64 (x5 + 1))) else (none)) else (if x4.length < 17592186044416 then (pelicanref15_Read.l0 k x0 (x4 ++ [x6]) (wrap64 (x5 + 1))) else (none)))) else (none)) else (none)
end
def pelicanref15_Read.f (k : Nat) (a0 : ByteArray) : Option (List Int × Bool) := pelicanref15_Read.l0 k a0 ([] : List Int) 0
theorem pelicanref15_Read.mono_l : ∀ k, (∀ y0 y1 y2, LeO (pelicanref15_Read.l0 k y0 y1 y2) (pelicanref15_Read.l0 (k + 1) y0 y1 y2)) ∧ (∀ y0 y1 y2 y3, LeO (pelicanref15_Read.j1 k y0 y1 y2 y3) (pelicanref15_Read.j1 (k + 1) y0 y1 y2 y3)) ∧ (∀ y0 y1 y2 y3, LeO (pelicanref15_Read.j2 k y0 y1 y2 y3) (pelicanref15_Read.j2 (k + 1) y0 y1 y2 y3))
  | 0 => ⟨fun _ _ _ r h => by simp [pelicanref15_Read.l0] at h, fun _ _ _ _ r h => by simp [pelicanref15_Read.j1] at h, fun _ _ _ _ r h => by simp [pelicanref15_Read.j2] at h⟩
  | k + 1 => by
    obtain ⟨ih0, ih1, ih2⟩ := pelicanref15_Read.mono_l k
    refine ⟨?_, ?_, ?_⟩
    · intro y0 y1 y2
      unfold pelicanref15_Read.l0
      repeat' first
      | (with_reducible exact ih0 _ _ _)
      | (with_reducible exact ih1 _ _ _ _)
      | (with_reducible exact ih2 _ _ _ _)
      | (with_reducible exact pelicanref15_Text.mono _ _)
      | (with_reducible exact LeO.refl _)
      | (with_reducible exact LeO.none _)
      | (with_reducible refine LeO.ite ?_ ?_)
      | (with_reducible refine LeO.bind ?_ (fun _ => ?_))
      | exact ih0 _ _ _
      | exact ih1 _ _ _ _
      | exact ih2 _ _ _ _
      | exact pelicanref15_Text.mono _ _
      | exact LeO.none _
      | refine LeO.ite ?_ ?_
      | refine LeO.bind ?_ (fun _ => ?_)
    · intro y0 y1 y2 y3
      unfold pelicanref15_Read.j1
      repeat' first
      | (with_reducible exact ih0 _ _ _)
      | (with_reducible exact ih1 _ _ _ _)
      | (with_reducible exact ih2 _ _ _ _)
      | (with_reducible exact pelicanref15_Text.mono _ _)
      | (with_reducible exact LeO.refl _)
      | (with_reducible exact LeO.none _)
      | (with_reducible refine LeO.ite ?_ ?_)
      | (with_reducible refine LeO.bind ?_ (fun _ => ?_))
      | exact ih0 _ _ _
      | exact ih1 _ _ _ _
      | exact ih2 _ _ _ _
      | exact pelicanref15_Text.mono _ _
      | exact LeO.none _
      | refine LeO.ite ?_ ?_
      | refine LeO.bind ?_ (fun _ => ?_)
    · intro y0 y1 y2 y3
      unfold pelicanref15_Read.j2
      repeat' first
      | (with_reducible exact ih0 _ _ _)
      | (with_reducible exact ih1 _ _ _ _)
      | (with_reducible exact ih2 _ _ _ _)
      | (with_reducible exact pelicanref15_Text.mono _ _)
      | (with_reducible exact LeO.refl _)
      | (with_reducible exact LeO.none _)
      | (with_reducible refine LeO.ite ?_ ?_)
      | (with_reducible refine LeO.bind ?_ (fun _ => ?_))
      | exact ih0 _ _ _
      | exact ih1 _ _ _ _
      | exact ih2 _ _ _ _
      | exact pelicanref15_Text.mono _ _
      | exact LeO.none _
      | refine LeO.ite ?_ ?_
      | refine LeO.bind ?_ (fun _ => ?_)
theorem pelicanref15_Read.mono : ∀ a0 k, LeO (pelicanref15_Read.f k a0) (pelicanref15_Read.f (k + 1) a0) := by
  intro a0 k
  obtain ⟨ih0, ih1, ih2⟩ := pelicanref15_Read.mono_l k
  unfold pelicanref15_Read.f
  repeat' first
      | (with_reducible exact ih0 _ _ _)
      | (with_reducible exact ih1 _ _ _ _)
      | (with_reducible exact ih2 _ _ _ _)
      | (with_reducible exact pelicanref15_Text.mono _ _)
      | (with_reducible exact LeO.refl _)
      | (with_reducible exact LeO.none _)
      | (with_reducible refine LeO.ite ?_ ?_)
      | (with_reducible refine LeO.bind ?_ (fun _ => ?_))
      | exact ih0 _ _ _
      | exact ih1 _ _ _ _
      | exact ih2 _ _ _ _
      | exact pelicanref15_Text.mono _ _
      | exact LeO.none _
      | refine LeO.ite ?_ ?_
      | refine LeO.bind ?_ (fun _ => ?_)
mutual
def pelicanref15_Clash.j0 : Nat → List Int → Bool → List Int → List (S41) → Int → Int → Int → Option (Bool)
  | 0, _, _, _, _, _, _, _ => none
  | k + 1, x1, x27, x686000, x686001, x686002, x686003, x686004 => if x27 = true then (some false) else (pelicanref15_Clash.l0 k x1 0 x686000 x686001 x686002 x686003 x686004)
def pelicanref15_Clash.l0 : Nat → List Int → Int → List Int → List (S41) → Int → Int → Int → Option (Bool)
  | 0, _, _, _, _, _, _, _ => none
  | k + 1, x1, x7, x686000, x686001, x686002, x686003, x686004 => if x7 < (x1.length : Int) then (pelicanref15_Clash.l1 k x1 x7 0 x686000 x686001 x686002 x686003 x686004) else (some false)
def pelicanref15_Clash.l1 : Nat → List Int → Int → Int → List Int → List (S41) → Int → Int → Int → Option (Bool)
  | 0, _, _, _, _, _, _, _, _ => none
  | k + 1, x1, x7, x8, x686000, x686001, x686002, x686003, x686004 => if x8 < (x1.length : Int) then (if 0 ≤ x7 then (if x7 < (x686000.length : Int) then ((pelicanref13_In.f k (rd x686000 x7) x8).bind fun t689 => (if t689 = true then (if x7 < (x1.length : Int) then (if (rd x1 x7) = 0 then (pelicanref15_Clash.l1 k x1 x7 (wrap64 (x8 + 1)) x686000 x686001 x686002 x686003 x686004) else (if 0 ≤ x8 then (if (rd x1 x8) = 0 then (pelicanref15_Clash.l1 k x1 x7 (wrap64 (x8 + 1)) x686000 x686001 x686002 x686003 x686004) else (some true)) else (none))) else (none)) else (pelicanref15_Clash.l1 k x1 x7 (wrap64 (x8 + 1)) x686000 x686001 x686002 x686003 x686004))) else (none)) else (none)) else (pelicanref15_Clash.l0 k x1 (wrap64 (x7 + 1)) x686000 x686001 x686002 x686003 x686004)
end
def pelicanref15_Clash.f (k : Nat) (l0_0 : List Int) (l0_1 : List (S41)) (a0_2 : Int) (a0_3 : Int) (a0_4 : Int) (l1 : List Int) : Option (Bool) := (pelicanref14_Fit.f k l0_0 l0_1 a0_2 a0_3 a0_4).bind fun t686 => ((pelicanref15_May.f k l1).bind fun t687 => (if t686 = true then (if t687 = true then (pelicanref15_Clash.j0 k l1 ((l1.length : Int) != (l0_0.length : Int)) l0_0 l0_1 a0_2 a0_3 a0_4) else (pelicanref15_Clash.j0 k l1 true l0_0 l0_1 a0_2 a0_3 a0_4)) else (pelicanref15_Clash.j0 k l1 true l0_0 l0_1 a0_2 a0_3 a0_4)))
theorem pelicanref15_Clash.mono_l : ∀ k, (∀ y0 y1 y2 y3 y4 y5 y6, LeO (pelicanref15_Clash.j0 k y0 y1 y2 y3 y4 y5 y6) (pelicanref15_Clash.j0 (k + 1) y0 y1 y2 y3 y4 y5 y6)) ∧ (∀ y0 y1 y2 y3 y4 y5 y6, LeO (pelicanref15_Clash.l0 k y0 y1 y2 y3 y4 y5 y6) (pelicanref15_Clash.l0 (k + 1) y0 y1 y2 y3 y4 y5 y6)) ∧ (∀ y0 y1 y2 y3 y4 y5 y6 y7, LeO (pelicanref15_Clash.l1 k y0 y1 y2 y3 y4 y5 y6 y7) (pelicanref15_Clash.l1 (k + 1) y0 y1 y2 y3 y4 y5 y6 y7))
  | 0 => ⟨fun _ _ _ _ _ _ _ r h => by simp [pelicanref15_Clash.j0] at h, fun _ _ _ _ _ _ _ r h => by simp [pelicanref15_Clash.l0] at h, fun _ _ _ _ _ _ _ _ r h => by simp [pelicanref15_Clash.l1] at h⟩
  | k + 1 => by
    obtain ⟨ih0, ih1, ih2⟩ := pelicanref15_Clash.mono_l k
    refine ⟨?_, ?_, ?_⟩
    · intro y0 y1 y2 y3 y4 y5 y6
      unfold pelicanref15_Clash.j0
      repeat' first
      | (with_reducible exact ih0 _ _ _ _ _ _ _)
      | (with_reducible exact ih1 _ _ _ _ _ _ _)
      | (with_reducible exact ih2 _ _ _ _ _ _ _ _)
      | (with_reducible exact pelicanref13_In.mono _ _ _)
      | (with_reducible exact pelicanref14_Fit.mono _ _ _ _ _ _)
      | (with_reducible exact pelicanref15_May.mono _ _)
      | (with_reducible exact LeO.refl _)
      | (with_reducible exact LeO.none _)
      | (with_reducible refine LeO.ite ?_ ?_)
      | (with_reducible refine LeO.bind ?_ (fun _ => ?_))
      | exact ih0 _ _ _ _ _ _ _
      | exact ih1 _ _ _ _ _ _ _
      | exact ih2 _ _ _ _ _ _ _ _
      | exact pelicanref13_In.mono _ _ _
      | exact pelicanref14_Fit.mono _ _ _ _ _ _
      | exact pelicanref15_May.mono _ _
      | exact LeO.none _
      | refine LeO.ite ?_ ?_
      | refine LeO.bind ?_ (fun _ => ?_)
    · intro y0 y1 y2 y3 y4 y5 y6
      unfold pelicanref15_Clash.l0
      repeat' first
      | (with_reducible exact ih0 _ _ _ _ _ _ _)
      | (with_reducible exact ih1 _ _ _ _ _ _ _)
      | (with_reducible exact ih2 _ _ _ _ _ _ _ _)
      | (with_reducible exact pelicanref13_In.mono _ _ _)
      | (with_reducible exact pelicanref14_Fit.mono _ _ _ _ _ _)
      | (with_reducible exact pelicanref15_May.mono _ _)
      | (with_reducible exact LeO.refl _)
      | (with_reducible exact LeO.none _)
      | (with_reducible refine LeO.ite ?_ ?_)
      | (with_reducible refine LeO.bind ?_ (fun _ => ?_))
      | exact ih0 _ _ _ _ _ _ _
      | exact ih1 _ _ _ _ _ _ _
      | exact ih2 _ _ _ _ _ _ _ _
      | exact pelicanref13_In.mono _ _ _
      | exact pelicanref14_Fit.mono _ _ _ _ _ _
      | exact pelicanref15_May.mono _ _
      | exact LeO.none _
      | refine LeO.ite ?_ ?_
      | refine LeO.bind ?_ (fun _ => ?_)
    · intro y0 y1 y2 y3 y4 y5 y6 y7
      unfold pelicanref15_Clash.l1
      repeat' first
      | (with_reducible exact ih0 _ _ _ _ _ _ _)
      | (with_reducible exact ih1 _ _ _ _ _ _ _)
      | (with_reducible exact ih2 _ _ _ _ _ _ _ _)
      | (with_reducible exact pelicanref13_In.mono _ _ _)
      | (with_reducible exact pelicanref14_Fit.mono _ _ _ _ _ _)
      | (with_reducible exact pelicanref15_May.mono _ _)
      | (with_reducible exact LeO.refl _)
      | (with_reducible exact LeO.none _)
      | (with_reducible refine LeO.ite ?_ ?_)
      | (with_reducible refine LeO.bind ?_ (fun _ => ?_))
      | exact ih0 _ _ _ _ _ _ _
      | exact ih1 _ _ _ _ _ _ _
      | exact ih2 _ _ _ _ _ _ _ _
      | exact pelicanref13_In.mono _ _ _
      | exact pelicanref14_Fit.mono _ _ _ _ _ _
      | exact pelicanref15_May.mono _ _
      | exact LeO.none _
      | refine LeO.ite ?_ ?_
      | refine LeO.bind ?_ (fun _ => ?_)
theorem pelicanref15_Clash.mono : ∀ a0 a1 a2 a3 a4 a5 k, LeO (pelicanref15_Clash.f k a0 a1 a2 a3 a4 a5) (pelicanref15_Clash.f (k + 1) a0 a1 a2 a3 a4 a5) := by
  intro a0 a1 a2 a3 a4 a5 k
  obtain ⟨ih0, ih1, ih2⟩ := pelicanref15_Clash.mono_l k
  unfold pelicanref15_Clash.f
  repeat' first
      | (with_reducible exact ih0 _ _ _ _ _ _ _)
      | (with_reducible exact ih1 _ _ _ _ _ _ _)
      | (with_reducible exact ih2 _ _ _ _ _ _ _ _)
      | (with_reducible exact pelicanref13_In.mono _ _ _)
      | (with_reducible exact pelicanref14_Fit.mono _ _ _ _ _ _)
      | (with_reducible exact pelicanref15_May.mono _ _)
      | (with_reducible exact LeO.refl _)
      | (with_reducible exact LeO.none _)
      | (with_reducible refine LeO.ite ?_ ?_)
      | (with_reducible refine LeO.bind ?_ (fun _ => ?_))
      | exact ih0 _ _ _ _ _ _ _
      | exact ih1 _ _ _ _ _ _ _
      | exact ih2 _ _ _ _ _ _ _ _
      | exact pelicanref13_In.mono _ _ _
      | exact pelicanref14_Fit.mono _ _ _ _ _ _
      | exact pelicanref15_May.mono _ _
      | exact LeO.none _
      | refine LeO.ite ?_ ?_
      | refine LeO.bind ?_ (fun _ => ?_)
end Go.Proofs.YtechgjbhgeddjaaDoor.F
