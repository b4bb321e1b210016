/- Woven by wip/weave/weave.py of this repo (own tool) out of the translation: the contracts of some functions. Lean checks it. -/
import Derived.Test.YtnogkpofgkaefaaDoorD
namespace Go.Proofs.YtnogkpofgkaefaaDoor.F
open Go.RowKit Go.Proofs.YtnogkpofgkaefaaDoorW.PrintWords Go.Proofs.YtnogkpofgkaefaaDoorW.PrintLast Go.Proofs.YtnogkpofgkaefaaDoorW.PrintMore
attribute [local go_sem] max2_int min2_int max_two min_two max_three min_three max_four min_four   -- for this text's walks alone
set_option linter.unusedVariables false
set_option linter.unusedSimpArgs false

def pelicanref13_pow.l0 : Nat → Int → Int → Int → Option (Int)
  | 0, _, _, _ => none
  | k + 1, x0, x3, x4 => if x4 < x0 then (pelicanref13_pow.l0 k x0 (wrap64 (2 * x3)) (wrap64 (x4 + 1))) else (some x3)
def pelicanref13_pow.f (k : Nat) (a0 : Int) : Option (Int) := pelicanref13_pow.l0 k a0 1 0
theorem pelicanref13_pow.mono_l : ∀ k, (∀ y0 y1 y2, LeO (pelicanref13_pow.l0 k y0 y1 y2) (pelicanref13_pow.l0 (k + 1) y0 y1 y2))
  | 0 => fun _ _ _ r h => by simp [pelicanref13_pow.l0] at h
  | k + 1 => by
    have ih0 := pelicanref13_pow.mono_l k
    · intro y0 y1 y2
      unfold pelicanref13_pow.l0
      repeat' first
      | (with_reducible exact ih0 _ _ _)
      | (with_reducible exact LeO.refl _)
      | (with_reducible exact LeO.none _)
      | (with_reducible refine LeO.ite ?_ ?_)
      | (with_reducible refine LeO.bind ?_ (fun _ => ?_))
      | exact ih0 _ _ _
      | exact LeO.none _
      | refine LeO.ite ?_ ?_
      | refine LeO.bind ?_ (fun _ => ?_)
theorem pelicanref13_pow.mono : ∀ a0 k, LeO (pelicanref13_pow.f k a0) (pelicanref13_pow.f (k + 1) a0) := by
  intro a0 k
  have ih0 := pelicanref13_pow.mono_l k
  unfold pelicanref13_pow.f
  repeat' first
      | (with_reducible exact ih0 _ _ _)
      | (with_reducible exact LeO.refl _)
      | (with_reducible exact LeO.none _)
      | (with_reducible refine LeO.ite ?_ ?_)
      | (with_reducible refine LeO.bind ?_ (fun _ => ?_))
      | exact ih0 _ _ _
      | exact LeO.none _
      | refine LeO.ite ?_ ?_
      | refine LeO.bind ?_ (fun _ => ?_)
def pelicanref13_In.f (k : Nat) (a0 : Int) (a1 : Int) : Option (Bool) := (pelicanref13_pow.f k a1).bind fun t128 => (if t128 = 0 then (none) else (some ((Int.tmod (wrap64 (Int.tdiv a0 t128)) 2) == 1)))
theorem pelicanref13_In.mono : ∀ a0 a1 k, LeO (pelicanref13_In.f k a0 a1) (pelicanref13_In.f (k + 1) a0 a1) := by
  intro a0 a1 k
  unfold pelicanref13_In.f
  repeat' first
      | (with_reducible exact pelicanref13_pow.mono _ _)
      | (with_reducible exact LeO.refl _)
      | (with_reducible exact LeO.none _)
      | (with_reducible refine LeO.ite ?_ ?_)
      | (with_reducible refine LeO.bind ?_ (fun _ => ?_))
      | exact pelicanref13_pow.mono _ _
      | exact LeO.none _
      | refine LeO.ite ?_ ?_
      | refine LeO.bind ?_ (fun _ => ?_)
mutual
def pelicanref13_May.j0 : Nat → List Int → Int → Bool → Option (Bool)
  | 0, _, _, _ => none
  | k + 1, x0, x3, x16 => if x16 = true then (some false) else (pelicanref13_May.l0 k x0 x3 0)
def pelicanref13_May.l0 : Nat → List Int → Int → Int → Option (Bool)
  | 0, _, _, _ => none
  | k + 1, x0, x3, x4 => if x4 < x3 then (if 0 ≤ x4 then (if x4 < (x0.length : Int) then (if (rd x0 x4) < 0 then (some false) else ((pelicanref13_pow.f k x3).bind fun t131 => (if (rd x0 x4) ≥ t131 then (some false) else (pelicanref13_May.l0 k x0 x3 (wrap64 (x4 + 1)))))) else (none)) else (none)) else (pelicanref13_May.l1 k x0 x3 0)
def pelicanref13_May.l1 : Nat → List Int → Int → Int → Option (Bool)
  | 0, _, _, _ => none
  | k + 1, x0, x3, x5 => if x5 < x3 then (pelicanref13_May.l2 k x0 x3 x5 0) else (some true)
def pelicanref13_May.l2 : Nat → List Int → Int → Int → Int → Option (Bool)
  | 0, _, _, _, _ => none
  | k + 1, x0, x3, x5, x6 => if x6 < x3 then (if 0 ≤ x5 then (if x5 < (x0.length : Int) then ((pelicanref13_In.f k (rd x0 x5) x6).bind fun t133 => (if 0 ≤ x6 then (if x6 < (x0.length : Int) then ((pelicanref13_In.f k (rd x0 x6) x5).bind fun t135 => (if (t133 != t135) = true then (some false) else (if t133 = true then (if x5 = x6 then (some false) else (pelicanref13_May.l2 k x0 x3 x5 (wrap64 (x6 + 1)))) else (pelicanref13_May.l2 k x0 x3 x5 (wrap64 (x6 + 1)))))) else (none)) else (none))) else (none)) else (none)) else (pelicanref13_May.l1 k x0 x3 (wrap64 (x5 + 1)))
end
def pelicanref13_May.f (k : Nat) (l0 : List Int) : Option (Bool) := if (l0.length : Int) < 1 then (pelicanref13_May.j0 k l0 (l0.length : Int) true) else (pelicanref13_May.j0 k l0 (l0.length : Int) (decide ((l0.length : Int) > 8)))
theorem pelicanref13_May.mono_l : ∀ k, (∀ y0 y1 y2, LeO (pelicanref13_May.j0 k y0 y1 y2) (pelicanref13_May.j0 (k + 1) y0 y1 y2)) ∧ (∀ y0 y1 y2, LeO (pelicanref13_May.l0 k y0 y1 y2) (pelicanref13_May.l0 (k + 1) y0 y1 y2)) ∧ (∀ y0 y1 y2, LeO (pelicanref13_May.l1 k y0 y1 y2) (pelicanref13_May.l1 (k + 1) y0 y1 y2)) ∧ (∀ y0 y1 y2 y3, LeO (pelicanref13_May.l2 k y0 y1 y2 y3) (pelicanref13_May.l2 (k + 1) y0 y1 y2 y3))
  | 0 => ⟨fun _ _ _ r h => by simp [pelicanref13_May.j0] at h, fun _ _ _ r h => by simp [pelicanref13_May.l0] at h, fun _ _ _ r h => by simp [pelicanref13_May.l1] at h, fun _ _ _ _ r h => by simp [pelicanref13_May.l2] at h⟩
  | k + 1 => by
    obtain ⟨ih0, ih1, ih2, ih3⟩ := pelicanref13_May.mono_l k
    refine ⟨?_, ?_, ?_, ?_⟩
    · intro y0 y1 y2
      unfold pelicanref13_May.j0
      repeat' first
      | (with_reducible exact ih0 _ _ _)
      | (with_reducible exact ih1 _ _ _)
      | (with_reducible exact ih2 _ _ _)
      | (with_reducible exact ih3 _ _ _ _)
      | (with_reducible exact pelicanref13_In.mono _ _ _)
      | (with_reducible exact pelicanref13_pow.mono _ _)
      | (with_reducible exact LeO.refl _)
      | (with_reducible exact LeO.none _)
      | (with_reducible refine LeO.ite ?_ ?_)
      | (with_reducible refine LeO.bind ?_ (fun _ => ?_))
      | exact ih0 _ _ _
      | exact ih1 _ _ _
      | exact ih2 _ _ _
      | exact ih3 _ _ _ _
      | exact pelicanref13_In.mono _ _ _
      | exact pelicanref13_pow.mono _ _
      | exact LeO.none _
      | refine LeO.ite ?_ ?_
      | refine LeO.bind ?_ (fun _ => ?_)
    · intro y0 y1 y2
      unfold pelicanref13_May.l0
      repeat' first
      | (with_reducible exact ih0 _ _ _)
      | (with_reducible exact ih1 _ _ _)
      | (with_reducible exact ih2 _ _ _)
      | (with_reducible exact ih3 _ _ _ _)
      | (with_reducible exact pelicanref13_In.mono _ _ _)
      | (with_reducible exact pelicanref13_pow.mono _ _)
      | (with_reducible exact LeO.refl _)
      | (with_reducible exact LeO.none _)
      | (with_reducible refine LeO.ite ?_ ?_)
      | (with_reducible refine LeO.bind ?_ (fun _ => ?_))
      | exact ih0 _ _ _
      | exact ih1 _ _ _
      | exact ih2 _ _ _
      | exact ih3 _ _ _ _
      | exact pelicanref13_In.mono _ _ _
      | exact pelicanref13_pow.mono _ _
      | exact LeO.none _
      | refine LeO.ite ?_ ?_
      | refine LeO.bind ?_ (fun _ => ?_)
    · intro y0 y1 y2
      unfold pelicanref13_May.l1
      repeat' first
      | (with_reducible exact ih0 _ _ _)
      | (with_reducible exact ih1 _ _ _)
      | (with_reducible exact ih2 _ _ _)
      | (with_reducible exact ih3 _ _ _ _)
      | (with_reducible exact pelicanref13_In.mono _ _ _)
      | (with_reducible exact pelicanref13_pow.mono _ _)
      | (with_reducible exact LeO.refl _)
      | (with_reducible exact LeO.none _)
      | (with_reducible refine LeO.ite ?_ ?_)
      | (with_reducible refine LeO.bind ?_ (fun _ => ?_))
      | exact ih0 _ _ _
      | exact ih1 _ _ _
      | exact ih2 _ _ _
      | exact ih3 _ _ _ _
      | exact pelicanref13_In.mono _ _ _
      | exact pelicanref13_pow.mono _ _
      | exact LeO.none _
      | refine LeO.ite ?_ ?_
      | refine LeO.bind ?_ (fun _ => ?_)
    · intro y0 y1 y2 y3
      unfold pelicanref13_May.l2
      repeat' first
      | (with_reducible exact ih0 _ _ _)
      | (with_reducible exact ih1 _ _ _)
      | (with_reducible exact ih2 _ _ _)
      | (with_reducible exact ih3 _ _ _ _)
      | (with_reducible exact pelicanref13_In.mono _ _ _)
      | (with_reducible exact pelicanref13_pow.mono _ _)
      | (with_reducible exact LeO.refl _)
      | (with_reducible exact LeO.none _)
      | (with_reducible refine LeO.ite ?_ ?_)
      | (with_reducible refine LeO.bind ?_ (fun _ => ?_))
      | exact ih0 _ _ _
      | exact ih1 _ _ _
      | exact ih2 _ _ _
      | exact ih3 _ _ _ _
      | exact pelicanref13_In.mono _ _ _
      | exact pelicanref13_pow.mono _ _
      | exact LeO.none _
      | refine LeO.ite ?_ ?_
      | refine LeO.bind ?_ (fun _ => ?_)
theorem pelicanref13_May.mono : ∀ a0 k, LeO (pelicanref13_May.f k a0) (pelicanref13_May.f (k + 1) a0) := by
  intro a0 k
  obtain ⟨ih0, ih1, ih2, ih3⟩ := pelicanref13_May.mono_l k
  unfold pelicanref13_May.f
  repeat' first
      | (with_reducible exact ih0 _ _ _)
      | (with_reducible exact ih1 _ _ _)
      | (with_reducible exact ih2 _ _ _)
      | (with_reducible exact ih3 _ _ _ _)
      | (with_reducible exact pelicanref13_In.mono _ _ _)
      | (with_reducible exact pelicanref13_pow.mono _ _)
      | (with_reducible exact LeO.refl _)
      | (with_reducible exact LeO.none _)
      | (with_reducible refine LeO.ite ?_ ?_)
      | (with_reducible refine LeO.bind ?_ (fun _ => ?_))
      | exact ih0 _ _ _
      | exact ih1 _ _ _
      | exact ih2 _ _ _
      | exact ih3 _ _ _ _
      | exact pelicanref13_In.mono _ _ _
      | exact pelicanref13_pow.mono _ _
      | exact LeO.none _
      | refine LeO.ite ?_ ?_
      | refine LeO.bind ?_ (fun _ => ?_)
mutual
def pelicanref13_Free.j0 : Nat → List Int → Int → Bool → Option (Bool)
  | 0, _, _, _ => none
  | k + 1, x0, x1, x25 => if x25 = true then (some false) else (pelicanref13_Free.l0 k x0 x1 0)
def pelicanref13_Free.l0 : Nat → List Int → Int → Int → Option (Bool)
  | 0, _, _, _ => none
  | k + 1, x0, x1, x6 => if x6 < (x0.length : Int) then (pelicanref13_Free.l1 k x0 x1 x6 0) else (some true)
def pelicanref13_Free.l1 : Nat → List Int → Int → Int → Int → Option (Bool)
  | 0, _, _, _, _ => none
  | k + 1, x0, x1, x6, x7 => if x7 < (x0.length : Int) then ((pelicanref13_In.f k x1 x6).bind fun t138 => ((pelicanref13_In.f k x1 x7).bind fun t139 => (if 0 ≤ x6 then (if x6 < (x0.length : Int) then ((pelicanref13_In.f k (rd x0 x6) x7).bind fun t141 => (if t138 = true then (if t139 = true then (if t141 = true then (some false) else (pelicanref13_Free.l1 k x0 x1 x6 (wrap64 (x7 + 1)))) else (pelicanref13_Free.l1 k x0 x1 x6 (wrap64 (x7 + 1)))) else (pelicanref13_Free.l1 k x0 x1 x6 (wrap64 (x7 + 1))))) else (none)) else (none)))) else (pelicanref13_Free.l0 k x0 x1 (wrap64 (x6 + 1)))
end
def pelicanref13_Free.f (k : Nat) (l0 : List Int) (a1 : Int) : Option (Bool) := (pelicanref13_May.f k l0).bind fun t136 => (if t136 = true then (if a1 < 0 then (pelicanref13_Free.j0 k l0 a1 true) else ((pelicanref13_pow.f k (l0.length : Int)).bind fun t137 => (pelicanref13_Free.j0 k l0 a1 (decide (a1 ≥ t137))))) else (pelicanref13_Free.j0 k l0 a1 true))
theorem pelicanref13_Free.mono_l : ∀ k, (∀ y0 y1 y2, LeO (pelicanref13_Free.j0 k y0 y1 y2) (pelicanref13_Free.j0 (k + 1) y0 y1 y2)) ∧ (∀ y0 y1 y2, LeO (pelicanref13_Free.l0 k y0 y1 y2) (pelicanref13_Free.l0 (k + 1) y0 y1 y2)) ∧ (∀ y0 y1 y2 y3, LeO (pelicanref13_Free.l1 k y0 y1 y2 y3) (pelicanref13_Free.l1 (k + 1) y0 y1 y2 y3))
  | 0 => ⟨fun _ _ _ r h => by simp [pelicanref13_Free.j0] at h, fun _ _ _ r h => by simp [pelicanref13_Free.l0] at h, fun _ _ _ _ r h => by simp [pelicanref13_Free.l1] at h⟩
  | k + 1 => by
    obtain ⟨ih0, ih1, ih2⟩ := pelicanref13_Free.mono_l k
    refine ⟨?_, ?_, ?_⟩
    · intro y0 y1 y2
      unfold pelicanref13_Free.j0
      repeat' first
      | (with_reducible exact ih0 _ _ _)
      | (with_reducible exact ih1 _ _ _)
      | (with_reducible exact ih2 _ _ _ _)
      | (with_reducible exact pelicanref13_In.mono _ _ _)
      | (with_reducible exact pelicanref13_May.mono _ _)
      | (with_reducible exact pelicanref13_pow.mono _ _)
      | (with_reducible exact LeO.refl _)
      | (with_reducible exact LeO.none _)
      | (with_reducible refine LeO.ite ?_ ?_)
      | (with_reducible refine LeO.bind ?_ (fun _ => ?_))
      | exact ih0 _ _ _
      | exact ih1 _ _ _
      | exact ih2 _ _ _ _
      | exact pelicanref13_In.mono _ _ _
      | exact pelicanref13_May.mono _ _
      | exact pelicanref13_pow.mono _ _
      | exact LeO.none _
      | refine LeO.ite ?_ ?_
      | refine LeO.bind ?_ (fun _ => ?_)
    · intro y0 y1 y2
      unfold pelicanref13_Free.l0
      repeat' first
      | (with_reducible exact ih0 _ _ _)
      | (with_reducible exact ih1 _ _ _)
      | (with_reducible exact ih2 _ _ _ _)
      | (with_reducible exact pelicanref13_In.mono _ _ _)
      | (with_reducible exact pelicanref13_May.mono _ _)
      | (with_reducible exact pelicanref13_pow.mono _ _)
      | (with_reducible exact LeO.refl _)
      | (with_reducible exact LeO.none _)
      | (with_reducible refine LeO.ite ?_ ?_)
      | (with_reducible refine LeO.bind ?_ (fun _ => ?_))
      | exact ih0 _ _ _
      | exact ih1 _ _ _
      | exact ih2 _ _ _ _
      | exact pelicanref13_In.mono _ _ _
      | exact pelicanref13_May.mono _ _
      | exact pelicanref13_pow.mono _ _
      | exact LeO.none _
      | refine LeO.ite ?_ ?_
      | refine LeO.bind ?_ (fun _ => ?_)
    · intro y0 y1 y2 y3
      unfold pelicanref13_Free.l1
      repeat' first
      | (with_reducible exact ih0 _ _ _)
      | (with_reducible exact ih1 _ _ _)
      | (with_reducible exact ih2 _ _ _ _)
      | (with_reducible exact pelicanref13_In.mono _ _ _)
      | (with_reducible exact pelicanref13_May.mono _ _)
      | (with_reducible exact pelicanref13_pow.mono _ _)
      | (with_reducible exact LeO.refl _)
      | (with_reducible exact LeO.none _)
      | (with_reducible refine LeO.ite ?_ ?_)
      | (with_reducible refine LeO.bind ?_ (fun _ => ?_))
      | exact ih0 _ _ _
      | exact ih1 _ _ _
      | exact ih2 _ _ _ _
      | exact pelicanref13_In.mono _ _ _
      | exact pelicanref13_May.mono _ _
      | exact pelicanref13_pow.mono _ _
      | exact LeO.none _
      | refine LeO.ite ?_ ?_
      | refine LeO.bind ?_ (fun _ => ?_)
theorem pelicanref13_Free.mono : ∀ a0 a1 k, LeO (pelicanref13_Free.f k a0 a1) (pelicanref13_Free.f (k + 1) a0 a1) := by
  intro a0 a1 k
  obtain ⟨ih0, ih1, ih2⟩ := pelicanref13_Free.mono_l k
  unfold pelicanref13_Free.f
  repeat' first
      | (with_reducible exact ih0 _ _ _)
      | (with_reducible exact ih1 _ _ _)
      | (with_reducible exact ih2 _ _ _ _)
      | (with_reducible exact pelicanref13_In.mono _ _ _)
      | (with_reducible exact pelicanref13_May.mono _ _)
      | (with_reducible exact pelicanref13_pow.mono _ _)
      | (with_reducible exact LeO.refl _)
      | (with_reducible exact LeO.none _)
      | (with_reducible refine LeO.ite ?_ ?_)
      | (with_reducible refine LeO.bind ?_ (fun _ => ?_))
      | exact ih0 _ _ _
      | exact ih1 _ _ _
      | exact ih2 _ _ _ _
      | exact pelicanref13_In.mono _ _ _
      | exact pelicanref13_May.mono _ _
      | exact pelicanref13_pow.mono _ _
      | exact LeO.none _
      | refine LeO.ite ?_ ?_
      | refine LeO.bind ?_ (fun _ => ?_)
mutual
def pelicanref13_Sets.l0 : Nat → List Int → Bool → List Int → Int → Option (List Int)
  | 0, _, _, _, _ => none
  | k + 1, x0, x3, x4, x5 => if x3 = true then ((pelicanref13_pow.f k (x0.length : Int)).bind fun t145 => (pelicanref13_Sets.j1 k x0 x3 x4 x5 (decide (x5 < t145)))) else (pelicanref13_Sets.j1 k x0 x3 x4 x5 false)
def pelicanref13_Sets.j1 : Nat → List Int → Bool → List Int → Int → Bool → Option (List Int)
  | 0, _, _, _, _, _ => none
  | k + 1, x0, x3, x4, x5, x19 => if x19 = true then ((pelicanref13_Free.f k x0 x5).bind fun t146 => (pelicanref13_Sets.l1 k x0 x3 x4 x5 t146 0)) else (some x4)
def pelicanref13_Sets.l1 : Nat → List Int → Bool → List Int → Int → Bool → Int → Option (List Int)
  | 0, _, _, _, _, _, _ => none
  | k + 1, x0, x3, x4, x5, x6, x7 => if x7 < (x0.length : Int) then ((pelicanref13_In.f k x5 x7).bind fun t150 => ((pelicanref13_pow.f k x7).bind fun t151 => ((pelicanref13_Free.f k x0 (wrap64 (x5 + t151))).bind fun t152 => (if t150 = true then (pelicanref13_Sets.l1 k x0 x3 x4 x5 x6 (wrap64 (x7 + 1))) else (if t152 = true then (pelicanref13_Sets.l1 k x0 x3 x4 x5 false (wrap64 (x7 + 1))) else (pelicanref13_Sets.l1 k x0 x3 x4 x5 x6 (wrap64 (x7 + 1)))))))) else (if x6 = true then (if x4.length < 17592186044416 then (pelicanref13_Sets.l0 k x0 x3 (x4 ++ [x5]) (wrap64 (x5 + 1))) else (none)) else (pelicanref13_Sets.l0 k x0 x3 x4 (wrap64 (x5 + 1))))
end
def pelicanref13_Sets.f (k : Nat) (l0 : List Int) : Option (List Int) := (pelicanref13_May.f k l0).bind fun t144 => (pelicanref13_Sets.l0 k l0 t144 ([] : List Int) 0)
theorem pelicanref13_Sets.mono_l : ∀ k, (∀ y0 y1 y2 y3, LeO (pelicanref13_Sets.l0 k y0 y1 y2 y3) (pelicanref13_Sets.l0 (k + 1) y0 y1 y2 y3)) ∧ (∀ y0 y1 y2 y3 y4, LeO (pelicanref13_Sets.j1 k y0 y1 y2 y3 y4) (pelicanref13_Sets.j1 (k + 1) y0 y1 y2 y3 y4)) ∧ (∀ y0 y1 y2 y3 y4 y5, LeO (pelicanref13_Sets.l1 k y0 y1 y2 y3 y4 y5) (pelicanref13_Sets.l1 (k + 1) y0 y1 y2 y3 y4 y5))
  | 0 => ⟨fun _ _ _ _ r h => by simp [pelicanref13_Sets.l0] at h, fun _ _ _ _ _ r h => by simp [pelicanref13_Sets.j1] at h, fun _ _ _ _ _ _ r h => by simp [pelicanref13_Sets.l1] at h⟩
  | k + 1 => by
    obtain ⟨ih0, ih1, ih2⟩ := pelicanref13_Sets.mono_l k
    refine ⟨?_, ?_, ?_⟩
    · intro y0 y1 y2 y3
      unfold pelicanref13_Sets.l0
      repeat' first
      | (with_reducible exact ih0 _ _ _ _)
      | (with_reducible exact ih1 _ _ _ _ _)
      | (with_reducible exact ih2 _ _ _ _ _ _)
      | (with_reducible exact pelicanref13_Free.mono _ _ _)
      | (with_reducible exact pelicanref13_In.mono _ _ _)
      | (with_reducible exact pelicanref13_May.mono _ _)
      | (with_reducible exact pelicanref13_pow.mono _ _)
      | (with_reducible exact LeO.refl _)
      | (with_reducible exact LeO.none _)
      | (with_reducible refine LeO.ite ?_ ?_)
      | (with_reducible refine LeO.bind ?_ (fun _ => ?_))
      | exact ih0 _ _ _ _
      | exact ih1 _ _ _ _ _
      | exact ih2 _ _ _ _ _ _
      | exact pelicanref13_Free.mono _ _ _
      | exact pelicanref13_In.mono _ _ _
      | exact pelicanref13_May.mono _ _
      | exact pelicanref13_pow.mono _ _
      | exact LeO.none _
      | refine LeO.ite ?_ ?_
      | refine LeO.bind ?_ (fun _ => ?_)
    · intro y0 y1 y2 y3 y4
      unfold pelicanref13_Sets.j1
      repeat' first
      | (with_reducible exact ih0 _ _ _ _)
      | (with_reducible exact ih1 _ _ _ _ _)
      | (with_reducible exact ih2 _ _ _ _ _ _)
      | (with_reducible exact pelicanref13_Free.mono _ _ _)
      | (with_reducible exact pelicanref13_In.mono _ _ _)
      | (with_reducible exact pelicanref13_May.mono _ _)
      | (with_reducible exact pelicanref13_pow.mono _ _)
      | (with_reducible exact LeO.refl _)
      | (with_reducible exact LeO.none _)
      | (with_reducible refine LeO.ite ?_ ?_)
      | (with_reducible refine LeO.bind ?_ (fun _ => ?_))
      | exact ih0 _ _ _ _
      | exact ih1 _ _ _ _ _
      | exact ih2 _ _ _ _ _ _
      | exact pelicanref13_Free.mono _ _ _
      | exact pelicanref13_In.mono _ _ _
      | exact pelicanref13_May.mono _ _
      | exact pelicanref13_pow.mono _ _
      | exact LeO.none _
      | refine LeO.ite ?_ ?_
      | refine LeO.bind ?_ (fun _ => ?_)
    · intro y0 y1 y2 y3 y4 y5
      unfold pelicanref13_Sets.l1
      repeat' first
      | (with_reducible exact ih0 _ _ _ _)
      | (with_reducible exact ih1 _ _ _ _ _)
      | (with_reducible exact ih2 _ _ _ _ _ _)
      | (with_reducible exact pelicanref13_Free.mono _ _ _)
      | (with_reducible exact pelicanref13_In.mono _ _ _)
      | (with_reducible exact pelicanref13_May.mono _ _)
      | (with_reducible exact pelicanref13_pow.mono _ _)
      | (with_reducible exact LeO.refl _)
      | (with_reducible exact LeO.none _)
      | (with_reducible refine LeO.ite ?_ ?_)
      | (with_reducible refine LeO.bind ?_ (fun _ => ?_))
      | exact ih0 _ _ _ _
      | exact ih1 _ _ _ _ _
      | exact ih2 _ _ _ _ _ _
      | exact pelicanref13_Free.mono _ _ _
      | exact pelicanref13_In.mono _ _ _
      | exact pelicanref13_May.mono _ _
      | exact pelicanref13_pow.mono _ _
      | exact LeO.none _
      | refine LeO.ite ?_ ?_
      | refine LeO.bind ?_ (fun _ => ?_)
theorem pelicanref13_Sets.mono : ∀ a0 k, LeO (pelicanref13_Sets.f k a0) (pelicanref13_Sets.f (k + 1) a0) := by
  intro a0 k
  obtain ⟨ih0, ih1, ih2⟩ := pelicanref13_Sets.mono_l k
  unfold pelicanref13_Sets.f
  repeat' first
      | (with_reducible exact ih0 _ _ _ _)
      | (with_reducible exact ih1 _ _ _ _ _)
      | (with_reducible exact ih2 _ _ _ _ _ _)
      | (with_reducible exact pelicanref13_Free.mono _ _ _)
      | (with_reducible exact pelicanref13_In.mono _ _ _)
      | (with_reducible exact pelicanref13_May.mono _ _)
      | (with_reducible exact pelicanref13_pow.mono _ _)
      | (with_reducible exact LeO.refl _)
      | (with_reducible exact LeO.none _)
      | (with_reducible refine LeO.ite ?_ ?_)
      | (with_reducible refine LeO.bind ?_ (fun _ => ?_))
      | exact ih0 _ _ _ _
      | exact ih1 _ _ _ _ _
      | exact ih2 _ _ _ _ _ _
      | exact pelicanref13_Free.mono _ _ _
      | exact pelicanref13_In.mono _ _ _
      | exact pelicanref13_May.mono _ _
      | exact pelicanref13_pow.mono _ _
      | exact LeO.none _
      | refine LeO.ite ?_ ?_
      | refine LeO.bind ?_ (fun _ => ?_)
mutual
def pelicanref13_List.l0 : Nat → Int → List Int → Int → Option (List Int)
  | 0, _, _, _ => none
  | k + 1, x0, x3, x4 => if x4 < 8 then (if x0 ≥ 0 then (pelicanref13_List.j1 k x0 x3 x4 (decide (x0 < 256))) else (pelicanref13_List.j1 k x0 x3 x4 false)) else (pelicanref13_List.j1 k x0 x3 x4 false)
def pelicanref13_List.j1 : Nat → Int → List Int → Int → Bool → Option (List Int)
  | 0, _, _, _, _ => none
  | k + 1, x0, x3, x4, x15 => if x15 = true then ((pelicanref13_In.f k x0 x4).bind fun t153 => (if t153 = true then (if x3.length < 17592186044416 then (pelicanref13_List.l0 k x0 (x3 ++ [x4]) (wrap64 (x4 + 1))) else (none)) else (pelicanref13_List.l0 k x0 x3 (wrap64 (x4 + 1))))) else (some x3)
end
def pelicanref13_List.f (k : Nat) (a0 : Int) : Option (List Int) := pelicanref13_List.l0 k a0 ([] : List Int) 0
theorem pelicanref13_List.mono_l : ∀ k, (∀ y0 y1 y2, LeO (pelicanref13_List.l0 k y0 y1 y2) (pelicanref13_List.l0 (k + 1) y0 y1 y2)) ∧ (∀ y0 y1 y2 y3, LeO (pelicanref13_List.j1 k y0 y1 y2 y3) (pelicanref13_List.j1 (k + 1) y0 y1 y2 y3))
  | 0 => ⟨fun _ _ _ r h => by simp [pelicanref13_List.l0] at h, fun _ _ _ _ r h => by simp [pelicanref13_List.j1] at h⟩
  | k + 1 => by
    obtain ⟨ih0, ih1⟩ := pelicanref13_List.mono_l k
    refine ⟨?_, ?_⟩
    · intro y0 y1 y2
      unfold pelicanref13_List.l0
      repeat' first
      | (with_reducible exact ih0 _ _ _)
      | (with_reducible exact ih1 _ _ _ _)
      | (with_reducible exact pelicanref13_In.mono _ _ _)
      | (with_reducible exact LeO.refl _)
      | (with_reducible exact LeO.none _)
      | (with_reducible refine LeO.ite ?_ ?_)
      | (with_reducible refine LeO.bind ?_ (fun _ => ?_))
      | exact ih0 _ _ _
      | exact ih1 _ _ _ _
      | exact pelicanref13_In.mono _ _ _
      | exact LeO.none _
      | refine LeO.ite ?_ ?_
      | refine LeO.bind ?_ (fun _ => ?_)
    · intro y0 y1 y2 y3
      unfold pelicanref13_List.j1
      repeat' first
      | (with_reducible exact ih0 _ _ _)
      | (with_reducible exact ih1 _ _ _ _)
      | (with_reducible exact pelicanref13_In.mono _ _ _)
      | (with_reducible exact LeO.refl _)
      | (with_reducible exact LeO.none _)
      | (with_reducible refine LeO.ite ?_ ?_)
      | (with_reducible refine LeO.bind ?_ (fun _ => ?_))
      | exact ih0 _ _ _
      | exact ih1 _ _ _ _
      | exact pelicanref13_In.mono _ _ _
      | exact LeO.none _
      | refine LeO.ite ?_ ?_
      | refine LeO.bind ?_ (fun _ => ?_)
theorem pelicanref13_List.mono : ∀ a0 k, LeO (pelicanref13_List.f k a0) (pelicanref13_List.f (k + 1) a0) := by
  intro a0 k
  obtain ⟨ih0, ih1⟩ := pelicanref13_List.mono_l k
  unfold pelicanref13_List.f
  repeat' first
      | (with_reducible exact ih0 _ _ _)
      | (with_reducible exact ih1 _ _ _ _)
      | (with_reducible exact pelicanref13_In.mono _ _ _)
      | (with_reducible exact LeO.refl _)
      | (with_reducible exact LeO.none _)
      | (with_reducible refine LeO.ite ?_ ?_)
      | (with_reducible refine LeO.bind ?_ (fun _ => ?_))
      | exact ih0 _ _ _
      | exact ih1 _ _ _ _
      | exact pelicanref13_In.mono _ _ _
      | exact LeO.none _
      | refine LeO.ite ?_ ?_
      | refine LeO.bind ?_ (fun _ => ?_)
mutual
def pelicanref13_Against.j0 : Nat → List Int → Int → Bool → Option (Int)
  | 0, _, _, _ => none
  | k + 1, x0, x1, x26 => if x26 = true then (some (-1)) else (pelicanref13_Against.l0 k x0 x1 0 0)
def pelicanref13_Against.l0 : Nat → List Int → Int → Int → Int → Option (Int)
  | 0, _, _, _, _ => none
  | k + 1, x0, x1, x6, x7 => if x7 < (x0.length : Int) then (pelicanref13_Against.l1 k x0 x1 x6 x7 false 0) else (some x6)
def pelicanref13_Against.l1 : Nat → List Int → Int → Int → Int → Bool → Int → Option (Int)
  | 0, _, _, _, _, _, _ => none
  | k + 1, x0, x1, x6, x7, x8, x9 => if x9 < (x0.length : Int) then ((pelicanref13_In.f k x1 x9).bind fun t159 => (if 0 ≤ x9 then ((pelicanref13_In.f k (rd x0 x9) x7).bind fun t161 => (if x8 = true then (pelicanref13_Against.l1 k x0 x1 x6 x7 true (wrap64 (x9 + 1))) else (if t159 = true then (pelicanref13_Against.l1 k x0 x1 x6 x7 t161 (wrap64 (x9 + 1))) else (pelicanref13_Against.l1 k x0 x1 x6 x7 false (wrap64 (x9 + 1)))))) else (none))) else (if x8 = true then ((pelicanref13_pow.f k x7).bind fun t162 => (pelicanref13_Against.l0 k x0 x1 (wrap64 (x6 + t162)) (wrap64 (x7 + 1)))) else (pelicanref13_Against.l0 k x0 x1 x6 (wrap64 (x7 + 1))))
end
def pelicanref13_Against.f (k : Nat) (l0 : List Int) (a1 : Int) : Option (Int) := (pelicanref13_May.f k l0).bind fun t157 => (if t157 = true then (if a1 < 0 then (pelicanref13_Against.j0 k l0 a1 true) else ((pelicanref13_pow.f k (l0.length : Int)).bind fun t158 => (pelicanref13_Against.j0 k l0 a1 (decide (a1 ≥ t158))))) else (pelicanref13_Against.j0 k l0 a1 true))
theorem pelicanref13_Against.mono_l : ∀ k, (∀ y0 y1 y2, LeO (pelicanref13_Against.j0 k y0 y1 y2) (pelicanref13_Against.j0 (k + 1) y0 y1 y2)) ∧ (∀ y0 y1 y2 y3, LeO (pelicanref13_Against.l0 k y0 y1 y2 y3) (pelicanref13_Against.l0 (k + 1) y0 y1 y2 y3)) ∧ (∀ y0 y1 y2 y3 y4 y5, LeO (pelicanref13_Against.l1 k y0 y1 y2 y3 y4 y5) (pelicanref13_Against.l1 (k + 1) y0 y1 y2 y3 y4 y5))
  | 0 => ⟨fun _ _ _ r h => by simp [pelicanref13_Against.j0] at h, fun _ _ _ _ r h => by simp [pelicanref13_Against.l0] at h, fun _ _ _ _ _ _ r h => by simp [pelicanref13_Against.l1] at h⟩
  | k + 1 => by
    obtain ⟨ih0, ih1, ih2⟩ := pelicanref13_Against.mono_l k
    refine ⟨?_, ?_, ?_⟩
    · intro y0 y1 y2
      unfold pelicanref13_Against.j0
      repeat' first
      | (with_reducible exact ih0 _ _ _)
      | (with_reducible exact ih1 _ _ _ _)
      | (with_reducible exact ih2 _ _ _ _ _ _)
      | (with_reducible exact pelicanref13_In.mono _ _ _)
      | (with_reducible exact pelicanref13_May.mono _ _)
      | (with_reducible exact pelicanref13_pow.mono _ _)
      | (with_reducible exact LeO.refl _)
      | (with_reducible exact LeO.none _)
      | (with_reducible refine LeO.ite ?_ ?_)
      | (with_reducible refine LeO.bind ?_ (fun _ => ?_))
      | exact ih0 _ _ _
      | exact ih1 _ _ _ _
      | exact ih2 _ _ _ _ _ _
      | exact pelicanref13_In.mono _ _ _
      | exact pelicanref13_May.mono _ _
      | exact pelicanref13_pow.mono _ _
      | exact LeO.none _
      | refine LeO.ite ?_ ?_
      | refine LeO.bind ?_ (fun _ => ?_)
    · intro y0 y1 y2 y3
      unfold pelicanref13_Against.l0
      repeat' first
      | (with_reducible exact ih0 _ _ _)
      | (with_reducible exact ih1 _ _ _ _)
      | (with_reducible exact ih2 _ _ _ _ _ _)
      | (with_reducible exact pelicanref13_In.mono _ _ _)
      | (with_reducible exact pelicanref13_May.mono _ _)
      | (with_reducible exact pelicanref13_pow.mono _ _)
      | (with_reducible exact LeO.refl _)
      | (with_reducible exact LeO.none _)
      | (with_reducible refine LeO.ite ?_ ?_)
      | (with_reducible refine LeO.bind ?_ (fun _ => ?_))
      | exact ih0 _ _ _
      | exact ih1 _ _ _ _
      | exact ih2 _ _ _ _ _ _
      | exact pelicanref13_In.mono _ _ _
      | exact pelicanref13_May.mono _ _
      | exact pelicanref13_pow.mono _ _
      | exact LeO.none _
      | refine LeO.ite ?_ ?_
      | refine LeO.bind ?_ (fun _ => ?_)
    · intro y0 y1 y2 y3 y4 y5
      unfold pelicanref13_Against.l1
      repeat' first
      | (with_reducible exact ih0 _ _ _)
      | (with_reducible exact ih1 _ _ _ _)
      | (with_reducible exact ih2 _ _ _ _ _ _)
      | (with_reducible exact pelicanref13_In.mono _ _ _)
      | (with_reducible exact pelicanref13_May.mono _ _)
      | (with_reducible exact pelicanref13_pow.mono _ _)
      | (with_reducible exact LeO.refl _)
      | (with_reducible exact LeO.none _)
      | (with_reducible refine LeO.ite ?_ ?_)
      | (with_reducible refine LeO.bind ?_ (fun _ => ?_))
      | exact ih0 _ _ _
      | exact ih1 _ _ _ _
      | exact ih2 _ _ _ _ _ _
      | exact pelicanref13_In.mono _ _ _
      | exact pelicanref13_May.mono _ _
      | exact pelicanref13_pow.mono _ _
      | exact LeO.none _
      | refine LeO.ite ?_ ?_
      | refine LeO.bind ?_ (fun _ => ?_)
theorem pelicanref13_Against.mono : ∀ a0 a1 k, LeO (pelicanref13_Against.f k a0 a1) (pelicanref13_Against.f (k + 1) a0 a1) := by
  intro a0 a1 k
  obtain ⟨ih0, ih1, ih2⟩ := pelicanref13_Against.mono_l k
  unfold pelicanref13_Against.f
  repeat' first
      | (with_reducible exact ih0 _ _ _)
      | (with_reducible exact ih1 _ _ _ _)
      | (with_reducible exact ih2 _ _ _ _ _ _)
      | (with_reducible exact pelicanref13_In.mono _ _ _)
      | (with_reducible exact pelicanref13_May.mono _ _)
      | (with_reducible exact pelicanref13_pow.mono _ _)
      | (with_reducible exact LeO.refl _)
      | (with_reducible exact LeO.none _)
      | (with_reducible refine LeO.ite ?_ ?_)
      | (with_reducible refine LeO.bind ?_ (fun _ => ?_))
      | exact ih0 _ _ _
      | exact ih1 _ _ _ _
      | exact ih2 _ _ _ _ _ _
      | exact pelicanref13_In.mono _ _ _
      | exact pelicanref13_May.mono _ _
      | exact pelicanref13_pow.mono _ _
      | exact LeO.none _
      | refine LeO.ite ?_ ?_
      | refine LeO.bind ?_ (fun _ => ?_)
mutual
def pelicanref13_Of.l0 : Nat → List Int → Int → Int → Option (Int)
  | 0, _, _, _ => none
  | k + 1, x0, x3, x4 => if x4 < (x0.length : Int) then (if 0 ≤ x4 then (if (rd x0 x4) < 0 then (pelicanref13_Of.j1 k x0 x3 x4 true) else (pelicanref13_Of.j1 k x0 x3 x4 (decide ((rd x0 x4) > 7)))) else (none)) else (some x3)
def pelicanref13_Of.j1 : Nat → List Int → Int → Int → Bool → Option (Int)
  | 0, _, _, _, _ => none
  | k + 1, x0, x3, x4, x23 => if x23 = true then (some (-1)) else (if 0 ≤ x4 then (if x4 < (x0.length : Int) then ((pelicanref13_In.f k x3 (rd x0 x4)).bind fun t166 => (if t166 = true then (some (-1)) else ((pelicanref13_pow.f k (rd x0 x4)).bind fun t168 => (pelicanref13_Of.l0 k x0 (wrap64 (x3 + t168)) (wrap64 (x4 + 1)))))) else (none)) else (none))
end
def pelicanref13_Of.f (k : Nat) (l0 : List Int) : Option (Int) := pelicanref13_Of.l0 k l0 0 0
theorem pelicanref13_Of.mono_l : ∀ k, (∀ y0 y1 y2, LeO (pelicanref13_Of.l0 k y0 y1 y2) (pelicanref13_Of.l0 (k + 1) y0 y1 y2)) ∧ (∀ y0 y1 y2 y3, LeO (pelicanref13_Of.j1 k y0 y1 y2 y3) (pelicanref13_Of.j1 (k + 1) y0 y1 y2 y3))
  | 0 => ⟨fun _ _ _ r h => by simp [pelicanref13_Of.l0] at h, fun _ _ _ _ r h => by simp [pelicanref13_Of.j1] at h⟩
  | k + 1 => by
    obtain ⟨ih0, ih1⟩ := pelicanref13_Of.mono_l k
    refine ⟨?_, ?_⟩
    · intro y0 y1 y2
      unfold pelicanref13_Of.l0
      repeat' first
      | (with_reducible exact ih0 _ _ _)
      | (with_reducible exact ih1 _ _ _ _)
      | (with_reducible exact pelicanref13_In.mono _ _ _)
      | (with_reducible exact pelicanref13_pow.mono _ _)
      | (with_reducible exact LeO.refl _)
      | (with_reducible exact LeO.none _)
      | (with_reducible refine LeO.ite ?_ ?_)
      | (with_reducible refine LeO.bind ?_ (fun _ => ?_))
      | exact ih0 _ _ _
      | exact ih1 _ _ _ _
      | exact pelicanref13_In.mono _ _ _
      | exact pelicanref13_pow.mono _ _
      | exact LeO.none _
      | refine LeO.ite ?_ ?_
      | refine LeO.bind ?_ (fun _ => ?_)
    · intro y0 y1 y2 y3
      unfold pelicanref13_Of.j1
      repeat' first
      | (with_reducible exact ih0 _ _ _)
      | (with_reducible exact ih1 _ _ _ _)
      | (with_reducible exact pelicanref13_In.mono _ _ _)
      | (with_reducible exact pelicanref13_pow.mono _ _)
      | (with_reducible exact LeO.refl _)
      | (with_reducible exact LeO.none _)
      | (with_reducible refine LeO.ite ?_ ?_)
      | (with_reducible refine LeO.bind ?_ (fun _ => ?_))
      | exact ih0 _ _ _
      | exact ih1 _ _ _ _
      | exact pelicanref13_In.mono _ _ _
      | exact pelicanref13_pow.mono _ _
      | exact LeO.none _
      | refine LeO.ite ?_ ?_
      | refine LeO.bind ?_ (fun _ => ?_)
theorem pelicanref13_Of.mono : ∀ a0 k, LeO (pelicanref13_Of.f k a0) (pelicanref13_Of.f (k + 1) a0) := by
  intro a0 k
  obtain ⟨ih0, ih1⟩ := pelicanref13_Of.mono_l k
  unfold pelicanref13_Of.f
  repeat' first
      | (with_reducible exact ih0 _ _ _)
      | (with_reducible exact ih1 _ _ _ _)
      | (with_reducible exact pelicanref13_In.mono _ _ _)
      | (with_reducible exact pelicanref13_pow.mono _ _)
      | (with_reducible exact LeO.refl _)
      | (with_reducible exact LeO.none _)
      | (with_reducible refine LeO.ite ?_ ?_)
      | (with_reducible refine LeO.bind ?_ (fun _ => ?_))
      | exact ih0 _ _ _
      | exact ih1 _ _ _ _
      | exact pelicanref13_In.mono _ _ _
      | exact pelicanref13_pow.mono _ _
      | exact LeO.none _
      | refine LeO.ite ?_ ?_
      | refine LeO.bind ?_ (fun _ => ?_)
end Go.Proofs.YtnogkpofgkaefaaDoor.F
