/- Woven by wip/weave/weave.py of this repo (own tool) out of the translation: the contracts of some functions. Lean checks it. -/
import Derived.Test.YtnogkpofgkaefaaDoorF0
namespace Go.Proofs.YtnogkpofgkaefaaDoor.F
open Go.RowKit Go.Proofs.YtnogkpofgkaefaaDoorW.PrintWords Go.Proofs.YtnogkpofgkaefaaDoorW.PrintLast Go.Proofs.YtnogkpofgkaefaaDoorW.PrintMore
attribute [local go_sem] max2_int min2_int max_two min_two max_three min_three max_four min_four   -- for this text's walks alone
set_option linter.unusedVariables false
set_option linter.unusedSimpArgs false

def group_May.f (l0 : List Int) : Option Bool := some (Sp.may l0)
def group_in.f (a0 : Int) (a1 : Int) : Option (Bool) := if a0 ≥ 0 then (if 0 ≤ a1 then (some (decide (a0 < (shl .i64 1 a1)))) else (none)) else (some false)
def group_Against.f (l0 : List Int) (a1 : Int) : Option Int := some (Sp.against l0 a1)
def group_Free.f (l0 : List Int) (a1 : Int) : Option (Bool) := (group_Against.f l0 a1).bind fun t101 => (if t101 = (-1) then (some false) else (some ((Go.bits .and .i64 t101 a1) == 0)))
def group_Sets.l0 : Nat → List Int → List Int → Int → Int → Option (List Int)
  | 0, _, _, _, _ => none
  | k + 1, x0, x3, x10, x11 => if x11 < x10 then ((group_Free.f x0 x11).bind fun t103 => (if t103 = true then ((group_Against.f x0 x11).bind fun t104 => (if (Go.bits .or .i64 t104 x11) = (wrap64 ((shl .i64 1 (x0.length : Int)) - 1)) then (if x3.length < 17592186044416 then (group_Sets.l0 k x0 (x3 ++ [x11]) x10 (wrap64 (x11 + 1))) else (none)) else (group_Sets.l0 k x0 x3 x10 (wrap64 (x11 + 1))))) else (group_Sets.l0 k x0 x3 x10 (wrap64 (x11 + 1))))) else (some x3)
def group_Sets.f (k : Nat) (l0 : List Int) : Option (List Int) := (group_May.f l0).bind fun t102 => (if t102 = true then (group_Sets.l0 k l0 ([] : List Int) (shl .i64 1 (l0.length : Int)) 0) else (some ([] : List Int)))
theorem group_Sets.mono_l : ∀ k, (∀ y0 y1 y2 y3, LeO (group_Sets.l0 k y0 y1 y2 y3) (group_Sets.l0 (k + 1) y0 y1 y2 y3))
  | 0 => fun _ _ _ _ r h => by simp [group_Sets.l0] at h
  | k + 1 => by
    have ih0 := group_Sets.mono_l k
    · intro y0 y1 y2 y3
      unfold group_Sets.l0
      repeat' first
      | (with_reducible exact ih0 _ _ _ _)
      | (with_reducible exact LeO.refl _)
      | (with_reducible exact LeO.none _)
      | (with_reducible refine LeO.ite ?_ ?_)
      | (with_reducible refine LeO.bind ?_ (fun _ => ?_))
      | exact ih0 _ _ _ _
      | exact LeO.none _
      | refine LeO.ite ?_ ?_
      | refine LeO.bind ?_ (fun _ => ?_)
theorem group_Sets.mono : ∀ a0 k, LeO (group_Sets.f k a0) (group_Sets.f (k + 1) a0) := by
  intro a0 k
  have ih0 := group_Sets.mono_l k
  unfold group_Sets.f
  repeat' first
      | (with_reducible exact ih0 _ _ _ _)
      | (with_reducible exact LeO.refl _)
      | (with_reducible exact LeO.none _)
      | (with_reducible refine LeO.ite ?_ ?_)
      | (with_reducible refine LeO.bind ?_ (fun _ => ?_))
      | exact ih0 _ _ _ _
      | exact LeO.none _
      | refine LeO.ite ?_ ?_
      | refine LeO.bind ?_ (fun _ => ?_)
def group_List.f (a0 : Int) : Option (List Int) := some (Sp.groupsOf a0)
def group_Of.l0 : Nat → Int → List Int → Int → Int → Option (Int)
  | 0, _, _, _, _ => none
  | k + 1, x3, x6, x7, x8 => if x8 < x7 then (if 0 ≤ x8 then (if x8 < (x6.length : Int) then (if (rd x6 x8) < 0 then (some (-1)) else (if (rd x6 x8) ≥ 8 then (some (-1)) else (if 0 ≤ (rd x6 x8) then (if (Go.bits .and .i64 (shr .i64 x3 (rd x6 x8)) 1) = 1 then (some (-1)) else (group_Of.l0 k (Go.bits .or .i64 x3 (shl .i64 1 (rd x6 x8))) x6 x7 (wrap64 (x8 + 1)))) else (none)))) else (none)) else (none)) else (some x3)
def group_Of.f (k : Nat) (l0 : List Int) : Option (Int) := group_Of.l0 k 0 l0 (l0.length : Int) 0
theorem group_Of.mono_l : ∀ k, (∀ y0 y1 y2 y3, LeO (group_Of.l0 k y0 y1 y2 y3) (group_Of.l0 (k + 1) y0 y1 y2 y3))
  | 0 => fun _ _ _ _ r h => by simp [group_Of.l0] at h
  | k + 1 => by
    have ih0 := group_Of.mono_l k
    · intro y0 y1 y2 y3
      unfold group_Of.l0
      repeat' first
      | (with_reducible exact ih0 _ _ _ _)
      | (with_reducible exact LeO.refl _)
      | (with_reducible exact LeO.none _)
      | (with_reducible refine LeO.ite ?_ ?_)
      | (with_reducible refine LeO.bind ?_ (fun _ => ?_))
      | exact ih0 _ _ _ _
      | exact LeO.none _
      | refine LeO.ite ?_ ?_
      | refine LeO.bind ?_ (fun _ => ?_)
theorem group_Of.mono : ∀ a0 k, LeO (group_Of.f k a0) (group_Of.f (k + 1) a0) := by
  intro a0 k
  have ih0 := group_Of.mono_l k
  unfold group_Of.f
  repeat' first
      | (with_reducible exact ih0 _ _ _ _)
      | (with_reducible exact LeO.refl _)
      | (with_reducible exact LeO.none _)
      | (with_reducible refine LeO.ite ?_ ?_)
      | (with_reducible refine LeO.bind ?_ (fun _ => ?_))
      | exact ih0 _ _ _ _
      | exact LeO.none _
      | refine LeO.ite ?_ ?_
      | refine LeO.bind ?_ (fun _ => ?_)
def pelicanlaw13_awake.f (k : Nat)  : Option (Bool) := (some (([2, 1, 0] : List Int) : List Int)).bind fun y109 => ((group_Sets.f k y109).bind fun t112 => ((group_May.f y109).bind fun t115 => (if t115 = true then (if (t112.length : Int) = 2 then (if 0 < (t112.length : Int) then (if (rd t112 0) = 5 then (if 1 < (t112.length : Int) then (if (rd t112 1) = 6 then ((group_Free.f y109 5).bind fun t118 => (if t118 = true then ((group_Free.f y109 3).bind fun t119 => (if t119 = true then (some false) else ((group_Against.f y109 1).bind fun t120 => (if t120 = 2 then ((group_Of.f k (([0, 2] : List Int))).bind fun t124 => (if t124 = 5 then ((group_List.f 5).bind fun t125 => (some ((t125.length : Int) == 2))) else (some false))) else (some false))))) else (some false))) else (some false)) else (none)) else (some false)) else (none)) else (some false)) else (some false))))
theorem pelicanlaw13_awake.mono : ∀ k, LeO (pelicanlaw13_awake.f k ) (pelicanlaw13_awake.f (k + 1) ) := by
  intro  k
  unfold pelicanlaw13_awake.f
  repeat' first
      | (with_reducible exact group_Of.mono _ _)
      | (with_reducible exact group_Sets.mono _ _)
      | (with_reducible exact LeO.refl _)
      | (with_reducible exact LeO.none _)
      | (with_reducible refine LeO.ite ?_ ?_)
      | (with_reducible refine LeO.bind ?_ (fun _ => ?_))
      | exact group_Of.mono _ _
      | exact group_Sets.mono _ _
      | exact LeO.none _
      | refine LeO.ite ?_ ?_
      | refine LeO.bind ?_ (fun _ => ?_)
def pelicanref13_pow.l0 : Nat → Int → Int → Int → Option (Int)
  | 0, _, _, _ => none
  | k + 1, x0, x3, x4 => if x4 < x0 then (pelicanref13_pow.l0 k x0 (wrap64 (2 * x3)) (wrap64 (x4 + 1))) else (some x3)
def pelicanref13_pow.f (k : Nat) (a0 : Int) : Option (Int) := pelicanref13_pow.l0 k a0 1 0
theorem pelicanref13_pow.mono_l : ∀ k, (∀ y0 y1 y2, LeO (pelicanref13_pow.l0 k y0 y1 y2) (pelicanref13_pow.l0 (k + 1) y0 y1 y2))
  | 0 => fun _ _ _ r h => by simp [pelicanref13_pow.l0] at h
  | k + 1 => by
    have ih0 := pelicanref13_pow.mono_l k
    · intro y0 y1 y2
      unfold pelicanref13_pow.l0
      repeat' first
      | (with_reducible exact ih0 _ _ _)
      | (with_reducible exact LeO.refl _)
      | (with_reducible exact LeO.none _)
      | (with_reducible refine LeO.ite ?_ ?_)
      | (with_reducible refine LeO.bind ?_ (fun _ => ?_))
      | exact ih0 _ _ _
      | exact LeO.none _
      | refine LeO.ite ?_ ?_
      | refine LeO.bind ?_ (fun _ => ?_)
theorem pelicanref13_pow.mono : ∀ a0 k, LeO (pelicanref13_pow.f k a0) (pelicanref13_pow.f (k + 1) a0) := by
  intro a0 k
  have ih0 := pelicanref13_pow.mono_l k
  unfold pelicanref13_pow.f
  repeat' first
      | (with_reducible exact ih0 _ _ _)
      | (with_reducible exact LeO.refl _)
      | (with_reducible exact LeO.none _)
      | (with_reducible refine LeO.ite ?_ ?_)
      | (with_reducible refine LeO.bind ?_ (fun _ => ?_))
      | exact ih0 _ _ _
      | exact LeO.none _
      | refine LeO.ite ?_ ?_
      | refine LeO.bind ?_ (fun _ => ?_)
def pelicanref13_In.f (k : Nat) (a0 : Int) (a1 : Int) : Option (Bool) := (pelicanref13_pow.f k a1).bind fun t128 => (if t128 = 0 then (none) else (some ((Int.tmod (wrap64 (Int.tdiv a0 t128)) 2) == 1)))
theorem pelicanref13_In.mono : ∀ a0 a1 k, LeO (pelicanref13_In.f k a0 a1) (pelicanref13_In.f (k + 1) a0 a1) := by
  intro a0 a1 k
  unfold pelicanref13_In.f
  repeat' first
      | (with_reducible exact pelicanref13_pow.mono _ _)
      | (with_reducible exact LeO.refl _)
      | (with_reducible exact LeO.none _)
      | (with_reducible refine LeO.ite ?_ ?_)
      | (with_reducible refine LeO.bind ?_ (fun _ => ?_))
      | exact pelicanref13_pow.mono _ _
      | exact LeO.none _
      | refine LeO.ite ?_ ?_
      | refine LeO.bind ?_ (fun _ => ?_)
mutual
def pelicanref13_May.j0 : Nat → List Int → Int → Bool → Option (Bool)
  | 0, _, _, _ => none
  | k + 1, x0, x3, x16 => if x16 = true then (some false) else (pelicanref13_May.l0 k x0 x3 0)
def pelicanref13_May.l0 : Nat → List Int → Int → Int → Option (Bool)
  | 0, _, _, _ => none
  | k + 1, x0, x3, x4 => if x4 < x3 then (if 0 ≤ x4 then (if x4 < (x0.length : Int) then (if (rd x0 x4) < 0 then (some false) else ((pelicanref13_pow.f k x3).bind fun t131 => (if (rd x0 x4) ≥ t131 then (some false) else (pelicanref13_May.l0 k x0 x3 (wrap64 (x4 + 1)))))) else (none)) else (none)) else (pelicanref13_May.l1 k x0 x3 0)
def pelicanref13_May.l1 : Nat → List Int → Int → Int → Option (Bool)
  | 0, _, _, _ => none
  | k + 1, x0, x3, x5 => if x5 < x3 then (pelicanref13_May.l2 k x0 x3 x5 0) else (some true)
def pelicanref13_May.l2 : Nat → List Int → Int → Int → Int → Option (Bool)
  | 0, _, _, _, _ => none
  | k + 1, x0, x3, x5, x6 => if x6 < x3 then (if 0 ≤ x5 then (if x5 < (x0.length : Int) then ((pelicanref13_In.f k (rd x0 x5) x6).bind fun t133 => (if 0 ≤ x6 then (if x6 < (x0.length : Int) then ((pelicanref13_In.f k (rd x0 x6) x5).bind fun t135 => (if (t133 != t135) = true then (some false) else (if t133 = true then (if x5 = x6 then (some false) else (pelicanref13_May.l2 k x0 x3 x5 (wrap64 (x6 + 1)))) else (pelicanref13_May.l2 k x0 x3 x5 (wrap64 (x6 + 1)))))) else (none)) else (none))) else (none)) else (none)) else (pelicanref13_May.l1 k x0 x3 (wrap64 (x5 + 1)))
end
def pelicanref13_May.f (k : Nat) (l0 : List Int) : Option (Bool) := if (l0.length : Int) < 1 then (pelicanref13_May.j0 k l0 (l0.length : Int) true) else (pelicanref13_May.j0 k l0 (l0.length : Int) (decide ((l0.length : Int) > 8)))
theorem pelicanref13_May.mono_l : ∀ k, (∀ y0 y1 y2, LeO (pelicanref13_May.j0 k y0 y1 y2) (pelicanref13_May.j0 (k + 1) y0 y1 y2)) ∧ (∀ y0 y1 y2, LeO (pelicanref13_May.l0 k y0 y1 y2) (pelicanref13_May.l0 (k + 1) y0 y1 y2)) ∧ (∀ y0 y1 y2, LeO (pelicanref13_May.l1 k y0 y1 y2) (pelicanref13_May.l1 (k + 1) y0 y1 y2)) ∧ (∀ y0 y1 y2 y3, LeO (pelicanref13_May.l2 k y0 y1 y2 y3) (pelicanref13_May.l2 (k + 1) y0 y1 y2 y3))
  | 0 => ⟨fun _ _ _ r h => by simp [pelicanref13_May.j0] at h, fun _ _ _ r h => by simp [pelicanref13_May.l0] at h, fun _ _ _ r h => by simp [pelicanref13_May.l1] at h, fun _ _ _ _ r h => by simp [pelicanref13_May.l2] at h⟩
  | k + 1 => by
    obtain ⟨ih0, ih1, ih2, ih3⟩ := pelicanref13_May.mono_l k
    refine ⟨?_, ?_, ?_, ?_⟩
    · intro y0 y1 y2
      unfold pelicanref13_May.j0
      repeat' first
      | (with_reducible exact ih0 _ _ _)
      | (with_reducible exact ih1 _ _ _)
      | (with_reducible exact ih2 _ _ _)
      | (with_reducible exact ih3 _ _ _ _)
      | (with_reducible exact pelicanref13_In.mono _ _ _)
      | (with_reducible exact pelicanref13_pow.mono _ _)
      | (with_reducible exact LeO.refl _)
      | (with_reducible exact LeO.none _)
      | (with_reducible refine LeO.ite ?_ ?_)
      | (with_reducible refine LeO.bind ?_ (fun _ => ?_))
      | exact ih0 _ _ _
      | exact ih1 _ _ _
      | exact ih2 _ _ _
      | exact ih3 _ _ _ _
      | exact pelicanref13_In.mono _ _ _
      | exact pelicanref13_pow.mono _ _
      | exact LeO.none _
      | refine LeO.ite ?_ ?_
      | refine LeO.bind ?_ (fun _ => ?_)
    · intro y0 y1 y2
      unfold pelicanref13_May.l0
      repeat' first
      | (with_reducible exact ih0 _ _ _)
      | (with_reducible exact ih1 _ _ _)
      | (with_reducible exact ih2 _ _ _)
      | (with_reducible exact ih3 _ _ _ _)
      | (with_reducible exact pelicanref13_In.mono _ _ _)
      | (with_reducible exact pelicanref13_pow.mono _ _)
      | (with_reducible exact LeO.refl _)
      | (with_reducible exact LeO.none _)
      | (with_reducible refine LeO.ite ?_ ?_)
      | (with_reducible refine LeO.bind ?_ (fun _ => ?_))
      | exact ih0 _ _ _
      | exact ih1 _ _ _
      | exact ih2 _ _ _
      | exact ih3 _ _ _ _
      | exact pelicanref13_In.mono _ _ _
      | exact pelicanref13_pow.mono _ _
      | exact LeO.none _
      | refine LeO.ite ?_ ?_
      | refine LeO.bind ?_ (fun _ => ?_)
    · intro y0 y1 y2
      unfold pelicanref13_May.l1
      repeat' first
      | (with_reducible exact ih0 _ _ _)
      | (with_reducible exact ih1 _ _ _)
      | (with_reducible exact ih2 _ _ _)
      | (with_reducible exact ih3 _ _ _ _)
      | (with_reducible exact pelicanref13_In.mono _ _ _)
      | (with_reducible exact pelicanref13_pow.mono _ _)
      | (with_reducible exact LeO.refl _)
      | (with_reducible exact LeO.none _)
      | (with_reducible refine LeO.ite ?_ ?_)
      | (with_reducible refine LeO.bind ?_ (fun _ => ?_))
      | exact ih0 _ _ _
      | exact ih1 _ _ _
      | exact ih2 _ _ _
      | exact ih3 _ _ _ _
      | exact pelicanref13_In.mono _ _ _
      | exact pelicanref13_pow.mono _ _
      | exact LeO.none _
      | refine LeO.ite ?_ ?_
      | refine LeO.bind ?_ (fun _ => ?_)
    · intro y0 y1 y2 y3
      unfold pelicanref13_May.l2
      repeat' first
      | (with_reducible exact ih0 _ _ _)
      | (with_reducible exact ih1 _ _ _)
      | (with_reducible exact ih2 _ _ _)
      | (with_reducible exact ih3 _ _ _ _)
      | (with_reducible exact pelicanref13_In.mono _ _ _)
      | (with_reducible exact pelicanref13_pow.mono _ _)
      | (with_reducible exact LeO.refl _)
      | (with_reducible exact LeO.none _)
      | (with_reducible refine LeO.ite ?_ ?_)
      | (with_reducible refine LeO.bind ?_ (fun _ => ?_))
      | exact ih0 _ _ _
      | exact ih1 _ _ _
      | exact ih2 _ _ _
      | exact ih3 _ _ _ _
      | exact pelicanref13_In.mono _ _ _
      | exact pelicanref13_pow.mono _ _
      | exact LeO.none _
      | refine LeO.ite ?_ ?_
      | refine LeO.bind ?_ (fun _ => ?_)
theorem pelicanref13_May.mono : ∀ a0 k, LeO (pelicanref13_May.f k a0) (pelicanref13_May.f (k + 1) a0) := by
  intro a0 k
  obtain ⟨ih0, ih1, ih2, ih3⟩ := pelicanref13_May.mono_l k
  unfold pelicanref13_May.f
  repeat' first
      | (with_reducible exact ih0 _ _ _)
      | (with_reducible exact ih1 _ _ _)
      | (with_reducible exact ih2 _ _ _)
      | (with_reducible exact ih3 _ _ _ _)
      | (with_reducible exact pelicanref13_In.mono _ _ _)
      | (with_reducible exact pelicanref13_pow.mono _ _)
      | (with_reducible exact LeO.refl _)
      | (with_reducible exact LeO.none _)
      | (with_reducible refine LeO.ite ?_ ?_)
      | (with_reducible refine LeO.bind ?_ (fun _ => ?_))
      | exact ih0 _ _ _
      | exact ih1 _ _ _
      | exact ih2 _ _ _
      | exact ih3 _ _ _ _
      | exact pelicanref13_In.mono _ _ _
      | exact pelicanref13_pow.mono _ _
      | exact LeO.none _
      | refine LeO.ite ?_ ?_
      | refine LeO.bind ?_ (fun _ => ?_)
mutual
def pelicanref13_Free.j0 : Nat → List Int → Int → Bool → Option (Bool)
  | 0, _, _, _ => none
  | k + 1, x0, x1, x25 => if x25 = true then (some false) else (pelicanref13_Free.l0 k x0 x1 0)
def pelicanref13_Free.l0 : Nat → List Int → Int → Int → Option (Bool)
  | 0, _, _, _ => none
  | k + 1, x0, x1, x6 => if x6 < (x0.length : Int) then (pelicanref13_Free.l1 k x0 x1 x6 0) else (some true)
def pelicanref13_Free.l1 : Nat → List Int → Int → Int → Int → Option (Bool)
  | 0, _, _, _, _ => none
  | k + 1, x0, x1, x6, x7 => if x7 < (x0.length : Int) then ((pelicanref13_In.f k x1 x6).bind fun t138 => ((pelicanref13_In.f k x1 x7).bind fun t139 => (if 0 ≤ x6 then (if x6 < (x0.length : Int) then ((pelicanref13_In.f k (rd x0 x6) x7).bind fun t141 => (if t138 = true then (if t139 = true then (if t141 = true then (some false) else (pelicanref13_Free.l1 k x0 x1 x6 (wrap64 (x7 + 1)))) else (pelicanref13_Free.l1 k x0 x1 x6 (wrap64 (x7 + 1)))) else (pelicanref13_Free.l1 k x0 x1 x6 (wrap64 (x7 + 1))))) else (none)) else (none)))) else (pelicanref13_Free.l0 k x0 x1 (wrap64 (x6 + 1)))
end
def pelicanref13_Free.f (k : Nat) (l0 : List Int) (a1 : Int) : Option (Bool) := (pelicanref13_May.f k l0).bind fun t136 => (if t136 = true then (if a1 < 0 then (pelicanref13_Free.j0 k l0 a1 true) else ((pelicanref13_pow.f k (l0.length : Int)).bind fun t137 => (pelicanref13_Free.j0 k l0 a1 (decide (a1 ≥ t137))))) else (pelicanref13_Free.j0 k l0 a1 true))
theorem pelicanref13_Free.mono_l : ∀ k, (∀ y0 y1 y2, LeO (pelicanref13_Free.j0 k y0 y1 y2) (pelicanref13_Free.j0 (k + 1) y0 y1 y2)) ∧ (∀ y0 y1 y2, LeO (pelicanref13_Free.l0 k y0 y1 y2) (pelicanref13_Free.l0 (k + 1) y0 y1 y2)) ∧ (∀ y0 y1 y2 y3, LeO (pelicanref13_Free.l1 k y0 y1 y2 y3) (pelicanref13_Free.l1 (k + 1) y0 y1 y2 y3))
  | 0 => ⟨fun _ _ _ r h => by simp [pelicanref13_Free.j0] at h, fun _ _ _ r h => by simp [pelicanref13_Free.l0] at h, fun _ _ _ _ r h => by simp [pelicanref13_Free.l1] at h⟩
  | k + 1 => by
    obtain ⟨ih0, ih1, ih2⟩ := pelicanref13_Free.mono_l k
    refine ⟨?_, ?_, ?_⟩
    · intro y0 y1 y2
      unfold pelicanref13_Free.j0
      repeat' first
      | (with_reducible exact ih0 _ _ _)
      | (with_reducible exact ih1 _ _ _)
      | (with_reducible exact ih2 _ _ _ _)
      | (with_reducible exact pelicanref13_In.mono _ _ _)
      | (with_reducible exact pelicanref13_May.mono _ _)
      | (with_reducible exact pelicanref13_pow.mono _ _)
      | (with_reducible exact LeO.refl _)
      | (with_reducible exact LeO.none _)
      | (with_reducible refine LeO.ite ?_ ?_)
      | (with_reducible refine LeO.bind ?_ (fun _ => ?_))
      | exact ih0 _ _ _
      | exact ih1 _ _ _
      | exact ih2 _ _ _ _
      | exact pelicanref13_In.mono _ _ _
      | exact pelicanref13_May.mono _ _
      | exact pelicanref13_pow.mono _ _
      | exact LeO.none _
      | refine LeO.ite ?_ ?_
      | refine LeO.bind ?_ (fun _ => ?_)
    · intro y0 y1 y2
      unfold pelicanref13_Free.l0
      repeat' first
      | (with_reducible exact ih0 _ _ _)
      | (with_reducible exact ih1 _ _ _)
      | (with_reducible exact ih2 _ _ _ _)
      | (with_reducible exact pelicanref13_In.mono _ _ _)
      | (with_reducible exact pelicanref13_May.mono _ _)
      | (with_reducible exact pelicanref13_pow.mono _ _)
      | (with_reducible exact LeO.refl _)
      | (with_reducible exact LeO.none _)
      | (with_reducible refine LeO.ite ?_ ?_)
      | (with_reducible refine LeO.bind ?_ (fun _ => ?_))
      | exact ih0 _ _ _
      | exact ih1 _ _ _
      | exact ih2 _ _ _ _
      | exact pelicanref13_In.mono _ _ _
      | exact pelicanref13_May.mono _ _
      | exact pelicanref13_pow.mono _ _
      | exact LeO.none _
      | refine LeO.ite ?_ ?_
      | refine LeO.bind ?_ (fun _ => ?_)
    · intro y0 y1 y2 y3
      unfold pelicanref13_Free.l1
      repeat' first
      | (with_reducible exact ih0 _ _ _)
      | (with_reducible exact ih1 _ _ _)
      | (with_reducible exact ih2 _ _ _ _)
      | (with_reducible exact pelicanref13_In.mono _ _ _)
      | (with_reducible exact pelicanref13_May.mono _ _)
      | (with_reducible exact pelicanref13_pow.mono _ _)
      | (with_reducible exact LeO.refl _)
      | (with_reducible exact LeO.none _)
      | (with_reducible refine LeO.ite ?_ ?_)
      | (with_reducible refine LeO.bind ?_ (fun _ => ?_))
      | exact ih0 _ _ _
      | exact ih1 _ _ _
      | exact ih2 _ _ _ _
      | exact pelicanref13_In.mono _ _ _
      | exact pelicanref13_May.mono _ _
      | exact pelicanref13_pow.mono _ _
      | exact LeO.none _
      | refine LeO.ite ?_ ?_
      | refine LeO.bind ?_ (fun _ => ?_)
theorem pelicanref13_Free.mono : ∀ a0 a1 k, LeO (pelicanref13_Free.f k a0 a1) (pelicanref13_Free.f (k + 1) a0 a1) := by
  intro a0 a1 k
  obtain ⟨ih0, ih1, ih2⟩ := pelicanref13_Free.mono_l k
  unfold pelicanref13_Free.f
  repeat' first
      | (with_reducible exact ih0 _ _ _)
      | (with_reducible exact ih1 _ _ _)
      | (with_reducible exact ih2 _ _ _ _)
      | (with_reducible exact pelicanref13_In.mono _ _ _)
      | (with_reducible exact pelicanref13_May.mono _ _)
      | (with_reducible exact pelicanref13_pow.mono _ _)
      | (with_reducible exact LeO.refl _)
      | (with_reducible exact LeO.none _)
      | (with_reducible refine LeO.ite ?_ ?_)
      | (with_reducible refine LeO.bind ?_ (fun _ => ?_))
      | exact ih0 _ _ _
      | exact ih1 _ _ _
      | exact ih2 _ _ _ _
      | exact pelicanref13_In.mono _ _ _
      | exact pelicanref13_May.mono _ _
      | exact pelicanref13_pow.mono _ _
      | exact LeO.none _
      | refine LeO.ite ?_ ?_
      | refine LeO.bind ?_ (fun _ => ?_)
def pelicanref05_Ints.l0 : Nat → List Int → List Int → Int → Option (Bool)
  | 0, _, _, _ => none
  | k + 1, x0, x1, x5 => if x5 < (x0.length : Int) then (if 0 ≤ x5 then (if x5 < (x1.length : Int) then (if (rd x0 x5) = (rd x1 x5) then (pelicanref05_Ints.l0 k x0 x1 (wrap64 (x5 + 1))) else (some false)) else (none)) else (none)) else (some true)
def pelicanref05_Ints.f (k : Nat) (l0 : List Int) (l1 : List Int) : Option (Bool) := if (l0.length : Int) = (l1.length : Int) then (pelicanref05_Ints.l0 k l0 l1 0) else (some false)
theorem pelicanref05_Ints.mono_l : ∀ k, (∀ y0 y1 y2, LeO (pelicanref05_Ints.l0 k y0 y1 y2) (pelicanref05_Ints.l0 (k + 1) y0 y1 y2))
  | 0 => fun _ _ _ r h => by simp [pelicanref05_Ints.l0] at h
  | k + 1 => by
    have ih0 := pelicanref05_Ints.mono_l k
    · intro y0 y1 y2
      unfold pelicanref05_Ints.l0
      repeat' first
      | (with_reducible exact ih0 _ _ _)
      | (with_reducible exact LeO.refl _)
      | (with_reducible exact LeO.none _)
      | (with_reducible refine LeO.ite ?_ ?_)
      | (with_reducible refine LeO.bind ?_ (fun _ => ?_))
      | exact ih0 _ _ _
      | exact LeO.none _
      | refine LeO.ite ?_ ?_
      | refine LeO.bind ?_ (fun _ => ?_)
theorem pelicanref05_Ints.mono : ∀ a0 a1 k, LeO (pelicanref05_Ints.f k a0 a1) (pelicanref05_Ints.f (k + 1) a0 a1) := by
  intro a0 a1 k
  have ih0 := pelicanref05_Ints.mono_l k
  unfold pelicanref05_Ints.f
  repeat' first
      | (with_reducible exact ih0 _ _ _)
      | (with_reducible exact LeO.refl _)
      | (with_reducible exact LeO.none _)
      | (with_reducible refine LeO.ite ?_ ?_)
      | (with_reducible refine LeO.bind ?_ (fun _ => ?_))
      | exact ih0 _ _ _
      | exact LeO.none _
      | refine LeO.ite ?_ ?_
      | refine LeO.bind ?_ (fun _ => ?_)
mutual
def pelicanref13_Sets.l0 : Nat → List Int → Bool → List Int → Int → Option (List Int)
  | 0, _, _, _, _ => none
  | k + 1, x0, x3, x4, x5 => if x3 = true then ((pelicanref13_pow.f k (x0.length : Int)).bind fun t145 => (pelicanref13_Sets.j1 k x0 x3 x4 x5 (decide (x5 < t145)))) else (pelicanref13_Sets.j1 k x0 x3 x4 x5 false)
def pelicanref13_Sets.j1 : Nat → List Int → Bool → List Int → Int → Bool → Option (List Int)
  | 0, _, _, _, _, _ => none
  | k + 1, x0, x3, x4, x5, x19 => if x19 = true then ((pelicanref13_Free.f k x0 x5).bind fun t146 => (pelicanref13_Sets.l1 k x0 x3 x4 x5 t146 0)) else (some x4)
def pelicanref13_Sets.l1 : Nat → List Int → Bool → List Int → Int → Bool → Int → Option (List Int)
  | 0, _, _, _, _, _, _ => none
  | k + 1, x0, x3, x4, x5, x6, x7 => if x7 < (x0.length : Int) then ((pelicanref13_In.f k x5 x7).bind fun t150 => ((pelicanref13_pow.f k x7).bind fun t151 => ((pelicanref13_Free.f k x0 (wrap64 (x5 + t151))).bind fun t152 => (if t150 = true then (pelicanref13_Sets.l1 k x0 x3 x4 x5 x6 (wrap64 (x7 + 1))) else (if t152 = true then (pelicanref13_Sets.l1 k x0 x3 x4 x5 false (wrap64 (x7 + 1))) else (pelicanref13_Sets.l1 k x0 x3 x4 x5 x6 (wrap64 (x7 + 1)))))))) else (if x6 = true then (if x4.length < 17592186044416 then (pelicanref13_Sets.l0 k x0 x3 (x4 ++ [x5]) (wrap64 (x5 + 1))) else (none)) else (pelicanref13_Sets.l0 k x0 x3 x4 (wrap64 (x5 + 1))))
end
def pelicanref13_Sets.f (k : Nat) (l0 : List Int) : Option (List Int) := (pelicanref13_May.f k l0).bind fun t144 => (pelicanref13_Sets.l0 k l0 t144 ([] : List Int) 0)
theorem pelicanref13_Sets.mono_l : ∀ k, (∀ y0 y1 y2 y3, LeO (pelicanref13_Sets.l0 k y0 y1 y2 y3) (pelicanref13_Sets.l0 (k + 1) y0 y1 y2 y3)) ∧ (∀ y0 y1 y2 y3 y4, LeO (pelicanref13_Sets.j1 k y0 y1 y2 y3 y4) (pelicanref13_Sets.j1 (k + 1) y0 y1 y2 y3 y4)) ∧ (∀ y0 y1 y2 y3 y4 y5, LeO (pelicanref13_Sets.l1 k y0 y1 y2 y3 y4 y5) (pelicanref13_Sets.l1 (k + 1) y0 y1 y2 y3 y4 y5))
  | 0 => ⟨fun _ _ _ _ r h => by simp [pelicanref13_Sets.l0] at h, fun _ _ _ _ _ r h => by simp [pelicanref13_Sets.j1] at h, fun _ _ _ _ _ _ r h => by simp [pelicanref13_Sets.l1] at h⟩
  | k + 1 => by
    obtain ⟨ih0, ih1, ih2⟩ := pelicanref13_Sets.mono_l k
    refine ⟨?_, ?_, ?_⟩
    · intro y0 y1 y2 y3
      unfold pelicanref13_Sets.l0
      repeat' first
      | (with_reducible exact ih0 _ _ _ _)
      | (with_reducible exact ih1 _ _ _ _ _)
      | (with_reducible exact ih2 _ _ _ _ _ _)
      | (with_reducible exact pelicanref13_Free.mono _ _ _)
      | (with_reducible exact pelicanref13_In.mono _ _ _)
      | (with_reducible exact pelicanref13_May.mono _ _)
      | (with_reducible exact pelicanref13_pow.mono _ _)
      | (with_reducible exact LeO.refl _)
      | (with_reducible exact LeO.none _)
      | (with_reducible refine LeO.ite ?_ ?_)
      | (with_reducible refine LeO.bind ?_ (fun _ => ?_))
      | exact ih0 _ _ _ _
      | exact ih1 _ _ _ _ _
      | exact ih2 _ _ _ _ _ _
      | exact pelicanref13_Free.mono _ _ _
      | exact pelicanref13_In.mono _ _ _
      | exact pelicanref13_May.mono _ _
      | exact pelicanref13_pow.mono _ _
      | exact LeO.none _
      | refine LeO.ite ?_ ?_
      | refine LeO.bind ?_ (fun _ => ?_)
    · intro y0 y1 y2 y3 y4
      unfold pelicanref13_Sets.j1
      repeat' first
      | (with_reducible exact ih0 _ _ _ _)
      | (with_reducible exact ih1 _ _ _ _ _)
      | (with_reducible exact ih2 _ _ _ _ _ _)
      | (with_reducible exact pelicanref13_Free.mono _ _ _)
      | (with_reducible exact pelicanref13_In.mono _ _ _)
      | (with_reducible exact pelicanref13_May.mono _ _)
      | (with_reducible exact pelicanref13_pow.mono _ _)
      | (with_reducible exact LeO.refl _)
      | (with_reducible exact LeO.none _)
      | (with_reducible refine LeO.ite ?_ ?_)
      | (with_reducible refine LeO.bind ?_ (fun _ => ?_))
      | exact ih0 _ _ _ _
      | exact ih1 _ _ _ _ _
      | exact ih2 _ _ _ _ _ _
      | exact pelicanref13_Free.mono _ _ _
      | exact pelicanref13_In.mono _ _ _
      | exact pelicanref13_May.mono _ _
      | exact pelicanref13_pow.mono _ _
      | exact LeO.none _
      | refine LeO.ite ?_ ?_
      | refine LeO.bind ?_ (fun _ => ?_)
    · intro y0 y1 y2 y3 y4 y5
      unfold pelicanref13_Sets.l1
      repeat' first
      | (with_reducible exact ih0 _ _ _ _)
      | (with_reducible exact ih1 _ _ _ _ _)
      | (with_reducible exact ih2 _ _ _ _ _ _)
      | (with_reducible exact pelicanref13_Free.mono _ _ _)
      | (with_reducible exact pelicanref13_In.mono _ _ _)
      | (with_reducible exact pelicanref13_May.mono _ _)
      | (with_reducible exact pelicanref13_pow.mono _ _)
      | (with_reducible exact LeO.refl _)
      | (with_reducible exact LeO.none _)
      | (with_reducible refine LeO.ite ?_ ?_)
      | (with_reducible refine LeO.bind ?_ (fun _ => ?_))
      | exact ih0 _ _ _ _
      | exact ih1 _ _ _ _ _
      | exact ih2 _ _ _ _ _ _
      | exact pelicanref13_Free.mono _ _ _
      | exact pelicanref13_In.mono _ _ _
      | exact pelicanref13_May.mono _ _
      | exact pelicanref13_pow.mono _ _
      | exact LeO.none _
      | refine LeO.ite ?_ ?_
      | refine LeO.bind ?_ (fun _ => ?_)
theorem pelicanref13_Sets.mono : ∀ a0 k, LeO (pelicanref13_Sets.f k a0) (pelicanref13_Sets.f (k + 1) a0) := by
  intro a0 k
  obtain ⟨ih0, ih1, ih2⟩ := pelicanref13_Sets.mono_l k
  unfold pelicanref13_Sets.f
  repeat' first
      | (with_reducible exact ih0 _ _ _ _)
      | (with_reducible exact ih1 _ _ _ _ _)
      | (with_reducible exact ih2 _ _ _ _ _ _)
      | (with_reducible exact pelicanref13_Free.mono _ _ _)
      | (with_reducible exact pelicanref13_In.mono _ _ _)
      | (with_reducible exact pelicanref13_May.mono _ _)
      | (with_reducible exact pelicanref13_pow.mono _ _)
      | (with_reducible exact LeO.refl _)
      | (with_reducible exact LeO.none _)
      | (with_reducible refine LeO.ite ?_ ?_)
      | (with_reducible refine LeO.bind ?_ (fun _ => ?_))
      | exact ih0 _ _ _ _
      | exact ih1 _ _ _ _ _
      | exact ih2 _ _ _ _ _ _
      | exact pelicanref13_Free.mono _ _ _
      | exact pelicanref13_In.mono _ _ _
      | exact pelicanref13_May.mono _ _
      | exact pelicanref13_pow.mono _ _
      | exact LeO.none _
      | refine LeO.ite ?_ ?_
      | refine LeO.bind ?_ (fun _ => ?_)
mutual
def pelicanref13_List.l0 : Nat → Int → List Int → Int → Option (List Int)
  | 0, _, _, _ => none
  | k + 1, x0, x3, x4 => if x4 < 8 then (if x0 ≥ 0 then (pelicanref13_List.j1 k x0 x3 x4 (decide (x0 < 256))) else (pelicanref13_List.j1 k x0 x3 x4 false)) else (pelicanref13_List.j1 k x0 x3 x4 false)
def pelicanref13_List.j1 : Nat → Int → List Int → Int → Bool → Option (List Int)
  | 0, _, _, _, _ => none
  | k + 1, x0, x3, x4, x15 => if x15 = true then ((pelicanref13_In.f k x0 x4).bind fun t153 => (if t153 = true then (if x3.length < 17592186044416 then (pelicanref13_List.l0 k x0 (x3 ++ [x4]) (wrap64 (x4 + 1))) else (none)) else (pelicanref13_List.l0 k x0 x3 (wrap64 (x4 + 1))))) else (some x3)
end
def pelicanref13_List.f (k : Nat) (a0 : Int) : Option (List Int) := pelicanref13_List.l0 k a0 ([] : List Int) 0
theorem pelicanref13_List.mono_l : ∀ k, (∀ y0 y1 y2, LeO (pelicanref13_List.l0 k y0 y1 y2) (pelicanref13_List.l0 (k + 1) y0 y1 y2)) ∧ (∀ y0 y1 y2 y3, LeO (pelicanref13_List.j1 k y0 y1 y2 y3) (pelicanref13_List.j1 (k + 1) y0 y1 y2 y3))
  | 0 => ⟨fun _ _ _ r h => by simp [pelicanref13_List.l0] at h, fun _ _ _ _ r h => by simp [pelicanref13_List.j1] at h⟩
  | k + 1 => by
    obtain ⟨ih0, ih1⟩ := pelicanref13_List.mono_l k
    refine ⟨?_, ?_⟩
    · intro y0 y1 y2
      unfold pelicanref13_List.l0
      repeat' first
      | (with_reducible exact ih0 _ _ _)
      | (with_reducible exact ih1 _ _ _ _)
      | (with_reducible exact pelicanref13_In.mono _ _ _)
      | (with_reducible exact LeO.refl _)
      | (with_reducible exact LeO.none _)
      | (with_reducible refine LeO.ite ?_ ?_)
      | (with_reducible refine LeO.bind ?_ (fun _ => ?_))
      | exact ih0 _ _ _
      | exact ih1 _ _ _ _
      | exact pelicanref13_In.mono _ _ _
      | exact LeO.none _
      | refine LeO.ite ?_ ?_
      | refine LeO.bind ?_ (fun _ => ?_)
    · intro y0 y1 y2 y3
      unfold pelicanref13_List.j1
      repeat' first
      | (with_reducible exact ih0 _ _ _)
      | (with_reducible exact ih1 _ _ _ _)
      | (with_reducible exact pelicanref13_In.mono _ _ _)
      | (with_reducible exact LeO.refl _)
      | (with_reducible exact LeO.none _)
      | (with_reducible refine LeO.ite ?_ ?_)
      | (with_reducible refine LeO.bind ?_ (fun _ => ?_))
      | exact ih0 _ _ _
      | exact ih1 _ _ _ _
      | exact pelicanref13_In.mono _ _ _
      | exact LeO.none _
      | refine LeO.ite ?_ ?_
      | refine LeO.bind ?_ (fun _ => ?_)
theorem pelicanref13_List.mono : ∀ a0 k, LeO (pelicanref13_List.f k a0) (pelicanref13_List.f (k + 1) a0) := by
  intro a0 k
  obtain ⟨ih0, ih1⟩ := pelicanref13_List.mono_l k
  unfold pelicanref13_List.f
  repeat' first
      | (with_reducible exact ih0 _ _ _)
      | (with_reducible exact ih1 _ _ _ _)
      | (with_reducible exact pelicanref13_In.mono _ _ _)
      | (with_reducible exact LeO.refl _)
      | (with_reducible exact LeO.none _)
      | (with_reducible refine LeO.ite ?_ ?_)
      | (with_reducible refine LeO.bind ?_ (fun _ => ?_))
      | exact ih0 _ _ _
      | exact ih1 _ _ _ _
      | exact pelicanref13_In.mono _ _ _
      | exact LeO.none _
      | refine LeO.ite ?_ ?_
      | refine LeO.bind ?_ (fun _ => ?_)
mutual
def pelicanref13_Against.j0 : Nat → List Int → Int → Bool → Option (Int)
  | 0, _, _, _ => none
  | k + 1, x0, x1, x26 => if x26 = true then (some (-1)) else (pelicanref13_Against.l0 k x0 x1 0 0)
def pelicanref13_Against.l0 : Nat → List Int → Int → Int → Int → Option (Int)
  | 0, _, _, _, _ => none
  | k + 1, x0, x1, x6, x7 => if x7 < (x0.length : Int) then (pelicanref13_Against.l1 k x0 x1 x6 x7 false 0) else (some x6)
def pelicanref13_Against.l1 : Nat → List Int → Int → Int → Int → Bool → Int → Option (Int)
  | 0, _, _, _, _, _, _ => none
  | k + 1, x0, x1, x6, x7, x8, x9 => if x9 < (x0.length : Int) then ((pelicanref13_In.f k x1 x9).bind fun t159 => (if 0 ≤ x9 then ((pelicanref13_In.f k (rd x0 x9) x7).bind fun t161 => (if x8 = true then (pelicanref13_Against.l1 k x0 x1 x6 x7 true (wrap64 (x9 + 1))) else (if t159 = true then (pelicanref13_Against.l1 k x0 x1 x6 x7 t161 (wrap64 (x9 + 1))) else (pelicanref13_Against.l1 k x0 x1 x6 x7 false (wrap64 (x9 + 1)))))) else (none))) else (if x8 = true then ((pelicanref13_pow.f k x7).bind fun t162 => (pelicanref13_Against.l0 k x0 x1 (wrap64 (x6 + t162)) (wrap64 (x7 + 1)))) else (pelicanref13_Against.l0 k x0 x1 x6 (wrap64 (x7 + 1))))
end
def pelicanref13_Against.f (k : Nat) (l0 : List Int) (a1 : Int) : Option (Int) := (pelicanref13_May.f k l0).bind fun t157 => (if t157 = true then (if a1 < 0 then (pelicanref13_Against.j0 k l0 a1 true) else ((pelicanref13_pow.f k (l0.length : Int)).bind fun t158 => (pelicanref13_Against.j0 k l0 a1 (decide (a1 ≥ t158))))) else (pelicanref13_Against.j0 k l0 a1 true))
theorem pelicanref13_Against.mono_l : ∀ k, (∀ y0 y1 y2, LeO (pelicanref13_Against.j0 k y0 y1 y2) (pelicanref13_Against.j0 (k + 1) y0 y1 y2)) ∧ (∀ y0 y1 y2 y3, LeO (pelicanref13_Against.l0 k y0 y1 y2 y3) (pelicanref13_Against.l0 (k + 1) y0 y1 y2 y3)) ∧ (∀ y0 y1 y2 y3 y4 y5, LeO (pelicanref13_Against.l1 k y0 y1 y2 y3 y4 y5) (pelicanref13_Against.l1 (k + 1) y0 y1 y2 y3 y4 y5))
  | 0 => ⟨fun _ _ _ r h => by simp [pelicanref13_Against.j0] at h, fun _ _ _ _ r h => by simp [pelicanref13_Against.l0] at h, fun _ _ _ _ _ _ r h => by simp [pelicanref13_Against.l1] at h⟩
  | k + 1 => by
    obtain ⟨ih0, ih1, ih2⟩ := pelicanref13_Against.mono_l k
    refine ⟨?_, ?_, ?_⟩
    · intro y0 y1 y2
      unfold pelicanref13_Against.j0
      repeat' first
      | (with_reducible exact ih0 _ _ _)
      | (with_reducible exact ih1 _ _ _ _)
      | (with_reducible exact ih2 _ _ _ _ _ _)
      | (with_reducible exact pelicanref13_In.mono _ _ _)
      | (with_reducible exact pelicanref13_May.mono _ _)
      | (with_reducible exact pelicanref13_pow.mono _ _)
      | (with_reducible exact LeO.refl _)
      | (with_reducible exact LeO.none _)
      | (with_reducible refine LeO.ite ?_ ?_)
      | (with_reducible refine LeO.bind ?_ (fun _ => ?_))
      | exact ih0 _ _ _
      | exact ih1 _ _ _ _
      | exact ih2 _ _ _ _ _ _
      | exact pelicanref13_In.mono _ _ _
      | exact pelicanref13_May.mono _ _
      | exact pelicanref13_pow.mono _ _
      | exact LeO.none _
      | refine LeO.ite ?_ ?_
      | refine LeO.bind ?_ (fun _ => ?_)
    · intro y0 y1 y2 y3
      unfold pelicanref13_Against.l0
      repeat' first
      | (with_reducible exact ih0 _ _ _)
      | (with_reducible exact ih1 _ _ _ _)
      | (with_reducible exact ih2 _ _ _ _ _ _)
      | (with_reducible exact pelicanref13_In.mono _ _ _)
      | (with_reducible exact pelicanref13_May.mono _ _)
      | (with_reducible exact pelicanref13_pow.mono _ _)
      | (with_reducible exact LeO.refl _)
      | (with_reducible exact LeO.none _)
      | (with_reducible refine LeO.ite ?_ ?_)
      | (with_reducible refine LeO.bind ?_ (fun _ => ?_))
      | exact ih0 _ _ _
      | exact ih1 _ _ _ _
      | exact ih2 _ _ _ _ _ _
      | exact pelicanref13_In.mono _ _ _
      | exact pelicanref13_May.mono _ _
      | exact pelicanref13_pow.mono _ _
      | exact LeO.none _
      | refine LeO.ite ?_ ?_
      | refine LeO.bind ?_ (fun _ => ?_)
    · intro y0 y1 y2 y3 y4 y5
      unfold pelicanref13_Against.l1
      repeat' first
      | (with_reducible exact ih0 _ _ _)
      | (with_reducible exact ih1 _ _ _ _)
      | (with_reducible exact ih2 _ _ _ _ _ _)
      | (with_reducible exact pelicanref13_In.mono _ _ _)
      | (with_reducible exact pelicanref13_May.mono _ _)
      | (with_reducible exact pelicanref13_pow.mono _ _)
      | (with_reducible exact LeO.refl _)
      | (with_reducible exact LeO.none _)
      | (with_reducible refine LeO.ite ?_ ?_)
      | (with_reducible refine LeO.bind ?_ (fun _ => ?_))
      | exact ih0 _ _ _
      | exact ih1 _ _ _ _
      | exact ih2 _ _ _ _ _ _
      | exact pelicanref13_In.mono _ _ _
      | exact pelicanref13_May.mono _ _
      | exact pelicanref13_pow.mono _ _
      | exact LeO.none _
      | refine LeO.ite ?_ ?_
      | refine LeO.bind ?_ (fun _ => ?_)
theorem pelicanref13_Against.mono : ∀ a0 a1 k, LeO (pelicanref13_Against.f k a0 a1) (pelicanref13_Against.f (k + 1) a0 a1) := by
  intro a0 a1 k
  obtain ⟨ih0, ih1, ih2⟩ := pelicanref13_Against.mono_l k
  unfold pelicanref13_Against.f
  repeat' first
      | (with_reducible exact ih0 _ _ _)
      | (with_reducible exact ih1 _ _ _ _)
      | (with_reducible exact ih2 _ _ _ _ _ _)
      | (with_reducible exact pelicanref13_In.mono _ _ _)
      | (with_reducible exact pelicanref13_May.mono _ _)
      | (with_reducible exact pelicanref13_pow.mono _ _)
      | (with_reducible exact LeO.refl _)
      | (with_reducible exact LeO.none _)
      | (with_reducible refine LeO.ite ?_ ?_)
      | (with_reducible refine LeO.bind ?_ (fun _ => ?_))
      | exact ih0 _ _ _
      | exact ih1 _ _ _ _
      | exact ih2 _ _ _ _ _ _
      | exact pelicanref13_In.mono _ _ _
      | exact pelicanref13_May.mono _ _
      | exact pelicanref13_pow.mono _ _
      | exact LeO.none _
      | refine LeO.ite ?_ ?_
      | refine LeO.bind ?_ (fun _ => ?_)
mutual
def pelicanref13_Of.l0 : Nat → List Int → Int → Int → Option (Int)
  | 0, _, _, _ => none
  | k + 1, x0, x3, x4 => if x4 < (x0.length : Int) then (if 0 ≤ x4 then (if (rd x0 x4) < 0 then (pelicanref13_Of.j1 k x0 x3 x4 true) else (pelicanref13_Of.j1 k x0 x3 x4 (decide ((rd x0 x4) > 7)))) else (none)) else (some x3)
def pelicanref13_Of.j1 : Nat → List Int → Int → Int → Bool → Option (Int)
  | 0, _, _, _, _ => none
  | k + 1, x0, x3, x4, x23 => if x23 = true then (some (-1)) else (if 0 ≤ x4 then (if x4 < (x0.length : Int) then ((pelicanref13_In.f k x3 (rd x0 x4)).bind fun t166 => (if t166 = true then (some (-1)) else ((pelicanref13_pow.f k (rd x0 x4)).bind fun t168 => (pelicanref13_Of.l0 k x0 (wrap64 (x3 + t168)) (wrap64 (x4 + 1)))))) else (none)) else (none))
end
def pelicanref13_Of.f (k : Nat) (l0 : List Int) : Option (Int) := pelicanref13_Of.l0 k l0 0 0
theorem pelicanref13_Of.mono_l : ∀ k, (∀ y0 y1 y2, LeO (pelicanref13_Of.l0 k y0 y1 y2) (pelicanref13_Of.l0 (k + 1) y0 y1 y2)) ∧ (∀ y0 y1 y2 y3, LeO (pelicanref13_Of.j1 k y0 y1 y2 y3) (pelicanref13_Of.j1 (k + 1) y0 y1 y2 y3))
  | 0 => ⟨fun _ _ _ r h => by simp [pelicanref13_Of.l0] at h, fun _ _ _ _ r h => by simp [pelicanref13_Of.j1] at h⟩
  | k + 1 => by
    obtain ⟨ih0, ih1⟩ := pelicanref13_Of.mono_l k
    refine ⟨?_, ?_⟩
    · intro y0 y1 y2
      unfold pelicanref13_Of.l0
      repeat' first
      | (with_reducible exact ih0 _ _ _)
      | (with_reducible exact ih1 _ _ _ _)
      | (with_reducible exact pelicanref13_In.mono _ _ _)
      | (with_reducible exact pelicanref13_pow.mono _ _)
      | (with_reducible exact LeO.refl _)
      | (with_reducible exact LeO.none _)
      | (with_reducible refine LeO.ite ?_ ?_)
      | (with_reducible refine LeO.bind ?_ (fun _ => ?_))
      | exact ih0 _ _ _
      | exact ih1 _ _ _ _
      | exact pelicanref13_In.mono _ _ _
      | exact pelicanref13_pow.mono _ _
      | exact LeO.none _
      | refine LeO.ite ?_ ?_
      | refine LeO.bind ?_ (fun _ => ?_)
    · intro y0 y1 y2 y3
      unfold pelicanref13_Of.j1
      repeat' first
      | (with_reducible exact ih0 _ _ _)
      | (with_reducible exact ih1 _ _ _ _)
      | (with_reducible exact pelicanref13_In.mono _ _ _)
      | (with_reducible exact pelicanref13_pow.mono _ _)
      | (with_reducible exact LeO.refl _)
      | (with_reducible exact LeO.none _)
      | (with_reducible refine LeO.ite ?_ ?_)
      | (with_reducible refine LeO.bind ?_ (fun _ => ?_))
      | exact ih0 _ _ _
      | exact ih1 _ _ _ _
      | exact pelicanref13_In.mono _ _ _
      | exact pelicanref13_pow.mono _ _
      | exact LeO.none _
      | refine LeO.ite ?_ ?_
      | refine LeO.bind ?_ (fun _ => ?_)
theorem pelicanref13_Of.mono : ∀ a0 k, LeO (pelicanref13_Of.f k a0) (pelicanref13_Of.f (k + 1) a0) := by
  intro a0 k
  obtain ⟨ih0, ih1⟩ := pelicanref13_Of.mono_l k
  unfold pelicanref13_Of.f
  repeat' first
      | (with_reducible exact ih0 _ _ _)
      | (with_reducible exact ih1 _ _ _ _)
      | (with_reducible exact pelicanref13_In.mono _ _ _)
      | (with_reducible exact pelicanref13_pow.mono _ _)
      | (with_reducible exact LeO.refl _)
      | (with_reducible exact LeO.none _)
      | (with_reducible refine LeO.ite ?_ ?_)
      | (with_reducible refine LeO.bind ?_ (fun _ => ?_))
      | exact ih0 _ _ _
      | exact ih1 _ _ _ _
      | exact pelicanref13_In.mono _ _ _
      | exact pelicanref13_pow.mono _ _
      | exact LeO.none _
      | refine LeO.ite ?_ ?_
      | refine LeO.bind ?_ (fun _ => ?_)
def pelicanlaw13_GroupTells.j0 : Nat → List Int → Int → List Int → Bool → Bool → Option (Bool)
  | 0, _, _, _, _, _ => none
  | k + 1, x0, x1, x2, x7, x24 => if x24 = true then (some x7) else ((pelicanref13_May.f k x0).bind fun t170 => ((pelicanref13_Free.f k x0 x1).bind fun t171 => ((group_Sets.f k x0).bind fun t172 => ((pelicanref13_Sets.f k x0).bind fun t175 => ((pelicanref05_Ints.f k t172 t175).bind fun t178 => ((group_List.f x1).bind fun t179 => ((pelicanref13_List.f k x1).bind fun t182 => ((pelicanref05_Ints.f k t179 t182).bind fun t185 => ((group_May.f x0).bind fun t186 => (if (t186 == t170) = true then ((group_Free.f x0 x1).bind fun t187 => (if (t187 == t171) = true then ((group_Against.f x0 x1).bind fun t188 => ((pelicanref13_Against.f k x0 x1).bind fun t189 => (if t188 = t189 then (if t178 = true then (if t185 = true then ((group_Of.f k x2).bind fun t190 => ((pelicanref13_Of.f k x2).bind fun t191 => (some (t190 == t191)))) else (some false)) else (some false)) else (some false)))) else (some false))) else (some false)))))))))))
def pelicanlaw13_GroupTells.f (k : Nat) (l0 : List Int) (a1 : Int) (l2 : List Int) : Option (Bool) := (pelicanlaw13_awake.f k).bind fun t169 => (if t169 = true then (if (l0.length : Int) > 10 then (pelicanlaw13_GroupTells.j0 k l0 a1 l2 t169 true) else (pelicanlaw13_GroupTells.j0 k l0 a1 l2 t169 (decide ((l2.length : Int) > 20)))) else (pelicanlaw13_GroupTells.j0 k l0 a1 l2 t169 true))
theorem pelicanlaw13_GroupTells.mono_l : ∀ k, (∀ y0 y1 y2 y3 y4, LeO (pelicanlaw13_GroupTells.j0 k y0 y1 y2 y3 y4) (pelicanlaw13_GroupTells.j0 (k + 1) y0 y1 y2 y3 y4))
  | 0 => fun _ _ _ _ _ r h => by simp [pelicanlaw13_GroupTells.j0] at h
  | k + 1 => by
    have ih0 := pelicanlaw13_GroupTells.mono_l k
    · intro y0 y1 y2 y3 y4
      unfold pelicanlaw13_GroupTells.j0
      repeat' first
      | (with_reducible exact ih0 _ _ _ _ _)
      | (with_reducible exact group_Of.mono _ _)
      | (with_reducible exact group_Sets.mono _ _)
      | (with_reducible exact pelicanlaw13_awake.mono _)
      | (with_reducible exact pelicanref05_Ints.mono _ _ _)
      | (with_reducible exact pelicanref13_Against.mono _ _ _)
      | (with_reducible exact pelicanref13_Free.mono _ _ _)
      | (with_reducible exact pelicanref13_List.mono _ _)
      | (with_reducible exact pelicanref13_May.mono _ _)
      | (with_reducible exact pelicanref13_Of.mono _ _)
      | (with_reducible exact pelicanref13_Sets.mono _ _)
      | (with_reducible exact LeO.refl _)
      | (with_reducible exact LeO.none _)
      | (with_reducible refine LeO.ite ?_ ?_)
      | (with_reducible refine LeO.bind ?_ (fun _ => ?_))
      | exact ih0 _ _ _ _ _
      | exact group_Of.mono _ _
      | exact group_Sets.mono _ _
      | exact pelicanlaw13_awake.mono _
      | exact pelicanref05_Ints.mono _ _ _
      | exact pelicanref13_Against.mono _ _ _
      | exact pelicanref13_Free.mono _ _ _
      | exact pelicanref13_List.mono _ _
      | exact pelicanref13_May.mono _ _
      | exact pelicanref13_Of.mono _ _
      | exact pelicanref13_Sets.mono _ _
      | exact LeO.none _
      | refine LeO.ite ?_ ?_
      | refine LeO.bind ?_ (fun _ => ?_)
theorem pelicanlaw13_GroupTells.mono : ∀ a0 a1 a2 k, LeO (pelicanlaw13_GroupTells.f k a0 a1 a2) (pelicanlaw13_GroupTells.f (k + 1) a0 a1 a2) := by
  intro a0 a1 a2 k
  have ih0 := pelicanlaw13_GroupTells.mono_l k
  unfold pelicanlaw13_GroupTells.f
  repeat' first
      | (with_reducible exact ih0 _ _ _ _ _)
      | (with_reducible exact group_Of.mono _ _)
      | (with_reducible exact group_Sets.mono _ _)
      | (with_reducible exact pelicanlaw13_awake.mono _)
      | (with_reducible exact pelicanref05_Ints.mono _ _ _)
      | (with_reducible exact pelicanref13_Against.mono _ _ _)
      | (with_reducible exact pelicanref13_Free.mono _ _ _)
      | (with_reducible exact pelicanref13_List.mono _ _)
      | (with_reducible exact pelicanref13_May.mono _ _)
      | (with_reducible exact pelicanref13_Of.mono _ _)
      | (with_reducible exact pelicanref13_Sets.mono _ _)
      | (with_reducible exact LeO.refl _)
      | (with_reducible exact LeO.none _)
      | (with_reducible refine LeO.ite ?_ ?_)
      | (with_reducible refine LeO.bind ?_ (fun _ => ?_))
      | exact ih0 _ _ _ _ _
      | exact group_Of.mono _ _
      | exact group_Sets.mono _ _
      | exact pelicanlaw13_awake.mono _
      | exact pelicanref05_Ints.mono _ _ _
      | exact pelicanref13_Against.mono _ _ _
      | exact pelicanref13_Free.mono _ _ _
      | exact pelicanref13_List.mono _ _
      | exact pelicanref13_May.mono _ _
      | exact pelicanref13_Of.mono _ _
      | exact pelicanref13_Sets.mono _ _
      | exact LeO.none _
      | refine LeO.ite ?_ ?_
      | refine LeO.bind ?_ (fun _ => ?_)
mutual
def pelicanlaw13_GroupBack.j0 : Nat → Int → List Int → Bool → Bool → Option (Bool)
  | 0, _, _, _, _ => none
  | k + 1, x0, x1, x5, x21 => if x21 = true then (some x5) else ((group_List.f x0).bind fun t193 => (pelicanlaw13_GroupBack.l0 k x0 x1 t193 1))
def pelicanlaw13_GroupBack.l0 : Nat → Int → List Int → List Int → Int → Option (Bool)
  | 0, _, _, _, _ => none
  | k + 1, x0, x1, x6, x7 => if x7 < (x6.length : Int) then (if 0 ≤ x7 then (if 0 ≤ (wrap64 (x7 - 1)) then (if (wrap64 (x7 - 1)) < (x6.length : Int) then (if (rd x6 x7) ≤ (rd x6 (wrap64 (x7 - 1))) then (some false) else (pelicanlaw13_GroupBack.l0 k x0 x1 x6 (wrap64 (x7 + 1)))) else (none)) else (none)) else (none)) else (if x0 ≥ 0 then (pelicanlaw13_GroupBack.j2 k x0 x1 x6 (decide (x0 < 256))) else (pelicanlaw13_GroupBack.j2 k x0 x1 x6 false))
def pelicanlaw13_GroupBack.j2 : Nat → Int → List Int → List Int → Bool → Option (Bool)
  | 0, _, _, _, _ => none
  | k + 1, x0, x1, x6, x8 => if x8 = true then ((group_Of.f k x6).bind fun t198 => (if t198 = x0 then (pelicanlaw13_GroupBack.j3 k x1 false) else (pelicanlaw13_GroupBack.j3 k x1 true))) else (pelicanlaw13_GroupBack.j3 k x1 ((x6.length : Int) != 0))
def pelicanlaw13_GroupBack.j3 : Nat → List Int → Bool → Option (Bool)
  | 0, _, _ => none
  | k + 1, x1, x62 => if x62 = true then (some false) else ((group_Of.f k x1).bind fun t199 => (if t199 = (-1) then (some (decide ((x1.length : Int) > 0))) else ((group_List.f t199).bind fun t200 => (pelicanlaw13_GroupBack.l1 k x1 t200 true 1))))
def pelicanlaw13_GroupBack.l1 : Nat → List Int → List Int → Bool → Int → Option (Bool)
  | 0, _, _, _, _ => none
  | k + 1, x1, x10, x11, x12 => if x12 < (x1.length : Int) then (if x11 = true then (if 0 ≤ x12 then (if 0 ≤ (wrap64 (x12 - 1)) then (if (wrap64 (x12 - 1)) < (x1.length : Int) then (pelicanlaw13_GroupBack.l1 k x1 x10 (decide ((rd x1 x12) > (rd x1 (wrap64 (x12 - 1))))) (wrap64 (x12 + 1))) else (none)) else (none)) else (none)) else (pelicanlaw13_GroupBack.l1 k x1 x10 false (wrap64 (x12 + 1)))) else ((pelicanref05_Ints.f k x10 x1).bind fun t205 => (if (x10.length : Int) = (x1.length : Int) then (some (t205 == x11)) else (some false)))
end
def pelicanlaw13_GroupBack.f (k : Nat) (a0 : Int) (l1 : List Int) : Option (Bool) := (pelicanlaw13_awake.f k).bind fun t192 => (if t192 = true then (pelicanlaw13_GroupBack.j0 k a0 l1 t192 (decide ((l1.length : Int) > 20))) else (pelicanlaw13_GroupBack.j0 k a0 l1 t192 true))
theorem pelicanlaw13_GroupBack.mono_l : ∀ k, (∀ y0 y1 y2 y3, LeO (pelicanlaw13_GroupBack.j0 k y0 y1 y2 y3) (pelicanlaw13_GroupBack.j0 (k + 1) y0 y1 y2 y3)) ∧ (∀ y0 y1 y2 y3, LeO (pelicanlaw13_GroupBack.l0 k y0 y1 y2 y3) (pelicanlaw13_GroupBack.l0 (k + 1) y0 y1 y2 y3)) ∧ (∀ y0 y1 y2 y3, LeO (pelicanlaw13_GroupBack.j2 k y0 y1 y2 y3) (pelicanlaw13_GroupBack.j2 (k + 1) y0 y1 y2 y3)) ∧ (∀ y0 y1, LeO (pelicanlaw13_GroupBack.j3 k y0 y1) (pelicanlaw13_GroupBack.j3 (k + 1) y0 y1)) ∧ (∀ y0 y1 y2 y3, LeO (pelicanlaw13_GroupBack.l1 k y0 y1 y2 y3) (pelicanlaw13_GroupBack.l1 (k + 1) y0 y1 y2 y3))
  | 0 => ⟨fun _ _ _ _ r h => by simp [pelicanlaw13_GroupBack.j0] at h, fun _ _ _ _ r h => by simp [pelicanlaw13_GroupBack.l0] at h, fun _ _ _ _ r h => by simp [pelicanlaw13_GroupBack.j2] at h, fun _ _ r h => by simp [pelicanlaw13_GroupBack.j3] at h, fun _ _ _ _ r h => by simp [pelicanlaw13_GroupBack.l1] at h⟩
  | k + 1 => by
    obtain ⟨ih0, ih1, ih2, ih3, ih4⟩ := pelicanlaw13_GroupBack.mono_l k
    refine ⟨?_, ?_, ?_, ?_, ?_⟩
    · intro y0 y1 y2 y3
      unfold pelicanlaw13_GroupBack.j0
      repeat' first
      | (with_reducible exact ih0 _ _ _ _)
      | (with_reducible exact ih1 _ _ _ _)
      | (with_reducible exact ih2 _ _ _ _)
      | (with_reducible exact ih3 _ _)
      | (with_reducible exact ih4 _ _ _ _)
      | (with_reducible exact group_Of.mono _ _)
      | (with_reducible exact pelicanlaw13_awake.mono _)
      | (with_reducible exact pelicanref05_Ints.mono _ _ _)
      | (with_reducible exact LeO.refl _)
      | (with_reducible exact LeO.none _)
      | (with_reducible refine LeO.ite ?_ ?_)
      | (with_reducible refine LeO.bind ?_ (fun _ => ?_))
      | exact ih0 _ _ _ _
      | exact ih1 _ _ _ _
      | exact ih2 _ _ _ _
      | exact ih3 _ _
      | exact ih4 _ _ _ _
      | exact group_Of.mono _ _
      | exact pelicanlaw13_awake.mono _
      | exact pelicanref05_Ints.mono _ _ _
      | exact LeO.none _
      | refine LeO.ite ?_ ?_
      | refine LeO.bind ?_ (fun _ => ?_)
    · intro y0 y1 y2 y3
      unfold pelicanlaw13_GroupBack.l0
      repeat' first
      | (with_reducible exact ih0 _ _ _ _)
      | (with_reducible exact ih1 _ _ _ _)
      | (with_reducible exact ih2 _ _ _ _)
      | (with_reducible exact ih3 _ _)
      | (with_reducible exact ih4 _ _ _ _)
      | (with_reducible exact group_Of.mono _ _)
      | (with_reducible exact pelicanlaw13_awake.mono _)
      | (with_reducible exact pelicanref05_Ints.mono _ _ _)
      | (with_reducible exact LeO.refl _)
      | (with_reducible exact LeO.none _)
      | (with_reducible refine LeO.ite ?_ ?_)
      | (with_reducible refine LeO.bind ?_ (fun _ => ?_))
      | exact ih0 _ _ _ _
      | exact ih1 _ _ _ _
      | exact ih2 _ _ _ _
      | exact ih3 _ _
      | exact ih4 _ _ _ _
      | exact group_Of.mono _ _
      | exact pelicanlaw13_awake.mono _
      | exact pelicanref05_Ints.mono _ _ _
      | exact LeO.none _
      | refine LeO.ite ?_ ?_
      | refine LeO.bind ?_ (fun _ => ?_)
    · intro y0 y1 y2 y3
      unfold pelicanlaw13_GroupBack.j2
      repeat' first
      | (with_reducible exact ih0 _ _ _ _)
      | (with_reducible exact ih1 _ _ _ _)
      | (with_reducible exact ih2 _ _ _ _)
      | (with_reducible exact ih3 _ _)
      | (with_reducible exact ih4 _ _ _ _)
      | (with_reducible exact group_Of.mono _ _)
      | (with_reducible exact pelicanlaw13_awake.mono _)
      | (with_reducible exact pelicanref05_Ints.mono _ _ _)
      | (with_reducible exact LeO.refl _)
      | (with_reducible exact LeO.none _)
      | (with_reducible refine LeO.ite ?_ ?_)
      | (with_reducible refine LeO.bind ?_ (fun _ => ?_))
      | exact ih0 _ _ _ _
      | exact ih1 _ _ _ _
      | exact ih2 _ _ _ _
      | exact ih3 _ _
      | exact ih4 _ _ _ _
      | exact group_Of.mono _ _
      | exact pelicanlaw13_awake.mono _
      | exact pelicanref05_Ints.mono _ _ _
      | exact LeO.none _
      | refine LeO.ite ?_ ?_
      | refine LeO.bind ?_ (fun _ => ?_)
    · intro y0 y1
      unfold pelicanlaw13_GroupBack.j3
      repeat' first
      | (with_reducible exact ih0 _ _ _ _)
      | (with_reducible exact ih1 _ _ _ _)
      | (with_reducible exact ih2 _ _ _ _)
      | (with_reducible exact ih3 _ _)
      | (with_reducible exact ih4 _ _ _ _)
      | (with_reducible exact group_Of.mono _ _)
      | (with_reducible exact pelicanlaw13_awake.mono _)
      | (with_reducible exact pelicanref05_Ints.mono _ _ _)
      | (with_reducible exact LeO.refl _)
      | (with_reducible exact LeO.none _)
      | (with_reducible refine LeO.ite ?_ ?_)
      | (with_reducible refine LeO.bind ?_ (fun _ => ?_))
      | exact ih0 _ _ _ _
      | exact ih1 _ _ _ _
      | exact ih2 _ _ _ _
      | exact ih3 _ _
      | exact ih4 _ _ _ _
      | exact group_Of.mono _ _
      | exact pelicanlaw13_awake.mono _
      | exact pelicanref05_Ints.mono _ _ _
      | exact LeO.none _
      | refine LeO.ite ?_ ?_
      | refine LeO.bind ?_ (fun _ => ?_)
    · intro y0 y1 y2 y3
      unfold pelicanlaw13_GroupBack.l1
      repeat' first
      | (with_reducible exact ih0 _ _ _ _)
      | (with_reducible exact ih1 _ _ _ _)
      | (with_reducible exact ih2 _ _ _ _)
      | (with_reducible exact ih3 _ _)
      | (with_reducible exact ih4 _ _ _ _)
      | (with_reducible exact group_Of.mono _ _)
      | (with_reducible exact pelicanlaw13_awake.mono _)
      | (with_reducible exact pelicanref05_Ints.mono _ _ _)
      | (with_reducible exact LeO.refl _)
      | (with_reducible exact LeO.none _)
      | (with_reducible refine LeO.ite ?_ ?_)
      | (with_reducible refine LeO.bind ?_ (fun _ => ?_))
      | exact ih0 _ _ _ _
      | exact ih1 _ _ _ _
      | exact ih2 _ _ _ _
      | exact ih3 _ _
      | exact ih4 _ _ _ _
      | exact group_Of.mono _ _
      | exact pelicanlaw13_awake.mono _
      | exact pelicanref05_Ints.mono _ _ _
      | exact LeO.none _
      | refine LeO.ite ?_ ?_
      | refine LeO.bind ?_ (fun _ => ?_)
theorem pelicanlaw13_GroupBack.mono : ∀ a0 a1 k, LeO (pelicanlaw13_GroupBack.f k a0 a1) (pelicanlaw13_GroupBack.f (k + 1) a0 a1) := by
  intro a0 a1 k
  obtain ⟨ih0, ih1, ih2, ih3, ih4⟩ := pelicanlaw13_GroupBack.mono_l k
  unfold pelicanlaw13_GroupBack.f
  repeat' first
      | (with_reducible exact ih0 _ _ _ _)
      | (with_reducible exact ih1 _ _ _ _)
      | (with_reducible exact ih2 _ _ _ _)
      | (with_reducible exact ih3 _ _)
      | (with_reducible exact ih4 _ _ _ _)
      | (with_reducible exact group_Of.mono _ _)
      | (with_reducible exact pelicanlaw13_awake.mono _)
      | (with_reducible exact pelicanref05_Ints.mono _ _ _)
      | (with_reducible exact LeO.refl _)
      | (with_reducible exact LeO.none _)
      | (with_reducible refine LeO.ite ?_ ?_)
      | (with_reducible refine LeO.bind ?_ (fun _ => ?_))
      | exact ih0 _ _ _ _
      | exact ih1 _ _ _ _
      | exact ih2 _ _ _ _
      | exact ih3 _ _
      | exact ih4 _ _ _ _
      | exact group_Of.mono _ _
      | exact pelicanlaw13_awake.mono _
      | exact pelicanref05_Ints.mono _ _ _
      | exact LeO.none _
      | refine LeO.ite ?_ ?_
      | refine LeO.bind ?_ (fun _ => ?_)
def pelicanlaw13_GroupAgainst.j0 : Nat → List Int → Int → Int → Int → Bool → Bool → Option (Bool)
  | 0, _, _, _, _, _, _ => none
  | k + 1, x0, x1, x2, x3, x9, x46 => if x46 = true then (some x9) else ((group_Against.f x0 x1).bind fun t208 => (if t208 < 0 then (if t208 = (-1) then ((group_Free.f x0 x1).bind fun t209 => (if t209 = true then (some false) else (if x1 < 0 then (some true) else (some (decide (x1 ≥ (shl .i64 1 (x0.length : Int)))))))) else (some false)) else (if 0 ≤ x2 then ((group_Against.f x0 (shl .i64 1 x2)).bind fun t210 => (if 0 ≤ x3 then ((group_Against.f x0 (shl .i64 1 x3)).bind fun t211 => ((group_Against.f x0 (Go.bits .or .i64 x1 (shl .i64 1 x2))).bind fun t212 => ((group_Free.f x0 x1).bind fun t213 => (if (t213 == ((Go.bits .and .i64 t208 x1) == 0)) = true then (if t212 = (Go.bits .or .i64 t208 t210) then (if (((Go.bits .and .i64 (shr .i64 t210 x3) 1) == 1) == ((Go.bits .and .i64 (shr .i64 t211 x2) 1) == 1)) = true then (some ((Go.bits .and .i64 (shr .i64 t210 x2) 1) == 0)) else (some false)) else (some false)) else (some false))))) else (none))) else (none))))
def pelicanlaw13_GroupAgainst.f (k : Nat) (l0 : List Int) (a1 : Int) (a2 : Int) (a3 : Int) : Option (Bool) := (pelicanlaw13_awake.f k).bind fun t206 => (if t206 = true then (if (l0.length : Int) > 10 then (pelicanlaw13_GroupAgainst.j0 k l0 a1 a2 a3 t206 true) else ((group_May.f l0).bind fun t207 => (if t207 = true then (if a2 < 0 then (pelicanlaw13_GroupAgainst.j0 k l0 a1 a2 a3 t206 true) else (if a3 < 0 then (pelicanlaw13_GroupAgainst.j0 k l0 a1 a2 a3 t206 true) else (if a2 ≥ (l0.length : Int) then (pelicanlaw13_GroupAgainst.j0 k l0 a1 a2 a3 t206 true) else (pelicanlaw13_GroupAgainst.j0 k l0 a1 a2 a3 t206 (decide (a3 ≥ (l0.length : Int))))))) else (pelicanlaw13_GroupAgainst.j0 k l0 a1 a2 a3 t206 true)))) else (pelicanlaw13_GroupAgainst.j0 k l0 a1 a2 a3 t206 true))
theorem pelicanlaw13_GroupAgainst.mono_l : ∀ k, (∀ y0 y1 y2 y3 y4 y5, LeO (pelicanlaw13_GroupAgainst.j0 k y0 y1 y2 y3 y4 y5) (pelicanlaw13_GroupAgainst.j0 (k + 1) y0 y1 y2 y3 y4 y5))
  | 0 => fun _ _ _ _ _ _ r h => by simp [pelicanlaw13_GroupAgainst.j0] at h
  | k + 1 => by
    have ih0 := pelicanlaw13_GroupAgainst.mono_l k
    · intro y0 y1 y2 y3 y4 y5
      unfold pelicanlaw13_GroupAgainst.j0
      repeat' first
      | (with_reducible exact ih0 _ _ _ _ _ _)
      | (with_reducible exact pelicanlaw13_awake.mono _)
      | (with_reducible exact LeO.refl _)
      | (with_reducible exact LeO.none _)
      | (with_reducible refine LeO.ite ?_ ?_)
      | (with_reducible refine LeO.bind ?_ (fun _ => ?_))
      | exact ih0 _ _ _ _ _ _
      | exact pelicanlaw13_awake.mono _
      | exact LeO.none _
      | refine LeO.ite ?_ ?_
      | refine LeO.bind ?_ (fun _ => ?_)
theorem pelicanlaw13_GroupAgainst.mono : ∀ a0 a1 a2 a3 k, LeO (pelicanlaw13_GroupAgainst.f k a0 a1 a2 a3) (pelicanlaw13_GroupAgainst.f (k + 1) a0 a1 a2 a3) := by
  intro a0 a1 a2 a3 k
  have ih0 := pelicanlaw13_GroupAgainst.mono_l k
  unfold pelicanlaw13_GroupAgainst.f
  repeat' first
      | (with_reducible exact ih0 _ _ _ _ _ _)
      | (with_reducible exact pelicanlaw13_awake.mono _)
      | (with_reducible exact LeO.refl _)
      | (with_reducible exact LeO.none _)
      | (with_reducible refine LeO.ite ?_ ?_)
      | (with_reducible refine LeO.bind ?_ (fun _ => ?_))
      | exact ih0 _ _ _ _ _ _
      | exact pelicanlaw13_awake.mono _
      | exact LeO.none _
      | refine LeO.ite ?_ ?_
      | refine LeO.bind ?_ (fun _ => ?_)
mutual
def pelicanlaw13_GroupSets.j0 : Nat → List Int → Int → Int → Bool → Bool → Option (Bool)
  | 0, _, _, _, _, _ => none
  | k + 1, x0, x1, x2, x7, x17 => if x17 = true then (some x7) else ((group_Sets.f k x0).bind fun t215 => ((group_May.f x0).bind fun t218 => (if t218 = true then (if (t215.length : Int) = 0 then (pelicanlaw13_GroupSets.j1 k x0 x1 x2 t215 true) else (if x1 < 0 then (pelicanlaw13_GroupSets.j1 k x0 x1 x2 t215 true) else (if x1 ≥ (t215.length : Int) then (pelicanlaw13_GroupSets.j1 k x0 x1 x2 t215 true) else (if x2 < 0 then (pelicanlaw13_GroupSets.j1 k x0 x1 x2 t215 true) else (pelicanlaw13_GroupSets.j1 k x0 x1 x2 t215 (decide (x2 ≥ (x0.length : Int)))))))) else (some ((t215.length : Int) == 0)))))
def pelicanlaw13_GroupSets.j1 : Nat → List Int → Int → Int → List Int → Bool → Option (Bool)
  | 0, _, _, _, _, _ => none
  | k + 1, x0, x1, x2, x8, x49 => if x49 = true then (some (decide ((x8.length : Int) > 0))) else (if 0 ≤ x1 then (if x1 < (x8.length : Int) then ((group_Free.f x0 (rd x8 x1)).bind fun t220 => (if t220 = true then (if 0 ≤ x2 then (if (Go.bits .and .i64 (shr .i64 (rd x8 x1) x2) 1) = 1 then (if x1 = 0 then (some true) else (if 0 ≤ (wrap64 (x1 - 1)) then (if (wrap64 (x1 - 1)) < (x8.length : Int) then (some (decide ((rd x8 (wrap64 (x1 - 1))) < (rd x8 x1)))) else (none)) else (none))) else ((group_Free.f x0 (Go.bits .or .i64 (rd x8 x1) (shl .i64 1 x2))).bind fun t222 => (if t222 = true then (some false) else (if x1 = 0 then (some true) else (if 0 ≤ (wrap64 (x1 - 1)) then (if (wrap64 (x1 - 1)) < (x8.length : Int) then (some (decide ((rd x8 (wrap64 (x1 - 1))) < (rd x8 x1)))) else (none)) else (none)))))) else (none)) else (some false))) else (none)) else (none))
end
def pelicanlaw13_GroupSets.f (k : Nat) (l0 : List Int) (a1 : Int) (a2 : Int) : Option (Bool) := (pelicanlaw13_awake.f k).bind fun t214 => (if t214 = true then (pelicanlaw13_GroupSets.j0 k l0 a1 a2 t214 (decide ((l0.length : Int) > 10))) else (pelicanlaw13_GroupSets.j0 k l0 a1 a2 t214 true))
theorem pelicanlaw13_GroupSets.mono_l : ∀ k, (∀ y0 y1 y2 y3 y4, LeO (pelicanlaw13_GroupSets.j0 k y0 y1 y2 y3 y4) (pelicanlaw13_GroupSets.j0 (k + 1) y0 y1 y2 y3 y4)) ∧ (∀ y0 y1 y2 y3 y4, LeO (pelicanlaw13_GroupSets.j1 k y0 y1 y2 y3 y4) (pelicanlaw13_GroupSets.j1 (k + 1) y0 y1 y2 y3 y4))
  | 0 => ⟨fun _ _ _ _ _ r h => by simp [pelicanlaw13_GroupSets.j0] at h, fun _ _ _ _ _ r h => by simp [pelicanlaw13_GroupSets.j1] at h⟩
  | k + 1 => by
    obtain ⟨ih0, ih1⟩ := pelicanlaw13_GroupSets.mono_l k
    refine ⟨?_, ?_⟩
    · intro y0 y1 y2 y3 y4
      unfold pelicanlaw13_GroupSets.j0
      repeat' first
      | (with_reducible exact ih0 _ _ _ _ _)
      | (with_reducible exact ih1 _ _ _ _ _)
      | (with_reducible exact group_Sets.mono _ _)
      | (with_reducible exact pelicanlaw13_awake.mono _)
      | (with_reducible exact LeO.refl _)
      | (with_reducible exact LeO.none _)
      | (with_reducible refine LeO.ite ?_ ?_)
      | (with_reducible refine LeO.bind ?_ (fun _ => ?_))
      | exact ih0 _ _ _ _ _
      | exact ih1 _ _ _ _ _
      | exact group_Sets.mono _ _
      | exact pelicanlaw13_awake.mono _
      | exact LeO.none _
      | refine LeO.ite ?_ ?_
      | refine LeO.bind ?_ (fun _ => ?_)
    · intro y0 y1 y2 y3 y4
      unfold pelicanlaw13_GroupSets.j1
      repeat' first
      | (with_reducible exact ih0 _ _ _ _ _)
      | (with_reducible exact ih1 _ _ _ _ _)
      | (with_reducible exact group_Sets.mono _ _)
      | (with_reducible exact pelicanlaw13_awake.mono _)
      | (with_reducible exact LeO.refl _)
      | (with_reducible exact LeO.none _)
      | (with_reducible refine LeO.ite ?_ ?_)
      | (with_reducible refine LeO.bind ?_ (fun _ => ?_))
      | exact ih0 _ _ _ _ _
      | exact ih1 _ _ _ _ _
      | exact group_Sets.mono _ _
      | exact pelicanlaw13_awake.mono _
      | exact LeO.none _
      | refine LeO.ite ?_ ?_
      | refine LeO.bind ?_ (fun _ => ?_)
theorem pelicanlaw13_GroupSets.mono : ∀ a0 a1 a2 k, LeO (pelicanlaw13_GroupSets.f k a0 a1 a2) (pelicanlaw13_GroupSets.f (k + 1) a0 a1 a2) := by
  intro a0 a1 a2 k
  obtain ⟨ih0, ih1⟩ := pelicanlaw13_GroupSets.mono_l k
  unfold pelicanlaw13_GroupSets.f
  repeat' first
      | (with_reducible exact ih0 _ _ _ _ _)
      | (with_reducible exact ih1 _ _ _ _ _)
      | (with_reducible exact group_Sets.mono _ _)
      | (with_reducible exact pelicanlaw13_awake.mono _)
      | (with_reducible exact LeO.refl _)
      | (with_reducible exact LeO.none _)
      | (with_reducible refine LeO.ite ?_ ?_)
      | (with_reducible refine LeO.bind ?_ (fun _ => ?_))
      | exact ih0 _ _ _ _ _
      | exact ih1 _ _ _ _ _
      | exact group_Sets.mono _ _
      | exact pelicanlaw13_awake.mono _
      | exact LeO.none _
      | refine LeO.ite ?_ ?_
      | refine LeO.bind ?_ (fun _ => ?_)
mutual
def pelicanlaw13_GroupPart.j0 : Nat → List Int → Int → Int → Bool → Bool → Option (Bool)
  | 0, _, _, _, _, _ => none
  | k + 1, x0, x1, x2, x7, x24 => if x24 = true then (some x7) else ((group_Sets.f k x0).bind fun t226 => (pelicanlaw13_GroupPart.l0 k x0 x1 x2 t226 false 0))
def pelicanlaw13_GroupPart.l0 : Nat → List Int → Int → Int → List Int → Bool → Int → Option (Bool)
  | 0, _, _, _, _, _, _ => none
  | k + 1, x0, x1, x2, x8, x9, x10 => if x10 < (x8.length : Int) then (if x9 = true then (pelicanlaw13_GroupPart.l0 k x0 x1 x2 x8 true (wrap64 (x10 + 1))) else (if 0 ≤ x10 then (pelicanlaw13_GroupPart.l0 k x0 x1 x2 x8 ((Go.bits .and .i64 (rd x8 x10) x1) == x1) (wrap64 (x10 + 1))) else (none))) else (if x9 = true then (if x2 < 0 then (some true) else (if (Go.bits .and .i64 x2 x1) = x2 then ((group_Free.f x0 x2).bind fun t230 => (some t230)) else (some true))) else (some false))
end
def pelicanlaw13_GroupPart.f (k : Nat) (l0 : List Int) (a1 : Int) (a2 : Int) : Option (Bool) := (pelicanlaw13_awake.f k).bind fun t224 => (if t224 = true then (if (l0.length : Int) > 10 then (pelicanlaw13_GroupPart.j0 k l0 a1 a2 t224 true) else ((group_Free.f l0 a1).bind fun t225 => (pelicanlaw13_GroupPart.j0 k l0 a1 a2 t224 (!t225)))) else (pelicanlaw13_GroupPart.j0 k l0 a1 a2 t224 true))
theorem pelicanlaw13_GroupPart.mono_l : ∀ k, (∀ y0 y1 y2 y3 y4, LeO (pelicanlaw13_GroupPart.j0 k y0 y1 y2 y3 y4) (pelicanlaw13_GroupPart.j0 (k + 1) y0 y1 y2 y3 y4)) ∧ (∀ y0 y1 y2 y3 y4 y5, LeO (pelicanlaw13_GroupPart.l0 k y0 y1 y2 y3 y4 y5) (pelicanlaw13_GroupPart.l0 (k + 1) y0 y1 y2 y3 y4 y5))
  | 0 => ⟨fun _ _ _ _ _ r h => by simp [pelicanlaw13_GroupPart.j0] at h, fun _ _ _ _ _ _ r h => by simp [pelicanlaw13_GroupPart.l0] at h⟩
  | k + 1 => by
    obtain ⟨ih0, ih1⟩ := pelicanlaw13_GroupPart.mono_l k
    refine ⟨?_, ?_⟩
    · intro y0 y1 y2 y3 y4
      unfold pelicanlaw13_GroupPart.j0
      repeat' first
      | (with_reducible exact ih0 _ _ _ _ _)
      | (with_reducible exact ih1 _ _ _ _ _ _)
      | (with_reducible exact group_Sets.mono _ _)
      | (with_reducible exact pelicanlaw13_awake.mono _)
      | (with_reducible exact LeO.refl _)
      | (with_reducible exact LeO.none _)
      | (with_reducible refine LeO.ite ?_ ?_)
      | (with_reducible refine LeO.bind ?_ (fun _ => ?_))
      | exact ih0 _ _ _ _ _
      | exact ih1 _ _ _ _ _ _
      | exact group_Sets.mono _ _
      | exact pelicanlaw13_awake.mono _
      | exact LeO.none _
      | refine LeO.ite ?_ ?_
      | refine LeO.bind ?_ (fun _ => ?_)
    · intro y0 y1 y2 y3 y4 y5
      unfold pelicanlaw13_GroupPart.l0
      repeat' first
      | (with_reducible exact ih0 _ _ _ _ _)
      | (with_reducible exact ih1 _ _ _ _ _ _)
      | (with_reducible exact group_Sets.mono _ _)
      | (with_reducible exact pelicanlaw13_awake.mono _)
      | (with_reducible exact LeO.refl _)
      | (with_reducible exact LeO.none _)
      | (with_reducible refine LeO.ite ?_ ?_)
      | (with_reducible refine LeO.bind ?_ (fun _ => ?_))
      | exact ih0 _ _ _ _ _
      | exact ih1 _ _ _ _ _ _
      | exact group_Sets.mono _ _
      | exact pelicanlaw13_awake.mono _
      | exact LeO.none _
      | refine LeO.ite ?_ ?_
      | refine LeO.bind ?_ (fun _ => ?_)
theorem pelicanlaw13_GroupPart.mono : ∀ a0 a1 a2 k, LeO (pelicanlaw13_GroupPart.f k a0 a1 a2) (pelicanlaw13_GroupPart.f (k + 1) a0 a1 a2) := by
  intro a0 a1 a2 k
  obtain ⟨ih0, ih1⟩ := pelicanlaw13_GroupPart.mono_l k
  unfold pelicanlaw13_GroupPart.f
  repeat' first
      | (with_reducible exact ih0 _ _ _ _ _)
      | (with_reducible exact ih1 _ _ _ _ _ _)
      | (with_reducible exact group_Sets.mono _ _)
      | (with_reducible exact pelicanlaw13_awake.mono _)
      | (with_reducible exact LeO.refl _)
      | (with_reducible exact LeO.none _)
      | (with_reducible refine LeO.ite ?_ ?_)
      | (with_reducible refine LeO.bind ?_ (fun _ => ?_))
      | exact ih0 _ _ _ _ _
      | exact ih1 _ _ _ _ _ _
      | exact group_Sets.mono _ _
      | exact pelicanlaw13_awake.mono _
      | exact LeO.none _
      | refine LeO.ite ?_ ?_
      | refine LeO.bind ?_ (fun _ => ?_)
def plan_in.f (a0 : Int) (a1 : Int) (a2 : Int) : Option (Bool) := if a0 ≥ a1 then (some (decide (a0 ≤ a2))) else (some false)
def plan_draft_times.f (l0_0 : List Int) (l0_1 : List (S47)) (a0_2 : Int) (a0_3 : Int) (a0_4 : Int) : Option (Bool) := (plan_in.f a0_2 1 200).bind fun t233 => (if t233 = true then ((plan_in.f a0_3 1 200).bind fun t234 => (if t234 = true then ((plan_in.f a0_4 0 300).bind fun t235 => (some t235)) else (some false))) else (some false))
def slices_Equal_int_int.l0 : Nat → List Int → List Int → Int → Int → Option (Bool)
  | 0, _, _, _, _ => none
  | k + 1, x0, x1, x12, x13 => if x13 < x12 then (if 0 ≤ x13 then (if x13 < (x0.length : Int) then (if x13 < (x1.length : Int) then (if (rd x0 x13) = (rd x1 x13) then (slices_Equal_int_int.l0 k x0 x1 x12 (wrap64 (x13 + 1))) else (some false)) else (none)) else (none)) else (none)) else (some true)
def slices_Equal_int_int.f (k : Nat) (l0 : List Int) (l1 : List Int) : Option (Bool) := if (l0.length : Int) = (l1.length : Int) then (slices_Equal_int_int.l0 k l0 l1 (l0.length : Int) 0) else (some false)
theorem slices_Equal_int_int.mono_l : ∀ k, (∀ y0 y1 y2 y3, LeO (slices_Equal_int_int.l0 k y0 y1 y2 y3) (slices_Equal_int_int.l0 (k + 1) y0 y1 y2 y3))
  | 0 => fun _ _ _ _ r h => by simp [slices_Equal_int_int.l0] at h
  | k + 1 => by
    have ih0 := slices_Equal_int_int.mono_l k
    · intro y0 y1 y2 y3
      unfold slices_Equal_int_int.l0
      repeat' first
      | (with_reducible exact ih0 _ _ _ _)
      | (with_reducible exact LeO.refl _)
      | (with_reducible exact LeO.none _)
      | (with_reducible refine LeO.ite ?_ ?_)
      | (with_reducible refine LeO.bind ?_ (fun _ => ?_))
      | exact ih0 _ _ _ _
      | exact LeO.none _
      | refine LeO.ite ?_ ?_
      | refine LeO.bind ?_ (fun _ => ?_)
theorem slices_Equal_int_int.mono : ∀ a0 a1 k, LeO (slices_Equal_int_int.f k a0 a1) (slices_Equal_int_int.f (k + 1) a0 a1) := by
  intro a0 a1 k
  have ih0 := slices_Equal_int_int.mono_l k
  unfold slices_Equal_int_int.f
  repeat' first
      | (with_reducible exact ih0 _ _ _ _)
      | (with_reducible exact LeO.refl _)
      | (with_reducible exact LeO.none _)
      | (with_reducible refine LeO.ite ?_ ?_)
      | (with_reducible refine LeO.bind ?_ (fun _ => ?_))
      | exact ih0 _ _ _ _
      | exact LeO.none _
      | refine LeO.ite ?_ ?_
      | refine LeO.bind ?_ (fun _ => ?_)
def api_Stage.l0 : Nat → List (S47) → List (S47) → Int → Int → Option (Bool)
  | 0, _, _, _, _ => none
  | k + 1, x0, x1, x12, x13 => if x13 < x12 then (if 0 ≤ x13 then (if x13 < (x0.length : Int) then (if x13 < (x1.length : Int) then (if (!(((rd_T47 x0 x13).f0) == ((rd_T47 x1 x13).f0)) || (!(((rd_T47 x0 x13).f1) == ((rd_T47 x1 x13).f1)) || (!(((rd_T47 x0 x13).f2) == ((rd_T47 x1 x13).f2))))) = true then (some false) else (api_Stage.l0 k x0 x1 x12 (wrap64 (x13 + 1)))) else (none)) else (none)) else (none)) else (some true)
def api_Stage.f (k : Nat) (l0 : List (S47)) (l1 : List (S47)) : Option (Bool) := if (l0.length : Int) = (l1.length : Int) then (api_Stage.l0 k l0 l1 (l0.length : Int) 0) else (some false)
theorem api_Stage.mono_l : ∀ k, (∀ y0 y1 y2 y3, LeO (api_Stage.l0 k y0 y1 y2 y3) (api_Stage.l0 (k + 1) y0 y1 y2 y3))
  | 0 => fun _ _ _ _ r h => by simp [api_Stage.l0] at h
  | k + 1 => by
    have ih0 := api_Stage.mono_l k
    · intro y0 y1 y2 y3
      unfold api_Stage.l0
      repeat' first
      | (with_reducible exact ih0 _ _ _ _)
      | (with_reducible exact LeO.refl _)
      | (with_reducible exact LeO.none _)
      | (with_reducible refine LeO.ite ?_ ?_)
      | (with_reducible refine LeO.bind ?_ (fun _ => ?_))
      | exact ih0 _ _ _ _
      | exact LeO.none _
      | refine LeO.ite ?_ ?_
      | refine LeO.bind ?_ (fun _ => ?_)
theorem api_Stage.mono : ∀ a0 a1 k, LeO (api_Stage.f k a0 a1) (api_Stage.f (k + 1) a0 a1) := by
  intro a0 a1 k
  have ih0 := api_Stage.mono_l k
  unfold api_Stage.f
  repeat' first
      | (with_reducible exact ih0 _ _ _ _)
      | (with_reducible exact LeO.refl _)
      | (with_reducible exact LeO.none _)
      | (with_reducible refine LeO.ite ?_ ?_)
      | (with_reducible refine LeO.bind ?_ (fun _ => ?_))
      | exact ih0 _ _ _ _
      | exact LeO.none _
      | refine LeO.ite ?_ ?_
      | refine LeO.bind ?_ (fun _ => ?_)
def plan_Same.f (k : Nat) (l0_0 : List Int) (l0_1 : List (S47)) (a0_2 : Int) (a0_3 : Int) (a0_4 : Int) (l1_0 : List Int) (l1_1 : List (S47)) (a1_2 : Int) (a1_3 : Int) (a1_4 : Int) : Option (Bool) := (slices_Equal_int_int.f k l0_0 l1_0).bind fun t244 => (if t244 = true then ((api_Stage.f k l0_1 l1_1).bind fun t245 => (if t245 = true then (if a0_2 = a1_2 then (if a0_3 = a1_3 then (some (a0_4 == a1_4)) else (some false)) else (some false)) else (some false))) else (some false))
theorem plan_Same.mono : ∀ a0 a1 a2 a3 a4 a5 a6 a7 a8 a9 k, LeO (plan_Same.f k a0 a1 a2 a3 a4 a5 a6 a7 a8 a9) (plan_Same.f (k + 1) a0 a1 a2 a3 a4 a5 a6 a7 a8 a9) := by
  intro a0 a1 a2 a3 a4 a5 a6 a7 a8 a9 k
  unfold plan_Same.f
  repeat' first
      | (with_reducible exact api_Stage.mono _ _ _)
      | (with_reducible exact slices_Equal_int_int.mono _ _ _)
      | (with_reducible exact LeO.refl _)
      | (with_reducible exact LeO.none _)
      | (with_reducible refine LeO.ite ?_ ?_)
      | (with_reducible refine LeO.bind ?_ (fun _ => ?_))
      | exact api_Stage.mono _ _ _
      | exact slices_Equal_int_int.mono _ _ _
      | exact LeO.none _
      | refine LeO.ite ?_ ?_
      | refine LeO.bind ?_ (fun _ => ?_)
def pelicanlaw14_Two.f  : Option (List Int × (List (S47)) × Int × Int × Int) := some ((([2, 1] : List Int)), (([(⟨1, 5, 9⟩ : S47), (⟨2, 7, 8⟩ : S47)] : List (S47))), 3, 2, 4)
def pelicanlaw14_Few.f (l0_0 : List Int) (l0_1 : List (S47)) (a0_2 : Int) (a0_3 : Int) (a0_4 : Int) : Option (Bool) := if (l0_0.length : Int) ≤ 10 then (some (decide ((l0_1.length : Int) ≤ 10))) else (some false)
mutual
def pelicanlaw14_FewAll.l0 : Nat → List (S37) → Int → Option (Bool)
  | 0, _, _ => none
  | k + 1, x0, x3 => if x3 < (x0.length : Int) then (pelicanlaw14_FewAll.j1 k x0 x3 (decide (x3 ≤ 5))) else (pelicanlaw14_FewAll.j1 k x0 x3 false)
def pelicanlaw14_FewAll.j1 : Nat → List (S37) → Int → Bool → Option (Bool)
  | 0, _, _, _ => none
  | k + 1, x0, x3, x12 => if x12 = true then (if 0 ≤ x3 then (if x3 < (x0.length : Int) then ((pelicanlaw14_Few.f ((rd_T37 x0 x3).f0) ((rd_T37 x0 x3).f1) ((rd_T37 x0 x3).f2) ((rd_T37 x0 x3).f3) ((rd_T37 x0 x3).f4)).bind fun t268 => (if t268 = true then (pelicanlaw14_FewAll.l0 k x0 (wrap64 (x3 + 1))) else (some false))) else (none)) else (none)) else (some (decide ((x0.length : Int) ≤ 5)))
end
def pelicanlaw14_FewAll.f (k : Nat) (l0 : List (S37)) : Option (Bool) := pelicanlaw14_FewAll.l0 k l0 0
theorem pelicanlaw14_FewAll.mono_l : ∀ k, (∀ y0 y1, LeO (pelicanlaw14_FewAll.l0 k y0 y1) (pelicanlaw14_FewAll.l0 (k + 1) y0 y1)) ∧ (∀ y0 y1 y2, LeO (pelicanlaw14_FewAll.j1 k y0 y1 y2) (pelicanlaw14_FewAll.j1 (k + 1) y0 y1 y2))
  | 0 => ⟨fun _ _ r h => by simp [pelicanlaw14_FewAll.l0] at h, fun _ _ _ r h => by simp [pelicanlaw14_FewAll.j1] at h⟩
  | k + 1 => by
    obtain ⟨ih0, ih1⟩ := pelicanlaw14_FewAll.mono_l k
    refine ⟨?_, ?_⟩
    · intro y0 y1
      unfold pelicanlaw14_FewAll.l0
      repeat' first
      | (with_reducible exact ih0 _ _)
      | (with_reducible exact ih1 _ _ _)
      | (with_reducible exact LeO.refl _)
      | (with_reducible exact LeO.none _)
      | (with_reducible refine LeO.ite ?_ ?_)
      | (with_reducible refine LeO.bind ?_ (fun _ => ?_))
      | exact ih0 _ _
      | exact ih1 _ _ _
      | exact LeO.none _
      | refine LeO.ite ?_ ?_
      | refine LeO.bind ?_ (fun _ => ?_)
    · intro y0 y1 y2
      unfold pelicanlaw14_FewAll.j1
      repeat' first
      | (with_reducible exact ih0 _ _)
      | (with_reducible exact ih1 _ _ _)
      | (with_reducible exact LeO.refl _)
      | (with_reducible exact LeO.none _)
      | (with_reducible refine LeO.ite ?_ ?_)
      | (with_reducible refine LeO.bind ?_ (fun _ => ?_))
      | exact ih0 _ _
      | exact ih1 _ _ _
      | exact LeO.none _
      | refine LeO.ite ?_ ?_
      | refine LeO.bind ?_ (fun _ => ?_)
theorem pelicanlaw14_FewAll.mono : ∀ a0 k, LeO (pelicanlaw14_FewAll.f k a0) (pelicanlaw14_FewAll.f (k + 1) a0) := by
  intro a0 k
  obtain ⟨ih0, ih1⟩ := pelicanlaw14_FewAll.mono_l k
  unfold pelicanlaw14_FewAll.f
  repeat' first
      | (with_reducible exact ih0 _ _)
      | (with_reducible exact ih1 _ _ _)
      | (with_reducible exact LeO.refl _)
      | (with_reducible exact LeO.none _)
      | (with_reducible refine LeO.ite ?_ ?_)
      | (with_reducible refine LeO.bind ?_ (fun _ => ?_))
      | exact ih0 _ _
      | exact ih1 _ _ _
      | exact LeO.none _
      | refine LeO.ite ?_ ?_
      | refine LeO.bind ?_ (fun _ => ?_)
def pelicanref14_stage.f (k : Nat) (l0_0 : List Int) (l0_1 : List (S47)) (a0_2 : Int) (a0_3 : Int) (a0_4 : Int) (a1_0 : Int) (a1_1 : Int) (a1_2 : Int) : Option (Bool) := (pelicanref13_Free.f k l0_0 a1_0).bind fun t271 => (if t271 = true then (if a1_0 = 0 then (some false) else (if a1_1 ≥ 1 then (if a1_1 ≤ 200 then (if a1_2 ≥ a1_1 then (some (decide (a1_2 ≤ 200))) else (some false)) else (some false)) else (some false))) else (some false))
theorem pelicanref14_stage.mono : ∀ a0 a1 a2 a3 a4 a5 a6 a7 k, LeO (pelicanref14_stage.f k a0 a1 a2 a3 a4 a5 a6 a7) (pelicanref14_stage.f (k + 1) a0 a1 a2 a3 a4 a5 a6 a7) := by
  intro a0 a1 a2 a3 a4 a5 a6 a7 k
  unfold pelicanref14_stage.f
  repeat' first
      | (with_reducible exact pelicanref13_Free.mono _ _ _)
      | (with_reducible exact LeO.refl _)
      | (with_reducible exact LeO.none _)
      | (with_reducible refine LeO.ite ?_ ?_)
      | (with_reducible refine LeO.bind ?_ (fun _ => ?_))
      | exact pelicanref13_Free.mono _ _ _
      | exact LeO.none _
      | refine LeO.ite ?_ ?_
      | refine LeO.bind ?_ (fun _ => ?_)
def pelicanref14_Has.f (k : Nat) (l0_0 : List Int) (l0_1 : List (S47)) (a0_2 : Int) (a0_3 : Int) (a0_4 : Int) (a1 : Int) (a2 : Int) : Option (Bool) := if 0 ≤ a1 then (if a1 < (l0_1.length : Int) then ((pelicanref13_In.f k ((rd_T47 l0_1 a1).f0) a2).bind fun t274 => (some t274)) else (none)) else (none)
theorem pelicanref14_Has.mono : ∀ a0 a1 a2 a3 a4 a5 a6 k, LeO (pelicanref14_Has.f k a0 a1 a2 a3 a4 a5 a6) (pelicanref14_Has.f (k + 1) a0 a1 a2 a3 a4 a5 a6) := by
  intro a0 a1 a2 a3 a4 a5 a6 k
  unfold pelicanref14_Has.f
  repeat' first
      | (with_reducible exact pelicanref13_In.mono _ _ _)
      | (with_reducible exact LeO.refl _)
      | (with_reducible exact LeO.none _)
      | (with_reducible refine LeO.ite ?_ ?_)
      | (with_reducible refine LeO.bind ?_ (fun _ => ?_))
      | exact pelicanref13_In.mono _ _ _
      | exact LeO.none _
      | refine LeO.ite ?_ ?_
      | refine LeO.bind ?_ (fun _ => ?_)
mutual
def pelicanref14_Fit.j0 : Nat → Bool → List Int → List (S47) → Int → Int → Int → Option (Bool)
  | 0, _, _, _, _, _, _ => none
  | k + 1, x26, x276000, x276001, x276002, x276003, x276004 => if x26 = true then (some false) else (pelicanref14_Fit.l0 k 0 x276000 x276001 x276002 x276003 x276004)
def pelicanref14_Fit.l0 : Nat → Int → List Int → List (S47) → Int → Int → Int → Option (Bool)
  | 0, _, _, _, _, _, _ => none
  | k + 1, x4, x276000, x276001, x276002, x276003, x276004 => if x4 < (x276001.length : Int) then (if 0 ≤ x4 then ((pelicanref14_stage.f k x276000 x276001 x276002 x276003 x276004 ((rd_T47 x276001 x4).f0) ((rd_T47 x276001 x4).f1) ((rd_T47 x276001 x4).f2)).bind fun t278 => (if t278 = true then (pelicanref14_Fit.l0 k (wrap64 (x4 + 1)) x276000 x276001 x276002 x276003 x276004) else (some false))) else (none)) else (pelicanref14_Fit.l1 k 0 x276000 x276001 x276002 x276003 x276004)
def pelicanref14_Fit.l1 : Nat → Int → List Int → List (S47) → Int → Int → Int → Option (Bool)
  | 0, _, _, _, _, _, _ => none
  | k + 1, x6, x276000, x276001, x276002, x276003, x276004 => if x6 < (x276000.length : Int) then (pelicanref14_Fit.l2 k x6 false 0 x276000 x276001 x276002 x276003 x276004) else (if x276002 ≥ 1 then (if x276002 ≤ 200 then (if x276003 ≥ 1 then (if x276003 ≤ 200 then (if x276004 ≥ 0 then (some (decide (x276004 ≤ 300))) else (some false)) else (some false)) else (some false)) else (some false)) else (some false))
def pelicanref14_Fit.l2 : Nat → Int → Bool → Int → List Int → List (S47) → Int → Int → Int → Option (Bool)
  | 0, _, _, _, _, _, _, _, _ => none
  | k + 1, x6, x7, x8, x276000, x276001, x276002, x276003, x276004 => if x8 < (x276001.length : Int) then ((pelicanref14_Has.f k x276000 x276001 x276002 x276003 x276004 x8 x6).bind fun t279 => (if x7 = true then (pelicanref14_Fit.l2 k x6 true (wrap64 (x8 + 1)) x276000 x276001 x276002 x276003 x276004) else (pelicanref14_Fit.l2 k x6 t279 (wrap64 (x8 + 1)) x276000 x276001 x276002 x276003 x276004))) else (if x7 = true then (pelicanref14_Fit.l1 k (wrap64 (x6 + 1)) x276000 x276001 x276002 x276003 x276004) else (some false))
end
def pelicanref14_Fit.f (k : Nat) (l0_0 : List Int) (l0_1 : List (S47)) (a0_2 : Int) (a0_3 : Int) (a0_4 : Int) : Option (Bool) := (pelicanref13_May.f k l0_0).bind fun t276 => (if t276 = true then (if (l0_1.length : Int) < 2 then (pelicanref14_Fit.j0 k true l0_0 l0_1 a0_2 a0_3 a0_4) else (pelicanref14_Fit.j0 k (decide ((l0_1.length : Int) > 6)) l0_0 l0_1 a0_2 a0_3 a0_4)) else (pelicanref14_Fit.j0 k true l0_0 l0_1 a0_2 a0_3 a0_4))
theorem pelicanref14_Fit.mono_l : ∀ k, (∀ y0 y1 y2 y3 y4 y5, LeO (pelicanref14_Fit.j0 k y0 y1 y2 y3 y4 y5) (pelicanref14_Fit.j0 (k + 1) y0 y1 y2 y3 y4 y5)) ∧ (∀ y0 y1 y2 y3 y4 y5, LeO (pelicanref14_Fit.l0 k y0 y1 y2 y3 y4 y5) (pelicanref14_Fit.l0 (k + 1) y0 y1 y2 y3 y4 y5)) ∧ (∀ y0 y1 y2 y3 y4 y5, LeO (pelicanref14_Fit.l1 k y0 y1 y2 y3 y4 y5) (pelicanref14_Fit.l1 (k + 1) y0 y1 y2 y3 y4 y5)) ∧ (∀ y0 y1 y2 y3 y4 y5 y6 y7, LeO (pelicanref14_Fit.l2 k y0 y1 y2 y3 y4 y5 y6 y7) (pelicanref14_Fit.l2 (k + 1) y0 y1 y2 y3 y4 y5 y6 y7))
  | 0 => ⟨fun _ _ _ _ _ _ r h => by simp [pelicanref14_Fit.j0] at h, fun _ _ _ _ _ _ r h => by simp [pelicanref14_Fit.l0] at h, fun _ _ _ _ _ _ r h => by simp [pelicanref14_Fit.l1] at h, fun _ _ _ _ _ _ _ _ r h => by simp [pelicanref14_Fit.l2] at h⟩
  | k + 1 => by
    obtain ⟨ih0, ih1, ih2, ih3⟩ := pelicanref14_Fit.mono_l k
    refine ⟨?_, ?_, ?_, ?_⟩
    · intro y0 y1 y2 y3 y4 y5
      unfold pelicanref14_Fit.j0
      repeat' first
      | (with_reducible exact ih0 _ _ _ _ _ _)
      | (with_reducible exact ih1 _ _ _ _ _ _)
      | (with_reducible exact ih2 _ _ _ _ _ _)
      | (with_reducible exact ih3 _ _ _ _ _ _ _ _)
      | (with_reducible exact pelicanref13_May.mono _ _)
      | (with_reducible exact pelicanref14_Has.mono _ _ _ _ _ _ _ _)
      | (with_reducible exact pelicanref14_stage.mono _ _ _ _ _ _ _ _ _)
      | (with_reducible exact LeO.refl _)
      | (with_reducible exact LeO.none _)
      | (with_reducible refine LeO.ite ?_ ?_)
      | (with_reducible refine LeO.bind ?_ (fun _ => ?_))
      | exact ih0 _ _ _ _ _ _
      | exact ih1 _ _ _ _ _ _
      | exact ih2 _ _ _ _ _ _
      | exact ih3 _ _ _ _ _ _ _ _
      | exact pelicanref13_May.mono _ _
      | exact pelicanref14_Has.mono _ _ _ _ _ _ _ _
      | exact pelicanref14_stage.mono _ _ _ _ _ _ _ _ _
      | exact LeO.none _
      | refine LeO.ite ?_ ?_
      | refine LeO.bind ?_ (fun _ => ?_)
    · intro y0 y1 y2 y3 y4 y5
      unfold pelicanref14_Fit.l0
      repeat' first
      | (with_reducible exact ih0 _ _ _ _ _ _)
      | (with_reducible exact ih1 _ _ _ _ _ _)
      | (with_reducible exact ih2 _ _ _ _ _ _)
      | (with_reducible exact ih3 _ _ _ _ _ _ _ _)
      | (with_reducible exact pelicanref13_May.mono _ _)
      | (with_reducible exact pelicanref14_Has.mono _ _ _ _ _ _ _ _)
      | (with_reducible exact pelicanref14_stage.mono _ _ _ _ _ _ _ _ _)
      | (with_reducible exact LeO.refl _)
      | (with_reducible exact LeO.none _)
      | (with_reducible refine LeO.ite ?_ ?_)
      | (with_reducible refine LeO.bind ?_ (fun _ => ?_))
      | exact ih0 _ _ _ _ _ _
      | exact ih1 _ _ _ _ _ _
      | exact ih2 _ _ _ _ _ _
      | exact ih3 _ _ _ _ _ _ _ _
      | exact pelicanref13_May.mono _ _
      | exact pelicanref14_Has.mono _ _ _ _ _ _ _ _
      | exact pelicanref14_stage.mono _ _ _ _ _ _ _ _ _
      | exact LeO.none _
      | refine LeO.ite ?_ ?_
      | refine LeO.bind ?_ (fun _ => ?_)
    · intro y0 y1 y2 y3 y4 y5
      unfold pelicanref14_Fit.l1
      repeat' first
      | (with_reducible exact ih0 _ _ _ _ _ _)
      | (with_reducible exact ih1 _ _ _ _ _ _)
      | (with_reducible exact ih2 _ _ _ _ _ _)
      | (with_reducible exact ih3 _ _ _ _ _ _ _ _)
      | (with_reducible exact pelicanref13_May.mono _ _)
      | (with_reducible exact pelicanref14_Has.mono _ _ _ _ _ _ _ _)
      | (with_reducible exact pelicanref14_stage.mono _ _ _ _ _ _ _ _ _)
      | (with_reducible exact LeO.refl _)
      | (with_reducible exact LeO.none _)
      | (with_reducible refine LeO.ite ?_ ?_)
      | (with_reducible refine LeO.bind ?_ (fun _ => ?_))
      | exact ih0 _ _ _ _ _ _
      | exact ih1 _ _ _ _ _ _
      | exact ih2 _ _ _ _ _ _
      | exact ih3 _ _ _ _ _ _ _ _
      | exact pelicanref13_May.mono _ _
      | exact pelicanref14_Has.mono _ _ _ _ _ _ _ _
      | exact pelicanref14_stage.mono _ _ _ _ _ _ _ _ _
      | exact LeO.none _
      | refine LeO.ite ?_ ?_
      | refine LeO.bind ?_ (fun _ => ?_)
    · intro y0 y1 y2 y3 y4 y5 y6 y7
      unfold pelicanref14_Fit.l2
      repeat' first
      | (with_reducible exact ih0 _ _ _ _ _ _)
      | (with_reducible exact ih1 _ _ _ _ _ _)
      | (with_reducible exact ih2 _ _ _ _ _ _)
      | (with_reducible exact ih3 _ _ _ _ _ _ _ _)
      | (with_reducible exact pelicanref13_May.mono _ _)
      | (with_reducible exact pelicanref14_Has.mono _ _ _ _ _ _ _ _)
      | (with_reducible exact pelicanref14_stage.mono _ _ _ _ _ _ _ _ _)
      | (with_reducible exact LeO.refl _)
      | (with_reducible exact LeO.none _)
      | (with_reducible refine LeO.ite ?_ ?_)
      | (with_reducible refine LeO.bind ?_ (fun _ => ?_))
      | exact ih0 _ _ _ _ _ _
      | exact ih1 _ _ _ _ _ _
      | exact ih2 _ _ _ _ _ _
      | exact ih3 _ _ _ _ _ _ _ _
      | exact pelicanref13_May.mono _ _
      | exact pelicanref14_Has.mono _ _ _ _ _ _ _ _
      | exact pelicanref14_stage.mono _ _ _ _ _ _ _ _ _
      | exact LeO.none _
      | refine LeO.ite ?_ ?_
      | refine LeO.bind ?_ (fun _ => ?_)
theorem pelicanref14_Fit.mono : ∀ a0 a1 a2 a3 a4 k, LeO (pelicanref14_Fit.f k a0 a1 a2 a3 a4) (pelicanref14_Fit.f (k + 1) a0 a1 a2 a3 a4) := by
  intro a0 a1 a2 a3 a4 k
  obtain ⟨ih0, ih1, ih2, ih3⟩ := pelicanref14_Fit.mono_l k
  unfold pelicanref14_Fit.f
  repeat' first
      | (with_reducible exact ih0 _ _ _ _ _ _)
      | (with_reducible exact ih1 _ _ _ _ _ _)
      | (with_reducible exact ih2 _ _ _ _ _ _)
      | (with_reducible exact ih3 _ _ _ _ _ _ _ _)
      | (with_reducible exact pelicanref13_May.mono _ _)
      | (with_reducible exact pelicanref14_Has.mono _ _ _ _ _ _ _ _)
      | (with_reducible exact pelicanref14_stage.mono _ _ _ _ _ _ _ _ _)
      | (with_reducible exact LeO.refl _)
      | (with_reducible exact LeO.none _)
      | (with_reducible refine LeO.ite ?_ ?_)
      | (with_reducible refine LeO.bind ?_ (fun _ => ?_))
      | exact ih0 _ _ _ _ _ _
      | exact ih1 _ _ _ _ _ _
      | exact ih2 _ _ _ _ _ _
      | exact ih3 _ _ _ _ _ _ _ _
      | exact pelicanref13_May.mono _ _
      | exact pelicanref14_Has.mono _ _ _ _ _ _ _ _
      | exact pelicanref14_stage.mono _ _ _ _ _ _ _ _ _
      | exact LeO.none _
      | refine LeO.ite ?_ ?_
      | refine LeO.bind ?_ (fun _ => ?_)
mutual
def pelicanref14_All.j0 : Nat → List (S37) → Bool → Option (Bool)
  | 0, _, _ => none
  | k + 1, x0, x12 => if x12 = true then (some false) else (pelicanref14_All.l0 k x0 0)
def pelicanref14_All.l0 : Nat → List (S37) → Int → Option (Bool)
  | 0, _, _ => none
  | k + 1, x0, x3 => if x3 < (x0.length : Int) then (if 0 ≤ x3 then ((pelicanref14_Fit.f k ((rd_T37 x0 x3).f0) ((rd_T37 x0 x3).f1) ((rd_T37 x0 x3).f2) ((rd_T37 x0 x3).f3) ((rd_T37 x0 x3).f4)).bind fun t281 => (if t281 = true then (if 0 < (x0.length : Int) then (if (((rd_T37 x0 x3).f0).length : Int) = (((rd_T37 x0 0).f0).length : Int) then (pelicanref14_All.l0 k x0 (wrap64 (x3 + 1))) else (some false)) else (none)) else (some false))) else (none)) else (some true)
end
def pelicanref14_All.f (k : Nat) (l0 : List (S37)) : Option (Bool) := if (l0.length : Int) < 1 then (pelicanref14_All.j0 k l0 true) else (pelicanref14_All.j0 k l0 (decide ((l0.length : Int) > 3)))
theorem pelicanref14_All.mono_l : ∀ k, (∀ y0 y1, LeO (pelicanref14_All.j0 k y0 y1) (pelicanref14_All.j0 (k + 1) y0 y1)) ∧ (∀ y0 y1, LeO (pelicanref14_All.l0 k y0 y1) (pelicanref14_All.l0 (k + 1) y0 y1))
  | 0 => ⟨fun _ _ r h => by simp [pelicanref14_All.j0] at h, fun _ _ r h => by simp [pelicanref14_All.l0] at h⟩
  | k + 1 => by
    obtain ⟨ih0, ih1⟩ := pelicanref14_All.mono_l k
    refine ⟨?_, ?_⟩
    · intro y0 y1
      unfold pelicanref14_All.j0
      repeat' first
      | (with_reducible exact ih0 _ _)
      | (with_reducible exact ih1 _ _)
      | (with_reducible exact pelicanref14_Fit.mono _ _ _ _ _ _)
      | (with_reducible exact LeO.refl _)
      | (with_reducible exact LeO.none _)
      | (with_reducible refine LeO.ite ?_ ?_)
      | (with_reducible refine LeO.bind ?_ (fun _ => ?_))
      | exact ih0 _ _
      | exact ih1 _ _
      | exact pelicanref14_Fit.mono _ _ _ _ _ _
      | exact LeO.none _
      | refine LeO.ite ?_ ?_
      | refine LeO.bind ?_ (fun _ => ?_)
    · intro y0 y1
      unfold pelicanref14_All.l0
      repeat' first
      | (with_reducible exact ih0 _ _)
      | (with_reducible exact ih1 _ _)
      | (with_reducible exact pelicanref14_Fit.mono _ _ _ _ _ _)
      | (with_reducible exact LeO.refl _)
      | (with_reducible exact LeO.none _)
      | (with_reducible refine LeO.ite ?_ ?_)
      | (with_reducible refine LeO.bind ?_ (fun _ => ?_))
      | exact ih0 _ _
      | exact ih1 _ _
      | exact pelicanref14_Fit.mono _ _ _ _ _ _
      | exact LeO.none _
      | refine LeO.ite ?_ ?_
      | refine LeO.bind ?_ (fun _ => ?_)
theorem pelicanref14_All.mono : ∀ a0 k, LeO (pelicanref14_All.f k a0) (pelicanref14_All.f (k + 1) a0) := by
  intro a0 k
  obtain ⟨ih0, ih1⟩ := pelicanref14_All.mono_l k
  unfold pelicanref14_All.f
  repeat' first
      | (with_reducible exact ih0 _ _)
      | (with_reducible exact ih1 _ _)
      | (with_reducible exact pelicanref14_Fit.mono _ _ _ _ _ _)
      | (with_reducible exact LeO.refl _)
      | (with_reducible exact LeO.none _)
      | (with_reducible refine LeO.ite ?_ ?_)
      | (with_reducible refine LeO.bind ?_ (fun _ => ?_))
      | exact ih0 _ _
      | exact ih1 _ _
      | exact pelicanref14_Fit.mono _ _ _ _ _ _
      | exact LeO.none _
      | refine LeO.ite ?_ ?_
      | refine LeO.bind ?_ (fun _ => ?_)
mutual
def pelicanref14_Same.j0 : Nat → Bool → List Int → List (S47) → Int → Int → Int → List Int → List (S47) → Int → Int → Int → Option (Bool)
  | 0, _, _, _, _, _, _, _, _, _, _, _ => none
  | k + 1, x43, x285000, x285001, x285002, x285003, x285004, x286000, x286001, x286002, x286003, x286004 => if x43 = true then (some false) else (pelicanref14_Same.l0 k 0 x285000 x285001 x285002 x285003 x285004 x286000 x286001 x286002 x286003 x286004)
def pelicanref14_Same.l0 : Nat → Int → List Int → List (S47) → Int → Int → Int → List Int → List (S47) → Int → Int → Int → Option (Bool)
  | 0, _, _, _, _, _, _, _, _, _, _, _ => none
  | k + 1, x6, x285000, x285001, x285002, x285003, x285004, x286000, x286001, x286002, x286003, x286004 => if x6 < (x285001.length : Int) then (if 0 ≤ x6 then (if x6 < (x286001.length : Int) then (if (!(((rd_T47 x285001 x6).f0) == ((rd_T47 x286001 x6).f0)) || (!(((rd_T47 x285001 x6).f1) == ((rd_T47 x286001 x6).f1)) || (!(((rd_T47 x285001 x6).f2) == ((rd_T47 x286001 x6).f2))))) = true then (some false) else (pelicanref14_Same.l0 k (wrap64 (x6 + 1)) x285000 x285001 x285002 x285003 x285004 x286000 x286001 x286002 x286003 x286004)) else (none)) else (none)) else (some true)
end
def pelicanref14_Same.f (k : Nat) (l0_0 : List Int) (l0_1 : List (S47)) (a0_2 : Int) (a0_3 : Int) (a0_4 : Int) (l1_0 : List Int) (l1_1 : List (S47)) (a1_2 : Int) (a1_3 : Int) (a1_4 : Int) : Option (Bool) := (pelicanref05_Ints.f k l0_0 l1_0).bind fun t286 => (if t286 = true then (if (l0_1.length : Int) = (l1_1.length : Int) then (if a0_2 = a1_2 then (if a0_3 = a1_3 then (pelicanref14_Same.j0 k (a0_4 != a1_4) l0_0 l0_1 a0_2 a0_3 a0_4 l1_0 l1_1 a1_2 a1_3 a1_4) else (pelicanref14_Same.j0 k true l0_0 l0_1 a0_2 a0_3 a0_4 l1_0 l1_1 a1_2 a1_3 a1_4)) else (pelicanref14_Same.j0 k true l0_0 l0_1 a0_2 a0_3 a0_4 l1_0 l1_1 a1_2 a1_3 a1_4)) else (pelicanref14_Same.j0 k true l0_0 l0_1 a0_2 a0_3 a0_4 l1_0 l1_1 a1_2 a1_3 a1_4)) else (pelicanref14_Same.j0 k true l0_0 l0_1 a0_2 a0_3 a0_4 l1_0 l1_1 a1_2 a1_3 a1_4))
theorem pelicanref14_Same.mono_l : ∀ k, (∀ y0 y1 y2 y3 y4 y5 y6 y7 y8 y9 y10, LeO (pelicanref14_Same.j0 k y0 y1 y2 y3 y4 y5 y6 y7 y8 y9 y10) (pelicanref14_Same.j0 (k + 1) y0 y1 y2 y3 y4 y5 y6 y7 y8 y9 y10)) ∧ (∀ y0 y1 y2 y3 y4 y5 y6 y7 y8 y9 y10, LeO (pelicanref14_Same.l0 k y0 y1 y2 y3 y4 y5 y6 y7 y8 y9 y10) (pelicanref14_Same.l0 (k + 1) y0 y1 y2 y3 y4 y5 y6 y7 y8 y9 y10))
  | 0 => ⟨fun _ _ _ _ _ _ _ _ _ _ _ r h => by simp [pelicanref14_Same.j0] at h, fun _ _ _ _ _ _ _ _ _ _ _ r h => by simp [pelicanref14_Same.l0] at h⟩
  | k + 1 => by
    obtain ⟨ih0, ih1⟩ := pelicanref14_Same.mono_l k
    refine ⟨?_, ?_⟩
    · intro y0 y1 y2 y3 y4 y5 y6 y7 y8 y9 y10
      unfold pelicanref14_Same.j0
      repeat' first
      | (with_reducible exact ih0 _ _ _ _ _ _ _ _ _ _ _)
      | (with_reducible exact ih1 _ _ _ _ _ _ _ _ _ _ _)
      | (with_reducible exact pelicanref05_Ints.mono _ _ _)
      | (with_reducible exact LeO.refl _)
      | (with_reducible exact LeO.none _)
      | (with_reducible refine LeO.ite ?_ ?_)
      | (with_reducible refine LeO.bind ?_ (fun _ => ?_))
      | exact ih0 _ _ _ _ _ _ _ _ _ _ _
      | exact ih1 _ _ _ _ _ _ _ _ _ _ _
      | exact pelicanref05_Ints.mono _ _ _
      | exact LeO.none _
      | refine LeO.ite ?_ ?_
      | refine LeO.bind ?_ (fun _ => ?_)
    · intro y0 y1 y2 y3 y4 y5 y6 y7 y8 y9 y10
      unfold pelicanref14_Same.l0
      repeat' first
      | (with_reducible exact ih0 _ _ _ _ _ _ _ _ _ _ _)
      | (with_reducible exact ih1 _ _ _ _ _ _ _ _ _ _ _)
      | (with_reducible exact pelicanref05_Ints.mono _ _ _)
      | (with_reducible exact LeO.refl _)
      | (with_reducible exact LeO.none _)
      | (with_reducible refine LeO.ite ?_ ?_)
      | (with_reducible refine LeO.bind ?_ (fun _ => ?_))
      | exact ih0 _ _ _ _ _ _ _ _ _ _ _
      | exact ih1 _ _ _ _ _ _ _ _ _ _ _
      | exact pelicanref05_Ints.mono _ _ _
      | exact LeO.none _
      | refine LeO.ite ?_ ?_
      | refine LeO.bind ?_ (fun _ => ?_)
theorem pelicanref14_Same.mono : ∀ a0 a1 a2 a3 a4 a5 a6 a7 a8 a9 k, LeO (pelicanref14_Same.f k a0 a1 a2 a3 a4 a5 a6 a7 a8 a9) (pelicanref14_Same.f (k + 1) a0 a1 a2 a3 a4 a5 a6 a7 a8 a9) := by
  intro a0 a1 a2 a3 a4 a5 a6 a7 a8 a9 k
  obtain ⟨ih0, ih1⟩ := pelicanref14_Same.mono_l k
  unfold pelicanref14_Same.f
  repeat' first
      | (with_reducible exact ih0 _ _ _ _ _ _ _ _ _ _ _)
      | (with_reducible exact ih1 _ _ _ _ _ _ _ _ _ _ _)
      | (with_reducible exact pelicanref05_Ints.mono _ _ _)
      | (with_reducible exact LeO.refl _)
      | (with_reducible exact LeO.none _)
      | (with_reducible refine LeO.ite ?_ ?_)
      | (with_reducible refine LeO.bind ?_ (fun _ => ?_))
      | exact ih0 _ _ _ _ _ _ _ _ _ _ _
      | exact ih1 _ _ _ _ _ _ _ _ _ _ _
      | exact pelicanref05_Ints.mono _ _ _
      | exact LeO.none _
      | refine LeO.ite ?_ ?_
      | refine LeO.bind ?_ (fun _ => ?_)
def pelicanref14_Next.j0 : Nat → Int → Bool → List Int → List (S47) → Int → Int → Int → Option (Int)
  | 0, _, _, _, _, _, _, _ => none
  | k + 1, x1, x20, x290000, x290001, x290002, x290003, x290004 => if x20 = true then (some (-1)) else (if x1 = (wrap64 ((x290001.length : Int) - 1)) then (some 0) else (some (wrap64 (x1 + 1))))
def pelicanref14_Next.f (k : Nat) (l0_0 : List Int) (l0_1 : List (S47)) (a0_2 : Int) (a0_3 : Int) (a0_4 : Int) (a1 : Int) : Option (Int) := (pelicanref14_Fit.f k l0_0 l0_1 a0_2 a0_3 a0_4).bind fun t290 => (if t290 = true then (if a1 < 0 then (pelicanref14_Next.j0 k a1 true l0_0 l0_1 a0_2 a0_3 a0_4) else (pelicanref14_Next.j0 k a1 (decide (a1 ≥ (l0_1.length : Int))) l0_0 l0_1 a0_2 a0_3 a0_4)) else (pelicanref14_Next.j0 k a1 true l0_0 l0_1 a0_2 a0_3 a0_4))
theorem pelicanref14_Next.mono_l : ∀ k, (∀ y0 y1 y2 y3 y4 y5 y6, LeO (pelicanref14_Next.j0 k y0 y1 y2 y3 y4 y5 y6) (pelicanref14_Next.j0 (k + 1) y0 y1 y2 y3 y4 y5 y6))
  | 0 => fun _ _ _ _ _ _ _ r h => by simp [pelicanref14_Next.j0] at h
  | k + 1 => by
    have ih0 := pelicanref14_Next.mono_l k
    · intro y0 y1 y2 y3 y4 y5 y6
      unfold pelicanref14_Next.j0
      repeat' first
      | (with_reducible exact ih0 _ _ _ _ _ _ _)
      | (with_reducible exact pelicanref14_Fit.mono _ _ _ _ _ _)
      | (with_reducible exact LeO.refl _)
      | (with_reducible exact LeO.none _)
      | (with_reducible refine LeO.ite ?_ ?_)
      | (with_reducible refine LeO.bind ?_ (fun _ => ?_))
      | exact ih0 _ _ _ _ _ _ _
      | exact pelicanref14_Fit.mono _ _ _ _ _ _
      | exact LeO.none _
      | refine LeO.ite ?_ ?_
      | refine LeO.bind ?_ (fun _ => ?_)
theorem pelicanref14_Next.mono : ∀ a0 a1 a2 a3 a4 a5 k, LeO (pelicanref14_Next.f k a0 a1 a2 a3 a4 a5) (pelicanref14_Next.f (k + 1) a0 a1 a2 a3 a4 a5) := by
  intro a0 a1 a2 a3 a4 a5 k
  have ih0 := pelicanref14_Next.mono_l k
  unfold pelicanref14_Next.f
  repeat' first
      | (with_reducible exact ih0 _ _ _ _ _ _ _)
      | (with_reducible exact pelicanref14_Fit.mono _ _ _ _ _ _)
      | (with_reducible exact LeO.refl _)
      | (with_reducible exact LeO.none _)
      | (with_reducible refine LeO.ite ?_ ?_)
      | (with_reducible refine LeO.bind ?_ (fun _ => ?_))
      | exact ih0 _ _ _ _ _ _ _
      | exact pelicanref14_Fit.mono _ _ _ _ _ _
      | exact LeO.none _
      | refine LeO.ite ?_ ?_
      | refine LeO.bind ?_ (fun _ => ?_)
mutual
def pelicanref14_Least.j0 : Nat → Int → Bool → List Int → List (S47) → Int → Int → Int → Option (Int)
  | 0, _, _, _, _, _, _, _ => none
  | k + 1, x1, x23, x292000, x292001, x292002, x292003, x292004 => if x23 = true then (some 0) else (pelicanref14_Least.l0 k x1 0 0 x292000 x292001 x292002 x292003 x292004)
def pelicanref14_Least.l0 : Nat → Int → Int → Int → List Int → List (S47) → Int → Int → Int → Option (Int)
  | 0, _, _, _, _, _, _, _, _ => none
  | k + 1, x1, x6, x7, x292000, x292001, x292002, x292003, x292004 => if x7 < (x292001.length : Int) then ((pelicanref14_Has.f k x292000 x292001 x292002 x292003 x292004 x7 x1).bind fun t293 => (if t293 = true then (if x6 = 0 then (if 0 ≤ x7 then (pelicanref14_Least.l0 k x1 ((rd_T47 x292001 x7).f1) (wrap64 (x7 + 1)) x292000 x292001 x292002 x292003 x292004) else (none)) else (if 0 ≤ x7 then (if ((rd_T47 x292001 x7).f1) < x6 then (pelicanref14_Least.l0 k x1 ((rd_T47 x292001 x7).f1) (wrap64 (x7 + 1)) x292000 x292001 x292002 x292003 x292004) else (pelicanref14_Least.l0 k x1 x6 (wrap64 (x7 + 1)) x292000 x292001 x292002 x292003 x292004)) else (none))) else (pelicanref14_Least.l0 k x1 x6 (wrap64 (x7 + 1)) x292000 x292001 x292002 x292003 x292004))) else (some x6)
end
def pelicanref14_Least.f (k : Nat) (l0_0 : List Int) (l0_1 : List (S47)) (a0_2 : Int) (a0_3 : Int) (a0_4 : Int) (a1 : Int) : Option (Int) := (pelicanref14_Fit.f k l0_0 l0_1 a0_2 a0_3 a0_4).bind fun t292 => (if t292 = true then (if a1 < 0 then (pelicanref14_Least.j0 k a1 true l0_0 l0_1 a0_2 a0_3 a0_4) else (pelicanref14_Least.j0 k a1 (decide (a1 ≥ (l0_0.length : Int))) l0_0 l0_1 a0_2 a0_3 a0_4)) else (pelicanref14_Least.j0 k a1 true l0_0 l0_1 a0_2 a0_3 a0_4))
theorem pelicanref14_Least.mono_l : ∀ k, (∀ y0 y1 y2 y3 y4 y5 y6, LeO (pelicanref14_Least.j0 k y0 y1 y2 y3 y4 y5 y6) (pelicanref14_Least.j0 (k + 1) y0 y1 y2 y3 y4 y5 y6)) ∧ (∀ y0 y1 y2 y3 y4 y5 y6 y7, LeO (pelicanref14_Least.l0 k y0 y1 y2 y3 y4 y5 y6 y7) (pelicanref14_Least.l0 (k + 1) y0 y1 y2 y3 y4 y5 y6 y7))
  | 0 => ⟨fun _ _ _ _ _ _ _ r h => by simp [pelicanref14_Least.j0] at h, fun _ _ _ _ _ _ _ _ r h => by simp [pelicanref14_Least.l0] at h⟩
  | k + 1 => by
    obtain ⟨ih0, ih1⟩ := pelicanref14_Least.mono_l k
    refine ⟨?_, ?_⟩
    · intro y0 y1 y2 y3 y4 y5 y6
      unfold pelicanref14_Least.j0
      repeat' first
      | (with_reducible exact ih0 _ _ _ _ _ _ _)
      | (with_reducible exact ih1 _ _ _ _ _ _ _ _)
      | (with_reducible exact pelicanref14_Fit.mono _ _ _ _ _ _)
      | (with_reducible exact pelicanref14_Has.mono _ _ _ _ _ _ _ _)
      | (with_reducible exact LeO.refl _)
      | (with_reducible exact LeO.none _)
      | (with_reducible refine LeO.ite ?_ ?_)
      | (with_reducible refine LeO.bind ?_ (fun _ => ?_))
      | exact ih0 _ _ _ _ _ _ _
      | exact ih1 _ _ _ _ _ _ _ _
      | exact pelicanref14_Fit.mono _ _ _ _ _ _
      | exact pelicanref14_Has.mono _ _ _ _ _ _ _ _
      | exact LeO.none _
      | refine LeO.ite ?_ ?_
      | refine LeO.bind ?_ (fun _ => ?_)
    · intro y0 y1 y2 y3 y4 y5 y6 y7
      unfold pelicanref14_Least.l0
      repeat' first
      | (with_reducible exact ih0 _ _ _ _ _ _ _)
      | (with_reducible exact ih1 _ _ _ _ _ _ _ _)
      | (with_reducible exact pelicanref14_Fit.mono _ _ _ _ _ _)
      | (with_reducible exact pelicanref14_Has.mono _ _ _ _ _ _ _ _)
      | (with_reducible exact LeO.refl _)
      | (with_reducible exact LeO.none _)
      | (with_reducible refine LeO.ite ?_ ?_)
      | (with_reducible refine LeO.bind ?_ (fun _ => ?_))
      | exact ih0 _ _ _ _ _ _ _
      | exact ih1 _ _ _ _ _ _ _ _
      | exact pelicanref14_Fit.mono _ _ _ _ _ _
      | exact pelicanref14_Has.mono _ _ _ _ _ _ _ _
      | exact LeO.none _
      | refine LeO.ite ?_ ?_
      | refine LeO.bind ?_ (fun _ => ?_)
theorem pelicanref14_Least.mono : ∀ a0 a1 a2 a3 a4 a5 k, LeO (pelicanref14_Least.f k a0 a1 a2 a3 a4 a5) (pelicanref14_Least.f (k + 1) a0 a1 a2 a3 a4 a5) := by
  intro a0 a1 a2 a3 a4 a5 k
  obtain ⟨ih0, ih1⟩ := pelicanref14_Least.mono_l k
  unfold pelicanref14_Least.f
  repeat' first
      | (with_reducible exact ih0 _ _ _ _ _ _ _)
      | (with_reducible exact ih1 _ _ _ _ _ _ _ _)
      | (with_reducible exact pelicanref14_Fit.mono _ _ _ _ _ _)
      | (with_reducible exact pelicanref14_Has.mono _ _ _ _ _ _ _ _)
      | (with_reducible exact LeO.refl _)
      | (with_reducible exact LeO.none _)
      | (with_reducible refine LeO.ite ?_ ?_)
      | (with_reducible refine LeO.bind ?_ (fun _ => ?_))
      | exact ih0 _ _ _ _ _ _ _
      | exact ih1 _ _ _ _ _ _ _ _
      | exact pelicanref14_Fit.mono _ _ _ _ _ _
      | exact pelicanref14_Has.mono _ _ _ _ _ _ _ _
      | exact LeO.none _
      | refine LeO.ite ?_ ?_
      | refine LeO.bind ?_ (fun _ => ?_)
def pelicanref14_Cycle.l0 : Nat → Bool → Int → Int → List Int → List (S47) → Int → Int → Int → Option (Int)
  | 0, _, _, _, _, _, _, _, _ => none
  | k + 1, x3, x4, x5, x298000, x298001, x298002, x298003, x298004 => if x5 < (x298001.length : Int) then (if x3 = true then (if 0 ≤ x5 then (pelicanref14_Cycle.l0 k x3 (wrap64 ((wrap64 ((wrap64 (x4 + ((rd_T47 x298001 x5).f1))) + x298002)) + x298003)) (wrap64 (x5 + 1)) x298000 x298001 x298002 x298003 x298004) else (none)) else (some x4)) else (some x4)
def pelicanref14_Cycle.f (k : Nat) (l0_0 : List Int) (l0_1 : List (S47)) (a0_2 : Int) (a0_3 : Int) (a0_4 : Int) : Option (Int) := (pelicanref14_Fit.f k l0_0 l0_1 a0_2 a0_3 a0_4).bind fun t298 => (pelicanref14_Cycle.l0 k t298 0 0 l0_0 l0_1 a0_2 a0_3 a0_4)
theorem pelicanref14_Cycle.mono_l : ∀ k, (∀ y0 y1 y2 y3 y4 y5 y6 y7, LeO (pelicanref14_Cycle.l0 k y0 y1 y2 y3 y4 y5 y6 y7) (pelicanref14_Cycle.l0 (k + 1) y0 y1 y2 y3 y4 y5 y6 y7))
  | 0 => fun _ _ _ _ _ _ _ _ r h => by simp [pelicanref14_Cycle.l0] at h
  | k + 1 => by
    have ih0 := pelicanref14_Cycle.mono_l k
    · intro y0 y1 y2 y3 y4 y5 y6 y7
      unfold pelicanref14_Cycle.l0
      repeat' first
      | (with_reducible exact ih0 _ _ _ _ _ _ _ _)
      | (with_reducible exact pelicanref14_Fit.mono _ _ _ _ _ _)
      | (with_reducible exact LeO.refl _)
      | (with_reducible exact LeO.none _)
      | (with_reducible refine LeO.ite ?_ ?_)
      | (with_reducible refine LeO.bind ?_ (fun _ => ?_))
      | exact ih0 _ _ _ _ _ _ _ _
      | exact pelicanref14_Fit.mono _ _ _ _ _ _
      | exact LeO.none _
      | refine LeO.ite ?_ ?_
      | refine LeO.bind ?_ (fun _ => ?_)
theorem pelicanref14_Cycle.mono : ∀ a0 a1 a2 a3 a4 k, LeO (pelicanref14_Cycle.f k a0 a1 a2 a3 a4) (pelicanref14_Cycle.f (k + 1) a0 a1 a2 a3 a4) := by
  intro a0 a1 a2 a3 a4 k
  have ih0 := pelicanref14_Cycle.mono_l k
  unfold pelicanref14_Cycle.f
  repeat' first
      | (with_reducible exact ih0 _ _ _ _ _ _ _ _)
      | (with_reducible exact pelicanref14_Fit.mono _ _ _ _ _ _)
      | (with_reducible exact LeO.refl _)
      | (with_reducible exact LeO.none _)
      | (with_reducible refine LeO.ite ?_ ?_)
      | (with_reducible refine LeO.bind ?_ (fun _ => ?_))
      | exact ih0 _ _ _ _ _ _ _ _
      | exact pelicanref14_Fit.mono _ _ _ _ _ _
      | exact LeO.none _
      | refine LeO.ite ?_ ?_
      | refine LeO.bind ?_ (fun _ => ?_)
end Go.Proofs.YtnogkpofgkaefaaDoor.F
