/- Woven by wip/weave/weave.py of this repo (own tool) out of the translation: the contracts of some functions. Lean checks it. -/
import Derived.Test.YtnogkpofgkaefaaDoorF0
namespace Go.Proofs.YtnogkpofgkaefaaDoor.F
open Go.RowKit Go.Proofs.YtnogkpofgkaefaaDoorW.PrintWords Go.Proofs.YtnogkpofgkaefaaDoorW.PrintLast Go.Proofs.YtnogkpofgkaefaaDoorW.PrintMore
attribute [local go_sem] max2_int min2_int max_two min_two max_three min_three max_four min_four   -- for this text's walks alone
set_option linter.unusedVariables false
set_option linter.unusedSimpArgs false

def group_May.f (l0 : List Int) : Option Bool := some (Sp.may l0)
def group_in.f (a0 : Int) (a1 : Int) : Option (Bool) := if a0 ≥ 0 then (if 0 ≤ a1 then (some (decide (a0 < (shl .i64 1 a1)))) else (none)) else (some false)
def group_Against.f (l0 : List Int) (a1 : Int) : Option Int := some (Sp.against l0 a1)
def group_Free.f (l0 : List Int) (a1 : Int) : Option (Bool) := (group_Against.f l0 a1).bind fun t101 => (if t101 = (-1) then (some false) else (some ((Go.bits .and .i64 t101 a1) == 0)))
def group_Sets.l0 : Nat → List Int → List Int → Int → Int → Option (List Int)
  | 0, _, _, _, _ => none
  | k + 1, x0, x3, x10, x11 => if x11 < x10 then ((group_Free.f x0 x11).bind fun t103 => (if t103 = true then ((group_Against.f x0 x11).bind fun t104 => (if (Go.bits .or .i64 t104 x11) = (wrap64 ((shl .i64 1 (x0.length : Int)) - 1)) then (if x3.length < 17592186044416 then (group_Sets.l0 k x0 (x3 ++ [x11]) x10 (wrap64 (x11 + 1))) else (none)) else (group_Sets.l0 k x0 x3 x10 (wrap64 (x11 + 1))))) else (group_Sets.l0 k x0 x3 x10 (wrap64 (x11 + 1))))) else (some x3)
def group_Sets.f (k : Nat) (l0 : List Int) : Option (List Int) := (group_May.f l0).bind fun t102 => (if t102 = true then (group_Sets.l0 k l0 ([] : List Int) (shl .i64 1 (l0.length : Int)) 0) else (some ([] : List Int)))
theorem group_Sets.mono_l : ∀ k, (∀ y0 y1 y2 y3, LeO (group_Sets.l0 k y0 y1 y2 y3) (group_Sets.l0 (k + 1) y0 y1 y2 y3))
  | 0 => fun _ _ _ _ r h => by simp [group_Sets.l0] at h
  | k + 1 => by
    have ih0 := group_Sets.mono_l k
    · intro y0 y1 y2 y3
      unfold group_Sets.l0
      repeat' first
      | (with_reducible exact ih0 _ _ _ _)
      | (with_reducible exact LeO.refl _)
      | (with_reducible exact LeO.none _)
      | (with_reducible refine LeO.ite ?_ ?_)
      | (with_reducible refine LeO.bind ?_ (fun _ => ?_))
      | exact ih0 _ _ _ _
      | exact LeO.none _
      | refine LeO.ite ?_ ?_
      | refine LeO.bind ?_ (fun _ => ?_)
theorem group_Sets.mono : ∀ a0 k, LeO (group_Sets.f k a0) (group_Sets.f (k + 1) a0) := by
  intro a0 k
  have ih0 := group_Sets.mono_l k
  unfold group_Sets.f
  repeat' first
      | (with_reducible exact ih0 _ _ _ _)
      | (with_reducible exact LeO.refl _)
      | (with_reducible exact LeO.none _)
      | (with_reducible refine LeO.ite ?_ ?_)
      | (with_reducible refine LeO.bind ?_ (fun _ => ?_))
      | exact ih0 _ _ _ _
      | exact LeO.none _
      | refine LeO.ite ?_ ?_
      | refine LeO.bind ?_ (fun _ => ?_)
def group_List.f (a0 : Int) : Option (List Int) := some (Sp.groupsOf a0)
def group_Of.l0 : Nat → Int → List Int → Int → Int → Option (Int)
  | 0, _, _, _, _ => none
  | k + 1, x3, x6, x7, x8 => if x8 < x7 then (if 0 ≤ x8 then (if x8 < (x6.length : Int) then (if (rd x6 x8) < 0 then (some (-1)) else (if (rd x6 x8) ≥ 8 then (some (-1)) else (if 0 ≤ (rd x6 x8) then (if (Go.bits .and .i64 (shr .i64 x3 (rd x6 x8)) 1) = 1 then (some (-1)) else (group_Of.l0 k (Go.bits .or .i64 x3 (shl .i64 1 (rd x6 x8))) x6 x7 (wrap64 (x8 + 1)))) else (none)))) else (none)) else (none)) else (some x3)
def group_Of.f (k : Nat) (l0 : List Int) : Option (Int) := group_Of.l0 k 0 l0 (l0.length : Int) 0
theorem group_Of.mono_l : ∀ k, (∀ y0 y1 y2 y3, LeO (group_Of.l0 k y0 y1 y2 y3) (group_Of.l0 (k + 1) y0 y1 y2 y3))
  | 0 => fun _ _ _ _ r h => by simp [group_Of.l0] at h
  | k + 1 => by
    have ih0 := group_Of.mono_l k
    · intro y0 y1 y2 y3
      unfold group_Of.l0
      repeat' first
      | (with_reducible exact ih0 _ _ _ _)
      | (with_reducible exact LeO.refl _)
      | (with_reducible exact LeO.none _)
      | (with_reducible refine LeO.ite ?_ ?_)
      | (with_reducible refine LeO.bind ?_ (fun _ => ?_))
      | exact ih0 _ _ _ _
      | exact LeO.none _
      | refine LeO.ite ?_ ?_
      | refine LeO.bind ?_ (fun _ => ?_)
theorem group_Of.mono : ∀ a0 k, LeO (group_Of.f k a0) (group_Of.f (k + 1) a0) := by
  intro a0 k
  have ih0 := group_Of.mono_l k
  unfold group_Of.f
  repeat' first
      | (with_reducible exact ih0 _ _ _ _)
      | (with_reducible exact LeO.refl _)
      | (with_reducible exact LeO.none _)
      | (with_reducible refine LeO.ite ?_ ?_)
      | (with_reducible refine LeO.bind ?_ (fun _ => ?_))
      | exact ih0 _ _ _ _
      | exact LeO.none _
      | refine LeO.ite ?_ ?_
      | refine LeO.bind ?_ (fun _ => ?_)
def pelicanlaw13_awake.f (k : Nat)  : Option (Bool) := (some (([2, 1, 0] : List Int) : List Int)).bind fun y109 => ((group_Sets.f k y109).bind fun t112 => ((group_May.f y109).bind fun t115 => (if t115 = true then (if (t112.length : Int) = 2 then (if 0 < (t112.length : Int) then (if (rd t112 0) = 5 then (if 1 < (t112.length : Int) then (if (rd t112 1) = 6 then ((group_Free.f y109 5).bind fun t118 => (if t118 = true then ((group_Free.f y109 3).bind fun t119 => (if t119 = true then (some false) else ((group_Against.f y109 1).bind fun t120 => (if t120 = 2 then ((group_Of.f k (([0, 2] : List Int))).bind fun t124 => (if t124 = 5 then ((group_List.f 5).bind fun t125 => (some ((t125.length : Int) == 2))) else (some false))) else (some false))))) else (some false))) else (some false)) else (none)) else (some false)) else (none)) else (some false)) else (some false))))
theorem pelicanlaw13_awake.mono : ∀ k, LeO (pelicanlaw13_awake.f k ) (pelicanlaw13_awake.f (k + 1) ) := by
  intro  k
  unfold pelicanlaw13_awake.f
  repeat' first
      | (with_reducible exact group_Of.mono _ _)
      | (with_reducible exact group_Sets.mono _ _)
      | (with_reducible exact LeO.refl _)
      | (with_reducible exact LeO.none _)
      | (with_reducible refine LeO.ite ?_ ?_)
      | (with_reducible refine LeO.bind ?_ (fun _ => ?_))
      | exact group_Of.mono _ _
      | exact group_Sets.mono _ _
      | exact LeO.none _
      | refine LeO.ite ?_ ?_
      | refine LeO.bind ?_ (fun _ => ?_)
def pelicanref05_Ints.l0 : Nat → List Int → List Int → Int → Option (Bool)
  | 0, _, _, _ => none
  | k + 1, x0, x1, x5 => if x5 < (x0.length : Int) then (if 0 ≤ x5 then (if x5 < (x1.length : Int) then (if (rd x0 x5) = (rd x1 x5) then (pelicanref05_Ints.l0 k x0 x1 (wrap64 (x5 + 1))) else (some false)) else (none)) else (none)) else (some true)
def pelicanref05_Ints.f (k : Nat) (l0 : List Int) (l1 : List Int) : Option (Bool) := if (l0.length : Int) = (l1.length : Int) then (pelicanref05_Ints.l0 k l0 l1 0) else (some false)
theorem pelicanref05_Ints.mono_l : ∀ k, (∀ y0 y1 y2, LeO (pelicanref05_Ints.l0 k y0 y1 y2) (pelicanref05_Ints.l0 (k + 1) y0 y1 y2))
  | 0 => fun _ _ _ r h => by simp [pelicanref05_Ints.l0] at h
  | k + 1 => by
    have ih0 := pelicanref05_Ints.mono_l k
    · intro y0 y1 y2
      unfold pelicanref05_Ints.l0
      repeat' first
      | (with_reducible exact ih0 _ _ _)
      | (with_reducible exact LeO.refl _)
      | (with_reducible exact LeO.none _)
      | (with_reducible refine LeO.ite ?_ ?_)
      | (with_reducible refine LeO.bind ?_ (fun _ => ?_))
      | exact ih0 _ _ _
      | exact LeO.none _
      | refine LeO.ite ?_ ?_
      | refine LeO.bind ?_ (fun _ => ?_)
theorem pelicanref05_Ints.mono : ∀ a0 a1 k, LeO (pelicanref05_Ints.f k a0 a1) (pelicanref05_Ints.f (k + 1) a0 a1) := by
  intro a0 a1 k
  have ih0 := pelicanref05_Ints.mono_l k
  unfold pelicanref05_Ints.f
  repeat' first
      | (with_reducible exact ih0 _ _ _)
      | (with_reducible exact LeO.refl _)
      | (with_reducible exact LeO.none _)
      | (with_reducible refine LeO.ite ?_ ?_)
      | (with_reducible refine LeO.bind ?_ (fun _ => ?_))
      | exact ih0 _ _ _
      | exact LeO.none _
      | refine LeO.ite ?_ ?_
      | refine LeO.bind ?_ (fun _ => ?_)
def plan_in.f (a0 : Int) (a1 : Int) (a2 : Int) : Option (Bool) := if a0 ≥ a1 then (some (decide (a0 ≤ a2))) else (some false)
def plan_draft_stages.l0 : Nat → Int → Bool → List (S47) → Int → Int → List Int → List (S47) → Int → Int → Int → Option (Int × Bool)
  | 0, _, _, _, _, _, _, _, _, _, _ => none
  | k + 1, x4, x5, x10, x11, x12, x232000, x232001, x232002, x232003, x232004 => if x12 < x11 then (if 0 ≤ x12 then (if x12 < (x10.length : Int) then ((group_Free.f x232000 ((rd_T47 x10 x12).f0)).bind fun t234 => (if t234 = true then (if ((rd_T47 x10 x12).f0) = 0 then (some (x4, false)) else ((plan_in.f ((rd_T47 x10 x12).f1) 1 200).bind fun t235 => (if t235 = true then ((plan_in.f ((rd_T47 x10 x12).f2) ((rd_T47 x10 x12).f1) 200).bind fun t236 => (if t236 = true then (plan_draft_stages.l0 k (Go.bits .or .i64 x4 ((rd_T47 x10 x12).f0)) x5 x10 x11 (wrap64 (x12 + 1)) x232000 x232001 x232002 x232003 x232004) else (some (x4, false)))) else (some (x4, false))))) else (some (x4, false)))) else (none)) else (none)) else (some (x4, x5))
def plan_draft_stages.f (k : Nat) (l0_0 : List Int) (l0_1 : List (S47)) (a0_2 : Int) (a0_3 : Int) (a0_4 : Int) : Option (Int × Bool) := plan_draft_stages.l0 k 0 true l0_1 (l0_1.length : Int) 0 l0_0 l0_1 a0_2 a0_3 a0_4
theorem plan_draft_stages.mono_l : ∀ k, (∀ y0 y1 y2 y3 y4 y5 y6 y7 y8 y9, LeO (plan_draft_stages.l0 k y0 y1 y2 y3 y4 y5 y6 y7 y8 y9) (plan_draft_stages.l0 (k + 1) y0 y1 y2 y3 y4 y5 y6 y7 y8 y9))
  | 0 => fun _ _ _ _ _ _ _ _ _ _ r h => by simp [plan_draft_stages.l0] at h
  | k + 1 => by
    have ih0 := plan_draft_stages.mono_l k
    · intro y0 y1 y2 y3 y4 y5 y6 y7 y8 y9
      unfold plan_draft_stages.l0
      repeat' first
      | (with_reducible exact ih0 _ _ _ _ _ _ _ _ _ _)
      | (with_reducible exact LeO.refl _)
      | (with_reducible exact LeO.none _)
      | (with_reducible refine LeO.ite ?_ ?_)
      | (with_reducible refine LeO.bind ?_ (fun _ => ?_))
      | exact ih0 _ _ _ _ _ _ _ _ _ _
      | exact LeO.none _
      | refine LeO.ite ?_ ?_
      | refine LeO.bind ?_ (fun _ => ?_)
theorem plan_draft_stages.mono : ∀ a0 a1 a2 a3 a4 k, LeO (plan_draft_stages.f k a0 a1 a2 a3 a4) (plan_draft_stages.f (k + 1) a0 a1 a2 a3 a4) := by
  intro a0 a1 a2 a3 a4 k
  have ih0 := plan_draft_stages.mono_l k
  unfold plan_draft_stages.f
  repeat' first
      | (with_reducible exact ih0 _ _ _ _ _ _ _ _ _ _)
      | (with_reducible exact LeO.refl _)
      | (with_reducible exact LeO.none _)
      | (with_reducible refine LeO.ite ?_ ?_)
      | (with_reducible refine LeO.bind ?_ (fun _ => ?_))
      | exact ih0 _ _ _ _ _ _ _ _ _ _
      | exact LeO.none _
      | refine LeO.ite ?_ ?_
      | refine LeO.bind ?_ (fun _ => ?_)
def plan_draft_times.f (l0_0 : List Int) (l0_1 : List (S47)) (a0_2 : Int) (a0_3 : Int) (a0_4 : Int) : Option (Bool) := (plan_in.f a0_2 1 200).bind fun t238 => (if t238 = true then ((plan_in.f a0_3 1 200).bind fun t239 => (if t239 = true then ((plan_in.f a0_4 0 300).bind fun t240 => (some t240)) else (some false))) else (some false))
def plan_Fit.f (k : Nat) (l0_0 : List Int) (l0_1 : List (S47)) (a0_2 : Int) (a0_3 : Int) (a0_4 : Int) : Option (Bool) := (plan_draft_stages.f k l0_0 l0_1 a0_2 a0_3 a0_4).bind fun bt243 => (if bt243.2 = true then ((group_May.f l0_0).bind fun t245 => (if t245 = true then ((plan_in.f (l0_1.length : Int) 2 6).bind fun t246 => (if t246 = true then (if bt243.1 = (wrap64 ((shl .i64 1 (l0_0.length : Int)) - 1)) then ((plan_draft_times.f l0_0 l0_1 a0_2 a0_3 a0_4).bind fun t247 => (some t247)) else (some false)) else (some false))) else (some false))) else (some false))
theorem plan_Fit.mono : ∀ a0 a1 a2 a3 a4 k, LeO (plan_Fit.f k a0 a1 a2 a3 a4) (plan_Fit.f (k + 1) a0 a1 a2 a3 a4) := by
  intro a0 a1 a2 a3 a4 k
  unfold plan_Fit.f
  repeat' first
      | (with_reducible exact plan_draft_stages.mono _ _ _ _ _ _)
      | (with_reducible exact LeO.refl _)
      | (with_reducible exact LeO.none _)
      | (with_reducible refine LeO.ite ?_ ?_)
      | (with_reducible refine LeO.bind ?_ (fun _ => ?_))
      | exact plan_draft_stages.mono _ _ _ _ _ _
      | exact LeO.none _
      | refine LeO.ite ?_ ?_
      | refine LeO.bind ?_ (fun _ => ?_)
def plan_stageB.f (m : List Int) (s : S47) : Bool := (if Sp.against m s.f0 = -1 then false else (Go.bits .and .i64 (Sp.against m s.f0) s.f0 == 0)) && (decide (s.f0 ≠ 0) && (decide (1 ≤ s.f1 ∧ s.f1 ≤ 200) && decide (s.f1 ≤ s.f2 ∧ s.f2 ≤ 200)))
def plan_fitB.f (m : List Int) (ss : List S47) (am red hold : Int) : Bool := ss.all (plan_stageB.f m) && (Sp.may m && (decide (2 ≤ ss.length ∧ ss.length ≤ 6) && (decide (ss.foldl (fun o s => Go.bits .or .i64 o s.f0) 0 = wrap64 ((shl .i64 1 (m.length : Int)) - 1)) && (decide (1 ≤ am ∧ am ≤ 200) && (decide (1 ≤ red ∧ red ≤ 200) && decide (0 ≤ hold ∧ hold ≤ 300))))))
def plan_badB.f (n : Nat) (x : S37) : Bool := !(plan_fitB.f x.f0 x.f1 x.f2 x.f3 x.f4) || decide (x.f0.length ≠ n)
def plan_All.f (l0 : List S37) : Option Bool := some (decide (1 ≤ l0.length ∧ l0.length ≤ 3) && !(l0.any (plan_badB.f (rd_T37 l0 0).f0.length)))
def slices_Equal_int_int.l0 : Nat → List Int → List Int → Int → Int → Option (Bool)
  | 0, _, _, _, _ => none
  | k + 1, x0, x1, x12, x13 => if x13 < x12 then (if 0 ≤ x13 then (if x13 < (x0.length : Int) then (if x13 < (x1.length : Int) then (if (rd x0 x13) = (rd x1 x13) then (slices_Equal_int_int.l0 k x0 x1 x12 (wrap64 (x13 + 1))) else (some false)) else (none)) else (none)) else (none)) else (some true)
def slices_Equal_int_int.f (k : Nat) (l0 : List Int) (l1 : List Int) : Option (Bool) := if (l0.length : Int) = (l1.length : Int) then (slices_Equal_int_int.l0 k l0 l1 (l0.length : Int) 0) else (some false)
theorem slices_Equal_int_int.mono_l : ∀ k, (∀ y0 y1 y2 y3, LeO (slices_Equal_int_int.l0 k y0 y1 y2 y3) (slices_Equal_int_int.l0 (k + 1) y0 y1 y2 y3))
  | 0 => fun _ _ _ _ r h => by simp [slices_Equal_int_int.l0] at h
  | k + 1 => by
    have ih0 := slices_Equal_int_int.mono_l k
    · intro y0 y1 y2 y3
      unfold slices_Equal_int_int.l0
      repeat' first
      | (with_reducible exact ih0 _ _ _ _)
      | (with_reducible exact LeO.refl _)
      | (with_reducible exact LeO.none _)
      | (with_reducible refine LeO.ite ?_ ?_)
      | (with_reducible refine LeO.bind ?_ (fun _ => ?_))
      | exact ih0 _ _ _ _
      | exact LeO.none _
      | refine LeO.ite ?_ ?_
      | refine LeO.bind ?_ (fun _ => ?_)
theorem slices_Equal_int_int.mono : ∀ a0 a1 k, LeO (slices_Equal_int_int.f k a0 a1) (slices_Equal_int_int.f (k + 1) a0 a1) := by
  intro a0 a1 k
  have ih0 := slices_Equal_int_int.mono_l k
  unfold slices_Equal_int_int.f
  repeat' first
      | (with_reducible exact ih0 _ _ _ _)
      | (with_reducible exact LeO.refl _)
      | (with_reducible exact LeO.none _)
      | (with_reducible refine LeO.ite ?_ ?_)
      | (with_reducible refine LeO.bind ?_ (fun _ => ?_))
      | exact ih0 _ _ _ _
      | exact LeO.none _
      | refine LeO.ite ?_ ?_
      | refine LeO.bind ?_ (fun _ => ?_)
def api_Stage.l0 : Nat → List (S47) → List (S47) → Int → Int → Option (Bool)
  | 0, _, _, _, _ => none
  | k + 1, x0, x1, x12, x13 => if x13 < x12 then (if 0 ≤ x13 then (if x13 < (x0.length : Int) then (if x13 < (x1.length : Int) then (if (!(((rd_T47 x0 x13).f0) == ((rd_T47 x1 x13).f0)) || (!(((rd_T47 x0 x13).f1) == ((rd_T47 x1 x13).f1)) || (!(((rd_T47 x0 x13).f2) == ((rd_T47 x1 x13).f2))))) = true then (some false) else (api_Stage.l0 k x0 x1 x12 (wrap64 (x13 + 1)))) else (none)) else (none)) else (none)) else (some true)
def api_Stage.f (k : Nat) (l0 : List (S47)) (l1 : List (S47)) : Option (Bool) := if (l0.length : Int) = (l1.length : Int) then (api_Stage.l0 k l0 l1 (l0.length : Int) 0) else (some false)
theorem api_Stage.mono_l : ∀ k, (∀ y0 y1 y2 y3, LeO (api_Stage.l0 k y0 y1 y2 y3) (api_Stage.l0 (k + 1) y0 y1 y2 y3))
  | 0 => fun _ _ _ _ r h => by simp [api_Stage.l0] at h
  | k + 1 => by
    have ih0 := api_Stage.mono_l k
    · intro y0 y1 y2 y3
      unfold api_Stage.l0
      repeat' first
      | (with_reducible exact ih0 _ _ _ _)
      | (with_reducible exact LeO.refl _)
      | (with_reducible exact LeO.none _)
      | (with_reducible refine LeO.ite ?_ ?_)
      | (with_reducible refine LeO.bind ?_ (fun _ => ?_))
      | exact ih0 _ _ _ _
      | exact LeO.none _
      | refine LeO.ite ?_ ?_
      | refine LeO.bind ?_ (fun _ => ?_)
theorem api_Stage.mono : ∀ a0 a1 k, LeO (api_Stage.f k a0 a1) (api_Stage.f (k + 1) a0 a1) := by
  intro a0 a1 k
  have ih0 := api_Stage.mono_l k
  unfold api_Stage.f
  repeat' first
      | (with_reducible exact ih0 _ _ _ _)
      | (with_reducible exact LeO.refl _)
      | (with_reducible exact LeO.none _)
      | (with_reducible refine LeO.ite ?_ ?_)
      | (with_reducible refine LeO.bind ?_ (fun _ => ?_))
      | exact ih0 _ _ _ _
      | exact LeO.none _
      | refine LeO.ite ?_ ?_
      | refine LeO.bind ?_ (fun _ => ?_)
def plan_Same.f (k : Nat) (l0_0 : List Int) (l0_1 : List (S47)) (a0_2 : Int) (a0_3 : Int) (a0_4 : Int) (l1_0 : List Int) (l1_1 : List (S47)) (a1_2 : Int) (a1_3 : Int) (a1_4 : Int) : Option (Bool) := (slices_Equal_int_int.f k l0_0 l1_0).bind fun t254 => (if t254 = true then ((api_Stage.f k l0_1 l1_1).bind fun t255 => (if t255 = true then (if a0_2 = a1_2 then (if a0_3 = a1_3 then (some (a0_4 == a1_4)) else (some false)) else (some false)) else (some false))) else (some false))
theorem plan_Same.mono : ∀ a0 a1 a2 a3 a4 a5 a6 a7 a8 a9 k, LeO (plan_Same.f k a0 a1 a2 a3 a4 a5 a6 a7 a8 a9) (plan_Same.f (k + 1) a0 a1 a2 a3 a4 a5 a6 a7 a8 a9) := by
  intro a0 a1 a2 a3 a4 a5 a6 a7 a8 a9 k
  unfold plan_Same.f
  repeat' first
      | (with_reducible exact api_Stage.mono _ _ _)
      | (with_reducible exact slices_Equal_int_int.mono _ _ _)
      | (with_reducible exact LeO.refl _)
      | (with_reducible exact LeO.none _)
      | (with_reducible refine LeO.ite ?_ ?_)
      | (with_reducible refine LeO.bind ?_ (fun _ => ?_))
      | exact api_Stage.mono _ _ _
      | exact slices_Equal_int_int.mono _ _ _
      | exact LeO.none _
      | refine LeO.ite ?_ ?_
      | refine LeO.bind ?_ (fun _ => ?_)
def plan_Next.f (k : Nat) (l0_0 : List Int) (l0_1 : List (S47)) (a0_2 : Int) (a0_3 : Int) (a0_4 : Int) (a1 : Int) : Option (Int) := (plan_Fit.f k l0_0 l0_1 a0_2 a0_3 a0_4).bind fun t257 => (if t257 = true then ((plan_in.f a1 0 (wrap64 ((l0_1.length : Int) - 1))).bind fun t258 => (if t258 = true then (if (l0_1.length : Int) = 0 then (none) else (some (Int.tmod (wrap64 (a1 + 1)) (l0_1.length : Int)))) else (some (-1)))) else (some (-1)))
theorem plan_Next.mono : ∀ a0 a1 a2 a3 a4 a5 k, LeO (plan_Next.f k a0 a1 a2 a3 a4 a5) (plan_Next.f (k + 1) a0 a1 a2 a3 a4 a5) := by
  intro a0 a1 a2 a3 a4 a5 k
  unfold plan_Next.f
  repeat' first
      | (with_reducible exact plan_Fit.mono _ _ _ _ _ _)
      | (with_reducible exact LeO.refl _)
      | (with_reducible exact LeO.none _)
      | (with_reducible refine LeO.ite ?_ ?_)
      | (with_reducible refine LeO.bind ?_ (fun _ => ?_))
      | exact plan_Fit.mono _ _ _ _ _ _
      | exact LeO.none _
      | refine LeO.ite ?_ ?_
      | refine LeO.bind ?_ (fun _ => ?_)
mutual
def plan_Least.j0 : Nat → Int → Bool → List Int → List (S47) → Int → Int → Int → Option (Int)
  | 0, _, _, _, _, _, _, _ => none
  | k + 1, x1, x19, x260000, x260001, x260002, x260003, x260004 => if x19 = true then (some 0) else (plan_Least.l0 k x1 200 x260001 (x260001.length : Int) 0)
def plan_Least.l0 : Nat → Int → Int → List (S47) → Int → Int → Option (Int)
  | 0, _, _, _, _, _ => none
  | k + 1, x1, x5, x21, x22, x23 => if x23 < x22 then (if 0 ≤ x23 then (if x23 < (x21.length : Int) then (if 0 ≤ x1 then (if (Go.bits .and .i64 (shr .i64 ((rd_T47 x21 x23).f0) x1) 1) = 1 then (plan_Least.l0 k x1 (mn x5 ((rd_T47 x21 x23).f1)) x21 x22 (wrap64 (x23 + 1))) else (plan_Least.l0 k x1 x5 x21 x22 (wrap64 (x23 + 1)))) else (none)) else (none)) else (none)) else (some x5)
end
def plan_Least.f (k : Nat) (l0_0 : List Int) (l0_1 : List (S47)) (a0_2 : Int) (a0_3 : Int) (a0_4 : Int) (a1 : Int) : Option (Int) := (plan_Fit.f k l0_0 l0_1 a0_2 a0_3 a0_4).bind fun t260 => (if t260 = true then ((plan_in.f a1 0 (wrap64 ((l0_0.length : Int) - 1))).bind fun t261 => (plan_Least.j0 k a1 (!t261) l0_0 l0_1 a0_2 a0_3 a0_4)) else (plan_Least.j0 k a1 true l0_0 l0_1 a0_2 a0_3 a0_4))
theorem plan_Least.mono_l : ∀ k, (∀ y0 y1 y2 y3 y4 y5 y6, LeO (plan_Least.j0 k y0 y1 y2 y3 y4 y5 y6) (plan_Least.j0 (k + 1) y0 y1 y2 y3 y4 y5 y6)) ∧ (∀ y0 y1 y2 y3 y4, LeO (plan_Least.l0 k y0 y1 y2 y3 y4) (plan_Least.l0 (k + 1) y0 y1 y2 y3 y4))
  | 0 => ⟨fun _ _ _ _ _ _ _ r h => by simp [plan_Least.j0] at h, fun _ _ _ _ _ r h => by simp [plan_Least.l0] at h⟩
  | k + 1 => by
    obtain ⟨ih0, ih1⟩ := plan_Least.mono_l k
    refine ⟨?_, ?_⟩
    · intro y0 y1 y2 y3 y4 y5 y6
      unfold plan_Least.j0
      repeat' first
      | (with_reducible exact ih0 _ _ _ _ _ _ _)
      | (with_reducible exact ih1 _ _ _ _ _)
      | (with_reducible exact plan_Fit.mono _ _ _ _ _ _)
      | (with_reducible exact LeO.refl _)
      | (with_reducible exact LeO.none _)
      | (with_reducible refine LeO.ite ?_ ?_)
      | (with_reducible refine LeO.bind ?_ (fun _ => ?_))
      | exact ih0 _ _ _ _ _ _ _
      | exact ih1 _ _ _ _ _
      | exact plan_Fit.mono _ _ _ _ _ _
      | exact LeO.none _
      | refine LeO.ite ?_ ?_
      | refine LeO.bind ?_ (fun _ => ?_)
    · intro y0 y1 y2 y3 y4
      unfold plan_Least.l0
      repeat' first
      | (with_reducible exact ih0 _ _ _ _ _ _ _)
      | (with_reducible exact ih1 _ _ _ _ _)
      | (with_reducible exact plan_Fit.mono _ _ _ _ _ _)
      | (with_reducible exact LeO.refl _)
      | (with_reducible exact LeO.none _)
      | (with_reducible refine LeO.ite ?_ ?_)
      | (with_reducible refine LeO.bind ?_ (fun _ => ?_))
      | exact ih0 _ _ _ _ _ _ _
      | exact ih1 _ _ _ _ _
      | exact plan_Fit.mono _ _ _ _ _ _
      | exact LeO.none _
      | refine LeO.ite ?_ ?_
      | refine LeO.bind ?_ (fun _ => ?_)
theorem plan_Least.mono : ∀ a0 a1 a2 a3 a4 a5 k, LeO (plan_Least.f k a0 a1 a2 a3 a4 a5) (plan_Least.f (k + 1) a0 a1 a2 a3 a4 a5) := by
  intro a0 a1 a2 a3 a4 a5 k
  obtain ⟨ih0, ih1⟩ := plan_Least.mono_l k
  unfold plan_Least.f
  repeat' first
      | (with_reducible exact ih0 _ _ _ _ _ _ _)
      | (with_reducible exact ih1 _ _ _ _ _)
      | (with_reducible exact plan_Fit.mono _ _ _ _ _ _)
      | (with_reducible exact LeO.refl _)
      | (with_reducible exact LeO.none _)
      | (with_reducible refine LeO.ite ?_ ?_)
      | (with_reducible refine LeO.bind ?_ (fun _ => ?_))
      | exact ih0 _ _ _ _ _ _ _
      | exact ih1 _ _ _ _ _
      | exact plan_Fit.mono _ _ _ _ _ _
      | exact LeO.none _
      | refine LeO.ite ?_ ?_
      | refine LeO.bind ?_ (fun _ => ?_)
def plan_Cycle.l0 : Nat → Int → List (S47) → Int → Int → List Int → List (S47) → Int → Int → Int → Option (Int)
  | 0, _, _, _, _, _, _, _, _, _ => none
  | k + 1, x3, x10, x11, x12, x265000, x265001, x265002, x265003, x265004 => if x12 < x11 then (if 0 ≤ x12 then (if x12 < (x10.length : Int) then (plan_Cycle.l0 k (wrap64 (x3 + (wrap64 ((wrap64 (((rd_T47 x10 x12).f1) + x265002)) + x265003)))) x10 x11 (wrap64 (x12 + 1)) x265000 x265001 x265002 x265003 x265004) else (none)) else (none)) else (some x3)
def plan_Cycle.f (k : Nat) (l0_0 : List Int) (l0_1 : List (S47)) (a0_2 : Int) (a0_3 : Int) (a0_4 : Int) : Option (Int) := (plan_Fit.f k l0_0 l0_1 a0_2 a0_3 a0_4).bind fun t265 => (if t265 = true then (plan_Cycle.l0 k 0 l0_1 (l0_1.length : Int) 0 l0_0 l0_1 a0_2 a0_3 a0_4) else (some 0))
theorem plan_Cycle.mono_l : ∀ k, (∀ y0 y1 y2 y3 y4 y5 y6 y7 y8, LeO (plan_Cycle.l0 k y0 y1 y2 y3 y4 y5 y6 y7 y8) (plan_Cycle.l0 (k + 1) y0 y1 y2 y3 y4 y5 y6 y7 y8))
  | 0 => fun _ _ _ _ _ _ _ _ _ r h => by simp [plan_Cycle.l0] at h
  | k + 1 => by
    have ih0 := plan_Cycle.mono_l k
    · intro y0 y1 y2 y3 y4 y5 y6 y7 y8
      unfold plan_Cycle.l0
      repeat' first
      | (with_reducible exact ih0 _ _ _ _ _ _ _ _ _)
      | (with_reducible exact plan_Fit.mono _ _ _ _ _ _)
      | (with_reducible exact LeO.refl _)
      | (with_reducible exact LeO.none _)
      | (with_reducible refine LeO.ite ?_ ?_)
      | (with_reducible refine LeO.bind ?_ (fun _ => ?_))
      | exact ih0 _ _ _ _ _ _ _ _ _
      | exact plan_Fit.mono _ _ _ _ _ _
      | exact LeO.none _
      | refine LeO.ite ?_ ?_
      | refine LeO.bind ?_ (fun _ => ?_)
theorem plan_Cycle.mono : ∀ a0 a1 a2 a3 a4 k, LeO (plan_Cycle.f k a0 a1 a2 a3 a4) (plan_Cycle.f (k + 1) a0 a1 a2 a3 a4) := by
  intro a0 a1 a2 a3 a4 k
  have ih0 := plan_Cycle.mono_l k
  unfold plan_Cycle.f
  repeat' first
      | (with_reducible exact ih0 _ _ _ _ _ _ _ _ _)
      | (with_reducible exact plan_Fit.mono _ _ _ _ _ _)
      | (with_reducible exact LeO.refl _)
      | (with_reducible exact LeO.none _)
      | (with_reducible refine LeO.ite ?_ ?_)
      | (with_reducible refine LeO.bind ?_ (fun _ => ?_))
      | exact ih0 _ _ _ _ _ _ _ _ _
      | exact plan_Fit.mono _ _ _ _ _ _
      | exact LeO.none _
      | refine LeO.ite ?_ ?_
      | refine LeO.bind ?_ (fun _ => ?_)
def pelicanlaw14_Two.f  : Option (List Int × (List (S47)) × Int × Int × Int) := some ((([2, 1] : List Int)), (([(⟨1, 5, 9⟩ : S47), (⟨2, 7, 8⟩ : S47)] : List (S47))), 3, 2, 4)
def pelicanlaw14_awake.f (k : Nat)  : Option (Bool) := (pelicanlaw14_Two.f).bind fun bt275 => ((plan_Fit.f k bt275.1 bt275.2.1 bt275.2.2.1 bt275.2.2.2.1 bt275.2.2.2.2).bind fun t285 => (if t285 = true then ((plan_Cycle.f k bt275.1 bt275.2.1 bt275.2.2.1 bt275.2.2.2.1 bt275.2.2.2.2).bind fun t286 => (if t286 = 22 then ((plan_Next.f k bt275.1 bt275.2.1 bt275.2.2.1 bt275.2.2.2.1 bt275.2.2.2.2 0).bind fun t287 => (if t287 = 1 then ((plan_Next.f k bt275.1 bt275.2.1 bt275.2.2.1 bt275.2.2.2.1 bt275.2.2.2.2 1).bind fun t288 => (if t288 = 0 then ((plan_Least.f k bt275.1 bt275.2.1 bt275.2.2.1 bt275.2.2.2.1 bt275.2.2.2.2 1).bind fun t289 => (if t289 = 7 then ((plan_All.f (([(⟨bt275.1, bt275.2.1, bt275.2.2.1, bt275.2.2.2.1, bt275.2.2.2.2⟩ : S37), (⟨bt275.1, bt275.2.1, bt275.2.2.1, bt275.2.2.2.1, bt275.2.2.2.2⟩ : S37)] : List (S37)))).bind fun t293 => (if t293 = true then ((plan_Same.f k bt275.1 bt275.2.1 bt275.2.2.1 bt275.2.2.2.1 bt275.2.2.2.2 bt275.1 bt275.2.1 bt275.2.2.1 bt275.2.2.2.1 bt275.2.2.2.2).bind fun t294 => (some t294)) else (some false))) else (some false))) else (some false))) else (some false))) else (some false))) else (some false)))
theorem pelicanlaw14_awake.mono : ∀ k, LeO (pelicanlaw14_awake.f k ) (pelicanlaw14_awake.f (k + 1) ) := by
  intro  k
  unfold pelicanlaw14_awake.f
  repeat' first
      | (with_reducible exact plan_Cycle.mono _ _ _ _ _ _)
      | (with_reducible exact plan_Fit.mono _ _ _ _ _ _)
      | (with_reducible exact plan_Least.mono _ _ _ _ _ _ _)
      | (with_reducible exact plan_Next.mono _ _ _ _ _ _ _)
      | (with_reducible exact plan_Same.mono _ _ _ _ _ _ _ _ _ _ _)
      | (with_reducible exact LeO.refl _)
      | (with_reducible exact LeO.none _)
      | (with_reducible refine LeO.ite ?_ ?_)
      | (with_reducible refine LeO.bind ?_ (fun _ => ?_))
      | exact plan_Cycle.mono _ _ _ _ _ _
      | exact plan_Fit.mono _ _ _ _ _ _
      | exact plan_Least.mono _ _ _ _ _ _ _
      | exact plan_Next.mono _ _ _ _ _ _ _
      | exact plan_Same.mono _ _ _ _ _ _ _ _ _ _ _
      | exact LeO.none _
      | refine LeO.ite ?_ ?_
      | refine LeO.bind ?_ (fun _ => ?_)
def pelicanlaw14_Few.f (l0_0 : List Int) (l0_1 : List (S47)) (a0_2 : Int) (a0_3 : Int) (a0_4 : Int) : Option (Bool) := if (l0_0.length : Int) ≤ 10 then (some (decide ((l0_1.length : Int) ≤ 10))) else (some false)
mutual
def pelicanlaw14_FewAll.l0 : Nat → List (S37) → Int → Option (Bool)
  | 0, _, _ => none
  | k + 1, x0, x3 => if x3 < (x0.length : Int) then (pelicanlaw14_FewAll.j1 k x0 x3 (decide (x3 ≤ 5))) else (pelicanlaw14_FewAll.j1 k x0 x3 false)
def pelicanlaw14_FewAll.j1 : Nat → List (S37) → Int → Bool → Option (Bool)
  | 0, _, _, _ => none
  | k + 1, x0, x3, x12 => if x12 = true then (if 0 ≤ x3 then (if x3 < (x0.length : Int) then ((pelicanlaw14_Few.f ((rd_T37 x0 x3).f0) ((rd_T37 x0 x3).f1) ((rd_T37 x0 x3).f2) ((rd_T37 x0 x3).f3) ((rd_T37 x0 x3).f4)).bind fun t297 => (if t297 = true then (pelicanlaw14_FewAll.l0 k x0 (wrap64 (x3 + 1))) else (some false))) else (none)) else (none)) else (some (decide ((x0.length : Int) ≤ 5)))
end
def pelicanlaw14_FewAll.f (k : Nat) (l0 : List (S37)) : Option (Bool) := pelicanlaw14_FewAll.l0 k l0 0
theorem pelicanlaw14_FewAll.mono_l : ∀ k, (∀ y0 y1, LeO (pelicanlaw14_FewAll.l0 k y0 y1) (pelicanlaw14_FewAll.l0 (k + 1) y0 y1)) ∧ (∀ y0 y1 y2, LeO (pelicanlaw14_FewAll.j1 k y0 y1 y2) (pelicanlaw14_FewAll.j1 (k + 1) y0 y1 y2))
  | 0 => ⟨fun _ _ r h => by simp [pelicanlaw14_FewAll.l0] at h, fun _ _ _ r h => by simp [pelicanlaw14_FewAll.j1] at h⟩
  | k + 1 => by
    obtain ⟨ih0, ih1⟩ := pelicanlaw14_FewAll.mono_l k
    refine ⟨?_, ?_⟩
    · intro y0 y1
      unfold pelicanlaw14_FewAll.l0
      repeat' first
      | (with_reducible exact ih0 _ _)
      | (with_reducible exact ih1 _ _ _)
      | (with_reducible exact LeO.refl _)
      | (with_reducible exact LeO.none _)
      | (with_reducible refine LeO.ite ?_ ?_)
      | (with_reducible refine LeO.bind ?_ (fun _ => ?_))
      | exact ih0 _ _
      | exact ih1 _ _ _
      | exact LeO.none _
      | refine LeO.ite ?_ ?_
      | refine LeO.bind ?_ (fun _ => ?_)
    · intro y0 y1 y2
      unfold pelicanlaw14_FewAll.j1
      repeat' first
      | (with_reducible exact ih0 _ _)
      | (with_reducible exact ih1 _ _ _)
      | (with_reducible exact LeO.refl _)
      | (with_reducible exact LeO.none _)
      | (with_reducible refine LeO.ite ?_ ?_)
      | (with_reducible refine LeO.bind ?_ (fun _ => ?_))
      | exact ih0 _ _
      | exact ih1 _ _ _
      | exact LeO.none _
      | refine LeO.ite ?_ ?_
      | refine LeO.bind ?_ (fun _ => ?_)
theorem pelicanlaw14_FewAll.mono : ∀ a0 k, LeO (pelicanlaw14_FewAll.f k a0) (pelicanlaw14_FewAll.f (k + 1) a0) := by
  intro a0 k
  obtain ⟨ih0, ih1⟩ := pelicanlaw14_FewAll.mono_l k
  unfold pelicanlaw14_FewAll.f
  repeat' first
      | (with_reducible exact ih0 _ _)
      | (with_reducible exact ih1 _ _ _)
      | (with_reducible exact LeO.refl _)
      | (with_reducible exact LeO.none _)
      | (with_reducible refine LeO.ite ?_ ?_)
      | (with_reducible refine LeO.bind ?_ (fun _ => ?_))
      | exact ih0 _ _
      | exact ih1 _ _ _
      | exact LeO.none _
      | refine LeO.ite ?_ ?_
      | refine LeO.bind ?_ (fun _ => ?_)
end Go.Proofs.YtnogkpofgkaefaaDoor.F
