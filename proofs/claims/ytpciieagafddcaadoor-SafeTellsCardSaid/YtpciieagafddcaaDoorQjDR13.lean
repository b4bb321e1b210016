/- Woven by wip/weave/weave.py of this repo (own tool) out of the translation: the contracts of some functions. Lean checks it. -/
import Derived.Test.YtpciieagafddcaaDoorQjD
namespace Go.Proofs.YtpciieagafddcaaDoor.F
open Go.RowKit Go.Proofs.YtpciieagafddcaaDoorW.PrintWords Go.Proofs.YtpciieagafddcaaDoorW.PrintLast Go.Proofs.YtpciieagafddcaaDoorW.PrintMore
attribute [local go_sem] max2_int min2_int max_two min_two max_three min_three max_four min_four   -- for this text's walks alone
set_option linter.unusedVariables false
set_option linter.unusedSimpArgs false
def pelicanref13_pow.l0 : Nat → Int → Int → Int → Option (Int)
  | 0, _, _, _ => none
  | k + 1, x0, x3, x4 => if x4 < x0 then (pelicanref13_pow.l0 k x0 (wrap64 (2 * x3)) (wrap64 (x4 + 1))) else (some x3)
def pelicanref13_pow.f (k : Nat) (a0 : Int) : Option (Int) := pelicanref13_pow.l0 k a0 1 0
theorem pelicanref13_pow.mono_l : ∀ k, (∀ y0 y1 y2, LeO (pelicanref13_pow.l0 k y0 y1 y2) (pelicanref13_pow.l0 (k + 1) y0 y1 y2))
  | 0 => fun _ _ _ r h => by simp [pelicanref13_pow.l0] at h
  | k + 1 => by
    have ih0 := pelicanref13_pow.mono_l k
    · intro y0 y1 y2
      unfold pelicanref13_pow.l0
      repeat' first
      | (with_reducible exact ih0 _ _ _)
      | (with_reducible exact LeO.refl _)
      | (with_reducible exact LeO.none _)
      | (with_reducible refine LeO.ite ?_ ?_)
      | (with_reducible refine LeO.bind ?_ (fun _ => ?_))
      | exact ih0 _ _ _
      | exact LeO.none _
      | refine LeO.ite ?_ ?_
      | refine LeO.bind ?_ (fun _ => ?_)
theorem pelicanref13_pow.mono : ∀ a0 k, LeO (pelicanref13_pow.f k a0) (pelicanref13_pow.f (k + 1) a0) := by
  intro a0 k
  have ih0 := pelicanref13_pow.mono_l k
  unfold pelicanref13_pow.f
  repeat' first
      | (with_reducible exact ih0 _ _ _)
      | (with_reducible exact LeO.refl _)
      | (with_reducible exact LeO.none _)
      | (with_reducible refine LeO.ite ?_ ?_)
      | (with_reducible refine LeO.bind ?_ (fun _ => ?_))
      | exact ih0 _ _ _
      | exact LeO.none _
      | refine LeO.ite ?_ ?_
      | refine LeO.bind ?_ (fun _ => ?_)
def pelicanref13_In.f (k : Nat) (a0 : Int) (a1 : Int) : Option (Bool) := (pelicanref13_pow.f k a1).bind fun t168 => (if t168 = 0 then (none) else (some ((Int.tmod (wrap64 (Int.tdiv a0 t168)) 2) == 1)))
mutual
def pelicanref13_May.j0 : Nat → List Int → Int → Bool → Option (Bool)
  | 0, _, _, _ => none
  | k + 1, x0, x3, x16 => if x16 = true then (some false) else (pelicanref13_May.l0 k x0 x3 0)
def pelicanref13_May.l0 : Nat → List Int → Int → Int → Option (Bool)
  | 0, _, _, _ => none
  | k + 1, x0, x3, x4 => if x4 < x3 then (if 0 ≤ x4 then (if x4 < (x0.length : Int) then (if (rd x0 x4) < 0 then (some false) else ((pelicanref13_pow.f k x3).bind fun t171 => (if (rd x0 x4) ≥ t171 then (some false) else (pelicanref13_May.l0 k x0 x3 (wrap64 (x4 + 1)))))) else (none)) else (none)) else (pelicanref13_May.l1 k x0 x3 0)
def pelicanref13_May.l1 : Nat → List Int → Int → Int → Option (Bool)
  | 0, _, _, _ => none
  | k + 1, x0, x3, x5 => if x5 < x3 then (pelicanref13_May.l2 k x0 x3 x5 0) else (some true)
def pelicanref13_May.l2 : Nat → List Int → Int → Int → Int → Option (Bool)
  | 0, _, _, _, _ => none
  | k + 1, x0, x3, x5, x6 => if x6 < x3 then (if 0 ≤ x5 then (if x5 < (x0.length : Int) then ((pelicanref13_In.f k (rd x0 x5) x6).bind fun t173 => (if 0 ≤ x6 then (if x6 < (x0.length : Int) then ((pelicanref13_In.f k (rd x0 x6) x5).bind fun t175 => (if (t173 != t175) = true then (some false) else (if t173 = true then (if x5 = x6 then (some false) else (pelicanref13_May.l2 k x0 x3 x5 (wrap64 (x6 + 1)))) else (pelicanref13_May.l2 k x0 x3 x5 (wrap64 (x6 + 1)))))) else (none)) else (none))) else (none)) else (none)) else (pelicanref13_May.l1 k x0 x3 (wrap64 (x5 + 1)))
end
def pelicanref13_May.f (k : Nat) (l0 : List Int) : Option (Bool) := if (l0.length : Int) < 1 then (pelicanref13_May.j0 k l0 (l0.length : Int) true) else (pelicanref13_May.j0 k l0 (l0.length : Int) (decide ((l0.length : Int) > 8)))
mutual
def pelicanref13_Free.j0 : Nat → List Int → Int → Bool → Option (Bool)
  | 0, _, _, _ => none
  | k + 1, x0, x1, x25 => if x25 = true then (some false) else (pelicanref13_Free.l0 k x0 x1 0)
def pelicanref13_Free.l0 : Nat → List Int → Int → Int → Option (Bool)
  | 0, _, _, _ => none
  | k + 1, x0, x1, x6 => if x6 < (x0.length : Int) then (pelicanref13_Free.l1 k x0 x1 x6 0) else (some true)
def pelicanref13_Free.l1 : Nat → List Int → Int → Int → Int → Option (Bool)
  | 0, _, _, _, _ => none
  | k + 1, x0, x1, x6, x7 => if x7 < (x0.length : Int) then ((pelicanref13_In.f k x1 x6).bind fun t178 => ((pelicanref13_In.f k x1 x7).bind fun t179 => (if 0 ≤ x6 then (if x6 < (x0.length : Int) then ((pelicanref13_In.f k (rd x0 x6) x7).bind fun t181 => (if t178 = true then (if t179 = true then (if t181 = true then (some false) else (pelicanref13_Free.l1 k x0 x1 x6 (wrap64 (x7 + 1)))) else (pelicanref13_Free.l1 k x0 x1 x6 (wrap64 (x7 + 1)))) else (pelicanref13_Free.l1 k x0 x1 x6 (wrap64 (x7 + 1))))) else (none)) else (none)))) else (pelicanref13_Free.l0 k x0 x1 (wrap64 (x6 + 1)))
end
def pelicanref13_Free.f (k : Nat) (l0 : List Int) (a1 : Int) : Option (Bool) := (pelicanref13_May.f k l0).bind fun t176 => (if t176 = true then (if a1 < 0 then (pelicanref13_Free.j0 k l0 a1 true) else ((pelicanref13_pow.f k (l0.length : Int)).bind fun t177 => (pelicanref13_Free.j0 k l0 a1 (decide (a1 ≥ t177))))) else (pelicanref13_Free.j0 k l0 a1 true))
end Go.Proofs.YtpciieagafddcaaDoor.F
/- Woven by wip/weave/weave.py of this repo (own tool) out of the translation: the contracts of some functions. Lean checks it. -/
namespace Go.Proofs.YtpciieagafddcaaDoor.F
open Go.RowKit Go.Proofs.YtpciieagafddcaaDoorW.PrintWords Go.Proofs.YtpciieagafddcaaDoorW.PrintLast Go.Proofs.YtpciieagafddcaaDoorW.PrintMore
attribute [local go_sem] max2_int min2_int max_two min_two max_three min_three max_four min_four   -- for this text's walks alone
set_option linter.unusedVariables false
set_option linter.unusedSimpArgs false
def pelicanref14_stage.f (k : Nat) (l0_0 : List Int) (l0_1 : List (S87)) (a0_2 : Int) (a0_3 : Int) (a0_4 : Int) (a1_0 : Int) (a1_1 : Int) (a1_2 : Int) : Option (Bool) := (pelicanref13_Free.f k l0_0 a1_0).bind fun t184 => (if t184 = true then (if a1_0 = 0 then (some false) else (if a1_1 ≥ 1 then (if a1_1 ≤ 200 then (if a1_2 ≥ a1_1 then (some (decide (a1_2 ≤ 200))) else (some false)) else (some false)) else (some false))) else (some false))
def pelicanref14_Has.f (k : Nat) (l0_0 : List Int) (l0_1 : List (S87)) (a0_2 : Int) (a0_3 : Int) (a0_4 : Int) (a1 : Int) (a2 : Int) : Option (Bool) := if 0 ≤ a1 then (if a1 < (l0_1.length : Int) then ((pelicanref13_In.f k ((rd_T87 l0_1 a1).f0) a2).bind fun t187 => (some t187)) else (none)) else (none)
mutual
def pelicanref14_Fit.j0 : Nat → Bool → List Int → List (S87) → Int → Int → Int → Option (Bool)
  | 0, _, _, _, _, _, _ => none
  | k + 1, x26, x189000, x189001, x189002, x189003, x189004 => if x26 = true then (some false) else (pelicanref14_Fit.l0 k 0 x189000 x189001 x189002 x189003 x189004)
def pelicanref14_Fit.l0 : Nat → Int → List Int → List (S87) → Int → Int → Int → Option (Bool)
  | 0, _, _, _, _, _, _ => none
  | k + 1, x4, x189000, x189001, x189002, x189003, x189004 => if x4 < (x189001.length : Int) then (if 0 ≤ x4 then ((pelicanref14_stage.f k x189000 x189001 x189002 x189003 x189004 ((rd_T87 x189001 x4).f0) ((rd_T87 x189001 x4).f1) ((rd_T87 x189001 x4).f2)).bind fun t191 => (if t191 = true then (pelicanref14_Fit.l0 k (wrap64 (x4 + 1)) x189000 x189001 x189002 x189003 x189004) else (some false))) else (none)) else (pelicanref14_Fit.l1 k 0 x189000 x189001 x189002 x189003 x189004)
def pelicanref14_Fit.l1 : Nat → Int → List Int → List (S87) → Int → Int → Int → Option (Bool)
  | 0, _, _, _, _, _, _ => none
  | k + 1, x6, x189000, x189001, x189002, x189003, x189004 => if x6 < (x189000.length : Int) then (pelicanref14_Fit.l2 k x6 false 0 x189000 x189001 x189002 x189003 x189004) else (if x189002 ≥ 1 then (if x189002 ≤ 200 then (if x189003 ≥ 1 then (if x189003 ≤ 200 then (if x189004 ≥ 0 then (some (decide (x189004 ≤ 300))) else (some false)) else (some false)) else (some false)) else (some false)) else (some false))
def pelicanref14_Fit.l2 : Nat → Int → Bool → Int → List Int → List (S87) → Int → Int → Int → Option (Bool)
  | 0, _, _, _, _, _, _, _, _ => none
  | k + 1, x6, x7, x8, x189000, x189001, x189002, x189003, x189004 => if x8 < (x189001.length : Int) then ((pelicanref14_Has.f k x189000 x189001 x189002 x189003 x189004 x8 x6).bind fun t192 => (if x7 = true then (pelicanref14_Fit.l2 k x6 true (wrap64 (x8 + 1)) x189000 x189001 x189002 x189003 x189004) else (pelicanref14_Fit.l2 k x6 t192 (wrap64 (x8 + 1)) x189000 x189001 x189002 x189003 x189004))) else (if x7 = true then (pelicanref14_Fit.l1 k (wrap64 (x6 + 1)) x189000 x189001 x189002 x189003 x189004) else (some false))
end
def pelicanref14_Fit.f (k : Nat) (l0_0 : List Int) (l0_1 : List (S87)) (a0_2 : Int) (a0_3 : Int) (a0_4 : Int) : Option (Bool) := (pelicanref13_May.f k l0_0).bind fun t189 => (if t189 = true then (if (l0_1.length : Int) < 2 then (pelicanref14_Fit.j0 k true l0_0 l0_1 a0_2 a0_3 a0_4) else (pelicanref14_Fit.j0 k (decide ((l0_1.length : Int) > 6)) l0_0 l0_1 a0_2 a0_3 a0_4)) else (pelicanref14_Fit.j0 k true l0_0 l0_1 a0_2 a0_3 a0_4))
def pelicanref14_Next.j0 : Nat → Int → Bool → List Int → List (S87) → Int → Int → Int → Option (Int)
  | 0, _, _, _, _, _, _, _ => none
  | k + 1, x1, x20, x392000, x392001, x392002, x392003, x392004 => if x20 = true then (some (-1)) else (if x1 = (wrap64 ((x392001.length : Int) - 1)) then (some 0) else (some (wrap64 (x1 + 1))))
def pelicanref14_Next.f (k : Nat) (l0_0 : List Int) (l0_1 : List (S87)) (a0_2 : Int) (a0_3 : Int) (a0_4 : Int) (a1 : Int) : Option (Int) := (pelicanref14_Fit.f k l0_0 l0_1 a0_2 a0_3 a0_4).bind fun t392 => (if t392 = true then (if a1 < 0 then (pelicanref14_Next.j0 k a1 true l0_0 l0_1 a0_2 a0_3 a0_4) else (pelicanref14_Next.j0 k a1 (decide (a1 ≥ (l0_1.length : Int))) l0_0 l0_1 a0_2 a0_3 a0_4)) else (pelicanref14_Next.j0 k a1 true l0_0 l0_1 a0_2 a0_3 a0_4))
end Go.Proofs.YtpciieagafddcaaDoor.F
