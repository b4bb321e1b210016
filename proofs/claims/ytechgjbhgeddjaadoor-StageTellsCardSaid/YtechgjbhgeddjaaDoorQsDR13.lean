/- Woven by wip/weave/weave.py of this repo (own tool) out of the translation: the contracts of some functions. Lean checks it. -/
import Derived.Test.YtechgjbhgeddjaaDoorQsD
namespace Go.Proofs.YtechgjbhgeddjaaDoor.F
open Go.RowKit Go.Proofs.YtechgjbhgeddjaaDoorW.PrintWords Go.Proofs.YtechgjbhgeddjaaDoorW.PrintLast Go.Proofs.YtechgjbhgeddjaaDoorW.PrintMore
attribute [local go_sem] max2_int min2_int max_two min_two max_three min_three max_four min_four   -- for this text's walks alone
set_option linter.unusedVariables false
set_option linter.unusedSimpArgs false
def pelicanref13_pow.l0 : Nat → Int → Int → Int → Option (Int)
  | 0, _, _, _ => none
  | k + 1, x0, x3, x4 => if x4 < x0 then (pelicanref13_pow.l0 k x0 (wrap64 (2 * x3)) (wrap64 (x4 + 1))) else (some x3)
def pelicanref13_pow.f (k : Nat) (a0 : Int) : Option (Int) := pelicanref13_pow.l0 k a0 1 0
theorem pelicanref13_pow.mono_l : ∀ k, (∀ y0 y1 y2, LeO (pelicanref13_pow.l0 k y0 y1 y2) (pelicanref13_pow.l0 (k + 1) y0 y1 y2))
  | 0 => fun _ _ _ r h => by simp [pelicanref13_pow.l0] at h
  | k + 1 => by
    have ih0 := pelicanref13_pow.mono_l k
    · intro y0 y1 y2
      unfold pelicanref13_pow.l0
      repeat' first
      | (with_reducible exact ih0 _ _ _)
      | (with_reducible exact LeO.refl _)
      | (with_reducible exact LeO.none _)
      | (with_reducible refine LeO.ite ?_ ?_)
      | (with_reducible refine LeO.bind ?_ (fun _ => ?_))
      | exact ih0 _ _ _
      | exact LeO.none _
      | refine LeO.ite ?_ ?_
      | refine LeO.bind ?_ (fun _ => ?_)
theorem pelicanref13_pow.mono : ∀ a0 k, LeO (pelicanref13_pow.f k a0) (pelicanref13_pow.f (k + 1) a0) := by
  intro a0 k
  have ih0 := pelicanref13_pow.mono_l k
  unfold pelicanref13_pow.f
  repeat' first
      | (with_reducible exact ih0 _ _ _)
      | (with_reducible exact LeO.refl _)
      | (with_reducible exact LeO.none _)
      | (with_reducible refine LeO.ite ?_ ?_)
      | (with_reducible refine LeO.bind ?_ (fun _ => ?_))
      | exact ih0 _ _ _
      | exact LeO.none _
      | refine LeO.ite ?_ ?_
      | refine LeO.bind ?_ (fun _ => ?_)
def pelicanref13_In.f (k : Nat) (a0 : Int) (a1 : Int) : Option (Bool) := (pelicanref13_pow.f k a1).bind fun t221 => (if t221 = 0 then (none) else (some ((Int.tmod (wrap64 (Int.tdiv a0 t221)) 2) == 1)))
mutual
def pelicanref13_May.j0 : Nat → List Int → Int → Bool → Option (Bool)
  | 0, _, _, _ => none
  | k + 1, x0, x3, x16 => if x16 = true then (some false) else (pelicanref13_May.l0 k x0 x3 0)
def pelicanref13_May.l0 : Nat → List Int → Int → Int → Option (Bool)
  | 0, _, _, _ => none
  | k + 1, x0, x3, x4 => if x4 < x3 then (if 0 ≤ x4 then (if x4 < (x0.length : Int) then (if (rd x0 x4) < 0 then (some false) else ((pelicanref13_pow.f k x3).bind fun t227 => (if (rd x0 x4) ≥ t227 then (some false) else (pelicanref13_May.l0 k x0 x3 (wrap64 (x4 + 1)))))) else (none)) else (none)) else (pelicanref13_May.l1 k x0 x3 0)
def pelicanref13_May.l1 : Nat → List Int → Int → Int → Option (Bool)
  | 0, _, _, _ => none
  | k + 1, x0, x3, x5 => if x5 < x3 then (pelicanref13_May.l2 k x0 x3 x5 0) else (some true)
def pelicanref13_May.l2 : Nat → List Int → Int → Int → Int → Option (Bool)
  | 0, _, _, _, _ => none
  | k + 1, x0, x3, x5, x6 => if x6 < x3 then (if 0 ≤ x5 then (if x5 < (x0.length : Int) then ((pelicanref13_In.f k (rd x0 x5) x6).bind fun t229 => (if 0 ≤ x6 then (if x6 < (x0.length : Int) then ((pelicanref13_In.f k (rd x0 x6) x5).bind fun t231 => (if (t229 != t231) = true then (some false) else (if t229 = true then (if x5 = x6 then (some false) else (pelicanref13_May.l2 k x0 x3 x5 (wrap64 (x6 + 1)))) else (pelicanref13_May.l2 k x0 x3 x5 (wrap64 (x6 + 1)))))) else (none)) else (none))) else (none)) else (none)) else (pelicanref13_May.l1 k x0 x3 (wrap64 (x5 + 1)))
end
def pelicanref13_May.f (k : Nat) (l0 : List Int) : Option (Bool) := if (l0.length : Int) < 1 then (pelicanref13_May.j0 k l0 (l0.length : Int) true) else (pelicanref13_May.j0 k l0 (l0.length : Int) (decide ((l0.length : Int) > 8)))
mutual
def pelicanref13_Free.j0 : Nat → List Int → Int → Bool → Option (Bool)
  | 0, _, _, _ => none
  | k + 1, x0, x1, x25 => if x25 = true then (some false) else (pelicanref13_Free.l0 k x0 x1 0)
def pelicanref13_Free.l0 : Nat → List Int → Int → Int → Option (Bool)
  | 0, _, _, _ => none
  | k + 1, x0, x1, x6 => if x6 < (x0.length : Int) then (pelicanref13_Free.l1 k x0 x1 x6 0) else (some true)
def pelicanref13_Free.l1 : Nat → List Int → Int → Int → Int → Option (Bool)
  | 0, _, _, _, _ => none
  | k + 1, x0, x1, x6, x7 => if x7 < (x0.length : Int) then ((pelicanref13_In.f k x1 x6).bind fun t234 => ((pelicanref13_In.f k x1 x7).bind fun t235 => (if 0 ≤ x6 then (if x6 < (x0.length : Int) then ((pelicanref13_In.f k (rd x0 x6) x7).bind fun t237 => (if t234 = true then (if t235 = true then (if t237 = true then (some false) else (pelicanref13_Free.l1 k x0 x1 x6 (wrap64 (x7 + 1)))) else (pelicanref13_Free.l1 k x0 x1 x6 (wrap64 (x7 + 1)))) else (pelicanref13_Free.l1 k x0 x1 x6 (wrap64 (x7 + 1))))) else (none)) else (none)))) else (pelicanref13_Free.l0 k x0 x1 (wrap64 (x6 + 1)))
end
def pelicanref13_Free.f (k : Nat) (l0 : List Int) (a1 : Int) : Option (Bool) := (pelicanref13_May.f k l0).bind fun t232 => (if t232 = true then (if a1 < 0 then (pelicanref13_Free.j0 k l0 a1 true) else ((pelicanref13_pow.f k (l0.length : Int)).bind fun t233 => (pelicanref13_Free.j0 k l0 a1 (decide (a1 ≥ t233))))) else (pelicanref13_Free.j0 k l0 a1 true))
end Go.Proofs.YtechgjbhgeddjaaDoor.F
