/- Woven by wip/weave/weave.py of this repo (own tool) out of the translation: the contracts of some functions. Lean checks it. -/
import Derived.Test.YtechgjbhgeddjaaDoorQsD
import Derived.Test.YtechgjbhgeddjaaDoorQsDR13
import Derived.Test.YtechgjbhgeddjaaDoorQsDR14
namespace Go.Proofs.YtechgjbhgeddjaaDoor.F
open Go.RowKit Go.Proofs.YtechgjbhgeddjaaDoorW.PrintWords Go.Proofs.YtechgjbhgeddjaaDoorW.PrintLast Go.Proofs.YtechgjbhgeddjaaDoorW.PrintMore
attribute [local go_sem] max2_int min2_int max_two min_two max_three min_three max_four min_four   -- for this text's walks alone
set_option linter.unusedVariables false
set_option linter.unusedSimpArgs false
mutual
def pelicanref15_Show.j0 : Nat → Int → Int → Bool → List Int → List (S41) → Int → Int → Int → Option (List Int)
  | 0, _, _, _, _, _, _, _, _ => none
  | k + 1, x1, x2, x34, x256000, x256001, x256002, x256003, x256004 => if x34 = true then (some ([] : List Int)) else (pelicanref15_Show.l0 k x1 x2 ([] : List Int) 0 x256000 x256001 x256002 x256003 x256004)
def pelicanref15_Show.l0 : Nat → Int → Int → List Int → Int → List Int → List (S41) → Int → Int → Int → Option (List Int)
  | 0, _, _, _, _, _, _, _, _, _ => none
  | k + 1, x1, x2, x8, x9, x256000, x256001, x256002, x256003, x256004 => if x9 < (x256000.length : Int) then ((pelicanref14_Has.f k x256000 x256001 x256002 x256003 x256004 x1 x9).bind fun t257 => (if t257 = true then (pelicanref15_Show.j2 k x1 x2 x8 x9 t257 0 (x2 == 0) x256000 x256001 x256002 x256003 x256004) else (pelicanref15_Show.j2 k x1 x2 x8 x9 t257 0 false x256000 x256001 x256002 x256003 x256004))) else (some x8)
def pelicanref15_Show.j2 : Nat → Int → Int → List Int → Int → Bool → Int → Bool → List Int → List (S41) → Int → Int → Int → Option (List Int)
  | 0, _, _, _, _, _, _, _, _, _, _, _, _ => none
  | k + 1, x1, x2, x8, x9, x10, x11, x50, x256000, x256001, x256002, x256003, x256004 => if x50 = true then (if x10 = true then (if x2 = 1 then (if x8.length < 17592186044416 then (pelicanref15_Show.l0 k x1 x2 (x8 ++ [1]) (wrap64 (x9 + 1)) x256000 x256001 x256002 x256003 x256004) else (none)) else (if x8.length < 17592186044416 then (pelicanref15_Show.l0 k x1 x2 (x8 ++ [2]) (wrap64 (x9 + 1)) x256000 x256001 x256002 x256003 x256004) else (none))) else (if x8.length < 17592186044416 then (pelicanref15_Show.l0 k x1 x2 (x8 ++ [2]) (wrap64 (x9 + 1)) x256000 x256001 x256002 x256003 x256004) else (none))) else (if x10 = true then (if x2 = 1 then (if x8.length < 17592186044416 then (pelicanref15_Show.l0 k x1 x2 (x8 ++ [1]) (wrap64 (x9 + 1)) x256000 x256001 x256002 x256003 x256004) else (none)) else (if x8.length < 17592186044416 then (pelicanref15_Show.l0 k x1 x2 (x8 ++ [x11]) (wrap64 (x9 + 1)) x256000 x256001 x256002 x256003 x256004) else (none))) else (if x8.length < 17592186044416 then (pelicanref15_Show.l0 k x1 x2 (x8 ++ [x11]) (wrap64 (x9 + 1)) x256000 x256001 x256002 x256003 x256004) else (none)))
end
def pelicanref15_Show.f (k : Nat) (l0_0 : List Int) (l0_1 : List (S41)) (a0_2 : Int) (a0_3 : Int) (a0_4 : Int) (a1 : Int) (a2 : Int) : Option (List Int) := (pelicanref14_Fit.f k l0_0 l0_1 a0_2 a0_3 a0_4).bind fun t256 => (if t256 = true then (if a1 < 0 then (pelicanref15_Show.j0 k a1 a2 true l0_0 l0_1 a0_2 a0_3 a0_4) else (if a1 ≥ (l0_1.length : Int) then (pelicanref15_Show.j0 k a1 a2 true l0_0 l0_1 a0_2 a0_3 a0_4) else (if a2 < 0 then (pelicanref15_Show.j0 k a1 a2 true l0_0 l0_1 a0_2 a0_3 a0_4) else (pelicanref15_Show.j0 k a1 a2 (decide (a2 ≥ 3)) l0_0 l0_1 a0_2 a0_3 a0_4)))) else (pelicanref15_Show.j0 k a1 a2 true l0_0 l0_1 a0_2 a0_3 a0_4))
end Go.Proofs.YtechgjbhgeddjaaDoor.F
