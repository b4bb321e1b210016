/- Woven by wip/weave/weave.py of this repo (own tool) out of the translation: the contracts of some functions. Lean checks it. -/
import Derived.Test.YtpciieagafddcaaDoorQiD
import Derived.Test.YtpciieagafddcaaDoorQiDR13
namespace Go.Proofs.YtpciieagafddcaaDoor.F
open Go.RowKit Go.Proofs.YtpciieagafddcaaDoorW.PrintWords Go.Proofs.YtpciieagafddcaaDoorW.PrintLast Go.Proofs.YtpciieagafddcaaDoorW.PrintMore
attribute [local go_sem] max2_int min2_int max_two min_two max_three min_three max_four min_four   -- for this text's walks alone
set_option linter.unusedVariables false
set_option linter.unusedSimpArgs false
mutual
def pelicanref15_May.j0 : Nat → List Int → Bool → Option (Bool)
  | 0, _, _ => none
  | k + 1, x0, x11 => if x11 = true then (some false) else (pelicanref15_May.l0 k x0 0)
def pelicanref15_May.l0 : Nat → List Int → Int → Option (Bool)
  | 0, _, _ => none
  | k + 1, x0, x3 => if x3 < (x0.length : Int) then (if 0 ≤ x3 then (if (rd x0 x3) < 0 then (some false) else (if (rd x0 x3) ≥ 3 then (some false) else (pelicanref15_May.l0 k x0 (wrap64 (x3 + 1))))) else (none)) else (some true)
end
def pelicanref15_May.f (k : Nat) (l0 : List Int) : Option (Bool) := if (l0.length : Int) < 1 then (pelicanref15_May.j0 k l0 true) else (pelicanref15_May.j0 k l0 (decide ((l0.length : Int) > 8)))
mutual
def pelicanref15_Clash.j0 : Nat → List Int → Bool → List Int → List (S87) → Int → Int → Int → Option (Bool)
  | 0, _, _, _, _, _, _, _ => none
  | k + 1, x1, x27, x196000, x196001, x196002, x196003, x196004 => if x27 = true then (some false) else (pelicanref15_Clash.l0 k x1 0 x196000 x196001 x196002 x196003 x196004)
def pelicanref15_Clash.l0 : Nat → List Int → Int → List Int → List (S87) → Int → Int → Int → Option (Bool)
  | 0, _, _, _, _, _, _, _ => none
  | k + 1, x1, x7, x196000, x196001, x196002, x196003, x196004 => if x7 < (x1.length : Int) then (pelicanref15_Clash.l1 k x1 x7 0 x196000 x196001 x196002 x196003 x196004) else (some false)
def pelicanref15_Clash.l1 : Nat → List Int → Int → Int → List Int → List (S87) → Int → Int → Int → Option (Bool)
  | 0, _, _, _, _, _, _, _, _ => none
  | k + 1, x1, x7, x8, x196000, x196001, x196002, x196003, x196004 => if x8 < (x1.length : Int) then (if 0 ≤ x7 then (if x7 < (x196000.length : Int) then ((pelicanref13_In.f k (rd x196000 x7) x8).bind fun t199 => (if t199 = true then (if x7 < (x1.length : Int) then (if (rd x1 x7) = 0 then (pelicanref15_Clash.l1 k x1 x7 (wrap64 (x8 + 1)) x196000 x196001 x196002 x196003 x196004) else (if 0 ≤ x8 then (if (rd x1 x8) = 0 then (pelicanref15_Clash.l1 k x1 x7 (wrap64 (x8 + 1)) x196000 x196001 x196002 x196003 x196004) else (some true)) else (none))) else (none)) else (pelicanref15_Clash.l1 k x1 x7 (wrap64 (x8 + 1)) x196000 x196001 x196002 x196003 x196004))) else (none)) else (none)) else (pelicanref15_Clash.l0 k x1 (wrap64 (x7 + 1)) x196000 x196001 x196002 x196003 x196004)
end
def pelicanref15_Clash.f (k : Nat) (l0_0 : List Int) (l0_1 : List (S87)) (a0_2 : Int) (a0_3 : Int) (a0_4 : Int) (l1 : List Int) : Option (Bool) := (pelicanref14_Fit.f k l0_0 l0_1 a0_2 a0_3 a0_4).bind fun t196 => ((pelicanref15_May.f k l1).bind fun t197 => (if t196 = true then (if t197 = true then (pelicanref15_Clash.j0 k l1 ((l1.length : Int) != (l0_0.length : Int)) l0_0 l0_1 a0_2 a0_3 a0_4) else (pelicanref15_Clash.j0 k l1 true l0_0 l0_1 a0_2 a0_3 a0_4)) else (pelicanref15_Clash.j0 k l1 true l0_0 l0_1 a0_2 a0_3 a0_4)))
end Go.Proofs.YtpciieagafddcaaDoor.F
