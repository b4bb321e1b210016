/- Several ticks, walked by the engine (own text). -/
import Derived.Test.YtpciieagafddcaaDoorQjELM
import Derived.Test.YtpciieagafddcaaDoorQjD
import Derived.Test.YtpciieagafddcaaDoorQjDR13
namespace Go.Proofs.YtpciieagafddcaaDoor.E
open Go Go.RowKit Go.Proofs Go.Proofs.YtpciieagafddcaaDoorW.PrintWords Go.Proofs.YtpciieagafddcaaDoorW.PrintLast Go.Proofs.YtpciieagafddcaaDoorW.PrintMore Go.Proofs.YtpciieagafddcaaDoor.F
set_option linter.unusedVariables false
set_option linter.unusedSimpArgs false
set_option maxRecDepth 100000
set_option maxHeartbeats 8000000
attribute [local irreducible] acode callR
namespace St
end St
open St
end Go.Proofs.YtpciieagafddcaaDoor.E
/- Woven by wip/weave/weave.py of this repo (own tool) out of the translation: the contracts of some functions. Lean checks it. -/
namespace Go.Proofs.YtpciieagafddcaaDoor.F
open Go.RowKit Go.Proofs.YtpciieagafddcaaDoorW.PrintWords Go.Proofs.YtpciieagafddcaaDoorW.PrintLast Go.Proofs.YtpciieagafddcaaDoorW.PrintMore
attribute [local go_sem] max2_int min2_int max_two min_two max_three min_three max_four min_four   -- for this text's walks alone
set_option linter.unusedVariables false
set_option linter.unusedSimpArgs false
mutual
def pelicanref15_Show.j0 : Nat → Int → Int → Bool → List Int → List (S87) → Int → Int → Int → Option (List Int)
  | 0, _, _, _, _, _, _, _, _ => none
  | k + 1, x1, x2, x34, x428000, x428001, x428002, x428003, x428004 => if x34 = true then (some ([] : List Int)) else (pelicanref15_Show.l0 k x1 x2 ([] : List Int) 0 x428000 x428001 x428002 x428003 x428004)
def pelicanref15_Show.l0 : Nat → Int → Int → List Int → Int → List Int → List (S87) → Int → Int → Int → Option (List Int)
  | 0, _, _, _, _, _, _, _, _, _ => none
  | k + 1, x1, x2, x8, x9, x428000, x428001, x428002, x428003, x428004 => if x9 < (x428000.length : Int) then ((pelicanref14_Has.f k x428000 x428001 x428002 x428003 x428004 x1 x9).bind fun t429 => (if t429 = true then (pelicanref15_Show.j2 k x1 x2 x8 x9 t429 0 (x2 == 0) x428000 x428001 x428002 x428003 x428004) else (pelicanref15_Show.j2 k x1 x2 x8 x9 t429 0 false x428000 x428001 x428002 x428003 x428004))) else (some x8)
def pelicanref15_Show.j2 : Nat → Int → Int → List Int → Int → Bool → Int → Bool → List Int → List (S87) → Int → Int → Int → Option (List Int)
  | 0, _, _, _, _, _, _, _, _, _, _, _, _ => none
  | k + 1, x1, x2, x8, x9, x10, x11, x50, x428000, x428001, x428002, x428003, x428004 => if x50 = true then (if x10 = true then (if x2 = 1 then (if x8.length < 17592186044416 then (pelicanref15_Show.l0 k x1 x2 (x8 ++ [1]) (wrap64 (x9 + 1)) x428000 x428001 x428002 x428003 x428004) else (none)) else (if x8.length < 17592186044416 then (pelicanref15_Show.l0 k x1 x2 (x8 ++ [2]) (wrap64 (x9 + 1)) x428000 x428001 x428002 x428003 x428004) else (none))) else (if x8.length < 17592186044416 then (pelicanref15_Show.l0 k x1 x2 (x8 ++ [2]) (wrap64 (x9 + 1)) x428000 x428001 x428002 x428003 x428004) else (none))) else (if x10 = true then (if x2 = 1 then (if x8.length < 17592186044416 then (pelicanref15_Show.l0 k x1 x2 (x8 ++ [1]) (wrap64 (x9 + 1)) x428000 x428001 x428002 x428003 x428004) else (none)) else (if x8.length < 17592186044416 then (pelicanref15_Show.l0 k x1 x2 (x8 ++ [x11]) (wrap64 (x9 + 1)) x428000 x428001 x428002 x428003 x428004) else (none))) else (if x8.length < 17592186044416 then (pelicanref15_Show.l0 k x1 x2 (x8 ++ [x11]) (wrap64 (x9 + 1)) x428000 x428001 x428002 x428003 x428004) else (none)))
end
def pelicanref15_Show.f (k : Nat) (l0_0 : List Int) (l0_1 : List (S87)) (a0_2 : Int) (a0_3 : Int) (a0_4 : Int) (a1 : Int) (a2 : Int) : Option (List Int) := (pelicanref14_Fit.f k l0_0 l0_1 a0_2 a0_3 a0_4).bind fun t428 => (if t428 = true then (if a1 < 0 then (pelicanref15_Show.j0 k a1 a2 true l0_0 l0_1 a0_2 a0_3 a0_4) else (if a1 ≥ (l0_1.length : Int) then (pelicanref15_Show.j0 k a1 a2 true l0_0 l0_1 a0_2 a0_3 a0_4) else (if a2 < 0 then (pelicanref15_Show.j0 k a1 a2 true l0_0 l0_1 a0_2 a0_3 a0_4) else (pelicanref15_Show.j0 k a1 a2 (decide (a2 ≥ 3)) l0_0 l0_1 a0_2 a0_3 a0_4)))) else (pelicanref15_Show.j0 k a1 a2 true l0_0 l0_1 a0_2 a0_3 a0_4))
end Go.Proofs.YtpciieagafddcaaDoor.F
