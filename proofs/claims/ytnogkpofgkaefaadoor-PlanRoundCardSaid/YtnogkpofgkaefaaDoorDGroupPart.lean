/- Woven by wip/weave/weave.py of this repo (own tool) out of the translation: the contracts of some functions. Lean checks it. -/
import Derived.Test.YtnogkpofgkaefaaDoorD
namespace Go.Proofs.YtnogkpofgkaefaaDoor.F
open Go.RowKit Go.Proofs.YtnogkpofgkaefaaDoorW.PrintWords Go.Proofs.YtnogkpofgkaefaaDoorW.PrintLast Go.Proofs.YtnogkpofgkaefaaDoorW.PrintMore
attribute [local go_sem] max2_int min2_int max_two min_two max_three min_three max_four min_four   -- for this text's walks alone
set_option linter.unusedVariables false
set_option linter.unusedSimpArgs false

mutual
def pelicanlaw13_GroupPart.j0 : Nat → List Int → Int → Int → Bool → Bool → Option (Bool)
  | 0, _, _, _, _, _ => none
  | k + 1, x0, x1, x2, x7, x24 => if x24 = true then (some x7) else ((group_Sets.f k x0).bind fun t226 => (pelicanlaw13_GroupPart.l0 k x0 x1 x2 t226 false 0))
def pelicanlaw13_GroupPart.l0 : Nat → List Int → Int → Int → List Int → Bool → Int → Option (Bool)
  | 0, _, _, _, _, _, _ => none
  | k + 1, x0, x1, x2, x8, x9, x10 => if x10 < (x8.length : Int) then (if x9 = true then (pelicanlaw13_GroupPart.l0 k x0 x1 x2 x8 true (wrap64 (x10 + 1))) else (if 0 ≤ x10 then (pelicanlaw13_GroupPart.l0 k x0 x1 x2 x8 ((Go.bits .and .i64 (rd x8 x10) x1) == x1) (wrap64 (x10 + 1))) else (none))) else (if x9 = true then (if x2 < 0 then (some true) else (if (Go.bits .and .i64 x2 x1) = x2 then ((group_Free.f x0 x2).bind fun t230 => (some t230)) else (some true))) else (some false))
end
def pelicanlaw13_GroupPart.f (k : Nat) (l0 : List Int) (a1 : Int) (a2 : Int) : Option (Bool) := (pelicanlaw13_awake.f k).bind fun t224 => (if t224 = true then (if (l0.length : Int) > 10 then (pelicanlaw13_GroupPart.j0 k l0 a1 a2 t224 true) else ((group_Free.f l0 a1).bind fun t225 => (pelicanlaw13_GroupPart.j0 k l0 a1 a2 t224 (!t225)))) else (pelicanlaw13_GroupPart.j0 k l0 a1 a2 t224 true))
theorem pelicanlaw13_GroupPart.mono_l : ∀ k, (∀ y0 y1 y2 y3 y4, LeO (pelicanlaw13_GroupPart.j0 k y0 y1 y2 y3 y4) (pelicanlaw13_GroupPart.j0 (k + 1) y0 y1 y2 y3 y4)) ∧ (∀ y0 y1 y2 y3 y4 y5, LeO (pelicanlaw13_GroupPart.l0 k y0 y1 y2 y3 y4 y5) (pelicanlaw13_GroupPart.l0 (k + 1) y0 y1 y2 y3 y4 y5))
  | 0 => ⟨fun _ _ _ _ _ r h => by simp [pelicanlaw13_GroupPart.j0] at h, fun _ _ _ _ _ _ r h => by simp [pelicanlaw13_GroupPart.l0] at h⟩
  | k + 1 => by
    obtain ⟨ih0, ih1⟩ := pelicanlaw13_GroupPart.mono_l k
    refine ⟨?_, ?_⟩
    · intro y0 y1 y2 y3 y4
      unfold pelicanlaw13_GroupPart.j0
      repeat' first
      | (with_reducible exact ih0 _ _ _ _ _)
      | (with_reducible exact ih1 _ _ _ _ _ _)
      | (with_reducible exact group_Sets.mono _ _)
      | (with_reducible exact pelicanlaw13_awake.mono _)
      | (with_reducible exact LeO.refl _)
      | (with_reducible exact LeO.none _)
      | (with_reducible refine LeO.ite ?_ ?_)
      | (with_reducible refine LeO.bind ?_ (fun _ => ?_))
      | exact ih0 _ _ _ _ _
      | exact ih1 _ _ _ _ _ _
      | exact group_Sets.mono _ _
      | exact pelicanlaw13_awake.mono _
      | exact LeO.none _
      | refine LeO.ite ?_ ?_
      | refine LeO.bind ?_ (fun _ => ?_)
    · intro y0 y1 y2 y3 y4 y5
      unfold pelicanlaw13_GroupPart.l0
      repeat' first
      | (with_reducible exact ih0 _ _ _ _ _)
      | (with_reducible exact ih1 _ _ _ _ _ _)
      | (with_reducible exact group_Sets.mono _ _)
      | (with_reducible exact pelicanlaw13_awake.mono _)
      | (with_reducible exact LeO.refl _)
      | (with_reducible exact LeO.none _)
      | (with_reducible refine LeO.ite ?_ ?_)
      | (with_reducible refine LeO.bind ?_ (fun _ => ?_))
      | exact ih0 _ _ _ _ _
      | exact ih1 _ _ _ _ _ _
      | exact group_Sets.mono _ _
      | exact pelicanlaw13_awake.mono _
      | exact LeO.none _
      | refine LeO.ite ?_ ?_
      | refine LeO.bind ?_ (fun _ => ?_)
theorem pelicanlaw13_GroupPart.mono : ∀ a0 a1 a2 k, LeO (pelicanlaw13_GroupPart.f k a0 a1 a2) (pelicanlaw13_GroupPart.f (k + 1) a0 a1 a2) := by
  intro a0 a1 a2 k
  obtain ⟨ih0, ih1⟩ := pelicanlaw13_GroupPart.mono_l k
  unfold pelicanlaw13_GroupPart.f
  repeat' first
      | (with_reducible exact ih0 _ _ _ _ _)
      | (with_reducible exact ih1 _ _ _ _ _ _)
      | (with_reducible exact group_Sets.mono _ _)
      | (with_reducible exact pelicanlaw13_awake.mono _)
      | (with_reducible exact LeO.refl _)
      | (with_reducible exact LeO.none _)
      | (with_reducible refine LeO.ite ?_ ?_)
      | (with_reducible refine LeO.bind ?_ (fun _ => ?_))
      | exact ih0 _ _ _ _ _
      | exact ih1 _ _ _ _ _ _
      | exact group_Sets.mono _ _
      | exact pelicanlaw13_awake.mono _
      | exact LeO.none _
      | refine LeO.ite ?_ ?_
      | refine LeO.bind ?_ (fun _ => ?_)
end Go.Proofs.YtnogkpofgkaefaaDoor.F
