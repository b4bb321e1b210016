/- Woven by wip/weave/weave.py of this repo (own tool) out of the translation: the contracts of some functions. Lean checks it. -/
import Derived.Test.YtechgjbhgeddjaaDoorD
namespace Go.Proofs.YtechgjbhgeddjaaDoor.F
open Go.RowKit Go.Proofs.YtechgjbhgeddjaaDoorW.PrintWords Go.Proofs.YtechgjbhgeddjaaDoorW.PrintLast Go.Proofs.YtechgjbhgeddjaaDoorW.PrintMore
attribute [local go_sem] max2_int min2_int max_two min_two max_three min_three max_four min_four   -- for this text's walks alone
set_option linter.unusedVariables false
set_option linter.unusedSimpArgs false

mutual
def pelicanlaw16_StageStays.j0 : Nat → List (S39) → Bool → Bool → Int → Int → Int → Int → Int → Int → Int → Int → Int → Bool → Option (Bool)
  | 0, _, _, _, _, _, _, _, _, _, _, _, _, _ => none
  | k + 1, x0, x5, x17, x606000, x606001, x606002, x606003, x606004, x606005, x606006, x606007, x606008, x606009 => if x17 = true then (some x5) else ((stage_Tick.f x0 x606000 x606001 x606002 x606003 x606004 x606005 x606006 x606007 x606008 x606009).bind fun bt608 => ((stage_May.f k x0 x606000 x606001 x606002 x606003 x606004 x606005 x606006 x606007 x606008 x606009).bind fun t619 => (if t619 = true then ((stage_May.f k x0 bt608.1 bt608.2.1 bt608.2.2.1 bt608.2.2.2.1 bt608.2.2.2.2.1 bt608.2.2.2.2.2.1 bt608.2.2.2.2.2.2.1 bt608.2.2.2.2.2.2.2.1 bt608.2.2.2.2.2.2.2.2.1 bt608.2.2.2.2.2.2.2.2.2).bind fun t623 => (if t623 = true then (if bt608.1 < 0 then (pelicanlaw16_StageStays.j1 k x0 true bt608.1 bt608.2.1 bt608.2.2.1 bt608.2.2.2.1 bt608.2.2.2.2.1 bt608.2.2.2.2.2.1 bt608.2.2.2.2.2.2.1 bt608.2.2.2.2.2.2.2.1 bt608.2.2.2.2.2.2.2.2.1 bt608.2.2.2.2.2.2.2.2.2) else (pelicanlaw16_StageStays.j1 k x0 (decide (bt608.1 ≥ (x0.length : Int))) bt608.1 bt608.2.1 bt608.2.2.1 bt608.2.2.2.1 bt608.2.2.2.2.1 bt608.2.2.2.2.2.1 bt608.2.2.2.2.2.2.1 bt608.2.2.2.2.2.2.2.1 bt608.2.2.2.2.2.2.2.2.1 bt608.2.2.2.2.2.2.2.2.2)) else (pelicanlaw16_StageStays.j1 k x0 true bt608.1 bt608.2.1 bt608.2.2.1 bt608.2.2.2.1 bt608.2.2.2.2.1 bt608.2.2.2.2.2.1 bt608.2.2.2.2.2.2.1 bt608.2.2.2.2.2.2.2.1 bt608.2.2.2.2.2.2.2.2.1 bt608.2.2.2.2.2.2.2.2.2))) else (if (bt608.1 == x606000 && (bt608.2.1 == x606001 && (bt608.2.2.1 == x606002 && (bt608.2.2.2.1 == x606003 && (bt608.2.2.2.2.1 == x606004 && (bt608.2.2.2.2.2.1 == x606005 && (bt608.2.2.2.2.2.2.1 == x606006 && (bt608.2.2.2.2.2.2.2.1 == x606007 && (bt608.2.2.2.2.2.2.2.2.1 == x606008 && (bt608.2.2.2.2.2.2.2.2.2 == x606009)))))))))) = true then ((stage_Lamps.f k x0 x606000 x606001 x606002 x606003 x606004 x606005 x606006 x606007 x606008 x606009).bind fun t620 => (some ((t620.length : Int) == 0))) else (some false)))))
def pelicanlaw16_StageStays.j1 : Nat → List (S39) → Bool → Int → Int → Int → Int → Int → Int → Int → Int → Int → Bool → Option (Bool)
  | 0, _, _, _, _, _, _, _, _, _, _, _, _ => none
  | k + 1, x0, x51, x619000, x619001, x619002, x619003, x619004, x619005, x619006, x619007, x619008, x619009 => if x51 = true then (some false) else ((stage_Lamps.f k x0 x619000 x619001 x619002 x619003 x619004 x619005 x619006 x619007 x619008 x619009).bind fun t624 => (if 0 < (x0.length : Int) then (if (t624.length : Int) = (((rd_T39 x0 0).f0).length : Int) then ((lamp_May.f t624).bind fun t628 => (if t628 = true then (if 0 ≤ x619000 then (if x619000 < (x0.length : Int) then ((lamp_Clash.f k ((rd_T39 x0 x619000).f0) ((rd_T39 x0 x619000).f1) ((rd_T39 x0 x619000).f2) ((rd_T39 x0 x619000).f3) ((rd_T39 x0 x619000).f4) t624).bind fun t630 => (some (!t630))) else (none)) else (none)) else (some false))) else (some false)) else (none)))
end
def pelicanlaw16_StageStays.f (k : Nat) (l0 : List (S39)) (a1_0 : Int) (a1_1 : Int) (a1_2 : Int) (a1_3 : Int) (a1_4 : Int) (a1_5 : Int) (a1_6 : Int) (a1_7 : Int) (a1_8 : Int) (a1_9 : Bool) : Option (Bool) := (pelicanlaw16_awake.f k).bind fun t606 => ((pelicanlaw14_FewAll.f k l0).bind fun t607 => (if t606 = true then (pelicanlaw16_StageStays.j0 k l0 t606 (!t607) a1_0 a1_1 a1_2 a1_3 a1_4 a1_5 a1_6 a1_7 a1_8 a1_9) else (pelicanlaw16_StageStays.j0 k l0 t606 true a1_0 a1_1 a1_2 a1_3 a1_4 a1_5 a1_6 a1_7 a1_8 a1_9)))
theorem pelicanlaw16_StageStays.mono_l : ∀ k, (∀ y0 y1 y2 y3 y4 y5 y6 y7 y8 y9 y10 y11 y12, LeO (pelicanlaw16_StageStays.j0 k y0 y1 y2 y3 y4 y5 y6 y7 y8 y9 y10 y11 y12) (pelicanlaw16_StageStays.j0 (k + 1) y0 y1 y2 y3 y4 y5 y6 y7 y8 y9 y10 y11 y12)) ∧ (∀ y0 y1 y2 y3 y4 y5 y6 y7 y8 y9 y10 y11, LeO (pelicanlaw16_StageStays.j1 k y0 y1 y2 y3 y4 y5 y6 y7 y8 y9 y10 y11) (pelicanlaw16_StageStays.j1 (k + 1) y0 y1 y2 y3 y4 y5 y6 y7 y8 y9 y10 y11))
  | 0 => ⟨fun _ _ _ _ _ _ _ _ _ _ _ _ _ r h => by simp [pelicanlaw16_StageStays.j0] at h, fun _ _ _ _ _ _ _ _ _ _ _ _ r h => by simp [pelicanlaw16_StageStays.j1] at h⟩
  | k + 1 => by
    obtain ⟨ih0, ih1⟩ := pelicanlaw16_StageStays.mono_l k
    refine ⟨?_, ?_⟩
    · intro y0 y1 y2 y3 y4 y5 y6 y7 y8 y9 y10 y11 y12
      unfold pelicanlaw16_StageStays.j0
      repeat' first
      | (with_reducible exact ih0 _ _ _ _ _ _ _ _ _ _ _ _ _)
      | (with_reducible exact ih1 _ _ _ _ _ _ _ _ _ _ _ _)
      | (with_reducible exact lamp_Clash.mono _ _ _ _ _ _ _)
      | (with_reducible exact pelicanlaw14_FewAll.mono _ _)
      | (with_reducible exact pelicanlaw16_awake.mono _)
      | (with_reducible exact stage_Lamps.mono _ _ _ _ _ _ _ _ _ _ _ _)
      | (with_reducible exact stage_May.mono _ _ _ _ _ _ _ _ _ _ _ _)
      | (with_reducible exact LeO.refl _)
      | (with_reducible exact LeO.none _)
      | (with_reducible refine LeO.ite ?_ ?_)
      | (with_reducible refine LeO.bind ?_ (fun _ => ?_))
      | exact ih0 _ _ _ _ _ _ _ _ _ _ _ _ _
      | exact ih1 _ _ _ _ _ _ _ _ _ _ _ _
      | exact lamp_Clash.mono _ _ _ _ _ _ _
      | exact pelicanlaw14_FewAll.mono _ _
      | exact pelicanlaw16_awake.mono _
      | exact stage_Lamps.mono _ _ _ _ _ _ _ _ _ _ _ _
      | exact stage_May.mono _ _ _ _ _ _ _ _ _ _ _ _
      | exact LeO.none _
      | refine LeO.ite ?_ ?_
      | refine LeO.bind ?_ (fun _ => ?_)
    · intro y0 y1 y2 y3 y4 y5 y6 y7 y8 y9 y10 y11
      unfold pelicanlaw16_StageStays.j1
      repeat' first
      | (with_reducible exact ih0 _ _ _ _ _ _ _ _ _ _ _ _ _)
      | (with_reducible exact ih1 _ _ _ _ _ _ _ _ _ _ _ _)
      | (with_reducible exact lamp_Clash.mono _ _ _ _ _ _ _)
      | (with_reducible exact pelicanlaw14_FewAll.mono _ _)
      | (with_reducible exact pelicanlaw16_awake.mono _)
      | (with_reducible exact stage_Lamps.mono _ _ _ _ _ _ _ _ _ _ _ _)
      | (with_reducible exact stage_May.mono _ _ _ _ _ _ _ _ _ _ _ _)
      | (with_reducible exact LeO.refl _)
      | (with_reducible exact LeO.none _)
      | (with_reducible refine LeO.ite ?_ ?_)
      | (with_reducible refine LeO.bind ?_ (fun _ => ?_))
      | exact ih0 _ _ _ _ _ _ _ _ _ _ _ _ _
      | exact ih1 _ _ _ _ _ _ _ _ _ _ _ _
      | exact lamp_Clash.mono _ _ _ _ _ _ _
      | exact pelicanlaw14_FewAll.mono _ _
      | exact pelicanlaw16_awake.mono _
      | exact stage_Lamps.mono _ _ _ _ _ _ _ _ _ _ _ _
      | exact stage_May.mono _ _ _ _ _ _ _ _ _ _ _ _
      | exact LeO.none _
      | refine LeO.ite ?_ ?_
      | refine LeO.bind ?_ (fun _ => ?_)
theorem pelicanlaw16_StageStays.mono : ∀ a0 a1 a2 a3 a4 a5 a6 a7 a8 a9 a10 k, LeO (pelicanlaw16_StageStays.f k a0 a1 a2 a3 a4 a5 a6 a7 a8 a9 a10) (pelicanlaw16_StageStays.f (k + 1) a0 a1 a2 a3 a4 a5 a6 a7 a8 a9 a10) := by
  intro a0 a1 a2 a3 a4 a5 a6 a7 a8 a9 a10 k
  obtain ⟨ih0, ih1⟩ := pelicanlaw16_StageStays.mono_l k
  unfold pelicanlaw16_StageStays.f
  repeat' first
      | (with_reducible exact ih0 _ _ _ _ _ _ _ _ _ _ _ _ _)
      | (with_reducible exact ih1 _ _ _ _ _ _ _ _ _ _ _ _)
      | (with_reducible exact lamp_Clash.mono _ _ _ _ _ _ _)
      | (with_reducible exact pelicanlaw14_FewAll.mono _ _)
      | (with_reducible exact pelicanlaw16_awake.mono _)
      | (with_reducible exact stage_Lamps.mono _ _ _ _ _ _ _ _ _ _ _ _)
      | (with_reducible exact stage_May.mono _ _ _ _ _ _ _ _ _ _ _ _)
      | (with_reducible exact LeO.refl _)
      | (with_reducible exact LeO.none _)
      | (with_reducible refine LeO.ite ?_ ?_)
      | (with_reducible refine LeO.bind ?_ (fun _ => ?_))
      | exact ih0 _ _ _ _ _ _ _ _ _ _ _ _ _
      | exact ih1 _ _ _ _ _ _ _ _ _ _ _ _
      | exact lamp_Clash.mono _ _ _ _ _ _ _
      | exact pelicanlaw14_FewAll.mono _ _
      | exact pelicanlaw16_awake.mono _
      | exact stage_Lamps.mono _ _ _ _ _ _ _ _ _ _ _ _
      | exact stage_May.mono _ _ _ _ _ _ _ _ _ _ _ _
      | exact LeO.none _
      | refine LeO.ite ?_ ?_
      | refine LeO.bind ?_ (fun _ => ?_)
end Go.Proofs.YtechgjbhgeddjaaDoor.F
