/- Woven by wip/weave/weave.py of this repo (own tool) out of the translation: the contracts of some functions. Lean checks it. -/
import Derived.Test.YtechgjbhgeddjaaDoorQeF0
namespace Go.Proofs.YtechgjbhgeddjaaDoor.F
open Go.RowKit Go.Proofs.YtechgjbhgeddjaaDoorW.PrintWords Go.Proofs.YtechgjbhgeddjaaDoorW.PrintLast Go.Proofs.YtechgjbhgeddjaaDoorW.PrintMore
attribute [local go_sem] max2_int min2_int max_two min_two max_three min_three max_four min_four   -- for this text's walks alone
set_option linter.unusedVariables false
set_option linter.unusedSimpArgs false
def plan_in.f (a0 : Int) (a1 : Int) (a2 : Int) : Option (Bool) := if a0 ≥ a1 then (some (decide (a0 ≤ a2))) else (some false)
def plan_stageB.f (m : List Int) (s : S41) : Bool := (if Sp.against m s.f0 = -1 then false else (Go.bits .and .i64 (Sp.against m s.f0) s.f0 == 0)) && (decide (s.f0 ≠ 0) && (decide (1 ≤ s.f1 ∧ s.f1 ≤ 200) && decide (s.f1 ≤ s.f2 ∧ s.f2 ≤ 200)))
def plan_fitB.f (m : List Int) (ss : List S41) (am red hold : Int) : Bool := ss.all (plan_stageB.f m) && (Sp.may m && (decide (2 ≤ ss.length ∧ ss.length ≤ 6) && (decide (ss.foldl (fun o s => Go.bits .or .i64 o s.f0) 0 = wrap64 ((shl .i64 1 (m.length : Int)) - 1)) && (decide (1 ≤ am ∧ am ≤ 200) && (decide (1 ≤ red ∧ red ≤ 200) && decide (0 ≤ hold ∧ hold ≤ 300))))))
def plan_badB.f (n : Nat) (x : S39) : Bool := !(plan_fitB.f x.f0 x.f1 x.f2 x.f3 x.f4) || decide (x.f0.length ≠ n)
def plan_All.f (l0 : List S39) : Option Bool := some (decide (1 ≤ l0.length ∧ l0.length ≤ 3) && !(l0.any (plan_badB.f (rd_T39 l0 0).f0.length)))
def stage_in.f (a0 : Int) (a1 : Int) (a2 : Int) : Option (Bool) := if a0 ≥ a1 then (some (decide (a0 ≤ a2))) else (some false)
def stage_phase.f (l0_0 : List Int) (l0_1 : List (S41)) (a0_2 : Int) (a0_3 : Int) (a0_4 : Int) (a1_0 : Int) (a1_1 : Int) (a1_2 : Int) (a1_3 : Int) (a1_4 : Int) (a1_5 : Int) (a1_6 : Int) (a1_7 : Int) (a1_8 : Int) (a1_9 : Bool) : Option (Bool) := if a1_3 = 0 then (if a1_4 ≥ a1_6 then (if 0 ≤ a1_1 then (if a1_1 < (l0_1.length : Int) then (if (wrap64 (a1_4 - a1_6)) < ((rd_T41 l0_1 a1_1).f2) then (if a1_9 = true then (some (!(decide (a1_5 > 0)))) else (some (!false))) else (some false)) else (none)) else (none)) else (some false)) else (if a1_3 = 1 then (if a1_5 = 0 then (if a1_6 = 0 then (if a1_7 = (-1) then ((stage_in.f a1_4 0 (wrap64 (a0_2 - 1))).bind fun t104 => (some t104)) else (some false)) else (some false)) else (some false)) else (if a1_5 = 0 then (if a1_6 = 0 then (if a1_7 = (-1) then ((stage_in.f a1_4 0 a0_3).bind fun t105 => (some t105)) else (some false)) else (some false)) else (some false)))
mutual
def stage_May.j0 : Nat → List (S39) → Bool → Int → Int → Int → Int → Int → Int → Int → Int → Int → Bool → Option (Bool)
  | 0, _, _, _, _, _, _, _, _, _, _, _, _ => none
  | k + 1, x0, x18, x107000, x107001, x107002, x107003, x107004, x107005, x107006, x107007, x107008, x107009 => if x18 = true then (some false) else (if 0 ≤ x107000 then (if x107000 < (x0.length : Int) then ((stage_in.f x107001 0 (wrap64 ((((rd_T39 x0 x107000).f1).length : Int) - 1))).bind fun t111 => (if t111 = true then ((stage_in.f x107002 0 (wrap64 ((((rd_T39 x0 x107000).f1).length : Int) - 1))).bind fun t112 => (if t112 = true then ((stage_in.f x107007 (-1) (wrap64 ((((rd_T39 x0 x107000).f1).length : Int) - 1))).bind fun t113 => (if t113 = true then ((stage_in.f x107008 (-1) (wrap64 ((x0.length : Int) - 1))).bind fun t114 => (if t114 = true then ((stage_in.f x107003 0 2).bind fun t115 => (stage_May.j1 k (!t115) x107000 x107001 x107002 x107003 x107004 x107005 x107006 x107007 x107008 x107009 ((rd_T39 x0 x107000).f0) ((rd_T39 x0 x107000).f1) ((rd_T39 x0 x107000).f2) ((rd_T39 x0 x107000).f3) ((rd_T39 x0 x107000).f4))) else (stage_May.j1 k (!t114) x107000 x107001 x107002 x107003 x107004 x107005 x107006 x107007 x107008 x107009 ((rd_T39 x0 x107000).f0) ((rd_T39 x0 x107000).f1) ((rd_T39 x0 x107000).f2) ((rd_T39 x0 x107000).f3) ((rd_T39 x0 x107000).f4)))) else (stage_May.j1 k (!t113) x107000 x107001 x107002 x107003 x107004 x107005 x107006 x107007 x107008 x107009 ((rd_T39 x0 x107000).f0) ((rd_T39 x0 x107000).f1) ((rd_T39 x0 x107000).f2) ((rd_T39 x0 x107000).f3) ((rd_T39 x0 x107000).f4)))) else (stage_May.j1 k (!t112) x107000 x107001 x107002 x107003 x107004 x107005 x107006 x107007 x107008 x107009 ((rd_T39 x0 x107000).f0) ((rd_T39 x0 x107000).f1) ((rd_T39 x0 x107000).f2) ((rd_T39 x0 x107000).f3) ((rd_T39 x0 x107000).f4)))) else (stage_May.j1 k (!t111) x107000 x107001 x107002 x107003 x107004 x107005 x107006 x107007 x107008 x107009 ((rd_T39 x0 x107000).f0) ((rd_T39 x0 x107000).f1) ((rd_T39 x0 x107000).f2) ((rd_T39 x0 x107000).f3) ((rd_T39 x0 x107000).f4)))) else (none)) else (none))
def stage_May.j1 : Nat → Bool → Int → Int → Int → Int → Int → Int → Int → Int → Int → Bool → List Int → List (S41) → Int → Int → Int → Option (Bool)
  | 0, _, _, _, _, _, _, _, _, _, _, _, _, _, _, _, _ => none
  | k + 1, x28, x107000, x107001, x107002, x107003, x107004, x107005, x107006, x107007, x107008, x107009, x111000, x111001, x111002, x111003, x111004 => if x28 = true then (some false) else ((stage_in.f x107006 0 x111004).bind fun t116 => (if t116 = true then ((stage_in.f x107005 0 (wrap64 (x111004 - x107006))).bind fun t117 => (if t117 = true then ((stage_phase.f x111000 x111001 x111002 x111003 x111004 x107000 x107001 x107002 x107003 x107004 x107005 x107006 x107007 x107008 x107009).bind fun t118 => (some t118)) else (some false))) else (some false)))
end
def stage_May.f (k : Nat) (l0 : List (S39)) (a1_0 : Int) (a1_1 : Int) (a1_2 : Int) (a1_3 : Int) (a1_4 : Int) (a1_5 : Int) (a1_6 : Int) (a1_7 : Int) (a1_8 : Int) (a1_9 : Bool) : Option (Bool) := (plan_All.f l0).bind fun t107 => (if t107 = true then ((stage_in.f a1_0 0 (wrap64 ((l0.length : Int) - 1))).bind fun t108 => (stage_May.j0 k l0 (!t108) a1_0 a1_1 a1_2 a1_3 a1_4 a1_5 a1_6 a1_7 a1_8 a1_9)) else (stage_May.j0 k l0 true a1_0 a1_1 a1_2 a1_3 a1_4 a1_5 a1_6 a1_7 a1_8 a1_9))
theorem stage_May.mono_l : ∀ k, (∀ y0 y1 y2 y3 y4 y5 y6 y7 y8 y9 y10 y11, LeO (stage_May.j0 k y0 y1 y2 y3 y4 y5 y6 y7 y8 y9 y10 y11) (stage_May.j0 (k + 1) y0 y1 y2 y3 y4 y5 y6 y7 y8 y9 y10 y11)) ∧ (∀ y0 y1 y2 y3 y4 y5 y6 y7 y8 y9 y10 y11 y12 y13 y14 y15, LeO (stage_May.j1 k y0 y1 y2 y3 y4 y5 y6 y7 y8 y9 y10 y11 y12 y13 y14 y15) (stage_May.j1 (k + 1) y0 y1 y2 y3 y4 y5 y6 y7 y8 y9 y10 y11 y12 y13 y14 y15))
  | 0 => ⟨fun _ _ _ _ _ _ _ _ _ _ _ _ r h => by simp [stage_May.j0] at h, fun _ _ _ _ _ _ _ _ _ _ _ _ _ _ _ _ r h => by simp [stage_May.j1] at h⟩
  | k + 1 => by
    obtain ⟨ih0, ih1⟩ := stage_May.mono_l k
    refine ⟨?_, ?_⟩
    · intro y0 y1 y2 y3 y4 y5 y6 y7 y8 y9 y10 y11
      unfold stage_May.j0
      repeat' first
      | (with_reducible exact ih0 _ _ _ _ _ _ _ _ _ _ _ _)
      | (with_reducible exact ih1 _ _ _ _ _ _ _ _ _ _ _ _ _ _ _ _)
      | (with_reducible exact LeO.refl _)
      | (with_reducible exact LeO.none _)
      | (with_reducible refine LeO.ite ?_ ?_)
      | (with_reducible refine LeO.bind ?_ (fun _ => ?_))
      | exact ih0 _ _ _ _ _ _ _ _ _ _ _ _
      | exact ih1 _ _ _ _ _ _ _ _ _ _ _ _ _ _ _ _
      | exact LeO.none _
      | refine LeO.ite ?_ ?_
      | refine LeO.bind ?_ (fun _ => ?_)
    · intro y0 y1 y2 y3 y4 y5 y6 y7 y8 y9 y10 y11 y12 y13 y14 y15
      unfold stage_May.j1
      repeat' first
      | (with_reducible exact ih0 _ _ _ _ _ _ _ _ _ _ _ _)
      | (with_reducible exact ih1 _ _ _ _ _ _ _ _ _ _ _ _ _ _ _ _)
      | (with_reducible exact LeO.refl _)
      | (with_reducible exact LeO.none _)
      | (with_reducible refine LeO.ite ?_ ?_)
      | (with_reducible refine LeO.bind ?_ (fun _ => ?_))
      | exact ih0 _ _ _ _ _ _ _ _ _ _ _ _
      | exact ih1 _ _ _ _ _ _ _ _ _ _ _ _ _ _ _ _
      | exact LeO.none _
      | refine LeO.ite ?_ ?_
      | refine LeO.bind ?_ (fun _ => ?_)
theorem stage_May.mono : ∀ a0 a1 a2 a3 a4 a5 a6 a7 a8 a9 a10 k, LeO (stage_May.f k a0 a1 a2 a3 a4 a5 a6 a7 a8 a9 a10) (stage_May.f (k + 1) a0 a1 a2 a3 a4 a5 a6 a7 a8 a9 a10) := by
  intro a0 a1 a2 a3 a4 a5 a6 a7 a8 a9 a10 k
  obtain ⟨ih0, ih1⟩ := stage_May.mono_l k
  unfold stage_May.f
  repeat' first
      | (with_reducible exact ih0 _ _ _ _ _ _ _ _ _ _ _ _)
      | (with_reducible exact ih1 _ _ _ _ _ _ _ _ _ _ _ _ _ _ _ _)
      | (with_reducible exact LeO.refl _)
      | (with_reducible exact LeO.none _)
      | (with_reducible refine LeO.ite ?_ ?_)
      | (with_reducible refine LeO.bind ?_ (fun _ => ?_))
      | exact ih0 _ _ _ _ _ _ _ _ _ _ _ _
      | exact ih1 _ _ _ _ _ _ _ _ _ _ _ _ _ _ _ _
      | exact LeO.none _
      | refine LeO.ite ?_ ?_
      | refine LeO.bind ?_ (fun _ => ?_)
def group_May.f (l0 : List Int) : Option Bool := some (Sp.may l0)
def group_in.f (a0 : Int) (a1 : Int) : Option (Bool) := if a0 ≥ 0 then (if 0 ≤ a1 then (some (decide (a0 < (shl .i64 1 a1)))) else (none)) else (some false)
def group_Against.f (l0 : List Int) (a1 : Int) : Option Int := some (Sp.against l0 a1)
def group_Free.f (l0 : List Int) (a1 : Int) : Option (Bool) := (group_Against.f l0 a1).bind fun t119 => (if t119 = (-1) then (some false) else (some ((Go.bits .and .i64 t119 a1) == 0)))
def plan_draft_stages.l0 : Nat → Int → Bool → List (S41) → Int → Int → List Int → List (S41) → Int → Int → Int → Option (Int × Bool)
  | 0, _, _, _, _, _, _, _, _, _, _ => none
  | k + 1, x4, x5, x10, x11, x12, x121000, x121001, x121002, x121003, x121004 => if x12 < x11 then (if 0 ≤ x12 then (if x12 < (x10.length : Int) then ((group_Free.f x121000 ((rd_T41 x10 x12).f0)).bind fun t123 => (if t123 = true then (if ((rd_T41 x10 x12).f0) = 0 then (some (x4, false)) else ((plan_in.f ((rd_T41 x10 x12).f1) 1 200).bind fun t124 => (if t124 = true then ((plan_in.f ((rd_T41 x10 x12).f2) ((rd_T41 x10 x12).f1) 200).bind fun t125 => (if t125 = true then (plan_draft_stages.l0 k (Go.bits .or .i64 x4 ((rd_T41 x10 x12).f0)) x5 x10 x11 (wrap64 (x12 + 1)) x121000 x121001 x121002 x121003 x121004) else (some (x4, false)))) else (some (x4, false))))) else (some (x4, false)))) else (none)) else (none)) else (some (x4, x5))
def plan_draft_stages.f (k : Nat) (l0_0 : List Int) (l0_1 : List (S41)) (a0_2 : Int) (a0_3 : Int) (a0_4 : Int) : Option (Int × Bool) := plan_draft_stages.l0 k 0 true l0_1 (l0_1.length : Int) 0 l0_0 l0_1 a0_2 a0_3 a0_4
def plan_draft_times.f (l0_0 : List Int) (l0_1 : List (S41)) (a0_2 : Int) (a0_3 : Int) (a0_4 : Int) : Option (Bool) := (plan_in.f a0_2 1 200).bind fun t127 => (if t127 = true then ((plan_in.f a0_3 1 200).bind fun t128 => (if t128 = true then ((plan_in.f a0_4 0 300).bind fun t129 => (some t129)) else (some false))) else (some false))
def plan_Fit.f (k : Nat) (l0_0 : List Int) (l0_1 : List (S41)) (a0_2 : Int) (a0_3 : Int) (a0_4 : Int) : Option (Bool) := (plan_draft_stages.f k l0_0 l0_1 a0_2 a0_3 a0_4).bind fun bt132 => (if bt132.2 = true then ((group_May.f l0_0).bind fun t134 => (if t134 = true then ((plan_in.f (l0_1.length : Int) 2 6).bind fun t135 => (if t135 = true then (if bt132.1 = (wrap64 ((shl .i64 1 (l0_0.length : Int)) - 1)) then ((plan_draft_times.f l0_0 l0_1 a0_2 a0_3 a0_4).bind fun t136 => (some t136)) else (some false)) else (some false))) else (some false))) else (some false))
def group_List.f (a0 : Int) : Option (List Int) := some (Sp.groupsOf a0)
def lamp_on.f (ph : Int) : Int := if ph = 0 then 2 else if ph = 1 then 1 else 0
def lamp_showL.f (n : Nat) (G : Int) (on : Int) : List Int := (List.range n).map fun g => if G.toNat.testBit g then on else 0
def lamp_Show.f (l0_0 : List Int) (l0_1 : List S41) (a0_2 a0_3 a0_4 : Int) (a1 a2 : Int) : Option (List Int) := some (if plan_fitB.f l0_0 l0_1 a0_2 a0_3 a0_4 && decide (0 ≤ a1 ∧ a1 < (l0_1.length : Int) ∧ 0 ≤ a2 ∧ a2 < 3) then lamp_showL.f l0_0.length (rd_T41 l0_1 a1).f0 (lamp_on.f a2) else [])
def stage_Lamps.f (k : Nat) (l0 : List (S39)) (a1_0 : Int) (a1_1 : Int) (a1_2 : Int) (a1_3 : Int) (a1_4 : Int) (a1_5 : Int) (a1_6 : Int) (a1_7 : Int) (a1_8 : Int) (a1_9 : Bool) : Option (List Int) := (stage_May.f k l0 a1_0 a1_1 a1_2 a1_3 a1_4 a1_5 a1_6 a1_7 a1_8 a1_9).bind fun t138 => (if t138 = true then (if 0 ≤ a1_0 then (if a1_0 < (l0.length : Int) then ((lamp_Show.f ((rd_T39 l0 a1_0).f0) ((rd_T39 l0 a1_0).f1) ((rd_T39 l0 a1_0).f2) ((rd_T39 l0 a1_0).f3) ((rd_T39 l0 a1_0).f4) a1_1 a1_3).bind fun t140 => (some t140)) else (none)) else (none)) else (some ([] : List Int)))
theorem stage_Lamps.mono : ∀ a0 a1 a2 a3 a4 a5 a6 a7 a8 a9 a10 k, LeO (stage_Lamps.f k a0 a1 a2 a3 a4 a5 a6 a7 a8 a9 a10) (stage_Lamps.f (k + 1) a0 a1 a2 a3 a4 a5 a6 a7 a8 a9 a10) := by
  intro a0 a1 a2 a3 a4 a5 a6 a7 a8 a9 a10 k
  unfold stage_Lamps.f
  repeat' first
      | (with_reducible exact stage_May.mono _ _ _ _ _ _ _ _ _ _ _ _)
      | (with_reducible exact LeO.refl _)
      | (with_reducible exact LeO.none _)
      | (with_reducible refine LeO.ite ?_ ?_)
      | (with_reducible refine LeO.bind ?_ (fun _ => ?_))
      | exact stage_May.mono _ _ _ _ _ _ _ _ _ _ _ _
      | exact LeO.none _
      | refine LeO.ite ?_ ?_
      | refine LeO.bind ?_ (fun _ => ?_)
def plan_Next.f (k : Nat) (l0_0 : List Int) (l0_1 : List (S41)) (a0_2 : Int) (a0_3 : Int) (a0_4 : Int) (a1 : Int) : Option (Int) := (plan_Fit.f k l0_0 l0_1 a0_2 a0_3 a0_4).bind fun t146 => (if t146 = true then ((plan_in.f a1 0 (wrap64 ((l0_1.length : Int) - 1))).bind fun t147 => (if t147 = true then (if (l0_1.length : Int) = 0 then (none) else (some (Int.tmod (wrap64 (a1 + 1)) (l0_1.length : Int)))) else (some (-1)))) else (some (-1)))
def stage_mayB.f (l : List S39) (s : Sg) : Bool :=
  (decide (1 ≤ l.length ∧ l.length ≤ 3) && !(l.any (plan_badB.f (rd_T39 l 0).f0.length))) && (decide (0 ≤ s.plan ∧ s.plan < (l.length : Int)) && (decide (0 ≤ s.stage ∧ s.stage < ((rd_T39 l s.plan).f1.length : Int)) && (decide (0 ≤ s.next ∧ s.next < ((rd_T39 l s.plan).f1.length : Int)) && (decide (-1 ≤ s.ask ∧ s.ask < ((rd_T39 l s.plan).f1.length : Int)) && (decide (-1 ≤ s.want ∧ s.want < (l.length : Int)) && (decide (0 ≤ s.phase ∧ s.phase < 3) && (decide (0 ≤ s.held ∧ s.held ≤ (rd_T39 l s.plan).f4) && (decide (0 ≤ s.hold ∧ s.hold ≤ (rd_T39 l s.plan).f4 - s.held) &&
    (if s.phase = 0 then decide (s.held ≤ s.t ∧ wrap64 (s.t - s.held) < (rd_T41 (rd_T39 l s.plan).f1 s.stage).f2) && !(s.stop && decide (0 < s.hold)) else decide (s.hold = 0 ∧ s.held = 0 ∧ s.ask = -1 ∧ 0 ≤ s.t ∧ s.t ≤ (if s.phase = 1 then (rd_T39 l s.plan).f2 - 1 else (rd_T39 l s.plan).f3)))))))))))
def stage_greenB.f (p : S39) (s : Sg) : Sg :=
  if 0 < s.hold then { s with t := wrap64 (s.t + 1), hold := s.hold - 1, held := s.held + 1 }
  else if decide (wrap64 (s.t + 1) < (rd_T41 p.f1 s.stage).f1) || (!(s.stop || decide (s.ask ≠ -1) || decide (s.want ≠ -1)) && decide (wrap64 (s.t + 1) < (rd_T41 p.f1 s.stage).f2)) then { s with t := wrap64 (s.t + 1) }
  else { s with t := 0, next := if s.ask = -1 then Int.tmod (s.stage + 1) (p.f1.length : Int) else s.ask, phase := 1, held := 0, ask := -1 }
def stage_amberB.f (p : S39) (s : Sg) : Sg := if s.t + 1 = p.f2 then { s with phase := 2, t := 0 } else { s with t := s.t + 1 }
def stage_redB.f (p : S39) (s : Sg) : Sg :=
  if mn (s.t + 1) p.f3 < p.f3 ∨ s.stop = true then { s with t := mn (s.t + 1) p.f3 }
  else if s.want ≠ -1 then { s with plan := s.want, want := -1, next := 0, phase := 0, stage := 0, t := 0 }
  else { s with phase := 0, stage := s.next, t := 0 }
def stage_tickB.f (l : List S39) (s : Sg) : Sg := if stage_mayB.f l s = true then (if s.phase = 0 then stage_greenB.f (rd_T39 l s.plan) s else if s.phase = 1 then stage_amberB.f (rd_T39 l s.plan) s else stage_redB.f (rd_T39 l s.plan) s) else s
def stage_flat.f (s : Sg) : Int × Int × Int × Int × Int × Int × Int × Int × Int × Bool := (s.plan, s.stage, s.next, s.phase, s.t, s.hold, s.held, s.ask, s.want, s.stop)
def stage_Tick.f (l0 : List S39) (a1_0 a1_1 a1_2 a1_3 a1_4 a1_5 a1_6 a1_7 a1_8 : Int) (a1_9 : Bool) : Option (Int × Int × Int × Int × Int × Int × Int × Int × Int × Bool) := some (stage_flat.f (stage_tickB.f l0 ⟨a1_0, a1_1, a1_2, a1_3, a1_4, a1_5, a1_6, a1_7, a1_8, a1_9⟩))
mutual
def stage_Run.j0 : Nat → List (S39) → Int → Bool → Int → Int → Int → Int → Int → Int → Int → Int → Int → Bool → Option (Int × Int × Int × Int × Int × Int × Int × Int × Int × Bool × (List (List Int)))
  | 0, _, _, _, _, _, _, _, _, _, _, _, _, _ => none
  | k + 1, x0, x2, x17, x149000, x149001, x149002, x149003, x149004, x149005, x149006, x149007, x149008, x149009 => if x17 = true then (some (x149000, x149001, x149002, x149003, x149004, x149005, x149006, x149007, x149008, x149009, ([] : List (List Int)))) else (stage_Run.l0 k x0 ([] : List (List Int)) x2 0 x149000 x149001 x149002 x149003 x149004 x149005 x149006 x149007 x149008 x149009)
def stage_Run.l0 : Nat → List (S39) → List (List Int) → Int → Int → Int → Int → Int → Int → Int → Int → Int → Int → Int → Bool → Option (Int × Int × Int × Int × Int × Int × Int × Int × Int × Bool × (List (List Int)))
  | 0, _, _, _, _, _, _, _, _, _, _, _, _, _, _ => none
  | k + 1, x0, x8, x19, x20, x149000, x149001, x149002, x149003, x149004, x149005, x149006, x149007, x149008, x149009 => if x20 < x19 then ((stage_Tick.f x0 x149000 x149001 x149002 x149003 x149004 x149005 x149006 x149007 x149008 x149009).bind fun bt152 => ((stage_Lamps.f k x0 bt152.1 bt152.2.1 bt152.2.2.1 bt152.2.2.2.1 bt152.2.2.2.2.1 bt152.2.2.2.2.2.1 bt152.2.2.2.2.2.2.1 bt152.2.2.2.2.2.2.2.1 bt152.2.2.2.2.2.2.2.2.1 bt152.2.2.2.2.2.2.2.2.2).bind fun t162 => (if x8.length < 5864062014805 then (stage_Run.l0 k x0 (x8 ++ [t162]) x19 (wrap64 (x20 + 1)) bt152.1 bt152.2.1 bt152.2.2.1 bt152.2.2.2.1 bt152.2.2.2.2.1 bt152.2.2.2.2.2.1 bt152.2.2.2.2.2.2.1 bt152.2.2.2.2.2.2.2.1 bt152.2.2.2.2.2.2.2.2.1 bt152.2.2.2.2.2.2.2.2.2) else (none)))) else (some (x149000, x149001, x149002, x149003, x149004, x149005, x149006, x149007, x149008, x149009, x8))
end
def stage_Run.f (k : Nat) (l0 : List (S39)) (a1_0 : Int) (a1_1 : Int) (a1_2 : Int) (a1_3 : Int) (a1_4 : Int) (a1_5 : Int) (a1_6 : Int) (a1_7 : Int) (a1_8 : Int) (a1_9 : Bool) (a2 : Int) : Option (Int × Int × Int × Int × Int × Int × Int × Int × Int × Bool × (List (List Int))) := (stage_May.f k l0 a1_0 a1_1 a1_2 a1_3 a1_4 a1_5 a1_6 a1_7 a1_8 a1_9).bind fun t150 => (if t150 = true then ((stage_in.f a2 0 2000).bind fun t151 => (stage_Run.j0 k l0 a2 (!t151) a1_0 a1_1 a1_2 a1_3 a1_4 a1_5 a1_6 a1_7 a1_8 a1_9)) else (stage_Run.j0 k l0 a2 true a1_0 a1_1 a1_2 a1_3 a1_4 a1_5 a1_6 a1_7 a1_8 a1_9))
theorem stage_Run.mono_l : ∀ k, (∀ y0 y1 y2 y3 y4 y5 y6 y7 y8 y9 y10 y11 y12, LeO (stage_Run.j0 k y0 y1 y2 y3 y4 y5 y6 y7 y8 y9 y10 y11 y12) (stage_Run.j0 (k + 1) y0 y1 y2 y3 y4 y5 y6 y7 y8 y9 y10 y11 y12)) ∧ (∀ y0 y1 y2 y3 y4 y5 y6 y7 y8 y9 y10 y11 y12 y13, LeO (stage_Run.l0 k y0 y1 y2 y3 y4 y5 y6 y7 y8 y9 y10 y11 y12 y13) (stage_Run.l0 (k + 1) y0 y1 y2 y3 y4 y5 y6 y7 y8 y9 y10 y11 y12 y13))
  | 0 => ⟨fun _ _ _ _ _ _ _ _ _ _ _ _ _ r h => by simp [stage_Run.j0] at h, fun _ _ _ _ _ _ _ _ _ _ _ _ _ _ r h => by simp [stage_Run.l0] at h⟩
  | k + 1 => by
    obtain ⟨ih0, ih1⟩ := stage_Run.mono_l k
    refine ⟨?_, ?_⟩
    · intro y0 y1 y2 y3 y4 y5 y6 y7 y8 y9 y10 y11 y12
      unfold stage_Run.j0
      repeat' first
      | (with_reducible exact ih0 _ _ _ _ _ _ _ _ _ _ _ _ _)
      | (with_reducible exact ih1 _ _ _ _ _ _ _ _ _ _ _ _ _ _)
      | (with_reducible exact stage_Lamps.mono _ _ _ _ _ _ _ _ _ _ _ _)
      | (with_reducible exact stage_May.mono _ _ _ _ _ _ _ _ _ _ _ _)
      | (with_reducible exact LeO.refl _)
      | (with_reducible exact LeO.none _)
      | (with_reducible refine LeO.ite ?_ ?_)
      | (with_reducible refine LeO.bind ?_ (fun _ => ?_))
      | exact ih0 _ _ _ _ _ _ _ _ _ _ _ _ _
      | exact ih1 _ _ _ _ _ _ _ _ _ _ _ _ _ _
      | exact stage_Lamps.mono _ _ _ _ _ _ _ _ _ _ _ _
      | exact stage_May.mono _ _ _ _ _ _ _ _ _ _ _ _
      | exact LeO.none _
      | refine LeO.ite ?_ ?_
      | refine LeO.bind ?_ (fun _ => ?_)
    · intro y0 y1 y2 y3 y4 y5 y6 y7 y8 y9 y10 y11 y12 y13
      unfold stage_Run.l0
      repeat' first
      | (with_reducible exact ih0 _ _ _ _ _ _ _ _ _ _ _ _ _)
      | (with_reducible exact ih1 _ _ _ _ _ _ _ _ _ _ _ _ _ _)
      | (with_reducible exact stage_Lamps.mono _ _ _ _ _ _ _ _ _ _ _ _)
      | (with_reducible exact stage_May.mono _ _ _ _ _ _ _ _ _ _ _ _)
      | (with_reducible exact LeO.refl _)
      | (with_reducible exact LeO.none _)
      | (with_reducible refine LeO.ite ?_ ?_)
      | (with_reducible refine LeO.bind ?_ (fun _ => ?_))
      | exact ih0 _ _ _ _ _ _ _ _ _ _ _ _ _
      | exact ih1 _ _ _ _ _ _ _ _ _ _ _ _ _ _
      | exact stage_Lamps.mono _ _ _ _ _ _ _ _ _ _ _ _
      | exact stage_May.mono _ _ _ _ _ _ _ _ _ _ _ _
      | exact LeO.none _
      | refine LeO.ite ?_ ?_
      | refine LeO.bind ?_ (fun _ => ?_)
theorem stage_Run.mono : ∀ a0 a1 a2 a3 a4 a5 a6 a7 a8 a9 a10 a11 k, LeO (stage_Run.f k a0 a1 a2 a3 a4 a5 a6 a7 a8 a9 a10 a11) (stage_Run.f (k + 1) a0 a1 a2 a3 a4 a5 a6 a7 a8 a9 a10 a11) := by
  intro a0 a1 a2 a3 a4 a5 a6 a7 a8 a9 a10 a11 k
  obtain ⟨ih0, ih1⟩ := stage_Run.mono_l k
  unfold stage_Run.f
  repeat' first
      | (with_reducible exact ih0 _ _ _ _ _ _ _ _ _ _ _ _ _)
      | (with_reducible exact ih1 _ _ _ _ _ _ _ _ _ _ _ _ _ _)
      | (with_reducible exact stage_Lamps.mono _ _ _ _ _ _ _ _ _ _ _ _)
      | (with_reducible exact stage_May.mono _ _ _ _ _ _ _ _ _ _ _ _)
      | (with_reducible exact LeO.refl _)
      | (with_reducible exact LeO.none _)
      | (with_reducible refine LeO.ite ?_ ?_)
      | (with_reducible refine LeO.bind ?_ (fun _ => ?_))
      | exact ih0 _ _ _ _ _ _ _ _ _ _ _ _ _
      | exact ih1 _ _ _ _ _ _ _ _ _ _ _ _ _ _
      | exact stage_Lamps.mono _ _ _ _ _ _ _ _ _ _ _ _
      | exact stage_May.mono _ _ _ _ _ _ _ _ _ _ _ _
      | exact LeO.none _
      | refine LeO.ite ?_ ?_
      | refine LeO.bind ?_ (fun _ => ?_)
def stage_New.f  : Option (Int × Int × Int × Int × Int × Int × Int × Int × Int × Bool) := some (0, 0, 0, 2, 0, 0, 0, (-1), (-1), false)
def lamp_badB.f (x : Int) : Bool := decide (x < 0) || decide (3 ≤ x)
def lamp_mayB.f (l : List Int) : Bool := decide (1 ≤ l.length ∧ l.length ≤ 8) && !(l.any lamp_badB.f)
def lamp_May.f (l0 : List Int) : Option Bool := some (lamp_mayB.f l0)
def lamp_letter.f (x : Int) : UInt8 := if x = 0 then 114 else if x = 1 then 97 else 103
def lamp_letters.f (l : List Int) : List UInt8 := l.map lamp_letter.f
def lamp_textB.f (l : List Int) : ByteArray := if lamp_mayB.f l then ⟨(lamp_letters.f l).toArray⟩ else ⟨#[]⟩
def lamp_Text.f (l0 : List Int) : Option ByteArray := some (lamp_textB.f l0)
def pelicanlaw14_Two.f  : Option (List Int × (List (S41)) × Int × Int × Int) := some ((([2, 1] : List Int)), (([(⟨1, 5, 9⟩ : S41), (⟨2, 7, 8⟩ : S41)] : List (S41))), 3, 2, 4)
def pelicanlaw16_awake.f (k : Nat)  : Option (Bool) := (pelicanlaw14_Two.f).bind fun bt176 => ((some (([(⟨bt176.1, bt176.2.1, bt176.2.2.1, bt176.2.2.2.1, bt176.2.2.2.2⟩ : S39)] : List (S39)) : List (S39))).bind fun y185 => ((stage_New.f).bind fun bt188 => ((stage_Run.f k y185 bt188.1 bt188.2.1 bt188.2.2.1 bt188.2.2.2.1 bt188.2.2.2.2.1 bt188.2.2.2.2.2.1 bt188.2.2.2.2.2.2.1 bt188.2.2.2.2.2.2.2.1 bt188.2.2.2.2.2.2.2.2.1 bt188.2.2.2.2.2.2.2.2.2 7).bind fun bt198 => ((stage_May.f k y185 bt198.1 bt198.2.1 bt198.2.2.1 bt198.2.2.2.1 bt198.2.2.2.2.1 bt198.2.2.2.2.2.1 bt198.2.2.2.2.2.2.1 bt198.2.2.2.2.2.2.2.1 bt198.2.2.2.2.2.2.2.2.1 bt198.2.2.2.2.2.2.2.2.2.1).bind fun t212 => (if t212 = true then (if (bt198.2.2.2.2.2.2.2.2.2.2.length : Int) = 7 then (if 0 < (bt198.2.2.2.2.2.2.2.2.2.2.length : Int) then ((lamp_Text.f (rd_L1 bt198.2.2.2.2.2.2.2.2.2.2 0)).bind fun t214 => (if t214.toList = ([114, 114] : List UInt8) then (if 1 < (bt198.2.2.2.2.2.2.2.2.2.2.length : Int) then ((lamp_Text.f (rd_L1 bt198.2.2.2.2.2.2.2.2.2.2 1)).bind fun t216 => (if t216.toList = ([103, 114] : List UInt8) then (if 6 < (bt198.2.2.2.2.2.2.2.2.2.2.length : Int) then ((lamp_Text.f (rd_L1 bt198.2.2.2.2.2.2.2.2.2.2 6)).bind fun t218 => (if t218.toList = ([103, 114] : List UInt8) then (if bt198.2.2.2.1 = 0 then (if bt198.2.2.2.2.1 = 5 then ((stage_Lamps.f k y185 bt198.1 bt198.2.1 bt198.2.2.1 bt198.2.2.2.1 bt198.2.2.2.2.1 bt198.2.2.2.2.2.1 bt198.2.2.2.2.2.2.1 bt198.2.2.2.2.2.2.2.1 bt198.2.2.2.2.2.2.2.2.1 bt198.2.2.2.2.2.2.2.2.2.1).bind fun t219 => ((lamp_Text.f t219).bind fun t222 => (some (t222.toList == ([103, 114] : List UInt8))))) else (some false)) else (some false)) else (some false))) else (none)) else (some false))) else (none)) else (some false))) else (none)) else (some false)) else (some false))))))
theorem pelicanlaw16_awake.mono : ∀ k, LeO (pelicanlaw16_awake.f k ) (pelicanlaw16_awake.f (k + 1) ) := by
  intro  k
  unfold pelicanlaw16_awake.f
  repeat' first
      | (with_reducible exact stage_Lamps.mono _ _ _ _ _ _ _ _ _ _ _ _)
      | (with_reducible exact stage_May.mono _ _ _ _ _ _ _ _ _ _ _ _)
      | (with_reducible exact stage_Run.mono _ _ _ _ _ _ _ _ _ _ _ _ _)
      | (with_reducible exact LeO.refl _)
      | (with_reducible exact LeO.none _)
      | (with_reducible refine LeO.ite ?_ ?_)
      | (with_reducible refine LeO.bind ?_ (fun _ => ?_))
      | exact stage_Lamps.mono _ _ _ _ _ _ _ _ _ _ _ _
      | exact stage_May.mono _ _ _ _ _ _ _ _ _ _ _ _
      | exact stage_Run.mono _ _ _ _ _ _ _ _ _ _ _ _ _
      | exact LeO.none _
      | refine LeO.ite ?_ ?_
      | refine LeO.bind ?_ (fun _ => ?_)
def pelicanlaw14_Few.f (l0_0 : List Int) (l0_1 : List (S41)) (a0_2 : Int) (a0_3 : Int) (a0_4 : Int) : Option (Bool) := if (l0_0.length : Int) ≤ 10 then (some (decide ((l0_1.length : Int) ≤ 10))) else (some false)
mutual
def pelicanlaw14_FewAll.l0 : Nat → List (S39) → Int → Option (Bool)
  | 0, _, _ => none
  | k + 1, x0, x3 => if x3 < (x0.length : Int) then (pelicanlaw14_FewAll.j1 k x0 x3 (decide (x3 ≤ 5))) else (pelicanlaw14_FewAll.j1 k x0 x3 false)
def pelicanlaw14_FewAll.j1 : Nat → List (S39) → Int → Bool → Option (Bool)
  | 0, _, _, _ => none
  | k + 1, x0, x3, x12 => if x12 = true then (if 0 ≤ x3 then (if x3 < (x0.length : Int) then ((pelicanlaw14_Few.f ((rd_T39 x0 x3).f0) ((rd_T39 x0 x3).f1) ((rd_T39 x0 x3).f2) ((rd_T39 x0 x3).f3) ((rd_T39 x0 x3).f4)).bind fun t225 => (if t225 = true then (pelicanlaw14_FewAll.l0 k x0 (wrap64 (x3 + 1))) else (some false))) else (none)) else (none)) else (some (decide ((x0.length : Int) ≤ 5)))
end
def pelicanlaw14_FewAll.f (k : Nat) (l0 : List (S39)) : Option (Bool) := pelicanlaw14_FewAll.l0 k l0 0
end Go.Proofs.YtechgjbhgeddjaaDoor.F
