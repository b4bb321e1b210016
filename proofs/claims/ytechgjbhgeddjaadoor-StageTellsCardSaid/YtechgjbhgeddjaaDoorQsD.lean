/- Woven by wip/weave/weave.py of this repo (own tool) out of the translation: the contracts of some functions. Lean checks it. -/
import Derived.Test.YtechgjbhgeddjaaDoorQsSp
namespace Go.Proofs.YtechgjbhgeddjaaDoor.F
open Go.RowKit Go.Proofs.YtechgjbhgeddjaaDoorW.PrintWords Go.Proofs.YtechgjbhgeddjaaDoorW.PrintLast Go.Proofs.YtechgjbhgeddjaaDoorW.PrintMore
attribute [local go_sem] max2_int min2_int max_two min_two max_three min_three max_four min_four   -- for this text's walks alone
set_option linter.unusedVariables false
set_option linter.unusedSimpArgs false
def plan_in.f (a0 : Int) (a1 : Int) (a2 : Int) : Option (Bool) := if a0 ≥ a1 then (some (decide (a0 ≤ a2))) else (some false)
def plan_stageB.f (m : List Int) (s : S41) : Bool := (if Sp.against m s.f0 = -1 then false else (Go.bits .and .i64 (Sp.against m s.f0) s.f0 == 0)) && (decide (s.f0 ≠ 0) && (decide (1 ≤ s.f1 ∧ s.f1 ≤ 200) && decide (s.f1 ≤ s.f2 ∧ s.f2 ≤ 200)))
def plan_fitB.f (m : List Int) (ss : List S41) (am red hold : Int) : Bool := ss.all (plan_stageB.f m) && (Sp.may m && (decide (2 ≤ ss.length ∧ ss.length ≤ 6) && (decide (ss.foldl (fun o s => Go.bits .or .i64 o s.f0) 0 = wrap64 ((shl .i64 1 (m.length : Int)) - 1)) && (decide (1 ≤ am ∧ am ≤ 200) && (decide (1 ≤ red ∧ red ≤ 200) && decide (0 ≤ hold ∧ hold ≤ 300))))))
def plan_badB.f (n : Nat) (x : S39) : Bool := !(plan_fitB.f x.f0 x.f1 x.f2 x.f3 x.f4) || decide (x.f0.length ≠ n)
def plan_All.f (l0 : List S39) : Option Bool := some (decide (1 ≤ l0.length ∧ l0.length ≤ 3) && !(l0.any (plan_badB.f (rd_T39 l0 0).f0.length)))
def stage_in.f (a0 : Int) (a1 : Int) (a2 : Int) : Option (Bool) := if a0 ≥ a1 then (some (decide (a0 ≤ a2))) else (some false)
def stage_phase.f (l0_0 : List Int) (l0_1 : List (S41)) (a0_2 : Int) (a0_3 : Int) (a0_4 : Int) (a1_0 : Int) (a1_1 : Int) (a1_2 : Int) (a1_3 : Int) (a1_4 : Int) (a1_5 : Int) (a1_6 : Int) (a1_7 : Int) (a1_8 : Int) (a1_9 : Bool) : Option (Bool) := if a1_3 = 0 then (if a1_4 ≥ a1_6 then (if 0 ≤ a1_1 then (if a1_1 < (l0_1.length : Int) then (if (wrap64 (a1_4 - a1_6)) < ((rd_T41 l0_1 a1_1).f2) then (if a1_9 = true then (some (!(decide (a1_5 > 0)))) else (some (!false))) else (some false)) else (none)) else (none)) else (some false)) else (if a1_3 = 1 then (if a1_5 = 0 then (if a1_6 = 0 then (if a1_7 = (-1) then ((stage_in.f a1_4 0 (wrap64 (a0_2 - 1))).bind fun t104 => (some t104)) else (some false)) else (some false)) else (some false)) else (if a1_5 = 0 then (if a1_6 = 0 then (if a1_7 = (-1) then ((stage_in.f a1_4 0 a0_3).bind fun t105 => (some t105)) else (some false)) else (some false)) else (some false)))
def group_May.f (l0 : List Int) : Option Bool := some (Sp.may l0)
def group_in.f (a0 : Int) (a1 : Int) : Option (Bool) := if a0 ≥ 0 then (if 0 ≤ a1 then (some (decide (a0 < (shl .i64 1 a1)))) else (none)) else (some false)
def group_Against.f (l0 : List Int) (a1 : Int) : Option Int := some (Sp.against l0 a1)
def group_Free.f (l0 : List Int) (a1 : Int) : Option (Bool) := (group_Against.f l0 a1).bind fun t114 => (if t114 = (-1) then (some false) else (some ((Go.bits .and .i64 t114 a1) == 0)))
def plan_draft_stages.l0 : Nat → Int → Bool → List (S41) → Int → Int → List Int → List (S41) → Int → Int → Int → Option (Int × Bool)
  | 0, _, _, _, _, _, _, _, _, _, _ => none
  | k + 1, x4, x5, x10, x11, x12, x116000, x116001, x116002, x116003, x116004 => if x12 < x11 then (if 0 ≤ x12 then (if x12 < (x10.length : Int) then ((group_Free.f x116000 ((rd_T41 x10 x12).f0)).bind fun t118 => (if t118 = true then (if ((rd_T41 x10 x12).f0) = 0 then (some (x4, false)) else ((plan_in.f ((rd_T41 x10 x12).f1) 1 200).bind fun t119 => (if t119 = true then ((plan_in.f ((rd_T41 x10 x12).f2) ((rd_T41 x10 x12).f1) 200).bind fun t120 => (if t120 = true then (plan_draft_stages.l0 k (Go.bits .or .i64 x4 ((rd_T41 x10 x12).f0)) x5 x10 x11 (wrap64 (x12 + 1)) x116000 x116001 x116002 x116003 x116004) else (some (x4, false)))) else (some (x4, false))))) else (some (x4, false)))) else (none)) else (none)) else (some (x4, x5))
def plan_draft_stages.f (k : Nat) (l0_0 : List Int) (l0_1 : List (S41)) (a0_2 : Int) (a0_3 : Int) (a0_4 : Int) : Option (Int × Bool) := plan_draft_stages.l0 k 0 true l0_1 (l0_1.length : Int) 0 l0_0 l0_1 a0_2 a0_3 a0_4
def plan_draft_times.f (l0_0 : List Int) (l0_1 : List (S41)) (a0_2 : Int) (a0_3 : Int) (a0_4 : Int) : Option (Bool) := (plan_in.f a0_2 1 200).bind fun t122 => (if t122 = true then ((plan_in.f a0_3 1 200).bind fun t123 => (if t123 = true then ((plan_in.f a0_4 0 300).bind fun t124 => (some t124)) else (some false))) else (some false))
def plan_Fit.f (k : Nat) (l0_0 : List Int) (l0_1 : List (S41)) (a0_2 : Int) (a0_3 : Int) (a0_4 : Int) : Option (Bool) := (plan_draft_stages.f k l0_0 l0_1 a0_2 a0_3 a0_4).bind fun bt127 => (if bt127.2 = true then ((group_May.f l0_0).bind fun t129 => (if t129 = true then ((plan_in.f (l0_1.length : Int) 2 6).bind fun t130 => (if t130 = true then (if bt127.1 = (wrap64 ((shl .i64 1 (l0_0.length : Int)) - 1)) then ((plan_draft_times.f l0_0 l0_1 a0_2 a0_3 a0_4).bind fun t131 => (some t131)) else (some false)) else (some false))) else (some false))) else (some false))
def group_List.f (a0 : Int) : Option (List Int) := some (Sp.groupsOf a0)
def lamp_on.f (ph : Int) : Int := if ph = 0 then 2 else if ph = 1 then 1 else 0
def lamp_showL.f (n : Nat) (G : Int) (on : Int) : List Int := (List.range n).map fun g => if G.toNat.testBit g then on else 0
def lamp_Show.f (l0_0 : List Int) (l0_1 : List S41) (a0_2 a0_3 a0_4 : Int) (a1 a2 : Int) : Option (List Int) := some (if plan_fitB.f l0_0 l0_1 a0_2 a0_3 a0_4 && decide (0 ≤ a1 ∧ a1 < (l0_1.length : Int) ∧ 0 ≤ a2 ∧ a2 < 3) then lamp_showL.f l0_0.length (rd_T41 l0_1 a1).f0 (lamp_on.f a2) else [])
def stage_mayB.f (l : List S39) (s : Sg) : Bool :=
  (decide (1 ≤ l.length ∧ l.length ≤ 3) && !(l.any (plan_badB.f (rd_T39 l 0).f0.length))) && (decide (0 ≤ s.plan ∧ s.plan < (l.length : Int)) && (decide (0 ≤ s.stage ∧ s.stage < ((rd_T39 l s.plan).f1.length : Int)) && (decide (0 ≤ s.next ∧ s.next < ((rd_T39 l s.plan).f1.length : Int)) && (decide (-1 ≤ s.ask ∧ s.ask < ((rd_T39 l s.plan).f1.length : Int)) && (decide (-1 ≤ s.want ∧ s.want < (l.length : Int)) && (decide (0 ≤ s.phase ∧ s.phase < 3) && (decide (0 ≤ s.held ∧ s.held ≤ (rd_T39 l s.plan).f4) && (decide (0 ≤ s.hold ∧ s.hold ≤ (rd_T39 l s.plan).f4 - s.held) &&
    (if s.phase = 0 then decide (s.held ≤ s.t ∧ wrap64 (s.t - s.held) < (rd_T41 (rd_T39 l s.plan).f1 s.stage).f2) && !(s.stop && decide (0 < s.hold)) else decide (s.hold = 0 ∧ s.held = 0 ∧ s.ask = -1 ∧ 0 ≤ s.t ∧ s.t ≤ (if s.phase = 1 then (rd_T39 l s.plan).f2 - 1 else (rd_T39 l s.plan).f3)))))))))))
def stage_greenB.f (p : S39) (s : Sg) : Sg :=
  if 0 < s.hold then { s with t := wrap64 (s.t + 1), hold := s.hold - 1, held := s.held + 1 }
  else if decide (wrap64 (s.t + 1) < (rd_T41 p.f1 s.stage).f1) || (!(s.stop || decide (s.ask ≠ -1) || decide (s.want ≠ -1)) && decide (wrap64 (s.t + 1) < (rd_T41 p.f1 s.stage).f2)) then { s with t := wrap64 (s.t + 1) }
  else { s with t := 0, next := if s.ask = -1 then Int.tmod (s.stage + 1) (p.f1.length : Int) else s.ask, phase := 1, held := 0, ask := -1 }
def stage_amberB.f (p : S39) (s : Sg) : Sg := if s.t + 1 = p.f2 then { s with phase := 2, t := 0 } else { s with t := s.t + 1 }
def stage_redB.f (p : S39) (s : Sg) : Sg :=
  if mn (s.t + 1) p.f3 < p.f3 ∨ s.stop = true then { s with t := mn (s.t + 1) p.f3 }
  else if s.want ≠ -1 then { s with plan := s.want, want := -1, next := 0, phase := 0, stage := 0, t := 0 }
  else { s with phase := 0, stage := s.next, t := 0 }
def stage_tickB.f (l : List S39) (s : Sg) : Sg := if stage_mayB.f l s = true then (if s.phase = 0 then stage_greenB.f (rd_T39 l s.plan) s else if s.phase = 1 then stage_amberB.f (rd_T39 l s.plan) s else stage_redB.f (rd_T39 l s.plan) s) else s
def lamp_badB.f (x : Int) : Bool := decide (x < 0) || decide (3 ≤ x)
def lamp_mayB.f (l : List Int) : Bool := decide (1 ≤ l.length ∧ l.length ≤ 8) && !(l.any lamp_badB.f)
def lamp_May.f (l0 : List Int) : Option Bool := some (lamp_mayB.f l0)
def lamp_letter.f (x : Int) : UInt8 := if x = 0 then 114 else if x = 1 then 97 else 103
def lamp_letters.f (l : List Int) : List UInt8 := l.map lamp_letter.f
def lamp_textB.f (l : List Int) : ByteArray := if lamp_mayB.f l then ⟨(lamp_letters.f l).toArray⟩ else ⟨#[]⟩
def lamp_Text.f (l0 : List Int) : Option ByteArray := some (lamp_textB.f l0)
def pelicanlaw14_Few.f (l0_0 : List Int) (l0_1 : List (S41)) (a0_2 : Int) (a0_3 : Int) (a0_4 : Int) : Option (Bool) := if (l0_0.length : Int) ≤ 10 then (some (decide ((l0_1.length : Int) ≤ 10))) else (some false)
mutual
def pelicanlaw14_FewAll.l0 : Nat → List (S39) → Int → Option (Bool)
  | 0, _, _ => none
  | k + 1, x0, x3 => if x3 < (x0.length : Int) then (pelicanlaw14_FewAll.j1 k x0 x3 (decide (x3 ≤ 5))) else (pelicanlaw14_FewAll.j1 k x0 x3 false)
def pelicanlaw14_FewAll.j1 : Nat → List (S39) → Int → Bool → Option (Bool)
  | 0, _, _, _ => none
  | k + 1, x0, x3, x12 => if x12 = true then (if 0 ≤ x3 then (if x3 < (x0.length : Int) then ((pelicanlaw14_Few.f ((rd_T39 x0 x3).f0) ((rd_T39 x0 x3).f1) ((rd_T39 x0 x3).f2) ((rd_T39 x0 x3).f3) ((rd_T39 x0 x3).f4)).bind fun t220 => (if t220 = true then (pelicanlaw14_FewAll.l0 k x0 (wrap64 (x3 + 1))) else (some false))) else (none)) else (none)) else (some (decide ((x0.length : Int) ≤ 5)))
end
def pelicanlaw14_FewAll.f (k : Nat) (l0 : List (S39)) : Option (Bool) := pelicanlaw14_FewAll.l0 k l0 0
end Go.Proofs.YtechgjbhgeddjaaDoor.F
