/- Woven by wip/weave/weave.py of this repo (own tool) out of the translation: the contracts of some functions. Lean checks it. -/
import Derived.Test.YtpciieagafddcaaDoorQiF0
namespace Go.Proofs.YtpciieagafddcaaDoor.F
open Go.RowKit Go.Proofs.YtpciieagafddcaaDoorW.PrintWords Go.Proofs.YtpciieagafddcaaDoorW.PrintLast Go.Proofs.YtpciieagafddcaaDoorW.PrintMore
attribute [local go_sem] max2_int min2_int max_two min_two max_three min_three max_four min_four   -- for this text's walks alone
set_option linter.unusedVariables false
set_option linter.unusedSimpArgs false
def plan_in.f (a0 : Int) (a1 : Int) (a2 : Int) : Option (Bool) := if a0 ≥ a1 then (some (decide (a0 ≤ a2))) else (some false)
def group_May.f (l0 : List Int) : Option Bool := some (Sp.may l0)
def group_in.f (a0 : Int) (a1 : Int) : Option (Bool) := if a0 ≥ 0 then (if 0 ≤ a1 then (some (decide (a0 < (shl .i64 1 a1)))) else (none)) else (some false)
def group_Against.f (l0 : List Int) (a1 : Int) : Option Int := some (Sp.against l0 a1)
def group_Free.f (l0 : List Int) (a1 : Int) : Option (Bool) := (group_Against.f l0 a1).bind fun t101 => (if t101 = (-1) then (some false) else (some ((Go.bits .and .i64 t101 a1) == 0)))
def plan_draft_stages.l0 : Nat → Int → Bool → List (S87) → Int → Int → List Int → List (S87) → Int → Int → Int → Option (Int × Bool)
  | 0, _, _, _, _, _, _, _, _, _, _ => none
  | k + 1, x4, x5, x10, x11, x12, x103000, x103001, x103002, x103003, x103004 => if x12 < x11 then (if 0 ≤ x12 then (if x12 < (x10.length : Int) then ((group_Free.f x103000 ((rd_T87 x10 x12).f0)).bind fun t105 => (if t105 = true then (if ((rd_T87 x10 x12).f0) = 0 then (some (x4, false)) else ((plan_in.f ((rd_T87 x10 x12).f1) 1 200).bind fun t106 => (if t106 = true then ((plan_in.f ((rd_T87 x10 x12).f2) ((rd_T87 x10 x12).f1) 200).bind fun t107 => (if t107 = true then (plan_draft_stages.l0 k (Go.bits .or .i64 x4 ((rd_T87 x10 x12).f0)) x5 x10 x11 (wrap64 (x12 + 1)) x103000 x103001 x103002 x103003 x103004) else (some (x4, false)))) else (some (x4, false))))) else (some (x4, false)))) else (none)) else (none)) else (some (x4, x5))
def plan_draft_stages.f (k : Nat) (l0_0 : List Int) (l0_1 : List (S87)) (a0_2 : Int) (a0_3 : Int) (a0_4 : Int) : Option (Int × Bool) := plan_draft_stages.l0 k 0 true l0_1 (l0_1.length : Int) 0 l0_0 l0_1 a0_2 a0_3 a0_4
def plan_draft_times.f (l0_0 : List Int) (l0_1 : List (S87)) (a0_2 : Int) (a0_3 : Int) (a0_4 : Int) : Option (Bool) := (plan_in.f a0_2 1 200).bind fun t109 => (if t109 = true then ((plan_in.f a0_3 1 200).bind fun t110 => (if t110 = true then ((plan_in.f a0_4 0 300).bind fun t111 => (some t111)) else (some false))) else (some false))
def plan_Fit.f (k : Nat) (l0_0 : List Int) (l0_1 : List (S87)) (a0_2 : Int) (a0_3 : Int) (a0_4 : Int) : Option (Bool) := (plan_draft_stages.f k l0_0 l0_1 a0_2 a0_3 a0_4).bind fun bt114 => (if bt114.2 = true then ((group_May.f l0_0).bind fun t116 => (if t116 = true then ((plan_in.f (l0_1.length : Int) 2 6).bind fun t117 => (if t117 = true then (if bt114.1 = (wrap64 ((shl .i64 1 (l0_0.length : Int)) - 1)) then ((plan_draft_times.f l0_0 l0_1 a0_2 a0_3 a0_4).bind fun t118 => (some t118)) else (some false)) else (some false))) else (some false))) else (some false))
def lamp_badB.f (x : Int) : Bool := decide (x < 0) || decide (3 ≤ x)
def lamp_mayB.f (l : List Int) : Bool := decide (1 ≤ l.length ∧ l.length ≤ 8) && !(l.any lamp_badB.f)
def lamp_May.f (l0 : List Int) : Option Bool := some (lamp_mayB.f l0)
mutual
def lamp_Clash.j0 : Nat → List Int → Bool → List Int → List (S87) → Int → Int → Int → Option (Bool)
  | 0, _, _, _, _, _, _, _ => none
  | k + 1, x1, x23, x120000, x120001, x120002, x120003, x120004 => if x23 = true then (some false) else (lamp_Clash.l0 k 0 x1 (x1.length : Int) 0 x120000 x120001 x120002 x120003 x120004)
def lamp_Clash.l0 : Nat → Int → List Int → Int → Int → List Int → List (S87) → Int → Int → Int → Option (Bool)
  | 0, _, _, _, _, _, _, _, _, _ => none
  | k + 1, x5, x24, x25, x26, x120000, x120001, x120002, x120003, x120004 => if x26 < x25 then (if 0 ≤ x26 then (if x26 < (x24.length : Int) then (if (rd x24 x26) = 0 then (lamp_Clash.l0 k x5 x24 x25 (wrap64 (x26 + 1)) x120000 x120001 x120002 x120003 x120004) else (lamp_Clash.l0 k (Go.bits .or .i64 x5 (shl .i64 1 x26)) x24 x25 (wrap64 (x26 + 1)) x120000 x120001 x120002 x120003 x120004)) else (none)) else (none)) else ((group_Free.f x120000 x5).bind fun t123 => (some (!t123)))
end
def lamp_Clash.f (k : Nat) (l0_0 : List Int) (l0_1 : List (S87)) (a0_2 : Int) (a0_3 : Int) (a0_4 : Int) (l1 : List Int) : Option (Bool) := (plan_Fit.f k l0_0 l0_1 a0_2 a0_3 a0_4).bind fun t120 => (if t120 = true then (if (l1.length : Int) = (l0_0.length : Int) then ((lamp_May.f l1).bind fun t121 => (lamp_Clash.j0 k l1 (!t121) l0_0 l0_1 a0_2 a0_3 a0_4)) else (lamp_Clash.j0 k l1 true l0_0 l0_1 a0_2 a0_3 a0_4)) else (lamp_Clash.j0 k l1 true l0_0 l0_1 a0_2 a0_3 a0_4))
def pelicanlaw14_Few.f (l0_0 : List Int) (l0_1 : List (S87)) (a0_2 : Int) (a0_3 : Int) (a0_4 : Int) : Option (Bool) := if (l0_0.length : Int) ≤ 10 then (some (decide ((l0_1.length : Int) ≤ 10))) else (some false)
def pelicanref05_Ints.l0 : Nat → List Int → List Int → Int → Option (Bool)
  | 0, _, _, _ => none
  | k + 1, x0, x1, x5 => if x5 < (x0.length : Int) then (if 0 ≤ x5 then (if x5 < (x1.length : Int) then (if (rd x0 x5) = (rd x1 x5) then (pelicanref05_Ints.l0 k x0 x1 (wrap64 (x5 + 1))) else (some false)) else (none)) else (none)) else (some true)
def pelicanref05_Ints.f (k : Nat) (l0 : List Int) (l1 : List Int) : Option (Bool) := if (l0.length : Int) = (l1.length : Int) then (pelicanref05_Ints.l0 k l0 l1 0) else (some false)
def plan_stageB.f (m : List Int) (s : S87) : Bool := (if Sp.against m s.f0 = -1 then false else (Go.bits .and .i64 (Sp.against m s.f0) s.f0 == 0)) && (decide (s.f0 ≠ 0) && (decide (1 ≤ s.f1 ∧ s.f1 ≤ 200) && decide (s.f1 ≤ s.f2 ∧ s.f2 ≤ 200)))
def plan_fitB.f (m : List Int) (ss : List S87) (am red hold : Int) : Bool := ss.all (plan_stageB.f m) && (Sp.may m && (decide (2 ≤ ss.length ∧ ss.length ≤ 6) && (decide (ss.foldl (fun o s => Go.bits .or .i64 o s.f0) 0 = wrap64 ((shl .i64 1 (m.length : Int)) - 1)) && (decide (1 ≤ am ∧ am ≤ 200) && (decide (1 ≤ red ∧ red ≤ 200) && decide (0 ≤ hold ∧ hold ≤ 300))))))
def plan_badB.f (n : Nat) (x : S25) : Bool := !(plan_fitB.f x.f0 x.f1 x.f2 x.f3 x.f4) || decide (x.f0.length ≠ n)
def stage_in.f (a0 : Int) (a1 : Int) (a2 : Int) : Option (Bool) := if a0 ≥ a1 then (some (decide (a0 ≤ a2))) else (some false)
def stage_phase.f (l0_0 : List Int) (l0_1 : List (S87)) (a0_2 : Int) (a0_3 : Int) (a0_4 : Int) (a1_0 : Int) (a1_1 : Int) (a1_2 : Int) (a1_3 : Int) (a1_4 : Int) (a1_5 : Int) (a1_6 : Int) (a1_7 : Int) (a1_8 : Int) (a1_9 : Bool) : Option (Bool) := if a1_3 = 0 then (if a1_4 ≥ a1_6 then (if 0 ≤ a1_1 then (if a1_1 < (l0_1.length : Int) then (if (wrap64 (a1_4 - a1_6)) < ((rd_T87 l0_1 a1_1).f2) then (if a1_9 = true then (some (!(decide (a1_5 > 0)))) else (some (!false))) else (some false)) else (none)) else (none)) else (some false)) else (if a1_3 = 1 then (if a1_5 = 0 then (if a1_6 = 0 then (if a1_7 = (-1) then ((stage_in.f a1_4 0 (wrap64 (a0_2 - 1))).bind fun t104 => (some t104)) else (some false)) else (some false)) else (some false)) else (if a1_5 = 0 then (if a1_6 = 0 then (if a1_7 = (-1) then ((stage_in.f a1_4 0 a0_3).bind fun t105 => (some t105)) else (some false)) else (some false)) else (some false)))
def lamp_on.f (ph : Int) : Int := if ph = 0 then 2 else if ph = 1 then 1 else 0
def lamp_showL.f (n : Nat) (G : Int) (on : Int) : List Int := (List.range n).map fun g => if G.toNat.testBit g then on else 0
def stage_mayB.f (l : List S25) (s : Sg) : Bool :=
  (decide (1 ≤ l.length ∧ l.length ≤ 3) && !(l.any (plan_badB.f (rd_T25 l 0).f0.length))) && (decide (0 ≤ s.plan ∧ s.plan < (l.length : Int)) && (decide (0 ≤ s.stage ∧ s.stage < ((rd_T25 l s.plan).f1.length : Int)) && (decide (0 ≤ s.next ∧ s.next < ((rd_T25 l s.plan).f1.length : Int)) && (decide (-1 ≤ s.ask ∧ s.ask < ((rd_T25 l s.plan).f1.length : Int)) && (decide (-1 ≤ s.want ∧ s.want < (l.length : Int)) && (decide (0 ≤ s.phase ∧ s.phase < 3) && (decide (0 ≤ s.held ∧ s.held ≤ (rd_T25 l s.plan).f4) && (decide (0 ≤ s.hold ∧ s.hold ≤ (rd_T25 l s.plan).f4 - s.held) &&
    (if s.phase = 0 then decide (s.held ≤ s.t ∧ wrap64 (s.t - s.held) < (rd_T87 (rd_T25 l s.plan).f1 s.stage).f2) && !(s.stop && decide (0 < s.hold)) else decide (s.hold = 0 ∧ s.held = 0 ∧ s.ask = -1 ∧ 0 ≤ s.t ∧ s.t ≤ (if s.phase = 1 then (rd_T25 l s.plan).f2 - 1 else (rd_T25 l s.plan).f3)))))))))))
end Go.Proofs.YtpciieagafddcaaDoor.F
