/- Woven by wip/weave/weave.py of this repo (own tool) out of the translation: the contracts of some functions. Lean checks it. -/
import Derived.Test.YtpciieagafddcaaDoorQjSp
import Derived.Test.YtpciieagafddcaaDoorQjETY
namespace Go.Proofs.YtpciieagafddcaaDoor.F
open Go.RowKit Go.Proofs.YtpciieagafddcaaDoorW.PrintWords Go.Proofs.YtpciieagafddcaaDoorW.PrintLast Go.Proofs.YtpciieagafddcaaDoorW.PrintMore
attribute [local go_sem] max2_int min2_int max_two min_two max_three min_three max_four min_four   -- for this text's walks alone
set_option linter.unusedVariables false
set_option linter.unusedSimpArgs false
def plan_in.f (a0 : Int) (a1 : Int) (a2 : Int) : Option (Bool) := if a0 ≥ a1 then (some (decide (a0 ≤ a2))) else (some false)
def group_May.f (l0 : List Int) : Option Bool := some (Sp.may l0)
def group_in.f (a0 : Int) (a1 : Int) : Option (Bool) := if a0 ≥ 0 then (if 0 ≤ a1 then (some (decide (a0 < (shl .i64 1 a1)))) else (none)) else (some false)
def group_Against.f (l0 : List Int) (a1 : Int) : Option Int := some (Sp.against l0 a1)
def group_Free.f (l0 : List Int) (a1 : Int) : Option (Bool) := (group_Against.f l0 a1).bind fun t101 => (if t101 = (-1) then (some false) else (some ((Go.bits .and .i64 t101 a1) == 0)))
def plan_draft_stages.l0 : Nat → Int → Bool → List (S87) → Int → Int → List Int → List (S87) → Int → Int → Int → Option (Int × Bool)
  | 0, _, _, _, _, _, _, _, _, _, _ => none
  | k + 1, x4, x5, x10, x11, x12, x103000, x103001, x103002, x103003, x103004 => if x12 < x11 then (if 0 ≤ x12 then (if x12 < (x10.length : Int) then ((group_Free.f x103000 ((rd_T87 x10 x12).f0)).bind fun t105 => (if t105 = true then (if ((rd_T87 x10 x12).f0) = 0 then (some (x4, false)) else ((plan_in.f ((rd_T87 x10 x12).f1) 1 200).bind fun t106 => (if t106 = true then ((plan_in.f ((rd_T87 x10 x12).f2) ((rd_T87 x10 x12).f1) 200).bind fun t107 => (if t107 = true then (plan_draft_stages.l0 k (Go.bits .or .i64 x4 ((rd_T87 x10 x12).f0)) x5 x10 x11 (wrap64 (x12 + 1)) x103000 x103001 x103002 x103003 x103004) else (some (x4, false)))) else (some (x4, false))))) else (some (x4, false)))) else (none)) else (none)) else (some (x4, x5))
def plan_draft_stages.f (k : Nat) (l0_0 : List Int) (l0_1 : List (S87)) (a0_2 : Int) (a0_3 : Int) (a0_4 : Int) : Option (Int × Bool) := plan_draft_stages.l0 k 0 true l0_1 (l0_1.length : Int) 0 l0_0 l0_1 a0_2 a0_3 a0_4
def plan_draft_times.f (l0_0 : List Int) (l0_1 : List (S87)) (a0_2 : Int) (a0_3 : Int) (a0_4 : Int) : Option (Bool) := (plan_in.f a0_2 1 200).bind fun t109 => (if t109 = true then ((plan_in.f a0_3 1 200).bind fun t110 => (if t110 = true then ((plan_in.f a0_4 0 300).bind fun t111 => (some t111)) else (some false))) else (some false))
def plan_Fit.f (k : Nat) (l0_0 : List Int) (l0_1 : List (S87)) (a0_2 : Int) (a0_3 : Int) (a0_4 : Int) : Option (Bool) := (plan_draft_stages.f k l0_0 l0_1 a0_2 a0_3 a0_4).bind fun bt114 => (if bt114.2 = true then ((group_May.f l0_0).bind fun t116 => (if t116 = true then ((plan_in.f (l0_1.length : Int) 2 6).bind fun t117 => (if t117 = true then (if bt114.1 = (wrap64 ((shl .i64 1 (l0_0.length : Int)) - 1)) then ((plan_draft_times.f l0_0 l0_1 a0_2 a0_3 a0_4).bind fun t118 => (some t118)) else (some false)) else (some false))) else (some false))) else (some false))
def lamp_badB.f (x : Int) : Bool := decide (x < 0) || decide (3 ≤ x)
def lamp_mayB.f (l : List Int) : Bool := decide (1 ≤ l.length ∧ l.length ≤ 8) && !(l.any lamp_badB.f)
def lamp_May.f (l0 : List Int) : Option Bool := some (lamp_mayB.f l0)
def pelicanlaw14_Few.f (l0_0 : List Int) (l0_1 : List (S87)) (a0_2 : Int) (a0_3 : Int) (a0_4 : Int) : Option (Bool) := if (l0_0.length : Int) ≤ 10 then (some (decide ((l0_1.length : Int) ≤ 10))) else (some false)
def plan_stageB.f (m : List Int) (s : S87) : Bool := (if Sp.against m s.f0 = -1 then false else (Go.bits .and .i64 (Sp.against m s.f0) s.f0 == 0)) && (decide (s.f0 ≠ 0) && (decide (1 ≤ s.f1 ∧ s.f1 ≤ 200) && decide (s.f1 ≤ s.f2 ∧ s.f2 ≤ 200)))
def plan_fitB.f (m : List Int) (ss : List S87) (am red hold : Int) : Bool := ss.all (plan_stageB.f m) && (Sp.may m && (decide (2 ≤ ss.length ∧ ss.length ≤ 6) && (decide (ss.foldl (fun o s => Go.bits .or .i64 o s.f0) 0 = wrap64 ((shl .i64 1 (m.length : Int)) - 1)) && (decide (1 ≤ am ∧ am ≤ 200) && (decide (1 ≤ red ∧ red ≤ 200) && decide (0 ≤ hold ∧ hold ≤ 300))))))
def plan_badB.f (n : Nat) (x : S25) : Bool := !(plan_fitB.f x.f0 x.f1 x.f2 x.f3 x.f4) || decide (x.f0.length ≠ n)
def plan_All.f (l0 : List S25) : Option Bool := some (decide (1 ≤ l0.length ∧ l0.length ≤ 3) && !(l0.any (plan_badB.f (rd_T25 l0 0).f0.length)))
def stage_in.f (a0 : Int) (a1 : Int) (a2 : Int) : Option (Bool) := if a0 ≥ a1 then (some (decide (a0 ≤ a2))) else (some false)
def stage_phase.f (l0_0 : List Int) (l0_1 : List (S87)) (a0_2 : Int) (a0_3 : Int) (a0_4 : Int) (a1_0 : Int) (a1_1 : Int) (a1_2 : Int) (a1_3 : Int) (a1_4 : Int) (a1_5 : Int) (a1_6 : Int) (a1_7 : Int) (a1_8 : Int) (a1_9 : Bool) : Option (Bool) := if a1_3 = 0 then (if a1_4 ≥ a1_6 then (if 0 ≤ a1_1 then (if a1_1 < (l0_1.length : Int) then (if (wrap64 (a1_4 - a1_6)) < ((rd_T87 l0_1 a1_1).f2) then (if a1_9 = true then (some (!(decide (a1_5 > 0)))) else (some (!false))) else (some false)) else (none)) else (none)) else (some false)) else (if a1_3 = 1 then (if a1_5 = 0 then (if a1_6 = 0 then (if a1_7 = (-1) then ((stage_in.f a1_4 0 (wrap64 (a0_2 - 1))).bind fun t104 => (some t104)) else (some false)) else (some false)) else (some false)) else (if a1_5 = 0 then (if a1_6 = 0 then (if a1_7 = (-1) then ((stage_in.f a1_4 0 a0_3).bind fun t105 => (some t105)) else (some false)) else (some false)) else (some false)))
def group_List.f (a0 : Int) : Option (List Int) := some (Sp.groupsOf a0)
def lamp_on.f (ph : Int) : Int := if ph = 0 then 2 else if ph = 1 then 1 else 0
def lamp_showL.f (n : Nat) (G : Int) (on : Int) : List Int := (List.range n).map fun g => if G.toNat.testBit g then on else 0
def lamp_Show.f (l0_0 : List Int) (l0_1 : List S87) (a0_2 a0_3 a0_4 : Int) (a1 a2 : Int) : Option (List Int) := some (if plan_fitB.f l0_0 l0_1 a0_2 a0_3 a0_4 && decide (0 ≤ a1 ∧ a1 < (l0_1.length : Int) ∧ 0 ≤ a2 ∧ a2 < 3) then lamp_showL.f l0_0.length (rd_T87 l0_1 a1).f0 (lamp_on.f a2) else [])
def stage_mayB.f (l : List S25) (s : Sg) : Bool :=
  (decide (1 ≤ l.length ∧ l.length ≤ 3) && !(l.any (plan_badB.f (rd_T25 l 0).f0.length))) && (decide (0 ≤ s.plan ∧ s.plan < (l.length : Int)) && (decide (0 ≤ s.stage ∧ s.stage < ((rd_T25 l s.plan).f1.length : Int)) && (decide (0 ≤ s.next ∧ s.next < ((rd_T25 l s.plan).f1.length : Int)) && (decide (-1 ≤ s.ask ∧ s.ask < ((rd_T25 l s.plan).f1.length : Int)) && (decide (-1 ≤ s.want ∧ s.want < (l.length : Int)) && (decide (0 ≤ s.phase ∧ s.phase < 3) && (decide (0 ≤ s.held ∧ s.held ≤ (rd_T25 l s.plan).f4) && (decide (0 ≤ s.hold ∧ s.hold ≤ (rd_T25 l s.plan).f4 - s.held) &&
    (if s.phase = 0 then decide (s.held ≤ s.t ∧ wrap64 (s.t - s.held) < (rd_T87 (rd_T25 l s.plan).f1 s.stage).f2) && !(s.stop && decide (0 < s.hold)) else decide (s.hold = 0 ∧ s.held = 0 ∧ s.ask = -1 ∧ 0 ≤ s.t ∧ s.t ≤ (if s.phase = 1 then (rd_T25 l s.plan).f2 - 1 else (rd_T25 l s.plan).f3)))))))))))
def stage_greenB.f (p : S25) (s : Sg) : Sg :=
  if 0 < s.hold then { s with t := wrap64 (s.t + 1), hold := s.hold - 1, held := s.held + 1 }
  else if decide (wrap64 (s.t + 1) < (rd_T87 p.f1 s.stage).f1) || (!(s.stop || decide (s.ask ≠ -1) || decide (s.want ≠ -1)) && decide (wrap64 (s.t + 1) < (rd_T87 p.f1 s.stage).f2)) then { s with t := wrap64 (s.t + 1) }
  else { s with t := 0, next := if s.ask = -1 then Int.tmod (s.stage + 1) (p.f1.length : Int) else s.ask, phase := 1, held := 0, ask := -1 }
def stage_amberB.f (p : S25) (s : Sg) : Sg := if s.t + 1 = p.f2 then { s with phase := 2, t := 0 } else { s with t := s.t + 1 }
def stage_redB.f (p : S25) (s : Sg) : Sg :=
  if mn (s.t + 1) p.f3 < p.f3 ∨ s.stop = true then { s with t := mn (s.t + 1) p.f3 }
  else if s.want ≠ -1 then { s with plan := s.want, want := -1, next := 0, phase := 0, stage := 0, t := 0 }
  else { s with phase := 0, stage := s.next, t := 0 }
def stage_tickB.f (l : List S25) (s : Sg) : Sg := if stage_mayB.f l s = true then (if s.phase = 0 then stage_greenB.f (rd_T25 l s.plan) s else if s.phase = 1 then stage_amberB.f (rd_T25 l s.plan) s else stage_redB.f (rd_T25 l s.plan) s) else s
def lamp_letter.f (x : Int) : UInt8 := if x = 0 then 114 else if x = 1 then 97 else 103
def lamp_letters.f (l : List Int) : List UInt8 := l.map lamp_letter.f
def lamp_textB.f (l : List Int) : ByteArray := if lamp_mayB.f l then ⟨(lamp_letters.f l).toArray⟩ else ⟨#[]⟩
def lamp_Text.f (l0 : List Int) : Option ByteArray := some (lamp_textB.f l0)
mutual
def pelicanlaw14_FewAll.l0 : Nat → List (S25) → Int → Option (Bool)
  | 0, _, _ => none
  | k + 1, x0, x3 => if x3 < (x0.length : Int) then (pelicanlaw14_FewAll.j1 k x0 x3 (decide (x3 ≤ 5))) else (pelicanlaw14_FewAll.j1 k x0 x3 false)
def pelicanlaw14_FewAll.j1 : Nat → List (S25) → Int → Bool → Option (Bool)
  | 0, _, _, _ => none
  | k + 1, x0, x3, x12 => if x12 = true then (if 0 ≤ x3 then (if x3 < (x0.length : Int) then ((pelicanlaw14_Few.f ((rd_T25 x0 x3).f0) ((rd_T25 x0 x3).f1) ((rd_T25 x0 x3).f2) ((rd_T25 x0 x3).f3) ((rd_T25 x0 x3).f4)).bind fun t340 => (if t340 = true then (pelicanlaw14_FewAll.l0 k x0 (wrap64 (x3 + 1))) else (some false))) else (none)) else (none)) else (some (decide ((x0.length : Int) ≤ 5)))
end
def pelicanlaw14_FewAll.f (k : Nat) (l0 : List (S25)) : Option (Bool) := pelicanlaw14_FewAll.l0 k l0 0
end Go.Proofs.YtpciieagafddcaaDoor.F
/- stage.phase, walked by the engine (own text). -/
namespace Go.Proofs.YtpciieagafddcaaDoor.E
open Go Go.RowKit Go.Proofs Go.Proofs.YtpciieagafddcaaDoorW.PrintWords Go.Proofs.YtpciieagafddcaaDoorW.PrintLast Go.Proofs.YtpciieagafddcaaDoorW.PrintMore Go.Proofs.YtpciieagafddcaaDoor.F
set_option linter.unusedVariables false
set_option linter.unusedSimpArgs false
set_option maxRecDepth 100000
set_option maxHeartbeats 8000000
attribute [local irreducible] acode callR
namespace Ph
def inB (n a b : Int) : Bool := decide (a ≤ n) && decide (n ≤ b)
def SpIn : Spec := .pure fun args r => ∃ n a b, args = [fI n, fI a, fI b] ∧ r = vB (inB n a b)
theorem in_ok : SpecOk Tryd.prog 76 SpIn := by
  refine spec_of_code TYok ΓOk.nil mixed Tryd.func76 rfl ?_
  rintro args pre r post ⟨⟨n, a, b, rfl, rfl⟩, rfl, rfl⟩
  refine ⟨rfl, ?_⟩
  repeat' (first | refine st_v rfl rfl rfl rfl (fun _ => rfl) rfl (fun _ => rfl) ?_ | refine st_skip rfl rfl rfl ?_ | refine st_b rfl rfl rfl rfl (fun _ => rfl) rfl (fun h1 => ?_) (fun h1 => ?_) | refine st_n rfl rfl rfl rfl (fun _ => rfl) rfl (fun _ => rfl) ?_ | refine st_s rfl rfl rfl rfl (fun _ => rfl) rfl (fun _ => rfl) ?_ | refine c_seq ?_ | refine c_region ?_ | refine c_plain rfl ?_ | refine c_drawn rfl (by kernel_rfl) ?_ | refine st_nil ?_ | refine c_norm ?_ | refine c_cret ?_ | refine c_ret ?_ | refine c_true rfl ?_ | refine c_false rfl ?_ | refine c_skip ?_ | refine c_block ?_ | refine c_bnorm ?_ | refine c_bret ?_ | refine c_bexit rfl ?_ | refine c_bpass rfl ?_ | refine c_exit ?_ | refine c_cexit ?_ | refine c_lret ?_ | refine c_lexit ?_ | refine c_scope ?_ | refine c_label ?_ | refine c_snorm ?_ | refine c_sret ?_ | refine c_sexit ?_ | fail)
  all_goals refine ⟨ret_b ?_, rfl, rfl, trivial⟩
  all_goals (unfold inB; simp only [decide_eq_true_eq, decide_eq_false_iff_not, ge_iff_le] at *; simp [*])
def SpPhase : Spec := .pure fun args r => ∃ (p : S25) (s : Sg) (b : Bool), args = [fPl p, fSg s] ∧ r = vB b ∧ stage_phase.f p.f0 p.f1 p.f2 p.f3 p.f4 s.plan s.stage s.next s.phase s.t s.hold s.held s.ask s.want s.stop = some b
theorem Γ1 : ΓOk Tryd.prog (look [(76, SpIn)]) := ΓOk.nil.cons in_ok Tryd.func76 (by kernel_rfl)
theorem idx {p : S25} {s : Sg} {b : Bool} (h : stage_phase.f p.f0 p.f1 p.f2 p.f3 p.f4 s.plan s.stage s.next s.phase s.t s.hold s.held s.ask s.want s.stop = some b) (hp : (s.phase == 0) = true) (ht : decide (s.t ≥ s.held) = true) : 0 ≤ s.stage ∧ s.stage < (p.f1.length : Int) := by
  unfold stage_phase.f at h
  rw [if_pos (by simpa using hp), if_pos (of_decide_eq_true ht)] at h
  by_cases h1 : 0 ≤ s.stage
  · by_cases h2 : s.stage < (p.f1.length : Int)
    · exact ⟨h1, h2⟩
    · rw [if_pos h1, if_neg h2] at h; cases h
  · rw [if_neg h1] at h; cases h
theorem phase_ok : SpecOk Tryd.prog 77 SpPhase := by
  refine spec_of_code TYok Γ1 mixed Tryd.func77 rfl ?_
  rintro args pre r post ⟨⟨p, s, b, rfl, rfl, h⟩, rfl, rfl⟩
  refine ⟨rfl, ?_⟩
  repeat' (first | refine st_v rfl rfl rfl rfl (fun _ => rfl) rfl (fun _ => rfl) ?_ | refine st_skip rfl rfl rfl ?_ | refine st_b rfl rfl rfl rfl (fun _ => rfl) rfl (fun h1 => ?_) (fun h1 => ?_) | refine st_n rfl rfl rfl rfl (fun _ => rfl) rfl (fun _ => rfl) ?_ | refine st_s rfl rfl rfl rfl (fun _ => rfl) rfl (fun _ => rfl) ?_ | refine c_seq ?_ | refine c_region ?_ | refine c_plain rfl ?_ | refine c_drawn rfl (by kernel_rfl) ?_ | refine st_nil ?_ | refine c_norm ?_ | refine c_cret ?_ | refine c_ret ?_ | refine c_true rfl ?_ | refine c_false rfl ?_ | refine c_skip ?_ | refine c_block ?_ | refine c_bnorm ?_ | refine c_bret ?_ | refine c_bexit rfl ?_ | refine c_bpass rfl ?_ | refine c_exit ?_ | refine c_cexit ?_ | refine c_lret ?_ | refine c_lexit ?_ | refine c_scope ?_ | refine c_label ?_ | refine c_snorm ?_ | refine c_sret ?_ | refine c_sexit ?_ | refine st_pv rfl rfl rfl rfl (fun _ => rfl) (idx h (by assumption) (by assumption)) rfl (fun _ => rfl) ?_ | refine st_call rfl rfl rfl rfl rfl rfl rfl (call_v (vB (inB s.t 0 _)) rfl ⟨s.t, 0, _, rfl, rfl⟩ rfl rfl rfl (cb_b rfl (fun h1 => ?_) (fun h1 => ?_))) | fail)
  all_goals refine ⟨ret_b ?_, rfl, rfl, trivial⟩
  all_goals first
    | (have hix := idx h (by assumption) (by assumption)
       obtain ⟨hi1, hi2⟩ := hix
       unfold stage_phase.f at h
       simp only [i64_w, decide_eq_true_eq, decide_eq_false_iff_not, beq_iff_eq, beq_eq_false_iff_ne, ne_eq, ge_iff_le, gt_iff_lt] at *
       simp_all [rd_T87]
       done)
    | (unfold stage_phase.f stage_in.f at h
       unfold inB at *
       simp only [i64_w, decide_eq_true_eq, decide_eq_false_iff_not, beq_iff_eq, beq_eq_false_iff_ne, ne_eq, ge_iff_le, gt_iff_lt] at *
       simp_all
       done)
    | (have hix := idx h (by assumption) (by assumption)
       have hlt := of_decide_eq_false (by assumption : decide (IntKind.i64.wrap (s.t - s.held) < (p.f1.getD s.stage.toNat z87).f2) = false)
       rw [i64_w] at hlt
       have hlt2 : ¬ (wrap64 (s.t - s.held) < (rd_T87 p.f1 s.stage).f2) := hlt
       unfold stage_phase.f at h
       rw [if_pos (by simpa using (by assumption : (s.phase == 0) = true)), if_pos (of_decide_eq_true (by assumption)), if_pos hix.1, if_pos hix.2, if_neg hlt2] at h
       exact Option.some.inj h)
    | (unfold stage_phase.f stage_in.f at h
       unfold inB at *
       simp only [i64_w, decide_eq_true_eq, decide_eq_false_iff_not, beq_iff_eq, beq_eq_false_iff_ne, ne_eq, ge_iff_le, gt_iff_lt, Bool.and_eq_false_iff] at *
       by_cases h0 : 0 ≤ s.t <;> simp_all
       all_goals (rw [← h]; exact decide_eq_false (by omega)))
end Ph
end Go.Proofs.YtpciieagafddcaaDoor.E
/- Woven by wip/weave/weave.py of this repo (own tool) out of the translation: the contracts of some functions. Lean checks it. -/
namespace Go.Proofs.YtpciieagafddcaaDoor.F
open Go.RowKit Go.Proofs.YtpciieagafddcaaDoorW.PrintWords Go.Proofs.YtpciieagafddcaaDoorW.PrintLast Go.Proofs.YtpciieagafddcaaDoorW.PrintMore
attribute [local go_sem] max2_int min2_int max_two min_two max_three min_three max_four min_four   -- for this text's walks alone
set_option linter.unusedVariables false
set_option linter.unusedSimpArgs false
-- NOT PRINTED: function 45 (trace_runs)
-- NOT PRINTED: function 19 (trace_Long)
set_option maxHeartbeats 8000000 in
set_option maxRecDepth 100000 in
theorem plan_in.calls (a0 : Int) (a1 : Int) (a2 : Int) (r : Bool) (w : World) (h : plan_in.f a0 a1 a2 = some r) :
    Calls Tryd.prog 56 #[.int .i64 a0, .int .i64 a1, .int .i64 a2] w fun e w' => e = .returned (.bool r) ∧ Drawn0 w w' := by
  have H : (if a0 ≥ a1 then (some (decide (a0 ≤ a2))) else (some false)) = some r := h
  clear h
  by_cases c4 : a0 ≥ a1
  · rw [if_pos c4] at H
    have c4b0 : decide (a1 ≤ a0) = true := decide_eq_true c4
    clear c4
    obtain rfl := Option.some.inj H
    go_enter Tryd.func56, Tryd.ntmps56
    go_wp2
    go_ret
    exact ⟨by first | rfl | (simp; done) | (simp [*]; done), by repeat (first | exact Drawn0.refl _ | apply Drawn0.step)⟩
  · rw [if_neg c4] at H
    have c4b0 : decide (a1 ≤ a0) = false := decide_eq_false c4
    clear c4
    obtain rfl := Option.some.inj H
    go_enter Tryd.func56, Tryd.ntmps56
    go_wp2
    go_ret
    exact ⟨by first | rfl | (simp; done) | (simp [*]; done), by repeat (first | exact Drawn0.refl _ | apply Drawn0.step)⟩
-- NOT PRINTED: function 109 (slices_IndexFunc_int_int)
-- NOT PRINTED: function 84 (slices_ContainsFunc_int_int)
end Go.Proofs.YtpciieagafddcaaDoor.F
