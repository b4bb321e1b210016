/- stage.phase, walked by the engine (own text). -/
import Derived.Test.YtechgjbhgeddjaaDoorQsEB
import Derived.Test.YtechgjbhgeddjaaDoorQsD
import Derived.Test.YtechgjbhgeddjaaDoorQsSp
namespace Go.Proofs.YtechgjbhgeddjaaDoor.E
open Go Go.RowKit Go.Proofs Go.Proofs.YtechgjbhgeddjaaDoorW.PrintWords Go.Proofs.YtechgjbhgeddjaaDoorW.PrintLast Go.Proofs.YtechgjbhgeddjaaDoorW.PrintMore Go.Proofs.YtechgjbhgeddjaaDoor.F
set_option linter.unusedVariables false
set_option linter.unusedSimpArgs false
set_option maxRecDepth 100000
set_option maxHeartbeats 8000000
attribute [local irreducible] acode callR
namespace Ph
def inB (n a b : Int) : Bool := decide (a ≤ n) && decide (n ≤ b)
def SpIn : Spec := .pure fun args r => ∃ n a b, args = [fI n, fI a, fI b] ∧ r = vB (inB n a b)
theorem in_ok : SpecOk Tryd.prog 44 SpIn := by
  refine spec_of_code TYok ΓOk.nil mixed Tryd.func44 rfl ?_
  rintro args pre r post ⟨⟨n, a, b, rfl, rfl⟩, rfl, rfl⟩
  refine ⟨rfl, ?_⟩
  repeat' (first | refine st_v rfl rfl rfl rfl (fun _ => rfl) rfl (fun _ => rfl) ?_ | refine st_skip rfl rfl rfl ?_ | refine st_b rfl rfl rfl rfl (fun _ => rfl) rfl (fun h1 => ?_) (fun h1 => ?_) | refine st_n rfl rfl rfl rfl (fun _ => rfl) rfl (fun _ => rfl) ?_ | refine st_s rfl rfl rfl rfl (fun _ => rfl) rfl (fun _ => rfl) ?_ | refine c_seq ?_ | refine c_region ?_ | refine c_plain rfl ?_ | refine c_drawn rfl (by kernel_rfl) ?_ | refine st_nil ?_ | refine c_norm ?_ | refine c_cret ?_ | refine c_ret ?_ | refine c_true rfl ?_ | refine c_false rfl ?_ | refine c_skip ?_ | refine c_block ?_ | refine c_bnorm ?_ | refine c_bret ?_ | refine c_bexit rfl ?_ | refine c_bpass rfl ?_ | refine c_exit ?_ | refine c_cexit ?_ | refine c_lret ?_ | refine c_lexit ?_ | refine c_scope ?_ | refine c_label ?_ | refine c_snorm ?_ | refine c_sret ?_ | refine c_sexit ?_ | fail)
  all_goals refine ⟨ret_b ?_, rfl, rfl, trivial⟩
  all_goals (unfold inB; simp only [decide_eq_true_eq, decide_eq_false_iff_not, ge_iff_le] at *; simp [*])
def SpPhase : Spec := .pure fun args r => ∃ (p : S39) (s : Sg) (b : Bool), args = [fPl p, fSg s] ∧ r = vB b ∧ stage_phase.f p.f0 p.f1 p.f2 p.f3 p.f4 s.plan s.stage s.next s.phase s.t s.hold s.held s.ask s.want s.stop = some b
theorem Γ1 : ΓOk Tryd.prog (look [(44, SpIn)]) := ΓOk.nil.cons in_ok Tryd.func44 (by kernel_rfl)
theorem idx {p : S39} {s : Sg} {b : Bool} (h : stage_phase.f p.f0 p.f1 p.f2 p.f3 p.f4 s.plan s.stage s.next s.phase s.t s.hold s.held s.ask s.want s.stop = some b) (hp : (s.phase == 0) = true) (ht : decide (s.t ≥ s.held) = true) : 0 ≤ s.stage ∧ s.stage < (p.f1.length : Int) := by
  unfold stage_phase.f at h
  rw [if_pos (by simpa using hp), if_pos (of_decide_eq_true ht)] at h
  by_cases h1 : 0 ≤ s.stage
  · by_cases h2 : s.stage < (p.f1.length : Int)
    · exact ⟨h1, h2⟩
    · rw [if_pos h1, if_neg h2] at h; cases h
  · rw [if_neg h1] at h; cases h
theorem phase_ok : SpecOk Tryd.prog 45 SpPhase := by
  refine spec_of_code TYok Γ1 mixed Tryd.func45 rfl ?_
  rintro args pre r post ⟨⟨p, s, b, rfl, rfl, h⟩, rfl, rfl⟩
  refine ⟨rfl, ?_⟩
  repeat' (first | refine st_v rfl rfl rfl rfl (fun _ => rfl) rfl (fun _ => rfl) ?_ | refine st_skip rfl rfl rfl ?_ | refine st_b rfl rfl rfl rfl (fun _ => rfl) rfl (fun h1 => ?_) (fun h1 => ?_) | refine st_n rfl rfl rfl rfl (fun _ => rfl) rfl (fun _ => rfl) ?_ | refine st_s rfl rfl rfl rfl (fun _ => rfl) rfl (fun _ => rfl) ?_ | refine c_seq ?_ | refine c_region ?_ | refine c_plain rfl ?_ | refine c_drawn rfl (by kernel_rfl) ?_ | refine st_nil ?_ | refine c_norm ?_ | refine c_cret ?_ | refine c_ret ?_ | refine c_true rfl ?_ | refine c_false rfl ?_ | refine c_skip ?_ | refine c_block ?_ | refine c_bnorm ?_ | refine c_bret ?_ | refine c_bexit rfl ?_ | refine c_bpass rfl ?_ | refine c_exit ?_ | refine c_cexit ?_ | refine c_lret ?_ | refine c_lexit ?_ | refine c_scope ?_ | refine c_label ?_ | refine c_snorm ?_ | refine c_sret ?_ | refine c_sexit ?_ | refine st_pv rfl rfl rfl rfl (fun _ => rfl) (idx h (by assumption) (by assumption)) rfl (fun _ => rfl) ?_ | refine st_call rfl rfl rfl rfl rfl rfl rfl (call_v (vB (inB s.t 0 _)) rfl ⟨s.t, 0, _, rfl, rfl⟩ rfl rfl rfl (cb_b rfl (fun h1 => ?_) (fun h1 => ?_))) | fail)
  all_goals refine ⟨ret_b ?_, rfl, rfl, trivial⟩
  all_goals first
    | (have hix := idx h (by assumption) (by assumption)
       obtain ⟨hi1, hi2⟩ := hix
       unfold stage_phase.f at h
       simp only [i64_w, decide_eq_true_eq, decide_eq_false_iff_not, beq_iff_eq, beq_eq_false_iff_ne, ne_eq, ge_iff_le, gt_iff_lt] at *
       simp_all [rd_T41]
       done)
    | (unfold stage_phase.f stage_in.f at h
       unfold inB at *
       simp only [i64_w, decide_eq_true_eq, decide_eq_false_iff_not, beq_iff_eq, beq_eq_false_iff_ne, ne_eq, ge_iff_le, gt_iff_lt] at *
       simp_all
       done)
    | (have hix := idx h (by assumption) (by assumption)
       have hlt := of_decide_eq_false (by assumption : decide (IntKind.i64.wrap (s.t - s.held) < (p.f1.getD s.stage.toNat z41).f2) = false)
       rw [i64_w] at hlt
       have hlt2 : ¬ (wrap64 (s.t - s.held) < (rd_T41 p.f1 s.stage).f2) := hlt
       unfold stage_phase.f at h
       rw [if_pos (by simpa using (by assumption : (s.phase == 0) = true)), if_pos (of_decide_eq_true (by assumption)), if_pos hix.1, if_pos hix.2, if_neg hlt2] at h
       exact Option.some.inj h)
    | (unfold stage_phase.f stage_in.f at h
       unfold inB at *
       simp only [i64_w, decide_eq_true_eq, decide_eq_false_iff_not, beq_iff_eq, beq_eq_false_iff_ne, ne_eq, ge_iff_le, gt_iff_lt, Bool.and_eq_false_iff] at *
       by_cases h0 : 0 ≤ s.t <;> simp_all
       all_goals (rw [← h]; exact decide_eq_false (by omega)))
end Ph
end Go.Proofs.YtechgjbhgeddjaaDoor.E
/- Woven by wip/weave/weave.py of this repo (own tool) out of the translation: the contracts of some functions. Lean checks it. -/
namespace Go.Proofs.YtechgjbhgeddjaaDoor.F
open Go.RowKit Go.Proofs.YtechgjbhgeddjaaDoorW.PrintWords Go.Proofs.YtechgjbhgeddjaaDoorW.PrintLast Go.Proofs.YtechgjbhgeddjaaDoorW.PrintMore
attribute [local go_sem] max2_int min2_int max_two min_two max_three min_three max_four min_four   -- for this text's walks alone
set_option linter.unusedVariables false
set_option linter.unusedSimpArgs false
/-! ### plan_in: function 52 -/
set_option maxHeartbeats 8000000 in
set_option maxRecDepth 100000 in
theorem plan_in.calls (a0 : Int) (a1 : Int) (a2 : Int) (r : Bool) (w : World) (h : plan_in.f a0 a1 a2 = some r) :
    Calls Tryd.prog 52 #[.int .i64 a0, .int .i64 a1, .int .i64 a2] w fun e w' => e = .returned (.bool r) ∧ Drawn0 w w' := by
  have H : (if a0 ≥ a1 then (some (decide (a0 ≤ a2))) else (some false)) = some r := h
  clear h
  by_cases c4 : a0 ≥ a1
  · rw [if_pos c4] at H
    have c4b0 : decide (a1 ≤ a0) = true := decide_eq_true c4
    clear c4
    obtain rfl := Option.some.inj H
    go_enter Tryd.func52, Tryd.ntmps52
    go_wp2
    go_ret
    exact ⟨by first | rfl | (simp; done) | (simp [*]; done), by repeat (first | exact Drawn0.refl _ | apply Drawn0.step)⟩
  · rw [if_neg c4] at H
    have c4b0 : decide (a1 ≤ a0) = false := decide_eq_false c4
    clear c4
    obtain rfl := Option.some.inj H
    go_enter Tryd.func52, Tryd.ntmps52
    go_wp2
    go_ret
    exact ⟨by first | rfl | (simp; done) | (simp [*]; done), by repeat (first | exact Drawn0.refl _ | apply Drawn0.step)⟩
-- NOT PRINTED: function 71 (api_Plan_71)
-- NOT PRINTED: function 53 (api_Plan_53)
end Go.Proofs.YtechgjbhgeddjaaDoor.F
