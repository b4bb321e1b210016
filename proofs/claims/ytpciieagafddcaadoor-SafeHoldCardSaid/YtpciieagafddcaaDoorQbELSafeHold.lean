/- SafeHold walked by the engine (own text). -/
import Derived.Test.YtpciieagafddcaaDoorQbESW
namespace Go.Proofs.YtpciieagafddcaaDoor.E
open Go Go.RowKit Go.Proofs Go.Proofs.YtpciieagafddcaaDoorW.PrintWords Go.Proofs.YtpciieagafddcaaDoorW.PrintLast Go.Proofs.YtpciieagafddcaaDoorW.PrintMore Go.Proofs.YtpciieagafddcaaDoor.F
set_option linter.unusedVariables false
set_option linter.unusedSimpArgs false
set_option maxRecDepth 100000
set_option maxHeartbeats 8000000
attribute [local irreducible] acode callR
namespace Hold
open St Rw Safe
theorem Γh : ΓOk Tryd.prog (look [(28, SpAwake17), (29, SpFewAll), (34, SpPlay), (40, SpMay)]) :=
  ((((ΓOk.nil.cons may_ok Tryd.func40 (by kernel_rfl)).cons play_ok Tryd.func34 (by kernel_rfl)).cons fewAll_ok Tryd.func29 (by kernel_rfl)).cons Safe.awake_ok Tryd.func28 (by kernel_rfl))
def SpHold : List FV → FV → Prop := fun a r => ∃ l s asks, PU.Wf s ∧ a = [fPls l, fSg s, fAsks asks] ∧ r = vB true
theorem ok : SpecOk Tryd.prog 9 (.pure SpHold) := by
  refine spec_of_code TYok Γh mixed Tryd.func9 rfl ?_
  rintro args pre r post ⟨⟨l, s, asks, hw, rfl, rfl⟩, rfl, rfl⟩
  refine ⟨rfl, ?_⟩
  obtain ⟨few, hfew⟩ := PU.fewAll_ev l
  cases hm : stage_mayB.f l s with
  | false =>
    repeat' (first | refine st_v rfl rfl rfl rfl (fun _ => rfl) rfl (fun _ => rfl) ?_ | refine st_skip rfl rfl rfl ?_ | refine st_b rfl rfl rfl rfl (fun _ => rfl) rfl (fun h1 => ?_) (fun h1 => ?_) | refine st_n rfl rfl rfl rfl (fun _ => rfl) rfl (fun _ => rfl) ?_ | refine st_s rfl rfl rfl rfl (fun _ => rfl) rfl (fun _ => rfl) ?_ | refine c_seq ?_ | refine c_region ?_ | refine c_plain rfl ?_ | refine c_drawn rfl (by kernel_rfl) ?_ | refine st_nil ?_ | refine c_norm ?_ | refine c_cret ?_ | refine c_ret ?_ | refine c_true rfl ?_ | refine c_false rfl ?_ | refine c_skip ?_ | refine c_block ?_ | refine c_bnorm ?_ | refine c_bret ?_ | refine c_bexit rfl ?_ | refine c_bpass rfl ?_ | refine c_exit ?_ | refine c_cexit ?_ | refine c_lret ?_ | refine c_lexit ?_ | refine c_scope ?_ | refine c_label ?_ | refine c_snorm ?_ | refine c_sret ?_ | refine c_sexit ?_ | refine st_call rfl rfl rfl rfl rfl rfl rfl (call_v (vB true) rfl ⟨rfl, rfl⟩ rfl rfl rfl (cb_v rfl (fun _ => rfl) ?_)) | refine st_call rfl rfl rfl rfl rfl rfl rfl (call_v (vB few) rfl ⟨l, few, rfl, rfl, hfew⟩ rfl rfl rfl (cb_b rfl (fun h1 => ?_) (fun h1 => ?_))) | refine st_call rfl rfl rfl rfl rfl rfl rfl (call_v (vB false) rfl ⟨l, s, rfl, by rw [hm]⟩ rfl rfl rfl (cb_v rfl (fun _ => rfl) ?_)) | fail)
    all_goals exact ⟨rfl, rfl, rfl, trivial⟩
  | true =>
    have hM := PU.may_of hw hm
    obtain ⟨t, ht⟩ : ∃ t, PW.playS l asks s = t := ⟨_, rfl⟩
    have hMt : PU.May l t := by rw [← ht]; exact PW.playS_may asks hM
    have hmt := PU.may_to hMt
    have hpl := hMt.plan
    have h1 := hMt.held
    have h2 := hMt.hold
    have h3 := hMt.fits.hold
    have h4 := hMt.other
    have h5 : (PU.P l t).f4 = (l.getD t.plan.toNat z25).f4 := rfl
    have W : IntKind.i64.wrap (t.held + t.hold) = t.held + t.hold := St.wr64 (by omega) (by omega)
    by_cases hlen : asks.length ≤ 60
    · repeat' (first | refine st_v rfl rfl rfl rfl (fun _ => rfl) rfl (fun _ => rfl) ?_ | refine st_skip rfl rfl rfl ?_ | refine st_b rfl rfl rfl rfl (fun _ => rfl) rfl (fun h1 => ?_) (fun h1 => ?_) | refine st_n rfl rfl rfl rfl (fun _ => rfl) rfl (fun _ => rfl) ?_ | refine st_s rfl rfl rfl rfl (fun _ => rfl) rfl (fun _ => rfl) ?_ | refine c_seq ?_ | refine c_region ?_ | refine c_plain rfl ?_ | refine c_drawn rfl (by kernel_rfl) ?_ | refine st_nil ?_ | refine c_norm ?_ | refine c_cret ?_ | refine c_ret ?_ | refine c_true rfl ?_ | refine c_false rfl ?_ | refine c_skip ?_ | refine c_block ?_ | refine c_bnorm ?_ | refine c_bret ?_ | refine c_bexit rfl ?_ | refine c_bpass rfl ?_ | refine c_exit ?_ | refine c_cexit ?_ | refine c_lret ?_ | refine c_lexit ?_ | refine c_scope ?_ | refine c_label ?_ | refine c_snorm ?_ | refine c_sret ?_ | refine c_sexit ?_ | refine st_call rfl rfl rfl rfl rfl rfl rfl (call_v (vB true) rfl ⟨rfl, rfl⟩ rfl rfl rfl (cb_v rfl (fun _ => rfl) ?_)) | refine st_call rfl rfl rfl rfl rfl rfl rfl (call_v (vB few) rfl ⟨l, few, rfl, rfl, hfew⟩ rfl rfl rfl (cb_b rfl (fun h1 => ?_) (fun h1 => ?_))) | refine st_call rfl rfl rfl rfl rfl rfl rfl (call_v (vB true) rfl ⟨l, s, rfl, by rw [hm]⟩ rfl rfl rfl (cb_v rfl (fun _ => rfl) ?_)) | refine st_call rfl rfl rfl rfl rfl rfl rfl (call_v (vB true) rfl ⟨l, t, rfl, by rw [hmt]⟩ rfl rfl rfl (cb_v rfl (fun _ => rfl) ?_)) | refine st_call rfl rfl rfl rfl rfl rfl rfl (call_s (fRun t (PW.playR l asks s)) rfl ⟨l, s, asks, hw, by omega, rfl, by rw [ht]⟩ rfl rfl rfl rfl (cb_v rfl (fun _ => rfl) ?_)) | refine st_pv rfl rfl rfl rfl (fun _ => rfl) hpl rfl (fun _ => rfl) ?_ | fail)
      all_goals first
        | exact ⟨rfl, rfl, rfl, trivial⟩
        | (exfalso
           have h6 := h4 (by simpa using (by assumption : (t.phase == 0) = false))
           clear hw hfew hM hMt hm hmt ht h4
           simp only [decide_eq_true_eq, decide_eq_false_iff_not, beq_iff_eq, beq_eq_false_iff_ne, bne_iff_ne, bne_eq_false_iff_eq, ne_eq, Decidable.not_not, ge_iff_le, gt_iff_lt, Int.not_lt, Int.not_le, not_true, not_false_iff, Bool.not_eq_true, Bool.not_eq_false, Bool.not_eq_eq_eq_not, Bool.not_true, Bool.not_false] at *
           omega)
        | (exfalso
           clear hw hfew hM hMt hm hmt ht h4
           simp only [decide_eq_true_eq, decide_eq_false_iff_not, beq_iff_eq, beq_eq_false_iff_ne, bne_iff_ne, bne_eq_false_iff_eq, ne_eq, Decidable.not_not, ge_iff_le, gt_iff_lt, Int.not_lt, Int.not_le, not_true, not_false_iff, Bool.not_eq_true, Bool.not_eq_false, Bool.not_eq_eq_eq_not, Bool.not_true, Bool.not_false] at *
           omega)
    · repeat' (first | refine st_v rfl rfl rfl rfl (fun _ => rfl) rfl (fun _ => rfl) ?_ | refine st_skip rfl rfl rfl ?_ | refine st_b rfl rfl rfl rfl (fun _ => rfl) rfl (fun h1 => ?_) (fun h1 => ?_) | refine st_n rfl rfl rfl rfl (fun _ => rfl) rfl (fun _ => rfl) ?_ | refine st_s rfl rfl rfl rfl (fun _ => rfl) rfl (fun _ => rfl) ?_ | refine c_seq ?_ | refine c_region ?_ | refine c_plain rfl ?_ | refine c_drawn rfl (by kernel_rfl) ?_ | refine st_nil ?_ | refine c_norm ?_ | refine c_cret ?_ | refine c_ret ?_ | refine c_true rfl ?_ | refine c_false rfl ?_ | refine c_skip ?_ | refine c_block ?_ | refine c_bnorm ?_ | refine c_bret ?_ | refine c_bexit rfl ?_ | refine c_bpass rfl ?_ | refine c_exit ?_ | refine c_cexit ?_ | refine c_lret ?_ | refine c_lexit ?_ | refine c_scope ?_ | refine c_label ?_ | refine c_snorm ?_ | refine c_sret ?_ | refine c_sexit ?_ | refine st_call rfl rfl rfl rfl rfl rfl rfl (call_v (vB true) rfl ⟨rfl, rfl⟩ rfl rfl rfl (cb_v rfl (fun _ => rfl) ?_)) | refine st_call rfl rfl rfl rfl rfl rfl rfl (call_v (vB few) rfl ⟨l, few, rfl, rfl, hfew⟩ rfl rfl rfl (cb_b rfl (fun h1 => ?_) (fun h1 => ?_))) | refine st_call rfl rfl rfl rfl rfl rfl rfl (call_v (vB true) rfl ⟨l, s, rfl, by rw [hm]⟩ rfl rfl rfl (cb_v rfl (fun _ => rfl) ?_)) | fail)
      all_goals first
        | exact ⟨rfl, rfl, rfl, trivial⟩
        | (exfalso
           have hx := of_decide_eq_false (by assumption : decide ((asks.length : Int) > 60) = false)
           omega)
end Hold
theorem SafeHold_calls (A0 : Option Addr) (c0 : Nat) (l0 : List S25) (a0 a1 a2 a3 a4 a5 a6 a7 a8 : Int) (a9 : Bool) (A1 : Option Addr) (c1 : Nat) (l1 : List S65) (w : World) (hr0 : k25.C w A0 l0.length l0) (hc0 : l0.length ≤ c0) (hr1 : k65.C w A1 l1.length l1) (hc1 : l1.length ≤ c1) (hG : GlobOk w) (hw : PU.Wf ⟨a0, a1, a2, a3, a4, a5, a6, a7, a8, a9⟩) :
    Calls Tryd.prog 9 #[.slice A0 l0.length c0, .agg #[.int .i64 a0, .int .i64 a1, .int .i64 a2, .int .i64 a3, .int .i64 a4, .int .i64 a5, .int .i64 a6, .int .i64 a7, .int .i64 a8, .bool a9], .slice A1 l1.length c1] w fun e w' => e = .returned (.bool true) ∧ Below w.heap.size w w' :=
  law_of Hold.ok ⟨l0, _, l1, hw, rfl, rfl⟩ hG ⟨⟨C_pls hc0 hr0, rfl⟩, val_sg _, ⟨Safe.C_asks hc1 hr1, rfl⟩, trivial⟩
end Go.Proofs.YtpciieagafddcaaDoor.E
