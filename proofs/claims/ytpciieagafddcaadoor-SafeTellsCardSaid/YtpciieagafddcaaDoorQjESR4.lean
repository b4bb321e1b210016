/- The document's Do (command 4), walked by the engine (own text). -/
import Derived.Test.YtpciieagafddcaaDoorQjESRa
import Derived.Test.YtpciieagafddcaaDoorQjESR1
import Derived.Test.YtpciieagafddcaaDoorQjESR2
import Derived.Test.YtpciieagafddcaaDoorQjESR3
namespace Go.Proofs.YtpciieagafddcaaDoor.E
open Go Go.RowKit Go.Proofs Go.Proofs.YtpciieagafddcaaDoorW.PrintWords Go.Proofs.YtpciieagafddcaaDoorW.PrintLast Go.Proofs.YtpciieagafddcaaDoorW.PrintMore Go.Proofs.YtpciieagafddcaaDoor.F
set_option linter.unusedVariables false
set_option linter.unusedSimpArgs false
set_option maxRecDepth 100000
set_option maxHeartbeats 8000000
attribute [local irreducible] acode callR
namespace Sr
open St Rw
open Tr (st_w st_wb vI_eq)
def SpDo4 : Spec := .pure fun a r => ∃ l s arg, PU.Wf s ∧ stage_mayB.f l s = true ∧ a = [fPls l, fSg s, fI 4, fI arg] ∧ r = Safe.fDo (PW.actB l s 4 arg)
theorem do4_ok : SpecOk Tryd.prog 31 SpDo4 := by
  refine spec_of_code TYok Γd mixed Tryd.func31 rfl ?_
  rintro args pre r post ⟨⟨l, s, arg, hw, hm, rfl, rfl⟩, rfl, rfl⟩
  refine ⟨rfl, ?_⟩
  have hu : PW.turnsB 4 = true := by decide
  have hM := PU.may_of hw hm
  have hpl := hM.plan
  have hh := hM.held
  have hx := hM.fits.hold
  have h5 : (PU.P l s).f4 = (l.getD s.plan.toNat z25).f4 := rfl
  have h6 : (PU.P l s).f1.length = (l.getD s.plan.toNat z25).f1.length := rfl
  have WW : vI .i64 (IntKind.i64.wrap ((l.getD s.plan.toNat z25).f4 - s.held)) = fI ((l.getD s.plan.toNat z25).f4 - s.held) := vI_eq (St.wr64 (by omega) (by omega))
  · rcases PW.act4 (l := l) (s := s) (arg := arg) with ⟨g1, g2, e⟩ | ⟨g1, e⟩ | ⟨g1, g2, e⟩ <;> rw [e] <;> clear e
    · have hs := g2.1
      have hst := g2.2
      have vn : vB (!s.stop) = vB true := by rw [hs]; rfl
      have vs : vB s.stop = vB false := by rw [hs]
      have v1 : vB (decide (arg < 0)) = vB false := by rw [decide_eq_false (by omega)]
      have v2 : vB (decide (arg ≥ (l.length : Int))) = vB false := by rw [decide_eq_false (by omega)]
      have v4 : vB (arg == s.plan) = vB false := by congr 1; exact beq_eq_false_iff_ne.2 (by omega)
      repeat' (first | refine st_w 54 rfl rfl rfl rfl rfl (fun _ => rfl) (rfl : vB ((4 : Int) == 1) = vB false) (fun _ => rfl) ?_ | refine st_w 73 rfl rfl rfl rfl rfl (fun _ => rfl) (rfl : vB ((4 : Int) == 3) = vB false) (fun _ => rfl) ?_ | refine st_w 101 rfl rfl rfl rfl rfl (fun _ => rfl) (rfl : vB ((4 : Int) == 4) = vB true) (fun _ => rfl) ?_ | refine st_w 66 rfl rfl rfl rfl rfl (fun _ => rfl) WW (fun _ => rfl) ?_ | refine st_w 39 rfl rfl rfl rfl rfl (fun _ => rfl) vs (fun _ => rfl) ?_ | refine st_w 40 rfl rfl rfl rfl rfl (fun _ => rfl) vn (fun _ => rfl) ?_ | refine st_w 112 rfl rfl rfl rfl rfl (fun _ => rfl) vs (fun _ => rfl) ?_ | refine st_w 113 rfl rfl rfl rfl rfl (fun _ => rfl) vs (fun _ => rfl) ?_ | refine st_w 103 rfl rfl rfl rfl rfl (fun _ => rfl) v1 (fun _ => rfl) ?_ | refine st_w 108 rfl rfl rfl rfl rfl (fun _ => rfl) v2 (fun _ => rfl) ?_ | refine st_w 117 rfl rfl rfl rfl rfl (fun _ => rfl) v4 (fun _ => rfl) ?_ | refine st_v rfl rfl rfl rfl (fun _ => rfl) rfl (fun _ => rfl) ?_ | refine st_skip rfl rfl rfl ?_ | refine st_b rfl rfl rfl rfl (fun _ => rfl) rfl (fun h1 => ?_) (fun h1 => ?_) | refine st_n rfl rfl rfl rfl (fun _ => rfl) rfl (fun _ => rfl) ?_ | refine st_s rfl rfl rfl rfl (fun _ => rfl) rfl (fun _ => rfl) ?_ | refine c_seq ?_ | refine c_region ?_ | refine c_plain rfl ?_ | refine c_drawn rfl (by kernel_rfl) ?_ | refine st_nil ?_ | refine c_norm ?_ | refine c_cret ?_ | refine c_ret ?_ | refine c_true rfl ?_ | refine c_false rfl ?_ | refine c_skip ?_ | refine c_block ?_ | refine c_bnorm ?_ | refine c_bret ?_ | refine c_bexit rfl ?_ | refine c_bpass rfl ?_ | refine c_exit ?_ | refine c_cexit ?_ | refine c_lret ?_ | refine c_lexit ?_ | refine c_scope ?_ | refine c_label ?_ | refine c_snorm ?_ | refine c_sret ?_ | refine c_sexit ?_ | refine st_call rfl rfl rfl rfl rfl rfl rfl (call_v (vB true) rfl ⟨l, s, hw, rfl, by rw [hm]⟩ rfl rfl rfl (cb_v rfl (fun _ => rfl) ?_)) | refine st_call rfl rfl rfl rfl rfl rfl rfl (call_v (vB true) rfl ⟨_, rfl, by rw [hu]⟩ rfl rfl rfl (cb_v rfl (fun _ => rfl) ?_)) | refine st_pv rfl rfl rfl rfl (fun _ => rfl) hpl rfl (fun _ => rfl) ?_ | fail)
      all_goals exact ⟨Safe.ret_two rfl rfl rfl rfl rfl rfl rfl rfl rfl, rfl, rfl, trivial⟩
    · by_cases h0 : arg < 0
      · have v1 : vB (decide (arg < 0)) = vB true := by rw [decide_eq_true (by omega)]
        repeat' (first | refine st_w 54 rfl rfl rfl rfl rfl (fun _ => rfl) (rfl : vB ((4 : Int) == 1) = vB false) (fun _ => rfl) ?_ | refine st_w 73 rfl rfl rfl rfl rfl (fun _ => rfl) (rfl : vB ((4 : Int) == 3) = vB false) (fun _ => rfl) ?_ | refine st_w 101 rfl rfl rfl rfl rfl (fun _ => rfl) (rfl : vB ((4 : Int) == 4) = vB true) (fun _ => rfl) ?_ | refine st_w 66 rfl rfl rfl rfl rfl (fun _ => rfl) WW (fun _ => rfl) ?_ | refine st_w 103 rfl rfl rfl rfl rfl (fun _ => rfl) v1 (fun _ => rfl) ?_ | refine st_v rfl rfl rfl rfl (fun _ => rfl) rfl (fun _ => rfl) ?_ | refine st_skip rfl rfl rfl ?_ | refine st_b rfl rfl rfl rfl (fun _ => rfl) rfl (fun h1 => ?_) (fun h1 => ?_) | refine st_n rfl rfl rfl rfl (fun _ => rfl) rfl (fun _ => rfl) ?_ | refine st_s rfl rfl rfl rfl (fun _ => rfl) rfl (fun _ => rfl) ?_ | refine c_seq ?_ | refine c_region ?_ | refine c_plain rfl ?_ | refine c_drawn rfl (by kernel_rfl) ?_ | refine st_nil ?_ | refine c_norm ?_ | refine c_cret ?_ | refine c_ret ?_ | refine c_true rfl ?_ | refine c_false rfl ?_ | refine c_skip ?_ | refine c_block ?_ | refine c_bnorm ?_ | refine c_bret ?_ | refine c_bexit rfl ?_ | refine c_bpass rfl ?_ | refine c_exit ?_ | refine c_cexit ?_ | refine c_lret ?_ | refine c_lexit ?_ | refine c_scope ?_ | refine c_label ?_ | refine c_snorm ?_ | refine c_sret ?_ | refine c_sexit ?_ | refine st_call rfl rfl rfl rfl rfl rfl rfl (call_v (vB true) rfl ⟨l, s, hw, rfl, by rw [hm]⟩ rfl rfl rfl (cb_v rfl (fun _ => rfl) ?_)) | refine st_call rfl rfl rfl rfl rfl rfl rfl (call_v (vB true) rfl ⟨_, rfl, by rw [hu]⟩ rfl rfl rfl (cb_v rfl (fun _ => rfl) ?_)) | refine st_pv rfl rfl rfl rfl (fun _ => rfl) hpl rfl (fun _ => rfl) ?_ | fail)
        all_goals exact ⟨Safe.ret_two rfl rfl rfl rfl rfl rfl rfl rfl rfl, rfl, rfl, trivial⟩
      · have v1 : vB (decide (arg < 0)) = vB false := by rw [decide_eq_false (by omega)]
        have v2 : vB (decide (arg ≥ (l.length : Int))) = vB true := by rw [decide_eq_true (by omega)]
        repeat' (first | refine st_w 54 rfl rfl rfl rfl rfl (fun _ => rfl) (rfl : vB ((4 : Int) == 1) = vB false) (fun _ => rfl) ?_ | refine st_w 73 rfl rfl rfl rfl rfl (fun _ => rfl) (rfl : vB ((4 : Int) == 3) = vB false) (fun _ => rfl) ?_ | refine st_w 101 rfl rfl rfl rfl rfl (fun _ => rfl) (rfl : vB ((4 : Int) == 4) = vB true) (fun _ => rfl) ?_ | refine st_w 66 rfl rfl rfl rfl rfl (fun _ => rfl) WW (fun _ => rfl) ?_ | refine st_w 103 rfl rfl rfl rfl rfl (fun _ => rfl) v1 (fun _ => rfl) ?_ | refine st_w 108 rfl rfl rfl rfl rfl (fun _ => rfl) v2 (fun _ => rfl) ?_ | refine st_v rfl rfl rfl rfl (fun _ => rfl) rfl (fun _ => rfl) ?_ | refine st_skip rfl rfl rfl ?_ | refine st_b rfl rfl rfl rfl (fun _ => rfl) rfl (fun h1 => ?_) (fun h1 => ?_) | refine st_n rfl rfl rfl rfl (fun _ => rfl) rfl (fun _ => rfl) ?_ | refine st_s rfl rfl rfl rfl (fun _ => rfl) rfl (fun _ => rfl) ?_ | refine c_seq ?_ | refine c_region ?_ | refine c_plain rfl ?_ | refine c_drawn rfl (by kernel_rfl) ?_ | refine st_nil ?_ | refine c_norm ?_ | refine c_cret ?_ | refine c_ret ?_ | refine c_true rfl ?_ | refine c_false rfl ?_ | refine c_skip ?_ | refine c_block ?_ | refine c_bnorm ?_ | refine c_bret ?_ | refine c_bexit rfl ?_ | refine c_bpass rfl ?_ | refine c_exit ?_ | refine c_cexit ?_ | refine c_lret ?_ | refine c_lexit ?_ | refine c_scope ?_ | refine c_label ?_ | refine c_snorm ?_ | refine c_sret ?_ | refine c_sexit ?_ | refine st_call rfl rfl rfl rfl rfl rfl rfl (call_v (vB true) rfl ⟨l, s, hw, rfl, by rw [hm]⟩ rfl rfl rfl (cb_v rfl (fun _ => rfl) ?_)) | refine st_call rfl rfl rfl rfl rfl rfl rfl (call_v (vB true) rfl ⟨_, rfl, by rw [hu]⟩ rfl rfl rfl (cb_v rfl (fun _ => rfl) ?_)) | refine st_pv rfl rfl rfl rfl (fun _ => rfl) hpl rfl (fun _ => rfl) ?_ | fail)
        all_goals exact ⟨Safe.ret_two rfl rfl rfl rfl rfl rfl rfl rfl rfl, rfl, rfl, trivial⟩
    · have v1 : vB (decide (arg < 0)) = vB false := by rw [decide_eq_false (by omega)]
      have v2 : vB (decide (arg ≥ (l.length : Int))) = vB false := by rw [decide_eq_false (by omega)]
      cases hs : s.stop with
      | true =>
        have vn : vB (!s.stop) = vB false := by rw [hs]; rfl
        have vs : vB s.stop = vB true := by rw [hs]
        repeat' (first | refine st_w 54 rfl rfl rfl rfl rfl (fun _ => rfl) (rfl : vB ((4 : Int) == 1) = vB false) (fun _ => rfl) ?_ | refine st_w 73 rfl rfl rfl rfl rfl (fun _ => rfl) (rfl : vB ((4 : Int) == 3) = vB false) (fun _ => rfl) ?_ | refine st_w 101 rfl rfl rfl rfl rfl (fun _ => rfl) (rfl : vB ((4 : Int) == 4) = vB true) (fun _ => rfl) ?_ | refine st_w 66 rfl rfl rfl rfl rfl (fun _ => rfl) WW (fun _ => rfl) ?_ | refine st_w 39 rfl rfl rfl rfl rfl (fun _ => rfl) vs (fun _ => rfl) ?_ | refine st_w 40 rfl rfl rfl rfl rfl (fun _ => rfl) vn (fun _ => rfl) ?_ | refine st_w 112 rfl rfl rfl rfl rfl (fun _ => rfl) vs (fun _ => rfl) ?_ | refine st_w 113 rfl rfl rfl rfl rfl (fun _ => rfl) vs (fun _ => rfl) ?_ | refine st_w 103 rfl rfl rfl rfl rfl (fun _ => rfl) v1 (fun _ => rfl) ?_ | refine st_w 108 rfl rfl rfl rfl rfl (fun _ => rfl) v2 (fun _ => rfl) ?_ | refine st_v rfl rfl rfl rfl (fun _ => rfl) rfl (fun _ => rfl) ?_ | refine st_skip rfl rfl rfl ?_ | refine st_b rfl rfl rfl rfl (fun _ => rfl) rfl (fun h1 => ?_) (fun h1 => ?_) | refine st_n rfl rfl rfl rfl (fun _ => rfl) rfl (fun _ => rfl) ?_ | refine st_s rfl rfl rfl rfl (fun _ => rfl) rfl (fun _ => rfl) ?_ | refine c_seq ?_ | refine c_region ?_ | refine c_plain rfl ?_ | refine c_drawn rfl (by kernel_rfl) ?_ | refine st_nil ?_ | refine c_norm ?_ | refine c_cret ?_ | refine c_ret ?_ | refine c_true rfl ?_ | refine c_false rfl ?_ | refine c_skip ?_ | refine c_block ?_ | refine c_bnorm ?_ | refine c_bret ?_ | refine c_bexit rfl ?_ | refine c_bpass rfl ?_ | refine c_exit ?_ | refine c_cexit ?_ | refine c_lret ?_ | refine c_lexit ?_ | refine c_scope ?_ | refine c_label ?_ | refine c_snorm ?_ | refine c_sret ?_ | refine c_sexit ?_ | refine st_call rfl rfl rfl rfl rfl rfl rfl (call_v (vB true) rfl ⟨l, s, hw, rfl, by rw [hm]⟩ rfl rfl rfl (cb_v rfl (fun _ => rfl) ?_)) | refine st_call rfl rfl rfl rfl rfl rfl rfl (call_v (vB true) rfl ⟨_, rfl, by rw [hu]⟩ rfl rfl rfl (cb_v rfl (fun _ => rfl) ?_)) | refine st_pv rfl rfl rfl rfl (fun _ => rfl) hpl rfl (fun _ => rfl) ?_ | fail)
        all_goals exact ⟨Safe.ret_two rfl rfl rfl rfl rfl rfl rfl rfl rfl, rfl, rfl, trivial⟩
      | false =>
        have hst : arg = s.plan := Classical.byContradiction fun h => g2 ⟨hs, h⟩
        have vn : vB (!s.stop) = vB true := by rw [hs]; rfl
        have vs : vB s.stop = vB false := by rw [hs]
        have v4 : vB (arg == s.plan) = vB true := by congr 1; exact beq_iff_eq.2 (by omega)
        repeat' (first | refine st_w 54 rfl rfl rfl rfl rfl (fun _ => rfl) (rfl : vB ((4 : Int) == 1) = vB false) (fun _ => rfl) ?_ | refine st_w 73 rfl rfl rfl rfl rfl (fun _ => rfl) (rfl : vB ((4 : Int) == 3) = vB false) (fun _ => rfl) ?_ | refine st_w 101 rfl rfl rfl rfl rfl (fun _ => rfl) (rfl : vB ((4 : Int) == 4) = vB true) (fun _ => rfl) ?_ | refine st_w 66 rfl rfl rfl rfl rfl (fun _ => rfl) WW (fun _ => rfl) ?_ | refine st_w 39 rfl rfl rfl rfl rfl (fun _ => rfl) vs (fun _ => rfl) ?_ | refine st_w 40 rfl rfl rfl rfl rfl (fun _ => rfl) vn (fun _ => rfl) ?_ | refine st_w 112 rfl rfl rfl rfl rfl (fun _ => rfl) vs (fun _ => rfl) ?_ | refine st_w 113 rfl rfl rfl rfl rfl (fun _ => rfl) vs (fun _ => rfl) ?_ | refine st_w 103 rfl rfl rfl rfl rfl (fun _ => rfl) v1 (fun _ => rfl) ?_ | refine st_w 108 rfl rfl rfl rfl rfl (fun _ => rfl) v2 (fun _ => rfl) ?_ | refine st_w 117 rfl rfl rfl rfl rfl (fun _ => rfl) v4 (fun _ => rfl) ?_ | refine st_v rfl rfl rfl rfl (fun _ => rfl) rfl (fun _ => rfl) ?_ | refine st_skip rfl rfl rfl ?_ | refine st_b rfl rfl rfl rfl (fun _ => rfl) rfl (fun h1 => ?_) (fun h1 => ?_) | refine st_n rfl rfl rfl rfl (fun _ => rfl) rfl (fun _ => rfl) ?_ | refine st_s rfl rfl rfl rfl (fun _ => rfl) rfl (fun _ => rfl) ?_ | refine c_seq ?_ | refine c_region ?_ | refine c_plain rfl ?_ | refine c_drawn rfl (by kernel_rfl) ?_ | refine st_nil ?_ | refine c_norm ?_ | refine c_cret ?_ | refine c_ret ?_ | refine c_true rfl ?_ | refine c_false rfl ?_ | refine c_skip ?_ | refine c_block ?_ | refine c_bnorm ?_ | refine c_bret ?_ | refine c_bexit rfl ?_ | refine c_bpass rfl ?_ | refine c_exit ?_ | refine c_cexit ?_ | refine c_lret ?_ | refine c_lexit ?_ | refine c_scope ?_ | refine c_label ?_ | refine c_snorm ?_ | refine c_sret ?_ | refine c_sexit ?_ | refine st_call rfl rfl rfl rfl rfl rfl rfl (call_v (vB true) rfl ⟨l, s, hw, rfl, by rw [hm]⟩ rfl rfl rfl (cb_v rfl (fun _ => rfl) ?_)) | refine st_call rfl rfl rfl rfl rfl rfl rfl (call_v (vB true) rfl ⟨_, rfl, by rw [hu]⟩ rfl rfl rfl (cb_v rfl (fun _ => rfl) ?_)) | refine st_pv rfl rfl rfl rfl (fun _ => rfl) hpl rfl (fun _ => rfl) ?_ | fail)
        all_goals exact ⟨Safe.ret_two rfl rfl rfl rfl rfl rfl rfl rfl rfl, rfl, rfl, trivial⟩
end Sr
end Go.Proofs.YtpciieagafddcaaDoor.E
/- The document's Do (whole), walked by the engine (own text). -/
namespace Go.Proofs.YtpciieagafddcaaDoor.E
open Go Go.RowKit Go.Proofs Go.Proofs.YtpciieagafddcaaDoorW.PrintWords Go.Proofs.YtpciieagafddcaaDoorW.PrintLast Go.Proofs.YtpciieagafddcaaDoorW.PrintMore Go.Proofs.YtpciieagafddcaaDoor.F
set_option linter.unusedVariables false
set_option linter.unusedSimpArgs false
set_option maxRecDepth 100000
set_option maxHeartbeats 8000000
attribute [local irreducible] acode callR
namespace Sr
open St Rw
open Tr (st_w st_wb vI_eq)
theorem do_ok : SpecOk Tryd.prog 31 Safe.SpDo := by
  rintro args pre r post ⟨⟨l, s, c, arg, hw, rfl, rfl⟩, rfl, rfl⟩
  by_cases hb : stage_mayB.f l s = true ∧ PW.turnsB c = true
  · rw [PW.doB_act hb.1 hb.2]
    have hc : 1 ≤ c ∧ c ≤ 6 := of_decide_eq_true hb.2
    rcases (by omega : c = 1 ∨ c = 2 ∨ c = 3 ∨ c = 4 ∨ c = 5 ∨ c = 6) with rfl | rfl | rfl | rfl | rfl | rfl
    · exact do1_ok _ _ _ _ ⟨⟨l, s, arg, hw, hb.1, rfl, rfl⟩, rfl, rfl⟩
    · exact do2_ok _ _ _ _ ⟨⟨l, s, arg, hw, hb.1, rfl, rfl⟩, rfl, rfl⟩
    · exact do3_ok _ _ _ _ ⟨⟨l, s, arg, hw, hb.1, rfl, rfl⟩, rfl, rfl⟩
    · exact do4_ok _ _ _ _ ⟨⟨l, s, arg, hw, hb.1, rfl, rfl⟩, rfl, rfl⟩
    · exact do5_ok _ _ _ _ ⟨⟨l, s, arg, hw, hb.1, rfl, rfl⟩, rfl, rfl⟩
    · exact do6_ok _ _ _ _ ⟨⟨l, s, arg, hw, hb.1, rfl, rfl⟩, rfl, rfl⟩
  · rw [PW.doB_no hb]
    exact doN_ok _ _ _ _ ⟨⟨l, s, c, arg, hw, hb, rfl, rfl⟩, rfl, rfl⟩
end Sr
end Go.Proofs.YtpciieagafddcaaDoor.E
