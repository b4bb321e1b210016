/- The document's Do (what may not be), walked by the engine (own text). -/
import Derived.Test.YtpciieagafddcaaDoorQjESRa
namespace Go.Proofs.YtpciieagafddcaaDoor.E
open Go Go.RowKit Go.Proofs Go.Proofs.YtpciieagafddcaaDoorW.PrintWords Go.Proofs.YtpciieagafddcaaDoorW.PrintLast Go.Proofs.YtpciieagafddcaaDoorW.PrintMore Go.Proofs.YtpciieagafddcaaDoor.F
set_option linter.unusedVariables false
set_option linter.unusedSimpArgs false
set_option maxRecDepth 100000
set_option maxHeartbeats 8000000
attribute [local irreducible] acode callR
namespace Sr
open St Rw
open Tr (st_w st_wb vI_eq)
def SpDoN : Spec := .pure fun a r => ∃ l s c arg, PU.Wf s ∧ ¬ (stage_mayB.f l s = true ∧ PW.turnsB c = true) ∧ a = [fPls l, fSg s, fI c, fI arg] ∧ r = Safe.fDo (s, 1)
theorem doN_ok : SpecOk Tryd.prog 31 SpDoN := by
  refine spec_of_code TYok Γd mixed Tryd.func31 rfl ?_
  rintro args pre r post ⟨⟨l, s, c, arg, hw, hb, rfl, rfl⟩, rfl, rfl⟩
  refine ⟨rfl, ?_⟩
  obtain ⟨m, hm⟩ : ∃ b, stage_mayB.f l s = b := ⟨_, rfl⟩
  obtain ⟨u, hu⟩ : ∃ b, PW.turnsB c = b := ⟨_, rfl⟩
  rw [hm, hu] at hb
  repeat' (first | refine st_v rfl rfl rfl rfl (fun _ => rfl) rfl (fun _ => rfl) ?_ | refine st_skip rfl rfl rfl ?_ | refine st_b rfl rfl rfl rfl (fun _ => rfl) rfl (fun h1 => ?_) (fun h1 => ?_) | refine st_n rfl rfl rfl rfl (fun _ => rfl) rfl (fun _ => rfl) ?_ | refine st_s rfl rfl rfl rfl (fun _ => rfl) rfl (fun _ => rfl) ?_ | refine c_seq ?_ | refine c_region ?_ | refine c_plain rfl ?_ | refine c_drawn rfl (by kernel_rfl) ?_ | refine st_nil ?_ | refine c_norm ?_ | refine c_cret ?_ | refine c_ret ?_ | refine c_true rfl ?_ | refine c_false rfl ?_ | refine c_skip ?_ | refine c_block ?_ | refine c_bnorm ?_ | refine c_bret ?_ | refine c_bexit rfl ?_ | refine c_bpass rfl ?_ | refine c_exit ?_ | refine c_cexit ?_ | refine c_lret ?_ | refine c_lexit ?_ | refine c_scope ?_ | refine c_label ?_ | refine c_snorm ?_ | refine c_sret ?_ | refine c_sexit ?_ | refine st_call rfl rfl rfl rfl rfl rfl rfl (call_v (vB m) rfl ⟨l, s, hw, rfl, by rw [hm]⟩ rfl rfl rfl (cb_b rfl (fun h1 => ?_) (fun h1 => ?_))) | refine st_call rfl rfl rfl rfl rfl rfl rfl (call_v (vB u) rfl ⟨c, rfl, by rw [hu]⟩ rfl rfl rfl (cb_b rfl (fun h1 => ?_) (fun h1 => ?_))) | fail)
  all_goals first
    | exact ⟨Safe.ret_two rfl rfl rfl rfl rfl rfl rfl rfl rfl, rfl, rfl, trivial⟩
    | exact absurd ⟨by assumption, by assumption⟩ hb
def SpDo2 : Spec := .pure fun a r => ∃ l s arg, PU.Wf s ∧ stage_mayB.f l s = true ∧ a = [fPls l, fSg s, fI 2, fI arg] ∧ r = Safe.fDo (PW.actB l s 2 arg)
theorem do2_ok : SpecOk Tryd.prog 31 SpDo2 := by
  refine spec_of_code TYok Γd mixed Tryd.func31 rfl ?_
  rintro args pre r post ⟨⟨l, s, arg, hw, hm, rfl, rfl⟩, rfl, rfl⟩
  refine ⟨rfl, ?_⟩
  have hu : PW.turnsB 2 = true := by decide
  have hM := PU.may_of hw hm
  have hpl := hM.plan
  have hh := hM.held
  have hx := hM.fits.hold
  have h5 : (PU.P l s).f4 = (l.getD s.plan.toNat z25).f4 := rfl
  have h6 : (PU.P l s).f1.length = (l.getD s.plan.toNat z25).f1.length := rfl
  have WW : vI .i64 (IntKind.i64.wrap ((l.getD s.plan.toNat z25).f4 - s.held)) = fI ((l.getD s.plan.toNat z25).f4 - s.held) := vI_eq (St.wr64 (by omega) (by omega))
  · obtain ⟨t, e, hte⟩ : ∃ t e, PW.actB l s 2 arg = (t, e) := ⟨_, _, rfl⟩
    rw [hte]
    repeat' (first | refine st_w 54 rfl rfl rfl rfl rfl (fun _ => rfl) (rfl : vB ((2 : Int) == 1) = vB false) (fun _ => rfl) ?_ | refine st_w 73 rfl rfl rfl rfl rfl (fun _ => rfl) (rfl : vB ((2 : Int) == 3) = vB false) (fun _ => rfl) ?_ | refine st_w 101 rfl rfl rfl rfl rfl (fun _ => rfl) (rfl : vB ((2 : Int) == 4) = vB false) (fun _ => rfl) ?_ | refine st_w 66 rfl rfl rfl rfl rfl (fun _ => rfl) WW (fun _ => rfl) ?_ | refine st_v rfl rfl rfl rfl (fun _ => rfl) rfl (fun _ => rfl) ?_ | refine st_skip rfl rfl rfl ?_ | refine st_b rfl rfl rfl rfl (fun _ => rfl) rfl (fun h1 => ?_) (fun h1 => ?_) | refine st_n rfl rfl rfl rfl (fun _ => rfl) rfl (fun _ => rfl) ?_ | refine st_s rfl rfl rfl rfl (fun _ => rfl) rfl (fun _ => rfl) ?_ | refine c_seq ?_ | refine c_region ?_ | refine c_plain rfl ?_ | refine c_drawn rfl (by kernel_rfl) ?_ | refine st_nil ?_ | refine c_norm ?_ | refine c_cret ?_ | refine c_ret ?_ | refine c_true rfl ?_ | refine c_false rfl ?_ | refine c_skip ?_ | refine c_block ?_ | refine c_bnorm ?_ | refine c_bret ?_ | refine c_bexit rfl ?_ | refine c_bpass rfl ?_ | refine c_exit ?_ | refine c_cexit ?_ | refine c_lret ?_ | refine c_lexit ?_ | refine c_scope ?_ | refine c_label ?_ | refine c_snorm ?_ | refine c_sret ?_ | refine c_sexit ?_ | refine st_call rfl rfl rfl rfl rfl rfl rfl (call_v (vB true) rfl ⟨l, s, hw, rfl, by rw [hm]⟩ rfl rfl rfl (cb_v rfl (fun _ => rfl) ?_)) | refine st_call rfl rfl rfl rfl rfl rfl rfl (call_v (vB true) rfl ⟨_, rfl, by rw [hu]⟩ rfl rfl rfl (cb_v rfl (fun _ => rfl) ?_)) | refine st_pv rfl rfl rfl rfl (fun _ => rfl) hpl rfl (fun _ => rfl) ?_ | refine st_call rfl rfl rfl rfl rfl rfl rfl (call_v (Safe.fDo (t, e)) rfl ⟨l, s, 2, arg, hM, by decide, rfl, congrArg Safe.fDo hte.symm⟩ rfl rfl rfl (cb_v rfl (fun _ => rfl) ?_)) | fail)
    all_goals exact ⟨Safe.ret_two rfl rfl rfl rfl rfl rfl rfl rfl rfl, rfl, rfl, trivial⟩
def SpDo5 : Spec := .pure fun a r => ∃ l s arg, PU.Wf s ∧ stage_mayB.f l s = true ∧ a = [fPls l, fSg s, fI 5, fI arg] ∧ r = Safe.fDo (PW.actB l s 5 arg)
theorem do5_ok : SpecOk Tryd.prog 31 SpDo5 := by
  refine spec_of_code TYok Γd mixed Tryd.func31 rfl ?_
  rintro args pre r post ⟨⟨l, s, arg, hw, hm, rfl, rfl⟩, rfl, rfl⟩
  refine ⟨rfl, ?_⟩
  have hu : PW.turnsB 5 = true := by decide
  have hM := PU.may_of hw hm
  have hpl := hM.plan
  have hh := hM.held
  have hx := hM.fits.hold
  have h5 : (PU.P l s).f4 = (l.getD s.plan.toNat z25).f4 := rfl
  have h6 : (PU.P l s).f1.length = (l.getD s.plan.toNat z25).f1.length := rfl
  have WW : vI .i64 (IntKind.i64.wrap ((l.getD s.plan.toNat z25).f4 - s.held)) = fI ((l.getD s.plan.toNat z25).f4 - s.held) := vI_eq (St.wr64 (by omega) (by omega))
  · obtain ⟨t, e, hte⟩ : ∃ t e, PW.actB l s 5 arg = (t, e) := ⟨_, _, rfl⟩
    rw [hte]
    repeat' (first | refine st_w 54 rfl rfl rfl rfl rfl (fun _ => rfl) (rfl : vB ((5 : Int) == 1) = vB false) (fun _ => rfl) ?_ | refine st_w 73 rfl rfl rfl rfl rfl (fun _ => rfl) (rfl : vB ((5 : Int) == 3) = vB false) (fun _ => rfl) ?_ | refine st_w 101 rfl rfl rfl rfl rfl (fun _ => rfl) (rfl : vB ((5 : Int) == 4) = vB false) (fun _ => rfl) ?_ | refine st_w 66 rfl rfl rfl rfl rfl (fun _ => rfl) WW (fun _ => rfl) ?_ | refine st_v rfl rfl rfl rfl (fun _ => rfl) rfl (fun _ => rfl) ?_ | refine st_skip rfl rfl rfl ?_ | refine st_b rfl rfl rfl rfl (fun _ => rfl) rfl (fun h1 => ?_) (fun h1 => ?_) | refine st_n rfl rfl rfl rfl (fun _ => rfl) rfl (fun _ => rfl) ?_ | refine st_s rfl rfl rfl rfl (fun _ => rfl) rfl (fun _ => rfl) ?_ | refine c_seq ?_ | refine c_region ?_ | refine c_plain rfl ?_ | refine c_drawn rfl (by kernel_rfl) ?_ | refine st_nil ?_ | refine c_norm ?_ | refine c_cret ?_ | refine c_ret ?_ | refine c_true rfl ?_ | refine c_false rfl ?_ | refine c_skip ?_ | refine c_block ?_ | refine c_bnorm ?_ | refine c_bret ?_ | refine c_bexit rfl ?_ | refine c_bpass rfl ?_ | refine c_exit ?_ | refine c_cexit ?_ | refine c_lret ?_ | refine c_lexit ?_ | refine c_scope ?_ | refine c_label ?_ | refine c_snorm ?_ | refine c_sret ?_ | refine c_sexit ?_ | refine st_call rfl rfl rfl rfl rfl rfl rfl (call_v (vB true) rfl ⟨l, s, hw, rfl, by rw [hm]⟩ rfl rfl rfl (cb_v rfl (fun _ => rfl) ?_)) | refine st_call rfl rfl rfl rfl rfl rfl rfl (call_v (vB true) rfl ⟨_, rfl, by rw [hu]⟩ rfl rfl rfl (cb_v rfl (fun _ => rfl) ?_)) | refine st_pv rfl rfl rfl rfl (fun _ => rfl) hpl rfl (fun _ => rfl) ?_ | refine st_call rfl rfl rfl rfl rfl rfl rfl (call_v (Safe.fDo (t, e)) rfl ⟨l, s, 5, arg, hM, by decide, rfl, congrArg Safe.fDo hte.symm⟩ rfl rfl rfl (cb_v rfl (fun _ => rfl) ?_)) | fail)
    all_goals exact ⟨Safe.ret_two rfl rfl rfl rfl rfl rfl rfl rfl rfl, rfl, rfl, trivial⟩
def SpDo6 : Spec := .pure fun a r => ∃ l s arg, PU.Wf s ∧ stage_mayB.f l s = true ∧ a = [fPls l, fSg s, fI 6, fI arg] ∧ r = Safe.fDo (PW.actB l s 6 arg)
theorem do6_ok : SpecOk Tryd.prog 31 SpDo6 := by
  refine spec_of_code TYok Γd mixed Tryd.func31 rfl ?_
  rintro args pre r post ⟨⟨l, s, arg, hw, hm, rfl, rfl⟩, rfl, rfl⟩
  refine ⟨rfl, ?_⟩
  have hu : PW.turnsB 6 = true := by decide
  have hM := PU.may_of hw hm
  have hpl := hM.plan
  have hh := hM.held
  have hx := hM.fits.hold
  have h5 : (PU.P l s).f4 = (l.getD s.plan.toNat z25).f4 := rfl
  have h6 : (PU.P l s).f1.length = (l.getD s.plan.toNat z25).f1.length := rfl
  have WW : vI .i64 (IntKind.i64.wrap ((l.getD s.plan.toNat z25).f4 - s.held)) = fI ((l.getD s.plan.toNat z25).f4 - s.held) := vI_eq (St.wr64 (by omega) (by omega))
  · obtain ⟨t, e, hte⟩ : ∃ t e, PW.actB l s 6 arg = (t, e) := ⟨_, _, rfl⟩
    rw [hte]
    repeat' (first | refine st_w 54 rfl rfl rfl rfl rfl (fun _ => rfl) (rfl : vB ((6 : Int) == 1) = vB false) (fun _ => rfl) ?_ | refine st_w 73 rfl rfl rfl rfl rfl (fun _ => rfl) (rfl : vB ((6 : Int) == 3) = vB false) (fun _ => rfl) ?_ | refine st_w 101 rfl rfl rfl rfl rfl (fun _ => rfl) (rfl : vB ((6 : Int) == 4) = vB false) (fun _ => rfl) ?_ | refine st_w 66 rfl rfl rfl rfl rfl (fun _ => rfl) WW (fun _ => rfl) ?_ | refine st_v rfl rfl rfl rfl (fun _ => rfl) rfl (fun _ => rfl) ?_ | refine st_skip rfl rfl rfl ?_ | refine st_b rfl rfl rfl rfl (fun _ => rfl) rfl (fun h1 => ?_) (fun h1 => ?_) | refine st_n rfl rfl rfl rfl (fun _ => rfl) rfl (fun _ => rfl) ?_ | refine st_s rfl rfl rfl rfl (fun _ => rfl) rfl (fun _ => rfl) ?_ | refine c_seq ?_ | refine c_region ?_ | refine c_plain rfl ?_ | refine c_drawn rfl (by kernel_rfl) ?_ | refine st_nil ?_ | refine c_norm ?_ | refine c_cret ?_ | refine c_ret ?_ | refine c_true rfl ?_ | refine c_false rfl ?_ | refine c_skip ?_ | refine c_block ?_ | refine c_bnorm ?_ | refine c_bret ?_ | refine c_bexit rfl ?_ | refine c_bpass rfl ?_ | refine c_exit ?_ | refine c_cexit ?_ | refine c_lret ?_ | refine c_lexit ?_ | refine c_scope ?_ | refine c_label ?_ | refine c_snorm ?_ | refine c_sret ?_ | refine c_sexit ?_ | refine st_call rfl rfl rfl rfl rfl rfl rfl (call_v (vB true) rfl ⟨l, s, hw, rfl, by rw [hm]⟩ rfl rfl rfl (cb_v rfl (fun _ => rfl) ?_)) | refine st_call rfl rfl rfl rfl rfl rfl rfl (call_v (vB true) rfl ⟨_, rfl, by rw [hu]⟩ rfl rfl rfl (cb_v rfl (fun _ => rfl) ?_)) | refine st_pv rfl rfl rfl rfl (fun _ => rfl) hpl rfl (fun _ => rfl) ?_ | refine st_call rfl rfl rfl rfl rfl rfl rfl (call_v (Safe.fDo (t, e)) rfl ⟨l, s, 6, arg, hM, by decide, rfl, congrArg Safe.fDo hte.symm⟩ rfl rfl rfl (cb_v rfl (fun _ => rfl) ?_)) | fail)
    all_goals exact ⟨Safe.ret_two rfl rfl rfl rfl rfl rfl rfl rfl rfl, rfl, rfl, trivial⟩
end Sr
end Go.Proofs.YtpciieagafddcaaDoor.E
