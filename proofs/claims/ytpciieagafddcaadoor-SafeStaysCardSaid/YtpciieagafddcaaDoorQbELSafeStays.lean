/- SafeStays walked by the engine (own text). -/
import Derived.Test.YtpciieagafddcaaDoorQbESW
namespace Go.Proofs.YtpciieagafddcaaDoor.E
open Go Go.RowKit Go.Proofs Go.Proofs.YtpciieagafddcaaDoorW.PrintWords Go.Proofs.YtpciieagafddcaaDoorW.PrintLast Go.Proofs.YtpciieagafddcaaDoorW.PrintMore Go.Proofs.YtpciieagafddcaaDoor.F
set_option linter.unusedVariables false
set_option linter.unusedSimpArgs false
set_option maxRecDepth 100000
set_option maxHeartbeats 8000000
attribute [local irreducible] acode callR
namespace Stays
open St Rw Safe
theorem Γs : ΓOk Tryd.prog (look [(28, SpAwake17), (29, SpFewAll), (30, SpDo), (38, SpLamps), (37, .pure SpRowsG), (39, SpTurns), (40, SpMay)]) :=
  (((((((ΓOk.nil.cons may_ok Tryd.func40 (by kernel_rfl)).cons turns_ok Tryd.func39 (by kernel_rfl)).cons rowsG_ok Tryd.func37 (by kernel_rfl)).cons lamps_ok Tryd.func38 (by kernel_rfl)).cons do_ok Tryd.func30 (by kernel_rfl)).cons fewAll_ok Tryd.func29 (by kernel_rfl)).cons Safe.awake_ok Tryd.func28 (by kernel_rfl))
structure Ok (l : List S25) (s t : Sg) (c : Int) : Prop where
  may : PU.May l s
  turns : PW.turnsB c = true
  did : PW.Did l s t
theorem ok_of {l : List S25} {s t : Sg} {c arg : Int} (hw : PU.Wf s) (h : PW.doB l s c arg = (t, 0)) : Ok l s t c := by
  by_cases hm : stage_mayB.f l s = true ∧ PW.turnsB c = true
  · have hM := PU.may_of hw hm.1
    have hd := PW.act_did (c := c) (arg := arg) hM
    rw [← PW.doB_act hm.1 hm.2, h] at hd
    exact ⟨hM, hm.2, hd⟩
  · rw [PW.doB_no hm] at h
    cases h
def SpStays : List FV → FV → Prop := fun a r => ∃ l s c arg, PU.Wf s ∧ a = [fPls l, fSg s, fI c, fI arg] ∧ r = vB true
theorem ok : SpecOk Tryd.prog 8 (.pure SpStays) := by
  refine spec_of_code TYok Γs mixed Tryd.func8 rfl ?_
  rintro args pre r post ⟨⟨l, s, c, arg, hw, rfl, rfl⟩, rfl, rfl⟩
  refine ⟨rfl, ?_⟩
  obtain ⟨few, hfew⟩ := PU.fewAll_ev l
  obtain ⟨t, e, hte⟩ : ∃ t e, PW.doB l s c arg = (t, e) := ⟨_, _, rfl⟩
  by_cases he : e = 0
  · subst he
    obtain ⟨hM, hc, hd⟩ := ok_of hw hte
    have hm := PU.may_to hM
    have hmt := PU.may_to hd.may
    have hl := PW.lamps_same hM hd
    have hll := PW.lamps_len (l := l) hw
    have hlr : ([PU.lampsB l s] : List (List Int)).length ≤ 1000 ∧ ∀ i, (([PU.lampsB l s] : List (List Int)).getD i []).length ≤ 1000 := ⟨(by decide : 1 ≤ 1000), fun i => match i with
      | 0 => Nat.le_trans hll (by decide)
      | i + 1 => Nat.zero_le _⟩
    have hel : ∀ i, i < 1 → i = 0 := fun i hi => by omega
    repeat' (first | refine st_v rfl rfl rfl rfl (fun _ => rfl) rfl (fun _ => rfl) ?_ | refine st_skip rfl rfl rfl ?_ | refine st_b rfl rfl rfl rfl (fun _ => rfl) rfl (fun h1 => ?_) (fun h1 => ?_) | refine st_n rfl rfl rfl rfl (fun _ => rfl) rfl (fun _ => rfl) ?_ | refine st_s rfl rfl rfl rfl (fun _ => rfl) rfl (fun _ => rfl) ?_ | refine c_seq ?_ | refine c_region ?_ | refine c_plain rfl ?_ | refine c_drawn rfl (by kernel_rfl) ?_ | refine st_nil ?_ | refine c_norm ?_ | refine c_cret ?_ | refine c_ret ?_ | refine c_true rfl ?_ | refine c_false rfl ?_ | refine c_skip ?_ | refine c_block ?_ | refine c_bnorm ?_ | refine c_bret ?_ | refine c_bexit rfl ?_ | refine c_bpass rfl ?_ | refine c_exit ?_ | refine c_cexit ?_ | refine c_lret ?_ | refine c_lexit ?_ | refine c_scope ?_ | refine c_label ?_ | refine c_snorm ?_ | refine c_sret ?_ | refine c_sexit ?_ | refine st_call rfl rfl rfl rfl rfl rfl rfl (call_v (vB true) rfl ⟨rfl, rfl⟩ rfl rfl rfl (cb_v rfl (fun _ => rfl) ?_)) | refine st_call rfl rfl rfl rfl rfl rfl rfl (call_v (vB few) rfl ⟨l, few, rfl, rfl, hfew⟩ rfl rfl rfl (cb_b rfl (fun h1 => ?_) (fun h1 => ?_))) | refine st_call rfl rfl rfl rfl rfl rfl rfl (call_v (fDo (t, 0)) rfl ⟨l, s, c, arg, hw, rfl, by rw [hte]⟩ rfl rfl rfl (cb_v rfl (fun _ => rfl) ?_)) | refine st_call rfl rfl rfl rfl rfl rfl rfl (call_s (fInts (PU.lampsB l s)) rfl ⟨l, s, hw, rfl, rfl⟩ rfl rfl rfl rfl (cb_v rfl (fun _ => rfl) ?_)) | refine st_call rfl rfl rfl rfl rfl rfl rfl (call_s (fInts (PU.lampsB l s)) rfl ⟨l, t, hd.may.wf, rfl, by rw [hl]⟩ rfl rfl rfl rfl (cb_v rfl (fun _ => rfl) ?_)) | refine st_call rfl rfl rfl rfl rfl rfl rfl (call_v (vB true) rfl ⟨[PU.lampsB l s], _, _, hlr, rfl, rfl, fun i hi => (hel i hi).symm ▸ ⟨rfl, rfl⟩⟩ rfl rfl rfl (cb_v rfl (fun _ => rfl) ?_)) | refine st_call rfl rfl rfl rfl rfl rfl rfl (call_v (vB true) rfl ⟨c, rfl, by rw [hc]⟩ rfl rfl rfl (cb_v rfl (fun _ => rfl) ?_)) | refine st_call rfl rfl rfl rfl rfl rfl rfl (call_v (vB true) rfl ⟨l, s, rfl, by rw [hm]⟩ rfl rfl rfl (cb_v rfl (fun _ => rfl) ?_)) | refine st_call rfl rfl rfl rfl rfl rfl rfl (call_v (vB true) rfl ⟨l, t, rfl, by rw [hmt]⟩ rfl rfl rfl (cb_v rfl (fun _ => rfl) ?_)) | fail)
    all_goals first
      | exact ⟨rfl, rfl, rfl, trivial⟩
      | (exfalso
         have h1 := hd.plan
         have h2 := hd.stage
         have h3 := hd.phase
         have h4 := hd.t
         have h5 := hd.held
         clear hw hfew hd hM hlr hel hl hll hte hm hmt hc
         simp_all)
  · have hs : s = t := by
      have h1 := PW.do_err (l := l) (s := s) (c := c) (arg := arg) (by rw [hte]; exact he)
      rw [hte] at h1
      exact h1.symm
    subst hs
    repeat' (first | refine st_v rfl rfl rfl rfl (fun _ => rfl) rfl (fun _ => rfl) ?_ | refine st_skip rfl rfl rfl ?_ | refine st_b rfl rfl rfl rfl (fun _ => rfl) rfl (fun h1 => ?_) (fun h1 => ?_) | refine st_n rfl rfl rfl rfl (fun _ => rfl) rfl (fun _ => rfl) ?_ | refine st_s rfl rfl rfl rfl (fun _ => rfl) rfl (fun _ => rfl) ?_ | refine c_seq ?_ | refine c_region ?_ | refine c_plain rfl ?_ | refine c_drawn rfl (by kernel_rfl) ?_ | refine st_nil ?_ | refine c_norm ?_ | refine c_cret ?_ | refine c_ret ?_ | refine c_true rfl ?_ | refine c_false rfl ?_ | refine c_skip ?_ | refine c_block ?_ | refine c_bnorm ?_ | refine c_bret ?_ | refine c_bexit rfl ?_ | refine c_bpass rfl ?_ | refine c_exit ?_ | refine c_cexit ?_ | refine c_lret ?_ | refine c_lexit ?_ | refine c_scope ?_ | refine c_label ?_ | refine c_snorm ?_ | refine c_sret ?_ | refine c_sexit ?_ | refine st_call rfl rfl rfl rfl rfl rfl rfl (call_v (vB true) rfl ⟨rfl, rfl⟩ rfl rfl rfl (cb_v rfl (fun _ => rfl) ?_)) | refine st_call rfl rfl rfl rfl rfl rfl rfl (call_v (vB few) rfl ⟨l, few, rfl, rfl, hfew⟩ rfl rfl rfl (cb_b rfl (fun h1 => ?_) (fun h1 => ?_))) | refine st_call rfl rfl rfl rfl rfl rfl rfl (call_v (fDo (s, e)) rfl ⟨l, s, c, arg, hw, rfl, by rw [hte]⟩ rfl rfl rfl (cb_v rfl (fun _ => rfl) ?_)) | fail)
    all_goals first
      | exact ⟨rfl, rfl, rfl, trivial⟩
      | exact absurd (by assumption : eqV _ _ = false) (by simp [eqV])
      | exact absurd (by assumption : (e != 0) = false) (by simpa using he)
end Stays
theorem SafeStays_calls (A0 : Option Addr) (c0 : Nat) (l0 : List S25) (a0 a1 a2 a3 a4 a5 a6 a7 a8 : Int) (a9 : Bool) (c arg : Int) (w : World) (hr0 : k25.C w A0 l0.length l0) (hc0 : l0.length ≤ c0) (hG : GlobOk w) (hw : PU.Wf ⟨a0, a1, a2, a3, a4, a5, a6, a7, a8, a9⟩) :
    Calls Tryd.prog 8 #[.slice A0 l0.length c0, .agg #[.int .i64 a0, .int .i64 a1, .int .i64 a2, .int .i64 a3, .int .i64 a4, .int .i64 a5, .int .i64 a6, .int .i64 a7, .int .i64 a8, .bool a9], .int .i64 c, .int .i64 arg] w fun e w' => e = .returned (.bool true) ∧ Below w.heap.size w w' :=
  law_of Stays.ok ⟨l0, _, c, arg, hw, rfl, rfl⟩ hG ⟨⟨C_pls hc0 hr0, rfl⟩, val_sg _, ⟨rfl, rfl⟩, ⟨rfl, rfl⟩, trivial⟩
end Go.Proofs.YtpciieagafddcaaDoor.E
