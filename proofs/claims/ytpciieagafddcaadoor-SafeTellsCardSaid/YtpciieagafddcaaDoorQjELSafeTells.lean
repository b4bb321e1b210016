/- SafeTells walked by the engine (own text). -/
import Derived.Test.YtpciieagafddcaaDoorQjESQ
import Derived.Test.YtpciieagafddcaaDoorQjESW
namespace Go.Proofs.YtpciieagafddcaaDoor.E
open Go Go.RowKit Go.Proofs Go.Proofs.YtpciieagafddcaaDoorW.PrintWords Go.Proofs.YtpciieagafddcaaDoorW.PrintLast Go.Proofs.YtpciieagafddcaaDoorW.PrintMore Go.Proofs.YtpciieagafddcaaDoor.F
set_option linter.unusedVariables false
set_option linter.unusedSimpArgs false
set_option maxRecDepth 100000
set_option maxHeartbeats 8000000
attribute [local irreducible] acode callR
namespace SafeTellsL
open St Rw
open Tr (st_w st_wb vI_eq)
theorem Γt : ΓOk Tryd.prog (look [(28, Safe.SpAwake17), (29, SpFewAll), (30, Safe.SpDo), (31, Safe.SpDo), (32, Safe.SpAllD), (33, Safe.SpAllD), (34, Safe.SpPlay), (35, Safe.SpPlay), (36, Sr.SpErrs), (37, SpRows)]) := ((((((((((ΓOk.nil.cons rows_ok Tryd.func37 (by kernel_rfl)).cons Sr.errs_ok Tryd.func36 (by kernel_rfl)).cons Sr.play_ok Tryd.func35 (by kernel_rfl)).cons Safe.play_ok Tryd.func34 (by kernel_rfl)).cons Sr.all_ok Tryd.func33 (by kernel_rfl)).cons Safe.alld_ok Tryd.func32 (by kernel_rfl)).cons Sr.do_ok Tryd.func31 (by kernel_rfl)).cons Safe.do_ok Tryd.func30 (by kernel_rfl)).cons fewAll_ok Tryd.func29 (by kernel_rfl)).cons Safe.awake_ok Tryd.func28 (by kernel_rfl))
theorem eqS_self (s : Sg) : vB (eqV [.int .i64 s.plan, .int .i64 s.stage, .int .i64 s.next, .int .i64 s.phase, .int .i64 s.t, .int .i64 s.hold, .int .i64 s.held, .int .i64 s.ask, .int .i64 s.want, .bool s.stop] [.int .i64 s.plan, .int .i64 s.stage, .int .i64 s.next, .int .i64 s.phase, .int .i64 s.t, .int .i64 s.hold, .int .i64 s.held, .int .i64 s.ask, .int .i64 s.want, .bool s.stop]) = vB true := by simp [eqV]
theorem ok : SpecOk Tryd.prog 7 (.pure fun a r => ∃ l s c arg asks, PU.Wf s ∧ a = [fPls l, fSg s, fI c, fI arg, Safe.fAsks asks] ∧ r = vB true) := by
  refine spec_of_code TYok Γt mixed Tryd.func7 rfl ?_
  rintro args pre r post ⟨⟨l, s, c, arg, asks, hw, rfl, rfl⟩, rfl, rfl⟩
  refine ⟨rfl, ?_⟩
  obtain ⟨few, hfew⟩ := PU.fewAll_ev l
  by_cases hlen : asks.length ≤ 60
  · have wl : vB (decide ((asks.length : Int) > 60)) = vB false := by rw [decide_eq_false (by omega)]
    have hel : (PW.allE l asks s).length ≤ 1000 := by rw [PW.allE_len]; omega
    have hrl : (PW.playR l asks s).length ≤ 1000 := by have := PW.playR_len (l := l) asks s; omega
    have hrw : ∀ i, ((PW.playR l asks s).getD i []).length ≤ 1000 := fun i => by
      by_cases hi : i < (PW.playR l asks s).length
      · rw [List.getD_eq_getElem?_getD, List.getElem?_eq_getElem hi]
        exact Nat.le_trans (PW.playR_rows asks hw _ (List.getElem_mem hi)) (by omega)
      · rw [List.getD_eq_getElem?_getD, List.getElem?_eq_none (by omega)]; exact Nat.zero_le _
    obtain ⟨⟨t, e⟩, hte⟩ : ∃ x, PW.doB l s c arg = x := ⟨_, rfl⟩
    obtain ⟨es, hes⟩ : ∃ x, PW.allE l asks s = x := ⟨_, rfl⟩
    obtain ⟨ta, hta⟩ : ∃ x, PW.allS l asks s = x := ⟨_, rfl⟩
    obtain ⟨rs, hrs⟩ : ∃ x, PW.playR l asks s = x := ⟨_, rfl⟩
    obtain ⟨tp, htp⟩ : ∃ x, PW.playS l asks s = x := ⟨_, rfl⟩
    rw [hes] at hel
    rw [hrs] at hrl hrw
    have ve : vB (e == e) = vB true := by rw [beq_self_eq_true]
    repeat' (first | refine st_w 39 rfl rfl rfl rfl rfl (fun _ => rfl) wl (fun _ => rfl) ?_ | refine st_w 98 rfl rfl rfl rfl rfl (fun _ => rfl) ve (fun _ => rfl) ?_ | refine st_w 94 rfl rfl rfl rfl rfl (fun _ => rfl) (eqS_self t) (fun _ => rfl) ?_ | refine st_w 103 rfl rfl rfl rfl rfl (fun _ => rfl) (eqS_self ta) (fun _ => rfl) ?_ | refine st_w 111 rfl rfl rfl rfl rfl (fun _ => rfl) (eqS_self tp) (fun _ => rfl) ?_ | refine st_v rfl rfl rfl rfl (fun _ => rfl) rfl (fun _ => rfl) ?_ | refine st_skip rfl rfl rfl ?_ | refine st_b rfl rfl rfl rfl (fun _ => rfl) rfl (fun h1 => ?_) (fun h1 => ?_) | refine st_n rfl rfl rfl rfl (fun _ => rfl) rfl (fun _ => rfl) ?_ | refine st_s rfl rfl rfl rfl (fun _ => rfl) rfl (fun _ => rfl) ?_ | refine c_seq ?_ | refine c_region ?_ | refine c_plain rfl ?_ | refine c_drawn rfl (by kernel_rfl) ?_ | refine st_nil ?_ | refine c_norm ?_ | refine c_cret ?_ | refine c_ret ?_ | refine c_true rfl ?_ | refine c_false rfl ?_ | refine c_skip ?_ | refine c_block ?_ | refine c_bnorm ?_ | refine c_bret ?_ | refine c_bexit rfl ?_ | refine c_bpass rfl ?_ | refine c_exit ?_ | refine c_cexit ?_ | refine c_lret ?_ | refine c_lexit ?_ | refine c_scope ?_ | refine c_label ?_ | refine c_snorm ?_ | refine c_sret ?_ | refine c_sexit ?_ | refine st_call rfl rfl rfl rfl rfl rfl rfl (call_v (vB true) rfl ⟨rfl, rfl⟩ rfl rfl rfl (cb_v rfl (fun _ => rfl) ?_)) | refine st_call rfl rfl rfl rfl rfl rfl rfl (call_v (vB few) rfl ⟨l, few, rfl, rfl, hfew⟩ rfl rfl rfl (cb_b rfl (fun h1 => ?_) (fun h1 => ?_))) | refine st_call rfl rfl rfl rfl rfl rfl rfl (call_v (Safe.fDo (t, e)) rfl ⟨l, s, c, arg, hw, rfl, congrArg Safe.fDo hte.symm⟩ rfl rfl rfl (cb_v rfl (fun _ => rfl) ?_)) | refine st_call rfl rfl rfl rfl rfl rfl rfl (call_s (Safe.fAll ta es) rfl ⟨l, s, asks, hw, by omega, rfl, (congr (congrArg Safe.fAll hta) hes).symm⟩ rfl rfl rfl rfl (cb_v rfl (fun _ => rfl) ?_)) | refine st_call rfl rfl rfl rfl rfl rfl rfl (call_s (fRun tp rs) rfl ⟨l, s, asks, hw, by omega, rfl, (congr (congrArg fRun htp) hrs).symm⟩ rfl rfl rfl rfl (cb_v rfl (fun _ => rfl) ?_)) | refine st_call rfl rfl rfl rfl rfl rfl rfl (call_v (vB true) rfl ⟨es, hel, rfl, rfl⟩ rfl rfl rfl (cb_v rfl (fun _ => rfl) ?_)) | refine st_call rfl rfl rfl rfl rfl rfl rfl (call_v (vB true) rfl ⟨rs, ⟨hrl, hrw⟩, rfl, rfl⟩ rfl rfl rfl (cb_v rfl (fun _ => rfl) ?_)) | refine st_pv rfl rfl rfl rfl (fun _ => rfl) (show 0 ≤ (asks.length : Int) by omega) rfl (fun _ => rfl) ?_ | fail)
    all_goals exact ⟨rfl, rfl, rfl, trivial⟩
  · have wl : vB (decide ((asks.length : Int) > 60)) = vB true := by rw [decide_eq_true (by omega)]
    repeat' (first | refine st_w 39 rfl rfl rfl rfl rfl (fun _ => rfl) wl (fun _ => rfl) ?_ | refine st_v rfl rfl rfl rfl (fun _ => rfl) rfl (fun _ => rfl) ?_ | refine st_skip rfl rfl rfl ?_ | refine st_b rfl rfl rfl rfl (fun _ => rfl) rfl (fun h1 => ?_) (fun h1 => ?_) | refine st_n rfl rfl rfl rfl (fun _ => rfl) rfl (fun _ => rfl) ?_ | refine st_s rfl rfl rfl rfl (fun _ => rfl) rfl (fun _ => rfl) ?_ | refine c_seq ?_ | refine c_region ?_ | refine c_plain rfl ?_ | refine c_drawn rfl (by kernel_rfl) ?_ | refine st_nil ?_ | refine c_norm ?_ | refine c_cret ?_ | refine c_ret ?_ | refine c_true rfl ?_ | refine c_false rfl ?_ | refine c_skip ?_ | refine c_block ?_ | refine c_bnorm ?_ | refine c_bret ?_ | refine c_bexit rfl ?_ | refine c_bpass rfl ?_ | refine c_exit ?_ | refine c_cexit ?_ | refine c_lret ?_ | refine c_lexit ?_ | refine c_scope ?_ | refine c_label ?_ | refine c_snorm ?_ | refine c_sret ?_ | refine c_sexit ?_ | refine st_call rfl rfl rfl rfl rfl rfl rfl (call_v (vB true) rfl ⟨rfl, rfl⟩ rfl rfl rfl (cb_v rfl (fun _ => rfl) ?_)) | refine st_call rfl rfl rfl rfl rfl rfl rfl (call_v (vB few) rfl ⟨l, few, rfl, rfl, hfew⟩ rfl rfl rfl (cb_b rfl (fun h1 => ?_) (fun h1 => ?_))) | fail)
    all_goals exact ⟨rfl, rfl, rfl, trivial⟩
end SafeTellsL
theorem SafeTells_calls (A0 : Option Addr) (c0 : Nat) (l0 : List S25) (a0 a1 a2 a3 a4 a5 a6 a7 a8 : Int) (a9 : Bool) (c arg : Int) (A4 : Option Addr) (c4 : Nat) (l4 : List S65) (w : World) (hr0 : k25.C w A0 l0.length l0) (hc0 : l0.length ≤ c0) (hr4 : k65.C w A4 l4.length l4) (hc4 : l4.length ≤ c4) (hG : GlobOk w) (hw : PU.Wf ⟨a0, a1, a2, a3, a4, a5, a6, a7, a8, a9⟩) :
    Calls Tryd.prog 7 #[.slice A0 l0.length c0, .agg #[.int .i64 a0, .int .i64 a1, .int .i64 a2, .int .i64 a3, .int .i64 a4, .int .i64 a5, .int .i64 a6, .int .i64 a7, .int .i64 a8, .bool a9], .int .i64 c, .int .i64 arg, .slice A4 l4.length c4] w fun e w' => e = .returned (.bool true) ∧ Below w.heap.size w w' :=
  law_of SafeTellsL.ok ⟨l0, _, c, arg, l4, hw, rfl, rfl⟩ hG ⟨⟨C_pls hc0 hr0, rfl⟩, val_sg _, ⟨rfl, rfl⟩, ⟨rfl, rfl⟩, ⟨Safe.C_asks hc4 hr4, rfl⟩, trivial⟩
end Go.Proofs.YtpciieagafddcaaDoor.E
