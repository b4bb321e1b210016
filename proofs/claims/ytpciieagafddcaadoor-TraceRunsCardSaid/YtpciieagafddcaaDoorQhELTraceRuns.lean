/- TraceRuns walked by the engine (own text). -/
import Derived.Test.YtpciieagafddcaaDoorQhET10
import Derived.Test.YtpciieagafddcaaDoorQhF35
import Derived.Test.YtpciieagafddcaaDoorQhPZ
namespace Go.Proofs.YtpciieagafddcaaDoor.E
open Go Go.RowKit Go.Proofs Go.Proofs.YtpciieagafddcaaDoorW.PrintWords Go.Proofs.YtpciieagafddcaaDoorW.PrintLast Go.Proofs.YtpciieagafddcaaDoorW.PrintMore Go.Proofs.YtpciieagafddcaaDoor.F
set_option linter.unusedVariables false
set_option linter.unusedSimpArgs false
set_option maxRecDepth 100000
set_option maxHeartbeats 8000000
attribute [local irreducible] acode callR
namespace TrTraceRuns
open Tr
open St Rw
open PY (longB)
open PX (fitP clashP cell beg leastF leastB nextB soonB groupB groupsB rowB fromB checkB RowOk onB Betw LeastI ClearIs)
theorem ΓrA : ΓOk Tryd.prog (look [(25, SpFit), (21, .pure SpCheckX), (43, Safe.SpNew), (34, .pure Safe.SpPlayE)]) :=
  (((ΓOk.nil.cons Safe.playE_ok Tryd.func34 (by kernel_rfl)).cons Safe.new_ok Tryd.func43 (by kernel_rfl)).cons checkX_ok Tryd.func21 (by kernel_rfl)).cons fit_ok Tryd.func25 (by kernel_rfl)
theorem Γr : ΓOk Tryd.prog (look [(15, SpAwake23), (16, SpFew14), (25, SpFit), (21, .pure SpCheckX), (43, Safe.SpNew), (34, .pure Safe.SpPlayE)]) :=
  (ΓrA.cons few14_ok Tryd.func16 (by kernel_rfl)).cons awake23_ok Tryd.func15 (by kernel_rfl)
theorem lt_five {i : Nat} (h : i < 5) : i = 0 ∨ i = 1 ∨ i = 2 ∨ i = 3 ∨ i = 4 := by omega
theorem ok : SpecOk Tryd.prog 14 (.pure fun a r => ∃ p asks, a = [fPl p, Safe.fAsks asks] ∧ r = vB true) := by
  refine spec_of_code TZok Γr mixed Tryd.func14 rfl ?_
  rintro args pre r post ⟨⟨p, asks, rfl, rfl⟩, rfl, rfl⟩
  refine ⟨rfl, ?_⟩
  obtain ⟨b1, hb1⟩ : ∃ b, few14 p = b := ⟨_, rfl⟩
  obtain ⟨b3, hb3⟩ : ∃ b, St.fitB p = b := ⟨_, rfl⟩
  by_cases hg : b1 = true ∧ (asks.length : Int) ≤ 80 ∧ b3 = true
  case neg =>
    repeat' (first | refine st_v rfl rfl rfl rfl (fun _ => rfl) rfl (fun _ => rfl) ?_ | refine st_skip rfl rfl rfl ?_ | refine st_b rfl rfl rfl rfl (fun _ => rfl) rfl (fun h1 => ?_) (fun h1 => ?_) | refine st_n rfl rfl rfl rfl (fun _ => rfl) rfl (fun _ => rfl) ?_ | refine st_s rfl rfl rfl rfl (fun _ => rfl) rfl (fun _ => rfl) ?_ | refine c_seq ?_ | refine c_region ?_ | refine c_plain rfl ?_ | refine c_drawn rfl (by kernel_rfl) ?_ | refine st_nil ?_ | refine c_norm ?_ | refine c_cret ?_ | refine c_ret ?_ | refine c_true rfl ?_ | refine c_false rfl ?_ | refine c_skip ?_ | refine c_block ?_ | refine c_bnorm ?_ | refine c_bret ?_ | refine c_bexit rfl ?_ | refine c_bpass rfl ?_ | refine c_exit ?_ | refine c_cexit ?_ | refine c_lret ?_ | refine c_lexit ?_ | refine c_scope ?_ | refine c_label ?_ | refine c_snorm ?_ | refine c_sret ?_ | refine c_sexit ?_ | refine st_call rfl rfl rfl rfl rfl rfl rfl (call_v (vB true) rfl ⟨rfl, rfl⟩ rfl rfl rfl (cb_v rfl (fun _ => rfl) ?_)) | refine st_call rfl rfl rfl rfl rfl rfl rfl (call_v (vB b1) rfl ⟨p, rfl, by rw [hb1]⟩ rfl rfl rfl (cb_b rfl (fun h1 => ?_) (fun h1 => ?_))) | refine st_call rfl rfl rfl rfl rfl rfl rfl (call_v (vB b3) rfl ⟨p, rfl, by rw [hb3]⟩ rfl rfl rfl (cb_b rfl (fun h1 => ?_) (fun h1 => ?_))) | fail)
    all_goals first
      | exact ⟨rfl, rfl, rfl, trivial⟩
      | (refine absurd ⟨by assumption, ?_, by assumption⟩ hg
         have hx := of_decide_eq_false (by assumption : decide ((asks.length : Int) > 80) = false)
         omega)
  obtain ⟨rfl, hlen, rfl⟩ := hg
  have hfit : fitP p = true := hb3
  have hT : checkB p (PW.playR [p] asks Safe.newS) = (0, 0, 0) := PZ.play_check hfit asks
  have hl := PW.playR_len (l := [p]) asks Safe.newS
  have v1 : vB (decide ((asks.length : Int) > 80)) = vB false := by rw [decide_eq_false (by omega)]
  repeat' (first | refine st_w 21 rfl rfl rfl rfl rfl (fun _ => rfl) v1 (fun _ => rfl) ?_ | refine st_w 41 rfl rfl rfl rfl rfl (fun _ => rfl) (eqF_self rfl rfl) (fun _ => rfl) ?_ | refine st_v rfl rfl rfl rfl (fun _ => rfl) rfl (fun _ => rfl) ?_ | refine st_skip rfl rfl rfl ?_ | refine st_b rfl rfl rfl rfl (fun _ => rfl) rfl (fun h1 => ?_) (fun h1 => ?_) | refine st_n rfl rfl rfl rfl (fun _ => rfl) rfl (fun _ => rfl) ?_ | refine st_s rfl rfl rfl rfl (fun _ => rfl) rfl (fun _ => rfl) ?_ | refine c_seq ?_ | refine c_region ?_ | refine c_plain rfl ?_ | refine c_drawn rfl (by kernel_rfl) ?_ | refine st_nil ?_ | refine c_norm ?_ | refine c_cret ?_ | refine c_ret ?_ | refine c_true rfl ?_ | refine c_false rfl ?_ | refine c_skip ?_ | refine c_block ?_ | refine c_bnorm ?_ | refine c_bret ?_ | refine c_bexit rfl ?_ | refine c_bpass rfl ?_ | refine c_exit ?_ | refine c_cexit ?_ | refine c_lret ?_ | refine c_lexit ?_ | refine c_scope ?_ | refine c_label ?_ | refine c_snorm ?_ | refine c_sret ?_ | refine c_sexit ?_ | refine st_call rfl rfl rfl rfl rfl rfl rfl (call_v (vB true) rfl ⟨rfl, rfl⟩ rfl rfl rfl (cb_v rfl (fun _ => rfl) ?_)) | refine st_call rfl rfl rfl rfl rfl rfl rfl (call_v (vB true) rfl ⟨p, rfl, by rw [hb1]⟩ rfl rfl rfl (cb_v rfl (fun _ => rfl) ?_)) | refine st_call rfl rfl rfl rfl rfl rfl rfl (call_v (vB true) rfl ⟨p, rfl, by rw [hb3]⟩ rfl rfl rfl (cb_v rfl (fun _ => rfl) ?_)) | refine st_call rfl rfl rfl rfl rfl rfl rfl (call_v (fSg Safe.newS) rfl ⟨rfl, rfl⟩ rfl rfl rfl (cb_v rfl (fun _ => rfl) ?_)) | refine st_call rfl rfl rfl rfl rfl rfl rfl (call_s (fRun (PW.playS [p] asks Safe.newS) (PW.playR [p] asks Safe.newS)) rfl ⟨[p], Safe.newS, asks, _, _, Safe.wf_new, by omega, fun i j hi hj => ?_, fun i j hi hj => ?_, rfl, rfl⟩ rfl rfl rfl rfl (cb_v rfl (fun _ => rfl) ?_)) | refine st_call rfl rfl rfl rfl rfl rfl rfl (call_v (fFlaw (0, 0, 0)) rfl ⟨p, _, _, by omega, wk_self _, rfl, by rw [hT]⟩ rfl rfl rfl (cb_v rfl (fun _ => rfl) ?_)) | refine st_pv rfl rfl rfl rfl (fun _ => rfl) (show 0 ≤ (asks.length : Int) by omega) rfl (fun _ => rfl) ?_ | fail)
  all_goals first
    | exact ⟨rfl, rfl, rfl, trivial⟩
    | (have hi' : i < 1 := hi
       have hj' : j < 5 := hj
       obtain rfl : i = 0 := by omega
       rcases lt_five hj' with rfl | rfl | rfl | rfl | rfl <;> rfl)
    | rfl
end TrTraceRuns
theorem TraceRuns_calls (A0_0 : Option Addr) (c0_0 : Nat) (l0_0 : List Int) (A0_1 : Option Addr) (c0_1 : Nat) (l0_1 : List S87) (a0_2 a0_3 a0_4 : Int) (A1 : Option Addr) (c1 : Nat) (l1 : List S65) (w : World) (hr0_0 : Kd.C (Kd.int .i64) w A0_0 l0_0.length l0_0) (hc0_0 : l0_0.length ≤ c0_0) (hr0_1 : Kd.C k87 w A0_1 l0_1.length l0_1) (hc0_1 : l0_1.length ≤ c0_1) (hr1 : k65.C w A1 l1.length l1) (hc1 : l1.length ≤ c1) (hG : GlobOk w) :
    Calls Tryd.prog 14 #[.agg #[.slice A0_0 l0_0.length c0_0, .slice A0_1 l0_1.length c0_1, .int .i64 a0_2, .int .i64 a0_3, .int .i64 a0_4], .slice A1 l1.length c1] w fun e w' => e = .returned (.bool true) ∧ Below w.heap.size w w' :=
  law_of TrTraceRuns.ok ⟨⟨l0_0, l0_1, a0_2, a0_3, a0_4⟩, l1, rfl, rfl⟩ hG ⟨⟨[_, _, _, _, _], rfl, ⟨C_int old_I hc0_0 hr0_0, rfl⟩, ⟨C_stg old_I hc0_1 hr0_1, rfl⟩, ⟨rfl, rfl⟩, ⟨rfl, rfl⟩, ⟨rfl, rfl⟩, trivial⟩, ⟨Safe.C_asks hc1 hr1, rfl⟩, trivial⟩
end Go.Proofs.YtpciieagafddcaaDoor.E
