/- TraceCut walked by the engine (own text). -/
import Derived.Test.YtpciieagafddcaaDoorQgET10
namespace Go.Proofs.YtpciieagafddcaaDoor.E
open Go Go.RowKit Go.Proofs Go.Proofs.YtpciieagafddcaaDoorW.PrintWords Go.Proofs.YtpciieagafddcaaDoorW.PrintLast Go.Proofs.YtpciieagafddcaaDoorW.PrintMore Go.Proofs.YtpciieagafddcaaDoor.F
set_option linter.unusedVariables false
set_option linter.unusedSimpArgs false
set_option maxRecDepth 100000
set_option maxHeartbeats 8000000
attribute [local irreducible] acode callR
namespace TrTraceCut
open Tr
open St Rw
open PY (longB)
open PX (fitP clashP cell beg leastF leastB nextB soonB groupB groupsB rowB fromB checkB RowOk onB Betw LeastI ClearIs)
theorem Γt : ΓOk Tryd.prog (look [(15, SpAwake23), (16, SpFew14), (17, SpFew23), (25, SpFit), (21, .pure SpCheckX)]) :=
  ((((ΓOk.nil.cons checkX_ok Tryd.func21 (by kernel_rfl)).cons fit_ok Tryd.func25 (by kernel_rfl)).cons few23_ok Tryd.func17 (by kernel_rfl)).cons few14_ok Tryd.func16 (by kernel_rfl)).cons awake23_ok Tryd.func15 (by kernel_rfl)
theorem ok : SpecOk Tryd.prog 4 (.pure fun a r => ∃ p rows k, a = [fPl p, fRows rows, fI k] ∧ r = vB true) := by
  refine spec_of_code TZok Γt mixed Tryd.func4 rfl ?_
  rintro args pre r post ⟨⟨p, rows, k, rfl, rfl⟩, rfl, rfl⟩
  refine ⟨rfl, ?_⟩
  obtain ⟨b1, hb1⟩ : ∃ b, few14 p = b := ⟨_, rfl⟩
  obtain ⟨b2, hb2⟩ : ∃ b, few23 rows = b := ⟨_, rfl⟩
  obtain ⟨b3, hb3⟩ : ∃ b, St.fitB p = b := ⟨_, rfl⟩
  by_cases hg : b1 = true ∧ b2 = true ∧ b3 = true ∧ 0 ≤ k ∧ k ≤ (rows.length : Int)
  case neg =>
    repeat' (first | refine st_v rfl rfl rfl rfl (fun _ => rfl) rfl (fun _ => rfl) ?_ | refine st_skip rfl rfl rfl ?_ | refine st_b rfl rfl rfl rfl (fun _ => rfl) rfl (fun h1 => ?_) (fun h1 => ?_) | refine st_n rfl rfl rfl rfl (fun _ => rfl) rfl (fun _ => rfl) ?_ | refine st_s rfl rfl rfl rfl (fun _ => rfl) rfl (fun _ => rfl) ?_ | refine c_seq ?_ | refine c_region ?_ | refine c_plain rfl ?_ | refine c_drawn rfl (by kernel_rfl) ?_ | refine st_nil ?_ | refine c_norm ?_ | refine c_cret ?_ | refine c_ret ?_ | refine c_true rfl ?_ | refine c_false rfl ?_ | refine c_skip ?_ | refine c_block ?_ | refine c_bnorm ?_ | refine c_bret ?_ | refine c_bexit rfl ?_ | refine c_bpass rfl ?_ | refine c_exit ?_ | refine c_cexit ?_ | refine c_lret ?_ | refine c_lexit ?_ | refine c_scope ?_ | refine c_label ?_ | refine c_snorm ?_ | refine c_sret ?_ | refine c_sexit ?_ | refine st_call rfl rfl rfl rfl rfl rfl rfl (call_v (vB true) rfl ⟨rfl, rfl⟩ rfl rfl rfl (cb_v rfl (fun _ => rfl) ?_)) | refine st_call rfl rfl rfl rfl rfl rfl rfl (call_v (vB b1) rfl ⟨p, rfl, by rw [hb1]⟩ rfl rfl rfl (cb_b rfl (fun h1 => ?_) (fun h1 => ?_))) | refine st_call rfl rfl rfl rfl rfl rfl rfl (call_v (vB b2) rfl ⟨rows, rfl, by rw [hb2]⟩ rfl rfl rfl (cb_b rfl (fun h1 => ?_) (fun h1 => ?_))) | refine st_call rfl rfl rfl rfl rfl rfl rfl (call_v (vB b3) rfl ⟨p, rfl, by rw [hb3]⟩ rfl rfl rfl (cb_b rfl (fun h1 => ?_) (fun h1 => ?_))) | fail)
    all_goals first
      | exact ⟨rfl, rfl, rfl, trivial⟩
      | (refine absurd ⟨by assumption, by assumption, by assumption, ?_⟩ hg
         clear hg hb1 hb2 hb3
         simp only [decide_eq_true_eq, decide_eq_false_iff_not] at *
         omega)
  obtain ⟨rfl, rfl, rfl, hk0, hk1⟩ := hg
  obtain ⟨k, rfl⟩ := Int.eq_ofNat_of_zero_le hk0
  have hfit : fitP p = true := hb3
  have hrl := (few23_of hb2).1
  have hct := PX.check_take (rows := rows) (k := k) hfit (by omega)
  have v1 : vB (decide ((k : Int) < 0)) = vB false := by rw [decide_eq_false (by omega)]
  have v2 : vB (decide ((k : Int) > (rows.length : Int))) = vB false := by rw [decide_eq_false (by omega)]
  obtain ⟨⟨a, b, c⟩, hC⟩ : ∃ x, checkB p rows = x := ⟨_, rfl⟩
  rw [hC] at hct
  by_cases hcut : a = 0 ∨ (k : Int) ≤ b
  · have hT : checkB p (rows.take k) = (0, 0, 0) := hct.trans (if_pos hcut)
    repeat' (first | refine st_w 34 rfl rfl rfl rfl rfl (fun _ => rfl) v1 (fun _ => rfl) ?_ | refine st_w 40 rfl rfl rfl rfl rfl (fun _ => rfl) v2 (fun _ => rfl) ?_ | refine st_v rfl rfl rfl rfl (fun _ => rfl) rfl (fun _ => rfl) ?_ | refine st_skip rfl rfl rfl ?_ | refine st_b rfl rfl rfl rfl (fun _ => rfl) rfl (fun h1 => ?_) (fun h1 => ?_) | refine st_n rfl rfl rfl rfl (fun _ => rfl) rfl (fun _ => rfl) ?_ | refine st_s rfl rfl rfl rfl (fun _ => rfl) rfl (fun _ => rfl) ?_ | refine c_seq ?_ | refine c_region ?_ | refine c_plain rfl ?_ | refine c_drawn rfl (by kernel_rfl) ?_ | refine st_nil ?_ | refine c_norm ?_ | refine c_cret ?_ | refine c_ret ?_ | refine c_true rfl ?_ | refine c_false rfl ?_ | refine c_skip ?_ | refine c_block ?_ | refine c_bnorm ?_ | refine c_bret ?_ | refine c_bexit rfl ?_ | refine c_bpass rfl ?_ | refine c_exit ?_ | refine c_cexit ?_ | refine c_lret ?_ | refine c_lexit ?_ | refine c_scope ?_ | refine c_label ?_ | refine c_snorm ?_ | refine c_sret ?_ | refine c_sexit ?_ | refine st_call rfl rfl rfl rfl rfl rfl rfl (call_v (vB true) rfl ⟨rfl, rfl⟩ rfl rfl rfl (cb_v rfl (fun _ => rfl) ?_)) | refine st_call rfl rfl rfl rfl rfl rfl rfl (call_v (vB true) rfl ⟨p, rfl, by rw [hb1]⟩ rfl rfl rfl (cb_v rfl (fun _ => rfl) ?_)) | refine st_call rfl rfl rfl rfl rfl rfl rfl (call_v (vB true) rfl ⟨rows, rfl, by rw [hb2]⟩ rfl rfl rfl (cb_v rfl (fun _ => rfl) ?_)) | refine st_call rfl rfl rfl rfl rfl rfl rfl (call_v (vB true) rfl ⟨p, rfl, by rw [hb3]⟩ rfl rfl rfl (cb_v rfl (fun _ => rfl) ?_)) | refine st_call rfl rfl rfl rfl rfl rfl rfl (call_v (fFlaw (a, b, c)) rfl ⟨p, rows, _, by omega, wk_self rows, rfl, by rw [hC]⟩ rfl rfl rfl (cb_v rfl (fun _ => rfl) ?_)) | refine st_call rfl rfl rfl rfl rfl rfl rfl (call_v (fFlaw (0, 0, 0)) rfl ⟨p, rows.take k, _, by rw [List.length_take]; omega, wk_take (by omega), rfl, by rw [hT]⟩ rfl rfl rfl (cb_v rfl (fun _ => rfl) ?_)) | refine st_pv rfl rfl rfl rfl (fun _ => rfl) (show 0 ≤ (k : Int) ∧ (k : Int) ≤ (rows.length : Int) by omega) rfl (fun _ => rfl) ?_ | fail)
    all_goals first
      | exact ⟨rfl, rfl, rfl, trivial⟩
      | (exfalso
         have h1 := beq_eq_false_iff_ne.1 (by assumption : (a == 0) = false)
         have h2 := of_decide_eq_false (by assumption : decide (b ≥ (k : Int)) = false)
         omega)
  · have hT : checkB p (rows.take k) = (a, b, c) := hct.trans (if_neg hcut)
    have v3 : vB (a == 0) = vB false := by congr 1; exact beq_eq_false_iff_ne.2 (fun h => hcut (.inl h))
    have v4 : vB (decide (b ≥ (k : Int))) = vB false := by rw [decide_eq_false (fun h => hcut (.inr h))]
    repeat' (first | refine st_w 34 rfl rfl rfl rfl rfl (fun _ => rfl) v1 (fun _ => rfl) ?_ | refine st_w 40 rfl rfl rfl rfl rfl (fun _ => rfl) v2 (fun _ => rfl) ?_ | refine st_w 53 rfl rfl rfl rfl rfl (fun _ => rfl) v3 (fun _ => rfl) ?_ | refine st_w 58 rfl rfl rfl rfl rfl (fun _ => rfl) v4 (fun _ => rfl) ?_ | refine st_w 65 rfl rfl rfl rfl rfl (fun _ => rfl) (eqF_self rfl rfl) (fun _ => rfl) ?_ | refine st_v rfl rfl rfl rfl (fun _ => rfl) rfl (fun _ => rfl) ?_ | refine st_skip rfl rfl rfl ?_ | refine st_b rfl rfl rfl rfl (fun _ => rfl) rfl (fun h1 => ?_) (fun h1 => ?_) | refine st_n rfl rfl rfl rfl (fun _ => rfl) rfl (fun _ => rfl) ?_ | refine st_s rfl rfl rfl rfl (fun _ => rfl) rfl (fun _ => rfl) ?_ | refine c_seq ?_ | refine c_region ?_ | refine c_plain rfl ?_ | refine c_drawn rfl (by kernel_rfl) ?_ | refine st_nil ?_ | refine c_norm ?_ | refine c_cret ?_ | refine c_ret ?_ | refine c_true rfl ?_ | refine c_false rfl ?_ | refine c_skip ?_ | refine c_block ?_ | refine c_bnorm ?_ | refine c_bret ?_ | refine c_bexit rfl ?_ | refine c_bpass rfl ?_ | refine c_exit ?_ | refine c_cexit ?_ | refine c_lret ?_ | refine c_lexit ?_ | refine c_scope ?_ | refine c_label ?_ | refine c_snorm ?_ | refine c_sret ?_ | refine c_sexit ?_ | refine st_call rfl rfl rfl rfl rfl rfl rfl (call_v (vB true) rfl ⟨rfl, rfl⟩ rfl rfl rfl (cb_v rfl (fun _ => rfl) ?_)) | refine st_call rfl rfl rfl rfl rfl rfl rfl (call_v (vB true) rfl ⟨p, rfl, by rw [hb1]⟩ rfl rfl rfl (cb_v rfl (fun _ => rfl) ?_)) | refine st_call rfl rfl rfl rfl rfl rfl rfl (call_v (vB true) rfl ⟨rows, rfl, by rw [hb2]⟩ rfl rfl rfl (cb_v rfl (fun _ => rfl) ?_)) | refine st_call rfl rfl rfl rfl rfl rfl rfl (call_v (vB true) rfl ⟨p, rfl, by rw [hb3]⟩ rfl rfl rfl (cb_v rfl (fun _ => rfl) ?_)) | refine st_call rfl rfl rfl rfl rfl rfl rfl (call_v (fFlaw (a, b, c)) rfl ⟨p, rows, _, by omega, wk_self rows, rfl, by rw [hC]⟩ rfl rfl rfl (cb_v rfl (fun _ => rfl) ?_)) | refine st_call rfl rfl rfl rfl rfl rfl rfl (call_v (fFlaw (a, b, c)) rfl ⟨p, rows.take k, _, by rw [List.length_take]; omega, wk_take (by omega), rfl, by rw [hT]⟩ rfl rfl rfl (cb_v rfl (fun _ => rfl) ?_)) | refine st_pv rfl rfl rfl rfl (fun _ => rfl) (show 0 ≤ (k : Int) ∧ (k : Int) ≤ (rows.length : Int) by omega) rfl (fun _ => rfl) ?_ | fail)
    exact ⟨rfl, rfl, rfl, trivial⟩
end TrTraceCut
theorem TraceCut_calls (A0_0 : Option Addr) (c0_0 : Nat) (l0_0 : List Int) (A0_1 : Option Addr) (c0_1 : Nat) (l0_1 : List S87) (a0_2 a0_3 a0_4 : Int) (A1 : Option Addr) (c1 : Nat) (l1 : List (List Int)) (a2 : Int) (w : World) (hr0_0 : Kd.C (Kd.int .i64) w A0_0 l0_0.length l0_0) (hc0_0 : l0_0.length ≤ c0_0) (hr0_1 : Kd.C k87 w A0_1 l0_1.length l0_1) (hc0_1 : l0_1.length ≤ c0_1) (hr1 : Kd.C (Kd.slice 3 (Kd.int .i64)) w A1 l1.length l1) (hc1 : l1.length ≤ c1) (hG : GlobOk w) :
    Calls Tryd.prog 4 #[.agg #[.slice A0_0 l0_0.length c0_0, .slice A0_1 l0_1.length c0_1, .int .i64 a0_2, .int .i64 a0_3, .int .i64 a0_4], .slice A1 l1.length c1, .int .i64 a2] w fun e w' => e = .returned (.bool true) ∧ Below w.heap.size w w' :=
  law_of TrTraceCut.ok ⟨⟨l0_0, l0_1, a0_2, a0_3, a0_4⟩, l1, a2, rfl, rfl⟩ hG ⟨⟨[_, _, _, _, _], rfl, ⟨C_int old_I hc0_0 hr0_0, rfl⟩, ⟨C_stg old_I hc0_1 hr0_1, rfl⟩, ⟨rfl, rfl⟩, ⟨rfl, rfl⟩, ⟨rfl, rfl⟩, trivial⟩, ⟨Tr.C_rows hc1 hr1, rfl⟩, ⟨rfl, rfl⟩, trivial⟩
end Go.Proofs.YtpciieagafddcaaDoor.E
