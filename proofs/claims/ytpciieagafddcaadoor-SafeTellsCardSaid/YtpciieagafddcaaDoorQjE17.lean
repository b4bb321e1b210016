/- The document's tick, walked by the engine (own text): it is the machine's. -/
import Derived.Test.YtpciieagafddcaaDoorQjERA
namespace Go.Proofs.YtpciieagafddcaaDoor.E
open Go Go.RowKit Go.Proofs Go.Proofs.YtpciieagafddcaaDoorW.PrintWords Go.Proofs.YtpciieagafddcaaDoorW.PrintLast Go.Proofs.YtpciieagafddcaaDoorW.PrintMore Go.Proofs.YtpciieagafddcaaDoor.F
set_option linter.unusedVariables false
set_option linter.unusedSimpArgs false
set_option maxRecDepth 100000
set_option maxHeartbeats 8000000
attribute [local irreducible] acode callR
namespace Ref
theorem sg10_eq {x : FV} {t : Sg} {a0 a1 a2 a3 a4 a5 a6 a7 a8 : Int} {a9 : Bool} (h : x = .t (.agg [.v (.int .i64 a0), .v (.int .i64 a1), .v (.int .i64 a2), .v (.int .i64 a3), .v (.int .i64 a4), .v (.int .i64 a5), .v (.int .i64 a6), .v (.int .i64 a7), .v (.int .i64 a8), .v (.bool a9)])) (ht : (⟨a0, a1, a2, a3, a4, a5, a6, a7, a8, a9⟩ : Sg) = t) : x = fSg t := by
  subst h ht; rfl
theorem asked_of {s : Sg} (h : s.stop = true ∨ ¬ s.ask = -1 ∨ ¬ s.want = -1) : PV.asked s = true := by
  unfold PV.asked
  rcases h with h | h | h <;> simp [h]
theorem asked_no {s : Sg} (h0 : s.stop = false) (h1 : s.ask = -1) (h2 : s.want = -1) : PV.asked s = false := by
  unfold PV.asked
  simp [h0, h1, h2]
def SpGreen : Spec := .pure fun a r => ∃ l s, PU.May l s ∧ s.phase = 0 ∧ a = [fPl (PlOf l s), fSg s] ∧ r = fSg (stage_tickB.f l s)
theorem Γ2 : ΓOk Tryd.prog (look [(119, SpNext)]) := ΓOk.nil.cons next_ok Tryd.func119 (by kernel_rfl)
theorem green_ok : SpecOk Tryd.prog 101 SpGreen := by
  refine spec_of_code TYok Γ2 mixed Tryd.func101 rfl ?_
  rintro args pre r post ⟨⟨l, s, hM, hp, rfl, rfl⟩, rfl, rfl⟩
  refine ⟨rfl, ?_⟩
  have hst := hM.stage
  obtain ⟨k, hk⟩ := Int.eq_ofNat_of_zero_le hst.1
  have hk2 : k < (PlOf l s).f1.length := by
    have : s.stage < ((PlOf l s).f1.length : Int) := hst.2
    omega
  have hpl : 0 ≤ s.stage ∧ s.stage < ((PlOf l s).f1.length : Int) := hst
  repeat' (first | refine st_v rfl rfl rfl rfl (fun _ => rfl) rfl (fun _ => rfl) ?_ | refine st_skip rfl rfl rfl ?_ | refine st_b rfl rfl rfl rfl (fun _ => rfl) rfl (fun h1 => ?_) (fun h1 => ?_) | refine st_n rfl rfl rfl rfl (fun _ => rfl) rfl (fun _ => rfl) ?_ | refine st_s rfl rfl rfl rfl (fun _ => rfl) rfl (fun _ => rfl) ?_ | refine c_seq ?_ | refine c_region ?_ | refine c_plain rfl ?_ | refine c_drawn rfl (by kernel_rfl) ?_ | refine st_nil ?_ | refine c_norm ?_ | refine c_cret ?_ | refine c_ret ?_ | refine c_true rfl ?_ | refine c_false rfl ?_ | refine c_skip ?_ | refine c_block ?_ | refine c_bnorm ?_ | refine c_bret ?_ | refine c_bexit rfl ?_ | refine c_bpass rfl ?_ | refine c_exit ?_ | refine c_cexit ?_ | refine c_lret ?_ | refine c_lexit ?_ | refine c_scope ?_ | refine c_label ?_ | refine c_snorm ?_ | refine c_sret ?_ | refine c_sexit ?_ | refine st_call rfl rfl rfl rfl rfl rfl rfl (call_v (fI (((k + 1) % (PlOf l s).f1.length : Nat) : Int)) rfl ⟨PlOf l s, k, hM.fits, hk2, congrArg (fun x => [fPl (PlOf l s), fI x]) hk, rfl⟩ rfl rfl rfl (cb_v rfl (fun _ => rfl) ?_)) | refine st_pv rfl rfl rfl rfl (fun _ => rfl) hpl rfl (fun _ => rfl) ?_ | fail)
  all_goals refine ⟨ret_cell rfl rfl rfl rfl rfl rfl (sg10_eq rfl ?_), rfl, rfl, trivial⟩
  all_goals (
    have h0 := hM.t
    have h1 := hM.hold
    have h2 := hM.held
    have h3 := hM.fits.hold
    have e1 : (PU.St l s).f1 = ((PlOf l s).f1.getD s.stage.toNat z87).f1 := rfl
    have e2 : (PU.St l s).f2 = ((PlOf l s).f1.getD s.stage.toNat z87).f2 := rfl
    have W1 : IntKind.i64.wrap (s.t + 1) = s.t + 1 := wr64 (by omega) (by omega)
    have W2 : IntKind.i64.wrap (s.hold - 1) = s.hold - 1 := wr64 (by omega) (by omega)
    have W3 : IntKind.i64.wrap (s.held + 1) = s.held + 1 := wr64 (by omega) (by omega)
    have hT : Int.tmod (s.stage + 1) ((PU.P l s).f1.length : Int) = (((k + 1) % (PlOf l s).f1.length : Nat) : Int) := by
      rw [hk]
      show Int.tmod ((k : Int) + 1) ((PlOf l s).f1.length : Int) = _
      rw [show ((k : Int) + 1) = ((k + 1 : Nat) : Int) by omega]
      rfl
    simp only [decide_eq_true_eq, decide_eq_false_iff_not, beq_iff_eq, beq_eq_false_iff_ne, bne_iff_ne, bne_eq_false_iff_eq, ne_eq, Decidable.not_not, ge_iff_le, gt_iff_lt, Int.not_lt, Int.not_le] at *
    first
      | (exfalso; omega)
      | (rw [PV.tick_hold hM hp (by omega)]; simp only [W1, W2, W3]; done)
      | (rw [PV.tick_green_stay hM hp (by omega) (.inl (by omega))]; simp only [W1]; done)
      | (rw [PV.tick_green_stay hM hp (by omega) (.inr ⟨asked_no (by assumption) (by assumption) (by assumption), by omega⟩)]; simp only [W1]; done)
      | (rw [PV.tick_green_end hM hp (by omega) (by omega) (.inl (asked_of (by first | exact .inl (by assumption) | exact .inr (.inl (by assumption)) | exact .inr (.inr (by assumption))))), if_pos (by assumption), hT])
      | (rw [PV.tick_green_end hM hp (by omega) (by omega) (.inl (asked_of (by first | exact .inl (by assumption) | exact .inr (.inl (by assumption)) | exact .inr (.inr (by assumption))))), if_neg (by assumption)])
      | (rw [PV.tick_green_end hM hp (by omega) (by omega) (.inr (by omega)), if_pos (by assumption), hT])
      | (rw [PV.tick_green_end hM hp (by omega) (by omega) (.inr (by omega)), if_neg (by assumption)])
      | skip)
def SpRed : Spec := .pure fun a r => ∃ l s, PU.May l s ∧ s.phase = 2 ∧ a = [fPl (PlOf l s), fSg s] ∧ r = fSg (stage_tickB.f l s)
theorem red_ok : SpecOk Tryd.prog 102 SpRed := by
  refine spec_of_code TYok ΓOk.nil mixed Tryd.func102 rfl ?_
  rintro args pre r post ⟨⟨l, s, hM, hp, rfl, rfl⟩, rfl, rfl⟩
  refine ⟨rfl, ?_⟩
  repeat' (first | refine st_v rfl rfl rfl rfl (fun _ => rfl) rfl (fun _ => rfl) ?_ | refine st_skip rfl rfl rfl ?_ | refine st_b rfl rfl rfl rfl (fun _ => rfl) rfl (fun h1 => ?_) (fun h1 => ?_) | refine st_n rfl rfl rfl rfl (fun _ => rfl) rfl (fun _ => rfl) ?_ | refine st_s rfl rfl rfl rfl (fun _ => rfl) rfl (fun _ => rfl) ?_ | refine c_seq ?_ | refine c_region ?_ | refine c_plain rfl ?_ | refine c_drawn rfl (by kernel_rfl) ?_ | refine st_nil ?_ | refine c_norm ?_ | refine c_cret ?_ | refine c_ret ?_ | refine c_true rfl ?_ | refine c_false rfl ?_ | refine c_skip ?_ | refine c_block ?_ | refine c_bnorm ?_ | refine c_bret ?_ | refine c_bexit rfl ?_ | refine c_bpass rfl ?_ | refine c_exit ?_ | refine c_cexit ?_ | refine c_lret ?_ | refine c_lexit ?_ | refine c_scope ?_ | refine c_label ?_ | refine c_snorm ?_ | refine c_sret ?_ | refine c_sexit ?_ | fail)
  all_goals refine ⟨ret_cell rfl rfl rfl rfl rfl rfl (sg10_eq rfl ?_), rfl, rfl, trivial⟩
  all_goals (
    have h0 := hM.t
    have h3 := hM.fits.red
    obtain ⟨-, -, -, -, h4⟩ := hM.other (by omega)
    rw [if_neg (by omega)] at h4
    have e1 : (PU.P l s).f3 = (PlOf l s).f3 := rfl
    have W1 : IntKind.i64.wrap (s.t + 1) = s.t + 1 := wr64 (by omega) (by omega)
    simp only [decide_eq_true_eq, decide_eq_false_iff_not, beq_iff_eq, beq_eq_false_iff_ne, bne_iff_ne, bne_eq_false_iff_eq, ne_eq, Decidable.not_not, ge_iff_le, gt_iff_lt, Int.not_lt, Int.not_le] at *
    first
      | (exfalso; omega)
      | (rw [PV.tick_red_stay hM hp (by omega)]; simp only [W1]; done)
      | (rw [PV.tick_red_stop hM hp (by omega) (by assumption)]; simp only [W1, Sg.mk.injEq, true_and, and_true]; omega)
      | (rw [PV.tick_red_want hM hp (by omega) (by assumption) (by assumption)]; done)
      | (rw [PV.tick_red_next hM hp (by omega) (by assumption) (by assumption)]; done)
      | skip)
def SpTick : Spec := .pure fun a r => ∃ l s, PU.Wf s ∧ a = [fPls l, fSg s] ∧ r = fSg (stage_tickB.f l s)
theorem Γ3 : ΓOk Tryd.prog (look [(68, SpMay), (101, SpGreen), (102, SpRed)]) :=
  ((ΓOk.nil.cons red_ok Tryd.func102 (by kernel_rfl)).cons green_ok Tryd.func101 (by kernel_rfl)).cons may_ok Tryd.func68 (by kernel_rfl)
theorem tick_no {l : List S25} {s : Sg} (h : stage_mayB.f l s = false) : stage_tickB.f l s = s := by
  unfold stage_tickB.f
  rw [if_neg (by rw [h]; decide)]
theorem tick_ok : SpecOk Tryd.prog 71 SpTick := by
  refine spec_of_code TYok Γ3 mixed Tryd.func71 rfl ?_
  rintro args pre r post ⟨⟨l, s, hw, rfl, rfl⟩, rfl, rfl⟩
  refine ⟨rfl, ?_⟩
  cases hm : stage_mayB.f l s with
  | false =>
    repeat' (first | refine st_v rfl rfl rfl rfl (fun _ => rfl) rfl (fun _ => rfl) ?_ | refine st_skip rfl rfl rfl ?_ | refine st_b rfl rfl rfl rfl (fun _ => rfl) rfl (fun h1 => ?_) (fun h1 => ?_) | refine st_n rfl rfl rfl rfl (fun _ => rfl) rfl (fun _ => rfl) ?_ | refine st_s rfl rfl rfl rfl (fun _ => rfl) rfl (fun _ => rfl) ?_ | refine c_seq ?_ | refine c_region ?_ | refine c_plain rfl ?_ | refine c_drawn rfl (by kernel_rfl) ?_ | refine st_nil ?_ | refine c_norm ?_ | refine c_cret ?_ | refine c_ret ?_ | refine c_true rfl ?_ | refine c_false rfl ?_ | refine c_skip ?_ | refine c_block ?_ | refine c_bnorm ?_ | refine c_bret ?_ | refine c_bexit rfl ?_ | refine c_bpass rfl ?_ | refine c_exit ?_ | refine c_cexit ?_ | refine c_lret ?_ | refine c_lexit ?_ | refine c_scope ?_ | refine c_label ?_ | refine c_snorm ?_ | refine c_sret ?_ | refine c_sexit ?_ | refine st_call rfl rfl rfl rfl rfl rfl rfl (call_v (vB false) rfl ⟨l, s, hw, rfl, by rw [hm]⟩ rfl rfl rfl (cb_v rfl (fun _ => rfl) ?_)) | fail)
    all_goals exact ⟨ret_cell rfl rfl rfl rfl rfl rfl (sg10_eq rfl (tick_no hm).symm), rfl, rfl, trivial⟩
  | true =>
    have hM := PU.may_of hw hm
    have hpl := hM.plan
    repeat' (first | refine st_v rfl rfl rfl rfl (fun _ => rfl) rfl (fun _ => rfl) ?_ | refine st_skip rfl rfl rfl ?_ | refine st_b rfl rfl rfl rfl (fun _ => rfl) rfl (fun h1 => ?_) (fun h1 => ?_) | refine st_n rfl rfl rfl rfl (fun _ => rfl) rfl (fun _ => rfl) ?_ | refine st_s rfl rfl rfl rfl (fun _ => rfl) rfl (fun _ => rfl) ?_ | refine c_seq ?_ | refine c_region ?_ | refine c_plain rfl ?_ | refine c_drawn rfl (by kernel_rfl) ?_ | refine st_nil ?_ | refine c_norm ?_ | refine c_cret ?_ | refine c_ret ?_ | refine c_true rfl ?_ | refine c_false rfl ?_ | refine c_skip ?_ | refine c_block ?_ | refine c_bnorm ?_ | refine c_bret ?_ | refine c_bexit rfl ?_ | refine c_bpass rfl ?_ | refine c_exit ?_ | refine c_cexit ?_ | refine c_lret ?_ | refine c_lexit ?_ | refine c_scope ?_ | refine c_label ?_ | refine c_snorm ?_ | refine c_sret ?_ | refine c_sexit ?_ | refine st_call rfl rfl rfl rfl rfl rfl rfl (call_v (vB true) rfl ⟨l, s, hw, rfl, by rw [hm]⟩ rfl rfl rfl (cb_v rfl (fun _ => rfl) ?_)) | refine st_pv rfl rfl rfl rfl (fun _ => rfl) hpl rfl (fun _ => rfl) ?_ | fail)
    · have hp : s.phase = 0 := by simpa using (by assumption : (s.phase == 0) = true)
      repeat' (first | refine st_v rfl rfl rfl rfl (fun _ => rfl) rfl (fun _ => rfl) ?_ | refine st_skip rfl rfl rfl ?_ | refine st_b rfl rfl rfl rfl (fun _ => rfl) rfl (fun h1 => ?_) (fun h1 => ?_) | refine st_n rfl rfl rfl rfl (fun _ => rfl) rfl (fun _ => rfl) ?_ | refine st_s rfl rfl rfl rfl (fun _ => rfl) rfl (fun _ => rfl) ?_ | refine c_seq ?_ | refine c_region ?_ | refine c_plain rfl ?_ | refine c_drawn rfl (by kernel_rfl) ?_ | refine st_nil ?_ | refine c_norm ?_ | refine c_cret ?_ | refine c_ret ?_ | refine c_true rfl ?_ | refine c_false rfl ?_ | refine c_skip ?_ | refine c_block ?_ | refine c_bnorm ?_ | refine c_bret ?_ | refine c_bexit rfl ?_ | refine c_bpass rfl ?_ | refine c_exit ?_ | refine c_cexit ?_ | refine c_lret ?_ | refine c_lexit ?_ | refine c_scope ?_ | refine c_label ?_ | refine c_snorm ?_ | refine c_sret ?_ | refine c_sexit ?_ | refine st_call rfl rfl rfl rfl rfl rfl rfl (call_v (fSg (stage_tickB.f l s)) rfl ⟨l, s, hM, hp, rfl, rfl⟩ rfl rfl rfl (cb_v rfl (fun _ => rfl) ?_)) | fail)
      all_goals exact ⟨ret_cell rfl rfl rfl rfl rfl rfl (sg10_eq rfl rfl), rfl, rfl, trivial⟩
    · refine ⟨ret_cell rfl rfl rfl rfl rfl rfl (sg10_eq rfl ?_), rfl, rfl, trivial⟩
      have h0 := hM.t
      have W1 : IntKind.i64.wrap (s.t + 1) = s.t + 1 := wr64 (by omega) (by omega)
      have e1 : (PU.P l s).f2 = (PlOf l s).f2 := rfl
      have a1 : s.phase = 1 := by simpa using (by assumption : (s.phase == 1) = true)
      have a2 : IntKind.i64.wrap (s.t + 1) = (PlOf l s).f2 := by simpa using (by assumption : (IntKind.i64.wrap (s.t + 1) == (l.getD s.plan.toNat z25).f2) = true)
      rw [PV.tick_amber_end hM a1 (by omega)]
    · refine ⟨ret_cell rfl rfl rfl rfl rfl rfl (sg10_eq rfl ?_), rfl, rfl, trivial⟩
      have h0 := hM.t
      have W1 : IntKind.i64.wrap (s.t + 1) = s.t + 1 := wr64 (by omega) (by omega)
      have e1 : (PU.P l s).f2 = (PlOf l s).f2 := rfl
      have a1 : s.phase = 1 := by simpa using (by assumption : (s.phase == 1) = true)
      have a2 : ¬ IntKind.i64.wrap (s.t + 1) = (PlOf l s).f2 := by simpa using (by assumption : (IntKind.i64.wrap (s.t + 1) == (l.getD s.plan.toNat z25).f2) = false)
      rw [PV.tick_amber_stay hM a1 (by omega), W1]
    · have hp : s.phase = 2 := by
        have a0 := hM.phase
        have a1 : ¬ s.phase = 0 := by simpa using (by assumption : (s.phase == 0) = false)
        have a2 : ¬ s.phase = 1 := by simpa using (by assumption : (s.phase == 1) = false)
        omega
      repeat' (first | refine st_v rfl rfl rfl rfl (fun _ => rfl) rfl (fun _ => rfl) ?_ | refine st_skip rfl rfl rfl ?_ | refine st_b rfl rfl rfl rfl (fun _ => rfl) rfl (fun h1 => ?_) (fun h1 => ?_) | refine st_n rfl rfl rfl rfl (fun _ => rfl) rfl (fun _ => rfl) ?_ | refine st_s rfl rfl rfl rfl (fun _ => rfl) rfl (fun _ => rfl) ?_ | refine c_seq ?_ | refine c_region ?_ | refine c_plain rfl ?_ | refine c_drawn rfl (by kernel_rfl) ?_ | refine st_nil ?_ | refine c_norm ?_ | refine c_cret ?_ | refine c_ret ?_ | refine c_true rfl ?_ | refine c_false rfl ?_ | refine c_skip ?_ | refine c_block ?_ | refine c_bnorm ?_ | refine c_bret ?_ | refine c_bexit rfl ?_ | refine c_bpass rfl ?_ | refine c_exit ?_ | refine c_cexit ?_ | refine c_lret ?_ | refine c_lexit ?_ | refine c_scope ?_ | refine c_label ?_ | refine c_snorm ?_ | refine c_sret ?_ | refine c_sexit ?_ | refine st_call rfl rfl rfl rfl rfl rfl rfl (call_v (fSg (stage_tickB.f l s)) rfl ⟨l, s, hM, hp, rfl, rfl⟩ rfl rfl rfl (cb_v rfl (fun _ => rfl) ?_)) | fail)
      all_goals exact ⟨ret_cell rfl rfl rfl rfl rfl rfl (sg10_eq rfl rfl), rfl, rfl, trivial⟩
end Ref
end Go.Proofs.YtpciieagafddcaaDoor.E
