/- A tick of the machine, walked by the engine (own text). -/
import Derived.Test.YtpciieagafddcaaDoorQjEC
namespace Go.Proofs.YtpciieagafddcaaDoor.E
open Go Go.RowKit Go.Proofs Go.Proofs.YtpciieagafddcaaDoorW.PrintWords Go.Proofs.YtpciieagafddcaaDoorW.PrintLast Go.Proofs.YtpciieagafddcaaDoorW.PrintMore Go.Proofs.YtpciieagafddcaaDoor.F
set_option linter.unusedVariables false
set_option linter.unusedSimpArgs false
set_option maxRecDepth 100000
set_option maxHeartbeats 8000000
attribute [local irreducible] acode callR
namespace St
def p0 : FV := .t (.one (.ptr 0 0))
def bxCells (l : List S25) (s : Sg) : List CV := [cPls l, cI s.plan, cI s.stage, cI s.next, cI s.phase, cI s.t, cI s.hold, cI s.held, cI s.ask, cI s.want, .v (.bool s.stop)]
def bx (l : List S25) (s : Sg) : Blk := .var 103 (bxCells l s)
theorem post_bx {hp : HP} {n : Nat} {l : List S25} {t : Sg} {a0 a1 a2 a3 a4 a5 a6 a7 a8 : Int} {a9 : Bool} (h : look hp 0 = some (some (.var 103 [cPls l, .v (.int .i64 a0), .v (.int .i64 a1), .v (.int .i64 a2), .v (.int .i64 a3), .v (.int .i64 a4), .v (.int .i64 a5), .v (.int .i64 a6), .v (.int .i64 a7), .v (.int .i64 a8), .v (.bool a9)]))) (ht : (⟨a0, a1, a2, a3, a4, a5, a6, a7, a8, a9⟩ : Sg) = t) : Posts hp (n + 1) 0 [bx l t] := by subst ht; exact ⟨h, rfl, trivial⟩
def SpBPlan : Spec := .ro fun a p r => ∃ l s, (0 ≤ s.plan ∧ s.plan < (l.length : Int)) ∧ a = [p0] ∧ p = [bx l s] ∧ r = fPl (PlOf l s)
theorem bplan_ok : SpecOk Tryd.prog 107 SpBPlan := by
  refine spec_of_code TYok ΓOk.nil mixed Tryd.func107 rfl ?_
  rintro args pre r post ⟨⟨l, s, hpl, rfl, rfl, rfl⟩, rfl⟩
  refine ⟨rfl, ?_⟩
  repeat' (first | refine st_v rfl rfl rfl rfl (fun _ => rfl) rfl (fun _ => rfl) ?_ | refine st_skip rfl rfl rfl ?_ | refine st_b rfl rfl rfl rfl (fun _ => rfl) rfl (fun h1 => ?_) (fun h1 => ?_) | refine st_n rfl rfl rfl rfl (fun _ => rfl) rfl (fun _ => rfl) ?_ | refine st_s rfl rfl rfl rfl (fun _ => rfl) rfl (fun _ => rfl) ?_ | refine c_seq ?_ | refine c_region ?_ | refine c_plain rfl ?_ | refine c_drawn rfl (by kernel_rfl) ?_ | refine st_nil ?_ | refine c_norm ?_ | refine c_cret ?_ | refine c_ret ?_ | refine c_true rfl ?_ | refine c_false rfl ?_ | refine c_skip ?_ | refine c_block ?_ | refine c_bnorm ?_ | refine c_bret ?_ | refine c_bexit rfl ?_ | refine c_bpass rfl ?_ | refine c_exit ?_ | refine c_cexit ?_ | refine c_lret ?_ | refine c_lexit ?_ | refine c_scope ?_ | refine c_label ?_ | refine c_snorm ?_ | refine c_sret ?_ | refine c_sexit ?_ | refine st_pv rfl rfl rfl rfl (fun _ => rfl) hpl rfl (fun _ => rfl) ?_ | fail)
  exact ⟨ret_cell rfl rfl rfl rfl rfl rfl rfl, rfl, rfl, rfl, rfl, trivial⟩
theorem Γb : ΓOk Tryd.prog (look [(107, SpBPlan), (108, SpNext)]) := (ΓOk.nil.cons next_ok Tryd.func108 (by kernel_rfl)).cons bplan_ok Tryd.func107 (by kernel_rfl)
def SpBox (ph : Int) : Spec := .mem fun a p r q => ∃ l s, PU.May l s ∧ s.phase = ph ∧ a = [p0] ∧ p = [bx l s] ∧ r = .tup [] ∧ q = [bx l (stage_tickB.f l s)]
theorem asked_of {s : Sg} (h : s.stop = true ∨ ¬ s.ask = -1 ∨ ¬ s.want = -1) : PV.asked s = true := by
  unfold PV.asked
  rcases h with h | h | h <;> simp [h]
theorem asked_no {s : Sg} (h0 : s.stop = false) (h1 : s.ask = -1) (h2 : s.want = -1) : PV.asked s = false := by
  unfold PV.asked
  simp [h0, h1, h2]
theorem bgreen_ok : SpecOk Tryd.prog 78 (SpBox 0) := by
  refine spec_of_code TYok Γb mixed Tryd.func78 rfl ?_
  rintro args pre r post ⟨l, s, hM, hp, rfl, rfl, rfl, rfl⟩
  refine ⟨rfl, ?_⟩
  have hpl := hM.plan
  have hst : 0 ≤ s.stage ∧ s.stage < ((PlOf l s).f1.length : Int) := hM.stage
  repeat' (first | refine st_v rfl rfl rfl rfl (fun _ => rfl) rfl (fun _ => rfl) ?_ | refine st_skip rfl rfl rfl ?_ | refine st_b rfl rfl rfl rfl (fun _ => rfl) rfl (fun h1 => ?_) (fun h1 => ?_) | refine st_n rfl rfl rfl rfl (fun _ => rfl) rfl (fun _ => rfl) ?_ | refine st_s rfl rfl rfl rfl (fun _ => rfl) rfl (fun _ => rfl) ?_ | refine c_seq ?_ | refine c_region ?_ | refine c_plain rfl ?_ | refine c_drawn rfl (by kernel_rfl) ?_ | refine st_nil ?_ | refine c_norm ?_ | refine c_cret ?_ | refine c_ret ?_ | refine c_true rfl ?_ | refine c_false rfl ?_ | refine c_skip ?_ | refine c_block ?_ | refine c_bnorm ?_ | refine c_bret ?_ | refine c_bexit rfl ?_ | refine c_bpass rfl ?_ | refine c_exit ?_ | refine c_cexit ?_ | refine c_lret ?_ | refine c_lexit ?_ | refine c_scope ?_ | refine c_label ?_ | refine c_snorm ?_ | refine c_sret ?_ | refine c_sexit ?_ | refine st_call rfl rfl rfl rfl rfl rfl rfl (call_ro [0] [p0] [bx l { s with t := IntKind.i64.wrap (s.t + 1) }] (fPl (PlOf l s)) ⟨l, { s with t := IntKind.i64.wrap (s.t + 1) }, hpl, rfl, rfl, rfl⟩ rfl rfl ⟨rfl, trivial⟩ (cb_v rfl (fun _ => rfl) ?_)) | refine st_call rfl rfl rfl rfl rfl rfl rfl (call_ro [0] [p0] [bx l { s with t := IntKind.i64.wrap (s.t + 1), next := s.ask }] (fPl (PlOf l s)) ⟨l, { s with t := IntKind.i64.wrap (s.t + 1), next := s.ask }, hpl, rfl, rfl, rfl⟩ rfl rfl ⟨rfl, trivial⟩ (cb_v rfl (fun _ => rfl) ?_)) | refine st_call rfl rfl rfl rfl rfl rfl rfl (call_v (fI (Int.tmod (s.stage + 1) ((PlOf l s).f1.length : Int))) rfl ⟨PlOf l s, s.stage, hM.fits, hst, rfl, rfl⟩ rfl rfl rfl (cb_v rfl (fun _ => rfl) ?_)) | refine st_pv rfl rfl rfl rfl (fun _ => rfl) hst rfl (fun _ => rfl) ?_ | fail)
  all_goals refine ⟨rfl, rfl, rfl, post_bx rfl ?_⟩
  all_goals (
    have h0 := hM.t
    have h1 := hM.hold
    have h2 := hM.held
    have h3 := hM.fits.hold
    have e1 : (PU.St l s).f1 = ((PlOf l s).f1.getD s.stage.toNat z87).f1 := rfl
    have e2 : (PU.St l s).f2 = ((PlOf l s).f1.getD s.stage.toNat z87).f2 := rfl
    have W1 : IntKind.i64.wrap (s.t + 1) = s.t + 1 := wr64 (by omega) (by omega)
    have W2 : IntKind.i64.wrap (s.hold - 1) = s.hold - 1 := wr64 (by omega) (by omega)
    have W3 : IntKind.i64.wrap (s.held + 1) = s.held + 1 := wr64 (by omega) (by omega)
    simp only [decide_eq_true_eq, decide_eq_false_iff_not, beq_iff_eq, beq_eq_false_iff_ne, bne_iff_ne, bne_eq_false_iff_eq, ne_eq, Decidable.not_not, ge_iff_le, gt_iff_lt, Int.not_lt, Int.not_le] at *
    first
      | (exfalso; omega)
      | (rw [PV.tick_hold hM hp (by omega)]; simp only [W1, W2, W3]; done)
      | (rw [PV.tick_green_stay hM hp (by omega) (.inl (by omega))]; simp only [W1]; done)
      | (rw [PV.tick_green_stay hM hp (by omega) (.inr ⟨asked_no (by assumption) (by assumption) (by assumption), by omega⟩)]; simp only [W1]; done)
      | (rw [PV.tick_green_end hM hp (by omega) (by omega) (.inl (asked_of (by first | exact .inl (by assumption) | exact .inr (.inl (by assumption)) | exact .inr (.inr (by assumption))))), if_pos (by assumption)])
      | (rw [PV.tick_green_end hM hp (by omega) (by omega) (.inl (asked_of (by first | exact .inl (by assumption) | exact .inr (.inl (by assumption)) | exact .inr (.inr (by assumption))))), if_neg (by assumption)])
      | (rw [PV.tick_green_end hM hp (by omega) (by omega) (.inr (by omega)), if_pos (by assumption)])
      | (rw [PV.tick_green_end hM hp (by omega) (by omega) (.inr (by omega)), if_neg (by assumption)])
      | skip)
  all_goals rfl
theorem bamber_ok : SpecOk Tryd.prog 79 (SpBox 1) := by
  refine spec_of_code TYok Γb mixed Tryd.func79 rfl ?_
  rintro args pre r post ⟨l, s, hM, hp, rfl, rfl, rfl, rfl⟩
  refine ⟨rfl, ?_⟩
  have hpl := hM.plan
  repeat' (first | refine st_v rfl rfl rfl rfl (fun _ => rfl) rfl (fun _ => rfl) ?_ | refine st_skip rfl rfl rfl ?_ | refine st_b rfl rfl rfl rfl (fun _ => rfl) rfl (fun h1 => ?_) (fun h1 => ?_) | refine st_n rfl rfl rfl rfl (fun _ => rfl) rfl (fun _ => rfl) ?_ | refine st_s rfl rfl rfl rfl (fun _ => rfl) rfl (fun _ => rfl) ?_ | refine c_seq ?_ | refine c_region ?_ | refine c_plain rfl ?_ | refine c_drawn rfl (by kernel_rfl) ?_ | refine st_nil ?_ | refine c_norm ?_ | refine c_cret ?_ | refine c_ret ?_ | refine c_true rfl ?_ | refine c_false rfl ?_ | refine c_skip ?_ | refine c_block ?_ | refine c_bnorm ?_ | refine c_bret ?_ | refine c_bexit rfl ?_ | refine c_bpass rfl ?_ | refine c_exit ?_ | refine c_cexit ?_ | refine c_lret ?_ | refine c_lexit ?_ | refine c_scope ?_ | refine c_label ?_ | refine c_snorm ?_ | refine c_sret ?_ | refine c_sexit ?_ | refine st_call rfl rfl rfl rfl rfl rfl rfl (call_ro [0] [p0] [bx l { s with t := IntKind.i64.wrap (s.t + 1) }] (fPl (PlOf l s)) ⟨l, { s with t := IntKind.i64.wrap (s.t + 1) }, hpl, rfl, rfl, rfl⟩ rfl rfl ⟨rfl, trivial⟩ (cb_v rfl (fun _ => rfl) ?_)) | fail)
  all_goals refine ⟨rfl, rfl, rfl, post_bx rfl ?_⟩
  all_goals (
    have h0 := hM.t
    have W1 : IntKind.i64.wrap (s.t + 1) = s.t + 1 := wr64 (by omega) (by omega)
    have e1 : (PU.P l s).f2 = (PlOf l s).f2 := rfl
    simp only [beq_iff_eq, beq_eq_false_iff_ne, ne_eq] at *
    first
      | (rw [PV.tick_amber_end hM hp (by omega)]; done)
      | (rw [PV.tick_amber_stay hM hp (by omega), W1]; done))
theorem bred_ok : SpecOk Tryd.prog 80 (SpBox 2) := by
  refine spec_of_code TYok Γb mixed Tryd.func80 rfl ?_
  rintro args pre r post ⟨l, s, hM, hp, rfl, rfl, rfl, rfl⟩
  refine ⟨rfl, ?_⟩
  have hpl := hM.plan
  repeat' (first | refine st_v rfl rfl rfl rfl (fun _ => rfl) rfl (fun _ => rfl) ?_ | refine st_skip rfl rfl rfl ?_ | refine st_b rfl rfl rfl rfl (fun _ => rfl) rfl (fun h1 => ?_) (fun h1 => ?_) | refine st_n rfl rfl rfl rfl (fun _ => rfl) rfl (fun _ => rfl) ?_ | refine st_s rfl rfl rfl rfl (fun _ => rfl) rfl (fun _ => rfl) ?_ | refine c_seq ?_ | refine c_region ?_ | refine c_plain rfl ?_ | refine c_drawn rfl (by kernel_rfl) ?_ | refine st_nil ?_ | refine c_norm ?_ | refine c_cret ?_ | refine c_ret ?_ | refine c_true rfl ?_ | refine c_false rfl ?_ | refine c_skip ?_ | refine c_block ?_ | refine c_bnorm ?_ | refine c_bret ?_ | refine c_bexit rfl ?_ | refine c_bpass rfl ?_ | refine c_exit ?_ | refine c_cexit ?_ | refine c_lret ?_ | refine c_lexit ?_ | refine c_scope ?_ | refine c_label ?_ | refine c_snorm ?_ | refine c_sret ?_ | refine c_sexit ?_ | refine st_call rfl rfl rfl rfl rfl rfl rfl (call_ro [0] [p0] [bx l s] (fPl (PlOf l s)) ⟨l, s, hpl, rfl, rfl, rfl⟩ rfl rfl ⟨rfl, trivial⟩ (cb_v rfl (fun _ => rfl) ?_)) | fail)
  all_goals refine ⟨rfl, rfl, rfl, post_bx rfl ?_⟩
  all_goals (
    have h0 := hM.t
    have h3 := hM.fits.red
    obtain ⟨-, -, -, -, h4⟩ := hM.other (by omega)
    rw [if_neg (by omega)] at h4
    have e1 : (PU.P l s).f3 = (PlOf l s).f3 := rfl
    have W1 : IntKind.i64.wrap (s.t + 1) = s.t + 1 := wr64 (by omega) (by omega)
    simp only [decide_eq_true_eq, decide_eq_false_iff_not, beq_iff_eq, beq_eq_false_iff_ne, bne_iff_ne, bne_eq_false_iff_eq, ne_eq, Decidable.not_not, ge_iff_le, gt_iff_lt, Int.not_lt, Int.not_le, W1] at *
    by_cases hlt : (PlOf l s).f3 < s.t + 1
    · have hk : (PlOf l s).f3 ≤ s.t := by omega
      simp only [hlt, if_true] at *
      first
        | (exfalso; omega)
        | (rw [PV.tick_red_stop hM hp (by omega) (by assumption)]; simp only [Sg.mk.injEq, true_and, and_true]; omega)
        | (rw [PV.tick_red_want hM hp (by omega) (by assumption) (by assumption)]; done)
        | (rw [PV.tick_red_next hM hp (by omega) (by assumption) (by assumption)]; done)
        | skip
    · have hk : s.t + 1 ≤ (PlOf l s).f3 := by omega
      simp only [hlt, if_false] at *
      first
        | (exfalso; omega)
        | (rw [PV.tick_red_stay hM hp (by omega)]; done)
        | (rw [PV.tick_red_stop hM hp (by omega) (by assumption)]; simp only [Sg.mk.injEq, true_and, and_true]; omega)
        | (rw [PV.tick_red_want hM hp (by omega) (by assumption) (by assumption)]; done)
        | (rw [PV.tick_red_next hM hp (by omega) (by assumption) (by assumption)]; done)
        | skip)
theorem Γt : ΓOk Tryd.prog (look [(40, SpMay), (78, SpBox 0), (79, SpBox 1), (80, SpBox 2)]) :=
  (((ΓOk.nil.cons bred_ok Tryd.func80 (by kernel_rfl)).cons bamber_ok Tryd.func79 (by kernel_rfl)).cons bgreen_ok Tryd.func78 (by kernel_rfl)).cons may_ok Tryd.func40 (by kernel_rfl)
theorem tick_no {l : List S25} {s : Sg} (h : stage_mayB.f l s = false) : stage_tickB.f l s = s := by unfold stage_tickB.f; rw [if_neg (by rw [h]; decide)]
end St
open St
def SpTick : Spec := .pure fun a r => ∃ l s, PU.Wf s ∧ a = [fPls l, fSg s] ∧ r = fSg (stage_tickB.f l s)
theorem tick_ok : SpecOk Tryd.prog 41 SpTick := by
  refine spec_of_code TYok Γt mixed Tryd.func41 rfl ?_
  rintro args pre r post ⟨⟨l, s, hw, rfl, rfl⟩, rfl, rfl⟩
  refine ⟨rfl, ?_⟩
  cases hm : stage_mayB.f l s with
  | false =>
    repeat' (first | refine st_v rfl rfl rfl rfl (fun _ => rfl) rfl (fun _ => rfl) ?_ | refine st_skip rfl rfl rfl ?_ | refine st_b rfl rfl rfl rfl (fun _ => rfl) rfl (fun h1 => ?_) (fun h1 => ?_) | refine st_n rfl rfl rfl rfl (fun _ => rfl) rfl (fun _ => rfl) ?_ | refine st_s rfl rfl rfl rfl (fun _ => rfl) rfl (fun _ => rfl) ?_ | refine c_seq ?_ | refine c_region ?_ | refine c_plain rfl ?_ | refine c_drawn rfl (by kernel_rfl) ?_ | refine st_nil ?_ | refine c_norm ?_ | refine c_cret ?_ | refine c_ret ?_ | refine c_true rfl ?_ | refine c_false rfl ?_ | refine c_skip ?_ | refine c_block ?_ | refine c_bnorm ?_ | refine c_bret ?_ | refine c_bexit rfl ?_ | refine c_bpass rfl ?_ | refine c_exit ?_ | refine c_cexit ?_ | refine c_lret ?_ | refine c_lexit ?_ | refine c_scope ?_ | refine c_label ?_ | refine c_snorm ?_ | refine c_sret ?_ | refine c_sexit ?_ | refine st_call rfl rfl rfl rfl rfl rfl rfl (call_v (vB false) rfl ⟨l, s, rfl, by rw [hm]⟩ rfl rfl rfl (cb_v rfl (fun _ => rfl) ?_)) | fail)
    rw [tick_no hm]
    exact ⟨ret_cell rfl rfl rfl rfl rfl rfl rfl, rfl, rfl, trivial⟩
  | true =>
    have hM := PU.may_of hw hm
    have hph := hM.phase
    rcases (by omega : s.phase = 0 ∨ s.phase = 1 ∨ s.phase = 2) with hp | hp | hp
    all_goals (repeat' (first | refine st_v rfl rfl rfl rfl (fun _ => rfl) rfl (fun _ => rfl) ?_ | refine st_skip rfl rfl rfl ?_ | refine st_b rfl rfl rfl rfl (fun _ => rfl) rfl (fun h1 => ?_) (fun h1 => ?_) | refine st_n rfl rfl rfl rfl (fun _ => rfl) rfl (fun _ => rfl) ?_ | refine st_s rfl rfl rfl rfl (fun _ => rfl) rfl (fun _ => rfl) ?_ | refine c_seq ?_ | refine c_region ?_ | refine c_plain rfl ?_ | refine c_drawn rfl (by kernel_rfl) ?_ | refine st_nil ?_ | refine c_norm ?_ | refine c_cret ?_ | refine c_ret ?_ | refine c_true rfl ?_ | refine c_false rfl ?_ | refine c_skip ?_ | refine c_block ?_ | refine c_bnorm ?_ | refine c_bret ?_ | refine c_bexit rfl ?_ | refine c_bpass rfl ?_ | refine c_exit ?_ | refine c_cexit ?_ | refine c_lret ?_ | refine c_lexit ?_ | refine c_scope ?_ | refine c_label ?_ | refine c_snorm ?_ | refine c_sret ?_ | refine c_sexit ?_ | refine st_call rfl rfl rfl rfl rfl rfl rfl (call_v (vB true) rfl ⟨l, s, rfl, by rw [hm]⟩ rfl rfl rfl (cb_v rfl (fun _ => rfl) ?_)) | refine st_e rfl rfl rfl rfl (fun _ => rfl) 0 hp (by decide) rfl (fun _ => rfl) ?_ | refine st_e rfl rfl rfl rfl (fun _ => rfl) 1 hp (by decide) rfl (fun _ => rfl) ?_ | refine st_e rfl rfl rfl rfl (fun _ => rfl) 2 hp (by decide) rfl (fun _ => rfl) ?_ | refine st_call rfl rfl rfl rfl rfl rfl rfl (call_m [12] [p0] [bx l s] (.tup []) [bx l (stage_tickB.f l s)] ⟨l, s, hM, hp, rfl, rfl, rfl, rfl⟩ rfl rfl ⟨rfl, trivial⟩ rfl (cb_n rfl rfl (fun _ => rfl) ?_)) | fail))
    all_goals exact ⟨ret_cell rfl rfl rfl rfl rfl rfl rfl, rfl, rfl, trivial⟩
end Go.Proofs.YtpciieagafddcaaDoor.E
