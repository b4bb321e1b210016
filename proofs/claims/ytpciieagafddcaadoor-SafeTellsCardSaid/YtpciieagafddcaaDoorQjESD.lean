/- What may be asked of the machine, walked by the engine (own text): the desk, its methods, and Do. -/
import Derived.Test.YtpciieagafddcaaDoorQjEK
import Derived.Test.YtpciieagafddcaaDoorQjPW
namespace Go.Proofs.YtpciieagafddcaaDoor.E
open Go Go.RowKit Go.Proofs Go.Proofs.YtpciieagafddcaaDoorW.PrintWords Go.Proofs.YtpciieagafddcaaDoorW.PrintLast Go.Proofs.YtpciieagafddcaaDoorW.PrintMore Go.Proofs.YtpciieagafddcaaDoor.F
set_option linter.unusedVariables false
set_option linter.unusedSimpArgs false
set_option maxRecDepth 100000
set_option maxHeartbeats 8000000
attribute [local irreducible] acode callR
namespace Safe
def deskCells (l : List S25) (s : Sg) (arg : Int) : List CV := [cPls l, cI s.plan, cI s.stage, cI s.next, cI s.phase, cI s.t, cI s.hold, cI s.held, cI s.ask, cI s.want, .v (.bool s.stop), cI arg]
def dB (l : List S25) (s : Sg) (arg : Int) : Blk := .var 94 (deskCells l s arg)
def p0 : FV := .t (.one (.ptr 0 0))
def errV (e : Int) : Value := .agg #[.int .i64 e]
def errF (e : Int) : FV := .t (.one (.v (.iface 90 (errV e))))
def SpMust : Spec := .pure fun a r => ∃ e, a = [vB true, fI e] ∧ r = .tup []
theorem must_ok : SpecOk Tryd.prog 61 SpMust := by
  refine spec_of_code TYok ΓOk.nil mixed Tryd.func61 rfl ?_
  rintro args pre r post ⟨⟨e, rfl, rfl⟩, rfl, rfl⟩
  refine ⟨rfl, ?_⟩
  repeat' (first | refine st_v rfl rfl rfl rfl (fun _ => rfl) rfl (fun _ => rfl) ?_ | refine st_skip rfl rfl rfl ?_ | refine st_b rfl rfl rfl rfl (fun _ => rfl) rfl (fun h1 => ?_) (fun h1 => ?_) | refine st_n rfl rfl rfl rfl (fun _ => rfl) rfl (fun _ => rfl) ?_ | refine st_s rfl rfl rfl rfl (fun _ => rfl) rfl (fun _ => rfl) ?_ | refine c_seq ?_ | refine c_region ?_ | refine c_plain rfl ?_ | refine c_drawn rfl (by kernel_rfl) ?_ | refine st_nil ?_ | refine c_norm ?_ | refine c_cret ?_ | refine c_ret ?_ | refine c_true rfl ?_ | refine c_false rfl ?_ | refine c_skip ?_ | refine c_block ?_ | refine c_bnorm ?_ | refine c_bret ?_ | refine c_bexit rfl ?_ | refine c_bpass rfl ?_ | refine c_exit ?_ | refine c_cexit ?_ | refine c_lret ?_ | refine c_lexit ?_ | refine c_scope ?_ | refine c_label ?_ | refine c_snorm ?_ | refine c_sret ?_ | refine c_sexit ?_ | fail)
  exact ⟨rfl, rfl, rfl, trivial⟩
def PnMust : PSpec := fun a p r q => ∃ e, a = [vB false, fI e] ∧ p = [] ∧ q = [] ∧ r = errF e
theorem must_pan : SpecE Tryd.prog panicE 61 (.mem PnMust) := by
  refine spec_of_codeP TYok ΓOk.nil PnOk.nil mixed Tryd.func61 rfl ?_
  rintro args pre r post ⟨e, rfl, rfl, rfl, rfl⟩
  refine ⟨rfl, p_seq ?_⟩
  repeat' (first | refine st_v rfl rfl rfl rfl (fun _ => rfl) rfl (fun _ => rfl) ?_ | refine st_skip rfl rfl rfl ?_ | refine st_b rfl rfl rfl rfl (fun _ => rfl) rfl (fun h1 => ?_) (fun h1 => ?_) | refine st_n rfl rfl rfl rfl (fun _ => rfl) rfl (fun _ => rfl) ?_ | refine st_s rfl rfl rfl rfl (fun _ => rfl) rfl (fun _ => rfl) ?_ | refine c_seq ?_ | refine c_region ?_ | refine c_plain rfl ?_ | refine c_drawn rfl (by kernel_rfl) ?_ | refine st_nil ?_ | refine c_norm ?_ | refine c_cret ?_ | refine c_ret ?_ | refine c_true rfl ?_ | refine c_false rfl ?_ | refine c_skip ?_ | refine c_block ?_ | refine c_bnorm ?_ | refine c_bret ?_ | refine c_bexit rfl ?_ | refine c_bpass rfl ?_ | refine c_exit ?_ | refine c_cexit ?_ | refine c_lret ?_ | refine c_lexit ?_ | refine c_scope ?_ | refine c_label ?_ | refine c_snorm ?_ | refine c_sret ?_ | refine c_sexit ?_ | fail)
  refine p_norm (p_true rfl (p_region rfl rfl rfl ?_))
  repeat' (first | refine st_v rfl rfl rfl rfl (fun _ => rfl) rfl (fun _ => rfl) ?_ | refine st_skip rfl rfl rfl ?_ | refine st_b rfl rfl rfl rfl (fun _ => rfl) rfl (fun h1 => ?_) (fun h1 => ?_) | refine st_n rfl rfl rfl rfl (fun _ => rfl) rfl (fun _ => rfl) ?_ | refine st_s rfl rfl rfl rfl (fun _ => rfl) rfl (fun _ => rfl) ?_ | refine c_seq ?_ | refine c_region ?_ | refine c_plain rfl ?_ | refine c_drawn rfl (by kernel_rfl) ?_ | refine st_nil ?_ | refine c_norm ?_ | refine c_cret ?_ | refine c_ret ?_ | refine c_true rfl ?_ | refine c_false rfl ?_ | refine c_skip ?_ | refine c_block ?_ | refine c_bnorm ?_ | refine c_bret ?_ | refine c_bexit rfl ?_ | refine c_bpass rfl ?_ | refine c_exit ?_ | refine c_cexit ?_ | refine c_lret ?_ | refine c_lexit ?_ | refine c_scope ?_ | refine c_label ?_ | refine c_snorm ?_ | refine c_sret ?_ | refine c_sexit ?_ | fail)
  exact p_plain rfl (p_panic rfl rfl ⟨rfl, rfl, trivial⟩)
theorem ret_b' {b c : Bool} (h : b = c) : some (vB b) = some (vB c) := by rw [h]
def SpIs : Spec := .pure fun a r => ∃ c, a = [fI c] ∧ r = vB (decide (0 ≤ c ∧ c < 8))
theorem is_ok : SpecOk Tryd.prog 74 SpIs := by
  refine spec_of_code TYok ΓOk.nil mixed Tryd.func74 rfl ?_
  rintro args pre r post ⟨⟨c, rfl, rfl⟩, rfl, rfl⟩
  refine ⟨rfl, ?_⟩
  repeat' (first | refine st_v rfl rfl rfl rfl (fun _ => rfl) rfl (fun _ => rfl) ?_ | refine st_skip rfl rfl rfl ?_ | refine st_b rfl rfl rfl rfl (fun _ => rfl) rfl (fun h1 => ?_) (fun h1 => ?_) | refine st_n rfl rfl rfl rfl (fun _ => rfl) rfl (fun _ => rfl) ?_ | refine st_s rfl rfl rfl rfl (fun _ => rfl) rfl (fun _ => rfl) ?_ | refine c_seq ?_ | refine c_region ?_ | refine c_plain rfl ?_ | refine c_drawn rfl (by kernel_rfl) ?_ | refine st_nil ?_ | refine c_norm ?_ | refine c_cret ?_ | refine c_ret ?_ | refine c_true rfl ?_ | refine c_false rfl ?_ | refine c_skip ?_ | refine c_block ?_ | refine c_bnorm ?_ | refine c_bret ?_ | refine c_bexit rfl ?_ | refine c_bpass rfl ?_ | refine c_exit ?_ | refine c_cexit ?_ | refine c_lret ?_ | refine c_lexit ?_ | refine c_scope ?_ | refine c_label ?_ | refine c_snorm ?_ | refine c_sret ?_ | refine c_sexit ?_ | fail)
  all_goals refine ⟨ret_b' ?_, rfl, rfl, trivial⟩
  all_goals (simp only [decide_eq_true_eq, decide_eq_false_iff_not] at *; symm; simp only [decide_eq_true_eq, decide_eq_false_iff_not]; omega)
theorem Γis : ΓOk Tryd.prog (look [(74, SpIs)]) := ΓOk.nil.cons is_ok Tryd.func74 (by kernel_rfl)
def SpTurns : Spec := .pure fun a r => ∃ c, a = [fI c] ∧ r = vB (PW.turnsB c)
theorem turns_ok : SpecOk Tryd.prog 39 SpTurns := by
  refine spec_of_code TYok Γis mixed Tryd.func39 rfl ?_
  rintro args pre r post ⟨⟨c, rfl, rfl⟩, rfl, rfl⟩
  refine ⟨rfl, ?_⟩
  repeat' (first | refine st_v rfl rfl rfl rfl (fun _ => rfl) rfl (fun _ => rfl) ?_ | refine st_skip rfl rfl rfl ?_ | refine st_b rfl rfl rfl rfl (fun _ => rfl) rfl (fun h1 => ?_) (fun h1 => ?_) | refine st_n rfl rfl rfl rfl (fun _ => rfl) rfl (fun _ => rfl) ?_ | refine st_s rfl rfl rfl rfl (fun _ => rfl) rfl (fun _ => rfl) ?_ | refine c_seq ?_ | refine c_region ?_ | refine c_plain rfl ?_ | refine c_drawn rfl (by kernel_rfl) ?_ | refine st_nil ?_ | refine c_norm ?_ | refine c_cret ?_ | refine c_ret ?_ | refine c_true rfl ?_ | refine c_false rfl ?_ | refine c_skip ?_ | refine c_block ?_ | refine c_bnorm ?_ | refine c_bret ?_ | refine c_bexit rfl ?_ | refine c_bpass rfl ?_ | refine c_exit ?_ | refine c_cexit ?_ | refine c_lret ?_ | refine c_lexit ?_ | refine c_scope ?_ | refine c_label ?_ | refine c_snorm ?_ | refine c_sret ?_ | refine c_sexit ?_ | refine st_call rfl rfl rfl rfl rfl rfl rfl (call_v (vB (decide (0 ≤ c ∧ c < 8))) rfl ⟨c, rfl, rfl⟩ rfl rfl rfl (cb_b rfl (fun h1 => ?_) (fun h1 => ?_))) | fail)
  all_goals refine ⟨ret_b' ?_, rfl, rfl, trivial⟩
  all_goals (unfold PW.turnsB; simp only [decide_eq_true_eq, decide_eq_false_iff_not, bne_iff_ne, bne_eq_false_iff_eq, ne_eq, Decidable.not_not] at *; symm; simp only [decide_eq_true_eq, decide_eq_false_iff_not]; omega)
def SpFree : Spec := .ro fun a p r => ∃ l s arg, a = [p0] ∧ p = [dB l s arg] ∧ r = vB (PW.free s)
theorem free_ok : SpecOk Tryd.prog 98 SpFree := by
  refine spec_of_code TYok ΓOk.nil mixed Tryd.func98 rfl ?_
  rintro args pre r post ⟨⟨l, s, arg, rfl, rfl, rfl⟩, rfl⟩
  refine ⟨rfl, ?_⟩
  repeat' (first | refine st_v rfl rfl rfl rfl (fun _ => rfl) rfl (fun _ => rfl) ?_ | refine st_skip rfl rfl rfl ?_ | refine st_b rfl rfl rfl rfl (fun _ => rfl) rfl (fun h1 => ?_) (fun h1 => ?_) | refine st_n rfl rfl rfl rfl (fun _ => rfl) rfl (fun _ => rfl) ?_ | refine st_s rfl rfl rfl rfl (fun _ => rfl) rfl (fun _ => rfl) ?_ | refine c_seq ?_ | refine c_region ?_ | refine c_plain rfl ?_ | refine c_drawn rfl (by kernel_rfl) ?_ | refine st_nil ?_ | refine c_norm ?_ | refine c_cret ?_ | refine c_ret ?_ | refine c_true rfl ?_ | refine c_false rfl ?_ | refine c_skip ?_ | refine c_block ?_ | refine c_bnorm ?_ | refine c_bret ?_ | refine c_bexit rfl ?_ | refine c_bpass rfl ?_ | refine c_exit ?_ | refine c_cexit ?_ | refine c_lret ?_ | refine c_lexit ?_ | refine c_scope ?_ | refine c_label ?_ | refine c_snorm ?_ | refine c_sret ?_ | refine c_sexit ?_ | fail)
  all_goals refine ⟨ret_b' ?_, rfl, rfl, rfl, rfl, trivial⟩
  all_goals (unfold PW.free; simp_all)
def SpPlan : Spec := .ro fun a p r => ∃ l s arg, (0 ≤ s.plan ∧ s.plan < (l.length : Int)) ∧ a = [p0] ∧ p = [dB l s arg] ∧ r = fPl (l.getD s.plan.toNat z25)
theorem plan_ok : SpecOk Tryd.prog 99 SpPlan := by
  refine spec_of_code TYok ΓOk.nil mixed Tryd.func99 rfl ?_
  rintro args pre r post ⟨⟨l, s, arg, hpl, rfl, rfl, rfl⟩, rfl⟩
  refine ⟨rfl, ?_⟩
  repeat' (first | refine st_v rfl rfl rfl rfl (fun _ => rfl) rfl (fun _ => rfl) ?_ | refine st_skip rfl rfl rfl ?_ | refine st_b rfl rfl rfl rfl (fun _ => rfl) rfl (fun h1 => ?_) (fun h1 => ?_) | refine st_n rfl rfl rfl rfl (fun _ => rfl) rfl (fun _ => rfl) ?_ | refine st_s rfl rfl rfl rfl (fun _ => rfl) rfl (fun _ => rfl) ?_ | refine c_seq ?_ | refine c_region ?_ | refine c_plain rfl ?_ | refine c_drawn rfl (by kernel_rfl) ?_ | refine st_nil ?_ | refine c_norm ?_ | refine c_cret ?_ | refine c_ret ?_ | refine c_true rfl ?_ | refine c_false rfl ?_ | refine c_skip ?_ | refine c_block ?_ | refine c_bnorm ?_ | refine c_bret ?_ | refine c_bexit rfl ?_ | refine c_bpass rfl ?_ | refine c_exit ?_ | refine c_cexit ?_ | refine c_lret ?_ | refine c_lexit ?_ | refine c_scope ?_ | refine c_label ?_ | refine c_snorm ?_ | refine c_sret ?_ | refine c_sexit ?_ | refine st_pv rfl rfl rfl rfl (fun _ => rfl) hpl rfl (fun _ => rfl) ?_ | fail)
  exact ⟨ret_cell rfl rfl rfl rfl rfl rfl rfl, rfl, rfl, rfl, rfl, trivial⟩
theorem Γd : ΓOk Tryd.prog (look [(61, SpMust), (98, SpFree), (99, SpPlan)]) :=
  ((ΓOk.nil.cons plan_ok Tryd.func99 (by kernel_rfl)).cons free_ok Tryd.func98 (by kernel_rfl)).cons must_ok Tryd.func61 (by kernel_rfl)
theorem Pnd : PnOk Tryd.prog (look [(61, PnMust)]) := PnOk.nil.cons must_pan Tryd.func61 (by kernel_rfl)
def SpM (c : Int) : Spec := .mem fun a p r q => ∃ l s arg, PU.May l s ∧ a = [p0] ∧ p = [dB l s arg] ∧ (PW.actB l s c arg).2 = 0 ∧ r = .tup [] ∧ q = [dB l (PW.actB l s c arg).1 arg]
def PnM (c : Int) : PSpec := fun a p r q => ∃ l s arg, PU.May l s ∧ a = [p0] ∧ p = [dB l s arg] ∧ (PW.actB l s c arg).2 ≠ 0 ∧ r = errF (PW.actB l s c arg).2 ∧ q = p
theorem post_dB {hp : HP} {n : Nat} {l : List S25} {t : Sg} {a0 a1 a2 a3 a4 a5 a6 a7 a8 arg : Int} {a9 : Bool} (h : look hp 0 = some (some (.var 94 [cPls l, .v (.int .i64 a0), .v (.int .i64 a1), .v (.int .i64 a2), .v (.int .i64 a3), .v (.int .i64 a4), .v (.int .i64 a5), .v (.int .i64 a6), .v (.int .i64 a7), .v (.int .i64 a8), .v (.bool a9), .v (.int .i64 arg)]))) (ht : (⟨a0, a1, a2, a3, a4, a5, a6, a7, a8, a9⟩ : Sg) = t) : Posts hp (n + 1) 0 [dB l t arg] := by subst ht; exact ⟨h, rfl, trivial⟩
theorem pan_dB {hp : HP} {l : List S25} {s : Sg} {arg e e' : Int} {fr : List (Nat × FV)} {n N m : Nat} (he : e = e') (h : look hp 0 = some (some (dB l s arg))) : panK (errF e') [dB l s arg] 1 (errF e) ⟨fr, hp, n, N, m⟩ := by subst he; exact ⟨rfl, rfl, h, rfl, trivial⟩
theorem hold_ok : SpecOk Tryd.prog 62 (SpM 1) := by
  refine spec_of_code TYok Γd mixed Tryd.func62 rfl ?_
  rintro args pre r post ⟨l, s, arg, hM, rfl, rfl, he, rfl, rfl⟩
  refine ⟨rfl, ?_⟩
  have hpl := hM.plan
  have hh := hM.held
  have hx := hM.fits.hold
  have W : IntKind.i64.wrap ((PU.P l s).f4 - s.held) = (PU.P l s).f4 - s.held := St.wr64 (by omega) (by omega)
  rcases PW.act1 (l := l) (s := s) (arg := arg) with ⟨g1, g2, e⟩ | ⟨g1, e⟩ | ⟨g1, g2, e⟩
  rotate_left
  · rw [e] at he; cases he
  · rw [e] at he; cases he
  rw [e]
  clear e he
  repeat' (first | refine st_v rfl rfl rfl rfl (fun _ => rfl) rfl (fun _ => rfl) ?_ | refine st_skip rfl rfl rfl ?_ | refine st_b rfl rfl rfl rfl (fun _ => rfl) rfl (fun h1 => ?_) (fun h1 => ?_) | refine st_n rfl rfl rfl rfl (fun _ => rfl) rfl (fun _ => rfl) ?_ | refine st_s rfl rfl rfl rfl (fun _ => rfl) rfl (fun _ => rfl) ?_ | refine c_seq ?_ | refine c_region ?_ | refine c_plain rfl ?_ | refine c_drawn rfl (by kernel_rfl) ?_ | refine st_nil ?_ | refine c_norm ?_ | refine c_cret ?_ | refine c_ret ?_ | refine c_true rfl ?_ | refine c_false rfl ?_ | refine c_skip ?_ | refine c_block ?_ | refine c_bnorm ?_ | refine c_bret ?_ | refine c_bexit rfl ?_ | refine c_bpass rfl ?_ | refine c_exit ?_ | refine c_cexit ?_ | refine c_lret ?_ | refine c_lexit ?_ | refine c_scope ?_ | refine c_label ?_ | refine c_snorm ?_ | refine c_sret ?_ | refine c_sexit ?_ | refine st_call rfl rfl rfl rfl rfl rfl rfl (call_v (.tup []) rfl ⟨_, rfl, rfl⟩ rfl rfl rfl (cb_v rfl (fun _ => rfl) ?_)) | refine st_call rfl rfl rfl rfl rfl rfl rfl (call_ro [0] [p0] [dB l s arg] (vB (PW.free s)) ⟨l, s, arg, rfl, rfl, rfl⟩ rfl rfl ⟨rfl, trivial⟩ (cb_b rfl (fun h1 => ?_) (fun h1 => ?_))) | refine st_call rfl rfl rfl rfl rfl rfl rfl (call_ro [0] [p0] [dB l s arg] (fPl (PU.P l s)) ⟨l, s, arg, hpl, rfl, rfl, rfl⟩ rfl rfl ⟨rfl, trivial⟩ (cb_v rfl (fun _ => rfl) ?_)) | fail)
  all_goals first
    | exact ⟨rfl, rfl, rfl, post_dB rfl rfl⟩
    | (exfalso
       simp only [decide_eq_true_eq, decide_eq_false_iff_not, beq_iff_eq, beq_eq_false_iff_ne, bne_iff_ne, bne_eq_false_iff_eq, ne_eq, Decidable.not_not, ge_iff_le, gt_iff_lt, Int.not_lt, Int.not_le, not_true, not_false_iff, Bool.not_eq_true, Bool.not_eq_false, Bool.not_eq_eq_eq_not, Bool.not_true, Bool.not_false] at *
       first
         | omega
         | (simp_all; done)
         | (simp_all; omega))
theorem hold_pan : SpecE Tryd.prog panicE 62 (.mem (PnM 1)) := by
  refine spec_of_codeP TYok Γd Pnd mixed Tryd.func62 rfl ?_
  rintro args pre r post ⟨l, s, arg, hM, rfl, rfl, he, rfl, rfl⟩
  refine ⟨rfl, ?_⟩
  have hpl := hM.plan
  have hh := hM.held
  have hx := hM.fits.hold
  have W : IntKind.i64.wrap ((PU.P l s).f4 - s.held) = (PU.P l s).f4 - s.held := St.wr64 (by omega) (by omega)
  rcases PW.act1 (l := l) (s := s) (arg := arg) with ⟨g1, g2, e⟩ | ⟨g1, e⟩ | ⟨g1, g2, e⟩
  · rw [e] at he; exact absurd rfl he
  · rw [e]
    clear e he
    refine p_here (p_region rfl rfl rfl ?_)
    repeat' (first | refine st_v rfl rfl rfl rfl (fun _ => rfl) rfl (fun _ => rfl) ?_ | refine st_skip rfl rfl rfl ?_ | refine st_b rfl rfl rfl rfl (fun _ => rfl) rfl (fun h1 => ?_) (fun h1 => ?_) | refine st_n rfl rfl rfl rfl (fun _ => rfl) rfl (fun _ => rfl) ?_ | refine st_s rfl rfl rfl rfl (fun _ => rfl) rfl (fun _ => rfl) ?_ | refine c_seq ?_ | refine c_region ?_ | refine c_plain rfl ?_ | refine c_drawn rfl (by kernel_rfl) ?_ | refine st_nil ?_ | refine c_norm ?_ | refine c_cret ?_ | refine c_ret ?_ | refine c_true rfl ?_ | refine c_false rfl ?_ | refine c_skip ?_ | refine c_block ?_ | refine c_bnorm ?_ | refine c_bret ?_ | refine c_bexit rfl ?_ | refine c_bpass rfl ?_ | refine c_exit ?_ | refine c_cexit ?_ | refine c_lret ?_ | refine c_lexit ?_ | refine c_scope ?_ | refine c_label ?_ | refine c_snorm ?_ | refine c_sret ?_ | refine c_sexit ?_ | refine st_call rfl rfl rfl rfl rfl rfl rfl (call_v (.tup []) rfl ⟨_, rfl, rfl⟩ rfl rfl rfl (cb_v rfl (fun _ => rfl) ?_)) | refine st_call rfl rfl rfl rfl rfl rfl rfl (call_ro [0] [p0] [dB l s arg] (vB (PW.free s)) ⟨l, s, arg, rfl, rfl, rfl⟩ rfl rfl ⟨rfl, trivial⟩ (cb_b rfl (fun h1 => ?_) (fun h1 => ?_))) | refine st_call rfl rfl rfl rfl rfl rfl rfl (call_ro [0] [p0] [dB l s arg] (fPl (PU.P l s)) ⟨l, s, arg, hpl, rfl, rfl, rfl⟩ rfl rfl ⟨rfl, trivial⟩ (cb_v rfl (fun _ => rfl) ?_)) | fail)
    all_goals first
      | exact p_plain rfl (p_call rfl rfl rfl rfl rfl (call_m [] [vB false, fI 1] [] (errF 1) [] ⟨1, rfl, rfl, rfl, rfl⟩ rfl rfl trivial rfl (pan_dB rfl rfl)))
      | exact p_drawn rfl (by kernel_rfl) (p_call rfl rfl rfl rfl rfl (call_m [] [vB false, fI 1] [] (errF 1) [] ⟨1, rfl, rfl, rfl, rfl⟩ rfl rfl trivial rfl (pan_dB rfl rfl)))
      | (exfalso
         simp only [decide_eq_true_eq, decide_eq_false_iff_not, beq_iff_eq, beq_eq_false_iff_ne, bne_iff_ne, bne_eq_false_iff_eq, ne_eq, Decidable.not_not, ge_iff_le, gt_iff_lt, Int.not_lt, Int.not_le, not_true, not_false_iff, Bool.not_eq_true, Bool.not_eq_false, Bool.not_eq_eq_eq_not, Bool.not_true, Bool.not_false] at *
         first
           | omega
           | (simp_all; done)
           | (simp_all; omega))
  · rw [e]
    clear e he
    refine p_seq ?_
    repeat' (first | refine st_v rfl rfl rfl rfl (fun _ => rfl) rfl (fun _ => rfl) ?_ | refine st_skip rfl rfl rfl ?_ | refine st_b rfl rfl rfl rfl (fun _ => rfl) rfl (fun h1 => ?_) (fun h1 => ?_) | refine st_n rfl rfl rfl rfl (fun _ => rfl) rfl (fun _ => rfl) ?_ | refine st_s rfl rfl rfl rfl (fun _ => rfl) rfl (fun _ => rfl) ?_ | refine c_seq ?_ | refine c_region ?_ | refine c_plain rfl ?_ | refine c_drawn rfl (by kernel_rfl) ?_ | refine st_nil ?_ | refine c_norm ?_ | refine c_cret ?_ | refine c_ret ?_ | refine c_true rfl ?_ | refine c_false rfl ?_ | refine c_skip ?_ | refine c_block ?_ | refine c_bnorm ?_ | refine c_bret ?_ | refine c_bexit rfl ?_ | refine c_bpass rfl ?_ | refine c_exit ?_ | refine c_cexit ?_ | refine c_lret ?_ | refine c_lexit ?_ | refine c_scope ?_ | refine c_label ?_ | refine c_snorm ?_ | refine c_sret ?_ | refine c_sexit ?_ | refine st_call rfl rfl rfl rfl rfl rfl rfl (call_v (.tup []) rfl ⟨_, rfl, rfl⟩ rfl rfl rfl (cb_v rfl (fun _ => rfl) ?_)) | refine st_call rfl rfl rfl rfl rfl rfl rfl (call_ro [0] [p0] [dB l s arg] (vB (PW.free s)) ⟨l, s, arg, rfl, rfl, rfl⟩ rfl rfl ⟨rfl, trivial⟩ (cb_b rfl (fun h1 => ?_) (fun h1 => ?_))) | refine st_call rfl rfl rfl rfl rfl rfl rfl (call_ro [0] [p0] [dB l s arg] (fPl (PU.P l s)) ⟨l, s, arg, hpl, rfl, rfl, rfl⟩ rfl rfl ⟨rfl, trivial⟩ (cb_v rfl (fun _ => rfl) ?_)) | fail)
    all_goals first
      | refine p_norm (p_here (p_region rfl rfl rfl ?_))
      | (exfalso
         simp only [decide_eq_true_eq, decide_eq_false_iff_not, beq_iff_eq, beq_eq_false_iff_ne, bne_iff_ne, bne_eq_false_iff_eq, ne_eq, Decidable.not_not, ge_iff_le, gt_iff_lt, Int.not_lt, Int.not_le, not_true, not_false_iff, Bool.not_eq_true, Bool.not_eq_false, Bool.not_eq_eq_eq_not, Bool.not_true, Bool.not_false] at *
         first
           | omega
           | (simp_all; done)
           | (simp_all; omega))
    all_goals (repeat' (first | refine st_v rfl rfl rfl rfl (fun _ => rfl) rfl (fun _ => rfl) ?_ | refine st_skip rfl rfl rfl ?_ | refine st_b rfl rfl rfl rfl (fun _ => rfl) rfl (fun h1 => ?_) (fun h1 => ?_) | refine st_n rfl rfl rfl rfl (fun _ => rfl) rfl (fun _ => rfl) ?_ | refine st_s rfl rfl rfl rfl (fun _ => rfl) rfl (fun _ => rfl) ?_ | refine c_seq ?_ | refine c_region ?_ | refine c_plain rfl ?_ | refine c_drawn rfl (by kernel_rfl) ?_ | refine st_nil ?_ | refine c_norm ?_ | refine c_cret ?_ | refine c_ret ?_ | refine c_true rfl ?_ | refine c_false rfl ?_ | refine c_skip ?_ | refine c_block ?_ | refine c_bnorm ?_ | refine c_bret ?_ | refine c_bexit rfl ?_ | refine c_bpass rfl ?_ | refine c_exit ?_ | refine c_cexit ?_ | refine c_lret ?_ | refine c_lexit ?_ | refine c_scope ?_ | refine c_label ?_ | refine c_snorm ?_ | refine c_sret ?_ | refine c_sexit ?_ | refine st_call rfl rfl rfl rfl rfl rfl rfl (call_v (.tup []) rfl ⟨_, rfl, rfl⟩ rfl rfl rfl (cb_v rfl (fun _ => rfl) ?_)) | refine st_call rfl rfl rfl rfl rfl rfl rfl (call_ro [0] [p0] [dB l s arg] (vB (PW.free s)) ⟨l, s, arg, rfl, rfl, rfl⟩ rfl rfl ⟨rfl, trivial⟩ (cb_b rfl (fun h1 => ?_) (fun h1 => ?_))) | refine st_call rfl rfl rfl rfl rfl rfl rfl (call_ro [0] [p0] [dB l s arg] (fPl (PU.P l s)) ⟨l, s, arg, hpl, rfl, rfl, rfl⟩ rfl rfl ⟨rfl, trivial⟩ (cb_v rfl (fun _ => rfl) ?_)) | fail))
    all_goals first
      | exact p_plain rfl (p_call rfl rfl rfl rfl rfl (call_m [] [vB false, fI 11] [] (errF 11) [] ⟨11, rfl, rfl, rfl, rfl⟩ rfl rfl trivial rfl (pan_dB rfl rfl)))
      | exact p_drawn rfl (by kernel_rfl) (p_call rfl rfl rfl rfl rfl (call_m [] [vB false, fI 11] [] (errF 11) [] ⟨11, rfl, rfl, rfl, rfl⟩ rfl rfl trivial rfl (pan_dB rfl rfl)))
      | (exfalso
         simp only [decide_eq_true_eq, decide_eq_false_iff_not, beq_iff_eq, beq_eq_false_iff_ne, bne_iff_ne, bne_eq_false_iff_eq, ne_eq, Decidable.not_not, ge_iff_le, gt_iff_lt, Int.not_lt, Int.not_le, not_true, not_false_iff, Bool.not_eq_true, Bool.not_eq_false, Bool.not_eq_eq_eq_not, Bool.not_true, Bool.not_false] at *
         first
           | omega
           | (simp_all; done)
           | (simp_all; omega))
theorem let_ok : SpecOk Tryd.prog 63 (SpM 2) := by
  refine spec_of_code TYok Γd mixed Tryd.func63 rfl ?_
  rintro args pre r post ⟨l, s, arg, hM, rfl, rfl, he, rfl, rfl⟩
  refine ⟨rfl, ?_⟩
  have hpl := hM.plan
  have hh := hM.held
  have hx := hM.fits.hold
  rcases PW.act2 (l := l) (s := s) (arg := arg) with ⟨g1, g2, e⟩ | ⟨g1, e⟩ | ⟨g1, g2, e⟩
  rotate_left
  · rw [e] at he; cases he
  · rw [e] at he; cases he
  rw [e]
  clear e he
  repeat' (first | refine st_v rfl rfl rfl rfl (fun _ => rfl) rfl (fun _ => rfl) ?_ | refine st_skip rfl rfl rfl ?_ | refine st_b rfl rfl rfl rfl (fun _ => rfl) rfl (fun h1 => ?_) (fun h1 => ?_) | refine st_n rfl rfl rfl rfl (fun _ => rfl) rfl (fun _ => rfl) ?_ | refine st_s rfl rfl rfl rfl (fun _ => rfl) rfl (fun _ => rfl) ?_ | refine c_seq ?_ | refine c_region ?_ | refine c_plain rfl ?_ | refine c_drawn rfl (by kernel_rfl) ?_ | refine st_nil ?_ | refine c_norm ?_ | refine c_cret ?_ | refine c_ret ?_ | refine c_true rfl ?_ | refine c_false rfl ?_ | refine c_skip ?_ | refine c_block ?_ | refine c_bnorm ?_ | refine c_bret ?_ | refine c_bexit rfl ?_ | refine c_bpass rfl ?_ | refine c_exit ?_ | refine c_cexit ?_ | refine c_lret ?_ | refine c_lexit ?_ | refine c_scope ?_ | refine c_label ?_ | refine c_snorm ?_ | refine c_sret ?_ | refine c_sexit ?_ | refine st_call rfl rfl rfl rfl rfl rfl rfl (call_v (.tup []) rfl ⟨_, rfl, rfl⟩ rfl rfl rfl (cb_v rfl (fun _ => rfl) ?_)) | refine st_call rfl rfl rfl rfl rfl rfl rfl (call_ro [0] [p0] [dB l s arg] (vB (PW.free s)) ⟨l, s, arg, rfl, rfl, rfl⟩ rfl rfl ⟨rfl, trivial⟩ (cb_b rfl (fun h1 => ?_) (fun h1 => ?_))) | refine st_call rfl rfl rfl rfl rfl rfl rfl (call_ro [0] [p0] [dB l s arg] (fPl (PU.P l s)) ⟨l, s, arg, hpl, rfl, rfl, rfl⟩ rfl rfl ⟨rfl, trivial⟩ (cb_v rfl (fun _ => rfl) ?_)) | fail)
  all_goals first
    | exact ⟨rfl, rfl, rfl, post_dB rfl rfl⟩
    | (exfalso
       simp only [decide_eq_true_eq, decide_eq_false_iff_not, beq_iff_eq, beq_eq_false_iff_ne, bne_iff_ne, bne_eq_false_iff_eq, ne_eq, Decidable.not_not, ge_iff_le, gt_iff_lt, Int.not_lt, Int.not_le, not_true, not_false_iff, Bool.not_eq_true, Bool.not_eq_false, Bool.not_eq_eq_eq_not, Bool.not_true, Bool.not_false] at *
       first
         | omega
         | (simp_all; done)
         | (simp_all; omega))
theorem let_pan : SpecE Tryd.prog panicE 63 (.mem (PnM 2)) := by
  refine spec_of_codeP TYok Γd Pnd mixed Tryd.func63 rfl ?_
  rintro args pre r post ⟨l, s, arg, hM, rfl, rfl, he, rfl, rfl⟩
  refine ⟨rfl, ?_⟩
  have hpl := hM.plan
  have hh := hM.held
  have hx := hM.fits.hold
  rcases PW.act2 (l := l) (s := s) (arg := arg) with ⟨g1, g2, e⟩ | ⟨g1, e⟩ | ⟨g1, g2, e⟩
  · rw [e] at he; exact absurd rfl he
  · rw [e]
    clear e he
    refine p_here (p_region rfl rfl rfl ?_)
    repeat' (first | refine st_v rfl rfl rfl rfl (fun _ => rfl) rfl (fun _ => rfl) ?_ | refine st_skip rfl rfl rfl ?_ | refine st_b rfl rfl rfl rfl (fun _ => rfl) rfl (fun h1 => ?_) (fun h1 => ?_) | refine st_n rfl rfl rfl rfl (fun _ => rfl) rfl (fun _ => rfl) ?_ | refine st_s rfl rfl rfl rfl (fun _ => rfl) rfl (fun _ => rfl) ?_ | refine c_seq ?_ | refine c_region ?_ | refine c_plain rfl ?_ | refine c_drawn rfl (by kernel_rfl) ?_ | refine st_nil ?_ | refine c_norm ?_ | refine c_cret ?_ | refine c_ret ?_ | refine c_true rfl ?_ | refine c_false rfl ?_ | refine c_skip ?_ | refine c_block ?_ | refine c_bnorm ?_ | refine c_bret ?_ | refine c_bexit rfl ?_ | refine c_bpass rfl ?_ | refine c_exit ?_ | refine c_cexit ?_ | refine c_lret ?_ | refine c_lexit ?_ | refine c_scope ?_ | refine c_label ?_ | refine c_snorm ?_ | refine c_sret ?_ | refine c_sexit ?_ | refine st_call rfl rfl rfl rfl rfl rfl rfl (call_v (.tup []) rfl ⟨_, rfl, rfl⟩ rfl rfl rfl (cb_v rfl (fun _ => rfl) ?_)) | refine st_call rfl rfl rfl rfl rfl rfl rfl (call_ro [0] [p0] [dB l s arg] (vB (PW.free s)) ⟨l, s, arg, rfl, rfl, rfl⟩ rfl rfl ⟨rfl, trivial⟩ (cb_b rfl (fun h1 => ?_) (fun h1 => ?_))) | refine st_call rfl rfl rfl rfl rfl rfl rfl (call_ro [0] [p0] [dB l s arg] (fPl (PU.P l s)) ⟨l, s, arg, hpl, rfl, rfl, rfl⟩ rfl rfl ⟨rfl, trivial⟩ (cb_v rfl (fun _ => rfl) ?_)) | fail)
    all_goals first
      | exact p_plain rfl (p_call rfl rfl rfl rfl rfl (call_m [] [vB false, fI 1] [] (errF 1) [] ⟨1, rfl, rfl, rfl, rfl⟩ rfl rfl trivial rfl (pan_dB rfl rfl)))
      | exact p_drawn rfl (by kernel_rfl) (p_call rfl rfl rfl rfl rfl (call_m [] [vB false, fI 1] [] (errF 1) [] ⟨1, rfl, rfl, rfl, rfl⟩ rfl rfl trivial rfl (pan_dB rfl rfl)))
      | (exfalso
         simp only [decide_eq_true_eq, decide_eq_false_iff_not, beq_iff_eq, beq_eq_false_iff_ne, bne_iff_ne, bne_eq_false_iff_eq, ne_eq, Decidable.not_not, ge_iff_le, gt_iff_lt, Int.not_lt, Int.not_le, not_true, not_false_iff, Bool.not_eq_true, Bool.not_eq_false, Bool.not_eq_eq_eq_not, Bool.not_true, Bool.not_false] at *
         first
           | omega
           | (simp_all; done)
           | (simp_all; omega))
  · rw [e]
    clear e he
    refine p_seq ?_
    repeat' (first | refine st_v rfl rfl rfl rfl (fun _ => rfl) rfl (fun _ => rfl) ?_ | refine st_skip rfl rfl rfl ?_ | refine st_b rfl rfl rfl rfl (fun _ => rfl) rfl (fun h1 => ?_) (fun h1 => ?_) | refine st_n rfl rfl rfl rfl (fun _ => rfl) rfl (fun _ => rfl) ?_ | refine st_s rfl rfl rfl rfl (fun _ => rfl) rfl (fun _ => rfl) ?_ | refine c_seq ?_ | refine c_region ?_ | refine c_plain rfl ?_ | refine c_drawn rfl (by kernel_rfl) ?_ | refine st_nil ?_ | refine c_norm ?_ | refine c_cret ?_ | refine c_ret ?_ | refine c_true rfl ?_ | refine c_false rfl ?_ | refine c_skip ?_ | refine c_block ?_ | refine c_bnorm ?_ | refine c_bret ?_ | refine c_bexit rfl ?_ | refine c_bpass rfl ?_ | refine c_exit ?_ | refine c_cexit ?_ | refine c_lret ?_ | refine c_lexit ?_ | refine c_scope ?_ | refine c_label ?_ | refine c_snorm ?_ | refine c_sret ?_ | refine c_sexit ?_ | refine st_call rfl rfl rfl rfl rfl rfl rfl (call_v (.tup []) rfl ⟨_, rfl, rfl⟩ rfl rfl rfl (cb_v rfl (fun _ => rfl) ?_)) | refine st_call rfl rfl rfl rfl rfl rfl rfl (call_ro [0] [p0] [dB l s arg] (vB (PW.free s)) ⟨l, s, arg, rfl, rfl, rfl⟩ rfl rfl ⟨rfl, trivial⟩ (cb_b rfl (fun h1 => ?_) (fun h1 => ?_))) | refine st_call rfl rfl rfl rfl rfl rfl rfl (call_ro [0] [p0] [dB l s arg] (fPl (PU.P l s)) ⟨l, s, arg, hpl, rfl, rfl, rfl⟩ rfl rfl ⟨rfl, trivial⟩ (cb_v rfl (fun _ => rfl) ?_)) | fail)
    all_goals first
      | refine p_norm (p_here (p_region rfl rfl rfl ?_))
      | (exfalso
         simp only [decide_eq_true_eq, decide_eq_false_iff_not, beq_iff_eq, beq_eq_false_iff_ne, bne_iff_ne, bne_eq_false_iff_eq, ne_eq, Decidable.not_not, ge_iff_le, gt_iff_lt, Int.not_lt, Int.not_le, not_true, not_false_iff, Bool.not_eq_true, Bool.not_eq_false, Bool.not_eq_eq_eq_not, Bool.not_true, Bool.not_false] at *
         first
           | omega
           | (simp_all; done)
           | (simp_all; omega))
    all_goals (repeat' (first | refine st_v rfl rfl rfl rfl (fun _ => rfl) rfl (fun _ => rfl) ?_ | refine st_skip rfl rfl rfl ?_ | refine st_b rfl rfl rfl rfl (fun _ => rfl) rfl (fun h1 => ?_) (fun h1 => ?_) | refine st_n rfl rfl rfl rfl (fun _ => rfl) rfl (fun _ => rfl) ?_ | refine st_s rfl rfl rfl rfl (fun _ => rfl) rfl (fun _ => rfl) ?_ | refine c_seq ?_ | refine c_region ?_ | refine c_plain rfl ?_ | refine c_drawn rfl (by kernel_rfl) ?_ | refine st_nil ?_ | refine c_norm ?_ | refine c_cret ?_ | refine c_ret ?_ | refine c_true rfl ?_ | refine c_false rfl ?_ | refine c_skip ?_ | refine c_block ?_ | refine c_bnorm ?_ | refine c_bret ?_ | refine c_bexit rfl ?_ | refine c_bpass rfl ?_ | refine c_exit ?_ | refine c_cexit ?_ | refine c_lret ?_ | refine c_lexit ?_ | refine c_scope ?_ | refine c_label ?_ | refine c_snorm ?_ | refine c_sret ?_ | refine c_sexit ?_ | refine st_call rfl rfl rfl rfl rfl rfl rfl (call_v (.tup []) rfl ⟨_, rfl, rfl⟩ rfl rfl rfl (cb_v rfl (fun _ => rfl) ?_)) | refine st_call rfl rfl rfl rfl rfl rfl rfl (call_ro [0] [p0] [dB l s arg] (vB (PW.free s)) ⟨l, s, arg, rfl, rfl, rfl⟩ rfl rfl ⟨rfl, trivial⟩ (cb_b rfl (fun h1 => ?_) (fun h1 => ?_))) | refine st_call rfl rfl rfl rfl rfl rfl rfl (call_ro [0] [p0] [dB l s arg] (fPl (PU.P l s)) ⟨l, s, arg, hpl, rfl, rfl, rfl⟩ rfl rfl ⟨rfl, trivial⟩ (cb_v rfl (fun _ => rfl) ?_)) | fail))
    all_goals first
      | exact p_plain rfl (p_call rfl rfl rfl rfl rfl (call_m [] [vB false, fI 11] [] (errF 11) [] ⟨11, rfl, rfl, rfl, rfl⟩ rfl rfl trivial rfl (pan_dB rfl rfl)))
      | exact p_drawn rfl (by kernel_rfl) (p_call rfl rfl rfl rfl rfl (call_m [] [vB false, fI 11] [] (errF 11) [] ⟨11, rfl, rfl, rfl, rfl⟩ rfl rfl trivial rfl (pan_dB rfl rfl)))
      | (exfalso
         simp only [decide_eq_true_eq, decide_eq_false_iff_not, beq_iff_eq, beq_eq_false_iff_ne, bne_iff_ne, bne_eq_false_iff_eq, ne_eq, Decidable.not_not, ge_iff_le, gt_iff_lt, Int.not_lt, Int.not_le, not_true, not_false_iff, Bool.not_eq_true, Bool.not_eq_false, Bool.not_eq_eq_eq_not, Bool.not_true, Bool.not_false] at *
         first
           | omega
           | (simp_all; done)
           | (simp_all; omega))
theorem next_ok : SpecOk Tryd.prog 64 (SpM 3) := by
  refine spec_of_code TYok Γd mixed Tryd.func64 rfl ?_
  rintro args pre r post ⟨l, s, arg, hM, rfl, rfl, he, rfl, rfl⟩
  refine ⟨rfl, ?_⟩
  have hpl := hM.plan
  have hh := hM.held
  have hx := hM.fits.hold
  rcases PW.act3 (l := l) (s := s) (arg := arg) with ⟨g1, g2, e⟩ | ⟨g1, e⟩ | ⟨g1, g2, e⟩
  rotate_left
  · rw [e] at he; cases he
  · rw [e] at he; cases he
  rw [e]
  clear e he
  repeat' (first | refine st_v rfl rfl rfl rfl (fun _ => rfl) rfl (fun _ => rfl) ?_ | refine st_skip rfl rfl rfl ?_ | refine st_b rfl rfl rfl rfl (fun _ => rfl) rfl (fun h1 => ?_) (fun h1 => ?_) | refine st_n rfl rfl rfl rfl (fun _ => rfl) rfl (fun _ => rfl) ?_ | refine st_s rfl rfl rfl rfl (fun _ => rfl) rfl (fun _ => rfl) ?_ | refine c_seq ?_ | refine c_region ?_ | refine c_plain rfl ?_ | refine c_drawn rfl (by kernel_rfl) ?_ | refine st_nil ?_ | refine c_norm ?_ | refine c_cret ?_ | refine c_ret ?_ | refine c_true rfl ?_ | refine c_false rfl ?_ | refine c_skip ?_ | refine c_block ?_ | refine c_bnorm ?_ | refine c_bret ?_ | refine c_bexit rfl ?_ | refine c_bpass rfl ?_ | refine c_exit ?_ | refine c_cexit ?_ | refine c_lret ?_ | refine c_lexit ?_ | refine c_scope ?_ | refine c_label ?_ | refine c_snorm ?_ | refine c_sret ?_ | refine c_sexit ?_ | refine st_call rfl rfl rfl rfl rfl rfl rfl (call_v (.tup []) rfl ⟨_, rfl, rfl⟩ rfl rfl rfl (cb_v rfl (fun _ => rfl) ?_)) | refine st_call rfl rfl rfl rfl rfl rfl rfl (call_ro [0] [p0] [dB l s arg] (vB (PW.free s)) ⟨l, s, arg, rfl, rfl, rfl⟩ rfl rfl ⟨rfl, trivial⟩ (cb_b rfl (fun h1 => ?_) (fun h1 => ?_))) | refine st_call rfl rfl rfl rfl rfl rfl rfl (call_ro [0] [p0] [dB l s arg] (fPl (PU.P l s)) ⟨l, s, arg, hpl, rfl, rfl, rfl⟩ rfl rfl ⟨rfl, trivial⟩ (cb_v rfl (fun _ => rfl) ?_)) | fail)
  all_goals first
    | exact ⟨rfl, rfl, rfl, post_dB rfl rfl⟩
    | (exfalso
       simp only [decide_eq_true_eq, decide_eq_false_iff_not, beq_iff_eq, beq_eq_false_iff_ne, bne_iff_ne, bne_eq_false_iff_eq, ne_eq, Decidable.not_not, ge_iff_le, gt_iff_lt, Int.not_lt, Int.not_le, not_true, not_false_iff, Bool.not_eq_true, Bool.not_eq_false, Bool.not_eq_eq_eq_not, Bool.not_true, Bool.not_false] at *
       first
         | omega
         | (simp_all; done)
         | (simp_all; omega))
theorem next_pan : SpecE Tryd.prog panicE 64 (.mem (PnM 3)) := by
  refine spec_of_codeP TYok Γd Pnd mixed Tryd.func64 rfl ?_
  rintro args pre r post ⟨l, s, arg, hM, rfl, rfl, he, rfl, rfl⟩
  refine ⟨rfl, ?_⟩
  have hpl := hM.plan
  have hh := hM.held
  have hx := hM.fits.hold
  rcases PW.act3 (l := l) (s := s) (arg := arg) with ⟨g1, g2, e⟩ | ⟨g1, e⟩ | ⟨g1, g2, e⟩
  · rw [e] at he; exact absurd rfl he
  · rw [e]
    clear e he
    refine p_here (p_region rfl rfl rfl ?_)
    repeat' (first | refine st_v rfl rfl rfl rfl (fun _ => rfl) rfl (fun _ => rfl) ?_ | refine st_skip rfl rfl rfl ?_ | refine st_b rfl rfl rfl rfl (fun _ => rfl) rfl (fun h1 => ?_) (fun h1 => ?_) | refine st_n rfl rfl rfl rfl (fun _ => rfl) rfl (fun _ => rfl) ?_ | refine st_s rfl rfl rfl rfl (fun _ => rfl) rfl (fun _ => rfl) ?_ | refine c_seq ?_ | refine c_region ?_ | refine c_plain rfl ?_ | refine c_drawn rfl (by kernel_rfl) ?_ | refine st_nil ?_ | refine c_norm ?_ | refine c_cret ?_ | refine c_ret ?_ | refine c_true rfl ?_ | refine c_false rfl ?_ | refine c_skip ?_ | refine c_block ?_ | refine c_bnorm ?_ | refine c_bret ?_ | refine c_bexit rfl ?_ | refine c_bpass rfl ?_ | refine c_exit ?_ | refine c_cexit ?_ | refine c_lret ?_ | refine c_lexit ?_ | refine c_scope ?_ | refine c_label ?_ | refine c_snorm ?_ | refine c_sret ?_ | refine c_sexit ?_ | refine st_call rfl rfl rfl rfl rfl rfl rfl (call_v (.tup []) rfl ⟨_, rfl, rfl⟩ rfl rfl rfl (cb_v rfl (fun _ => rfl) ?_)) | refine st_call rfl rfl rfl rfl rfl rfl rfl (call_ro [0] [p0] [dB l s arg] (vB (PW.free s)) ⟨l, s, arg, rfl, rfl, rfl⟩ rfl rfl ⟨rfl, trivial⟩ (cb_b rfl (fun h1 => ?_) (fun h1 => ?_))) | refine st_call rfl rfl rfl rfl rfl rfl rfl (call_ro [0] [p0] [dB l s arg] (fPl (PU.P l s)) ⟨l, s, arg, hpl, rfl, rfl, rfl⟩ rfl rfl ⟨rfl, trivial⟩ (cb_v rfl (fun _ => rfl) ?_)) | fail)
    all_goals first
      | exact p_plain rfl (p_call rfl rfl rfl rfl rfl (call_m [] [vB false, fI 1] [] (errF 1) [] ⟨1, rfl, rfl, rfl, rfl⟩ rfl rfl trivial rfl (pan_dB rfl rfl)))
      | exact p_drawn rfl (by kernel_rfl) (p_call rfl rfl rfl rfl rfl (call_m [] [vB false, fI 1] [] (errF 1) [] ⟨1, rfl, rfl, rfl, rfl⟩ rfl rfl trivial rfl (pan_dB rfl rfl)))
      | (exfalso
         simp only [decide_eq_true_eq, decide_eq_false_iff_not, beq_iff_eq, beq_eq_false_iff_ne, bne_iff_ne, bne_eq_false_iff_eq, ne_eq, Decidable.not_not, ge_iff_le, gt_iff_lt, Int.not_lt, Int.not_le, not_true, not_false_iff, Bool.not_eq_true, Bool.not_eq_false, Bool.not_eq_eq_eq_not, Bool.not_true, Bool.not_false] at *
         first
           | omega
           | (simp_all; done)
           | (simp_all; omega))
  · rw [e]
    clear e he
    refine p_seq ?_
    repeat' (first | refine st_v rfl rfl rfl rfl (fun _ => rfl) rfl (fun _ => rfl) ?_ | refine st_skip rfl rfl rfl ?_ | refine st_b rfl rfl rfl rfl (fun _ => rfl) rfl (fun h1 => ?_) (fun h1 => ?_) | refine st_n rfl rfl rfl rfl (fun _ => rfl) rfl (fun _ => rfl) ?_ | refine st_s rfl rfl rfl rfl (fun _ => rfl) rfl (fun _ => rfl) ?_ | refine c_seq ?_ | refine c_region ?_ | refine c_plain rfl ?_ | refine c_drawn rfl (by kernel_rfl) ?_ | refine st_nil ?_ | refine c_norm ?_ | refine c_cret ?_ | refine c_ret ?_ | refine c_true rfl ?_ | refine c_false rfl ?_ | refine c_skip ?_ | refine c_block ?_ | refine c_bnorm ?_ | refine c_bret ?_ | refine c_bexit rfl ?_ | refine c_bpass rfl ?_ | refine c_exit ?_ | refine c_cexit ?_ | refine c_lret ?_ | refine c_lexit ?_ | refine c_scope ?_ | refine c_label ?_ | refine c_snorm ?_ | refine c_sret ?_ | refine c_sexit ?_ | refine st_call rfl rfl rfl rfl rfl rfl rfl (call_v (.tup []) rfl ⟨_, rfl, rfl⟩ rfl rfl rfl (cb_v rfl (fun _ => rfl) ?_)) | refine st_call rfl rfl rfl rfl rfl rfl rfl (call_ro [0] [p0] [dB l s arg] (vB (PW.free s)) ⟨l, s, arg, rfl, rfl, rfl⟩ rfl rfl ⟨rfl, trivial⟩ (cb_b rfl (fun h1 => ?_) (fun h1 => ?_))) | refine st_call rfl rfl rfl rfl rfl rfl rfl (call_ro [0] [p0] [dB l s arg] (fPl (PU.P l s)) ⟨l, s, arg, hpl, rfl, rfl, rfl⟩ rfl rfl ⟨rfl, trivial⟩ (cb_v rfl (fun _ => rfl) ?_)) | fail)
    all_goals first
      | refine p_norm (p_here (p_region rfl rfl rfl ?_))
      | (exfalso
         simp only [decide_eq_true_eq, decide_eq_false_iff_not, beq_iff_eq, beq_eq_false_iff_ne, bne_iff_ne, bne_eq_false_iff_eq, ne_eq, Decidable.not_not, ge_iff_le, gt_iff_lt, Int.not_lt, Int.not_le, not_true, not_false_iff, Bool.not_eq_true, Bool.not_eq_false, Bool.not_eq_eq_eq_not, Bool.not_true, Bool.not_false] at *
         first
           | omega
           | (simp_all; done)
           | (simp_all; omega))
    all_goals (repeat' (first | refine st_v rfl rfl rfl rfl (fun _ => rfl) rfl (fun _ => rfl) ?_ | refine st_skip rfl rfl rfl ?_ | refine st_b rfl rfl rfl rfl (fun _ => rfl) rfl (fun h1 => ?_) (fun h1 => ?_) | refine st_n rfl rfl rfl rfl (fun _ => rfl) rfl (fun _ => rfl) ?_ | refine st_s rfl rfl rfl rfl (fun _ => rfl) rfl (fun _ => rfl) ?_ | refine c_seq ?_ | refine c_region ?_ | refine c_plain rfl ?_ | refine c_drawn rfl (by kernel_rfl) ?_ | refine st_nil ?_ | refine c_norm ?_ | refine c_cret ?_ | refine c_ret ?_ | refine c_true rfl ?_ | refine c_false rfl ?_ | refine c_skip ?_ | refine c_block ?_ | refine c_bnorm ?_ | refine c_bret ?_ | refine c_bexit rfl ?_ | refine c_bpass rfl ?_ | refine c_exit ?_ | refine c_cexit ?_ | refine c_lret ?_ | refine c_lexit ?_ | refine c_scope ?_ | refine c_label ?_ | refine c_snorm ?_ | refine c_sret ?_ | refine c_sexit ?_ | refine st_call rfl rfl rfl rfl rfl rfl rfl (call_v (.tup []) rfl ⟨_, rfl, rfl⟩ rfl rfl rfl (cb_v rfl (fun _ => rfl) ?_)) | refine st_call rfl rfl rfl rfl rfl rfl rfl (call_ro [0] [p0] [dB l s arg] (vB (PW.free s)) ⟨l, s, arg, rfl, rfl, rfl⟩ rfl rfl ⟨rfl, trivial⟩ (cb_b rfl (fun h1 => ?_) (fun h1 => ?_))) | refine st_call rfl rfl rfl rfl rfl rfl rfl (call_ro [0] [p0] [dB l s arg] (fPl (PU.P l s)) ⟨l, s, arg, hpl, rfl, rfl, rfl⟩ rfl rfl ⟨rfl, trivial⟩ (cb_v rfl (fun _ => rfl) ?_)) | fail))
    all_goals first
      | exact p_plain rfl (p_call rfl rfl rfl rfl rfl (call_m [] [vB false, fI 11] [] (errF 11) [] ⟨11, rfl, rfl, rfl, rfl⟩ rfl rfl trivial rfl (pan_dB rfl rfl)))
      | exact p_drawn rfl (by kernel_rfl) (p_call rfl rfl rfl rfl rfl (call_m [] [vB false, fI 11] [] (errF 11) [] ⟨11, rfl, rfl, rfl, rfl⟩ rfl rfl trivial rfl (pan_dB rfl rfl)))
      | (exfalso
         simp only [decide_eq_true_eq, decide_eq_false_iff_not, beq_iff_eq, beq_eq_false_iff_ne, bne_iff_ne, bne_eq_false_iff_eq, ne_eq, Decidable.not_not, ge_iff_le, gt_iff_lt, Int.not_lt, Int.not_le, not_true, not_false_iff, Bool.not_eq_true, Bool.not_eq_false, Bool.not_eq_eq_eq_not, Bool.not_true, Bool.not_false] at *
         first
           | omega
           | (simp_all; done)
           | (simp_all; omega))
theorem want_ok : SpecOk Tryd.prog 65 (SpM 4) := by
  refine spec_of_code TYok Γd mixed Tryd.func65 rfl ?_
  rintro args pre r post ⟨l, s, arg, hM, rfl, rfl, he, rfl, rfl⟩
  refine ⟨rfl, ?_⟩
  have hpl := hM.plan
  have hh := hM.held
  have hx := hM.fits.hold
  rcases PW.act4 (l := l) (s := s) (arg := arg) with ⟨g1, g2, e⟩ | ⟨g1, e⟩ | ⟨g1, g2, e⟩
  rotate_left
  · rw [e] at he; cases he
  · rw [e] at he; cases he
  rw [e]
  clear e he
  repeat' (first | refine st_v rfl rfl rfl rfl (fun _ => rfl) rfl (fun _ => rfl) ?_ | refine st_skip rfl rfl rfl ?_ | refine st_b rfl rfl rfl rfl (fun _ => rfl) rfl (fun h1 => ?_) (fun h1 => ?_) | refine st_n rfl rfl rfl rfl (fun _ => rfl) rfl (fun _ => rfl) ?_ | refine st_s rfl rfl rfl rfl (fun _ => rfl) rfl (fun _ => rfl) ?_ | refine c_seq ?_ | refine c_region ?_ | refine c_plain rfl ?_ | refine c_drawn rfl (by kernel_rfl) ?_ | refine st_nil ?_ | refine c_norm ?_ | refine c_cret ?_ | refine c_ret ?_ | refine c_true rfl ?_ | refine c_false rfl ?_ | refine c_skip ?_ | refine c_block ?_ | refine c_bnorm ?_ | refine c_bret ?_ | refine c_bexit rfl ?_ | refine c_bpass rfl ?_ | refine c_exit ?_ | refine c_cexit ?_ | refine c_lret ?_ | refine c_lexit ?_ | refine c_scope ?_ | refine c_label ?_ | refine c_snorm ?_ | refine c_sret ?_ | refine c_sexit ?_ | refine st_call rfl rfl rfl rfl rfl rfl rfl (call_v (.tup []) rfl ⟨_, rfl, rfl⟩ rfl rfl rfl (cb_v rfl (fun _ => rfl) ?_)) | refine st_call rfl rfl rfl rfl rfl rfl rfl (call_ro [0] [p0] [dB l s arg] (vB (PW.free s)) ⟨l, s, arg, rfl, rfl, rfl⟩ rfl rfl ⟨rfl, trivial⟩ (cb_b rfl (fun h1 => ?_) (fun h1 => ?_))) | refine st_call rfl rfl rfl rfl rfl rfl rfl (call_ro [0] [p0] [dB l s arg] (fPl (PU.P l s)) ⟨l, s, arg, hpl, rfl, rfl, rfl⟩ rfl rfl ⟨rfl, trivial⟩ (cb_v rfl (fun _ => rfl) ?_)) | fail)
  all_goals first
    | exact ⟨rfl, rfl, rfl, post_dB rfl rfl⟩
    | (exfalso
       simp only [decide_eq_true_eq, decide_eq_false_iff_not, beq_iff_eq, beq_eq_false_iff_ne, bne_iff_ne, bne_eq_false_iff_eq, ne_eq, Decidable.not_not, ge_iff_le, gt_iff_lt, Int.not_lt, Int.not_le, not_true, not_false_iff, Bool.not_eq_true, Bool.not_eq_false, Bool.not_eq_eq_eq_not, Bool.not_true, Bool.not_false] at *
       first
         | omega
         | (simp_all; done)
         | (simp_all; omega))
theorem want_pan : SpecE Tryd.prog panicE 65 (.mem (PnM 4)) := by
  refine spec_of_codeP TYok Γd Pnd mixed Tryd.func65 rfl ?_
  rintro args pre r post ⟨l, s, arg, hM, rfl, rfl, he, rfl, rfl⟩
  refine ⟨rfl, ?_⟩
  have hpl := hM.plan
  have hh := hM.held
  have hx := hM.fits.hold
  rcases PW.act4 (l := l) (s := s) (arg := arg) with ⟨g1, g2, e⟩ | ⟨g1, e⟩ | ⟨g1, g2, e⟩
  · rw [e] at he; exact absurd rfl he
  · rw [e]
    clear e he
    refine p_here (p_region rfl rfl rfl ?_)
    repeat' (first | refine st_v rfl rfl rfl rfl (fun _ => rfl) rfl (fun _ => rfl) ?_ | refine st_skip rfl rfl rfl ?_ | refine st_b rfl rfl rfl rfl (fun _ => rfl) rfl (fun h1 => ?_) (fun h1 => ?_) | refine st_n rfl rfl rfl rfl (fun _ => rfl) rfl (fun _ => rfl) ?_ | refine st_s rfl rfl rfl rfl (fun _ => rfl) rfl (fun _ => rfl) ?_ | refine c_seq ?_ | refine c_region ?_ | refine c_plain rfl ?_ | refine c_drawn rfl (by kernel_rfl) ?_ | refine st_nil ?_ | refine c_norm ?_ | refine c_cret ?_ | refine c_ret ?_ | refine c_true rfl ?_ | refine c_false rfl ?_ | refine c_skip ?_ | refine c_block ?_ | refine c_bnorm ?_ | refine c_bret ?_ | refine c_bexit rfl ?_ | refine c_bpass rfl ?_ | refine c_exit ?_ | refine c_cexit ?_ | refine c_lret ?_ | refine c_lexit ?_ | refine c_scope ?_ | refine c_label ?_ | refine c_snorm ?_ | refine c_sret ?_ | refine c_sexit ?_ | refine st_call rfl rfl rfl rfl rfl rfl rfl (call_v (.tup []) rfl ⟨_, rfl, rfl⟩ rfl rfl rfl (cb_v rfl (fun _ => rfl) ?_)) | refine st_call rfl rfl rfl rfl rfl rfl rfl (call_ro [0] [p0] [dB l s arg] (vB (PW.free s)) ⟨l, s, arg, rfl, rfl, rfl⟩ rfl rfl ⟨rfl, trivial⟩ (cb_b rfl (fun h1 => ?_) (fun h1 => ?_))) | refine st_call rfl rfl rfl rfl rfl rfl rfl (call_ro [0] [p0] [dB l s arg] (fPl (PU.P l s)) ⟨l, s, arg, hpl, rfl, rfl, rfl⟩ rfl rfl ⟨rfl, trivial⟩ (cb_v rfl (fun _ => rfl) ?_)) | fail)
    all_goals first
      | exact p_plain rfl (p_call rfl rfl rfl rfl rfl (call_m [] [vB false, fI 1] [] (errF 1) [] ⟨1, rfl, rfl, rfl, rfl⟩ rfl rfl trivial rfl (pan_dB rfl rfl)))
      | exact p_drawn rfl (by kernel_rfl) (p_call rfl rfl rfl rfl rfl (call_m [] [vB false, fI 1] [] (errF 1) [] ⟨1, rfl, rfl, rfl, rfl⟩ rfl rfl trivial rfl (pan_dB rfl rfl)))
      | (exfalso
         simp only [decide_eq_true_eq, decide_eq_false_iff_not, beq_iff_eq, beq_eq_false_iff_ne, bne_iff_ne, bne_eq_false_iff_eq, ne_eq, Decidable.not_not, ge_iff_le, gt_iff_lt, Int.not_lt, Int.not_le, not_true, not_false_iff, Bool.not_eq_true, Bool.not_eq_false, Bool.not_eq_eq_eq_not, Bool.not_true, Bool.not_false] at *
         first
           | omega
           | (simp_all; done)
           | (simp_all; omega))
  · rw [e]
    clear e he
    refine p_seq ?_
    repeat' (first | refine st_v rfl rfl rfl rfl (fun _ => rfl) rfl (fun _ => rfl) ?_ | refine st_skip rfl rfl rfl ?_ | refine st_b rfl rfl rfl rfl (fun _ => rfl) rfl (fun h1 => ?_) (fun h1 => ?_) | refine st_n rfl rfl rfl rfl (fun _ => rfl) rfl (fun _ => rfl) ?_ | refine st_s rfl rfl rfl rfl (fun _ => rfl) rfl (fun _ => rfl) ?_ | refine c_seq ?_ | refine c_region ?_ | refine c_plain rfl ?_ | refine c_drawn rfl (by kernel_rfl) ?_ | refine st_nil ?_ | refine c_norm ?_ | refine c_cret ?_ | refine c_ret ?_ | refine c_true rfl ?_ | refine c_false rfl ?_ | refine c_skip ?_ | refine c_block ?_ | refine c_bnorm ?_ | refine c_bret ?_ | refine c_bexit rfl ?_ | refine c_bpass rfl ?_ | refine c_exit ?_ | refine c_cexit ?_ | refine c_lret ?_ | refine c_lexit ?_ | refine c_scope ?_ | refine c_label ?_ | refine c_snorm ?_ | refine c_sret ?_ | refine c_sexit ?_ | refine st_call rfl rfl rfl rfl rfl rfl rfl (call_v (.tup []) rfl ⟨_, rfl, rfl⟩ rfl rfl rfl (cb_v rfl (fun _ => rfl) ?_)) | refine st_call rfl rfl rfl rfl rfl rfl rfl (call_ro [0] [p0] [dB l s arg] (vB (PW.free s)) ⟨l, s, arg, rfl, rfl, rfl⟩ rfl rfl ⟨rfl, trivial⟩ (cb_b rfl (fun h1 => ?_) (fun h1 => ?_))) | refine st_call rfl rfl rfl rfl rfl rfl rfl (call_ro [0] [p0] [dB l s arg] (fPl (PU.P l s)) ⟨l, s, arg, hpl, rfl, rfl, rfl⟩ rfl rfl ⟨rfl, trivial⟩ (cb_v rfl (fun _ => rfl) ?_)) | fail)
    all_goals first
      | refine p_norm (p_here (p_region rfl rfl rfl ?_))
      | (exfalso
         simp only [decide_eq_true_eq, decide_eq_false_iff_not, beq_iff_eq, beq_eq_false_iff_ne, bne_iff_ne, bne_eq_false_iff_eq, ne_eq, Decidable.not_not, ge_iff_le, gt_iff_lt, Int.not_lt, Int.not_le, not_true, not_false_iff, Bool.not_eq_true, Bool.not_eq_false, Bool.not_eq_eq_eq_not, Bool.not_true, Bool.not_false] at *
         first
           | omega
           | (simp_all; done)
           | (simp_all; omega))
    all_goals (repeat' (first | refine st_v rfl rfl rfl rfl (fun _ => rfl) rfl (fun _ => rfl) ?_ | refine st_skip rfl rfl rfl ?_ | refine st_b rfl rfl rfl rfl (fun _ => rfl) rfl (fun h1 => ?_) (fun h1 => ?_) | refine st_n rfl rfl rfl rfl (fun _ => rfl) rfl (fun _ => rfl) ?_ | refine st_s rfl rfl rfl rfl (fun _ => rfl) rfl (fun _ => rfl) ?_ | refine c_seq ?_ | refine c_region ?_ | refine c_plain rfl ?_ | refine c_drawn rfl (by kernel_rfl) ?_ | refine st_nil ?_ | refine c_norm ?_ | refine c_cret ?_ | refine c_ret ?_ | refine c_true rfl ?_ | refine c_false rfl ?_ | refine c_skip ?_ | refine c_block ?_ | refine c_bnorm ?_ | refine c_bret ?_ | refine c_bexit rfl ?_ | refine c_bpass rfl ?_ | refine c_exit ?_ | refine c_cexit ?_ | refine c_lret ?_ | refine c_lexit ?_ | refine c_scope ?_ | refine c_label ?_ | refine c_snorm ?_ | refine c_sret ?_ | refine c_sexit ?_ | refine st_call rfl rfl rfl rfl rfl rfl rfl (call_v (.tup []) rfl ⟨_, rfl, rfl⟩ rfl rfl rfl (cb_v rfl (fun _ => rfl) ?_)) | refine st_call rfl rfl rfl rfl rfl rfl rfl (call_ro [0] [p0] [dB l s arg] (vB (PW.free s)) ⟨l, s, arg, rfl, rfl, rfl⟩ rfl rfl ⟨rfl, trivial⟩ (cb_b rfl (fun h1 => ?_) (fun h1 => ?_))) | refine st_call rfl rfl rfl rfl rfl rfl rfl (call_ro [0] [p0] [dB l s arg] (fPl (PU.P l s)) ⟨l, s, arg, hpl, rfl, rfl, rfl⟩ rfl rfl ⟨rfl, trivial⟩ (cb_v rfl (fun _ => rfl) ?_)) | fail))
    all_goals first
      | exact p_plain rfl (p_call rfl rfl rfl rfl rfl (call_m [] [vB false, fI 11] [] (errF 11) [] ⟨11, rfl, rfl, rfl, rfl⟩ rfl rfl trivial rfl (pan_dB rfl rfl)))
      | exact p_drawn rfl (by kernel_rfl) (p_call rfl rfl rfl rfl rfl (call_m [] [vB false, fI 11] [] (errF 11) [] ⟨11, rfl, rfl, rfl, rfl⟩ rfl rfl trivial rfl (pan_dB rfl rfl)))
      | (exfalso
         simp only [decide_eq_true_eq, decide_eq_false_iff_not, beq_iff_eq, beq_eq_false_iff_ne, bne_iff_ne, bne_eq_false_iff_eq, ne_eq, Decidable.not_not, ge_iff_le, gt_iff_lt, Int.not_lt, Int.not_le, not_true, not_false_iff, Bool.not_eq_true, Bool.not_eq_false, Bool.not_eq_eq_eq_not, Bool.not_true, Bool.not_false] at *
         first
           | omega
           | (simp_all; done)
           | (simp_all; omega))
theorem red_ok : SpecOk Tryd.prog 66 (SpM 5) := by
  refine spec_of_code TYok Γd mixed Tryd.func66 rfl ?_
  rintro args pre r post ⟨l, s, arg, hM, rfl, rfl, he, rfl, rfl⟩
  refine ⟨rfl, ?_⟩
  have hpl := hM.plan
  have hh := hM.held
  have hx := hM.fits.hold
  rcases PW.act5 (l := l) (s := s) (arg := arg) with ⟨g1, g2, e⟩ | ⟨g1, e⟩ | ⟨g1, g2, e⟩
  rotate_left
  · rw [e] at he; cases he
  · rw [e] at he; cases he
  rw [e]
  clear e he
  repeat' (first | refine st_v rfl rfl rfl rfl (fun _ => rfl) rfl (fun _ => rfl) ?_ | refine st_skip rfl rfl rfl ?_ | refine st_b rfl rfl rfl rfl (fun _ => rfl) rfl (fun h1 => ?_) (fun h1 => ?_) | refine st_n rfl rfl rfl rfl (fun _ => rfl) rfl (fun _ => rfl) ?_ | refine st_s rfl rfl rfl rfl (fun _ => rfl) rfl (fun _ => rfl) ?_ | refine c_seq ?_ | refine c_region ?_ | refine c_plain rfl ?_ | refine c_drawn rfl (by kernel_rfl) ?_ | refine st_nil ?_ | refine c_norm ?_ | refine c_cret ?_ | refine c_ret ?_ | refine c_true rfl ?_ | refine c_false rfl ?_ | refine c_skip ?_ | refine c_block ?_ | refine c_bnorm ?_ | refine c_bret ?_ | refine c_bexit rfl ?_ | refine c_bpass rfl ?_ | refine c_exit ?_ | refine c_cexit ?_ | refine c_lret ?_ | refine c_lexit ?_ | refine c_scope ?_ | refine c_label ?_ | refine c_snorm ?_ | refine c_sret ?_ | refine c_sexit ?_ | refine st_call rfl rfl rfl rfl rfl rfl rfl (call_v (.tup []) rfl ⟨_, rfl, rfl⟩ rfl rfl rfl (cb_v rfl (fun _ => rfl) ?_)) | refine st_call rfl rfl rfl rfl rfl rfl rfl (call_ro [0] [p0] [dB l s arg] (vB (PW.free s)) ⟨l, s, arg, rfl, rfl, rfl⟩ rfl rfl ⟨rfl, trivial⟩ (cb_b rfl (fun h1 => ?_) (fun h1 => ?_))) | refine st_call rfl rfl rfl rfl rfl rfl rfl (call_ro [0] [p0] [dB l s arg] (fPl (PU.P l s)) ⟨l, s, arg, hpl, rfl, rfl, rfl⟩ rfl rfl ⟨rfl, trivial⟩ (cb_v rfl (fun _ => rfl) ?_)) | fail)
  all_goals first
    | exact ⟨rfl, rfl, rfl, post_dB rfl rfl⟩
    | (exfalso
       simp only [decide_eq_true_eq, decide_eq_false_iff_not, beq_iff_eq, beq_eq_false_iff_ne, bne_iff_ne, bne_eq_false_iff_eq, ne_eq, Decidable.not_not, ge_iff_le, gt_iff_lt, Int.not_lt, Int.not_le, not_true, not_false_iff, Bool.not_eq_true, Bool.not_eq_false, Bool.not_eq_eq_eq_not, Bool.not_true, Bool.not_false] at *
       first
         | omega
         | (simp_all; done)
         | (simp_all; omega))
theorem red_pan : SpecE Tryd.prog panicE 66 (.mem (PnM 5)) := by
  refine spec_of_codeP TYok Γd Pnd mixed Tryd.func66 rfl ?_
  rintro args pre r post ⟨l, s, arg, hM, rfl, rfl, he, rfl, rfl⟩
  refine ⟨rfl, ?_⟩
  have hpl := hM.plan
  have hh := hM.held
  have hx := hM.fits.hold
  rcases PW.act5 (l := l) (s := s) (arg := arg) with ⟨g1, g2, e⟩ | ⟨g1, e⟩ | ⟨g1, g2, e⟩
  · rw [e] at he; exact absurd rfl he
  · rw [e]
    clear e he
    refine p_here (p_region rfl rfl rfl ?_)
    repeat' (first | refine st_v rfl rfl rfl rfl (fun _ => rfl) rfl (fun _ => rfl) ?_ | refine st_skip rfl rfl rfl ?_ | refine st_b rfl rfl rfl rfl (fun _ => rfl) rfl (fun h1 => ?_) (fun h1 => ?_) | refine st_n rfl rfl rfl rfl (fun _ => rfl) rfl (fun _ => rfl) ?_ | refine st_s rfl rfl rfl rfl (fun _ => rfl) rfl (fun _ => rfl) ?_ | refine c_seq ?_ | refine c_region ?_ | refine c_plain rfl ?_ | refine c_drawn rfl (by kernel_rfl) ?_ | refine st_nil ?_ | refine c_norm ?_ | refine c_cret ?_ | refine c_ret ?_ | refine c_true rfl ?_ | refine c_false rfl ?_ | refine c_skip ?_ | refine c_block ?_ | refine c_bnorm ?_ | refine c_bret ?_ | refine c_bexit rfl ?_ | refine c_bpass rfl ?_ | refine c_exit ?_ | refine c_cexit ?_ | refine c_lret ?_ | refine c_lexit ?_ | refine c_scope ?_ | refine c_label ?_ | refine c_snorm ?_ | refine c_sret ?_ | refine c_sexit ?_ | refine st_call rfl rfl rfl rfl rfl rfl rfl (call_v (.tup []) rfl ⟨_, rfl, rfl⟩ rfl rfl rfl (cb_v rfl (fun _ => rfl) ?_)) | refine st_call rfl rfl rfl rfl rfl rfl rfl (call_ro [0] [p0] [dB l s arg] (vB (PW.free s)) ⟨l, s, arg, rfl, rfl, rfl⟩ rfl rfl ⟨rfl, trivial⟩ (cb_b rfl (fun h1 => ?_) (fun h1 => ?_))) | refine st_call rfl rfl rfl rfl rfl rfl rfl (call_ro [0] [p0] [dB l s arg] (fPl (PU.P l s)) ⟨l, s, arg, hpl, rfl, rfl, rfl⟩ rfl rfl ⟨rfl, trivial⟩ (cb_v rfl (fun _ => rfl) ?_)) | fail)
    all_goals first
      | exact p_plain rfl (p_call rfl rfl rfl rfl rfl (call_m [] [vB false, fI 1] [] (errF 1) [] ⟨1, rfl, rfl, rfl, rfl⟩ rfl rfl trivial rfl (pan_dB rfl rfl)))
      | exact p_drawn rfl (by kernel_rfl) (p_call rfl rfl rfl rfl rfl (call_m [] [vB false, fI 1] [] (errF 1) [] ⟨1, rfl, rfl, rfl, rfl⟩ rfl rfl trivial rfl (pan_dB rfl rfl)))
      | (exfalso
         simp only [decide_eq_true_eq, decide_eq_false_iff_not, beq_iff_eq, beq_eq_false_iff_ne, bne_iff_ne, bne_eq_false_iff_eq, ne_eq, Decidable.not_not, ge_iff_le, gt_iff_lt, Int.not_lt, Int.not_le, not_true, not_false_iff, Bool.not_eq_true, Bool.not_eq_false, Bool.not_eq_eq_eq_not, Bool.not_true, Bool.not_false] at *
         first
           | omega
           | (simp_all; done)
           | (simp_all; omega))
  · rw [e]
    clear e he
    exact absurd trivial g2
theorem clear_ok : SpecOk Tryd.prog 67 (SpM 6) := by
  refine spec_of_code TYok Γd mixed Tryd.func67 rfl ?_
  rintro args pre r post ⟨l, s, arg, hM, rfl, rfl, he, rfl, rfl⟩
  refine ⟨rfl, ?_⟩
  have hpl := hM.plan
  have hh := hM.held
  have hx := hM.fits.hold
  rcases PW.act6 (l := l) (s := s) (arg := arg) with ⟨g1, g2, e⟩ | ⟨g1, e⟩ | ⟨g1, g2, e⟩
  rotate_left
  · rw [e] at he; cases he
  · rw [e] at he; cases he
  rw [e]
  clear e he
  repeat' (first | refine st_v rfl rfl rfl rfl (fun _ => rfl) rfl (fun _ => rfl) ?_ | refine st_skip rfl rfl rfl ?_ | refine st_b rfl rfl rfl rfl (fun _ => rfl) rfl (fun h1 => ?_) (fun h1 => ?_) | refine st_n rfl rfl rfl rfl (fun _ => rfl) rfl (fun _ => rfl) ?_ | refine st_s rfl rfl rfl rfl (fun _ => rfl) rfl (fun _ => rfl) ?_ | refine c_seq ?_ | refine c_region ?_ | refine c_plain rfl ?_ | refine c_drawn rfl (by kernel_rfl) ?_ | refine st_nil ?_ | refine c_norm ?_ | refine c_cret ?_ | refine c_ret ?_ | refine c_true rfl ?_ | refine c_false rfl ?_ | refine c_skip ?_ | refine c_block ?_ | refine c_bnorm ?_ | refine c_bret ?_ | refine c_bexit rfl ?_ | refine c_bpass rfl ?_ | refine c_exit ?_ | refine c_cexit ?_ | refine c_lret ?_ | refine c_lexit ?_ | refine c_scope ?_ | refine c_label ?_ | refine c_snorm ?_ | refine c_sret ?_ | refine c_sexit ?_ | refine st_call rfl rfl rfl rfl rfl rfl rfl (call_v (.tup []) rfl ⟨_, rfl, rfl⟩ rfl rfl rfl (cb_v rfl (fun _ => rfl) ?_)) | refine st_call rfl rfl rfl rfl rfl rfl rfl (call_ro [0] [p0] [dB l s arg] (vB (PW.free s)) ⟨l, s, arg, rfl, rfl, rfl⟩ rfl rfl ⟨rfl, trivial⟩ (cb_b rfl (fun h1 => ?_) (fun h1 => ?_))) | refine st_call rfl rfl rfl rfl rfl rfl rfl (call_ro [0] [p0] [dB l s arg] (fPl (PU.P l s)) ⟨l, s, arg, hpl, rfl, rfl, rfl⟩ rfl rfl ⟨rfl, trivial⟩ (cb_v rfl (fun _ => rfl) ?_)) | fail)
  all_goals first
    | exact ⟨rfl, rfl, rfl, post_dB rfl rfl⟩
    | (exfalso
       simp only [decide_eq_true_eq, decide_eq_false_iff_not, beq_iff_eq, beq_eq_false_iff_ne, bne_iff_ne, bne_eq_false_iff_eq, ne_eq, Decidable.not_not, ge_iff_le, gt_iff_lt, Int.not_lt, Int.not_le, not_true, not_false_iff, Bool.not_eq_true, Bool.not_eq_false, Bool.not_eq_eq_eq_not, Bool.not_true, Bool.not_false] at *
       first
         | omega
         | (simp_all; done)
         | (simp_all; omega))
theorem clear_pan : SpecE Tryd.prog panicE 67 (.mem (PnM 6)) := by
  refine spec_of_codeP TYok Γd Pnd mixed Tryd.func67 rfl ?_
  rintro args pre r post ⟨l, s, arg, hM, rfl, rfl, he, rfl, rfl⟩
  refine ⟨rfl, ?_⟩
  have hpl := hM.plan
  have hh := hM.held
  have hx := hM.fits.hold
  rcases PW.act6 (l := l) (s := s) (arg := arg) with ⟨g1, g2, e⟩ | ⟨g1, e⟩ | ⟨g1, g2, e⟩
  · rw [e] at he; exact absurd rfl he
  · rw [e]
    clear e he
    refine p_here (p_region rfl rfl rfl ?_)
    repeat' (first | refine st_v rfl rfl rfl rfl (fun _ => rfl) rfl (fun _ => rfl) ?_ | refine st_skip rfl rfl rfl ?_ | refine st_b rfl rfl rfl rfl (fun _ => rfl) rfl (fun h1 => ?_) (fun h1 => ?_) | refine st_n rfl rfl rfl rfl (fun _ => rfl) rfl (fun _ => rfl) ?_ | refine st_s rfl rfl rfl rfl (fun _ => rfl) rfl (fun _ => rfl) ?_ | refine c_seq ?_ | refine c_region ?_ | refine c_plain rfl ?_ | refine c_drawn rfl (by kernel_rfl) ?_ | refine st_nil ?_ | refine c_norm ?_ | refine c_cret ?_ | refine c_ret ?_ | refine c_true rfl ?_ | refine c_false rfl ?_ | refine c_skip ?_ | refine c_block ?_ | refine c_bnorm ?_ | refine c_bret ?_ | refine c_bexit rfl ?_ | refine c_bpass rfl ?_ | refine c_exit ?_ | refine c_cexit ?_ | refine c_lret ?_ | refine c_lexit ?_ | refine c_scope ?_ | refine c_label ?_ | refine c_snorm ?_ | refine c_sret ?_ | refine c_sexit ?_ | refine st_call rfl rfl rfl rfl rfl rfl rfl (call_v (.tup []) rfl ⟨_, rfl, rfl⟩ rfl rfl rfl (cb_v rfl (fun _ => rfl) ?_)) | refine st_call rfl rfl rfl rfl rfl rfl rfl (call_ro [0] [p0] [dB l s arg] (vB (PW.free s)) ⟨l, s, arg, rfl, rfl, rfl⟩ rfl rfl ⟨rfl, trivial⟩ (cb_b rfl (fun h1 => ?_) (fun h1 => ?_))) | refine st_call rfl rfl rfl rfl rfl rfl rfl (call_ro [0] [p0] [dB l s arg] (fPl (PU.P l s)) ⟨l, s, arg, hpl, rfl, rfl, rfl⟩ rfl rfl ⟨rfl, trivial⟩ (cb_v rfl (fun _ => rfl) ?_)) | fail)
    all_goals first
      | exact p_plain rfl (p_call rfl rfl rfl rfl rfl (call_m [] [vB false, fI 1] [] (errF 1) [] ⟨1, rfl, rfl, rfl, rfl⟩ rfl rfl trivial rfl (pan_dB rfl rfl)))
      | exact p_drawn rfl (by kernel_rfl) (p_call rfl rfl rfl rfl rfl (call_m [] [vB false, fI 1] [] (errF 1) [] ⟨1, rfl, rfl, rfl, rfl⟩ rfl rfl trivial rfl (pan_dB rfl rfl)))
      | (exfalso
         simp only [decide_eq_true_eq, decide_eq_false_iff_not, beq_iff_eq, beq_eq_false_iff_ne, bne_iff_ne, bne_eq_false_iff_eq, ne_eq, Decidable.not_not, ge_iff_le, gt_iff_lt, Int.not_lt, Int.not_le, not_true, not_false_iff, Bool.not_eq_true, Bool.not_eq_false, Bool.not_eq_eq_eq_not, Bool.not_true, Bool.not_false] at *
         first
           | omega
           | (simp_all; done)
           | (simp_all; omega))
  · rw [e]
    clear e he
    refine p_seq ?_
    repeat' (first | refine st_v rfl rfl rfl rfl (fun _ => rfl) rfl (fun _ => rfl) ?_ | refine st_skip rfl rfl rfl ?_ | refine st_b rfl rfl rfl rfl (fun _ => rfl) rfl (fun h1 => ?_) (fun h1 => ?_) | refine st_n rfl rfl rfl rfl (fun _ => rfl) rfl (fun _ => rfl) ?_ | refine st_s rfl rfl rfl rfl (fun _ => rfl) rfl (fun _ => rfl) ?_ | refine c_seq ?_ | refine c_region ?_ | refine c_plain rfl ?_ | refine c_drawn rfl (by kernel_rfl) ?_ | refine st_nil ?_ | refine c_norm ?_ | refine c_cret ?_ | refine c_ret ?_ | refine c_true rfl ?_ | refine c_false rfl ?_ | refine c_skip ?_ | refine c_block ?_ | refine c_bnorm ?_ | refine c_bret ?_ | refine c_bexit rfl ?_ | refine c_bpass rfl ?_ | refine c_exit ?_ | refine c_cexit ?_ | refine c_lret ?_ | refine c_lexit ?_ | refine c_scope ?_ | refine c_label ?_ | refine c_snorm ?_ | refine c_sret ?_ | refine c_sexit ?_ | refine st_call rfl rfl rfl rfl rfl rfl rfl (call_v (.tup []) rfl ⟨_, rfl, rfl⟩ rfl rfl rfl (cb_v rfl (fun _ => rfl) ?_)) | refine st_call rfl rfl rfl rfl rfl rfl rfl (call_ro [0] [p0] [dB l s arg] (vB (PW.free s)) ⟨l, s, arg, rfl, rfl, rfl⟩ rfl rfl ⟨rfl, trivial⟩ (cb_b rfl (fun h1 => ?_) (fun h1 => ?_))) | refine st_call rfl rfl rfl rfl rfl rfl rfl (call_ro [0] [p0] [dB l s arg] (fPl (PU.P l s)) ⟨l, s, arg, hpl, rfl, rfl, rfl⟩ rfl rfl ⟨rfl, trivial⟩ (cb_v rfl (fun _ => rfl) ?_)) | fail)
    all_goals first
      | refine p_norm (p_here (p_region rfl rfl rfl ?_))
      | (exfalso
         simp only [decide_eq_true_eq, decide_eq_false_iff_not, beq_iff_eq, beq_eq_false_iff_ne, bne_iff_ne, bne_eq_false_iff_eq, ne_eq, Decidable.not_not, ge_iff_le, gt_iff_lt, Int.not_lt, Int.not_le, not_true, not_false_iff, Bool.not_eq_true, Bool.not_eq_false, Bool.not_eq_eq_eq_not, Bool.not_true, Bool.not_false] at *
         first
           | omega
           | (simp_all; done)
           | (simp_all; omega))
    all_goals (repeat' (first | refine st_v rfl rfl rfl rfl (fun _ => rfl) rfl (fun _ => rfl) ?_ | refine st_skip rfl rfl rfl ?_ | refine st_b rfl rfl rfl rfl (fun _ => rfl) rfl (fun h1 => ?_) (fun h1 => ?_) | refine st_n rfl rfl rfl rfl (fun _ => rfl) rfl (fun _ => rfl) ?_ | refine st_s rfl rfl rfl rfl (fun _ => rfl) rfl (fun _ => rfl) ?_ | refine c_seq ?_ | refine c_region ?_ | refine c_plain rfl ?_ | refine c_drawn rfl (by kernel_rfl) ?_ | refine st_nil ?_ | refine c_norm ?_ | refine c_cret ?_ | refine c_ret ?_ | refine c_true rfl ?_ | refine c_false rfl ?_ | refine c_skip ?_ | refine c_block ?_ | refine c_bnorm ?_ | refine c_bret ?_ | refine c_bexit rfl ?_ | refine c_bpass rfl ?_ | refine c_exit ?_ | refine c_cexit ?_ | refine c_lret ?_ | refine c_lexit ?_ | refine c_scope ?_ | refine c_label ?_ | refine c_snorm ?_ | refine c_sret ?_ | refine c_sexit ?_ | refine st_call rfl rfl rfl rfl rfl rfl rfl (call_v (.tup []) rfl ⟨_, rfl, rfl⟩ rfl rfl rfl (cb_v rfl (fun _ => rfl) ?_)) | refine st_call rfl rfl rfl rfl rfl rfl rfl (call_ro [0] [p0] [dB l s arg] (vB (PW.free s)) ⟨l, s, arg, rfl, rfl, rfl⟩ rfl rfl ⟨rfl, trivial⟩ (cb_b rfl (fun h1 => ?_) (fun h1 => ?_))) | refine st_call rfl rfl rfl rfl rfl rfl rfl (call_ro [0] [p0] [dB l s arg] (fPl (PU.P l s)) ⟨l, s, arg, hpl, rfl, rfl, rfl⟩ rfl rfl ⟨rfl, trivial⟩ (cb_v rfl (fun _ => rfl) ?_)) | fail))
    all_goals first
      | exact p_plain rfl (p_call rfl rfl rfl rfl rfl (call_m [] [vB false, fI 11] [] (errF 11) [] ⟨11, rfl, rfl, rfl, rfl⟩ rfl rfl trivial rfl (pan_dB rfl rfl)))
      | exact p_drawn rfl (by kernel_rfl) (p_call rfl rfl rfl rfl rfl (call_m [] [vB false, fI 11] [] (errF 11) [] ⟨11, rfl, rfl, rfl, rfl⟩ rfl rfl trivial rfl (pan_dB rfl rfl)))
      | (exfalso
         simp only [decide_eq_true_eq, decide_eq_false_iff_not, beq_iff_eq, beq_eq_false_iff_ne, bne_iff_ne, bne_eq_false_iff_eq, ne_eq, Decidable.not_not, ge_iff_le, gt_iff_lt, Int.not_lt, Int.not_le, not_true, not_false_iff, Bool.not_eq_true, Bool.not_eq_false, Bool.not_eq_eq_eq_not, Bool.not_true, Bool.not_false] at *
         first
           | omega
           | (simp_all; done)
           | (simp_all; omega))
def sgB (s : Sg) : Blk := .var 43 (sgCells s)
def erB (e : Int) : Blk := .var 46 [cI e]
def capA : List FV := [.t (.one (.ptr 0 0)), .t (.one (.ptr 1 0)), .t (.one (.ptr 2 0))]
def DefR : List FV → List Blk → List Blk → Prop := fun a p q => ∃ s t e, a = capA ∧ p = [sgB s, sgB t, erB e] ∧ q = p
def DefP (v : Value) : List FV → List Blk → List Blk → Prop := fun a p q => ∃ n s t e, v = .iface 90 (errV n) ∧ a = capA ∧ p = [sgB s, sgB t, erB e] ∧ q = [sgB s, sgB s, erB n]
theorem def_ret : DefOk Tryd.prog 60 .returning .returning DefR := by
  refine def_of_code (x := .nilIface) TYok ΓOk.nil mixed Tryd.func60 rfl rfl rfl rfl rfl rfl (fun ρ w => rfl) rfl rfl (fun c0 cs h => .inl ⟨rfl, by unfold recoverD; simp [h], rfl⟩) ?_
  rintro args pre post ⟨s, t, e, rfl, rfl, rfl⟩
  refine ⟨rfl, by decide, by decide, ?_⟩
  repeat' (first | refine st_v rfl rfl rfl rfl (fun _ => rfl) rfl (fun _ => rfl) ?_ | refine st_skip rfl rfl rfl ?_ | refine st_b rfl rfl rfl rfl (fun _ => rfl) rfl (fun h1 => ?_) (fun h1 => ?_) | refine st_n rfl rfl rfl rfl (fun _ => rfl) rfl (fun _ => rfl) ?_ | refine st_s rfl rfl rfl rfl (fun _ => rfl) rfl (fun _ => rfl) ?_ | refine c_seq ?_ | refine c_region ?_ | refine c_plain rfl ?_ | refine c_drawn rfl (by kernel_rfl) ?_ | refine st_nil ?_ | refine c_norm ?_ | refine c_cret ?_ | refine c_ret ?_ | refine c_true rfl ?_ | refine c_false rfl ?_ | refine c_skip ?_ | refine c_block ?_ | refine c_bnorm ?_ | refine c_bret ?_ | refine c_bexit rfl ?_ | refine c_bpass rfl ?_ | refine c_exit ?_ | refine c_cexit ?_ | refine c_lret ?_ | refine c_lexit ?_ | refine c_scope ?_ | refine c_label ?_ | refine c_snorm ?_ | refine c_sret ?_ | refine c_sexit ?_ | fail)
  all_goals exact ⟨.inl rfl, rfl, rfl, rfl, rfl, rfl, rfl, trivial⟩
theorem def_pan (v : Value) (hv : v ≠ .nilIface) : DefOk Tryd.prog 60 (.panicking [{ v := v, recovered := false }]) (.panicking [{ v := v, recovered := true }]) (DefP v) := by
  rintro args pre post ⟨n, s, t, e, rfl, rfl, rfl, rfl⟩
  refine def_of_code (x := .iface 90 (errV n)) (G := fun a p q => a = capA ∧ p = [sgB s, sgB t, erB e] ∧ q = [sgB s, sgB s, erB n]) TYok ΓOk.nil mixed Tryd.func60 rfl rfl rfl rfl rfl rfl (fun ρ w => rfl) rfl rfl (fun c0 cs h => .inr (by unfold recoverD; simp [h])) ?_ _ _ _ ⟨rfl, rfl, rfl⟩
  rintro args pre post ⟨rfl, rfl, rfl⟩
  refine ⟨rfl, by decide, by decide, ?_⟩
  repeat' (first | refine st_v rfl rfl rfl rfl (fun _ => rfl) rfl (fun _ => rfl) ?_ | refine st_skip rfl rfl rfl ?_ | refine st_b rfl rfl rfl rfl (fun _ => rfl) rfl (fun h1 => ?_) (fun h1 => ?_) | refine st_n rfl rfl rfl rfl (fun _ => rfl) rfl (fun _ => rfl) ?_ | refine st_s rfl rfl rfl rfl (fun _ => rfl) rfl (fun _ => rfl) ?_ | refine c_seq ?_ | refine c_region ?_ | refine c_plain rfl ?_ | refine c_drawn rfl (by kernel_rfl) ?_ | refine st_nil ?_ | refine c_norm ?_ | refine c_cret ?_ | refine c_ret ?_ | refine c_true rfl ?_ | refine c_false rfl ?_ | refine c_skip ?_ | refine c_block ?_ | refine c_bnorm ?_ | refine c_bret ?_ | refine c_bexit rfl ?_ | refine c_bpass rfl ?_ | refine c_exit ?_ | refine c_cexit ?_ | refine c_lret ?_ | refine c_lexit ?_ | refine c_scope ?_ | refine c_label ?_ | refine c_snorm ?_ | refine c_sret ?_ | refine c_sexit ?_ | fail)
  all_goals exact ⟨.inl rfl, rfl, rfl, rfl, rfl, rfl, rfl, trivial⟩
theorem d_start {T : TT} {Γ : Nat → Option Spec} {fr : List (Nat × FV)} {hp : HP} {nid N m : Nat} {l l' : List Oper} {k : List Rec → AS → Prop} (hl : initL l = l') (h : next T Γ l.toArray nid l' 0 fr hp nid N m [] k) : aops T Γ l.toArray (AS.mk fr hp nid N m).nid (initL l.toArray.toList) 0 ⟨fr, hp, nid, N, m⟩ [] k := by
  unfold next at h
  have e : l.toArray.toList = l := rfl
  rw [e, hl]
  exact h
def fDo (x : Sg × Int) : FV := .tup [.agg (sgCells x.1), .one (cI x.2)]
def SpDo : Spec := .pure fun a r => ∃ l s c arg, PU.Wf s ∧ a = [fPls l, fSg s, fI c, fI arg] ∧ r = fDo (PW.doB l s c arg)
theorem ΓDo : ΓOk Tryd.prog (look [(40, SpMay), (39, SpTurns), (61, SpMust), (62, SpM 1), (63, SpM 2), (64, SpM 3), (65, SpM 4), (66, SpM 5), (67, SpM 6)]) :=
  ((((((((ΓOk.nil.cons clear_ok Tryd.func67 (by kernel_rfl)).cons red_ok Tryd.func66 (by kernel_rfl)).cons want_ok Tryd.func65 (by kernel_rfl)).cons next_ok Tryd.func64 (by kernel_rfl)).cons let_ok Tryd.func63 (by kernel_rfl)).cons hold_ok Tryd.func62 (by kernel_rfl)).cons must_ok Tryd.func61 (by kernel_rfl)).cons turns_ok Tryd.func39 (by kernel_rfl)).cons may_ok Tryd.func40 (by kernel_rfl)
theorem PnDo : PnOk Tryd.prog (look [(61, PnMust), (62, PnM 1), (63, PnM 2), (64, PnM 3), (65, PnM 4), (66, PnM 5), (67, PnM 6)]) :=
  ((((((PnOk.nil.cons clear_pan Tryd.func67 (by kernel_rfl)).cons red_pan Tryd.func66 (by kernel_rfl)).cons want_pan Tryd.func65 (by kernel_rfl)).cons next_pan Tryd.func64 (by kernel_rfl)).cons let_pan Tryd.func63 (by kernel_rfl)).cons hold_pan Tryd.func62 (by kernel_rfl)).cons must_pan Tryd.func61 (by kernel_rfl)
def z0 : Sg := ⟨0, 0, 0, 0, 0, 0, 0, 0, 0, false⟩
theorem out_ret {s t : Sg} {e : Int} {st : AS} (h : Has st.hp [0, 1, 2] [0, 1, 2] [sgB s, sgB t, erB e]) (hk : retKW TY [.cell 8 43, .cell 9 46] (fDo (t, e)) [] 0 .ret ⟨st.fr, [(0, some (sgB s)), (1, some (sgB t)), (2, some (erB e))] ++ st.hp, st.nid, st.N, st.m⟩) :
    defR DefR [(0, 0), (1, 0), (2, 0)] (fun s3 => retKW TY [.cell 8 43, .cell 9 46] (fDo (t, e)) [] 0 .ret s3) st :=
  ⟨[0, 1, 2], capA, [sgB s, sgB t, erB e], [sgB s, sgB t, erB e], ⟨s, t, e, rfl, rfl, rfl⟩, rfl, rfl, h, hk⟩
theorem out_pan {s t : Sg} {e n : Int} {st : AS} (h : Has st.hp [0, 1, 2] [0, 1, 2] [sgB s, sgB t, erB e]) (hk : retKW TY [.cell 8 43, .cell 9 46] (fDo (s, n)) [] 0 .ret ⟨st.fr, [(0, some (sgB s)), (1, some (sgB s)), (2, some (erB n))] ++ st.hp, st.nid, st.N, st.m⟩) :
    ∃ t v, errF n = .t (.one (.v (.iface t v))) ∧ defR (DefP (.iface t v)) [(0, 0), (1, 0), (2, 0)] (fun s3 => retKW TY [.cell 8 43, .cell 9 46] (fDo (s, n)) [] 0 .ret s3) st :=
  ⟨_, _, rfl, [0, 1, 2], capA, [sgB s, sgB t, erB e], [sgB s, sgB s, erB n], ⟨n, s, t, e, rfl, rfl, rfl, rfl⟩, rfl, rfl, h, hk⟩
theorem do_ok : SpecOk Tryd.prog 30 SpDo := by
  refine spec_of_codeD (cap := [(0, 0), (1, 0), (2, 0)]) TYok ΓDo PnDo mixed Tryd.func30 rfl rfl Tryd.func60 (by kernel_rfl) def_ret def_pan ?_
  rintro args pre r post ⟨⟨l, s, c, arg, hw, rfl, rfl⟩, rfl, rfl⟩
  refine ⟨rfl, ?_⟩
  repeat' (first | refine st_v rfl rfl rfl rfl (fun _ => rfl) rfl (fun _ => rfl) ?_ | refine st_skip rfl rfl rfl ?_ | refine st_b rfl rfl rfl rfl (fun _ => rfl) rfl (fun h1 => ?_) (fun h1 => ?_) | refine st_n rfl rfl rfl rfl (fun _ => rfl) rfl (fun _ => rfl) ?_ | refine st_s rfl rfl rfl rfl (fun _ => rfl) rfl (fun _ => rfl) ?_ | refine c_seq ?_ | refine c_region ?_ | refine c_plain rfl ?_ | refine c_drawn rfl (by kernel_rfl) ?_ | refine st_nil ?_ | refine c_norm ?_ | refine c_cret ?_ | refine c_ret ?_ | refine c_true rfl ?_ | refine c_false rfl ?_ | refine c_skip ?_ | refine c_block ?_ | refine c_bnorm ?_ | refine c_bret ?_ | refine c_bexit rfl ?_ | refine c_bpass rfl ?_ | refine c_exit ?_ | refine c_cexit ?_ | refine c_lret ?_ | refine c_lexit ?_ | refine c_scope ?_ | refine c_label ?_ | refine c_snorm ?_ | refine c_sret ?_ | refine c_sexit ?_ | fail)
  refine ⟨rfl, Nat.le_refl _, Nat.zero_le _, d_start rfl ?_⟩
  repeat' (first | refine st_v rfl rfl rfl rfl (fun _ => rfl) rfl (fun _ => rfl) ?_ | refine st_skip rfl rfl rfl ?_ | refine st_b rfl rfl rfl rfl (fun _ => rfl) rfl (fun h1 => ?_) (fun h1 => ?_) | refine st_n rfl rfl rfl rfl (fun _ => rfl) rfl (fun _ => rfl) ?_ | refine st_s rfl rfl rfl rfl (fun _ => rfl) rfl (fun _ => rfl) ?_ | refine c_seq ?_ | refine c_region ?_ | refine c_plain rfl ?_ | refine c_drawn rfl (by kernel_rfl) ?_ | refine st_nil ?_ | refine c_norm ?_ | refine c_cret ?_ | refine c_ret ?_ | refine c_true rfl ?_ | refine c_false rfl ?_ | refine c_skip ?_ | refine c_block ?_ | refine c_bnorm ?_ | refine c_bret ?_ | refine c_bexit rfl ?_ | refine c_bpass rfl ?_ | refine c_exit ?_ | refine c_cexit ?_ | refine c_lret ?_ | refine c_lexit ?_ | refine c_scope ?_ | refine c_label ?_ | refine c_snorm ?_ | refine c_sret ?_ | refine c_sexit ?_ | fail)
  refine ⟨⟨rfl, rfl, _, _, rfl, rfl, rfl, rfl⟩, ?_⟩
  cases hm : stage_mayB.f l s with
  | false =>
    rw [PW.doB_no (by rw [hm]; simp)]
    refine .inr (p_here (p_region rfl rfl rfl ?_))
    repeat' (first | refine st_v rfl rfl rfl rfl (fun _ => rfl) rfl (fun _ => rfl) ?_ | refine st_skip rfl rfl rfl ?_ | refine st_b rfl rfl rfl rfl (fun _ => rfl) rfl (fun h1 => ?_) (fun h1 => ?_) | refine st_n rfl rfl rfl rfl (fun _ => rfl) rfl (fun _ => rfl) ?_ | refine st_s rfl rfl rfl rfl (fun _ => rfl) rfl (fun _ => rfl) ?_ | refine c_seq ?_ | refine c_region ?_ | refine c_plain rfl ?_ | refine c_drawn rfl (by kernel_rfl) ?_ | refine st_nil ?_ | refine c_norm ?_ | refine c_cret ?_ | refine c_ret ?_ | refine c_true rfl ?_ | refine c_false rfl ?_ | refine c_skip ?_ | refine c_block ?_ | refine c_bnorm ?_ | refine c_bret ?_ | refine c_bexit rfl ?_ | refine c_bpass rfl ?_ | refine c_exit ?_ | refine c_cexit ?_ | refine c_lret ?_ | refine c_lexit ?_ | refine c_scope ?_ | refine c_label ?_ | refine c_snorm ?_ | refine c_sret ?_ | refine c_sexit ?_ | refine st_call rfl rfl rfl rfl rfl rfl rfl (call_v (vB false) rfl ⟨l, s, rfl, by rw [hm]⟩ rfl rfl rfl (cb_v rfl (fun _ => rfl) ?_)) | fail)
    exact p_plain rfl (p_call rfl rfl rfl rfl rfl (call_m [] [vB false, fI 1] [] (errF 1) [] ⟨1, rfl, rfl, rfl, rfl⟩ rfl rfl trivial rfl (out_pan (t := z0) (e := 0) ⟨rfl, rfl, rfl, trivial⟩ ⟨_, fun _ _ h => h, rfl, rfl, rfl, trivial⟩)))
  | true =>
    have hM := PU.may_of hw hm
    cases hc : PW.turnsB c with
    | false =>
      rw [PW.doB_no (by rw [hc]; simp)]
      refine .inr (p_here (p_region rfl rfl rfl ?_))
      repeat' (first | refine st_v rfl rfl rfl rfl (fun _ => rfl) rfl (fun _ => rfl) ?_ | refine st_skip rfl rfl rfl ?_ | refine st_b rfl rfl rfl rfl (fun _ => rfl) rfl (fun h1 => ?_) (fun h1 => ?_) | refine st_n rfl rfl rfl rfl (fun _ => rfl) rfl (fun _ => rfl) ?_ | refine st_s rfl rfl rfl rfl (fun _ => rfl) rfl (fun _ => rfl) ?_ | refine c_seq ?_ | refine c_region ?_ | refine c_plain rfl ?_ | refine c_drawn rfl (by kernel_rfl) ?_ | refine st_nil ?_ | refine c_norm ?_ | refine c_cret ?_ | refine c_ret ?_ | refine c_true rfl ?_ | refine c_false rfl ?_ | refine c_skip ?_ | refine c_block ?_ | refine c_bnorm ?_ | refine c_bret ?_ | refine c_bexit rfl ?_ | refine c_bpass rfl ?_ | refine c_exit ?_ | refine c_cexit ?_ | refine c_lret ?_ | refine c_lexit ?_ | refine c_scope ?_ | refine c_label ?_ | refine c_snorm ?_ | refine c_sret ?_ | refine c_sexit ?_ | refine st_call rfl rfl rfl rfl rfl rfl rfl (call_v (vB true) rfl ⟨l, s, rfl, by rw [hm]⟩ rfl rfl rfl (cb_v rfl (fun _ => rfl) ?_)) | refine st_call rfl rfl rfl rfl rfl rfl rfl (call_v (vB false) rfl ⟨_, rfl, by rw [hc]⟩ rfl rfl rfl (cb_v rfl (fun _ => rfl) ?_)) | fail)
      exact p_plain rfl (p_call rfl rfl rfl rfl rfl (call_m [] [vB false, fI 1] [] (errF 1) [] ⟨1, rfl, rfl, rfl, rfl⟩ rfl rfl trivial rfl (out_pan (t := z0) (e := 0) ⟨rfl, rfl, rfl, trivial⟩ ⟨_, fun _ _ h => h, rfl, rfl, rfl, trivial⟩)))
    | true =>
      rw [PW.doB_act hm hc]
      have hc1 : 1 ≤ c ∧ c ≤ 6 := of_decide_eq_true hc
      obtain ⟨t, e, hte⟩ : ∃ t e, PW.actB l s c arg = (t, e) := ⟨_, _, rfl⟩
      by_cases he : e = 0
      · subst he
        refine .inl ?_
        rcases (by omega : c = 1 ∨ c = 2 ∨ c = 3 ∨ c = 4 ∨ c = 5 ∨ c = 6) with rfl | rfl | rfl | rfl | rfl | rfl
        all_goals rw [hte]
        all_goals (repeat' (first | refine st_v rfl rfl rfl rfl (fun _ => rfl) rfl (fun _ => rfl) ?_ | refine st_skip rfl rfl rfl ?_ | refine st_b rfl rfl rfl rfl (fun _ => rfl) rfl (fun h1 => ?_) (fun h1 => ?_) | refine st_n rfl rfl rfl rfl (fun _ => rfl) rfl (fun _ => rfl) ?_ | refine st_s rfl rfl rfl rfl (fun _ => rfl) rfl (fun _ => rfl) ?_ | refine c_seq ?_ | refine c_region ?_ | refine c_plain rfl ?_ | refine c_drawn rfl (by kernel_rfl) ?_ | refine st_nil ?_ | refine c_norm ?_ | refine c_cret ?_ | refine c_ret ?_ | refine c_true rfl ?_ | refine c_false rfl ?_ | refine c_skip ?_ | refine c_block ?_ | refine c_bnorm ?_ | refine c_bret ?_ | refine c_bexit rfl ?_ | refine c_bpass rfl ?_ | refine c_exit ?_ | refine c_cexit ?_ | refine c_lret ?_ | refine c_lexit ?_ | refine c_scope ?_ | refine c_label ?_ | refine c_snorm ?_ | refine c_sret ?_ | refine c_sexit ?_ | refine st_call rfl rfl rfl rfl rfl rfl rfl (call_v (vB true) rfl ⟨l, s, rfl, by rw [hm]⟩ rfl rfl rfl (cb_v rfl (fun _ => rfl) ?_)) | refine st_call rfl rfl rfl rfl rfl rfl rfl (call_v (vB true) rfl ⟨_, rfl, by rw [hc]⟩ rfl rfl rfl (cb_v rfl (fun _ => rfl) ?_)) | refine st_call rfl rfl rfl rfl rfl rfl rfl (call_v (.tup []) rfl ⟨_, rfl, rfl⟩ rfl rfl rfl (cb_v rfl (fun _ => rfl) ?_)) | refine st_e rfl rfl rfl rfl (fun _ => rfl) 1 rfl (by decide) rfl (fun _ => rfl) ?_ | refine st_e rfl rfl rfl rfl (fun _ => rfl) 2 rfl (by decide) rfl (fun _ => rfl) ?_ | refine st_e rfl rfl rfl rfl (fun _ => rfl) 3 rfl (by decide) rfl (fun _ => rfl) ?_ | refine st_e rfl rfl rfl rfl (fun _ => rfl) 4 rfl (by decide) rfl (fun _ => rfl) ?_ | refine st_e rfl rfl rfl rfl (fun _ => rfl) 5 rfl (by decide) rfl (fun _ => rfl) ?_ | refine st_e rfl rfl rfl rfl (fun _ => rfl) 6 rfl (by decide) rfl (fun _ => rfl) ?_ | refine st_call rfl rfl rfl rfl rfl rfl rfl (call_m [17] [p0] [dB l s arg] (.tup []) [dB l t arg] ⟨l, s, arg, hM, rfl, rfl, by rw [hte], rfl, by rw [hte]⟩ rfl rfl ⟨rfl, trivial⟩ rfl (cb_n rfl rfl (fun _ => rfl) ?_)) | fail))
        all_goals exact ⟨.inr rfl, out_ret (s := s) (t := t) (e := 0) ⟨rfl, rfl, rfl, trivial⟩ ⟨_, fun _ _ h => h, rfl, rfl, rfl, trivial⟩⟩
      · have hs : s = t := by
          have h1 := PW.act_err (l := l) (s := s) (c := c) (arg := arg) (by rw [hte]; exact he)
          rw [hte] at h1
          exact h1.symm
        subst hs
        refine .inr (p_seq ?_)
        repeat' (first | refine st_v rfl rfl rfl rfl (fun _ => rfl) rfl (fun _ => rfl) ?_ | refine st_skip rfl rfl rfl ?_ | refine st_b rfl rfl rfl rfl (fun _ => rfl) rfl (fun h1 => ?_) (fun h1 => ?_) | refine st_n rfl rfl rfl rfl (fun _ => rfl) rfl (fun _ => rfl) ?_ | refine st_s rfl rfl rfl rfl (fun _ => rfl) rfl (fun _ => rfl) ?_ | refine c_seq ?_ | refine c_region ?_ | refine c_plain rfl ?_ | refine c_drawn rfl (by kernel_rfl) ?_ | refine st_nil ?_ | refine c_norm ?_ | refine c_cret ?_ | refine c_ret ?_ | refine c_true rfl ?_ | refine c_false rfl ?_ | refine c_skip ?_ | refine c_block ?_ | refine c_bnorm ?_ | refine c_bret ?_ | refine c_bexit rfl ?_ | refine c_bpass rfl ?_ | refine c_exit ?_ | refine c_cexit ?_ | refine c_lret ?_ | refine c_lexit ?_ | refine c_scope ?_ | refine c_label ?_ | refine c_snorm ?_ | refine c_sret ?_ | refine c_sexit ?_ | refine st_call rfl rfl rfl rfl rfl rfl rfl (call_v (vB true) rfl ⟨l, s, rfl, by rw [hm]⟩ rfl rfl rfl (cb_v rfl (fun _ => rfl) ?_)) | refine st_call rfl rfl rfl rfl rfl rfl rfl (call_v (vB true) rfl ⟨_, rfl, by rw [hc]⟩ rfl rfl rfl (cb_v rfl (fun _ => rfl) ?_)) | refine st_call rfl rfl rfl rfl rfl rfl rfl (call_v (.tup []) rfl ⟨_, rfl, rfl⟩ rfl rfl rfl (cb_v rfl (fun _ => rfl) ?_)) | fail)
        refine p_norm (p_seq ?_)
        repeat' (first | refine st_v rfl rfl rfl rfl (fun _ => rfl) rfl (fun _ => rfl) ?_ | refine st_skip rfl rfl rfl ?_ | refine st_b rfl rfl rfl rfl (fun _ => rfl) rfl (fun h1 => ?_) (fun h1 => ?_) | refine st_n rfl rfl rfl rfl (fun _ => rfl) rfl (fun _ => rfl) ?_ | refine st_s rfl rfl rfl rfl (fun _ => rfl) rfl (fun _ => rfl) ?_ | refine c_seq ?_ | refine c_region ?_ | refine c_plain rfl ?_ | refine c_drawn rfl (by kernel_rfl) ?_ | refine st_nil ?_ | refine c_norm ?_ | refine c_cret ?_ | refine c_ret ?_ | refine c_true rfl ?_ | refine c_false rfl ?_ | refine c_skip ?_ | refine c_block ?_ | refine c_bnorm ?_ | refine c_bret ?_ | refine c_bexit rfl ?_ | refine c_bpass rfl ?_ | refine c_exit ?_ | refine c_cexit ?_ | refine c_lret ?_ | refine c_lexit ?_ | refine c_scope ?_ | refine c_label ?_ | refine c_snorm ?_ | refine c_sret ?_ | refine c_sexit ?_ | fail)
        refine p_norm (p_seq ?_)
        repeat' (first | refine st_v rfl rfl rfl rfl (fun _ => rfl) rfl (fun _ => rfl) ?_ | refine st_skip rfl rfl rfl ?_ | refine st_b rfl rfl rfl rfl (fun _ => rfl) rfl (fun h1 => ?_) (fun h1 => ?_) | refine st_n rfl rfl rfl rfl (fun _ => rfl) rfl (fun _ => rfl) ?_ | refine st_s rfl rfl rfl rfl (fun _ => rfl) rfl (fun _ => rfl) ?_ | refine c_seq ?_ | refine c_region ?_ | refine c_plain rfl ?_ | refine c_drawn rfl (by kernel_rfl) ?_ | refine st_nil ?_ | refine c_norm ?_ | refine c_cret ?_ | refine c_ret ?_ | refine c_true rfl ?_ | refine c_false rfl ?_ | refine c_skip ?_ | refine c_block ?_ | refine c_bnorm ?_ | refine c_bret ?_ | refine c_bexit rfl ?_ | refine c_bpass rfl ?_ | refine c_exit ?_ | refine c_cexit ?_ | refine c_lret ?_ | refine c_lexit ?_ | refine c_scope ?_ | refine c_label ?_ | refine c_snorm ?_ | refine c_sret ?_ | refine c_sexit ?_ | fail)
        refine p_norm (p_here (p_region rfl rfl rfl ?_))
        rcases (by omega : c = 1 ∨ c = 2 ∨ c = 3 ∨ c = 4 ∨ c = 5 ∨ c = 6) with rfl | rfl | rfl | rfl | rfl | rfl
        all_goals rw [hte]
        all_goals (repeat' (first | refine st_v rfl rfl rfl rfl (fun _ => rfl) rfl (fun _ => rfl) ?_ | refine st_skip rfl rfl rfl ?_ | refine st_b rfl rfl rfl rfl (fun _ => rfl) rfl (fun h1 => ?_) (fun h1 => ?_) | refine st_n rfl rfl rfl rfl (fun _ => rfl) rfl (fun _ => rfl) ?_ | refine st_s rfl rfl rfl rfl (fun _ => rfl) rfl (fun _ => rfl) ?_ | refine c_seq ?_ | refine c_region ?_ | refine c_plain rfl ?_ | refine c_drawn rfl (by kernel_rfl) ?_ | refine st_nil ?_ | refine c_norm ?_ | refine c_cret ?_ | refine c_ret ?_ | refine c_true rfl ?_ | refine c_false rfl ?_ | refine c_skip ?_ | refine c_block ?_ | refine c_bnorm ?_ | refine c_bret ?_ | refine c_bexit rfl ?_ | refine c_bpass rfl ?_ | refine c_exit ?_ | refine c_cexit ?_ | refine c_lret ?_ | refine c_lexit ?_ | refine c_scope ?_ | refine c_label ?_ | refine c_snorm ?_ | refine c_sret ?_ | refine c_sexit ?_ | refine st_e rfl rfl rfl rfl (fun _ => rfl) 1 rfl (by decide) rfl (fun _ => rfl) ?_ | refine st_e rfl rfl rfl rfl (fun _ => rfl) 2 rfl (by decide) rfl (fun _ => rfl) ?_ | refine st_e rfl rfl rfl rfl (fun _ => rfl) 3 rfl (by decide) rfl (fun _ => rfl) ?_ | refine st_e rfl rfl rfl rfl (fun _ => rfl) 4 rfl (by decide) rfl (fun _ => rfl) ?_ | refine st_e rfl rfl rfl rfl (fun _ => rfl) 5 rfl (by decide) rfl (fun _ => rfl) ?_ | refine st_e rfl rfl rfl rfl (fun _ => rfl) 6 rfl (by decide) rfl (fun _ => rfl) ?_ | fail))
        all_goals exact p_plain rfl (p_call rfl rfl rfl rfl rfl (call_m [17] [p0] [dB l s arg] (errF e) [dB l s arg] ⟨l, s, arg, hM, rfl, rfl, by rw [hte]; exact he, by rw [hte], rfl⟩ rfl rfl ⟨rfl, trivial⟩ rfl (out_pan (t := z0) (e := 0) ⟨rfl, rfl, rfl, trivial⟩ ⟨_, fun _ _ h => h, rfl, rfl, rfl, trivial⟩)))
end Safe
end Go.Proofs.YtpciieagafddcaaDoor.E
