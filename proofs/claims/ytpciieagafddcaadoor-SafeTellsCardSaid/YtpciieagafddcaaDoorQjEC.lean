/- The machine, walked by the engine (own text): may, a tick. -/
import Derived.Test.YtpciieagafddcaaDoorQjD
import Derived.Test.YtpciieagafddcaaDoorQjF6
import Derived.Test.YtpciieagafddcaaDoorQjF25
import Derived.Test.YtpciieagafddcaaDoorQjF36
import Derived.Test.YtpciieagafddcaaDoorQjPU
namespace Go.Proofs.YtpciieagafddcaaDoor.E
open Go Go.RowKit Go.Proofs Go.Proofs.YtpciieagafddcaaDoorW.PrintWords Go.Proofs.YtpciieagafddcaaDoorW.PrintLast Go.Proofs.YtpciieagafddcaaDoorW.PrintMore Go.Proofs.YtpciieagafddcaaDoor.F
set_option linter.unusedVariables false
set_option linter.unusedSimpArgs false
set_option maxRecDepth 100000
set_option maxHeartbeats 8000000
attribute [local irreducible] acode callR
section
variable {c : Cx} {y : Value}
theorem val_sg (s : Sg) : (fSg s).R c (.agg #[.int .i64 s.plan, .int .i64 s.stage, .int .i64 s.next, .int .i64 s.phase, .int .i64 s.t, .int .i64 s.hold, .int .i64 s.held, .int .i64 s.ask, .int .i64 s.want, .bool s.stop]) :=
  ⟨[_, _, _, _, _, _, _, _, _, _], rfl, ⟨rfl, rfl⟩, ⟨rfl, rfl⟩, ⟨rfl, rfl⟩, ⟨rfl, rfl⟩, ⟨rfl, rfl⟩, ⟨rfl, rfl⟩, ⟨rfl, rfl⟩, ⟨rfl, rfl⟩, ⟨rfl, rfl⟩, ⟨rfl, rfl⟩, trivial⟩
theorem pls_val {l : List S25} (h : (fPls l).R c y) : ∃ A n, y = .slice A l.length n ∧ l.length ≤ n ∧ k25.C c.w A l.length l := by
  have h1 : (cPls l).S c.w c.I y := h.1
  obtain ⟨A, n, rfl⟩ := S_slice h1
  have := pls_C h1
  exact ⟨A, n, rfl, this.1, this.2⟩
end
def SpFewAll : Spec := .pure fun a r => ∃ l b, a = [fPls l] ∧ r = vB b ∧ Ev (fun n => pelicanlaw14_FewAll.f n l) b
theorem fewAll_ok : SpecOk Tryd.prog 29 SpFewAll := by
  rintro args pre r post ⟨⟨l, b, rfl, rfl, hev⟩, rfl, rfl⟩ c ys hgl hy hI hZ hpre hdj
  match ys, hy with
  | [y], ⟨hy, _⟩ =>
    obtain ⟨k, hk⟩ := hev.rounds
    obtain ⟨A, n, rfl, h1, h2⟩ := pls_val hy
    exact (pelicanlaw14_FewAll.calls k A n l b c.w h2 h1 hk).mono fun e w' ⟨he, hb⟩ => by
      subst he
      exact ends_of hI hb ⟨rfl, rfl⟩
namespace St
theorem wr64 {x : Int} (h0 : -9223372036854775808 ≤ x) (h1 : x ≤ 9223372036854775807) : IntKind.i64.wrap x = x := (i64_w x).trans (PG.wr h0 h1)
abbrev PlOf (l : List S25) (s : Sg) : S25 := l.getD s.plan.toNat z25
def fitB (p : S25) : Bool := plan_fitB.f p.f0 p.f1 p.f2 p.f3 p.f4
theorem pl_val {c : Cx} {y : Value} {p : S25} (h : (fPl p).R c y) : ∃ A0 c0 A1 c1, y = .agg #[.slice A0 p.f0.length c0, .slice A1 p.f1.length c1, .int .i64 p.f2, .int .i64 p.f3, .int .i64 p.f4] ∧ p.f0.length ≤ c0 ∧ (Kd.int .i64).C c.w A0 p.f0.length p.f0 ∧ p.f1.length ≤ c1 ∧ k87.C c.w A1 p.f1.length p.f1 := by
  obtain ⟨us, rfl, h⟩ := h
  match us, h with
  | [u0, u1, u2, u3, u4], h =>
    obtain ⟨⟨h0, -⟩, ⟨h1, -⟩, ⟨h2, -⟩, ⟨h3, -⟩, ⟨h4, -⟩, -⟩ := h
    have h0 : (cInts p.f0).S c.w c.I u0 := h0
    have h1 : (cStgs p.f1).S c.w c.I u1 := h1
    have h2 : u2 = _ := h2; have h3 : u3 = _ := h3; have h4 : u4 = _ := h4
    subst h2 h3 h4
    obtain ⟨A0, c0, rfl⟩ := S_slice h0
    obtain ⟨A1, c1, rfl⟩ := S_slice h1
    have g0 := int_C h0
    have g1 := stg_C h1
    exact ⟨A0, c0, A1, c1, rfl, g0.1, g0.2, g1.1, g1.2⟩
def SpFit : Spec := .pure fun a r => ∃ p, a = [fPl p] ∧ r = vB (fitB p)
theorem fit_ok : SpecOk Tryd.prog 25 SpFit := by
  rintro args pre r post ⟨⟨p, rfl, rfl⟩, rfl, rfl⟩ c ys hgl hy hI hZ hpre hdj
  match ys, hy with
  | [y], ⟨hy, _⟩ =>
    obtain ⟨A0, c0, A1, c1, rfl, h0, h1, h2, h3⟩ := pl_val hy
    obtain ⟨k, hk⟩ := (PP.fit_ev p.f0 p.f1 p.f2 p.f3 p.f4 (Kd.C_max h3)).rounds
    exact (plan_Fit.calls k A0 c0 p.f0 A1 c1 p.f1 p.f2 p.f3 p.f4 _ c.w h1 h0 h3 h2 (glob_of hgl) hk).mono fun e w' ⟨he, hb⟩ => by
      subst he
      exact ends_of hI hb ⟨rfl, rfl⟩
def SpAll : Spec := .pure fun a r => ∃ l, a = [fPls l] ∧ r = vB (PU.allB l)
theorem all_ok : SpecOk Tryd.prog 75 SpAll := by
  rintro args pre r post ⟨⟨l, rfl, rfl⟩, rfl, rfl⟩ c ys hgl hy hI hZ hpre hdj
  match ys, hy with
  | [y], ⟨hy, _⟩ =>
    obtain ⟨A, n, rfl, h1, h2⟩ := pls_val hy
    exact (plan_All.calls A n l (PU.allB l) c.w h2 h1 (glob_of hgl) rfl).mono fun e w' ⟨he, hb⟩ => by
      subst he
      exact ends_of hI hb ⟨rfl, rfl⟩
def SpPin : Spec := .pure fun args r => ∃ n a b, args = [fI n, fI a, fI b] ∧ r = vB (Ph.inB n a b)
theorem pin_ok : SpecOk Tryd.prog 56 SpPin := by
  refine spec_of_code TYok ΓOk.nil mixed Tryd.func56 rfl ?_
  rintro args pre r post ⟨⟨n, a, b, rfl, rfl⟩, rfl, rfl⟩
  refine ⟨rfl, ?_⟩
  repeat' (first | refine st_v rfl rfl rfl rfl (fun _ => rfl) rfl (fun _ => rfl) ?_ | refine st_skip rfl rfl rfl ?_ | refine st_b rfl rfl rfl rfl (fun _ => rfl) rfl (fun h1 => ?_) (fun h1 => ?_) | refine st_n rfl rfl rfl rfl (fun _ => rfl) rfl (fun _ => rfl) ?_ | refine st_s rfl rfl rfl rfl (fun _ => rfl) rfl (fun _ => rfl) ?_ | refine c_seq ?_ | refine c_region ?_ | refine c_plain rfl ?_ | refine c_drawn rfl (by kernel_rfl) ?_ | refine st_nil ?_ | refine c_norm ?_ | refine c_cret ?_ | refine c_ret ?_ | refine c_true rfl ?_ | refine c_false rfl ?_ | refine c_skip ?_ | refine c_block ?_ | refine c_bnorm ?_ | refine c_bret ?_ | refine c_bexit rfl ?_ | refine c_bpass rfl ?_ | refine c_exit ?_ | refine c_cexit ?_ | refine c_lret ?_ | refine c_lexit ?_ | refine c_scope ?_ | refine c_label ?_ | refine c_snorm ?_ | refine c_sret ?_ | refine c_sexit ?_ | fail)
  all_goals refine ⟨ret_b ?_, rfl, rfl, trivial⟩
  all_goals (unfold Ph.inB; simp only [decide_eq_true_eq, decide_eq_false_iff_not, ge_iff_le] at *; simp [*])
theorem Γn : ΓOk Tryd.prog (look [(25, SpFit), (56, SpPin)]) := (ΓOk.nil.cons pin_ok Tryd.func56 (by kernel_rfl)).cons fit_ok Tryd.func25 (by kernel_rfl)
def SpNext : Spec := .pure fun a r => ∃ (p : S25) (k : Int), PQ.Fits p.f0 p.f1 p.f2 p.f3 p.f4 ∧ (0 ≤ k ∧ k < (p.f1.length : Int)) ∧ a = [fPl p, fI k] ∧ r = fI (Int.tmod (k + 1) (p.f1.length : Int))
theorem next_ok : SpecOk Tryd.prog 108 SpNext := by
  refine spec_of_code TYok Γn mixed Tryd.func108 rfl ?_
  rintro args pre r post ⟨⟨p, k, hf, hk, rfl, rfl⟩, rfl, rfl⟩
  refine ⟨rfl, ?_⟩
  have hfit : fitB p = true := (PQ.fits_iff _ _ _ _ _).2 hf
  have hfew := hf.few
  have hn : ¬ (p.f1.length : Int) = 0 := by omega
  have hin : Ph.inB k 0 (IntKind.i64.wrap ((p.f1.length : Int) - 1)) = true := by
    rw [wr64 (by omega) (by omega)]
    unfold Ph.inB
    rw [decide_eq_true (by omega), decide_eq_true (by omega)]
    rfl
  repeat' (first | refine st_v rfl rfl rfl rfl (fun _ => rfl) rfl (fun _ => rfl) ?_ | refine st_skip rfl rfl rfl ?_ | refine st_b rfl rfl rfl rfl (fun _ => rfl) rfl (fun h1 => ?_) (fun h1 => ?_) | refine st_n rfl rfl rfl rfl (fun _ => rfl) rfl (fun _ => rfl) ?_ | refine st_s rfl rfl rfl rfl (fun _ => rfl) rfl (fun _ => rfl) ?_ | refine c_seq ?_ | refine c_region ?_ | refine c_plain rfl ?_ | refine c_drawn rfl (by kernel_rfl) ?_ | refine st_nil ?_ | refine c_norm ?_ | refine c_cret ?_ | refine c_ret ?_ | refine c_true rfl ?_ | refine c_false rfl ?_ | refine c_skip ?_ | refine c_block ?_ | refine c_bnorm ?_ | refine c_bret ?_ | refine c_bexit rfl ?_ | refine c_bpass rfl ?_ | refine c_exit ?_ | refine c_cexit ?_ | refine c_lret ?_ | refine c_lexit ?_ | refine c_scope ?_ | refine c_label ?_ | refine c_snorm ?_ | refine c_sret ?_ | refine c_sexit ?_ | refine st_call rfl rfl rfl rfl rfl rfl rfl (call_v (vB true) rfl ⟨p, rfl, (congrArg vB hfit).symm⟩ rfl rfl rfl (cb_v rfl (fun _ => rfl) ?_)) | refine st_call rfl rfl rfl rfl rfl rfl rfl (call_v (vB true) rfl ⟨k, 0, _, rfl, (congrArg vB hin).symm⟩ rfl rfl rfl (cb_v rfl (fun _ => rfl) ?_)) | refine st_pv rfl rfl rfl rfl (fun _ => rfl) hn rfl (fun _ => rfl) ?_ | fail)
  refine ⟨?_, rfl, rfl, trivial⟩
  show some (fI (Int.tmod (IntKind.i64.wrap (k + 1)) (p.f1.length : Int))) = _
  rw [wr64 (by omega) (by omega)]
theorem in_eq {x n : Int} {a : Int} (h0 : 0 ≤ n) (h1 : n ≤ 1000000) : vB (decide (a ≤ x ∧ x < n)) = vB (Ph.inB x a (IntKind.i64.wrap (n - 1))) := by
  rw [wr64 (by omega) (by omega)]
  unfold Ph.inB
  congr 1
  by_cases h2 : a ≤ x
  · by_cases h3 : x < n
    · rw [decide_eq_true (by omega), decide_eq_true h2, decide_eq_true (by omega)]; rfl
    · rw [decide_eq_false (by omega), decide_eq_true h2, decide_eq_false (by omega)]; rfl
  · rw [decide_eq_false (by omega), decide_eq_false h2]; rfl
theorem in_eq2 {x a b : Int} : vB (decide (a ≤ x ∧ x ≤ b)) = vB (Ph.inB x a b) := by
  unfold Ph.inB
  congr 1
  rw [Bool.decide_and]
theorem in_eq3 {x : Int} : vB (decide (0 ≤ x ∧ x < 3)) = vB (Ph.inB x 0 2) := by
  unfold Ph.inB
  congr 1
  rw [← Bool.decide_and, decide_eq_decide]
  omega
theorem all_len {l : List S25} (h : PU.allB l = true) : 1 ≤ l.length ∧ l.length ≤ 3 := by
  unfold PU.allB at h
  rw [Bool.and_eq_true] at h
  exact of_decide_eq_true h.1
theorem fits_of {l : List S25} {s : Sg} (h : PU.allB l = true) (hp : decide (0 ≤ s.plan ∧ s.plan < (l.length : Int)) = true) : PQ.Fits (PlOf l s).f0 (PlOf l s).f1 (PlOf l s).f2 (PlOf l s).f3 (PlOf l s).f4 := (PU.fits_at h (of_decide_eq_true hp).1 (of_decide_eq_true hp).2).1
theorem e_plan {l : List S25} {s : Sg} (h : PU.allB l = true) : vB (decide (0 ≤ s.plan ∧ s.plan < (l.length : Int))) = vB (Ph.inB s.plan 0 (IntKind.i64.wrap ((l.length : Int) - 1))) := in_eq (by have := all_len h; omega) (by have := all_len h; omega)
theorem e_want {l : List S25} {s : Sg} (h : PU.allB l = true) : vB (decide (-1 ≤ s.want ∧ s.want < (l.length : Int))) = vB (Ph.inB s.want (-1) (IntKind.i64.wrap ((l.length : Int) - 1))) := in_eq (by have := all_len h; omega) (by have := all_len h; omega)
theorem e_st {l : List S25} {s : Sg} {x a : Int} (h : PU.allB l = true) (hp : decide (0 ≤ s.plan ∧ s.plan < (l.length : Int)) = true) : vB (decide (a ≤ x ∧ x < ((PlOf l s).f1.length : Int))) = vB (Ph.inB x a (IntKind.i64.wrap (((PlOf l s).f1.length : Int) - 1))) := in_eq (by have := (fits_of h hp).few; omega) (by have := (fits_of h hp).few; omega)
theorem e_hold {l : List S25} {s : Sg} (h : PU.allB l = true) (hp : decide (0 ≤ s.plan ∧ s.plan < (l.length : Int)) = true) (hh : decide (0 ≤ s.held ∧ s.held ≤ (PlOf l s).f4) = true) : vB (decide (0 ≤ s.hold ∧ s.hold ≤ (PlOf l s).f4 - s.held)) = vB (Ph.inB s.hold 0 (IntKind.i64.wrap ((PlOf l s).f4 - s.held))) := by
  have h1 := (fits_of h hp).hold
  have h2 := of_decide_eq_true hh
  rw [wr64 (by omega) (by omega)]
  exact in_eq2
def phB (p : S25) (s : Sg) : Bool := if s.phase = 0 then decide (s.held ≤ s.t ∧ wrap64 (s.t - s.held) < (rd_T87 p.f1 s.stage).f2) && !(s.stop && decide (0 < s.hold)) else decide (s.hold = 0 ∧ s.held = 0 ∧ s.ask = -1 ∧ 0 ≤ s.t ∧ s.t ≤ (if s.phase = 1 then p.f2 - 1 else p.f3))
theorem ph_of {l : List S25} {s : Sg} (h : PU.allB l = true) (hp : decide (0 ≤ s.plan ∧ s.plan < (l.length : Int)) = true) (hs : decide (0 ≤ s.stage ∧ s.stage < ((PlOf l s).f1.length : Int)) = true) : stage_phase.f (PlOf l s).f0 (PlOf l s).f1 (PlOf l s).f2 (PlOf l s).f3 (PlOf l s).f4 s.plan s.stage s.next s.phase s.t s.hold s.held s.ask s.want s.stop = some (phB (PlOf l s) s) := PT.mayPhase_f (PlOf l s) s (of_decide_eq_true hs) (fits_of h hp).amber
theorem mayB_eq (l : List S25) (s : Sg) : stage_mayB.f l s = (PU.allB l && (decide (0 ≤ s.plan ∧ s.plan < (l.length : Int)) && (decide (0 ≤ s.stage ∧ s.stage < ((PlOf l s).f1.length : Int)) && (decide (0 ≤ s.next ∧ s.next < ((PlOf l s).f1.length : Int)) && (decide (-1 ≤ s.ask ∧ s.ask < ((PlOf l s).f1.length : Int)) && (decide (-1 ≤ s.want ∧ s.want < (l.length : Int)) && (decide (0 ≤ s.phase ∧ s.phase < 3) && (decide (0 ≤ s.held ∧ s.held ≤ (PlOf l s).f4) && (decide (0 ≤ s.hold ∧ s.hold ≤ (PlOf l s).f4 - s.held) && phB (PlOf l s) s))))))))) := rfl
theorem Γm : ΓOk Tryd.prog (look [(75, SpAll), (76, Ph.SpIn), (77, Ph.SpPhase)]) := ((ΓOk.nil.cons Ph.phase_ok Tryd.func77 (by kernel_rfl)).cons Ph.in_ok Tryd.func76 (by kernel_rfl)).cons all_ok Tryd.func75 (by kernel_rfl)
end St
open St
def SpMay : Spec := .pure fun a r => ∃ l s, a = [fPls l, fSg s] ∧ r = vB (stage_mayB.f l s)
theorem may_ok : SpecOk Tryd.prog 40 SpMay := by
  refine spec_of_code TYok Γm mixed Tryd.func40 rfl ?_
  rintro args pre r post ⟨⟨l, s, rfl, rfl⟩, rfl, rfl⟩
  refine ⟨rfl, ?_⟩
  repeat' (first | refine st_v rfl rfl rfl rfl (fun _ => rfl) rfl (fun _ => rfl) ?_ | refine st_skip rfl rfl rfl ?_ | refine st_b rfl rfl rfl rfl (fun _ => rfl) rfl (fun h1 => ?_) (fun h1 => ?_) | refine st_n rfl rfl rfl rfl (fun _ => rfl) rfl (fun _ => rfl) ?_ | refine st_s rfl rfl rfl rfl (fun _ => rfl) rfl (fun _ => rfl) ?_ | refine c_seq ?_ | refine c_region ?_ | refine c_plain rfl ?_ | refine c_drawn rfl (by kernel_rfl) ?_ | refine st_nil ?_ | refine c_norm ?_ | refine c_cret ?_ | refine c_ret ?_ | refine c_true rfl ?_ | refine c_false rfl ?_ | refine c_skip ?_ | refine c_block ?_ | refine c_bnorm ?_ | refine c_bret ?_ | refine c_bexit rfl ?_ | refine c_bpass rfl ?_ | refine c_exit ?_ | refine c_cexit ?_ | refine c_lret ?_ | refine c_lexit ?_ | refine c_scope ?_ | refine c_label ?_ | refine c_snorm ?_ | refine c_sret ?_ | refine c_sexit ?_ | refine st_call rfl rfl rfl rfl rfl rfl rfl (call_v (vB (PU.allB l)) rfl ⟨l, rfl, rfl⟩ rfl rfl rfl (cb_b rfl (fun h1 => ?_) (fun h1 => ?_))) | refine st_call rfl rfl rfl rfl rfl rfl rfl (call_v (vB (decide (0 ≤ s.plan ∧ s.plan < (l.length : Int)))) rfl ⟨s.plan, 0, _, rfl, e_plan (by assumption)⟩ rfl rfl rfl (cb_b rfl (fun h1 => ?_) (fun h1 => ?_))) | refine st_call rfl rfl rfl rfl rfl rfl rfl (call_v (vB (decide (0 ≤ s.stage ∧ s.stage < ((PlOf l s).f1.length : Int)))) rfl ⟨s.stage, 0, _, rfl, e_st (by assumption) (by assumption)⟩ rfl rfl rfl (cb_b rfl (fun h1 => ?_) (fun h1 => ?_))) | refine st_call rfl rfl rfl rfl rfl rfl rfl (call_v (vB (decide (0 ≤ s.next ∧ s.next < ((PlOf l s).f1.length : Int)))) rfl ⟨s.next, 0, _, rfl, e_st (by assumption) (by assumption)⟩ rfl rfl rfl (cb_b rfl (fun h1 => ?_) (fun h1 => ?_))) | refine st_call rfl rfl rfl rfl rfl rfl rfl (call_v (vB (decide (-1 ≤ s.ask ∧ s.ask < ((PlOf l s).f1.length : Int)))) rfl ⟨s.ask, -1, _, rfl, e_st (by assumption) (by assumption)⟩ rfl rfl rfl (cb_b rfl (fun h1 => ?_) (fun h1 => ?_))) | refine st_call rfl rfl rfl rfl rfl rfl rfl (call_v (vB (decide (-1 ≤ s.want ∧ s.want < (l.length : Int)))) rfl ⟨s.want, -1, _, rfl, e_want (by assumption)⟩ rfl rfl rfl (cb_b rfl (fun h1 => ?_) (fun h1 => ?_))) | refine st_call rfl rfl rfl rfl rfl rfl rfl (call_v (vB (decide (0 ≤ s.phase ∧ s.phase < 3))) rfl ⟨s.phase, 0, 2, rfl, in_eq3⟩ rfl rfl rfl (cb_b rfl (fun h1 => ?_) (fun h1 => ?_))) | refine st_call rfl rfl rfl rfl rfl rfl rfl (call_v (vB (decide (0 ≤ s.held ∧ s.held ≤ (PlOf l s).f4))) rfl ⟨s.held, 0, (PlOf l s).f4, rfl, in_eq2⟩ rfl rfl rfl (cb_b rfl (fun h1 => ?_) (fun h1 => ?_))) | refine st_call rfl rfl rfl rfl rfl rfl rfl (call_v (vB (decide (0 ≤ s.hold ∧ s.hold ≤ (PlOf l s).f4 - s.held))) rfl ⟨s.hold, 0, _, rfl, e_hold (by assumption) (by assumption) (by assumption)⟩ rfl rfl rfl (cb_b rfl (fun h1 => ?_) (fun h1 => ?_))) | refine st_call rfl rfl rfl rfl rfl rfl rfl (call_v (vB (phB (PlOf l s) s)) rfl ⟨PlOf l s, s, phB (PlOf l s) s, rfl, rfl, ph_of (by assumption) (by assumption) (by assumption)⟩ rfl rfl rfl (cb_b rfl (fun h1 => ?_) (fun h1 => ?_))) | refine st_pv rfl rfl rfl rfl (fun _ => rfl) (of_decide_eq_true (by assumption : decide (0 ≤ s.plan ∧ s.plan < (l.length : Int)) = true)) rfl (fun _ => rfl) ?_ | fail)
  all_goals refine ⟨ret_b ?_, rfl, rfl, trivial⟩
  all_goals (rw [mayB_eq]; simp only [*, Bool.true_and, Bool.false_and, Bool.and_false])
end Go.Proofs.YtpciieagafddcaaDoor.E
