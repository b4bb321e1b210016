/- The machine, walked by the engine (own text): may, a tick. -/
import Derived.Test.YtpciieagafddcaaDoorQgEPh
import Derived.Test.YtpciieagafddcaaDoorQgF6
import Derived.Test.YtpciieagafddcaaDoorQgF25
import Derived.Test.YtpciieagafddcaaDoorQgF36
import Derived.Test.YtpciieagafddcaaDoorQgPU
namespace Go.Proofs.YtpciieagafddcaaDoor.E
open Go Go.RowKit Go.Proofs Go.Proofs.YtpciieagafddcaaDoorW.PrintWords Go.Proofs.YtpciieagafddcaaDoorW.PrintLast Go.Proofs.YtpciieagafddcaaDoorW.PrintMore Go.Proofs.YtpciieagafddcaaDoor.F
set_option linter.unusedVariables false
set_option linter.unusedSimpArgs false
set_option maxRecDepth 100000
set_option maxHeartbeats 8000000
attribute [local irreducible] acode callR
section
variable {c : Cx} {y : Value}
end
/-! ### plans -/
namespace St
theorem wr64 {x : Int} (h0 : -9223372036854775808 ≤ x) (h1 : x ≤ 9223372036854775807) : IntKind.i64.wrap x = x := (i64_w x).trans (PG.wr h0 h1)
abbrev PlOf (l : List S25) (s : Sg) : S25 := l.getD s.plan.toNat z25
def fitB (p : S25) : Bool := plan_fitB.f p.f0 p.f1 p.f2 p.f3 p.f4
theorem pl_val {c : Cx} {y : Value} {p : S25} (h : (fPl p).R c y) : ∃ A0 c0 A1 c1, y = .agg #[.slice A0 p.f0.length c0, .slice A1 p.f1.length c1, .int .i64 p.f2, .int .i64 p.f3, .int .i64 p.f4] ∧ p.f0.length ≤ c0 ∧ (Kd.int .i64).C c.w A0 p.f0.length p.f0 ∧ p.f1.length ≤ c1 ∧ k87.C c.w A1 p.f1.length p.f1 := by
  obtain ⟨us, rfl, h⟩ := h
  match us, h with
  | [u0, u1, u2, u3, u4], h =>
    obtain ⟨⟨h0, -⟩, ⟨h1, -⟩, ⟨h2, -⟩, ⟨h3, -⟩, ⟨h4, -⟩, -⟩ := h
    have h0 : (cInts p.f0).S c.w c.I u0 := h0
    have h1 : (cStgs p.f1).S c.w c.I u1 := h1
    have h2 : u2 = _ := h2; have h3 : u3 = _ := h3; have h4 : u4 = _ := h4
    subst h2 h3 h4
    obtain ⟨A0, c0, rfl⟩ := S_slice h0
    obtain ⟨A1, c1, rfl⟩ := S_slice h1
    have g0 := int_C h0
    have g1 := stg_C h1
    exact ⟨A0, c0, A1, c1, rfl, g0.1, g0.2, g1.1, g1.2⟩
def SpFit : Spec := .pure fun a r => ∃ p, a = [fPl p] ∧ r = vB (fitB p)
theorem fit_ok : SpecOk Tryd.prog 25 SpFit := by
  rintro args pre r post ⟨⟨p, rfl, rfl⟩, rfl, rfl⟩ c ys hgl hy hI hZ hpre hdj
  match ys, hy with
  | [y], ⟨hy, _⟩ =>
    obtain ⟨A0, c0, A1, c1, rfl, h0, h1, h2, h3⟩ := pl_val hy
    obtain ⟨k, hk⟩ := (PP.fit_ev p.f0 p.f1 p.f2 p.f3 p.f4 (Kd.C_max h3)).rounds
    exact (plan_Fit.calls k A0 c0 p.f0 A1 c1 p.f1 p.f2 p.f3 p.f4 _ c.w h1 h0 h3 h2 (glob_of hgl) hk).mono fun e w' ⟨he, hb⟩ => by
      subst he
      exact ends_of hI hb ⟨rfl, rfl⟩
def SpPin : Spec := .pure fun args r => ∃ n a b, args = [fI n, fI a, fI b] ∧ r = vB (Ph.inB n a b)
theorem pin_ok : SpecOk Tryd.prog 56 SpPin := by
  refine spec_of_code TYok ΓOk.nil mixed Tryd.func56 rfl ?_
  rintro args pre r post ⟨⟨n, a, b, rfl, rfl⟩, rfl, rfl⟩
  refine ⟨rfl, ?_⟩
  repeat' (first | refine st_v rfl rfl rfl rfl (fun _ => rfl) rfl (fun _ => rfl) ?_ | refine st_skip rfl rfl rfl ?_ | refine st_b rfl rfl rfl rfl (fun _ => rfl) rfl (fun h1 => ?_) (fun h1 => ?_) | refine st_n rfl rfl rfl rfl (fun _ => rfl) rfl (fun _ => rfl) ?_ | refine st_s rfl rfl rfl rfl (fun _ => rfl) rfl (fun _ => rfl) ?_ | refine c_seq ?_ | refine c_region ?_ | refine c_plain rfl ?_ | refine c_drawn rfl (by kernel_rfl) ?_ | refine st_nil ?_ | refine c_norm ?_ | refine c_cret ?_ | refine c_ret ?_ | refine c_true rfl ?_ | refine c_false rfl ?_ | refine c_skip ?_ | refine c_block ?_ | refine c_bnorm ?_ | refine c_bret ?_ | refine c_bexit rfl ?_ | refine c_bpass rfl ?_ | refine c_exit ?_ | refine c_cexit ?_ | refine c_lret ?_ | refine c_lexit ?_ | refine c_scope ?_ | refine c_label ?_ | refine c_snorm ?_ | refine c_sret ?_ | refine c_sexit ?_ | fail)
  all_goals refine ⟨ret_b ?_, rfl, rfl, trivial⟩
  all_goals (unfold Ph.inB; simp only [decide_eq_true_eq, decide_eq_false_iff_not, ge_iff_le] at *; simp [*])
theorem Γn : ΓOk Tryd.prog (look [(25, SpFit), (56, SpPin)]) := (ΓOk.nil.cons pin_ok Tryd.func56 (by kernel_rfl)).cons fit_ok Tryd.func25 (by kernel_rfl)
/-! ### what may be -/
theorem fits_of {l : List S25} {s : Sg} (h : PU.allB l = true) (hp : decide (0 ≤ s.plan ∧ s.plan < (l.length : Int)) = true) : PQ.Fits (PlOf l s).f0 (PlOf l s).f1 (PlOf l s).f2 (PlOf l s).f3 (PlOf l s).f4 := (PU.fits_at h (of_decide_eq_true hp).1 (of_decide_eq_true hp).2).1
end St
open St
end Go.Proofs.YtpciieagafddcaaDoor.E
