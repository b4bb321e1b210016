/- The machine, walked by the engine (own text): may, a tick. -/
import Derived.Test.YtpciieagafddcaaDoorQiEPh
import Derived.Test.YtpciieagafddcaaDoorQiF6
import Derived.Test.YtpciieagafddcaaDoorQiPP
import Derived.Test.YtpciieagafddcaaDoorQiF36
import Derived.Test.YtpciieagafddcaaDoorQiPU
import Derived.Test.YtpciieagafddcaaDoorQiEB
import Derived.Test.YtpciieagafddcaaDoorQiPG
import Derived.Test.YtpciieagafddcaaDoorQiETY
namespace Go.Proofs.YtpciieagafddcaaDoor.E
open Go Go.RowKit Go.Proofs Go.Proofs.YtpciieagafddcaaDoorW.PrintWords Go.Proofs.YtpciieagafddcaaDoorW.PrintLast Go.Proofs.YtpciieagafddcaaDoorW.PrintMore Go.Proofs.YtpciieagafddcaaDoor.F
set_option linter.unusedVariables false
set_option linter.unusedSimpArgs false
set_option maxRecDepth 100000
set_option maxHeartbeats 8000000
attribute [local irreducible] acode callR
section
variable {c : Cx} {y : Value}
end
/-! ### plans -/
namespace St
theorem wr64 {x : Int} (h0 : -9223372036854775808 ≤ x) (h1 : x ≤ 9223372036854775807) : IntKind.i64.wrap x = x := (i64_w x).trans (PG.wr h0 h1)
abbrev PlOf (l : List S25) (s : Sg) : S25 := l.getD s.plan.toNat z25
def fitB (p : S25) : Bool := plan_fitB.f p.f0 p.f1 p.f2 p.f3 p.f4
theorem pl_val {c : Cx} {y : Value} {p : S25} (h : (fPl p).R c y) : ∃ A0 c0 A1 c1, y = .agg #[.slice A0 p.f0.length c0, .slice A1 p.f1.length c1, .int .i64 p.f2, .int .i64 p.f3, .int .i64 p.f4] ∧ p.f0.length ≤ c0 ∧ (Kd.int .i64).C c.w A0 p.f0.length p.f0 ∧ p.f1.length ≤ c1 ∧ k87.C c.w A1 p.f1.length p.f1 := by
  obtain ⟨us, rfl, h⟩ := h
  match us, h with
  | [u0, u1, u2, u3, u4], h =>
    obtain ⟨⟨h0, -⟩, ⟨h1, -⟩, ⟨h2, -⟩, ⟨h3, -⟩, ⟨h4, -⟩, -⟩ := h
    have h0 : (cInts p.f0).S c.w c.I u0 := h0
    have h1 : (cStgs p.f1).S c.w c.I u1 := h1
    have h2 : u2 = _ := h2; have h3 : u3 = _ := h3; have h4 : u4 = _ := h4
    subst h2 h3 h4
    obtain ⟨A0, c0, rfl⟩ := S_slice h0
    obtain ⟨A1, c1, rfl⟩ := S_slice h1
    have g0 := int_C h0
    have g1 := stg_C h1
    exact ⟨A0, c0, A1, c1, rfl, g0.1, g0.2, g1.1, g1.2⟩
def SpFit : Spec := .pure fun a r => ∃ p, a = [fPl p] ∧ r = vB (fitB p)
theorem fit_ok : SpecOk Tryd.prog 25 SpFit := by
  rintro args pre r post ⟨⟨p, rfl, rfl⟩, rfl, rfl⟩ c ys hgl hy hI hZ hpre hdj
  match ys, hy with
  | [y], ⟨hy, _⟩ =>
    obtain ⟨A0, c0, A1, c1, rfl, h0, h1, h2, h3⟩ := pl_val hy
    obtain ⟨k, hk⟩ := (PP.fit_ev p.f0 p.f1 p.f2 p.f3 p.f4 (Kd.C_max h3)).rounds
    exact (plan_Fit.calls k A0 c0 p.f0 A1 c1 p.f1 p.f2 p.f3 p.f4 _ c.w h1 h0 h3 h2 (glob_of hgl) hk).mono fun e w' ⟨he, hb⟩ => by
      subst he
      exact ends_of hI hb ⟨rfl, rfl⟩
def SpPin : Spec := .pure fun args r => ∃ n a b, args = [fI n, fI a, fI b] ∧ r = vB (Ph.inB n a b)
theorem pin_ok : SpecOk Tryd.prog 56 SpPin := by
  refine spec_of_code TYok ΓOk.nil mixed Tryd.func56 rfl ?_
  rintro args pre r post ⟨⟨n, a, b, rfl, rfl⟩, rfl, rfl⟩
  refine ⟨rfl, ?_⟩
  repeat' (first | refine st_v rfl rfl rfl rfl (fun _ => rfl) rfl (fun _ => rfl) ?_ | refine st_skip rfl rfl rfl ?_ | refine st_b rfl rfl rfl rfl (fun _ => rfl) rfl (fun h1 => ?_) (fun h1 => ?_) | refine st_n rfl rfl rfl rfl (fun _ => rfl) rfl (fun _ => rfl) ?_ | refine st_s rfl rfl rfl rfl (fun _ => rfl) rfl (fun _ => rfl) ?_ | refine c_seq ?_ | refine c_region ?_ | refine c_plain rfl ?_ | refine c_drawn rfl (by kernel_rfl) ?_ | refine st_nil ?_ | refine c_norm ?_ | refine c_cret ?_ | refine c_ret ?_ | refine c_true rfl ?_ | refine c_false rfl ?_ | refine c_skip ?_ | refine c_block ?_ | refine c_bnorm ?_ | refine c_bret ?_ | refine c_bexit rfl ?_ | refine c_bpass rfl ?_ | refine c_exit ?_ | refine c_cexit ?_ | refine c_lret ?_ | refine c_lexit ?_ | refine c_scope ?_ | refine c_label ?_ | refine c_snorm ?_ | refine c_sret ?_ | refine c_sexit ?_ | fail)
  all_goals refine ⟨ret_b ?_, rfl, rfl, trivial⟩
  all_goals (unfold Ph.inB; simp only [decide_eq_true_eq, decide_eq_false_iff_not, ge_iff_le] at *; simp [*])
theorem Γn : ΓOk Tryd.prog (look [(25, SpFit), (56, SpPin)]) := (ΓOk.nil.cons pin_ok Tryd.func56 (by kernel_rfl)).cons fit_ok Tryd.func25 (by kernel_rfl)
/-! ### what may be -/
theorem fits_of {l : List S25} {s : Sg} (h : PU.allB l = true) (hp : decide (0 ≤ s.plan ∧ s.plan < (l.length : Int)) = true) : PQ.Fits (PlOf l s).f0 (PlOf l s).f1 (PlOf l s).f2 (PlOf l s).f3 (PlOf l s).f4 := (PU.fits_at h (of_decide_eq_true hp).1 (of_decide_eq_true hp).2).1
end St
open St
end Go.Proofs.YtpciieagafddcaaDoor.E
/- Rows of lamps that are the same, walked by the engine (own text). -/
namespace Go.Proofs.YtpciieagafddcaaDoor.E
open Go Go.RowKit Go.Proofs Go.Proofs.YtpciieagafddcaaDoorW.PrintWords Go.Proofs.YtpciieagafddcaaDoorW.PrintLast Go.Proofs.YtpciieagafddcaaDoorW.PrintMore Go.Proofs.YtpciieagafddcaaDoor.F
set_option linter.unusedVariables false
set_option linter.unusedSimpArgs false
set_option maxRecDepth 100000
set_option maxHeartbeats 8000000
attribute [local irreducible] acode callR
namespace Rw
theorem wr64 {x : Int} (h0 : -9223372036854775808 ≤ x) (h1 : x ≤ 9223372036854775807) : IntKind.i64.wrap x = x := (i64_w x).trans (PG.wr h0 h1)
theorem fI_eq {a b : Int} (h : a = b) : some (fI a) = some (fI b) := by rw [h]
def fRows (x : List (List Int)) : FV := .t (.one (cRows x))
theorem S_el {w : World} {I : Nat → Prop} {n sz : Nat} {el el' : Nat → Nat → CV} {y : Value} (h : (CV.sl n sz el).S w I y) (he : ∀ i j, i < n → j < sz → el i j = el' i j) : (CV.sl n sz el').S w I y := by
  obtain ⟨A, c, rfl, h1, h2, h3⟩ := h
  refine ⟨A, c, rfl, h1, h2, fun i j hi hj => ?_⟩
  obtain ⟨a, u, h4, h5, h6, h7, h8⟩ := h3 i j hi hj
  exact ⟨a, u, h4, h5, h6, by rw [← he i j hi hj]; exact h7, h8⟩
theorem SpecOk.pre {P : Program} {f : Nat} {G G' : List FV → FV → Prop} (h : SpecOk P f (.pure G)) (hw : ∀ a r, G' a r → ∃ b, G b r ∧ ∀ (c : Cx) ys, all2 (FV.R c) a ys → all2 (FV.R c) b ys) : SpecOk P f (.pure G') := by
  rintro args pre r post ⟨hG, rfl, rfl⟩ c ys hgl hy hI hZ hpre hdj
  obtain ⟨b, h1, h2⟩ := hw _ _ hG
  exact h b [] r [] ⟨h1, rfl, rfl⟩ c ys hgl (h2 c ys hy) hI hZ hpre hdj
end Rw
end Go.Proofs.YtpciieagafddcaaDoor.E
/- The types that more walked functions name, as the engine's table (written by wip/eng/mkeng.py). -/
namespace Go.Proofs.YtpciieagafddcaaDoor.E
open Go Go.RowKit Go.Proofs
def TZ : TT := [
(1, ⟨.other, 1, 8, [.nilFunc]⟩),
(2, ⟨.int .i64, 1, 8, [.int .i64 0]⟩),
(3, ⟨.int .i64, 1, 8, [.int .i64 0]⟩),
(4, ⟨.bool, 1, 1, [.bool false]⟩),
(5, ⟨.int .u8, 1, 1, [.int .u8 0]⟩),
(6, ⟨.int .u8, 1, 1, [.int .u8 0]⟩),
(12, ⟨.int .u64, 1, 8, [.int .u64 0]⟩),
(22, ⟨.slice 3, 1, 24, [.slice none 0 0]⟩),
(23, ⟨.slice 87, 1, 24, [.slice none 0 0]⟩),
(24, ⟨.struct [(0, 22), (1, 23), (2, 3), (3, 3), (4, 3)], 5, 72, [.slice none 0 0, .slice none 0 0, .int .i64 0, .int .i64 0, .int .i64 0]⟩),
(25, ⟨.struct [(0, 22), (1, 23), (2, 3), (3, 3), (4, 3)], 5, 72, [.slice none 0 0, .slice none 0 0, .int .i64 0, .int .i64 0, .int .i64 0]⟩),
(26, ⟨.slice 22, 1, 24, [.slice none 0 0]⟩),
(32, ⟨.struct [(0, 3), (1, 3), (2, 3)], 3, 24, [.int .i64 0, .int .i64 0, .int .i64 0]⟩),
(33, ⟨.struct [(0, 3), (1, 3), (2, 3)], 3, 24, [.int .i64 0, .int .i64 0, .int .i64 0]⟩),
(41, ⟨.slice 25, 1, 24, [.slice none 0 0]⟩),
(42, ⟨.struct [(0, 3), (1, 3), (2, 3), (3, 3), (4, 3), (5, 3), (6, 3), (7, 3), (8, 3), (9, 4)], 10, 80, [.int .i64 0, .int .i64 0, .int .i64 0, .int .i64 0, .int .i64 0, .int .i64 0, .int .i64 0, .int .i64 0, .int .i64 0, .bool false]⟩),
(43, ⟨.struct [(0, 3), (1, 3), (2, 3), (3, 3), (4, 3), (5, 3), (6, 3), (7, 3), (8, 3), (9, 4)], 10, 80, [.int .i64 0, .int .i64 0, .int .i64 0, .int .i64 0, .int .i64 0, .int .i64 0, .int .i64 0, .int .i64 0, .int .i64 0, .bool false]⟩),
(44, ⟨.slice 65, 1, 24, [.slice none 0 0]⟩),
(64, ⟨.struct [(0, 3), (1, 3)], 2, 16, [.int .i64 0, .int .i64 0]⟩),
(65, ⟨.struct [(0, 3), (1, 3)], 2, 16, [.int .i64 0, .int .i64 0]⟩),
(74, ⟨.struct [(0, 3), (1, 3), (2, 3)], 3, 24, [.int .i64 0, .int .i64 0, .int .i64 0]⟩),
(75, ⟨.struct [(0, 3), (1, 3), (2, 3)], 3, 24, [.int .i64 0, .int .i64 0, .int .i64 0]⟩),
(76, ⟨.other, 1, 8, [.nilFunc]⟩),
(86, ⟨.struct [(0, 3), (1, 3), (2, 3)], 3, 24, [.int .i64 0, .int .i64 0, .int .i64 0]⟩),
(87, ⟨.struct [(0, 3), (1, 3), (2, 3)], 3, 24, [.int .i64 0, .int .i64 0, .int .i64 0]⟩),
(106, ⟨.arr 3 3, 3, 24, [.int .i64 0, .int .i64 0, .int .i64 0]⟩)
]
theorem TZok : TOk Tryd.prog TZ := tok_of (by kernel_rfl) (by kernel_rfl)
end Go.Proofs.YtpciieagafddcaaDoor.E
