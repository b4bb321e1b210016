/- What the machine's functions do, in the engine's words (own text): out of the contracts. -/
import Derived.Test.YtechgjbhgeddjaaDoorQeEB
import Derived.Test.YtechgjbhgeddjaaDoorQeF5
import Derived.Test.YtechgjbhgeddjaaDoorQeF15
import Derived.Test.YtechgjbhgeddjaaDoorQeF21
import Derived.Test.YtechgjbhgeddjaaDoorQeF22
import Derived.Test.YtechgjbhgeddjaaDoorQePV
namespace Go.Proofs.YtechgjbhgeddjaaDoor.E
open Go Go.RowKit Go.Proofs Go.Proofs.YtechgjbhgeddjaaDoorW.PrintWords Go.Proofs.YtechgjbhgeddjaaDoorW.PrintLast Go.Proofs.YtechgjbhgeddjaaDoorW.PrintMore Go.Proofs.YtechgjbhgeddjaaDoor.F
set_option linter.unusedVariables false
set_option linter.unusedSimpArgs false
section
variable {c : Cx} {y : Value}
theorem sg_val {s : Sg} (h : (fSg s).R c y) : y = .agg #[.int .i64 s.plan, .int .i64 s.stage, .int .i64 s.next, .int .i64 s.phase, .int .i64 s.t, .int .i64 s.hold, .int .i64 s.held, .int .i64 s.ask, .int .i64 s.want, .bool s.stop] := by
  obtain ⟨us, rfl, h⟩ := h
  match us, h with
  | [u0, u1, u2, u3, u4, u5, u6, u7, u8, u9], h =>
    obtain ⟨⟨h0, -⟩, ⟨h1, -⟩, ⟨h2, -⟩, ⟨h3, -⟩, ⟨h4, -⟩, ⟨h5, -⟩, ⟨h6, -⟩, ⟨h7, -⟩, ⟨h8, -⟩, ⟨h9, -⟩, -⟩ := h
    have h0 : u0 = _ := h0; have h1 : u1 = _ := h1; have h2 : u2 = _ := h2; have h3 : u3 = _ := h3; have h4 : u4 = _ := h4
    have h5 : u5 = _ := h5; have h6 : u6 = _ := h6; have h7 : u7 = _ := h7; have h8 : u8 = _ := h8; have h9 : u9 = _ := h9
    subst h0 h1 h2 h3 h4 h5 h6 h7 h8 h9
    rfl
theorem val_sg (s : Sg) : (fSg s).R c (.agg #[.int .i64 s.plan, .int .i64 s.stage, .int .i64 s.next, .int .i64 s.phase, .int .i64 s.t, .int .i64 s.hold, .int .i64 s.held, .int .i64 s.ask, .int .i64 s.want, .bool s.stop]) :=
  ⟨[_, _, _, _, _, _, _, _, _, _], rfl, ⟨rfl, rfl⟩, ⟨rfl, rfl⟩, ⟨rfl, rfl⟩, ⟨rfl, rfl⟩, ⟨rfl, rfl⟩, ⟨rfl, rfl⟩, ⟨rfl, rfl⟩, ⟨rfl, rfl⟩, ⟨rfl, rfl⟩, ⟨rfl, rfl⟩, trivial⟩
theorem pls_val {l : List S39} (h : (fPls l).R c y) : ∃ A n, y = .slice A l.length n ∧ l.length ≤ n ∧ k39.C c.w A l.length l := by
  have h1 : (cPls l).S c.w c.I y := h.1
  obtain ⟨A, n, rfl⟩ := S_slice h1
  have := pls_C h1
  exact ⟨A, n, rfl, this.1, this.2⟩
end
def SpAwake : Spec := .pure fun a r => a = [] ∧ r = vB true
theorem awake_ok : SpecOk Tryd.prog 14 SpAwake := by
  rintro args pre r post ⟨⟨rfl, rfl⟩, rfl, rfl⟩ c ys hgl hy hI hZ hpre hdj
  match ys, hy with
  | [], _ =>
    obtain ⟨k, hk⟩ := PU.awake16_ev.rounds
    exact (pelicanlaw16_awake.calls k true c.w (glob_of hgl) hk).mono fun e w' ⟨he, hb⟩ => by
      subst he
      exact ends_of hI hb ⟨rfl, rfl⟩
def SpFewAll : Spec := .pure fun a r => ∃ l b, a = [fPls l] ∧ r = vB b ∧ Ev (fun n => pelicanlaw14_FewAll.f n l) b
theorem fewAll_ok : SpecOk Tryd.prog 15 SpFewAll := by
  rintro args pre r post ⟨⟨l, b, rfl, rfl, hev⟩, rfl, rfl⟩ c ys hgl hy hI hZ hpre hdj
  match ys, hy with
  | [y], ⟨hy, _⟩ =>
    obtain ⟨k, hk⟩ := hev.rounds
    obtain ⟨A, n, rfl, h1, h2⟩ := pls_val hy
    exact (pelicanlaw14_FewAll.calls k A n l b c.w h2 h1 hk).mono fun e w' ⟨he, hb⟩ => by
      subst he
      exact ends_of hI hb ⟨rfl, rfl⟩
end Go.Proofs.YtechgjbhgeddjaaDoor.E
