/- The document's layer 14 for lists of plans, and its Next (own text, out of RT.lean). -/
import Derived.Test.YtpciieagafddcaaDoorQjRF
import Derived.Test.YtpciieagafddcaaDoorQjEC
import Derived.Test.YtpciieagafddcaaDoorQjEA14
import Derived.Test.YtpciieagafddcaaDoorQjF43
namespace Go.Proofs.YtpciieagafddcaaDoor.ERA
open Go.RowKit Go.Proofs.YtpciieagafddcaaDoorW.PrintWords Go.Proofs.YtpciieagafddcaaDoorW.PrintLast Go.Proofs.YtpciieagafddcaaDoorW.PrintMore Go.Proofs.YtpciieagafddcaaDoor.F Go.Proofs.YtpciieagafddcaaDoor.PG Go.Proofs.YtpciieagafddcaaDoor.PM Go.Proofs.YtpciieagafddcaaDoor.PP Go.Proofs.YtpciieagafddcaaDoor.PQ Go.Proofs.YtpciieagafddcaaDoor.RF
set_option linter.unusedVariables false
set_option linter.unusedSimpArgs false
theorem next_ev {m : List Int} {ss : List S87} {am red hold : Int} (h : Fits m ss am red hold) {k : Nat} (hk : k < ss.length) : Ev (fun n => pelicanref14_Next.f n m ss am red hold (k : Int)) (((k + 1) % ss.length : Nat) : Int) := by
  have hf := (fits_iff _ _ _ _ _).2 h
  have hfew := h.few
  refine Ev.congr (fun n => rfl) (Ev.bind (rfit_ev m ss am red hold) ?_)
  have c1 : ¬ ((k : Int) < 0) := by omega
  have c2 : ¬ ((k : Int) ≥ (ss.length : Int)) := by omega
  rw [hf]
  simp only [if_true, c1, c2, if_false, decide_false]
  refine Ev.step (f := fun _ => some (((k + 1) % ss.length : Nat) : Int)) (fun n => ?_) (Ev.now _)
  simp only [pelicanref14_Next.j0, Bool.false_eq_true, if_false]
  rw [wr (x := (ss.length : Int) - 1) (by omega) (by omega), wr (by omega) (by omega)]
  by_cases e : k + 1 = ss.length
  · rw [if_pos (by omega), e, Nat.mod_self]; rfl
  · rw [if_neg (by omega), Nat.mod_eq_of_lt (by omega)]; rfl
end Go.Proofs.YtpciieagafddcaaDoor.ERA
/- The document's layer 16, walked by the engine (own text): it is the machine's. -/
namespace Go.Proofs.YtpciieagafddcaaDoor.E
open Go Go.RowKit Go.Proofs Go.Proofs.YtpciieagafddcaaDoorW.PrintWords Go.Proofs.YtpciieagafddcaaDoorW.PrintLast Go.Proofs.YtpciieagafddcaaDoorW.PrintMore Go.Proofs.YtpciieagafddcaaDoor.F
set_option linter.unusedVariables false
set_option linter.unusedSimpArgs false
set_option maxRecDepth 100000
set_option maxHeartbeats 8000000
attribute [local irreducible] acode callR
namespace Ref
theorem wr64 {x : Int} (h0 : -9223372036854775808 ≤ x) (h1 : x ≤ 9223372036854775807) : IntKind.i64.wrap x = x := (i64_w x).trans (PG.wr h0 h1)
structure Parts (l : List S25) (s : Sg) : Prop where
  all : PU.allB l = true
  plan : 0 ≤ s.plan ∧ s.plan < (l.length : Int)
  stage : 0 ≤ s.stage ∧ s.stage < ((l.getD s.plan.toNat z25).f1.length : Int)
  next : 0 ≤ s.next ∧ s.next < ((l.getD s.plan.toNat z25).f1.length : Int)
  ask : -1 ≤ s.ask ∧ s.ask < ((l.getD s.plan.toNat z25).f1.length : Int)
  want : -1 ≤ s.want ∧ s.want < (l.length : Int)
  held : 0 ≤ s.held ∧ s.held ≤ (l.getD s.plan.toNat z25).f4
  hold : 0 ≤ s.hold ∧ s.hold ≤ (l.getD s.plan.toNat z25).f4 - s.held
  phase : (s.phase = 0 ∧ s.held ≤ s.t ∧ s.t - s.held < ((l.getD s.plan.toNat z25).f1.getD s.stage.toNat z87).f2 ∧ (s.stop = false ∨ s.hold = 0))
    ∨ (s.phase = 1 ∧ s.hold = 0 ∧ s.held = 0 ∧ s.ask = -1 ∧ 0 ≤ s.t ∧ s.t < (l.getD s.plan.toNat z25).f2)
    ∨ (s.phase = 2 ∧ s.hold = 0 ∧ s.held = 0 ∧ s.ask = -1 ∧ 0 ≤ s.t ∧ s.t ≤ (l.getD s.plan.toNat z25).f3)
theorem parts_of {l : List S25} {s : Sg} (h : PU.May l s) : Parts l s := by
  have hho := h.hold
  refine ⟨h.all, h.plan, h.stage, h.next, h.ask, h.want, h.held, h.hold, ?_⟩
  have hp := h.phase
  by_cases h0 : s.phase = 0
  · obtain ⟨h1, h2, h3⟩ := h.green h0
    refine .inl ⟨h0, h1, h2, ?_⟩
    cases hs : s.stop with
    | false => exact .inl rfl
    | true => exact .inr (by have : ¬ 0 < s.hold := fun x => h3 ⟨hs, x⟩; omega)
  · obtain ⟨h1, h2, h3, h4, h5⟩ := h.other h0
    by_cases h6 : s.phase = 1
    · rw [if_pos h6] at h5
      exact .inr (.inl ⟨h6, h1, h2, h3, h4, by show s.t < (PU.P l s).f2; omega⟩)
    · rw [if_neg h6] at h5
      exact .inr (.inr ⟨by omega, h1, h2, h3, h4, h5⟩)
theorem of_parts {l : List S25} {s : Sg} (h : Parts l s) : PU.May l s := by
  have hph := h.phase
  refine ⟨h.all, h.plan, h.stage, h.next, h.ask, h.want, by omega, h.held, h.hold, fun h0 => ?_, fun h0 => ?_⟩
  · rcases hph with hph | hph | hph
    · refine ⟨hph.2.1, hph.2.2.1, fun hx => ?_⟩
      rcases hph.2.2.2 with h1 | h1
      · rw [h1] at hx; cases hx.1
      · omega
    · omega
    · omega
  · rcases hph with hph | hph | hph
    · omega
    · rw [if_pos hph.1]
      refine ⟨hph.2.1, hph.2.2.1, hph.2.2.2.1, hph.2.2.2.2.1, ?_⟩
      have := hph.2.2.2.2.2
      show s.t ≤ (l.getD s.plan.toNat z25).f2 - 1
      omega
    · rw [if_neg (by omega)]
      exact ⟨hph.2.1, hph.2.2.1, hph.2.2.2.1, hph.2.2.2.2.1, hph.2.2.2.2.2⟩
theorem may_iff {l : List S25} {s : Sg} (hw : PU.Wf s) : stage_mayB.f l s = true ↔ Parts l s := ⟨fun h => parts_of (PU.may_of hw h), fun h => PU.may_to (of_parts h)⟩
theorem fits_at {l : List S25} {k : Int} (h : PU.allB l = true) (h0 : 0 ≤ k) (h1 : k < (l.length : Int)) : (0 ≤ (l.getD k.toNat z25).f4 ∧ (l.getD k.toNat z25).f4 ≤ 300) := (PU.fits_at h h0 h1).1.hold
def SpMay : Spec := .pure fun a r => ∃ l s, PU.Wf s ∧ a = [fPls l, fSg s] ∧ r = vB (stage_mayB.f l s)
theorem Γ1 : ΓOk Tryd.prog (look [(100, SpAll)]) := ΓOk.nil.cons all_ok Tryd.func100 (by kernel_rfl)
theorem may_ok : SpecOk Tryd.prog 68 SpMay := by
  refine spec_of_code TYok Γ1 mixed Tryd.func68 rfl ?_
  rintro args pre r post ⟨⟨l, s, hw, rfl, rfl⟩, rfl, rfl⟩
  refine ⟨rfl, ?_⟩
  repeat' (first | refine st_v rfl rfl rfl rfl (fun _ => rfl) rfl (fun _ => rfl) ?_ | refine st_skip rfl rfl rfl ?_ | refine st_b rfl rfl rfl rfl (fun _ => rfl) rfl (fun h1 => ?_) (fun h1 => ?_) | refine st_n rfl rfl rfl rfl (fun _ => rfl) rfl (fun _ => rfl) ?_ | refine st_s rfl rfl rfl rfl (fun _ => rfl) rfl (fun _ => rfl) ?_ | refine c_seq ?_ | refine c_region ?_ | refine c_plain rfl ?_ | refine c_drawn rfl (by kernel_rfl) ?_ | refine st_nil ?_ | refine c_norm ?_ | refine c_cret ?_ | refine c_ret ?_ | refine c_true rfl ?_ | refine c_false rfl ?_ | refine c_skip ?_ | refine c_block ?_ | refine c_bnorm ?_ | refine c_bret ?_ | refine c_bexit rfl ?_ | refine c_bpass rfl ?_ | refine c_exit ?_ | refine c_cexit ?_ | refine c_lret ?_ | refine c_lexit ?_ | refine c_scope ?_ | refine c_label ?_ | refine c_snorm ?_ | refine c_sret ?_ | refine c_sexit ?_ | refine st_call rfl rfl rfl rfl rfl rfl rfl (call_v (vB (PU.allB l)) rfl ⟨l, rfl, rfl⟩ rfl rfl rfl (cb_b rfl (fun h1 => ?_) (fun h1 => ?_))) | refine st_pv rfl rfl rfl rfl (fun _ => rfl) (by clear hw; simp only [decide_eq_true_eq, decide_eq_false_iff_not, ge_iff_le, Int.not_lt, Int.not_le] at *; omega) rfl (fun _ => rfl) ?_ | fail)
  all_goals refine ⟨ret_b ?_, rfl, rfl, trivial⟩
  all_goals first
    | (refine (Bool.eq_false_iff.2 fun hm => ?_).symm
       obtain ⟨g0, g1, g2, g3, g4, g5, g6, g7, g8⟩ := (may_iff hw).1 hm
       have g9 := fits_at g0 g1.1 g1.2
       have gw : -9223372036854775808 ≤ s.t ∧ s.t ≤ 9223372036854775807 := hw
       clear hw hm
       first
         | (simp_all; done)
         | (simp only [i64_w, Go.RowKit.wrap64, decide_eq_true_eq, decide_eq_false_iff_not, beq_iff_eq, beq_eq_false_iff_ne, bne_iff_ne, bne_eq_false_iff_eq, ne_eq, Decidable.not_not, ge_iff_le, gt_iff_lt, Int.not_lt, Int.not_le, Bool.not_eq_true, Bool.not_eq_true', Bool.not_eq_false'] at *
            first | omega | (rcases g8 with ⟨e0, e1, e2, e3⟩ | e3 | e3 <;> first | omega | (rcases e3 with e3 | e3 <;> first | omega | (simp_all; done)))))
    | (refine ((may_iff hw).2 ?_).symm
       have ga : PU.allB l = true := by assumption
       have g9 := fits_at (k := s.plan) ga (by simp only [i64_w, Go.RowKit.wrap64, decide_eq_true_eq, decide_eq_false_iff_not, beq_iff_eq, beq_eq_false_iff_ne, bne_iff_ne, bne_eq_false_iff_eq, ne_eq, Decidable.not_not, ge_iff_le, gt_iff_lt, Int.not_lt, Int.not_le, Bool.not_eq_true, Bool.not_eq_true', Bool.not_eq_false'] at *; omega) (by simp only [i64_w, Go.RowKit.wrap64, decide_eq_true_eq, decide_eq_false_iff_not, beq_iff_eq, beq_eq_false_iff_ne, bne_iff_ne, bne_eq_false_iff_eq, ne_eq, Decidable.not_not, ge_iff_le, gt_iff_lt, Int.not_lt, Int.not_le, Bool.not_eq_true, Bool.not_eq_true', Bool.not_eq_false'] at *; omega)
       have gw : -9223372036854775808 ≤ s.t ∧ s.t ≤ 9223372036854775807 := hw
       clear hw
       simp only [i64_w, Go.RowKit.wrap64, decide_eq_true_eq, decide_eq_false_iff_not, beq_iff_eq, beq_eq_false_iff_ne, bne_iff_ne, bne_eq_false_iff_eq, ne_eq, Decidable.not_not, ge_iff_le, gt_iff_lt, Int.not_lt, Int.not_le, Bool.not_eq_true, Bool.not_eq_true', Bool.not_eq_false'] at *
       exact ⟨ga, by omega, by omega, by omega, by omega, by omega, by omega, by omega, by first | exact .inl ⟨by omega, by omega, by omega, by first | exact .inl (by assumption) | exact .inr (by omega)⟩ | exact .inr (.inl (by omega)) | exact .inr (.inr (by omega))⟩)
def SpNext : Spec := .pure fun a r => ∃ (p : S25) (k : Nat), PQ.Fits p.f0 p.f1 p.f2 p.f3 p.f4 ∧ k < p.f1.length ∧ a = [fPl p, fI (k : Int)] ∧ r = fI (((k + 1) % p.f1.length : Nat) : Int)
theorem pl_val {c : Cx} {y : Value} {p : S25} (h : (fPl p).R c y) : ∃ A0 c0 A1 c1, y = .agg #[.slice A0 p.f0.length c0, .slice A1 p.f1.length c1, .int .i64 p.f2, .int .i64 p.f3, .int .i64 p.f4] ∧ p.f0.length ≤ c0 ∧ (Kd.int .i64).C c.w A0 p.f0.length p.f0 ∧ p.f1.length ≤ c1 ∧ k87.C c.w A1 p.f1.length p.f1 := by
  obtain ⟨us, rfl, h⟩ := h
  match us, h with
  | [u0, u1, u2, u3, u4], h =>
    obtain ⟨⟨h0, -⟩, ⟨h1, -⟩, ⟨h2, -⟩, ⟨h3, -⟩, ⟨h4, -⟩, -⟩ := h
    have h0 : (cInts p.f0).S c.w c.I u0 := h0
    have h1 : (cStgs p.f1).S c.w c.I u1 := h1
    have h2 : u2 = _ := h2; have h3 : u3 = _ := h3; have h4 : u4 = _ := h4
    subst h2 h3 h4
    obtain ⟨A0, c0, rfl⟩ := S_slice h0
    obtain ⟨A1, c1, rfl⟩ := S_slice h1
    have g0 := int_C h0
    have g1 := stg_C h1
    exact ⟨A0, c0, A1, c1, rfl, g0.1, g0.2, g1.1, g1.2⟩
theorem next_ok : SpecOk Tryd.prog 119 SpNext := by
  rintro args pre r post ⟨⟨p, k, hf, hk, rfl, rfl⟩, rfl, rfl⟩ c ys hgl hy hI hZ hpre hdj
  match ys, hy with
  | [y, z], ⟨hy, hz, _⟩ =>
    obtain ⟨n, hn⟩ := (ERA.next_ev hf hk).rounds
    obtain ⟨A0, c0, A1, c1, rfl, h0, h1, h2, h3⟩ := pl_val hy
    have hz : z = .int .i64 (k : Int) := hz.1
    subst hz
    exact (pelicanref14_Next.calls n A0 c0 p.f0 A1 c1 p.f1 p.f2 p.f3 p.f4 (k : Int) _ c.w h1 h0 h3 h2 hn).mono fun e w' ⟨he, hb⟩ => by
      subst he
      exact ends_of hI hb ⟨rfl, rfl⟩
abbrev PlOf (l : List S25) (s : Sg) : S25 := l.getD s.plan.toNat z25
end Ref
end Go.Proofs.YtpciieagafddcaaDoor.E
