/- StageGreen walked by the engine (own text). -/
import Derived.Test.YtechgjbhgeddjaaDoorQcEC
namespace Go.Proofs.YtechgjbhgeddjaaDoor.E
open Go Go.RowKit Go.Proofs Go.Proofs.YtechgjbhgeddjaaDoorW.PrintWords Go.Proofs.YtechgjbhgeddjaaDoorW.PrintLast Go.Proofs.YtechgjbhgeddjaaDoorW.PrintMore Go.Proofs.YtechgjbhgeddjaaDoor.F
set_option linter.unusedVariables false
set_option linter.unusedSimpArgs false
set_option maxRecDepth 100000
set_option maxHeartbeats 8000000
attribute [local irreducible] acode callR
theorem ΓGreen : ΓOk Tryd.prog (look [(14, SpAwake), (15, SpFewAll), (22, SpMay), (23, SpTick)]) :=
  (((ΓOk.nil.cons tick_ok Tryd.func23 (by kernel_rfl)).cons may_ok Tryd.func22 (by kernel_rfl)).cons fewAll_ok Tryd.func15 (by kernel_rfl)).cons awake_ok Tryd.func14 (by kernel_rfl)
theorem wr64 {x : Int} (h0 : -9223372036854775808 ≤ x) (h1 : x ≤ 9223372036854775807) : IntKind.i64.wrap x = x := (i64_w x).trans (PG.wr h0 h1)
theorem green_fact {l : List S39} {s : Sg} (h : PU.May l s) (hp : s.phase = 0) :
    ((stage_tickB.f l s).phase = 0 ∧ (stage_tickB.f l s).stage = s.stage ∧ (stage_tickB.f l s).plan = s.plan ∧ (stage_tickB.f l s).t = s.t + 1 ∧ (0 < s.hold ∧ (stage_tickB.f l s).hold = s.hold - 1 ∧ (stage_tickB.f l s).held = s.held + 1 ∨ s.hold = 0 ∧ (stage_tickB.f l s).hold = 0 ∧ (stage_tickB.f l s).held = s.held ∧ s.t + 1 < ((l.getD s.plan.toNat z39).f1.getD s.stage.toNat z41).f2))
    ∨ ((stage_tickB.f l s).phase = 1 ∧ s.hold = 0 ∧ ((l.getD s.plan.toNat z39).f1.getD s.stage.toNat z41).f1 ≤ s.t + 1 ∧ (s.stop = true ∨ s.ask ≠ -1 ∨ s.want ≠ -1 ∨ ((l.getD s.plan.toNat z39).f1.getD s.stage.toNat z41).f2 ≤ s.t + 1) ∧ (stage_tickB.f l s).stage = s.stage ∧ (stage_tickB.f l s).t = 0) := by
  have hh := h.hold
  have hg := h.green hp
  have hsp := h.span
  show (_ ∧ _ ∧ _ ∧ _ ∧ (_ ∨ _ ∧ _ ∧ _ ∧ s.t + 1 < (PU.St l s).f2)) ∨ (_ ∧ _ ∧ (PU.St l s).f1 ≤ s.t + 1 ∧ (_ ∨ _ ∨ _ ∨ (PU.St l s).f2 ≤ s.t + 1) ∧ _ ∧ _)
  by_cases h0 : 0 < s.hold
  · rw [PV.tick_hold h hp h0]
    exact .inl ⟨hp, rfl, rfl, rfl, .inl ⟨h0, rfl, rfl⟩⟩
  · have hz : s.hold = 0 := by omega
    by_cases ht : s.t + 1 < (PU.St l s).f1 ∨ (PV.asked s = false ∧ s.t + 1 < (PU.St l s).f2)
    · rw [PV.tick_green_stay h hp hz ht]
      exact .inl ⟨hp, rfl, rfl, rfl, .inr ⟨hz, hz, rfl, by show s.t + 1 < _; omega⟩⟩
    · have h1 : (PU.St l s).f1 ≤ s.t + 1 := by have : ¬ (s.t + 1 < (PU.St l s).f1) := fun x => ht (.inl x); omega
      have h2 : PV.asked s = true ∨ (PU.St l s).f2 ≤ s.t + 1 := by
        cases ha : PV.asked s with
        | true => exact .inl rfl
        | false => refine .inr ?_; have : ¬ (s.t + 1 < (PU.St l s).f2) := fun x => ht (.inr ⟨ha, x⟩); omega
      rw [PV.tick_green_end h hp hz h1 h2]
      refine .inr ⟨rfl, hz, h1, ?_, rfl, rfl⟩
      rcases h2 with h2 | h2
      · unfold PV.asked at h2
        simp only [Bool.or_eq_true, decide_eq_true_eq] at h2
        rcases h2 with (h2 | h2) | h2
        · exact .inl h2
        · exact .inr (.inl h2)
        · exact .inr (.inr (.inl h2))
      · exact .inr (.inr (.inr h2))
def SpGreen : List FV → FV → Prop := fun a r => ∃ l s, PU.Wf s ∧ a = [fPls l, fSg s] ∧ r = vB true
theorem green_ok : SpecOk Tryd.prog 4 (.pure SpGreen) := by
  refine spec_of_code TYok ΓGreen mixed Tryd.func4 rfl ?_
  rintro args pre r post ⟨⟨l, s, hw, rfl, rfl⟩, rfl, rfl⟩
  refine ⟨rfl, ?_⟩
  obtain ⟨few, hfew⟩ := PU.fewAll_ev l
  repeat' (first | refine st_v rfl rfl rfl rfl (fun _ => rfl) rfl (fun _ => rfl) ?_ | refine st_skip rfl rfl rfl ?_ | refine st_b rfl rfl rfl rfl (fun _ => rfl) rfl (fun h1 => ?_) (fun h1 => ?_) | refine st_n rfl rfl rfl rfl (fun _ => rfl) rfl (fun _ => rfl) ?_ | refine st_s rfl rfl rfl rfl (fun _ => rfl) rfl (fun _ => rfl) ?_ | refine c_seq ?_ | refine c_region ?_ | refine c_plain rfl ?_ | refine c_drawn rfl (by kernel_rfl) ?_ | refine st_nil ?_ | refine c_norm ?_ | refine c_cret ?_ | refine c_ret ?_ | refine c_true rfl ?_ | refine c_false rfl ?_ | refine c_skip ?_ | refine st_call rfl rfl rfl rfl rfl rfl rfl (call_v (vB true) rfl ⟨rfl, rfl⟩ rfl rfl rfl (cb_v rfl (fun _ => rfl) ?_)) | refine st_call rfl rfl rfl rfl rfl rfl rfl (call_v (vB few) rfl ⟨l, few, rfl, rfl, hfew⟩ rfl rfl rfl (cb_b rfl (fun h1 => ?_) (fun h1 => ?_))) | refine st_call rfl rfl rfl rfl rfl rfl rfl (call_v (vB (stage_mayB.f l s)) rfl ⟨l, s, rfl, rfl⟩ rfl rfl rfl (cb_b rfl (fun h1 => ?_) (fun h1 => ?_))) | refine st_call rfl rfl rfl rfl rfl rfl rfl (call_v (fSg (stage_tickB.f l s)) rfl ⟨l, s, rfl, rfl⟩ rfl rfl rfl (cb_v rfl (fun _ => rfl) ?_)) | refine st_pv rfl rfl rfl rfl (fun _ => rfl) (by clear hw hfew; simp only [decide_eq_true_eq, decide_eq_false_iff_not, ge_iff_le, Int.not_lt, Int.not_le] at *; omega) rfl (fun _ => rfl) ?_)
  all_goals try exact ⟨rfl, rfl, rfl, trivial⟩
  all_goals (
    exfalso
    have hM := PU.may_of hw (by assumption : stage_mayB.f l s = true)
    have hp : s.phase = 0 := by simpa using (by assumption : (s.phase != 0) = false)
    have F := green_fact hM hp
    have h0 := hM.t
    have h1 := hM.hold
    have h2 := hM.held
    have h3 := hM.fits.hold
    have W1 : IntKind.i64.wrap (s.t + 1) = s.t + 1 := wr64 (by omega) (by omega)
    have W2 : IntKind.i64.wrap (s.hold - 1) = s.hold - 1 := wr64 (by omega) (by omega)
    have W3 : IntKind.i64.wrap (s.held + 1) = s.held + 1 := wr64 (by omega) (by omega)
    clear hw hfew hM
    simp only [decide_eq_true_eq, decide_eq_false_iff_not, beq_iff_eq, beq_eq_false_iff_ne, bne_iff_ne, bne_eq_false_iff_eq, ne_eq, ge_iff_le, gt_iff_lt] at *
    first | omega | (cases hs : s.stop <;> simp only [hs, reduceCtorEq, false_or, true_or, true_and, and_true] at * <;> omega))
theorem StageGreen_calls (A0 : Option Addr) (c0 : Nat) (l0 : List S39) (a0 a1 a2 a3 a4 a5 a6 a7 a8 : Int) (a9 : Bool) (w : World) (hr0 : k39.C w A0 l0.length l0) (hc0 : l0.length ≤ c0) (hG : GlobOk w) (hw : PU.Wf ⟨a0, a1, a2, a3, a4, a5, a6, a7, a8, a9⟩) :
    Calls Tryd.prog 4 #[.slice A0 l0.length c0, .agg #[.int .i64 a0, .int .i64 a1, .int .i64 a2, .int .i64 a3, .int .i64 a4, .int .i64 a5, .int .i64 a6, .int .i64 a7, .int .i64 a8, .bool a9]] w fun e w' => e = .returned (.bool true) ∧ Below w.heap.size w w' :=
  law_of green_ok ⟨l0, _, hw, rfl, rfl⟩ hG ⟨⟨C_pls hc0 hr0, rfl⟩, val_sg _, trivial⟩
end Go.Proofs.YtechgjbhgeddjaaDoor.E
