/- TraceRuns: What a new signal machine of one plan shows, whatever is asked of it, and however many ticks go by, has no flaw (without the document's answer) For every input that can be read as data. Conditions: those of the given row and its tied card alone. -/
import Derived.Test.YtpciieagafddcaaDoorQhRS
import Derived.Test.YtpciieagafddcaaDoorQhELTraceRuns
import Derived.Test.YtpciieagafddcaaDoorTie
import Derived.Test.YtpciieagafddcaaDoorCards
import Derived.SevenTiedAt
namespace Go.Proofs.YtpciieagafddcaaDoor.traceRuns
open Go.ChangeShapes Go.WideShapes Go.ChangeAt Go.RowKit
open Go.ChangeMaps (open_string shut_string)
set_option linter.unusedVariables false
set_option maxRecDepth 100000 in
theorem lifted (os : Os) (started : os.Started) (H : Type) (enc : TypeId × Value → H) :
    ReturnsInHanded {} Tryd.checked os 14 .any (fun w args => (Rows.traceRunsSpec.pre enc Tryd.prog Tryd.f14 [] false w args ∧ laidMetH Tryd.prog R.laid w) ∧ sizedMet enc Tryd.prog Tryd.f14 (OpenSpec.ofChange Rows.traceRunsSpec) false w args)
      (Rows.traceRunsSpec.post enc Tryd.prog Tryd.f14 false true false false) := by
  refine returnsInHanded_of_change_and (C := Tryd.checked) (X := fun w _ => laidMetH Tryd.prog R.laid w) (fun _ _ _ hh h => h.of_heap hh) R.own started (by kernel_rfl) Tryd.func14
    (ChangeSpec.witness_shaped (enc := enc) (C := Tryd.checked) (os := os) (X := fun w _ => laidMetH Tryd.prog R.laid w) false (World.doorLaid Tryd.prog 400 os) #[.agg #[.slice none 0 0, .slice none 0 0, .int .i64 0, .int .i64 0, .int .i64 0], .slice none 0 0] 8 rfl (World.shaped_of_RefB (by kernel_rfl) (by kernel_rfl)) (by kernel_rfl) (by kernel_rfl) (by kernel_rfl) (R.door_met os _)) ?_
  intro W base args ds gs before hval0 hW _ _ hL _
  have hval : ∀ (j : Nat) t v, Tryd.f14.params[j]? = some t → args[j]? = some v → Value.okWide Tryd.prog W .any base t v := hval0
  have hW' := hW
  obtain ⟨p, q, hA0, hV, rfl, hfz, hnd⟩ := hW
  have hA : DataW.TrodAll enc Tryd.prog W 0 (fun _ => true) true Tryd.f14.params.toList args.toList ds p := hA0
  rw [Tryd.params14] at hA hval
  obtain ⟨v0, vs0, d0, ds0, p0, q0, hargs, rfl, rfl, h0, r0⟩ := trodAll_cons hA
  obtain ⟨v1, vs1, d1, ds1, p1, q1, rfl, rfl, rfl, h1, r1⟩ := trodAll_cons r0
  obtain ⟨rfl, rfl, rfl⟩ := trodAll_nil r1
  obtain rfl : args = #[v0, v1] := by cases args; simp_all
  obtain ⟨rfl, rfl⟩ := trodVars_none hV
  have k0 := h0
  have lt0 : ∀ x ∈ p0, x.block < W.heap.size := by obtain ⟨m, hm⟩ := k0; exact DataW.trod_lt m _ _ _ hm
  have k1 := h1
  have lt1 : ∀ x ∈ p1, x.block < W.heap.size := by obtain ⟨m, hm⟩ := k1; exact DataW.trod_lt m _ _ _ hm
  obtain ⟨A0_0, c0_0, l0_0, A0_1, c0_1, l0_1, a0_2, a0_3, a0_4, rfl, hc0_0, hC0_0, hc0_1, hC0_1⟩ := R.arg_Plan (hval 0 25 v0 rfl rfl) h0
  obtain ⟨A1, c1, l1, rfl, hc1, hC1, hL1⟩ := R.slice_arg R.opens_LAsk (okWide_slice Tryd.underlying44 (hval 1 44 v1 rfl rfl)) h1
  have hG := R.glob_of_laid hL
  clear hA0 hval0
  refine (E.TraceRuns_calls _ _ l0_0 _ _ l0_1 a0_2 a0_3 a0_4 _ _ l1 W hC0_0 hc0_0 hC0_1 hc0_1 hC1 hc1 hG).mono fun e W' ⟨he, bel⟩ => ?_
  subst he
  exact ⟨_, rfl, _, _, _, [], _, [], hW', trodAll_mk1 (shut_bool Tryd.underlying4 _), (trodAll_cons_mk (Below.trod R.laidOut (by kernel_rfl) (of_decide_eq_true (by kernel_rfl)) k0 bel lt0) (trodAll_cons_mk (Below.trod R.laidOut (by kernel_rfl) (of_decide_eq_true (by kernel_rfl)) k1 bel lt1) trodAll_mk0)), rfl, bel.frame _, fun h => by cases h⟩
theorem over : Rows.traceRunsRow.holds Tryd.pinned (OpenSpec.ofChange Rows.traceRunsSpec) :=
  OpenClaim.holds_of_wide 14 Tryd.f14 rfl rfl rfl rfl rfl rfl rfl ⟨rfl, rfl, rfl, rfl, rfl⟩ rfl rfl rfl rfl rfl (by kernel_rfl) Tryd.func14 (by kernel_rfl)
    (of_decide_eq_true (by kernel_rfl)) (by unfold Func.isWrapper; first | (rw [if_pos (by decide +kernel)]; kernel_rfl) | (rw [if_neg (by decide +kernel)]; exact ⟨rfl, rfl⟩))
    (fun os started H enc _ => lifted os started H enc)
theorem card : Claim7.holds Tryd.pinned (.plain (OpenSpec.ofChange Rows.traceRunsSpec)) Rows.traceRunsCard :=
  Claim7.holds_tied_plain_at .later [] [.data, .data] true (true, "4380db8c651a8fbaa48d545034e56bdbb666504a850215a4bb45c13e0871ec93") true
    over (fun _ h => by cases h) (by kernel_rfl) (fun _ h => by cases h) traceRuns_row_tie rfl ⟨rfl, rfl⟩ (by kernel_rfl) rfl
    (fun f fn hf hfn => by
      obtain rfl : f = 14 := Option.some.inj ((show Tryd.prog.funcNamed "pelican/pelicanlaw23.TraceRuns" = some 14 by kernel_rfl).symm.trans hf) |>.symm
      obtain rfl : fn = Tryd.f14 := (Option.some.inj (Tryd.func14.symm.trans hfn)).symm
      exact ⟨by kernel_rfl, fun j t ht => by
        rw [Tryd.params14] at ht
        have hm : t ∈ [25, 44] := by simpa using Array.mem_of_getElem? ht
        have hall : ([25, 44].all fun u => !Tryd.prog.wantsStandIn u) = true := by kernel_rfl
        exact (show Tryd.prog.wantsStandIn t = false by simpa using List.all_eq_true.1 hall t hm)⟩)
    (by kernel_rfl)
end Go.Proofs.YtpciieagafddcaaDoor.traceRuns
namespace Go.Proofs.YtpciieagafddcaaDoor
theorem traceRuns_holds : Rows.TraceRunsCardSaid := traceRuns.card
#print axioms traceRuns_holds
end Go.Proofs.YtpciieagafddcaaDoor
