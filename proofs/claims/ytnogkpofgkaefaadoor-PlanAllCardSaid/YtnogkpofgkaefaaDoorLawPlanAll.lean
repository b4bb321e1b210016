/- PlanAll: Some plans fit together just if each fits, there are from 1 to 3, and all have as many groups; the order is the same (without the document's answer) For every input that can be read as data. Conditions: those of the given row and its tied card alone. -/
import Derived.Test.YtnogkpofgkaefaaDoorRS
import Derived.Test.YtnogkpofgkaefaaDoorF35
import Derived.Test.YtnogkpofgkaefaaDoorPurePlanAll
import Derived.Test.YtnogkpofgkaefaaDoorTie
import Derived.Test.YtnogkpofgkaefaaDoorCards
import Derived.SevenTiedAt
namespace Go.Proofs.YtnogkpofgkaefaaDoor.planAll
open Go.ChangeShapes Go.WideShapes Go.ChangeAt Go.RowKit
open Go.ChangeMaps (open_string shut_string)
set_option linter.unusedVariables false
set_option maxRecDepth 100000 in
theorem lifted (os : Os) (started : os.Started) (H : Type) (enc : TypeId × Value → H) :
    ReturnsInHanded {} Tryd.checked os 12 .any (fun w args => (Rows.planAllSpec.pre enc Tryd.prog Tryd.f12 [] false w args ∧ laidMetH Tryd.prog R.laid w) ∧ sizedMet enc Tryd.prog Tryd.f12 (OpenSpec.ofChange Rows.planAllSpec) false w args)
      (Rows.planAllSpec.post enc Tryd.prog Tryd.f12 false true false false) := by
  refine returnsInHanded_of_change_and (C := Tryd.checked) (X := fun w _ => laidMetH Tryd.prog R.laid w) (fun _ _ _ hh h => h.of_heap hh) R.own started (by kernel_rfl) Tryd.func12
    (ChangeSpec.witness_shaped (enc := enc) (C := Tryd.checked) (os := os) (X := fun w _ => laidMetH Tryd.prog R.laid w) false (World.doorLaid Tryd.prog 400 os) #[.agg #[.slice none 0 0, .slice none 0 0, .int .i64 0, .int .i64 0, .int .i64 0], .agg #[.slice none 0 0, .slice none 0 0, .int .i64 0, .int .i64 0, .int .i64 0], .agg #[.slice none 0 0, .slice none 0 0, .int .i64 0, .int .i64 0, .int .i64 0]] 8 rfl (World.shaped_of_RefB (by kernel_rfl) (by kernel_rfl)) (by kernel_rfl) (by kernel_rfl) (by kernel_rfl) (R.door_met os _)) ?_
  intro W base args ds gs before hval0 hW _ _ hL _
  have hval : ∀ (j : Nat) t v, Tryd.f12.params[j]? = some t → args[j]? = some v → Value.okWide Tryd.prog W .any base t v := hval0
  have hW' := hW
  obtain ⟨p, q, hA0, hV, rfl, hfz, hnd⟩ := hW
  have hA : DataW.TrodAll enc Tryd.prog W 0 (fun _ => true) true Tryd.f12.params.toList args.toList ds p := hA0
  rw [Tryd.params12] at hA hval
  obtain ⟨v0, vs0, d0, ds0, p0, q0, hargs, rfl, rfl, h0, r0⟩ := trodAll_cons hA
  obtain ⟨v1, vs1, d1, ds1, p1, q1, rfl, rfl, rfl, h1, r1⟩ := trodAll_cons r0
  obtain ⟨v2, vs2, d2, ds2, p2, q2, rfl, rfl, rfl, h2, r2⟩ := trodAll_cons r1
  obtain ⟨rfl, rfl, rfl⟩ := trodAll_nil r2
  obtain rfl : args = #[v0, v1, v2] := by cases args; simp_all
  obtain ⟨rfl, rfl⟩ := trodVars_none hV
  have k0 := h0
  have lt0 : ∀ x ∈ p0, x.block < W.heap.size := by obtain ⟨m, hm⟩ := k0; exact DataW.trod_lt m _ _ _ hm
  have k1 := h1
  have lt1 : ∀ x ∈ p1, x.block < W.heap.size := by obtain ⟨m, hm⟩ := k1; exact DataW.trod_lt m _ _ _ hm
  have k2 := h2
  have lt2 : ∀ x ∈ p2, x.block < W.heap.size := by obtain ⟨m, hm⟩ := k2; exact DataW.trod_lt m _ _ _ hm
  obtain ⟨A0_0, c0_0, l0_0, A0_1, c0_1, l0_1, a0_2, a0_3, a0_4, rfl, hc0_0, hC0_0, hc0_1, hC0_1⟩ := R.arg_Plan (hval 0 37 v0 rfl rfl) h0
  obtain ⟨A1_0, c1_0, l1_0, A1_1, c1_1, l1_1, a1_2, a1_3, a1_4, rfl, hc1_0, hC1_0, hc1_1, hC1_1⟩ := R.arg_Plan (hval 1 37 v1 rfl rfl) h1
  obtain ⟨A2_0, c2_0, l2_0, A2_1, c2_1, l2_1, a2_2, a2_3, a2_4, rfl, hc2_0, hC2_0, hc2_1, hC2_1⟩ := R.arg_Plan (hval 2 37 v2 rfl rfl) h2
  have hG := R.glob_of_laid hL
  clear hA0 hval0
  obtain ⟨k, h⟩ := Pure.PlanAll l0_0 l0_1 a0_2 a0_3 a0_4 l1_0 l1_1 a1_2 a1_3 a1_4 l2_0 l2_1 a2_2 a2_3 a2_4
  refine (F.pelicanlaw14_PlanAll.calls k _ _ _ l0_0 _ _ _ l0_1 a0_2 a0_3 a0_4 _ _ _ l1_0 _ _ _ l1_1 a1_2 a1_3 a1_4 _ _ _ l2_0 _ _ _ l2_1 a2_2 a2_3 a2_4 true rfl W (R.V_of R.foot_Ints hC0_0 hc0_0) (R.V_of R.foot_Stage hC0_1 hc0_1) (R.V_of R.foot_Ints hC1_0 hc1_0) (R.V_of R.foot_Stage hC1_1 hc1_1) (R.V_of R.foot_Ints hC2_0 hc2_0) (R.V_of R.foot_Stage hC2_1 hc2_1) hG h).mono fun e W' ⟨he, bel⟩ => ?_
  subst he
  exact ⟨_, rfl, _, _, _, [], _, [], hW', trodAll_mk1 (shut_bool Tryd.underlying4 _), (trodAll_cons_mk (Below.trod R.laidOut (by kernel_rfl) (of_decide_eq_true (by kernel_rfl)) k0 bel lt0) (trodAll_cons_mk (Below.trod R.laidOut (by kernel_rfl) (of_decide_eq_true (by kernel_rfl)) k1 bel lt1) (trodAll_cons_mk (Below.trod R.laidOut (by kernel_rfl) (of_decide_eq_true (by kernel_rfl)) k2 bel lt2) trodAll_mk0))), rfl, bel.frame _, fun h => by cases h⟩
theorem over : Rows.planAllRow.holds Tryd.pinned (OpenSpec.ofChange Rows.planAllSpec) :=
  OpenClaim.holds_of_wide 12 Tryd.f12 rfl rfl rfl rfl rfl rfl rfl ⟨rfl, rfl, rfl, rfl, rfl⟩ rfl rfl rfl rfl rfl (by kernel_rfl) Tryd.func12 (by kernel_rfl)
    (of_decide_eq_true (by kernel_rfl)) (by unfold Func.isWrapper; first | (rw [if_pos (by decide +kernel)]; kernel_rfl) | (rw [if_neg (by decide +kernel)]; exact ⟨rfl, rfl⟩))
    (fun os started H enc _ => lifted os started H enc)
theorem card : Claim7.holds Tryd.pinned (.plain (OpenSpec.ofChange Rows.planAllSpec)) Rows.planAllCard :=
  Claim7.holds_tied_plain_at .later [] [.data, .data] true (true, "b53bb64d6905f75266489f38b495231fa48918e1c84aa63898e8a66120fe4ae3") false
    over (fun _ h => by cases h) (by kernel_rfl) (fun _ h => by cases h) planAll_row_tie rfl ⟨rfl, rfl⟩ (by kernel_rfl) rfl
    (fun f fn hf hfn => by
      obtain rfl : f = 12 := Option.some.inj ((show Tryd.prog.funcNamed "pelican/pelicanlaw14.PlanAll" = some 12 by kernel_rfl).symm.trans hf) |>.symm
      obtain rfl : fn = Tryd.f12 := (Option.some.inj (Tryd.func12.symm.trans hfn)).symm
      exact ⟨by kernel_rfl, fun j t ht => by
        rw [Tryd.params12] at ht
        have hm : t ∈ [37, 37, 37] := by simpa using Array.mem_of_getElem? ht
        have hall : ([37, 37, 37].all fun u => !Tryd.prog.wantsStandIn u) = true := by kernel_rfl
        exact (show Tryd.prog.wantsStandIn t = false by simpa using List.all_eq_true.1 hall t hm)⟩)
    (by kernel_rfl)
end Go.Proofs.YtnogkpofgkaefaaDoor.planAll
namespace Go.Proofs.YtnogkpofgkaefaaDoor
theorem planAll_holds : Rows.PlanAllCardSaid := planAll.card
#print axioms planAll_holds
end Go.Proofs.YtnogkpofgkaefaaDoor
