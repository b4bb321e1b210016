/- Woven by wip/weave/weave.py of this repo (own tool) out of the translation: the contracts of some functions. Lean checks it. -/
import Derived.Test.YtnogkpofgkaefaaDoorD
import Derived.Test.YtnogkpofgkaefaaDoorDPlanLeast
import Derived.Test.YtnogkpofgkaefaaDoorF0
import Derived.Test.YtnogkpofgkaefaaDoorF20
import Derived.Test.YtnogkpofgkaefaaDoorF23
import Derived.Test.YtnogkpofgkaefaaDoorF24
namespace Go.Proofs.YtnogkpofgkaefaaDoor.F
open Go.RowKit Go.Proofs.YtnogkpofgkaefaaDoorW.PrintWords Go.Proofs.YtnogkpofgkaefaaDoorW.PrintLast Go.Proofs.YtnogkpofgkaefaaDoorW.PrintMore
attribute [local go_sem] max2_int min2_int max_two min_two max_three min_three max_four min_four   -- for this text's walks alone
set_option linter.unusedVariables false
set_option linter.unusedSimpArgs false

/-! ### pelicanlaw14_PlanLeast: function 10 -/
set_option maxHeartbeats 8000000 in
set_option maxRecDepth 100000 in
theorem pelicanlaw14_PlanLeast.calls (k : Nat) (A0_0 : Option Addr) (c0_0 : Nat) (l0_0 : List Int) (A0_1 : Option Addr) (c0_1 : Nat) (l0_1 : List (S47)) (a0_2 : Int) (a0_3 : Int) (a0_4 : Int) (a1 : Int) (a2 : Int) (r : Bool) (w : World) (hr0_0 : Kd.C (Kd.int .i64) w A0_0 l0_0.length l0_0) (hc0_0 : l0_0.length ≤ c0_0) (hr0_1 : Kd.C k47 w A0_1 l0_1.length l0_1) (hc0_1 : l0_1.length ≤ c0_1) (hG : GlobOk w) (h : pelicanlaw14_PlanLeast.f k l0_0 l0_1 a0_2 a0_3 a0_4 a1 a2 = some r) :
    Calls Tryd.prog 10 #[.agg #[.slice A0_0 l0_0.length c0_0, .slice A0_1 l0_1.length c0_1, .int .i64 a0_2, .int .i64 a0_3, .int .i64 a0_4], .int .i64 a1, .int .i64 a2] w fun e w' => e = .returned (.bool r) ∧ Below w.heap.size w w' := by
  have hu37 := Tryd.underlying37
  have HR0_0 := Aside0.mk hr0_0
  have HC0_0 := Aside0.mk hc0_0
  clear hr0_0 hc0_0
  have HR0_1 := Aside0.mk hr0_1
  have HC0_1 := Aside0.mk hc0_1
  clear hr0_1 hc0_1
  have HG := Aside0.mk hG
  clear hG
  have HB := Aside0.mk (Below.refl w.heap.size w)
  have H : ((pelicanlaw14_awake.f k).bind fun t354 => ((pelicanlaw14_Few.f l0_0 l0_1 a0_2 a0_3 a0_4).bind fun t355 => (if t354 = true then (if t355 = true then ((plan_Fit.f k l0_0 l0_1 a0_2 a0_3 a0_4).bind fun t356 => (if t356 = true then (if a1 < 0 then (pelicanlaw14_PlanLeast.j0 k a1 a2 t354 true l0_0 l0_1 a0_2 a0_3 a0_4) else (if a1 ≥ (l0_1.length : Int) then (pelicanlaw14_PlanLeast.j0 k a1 a2 t354 true l0_0 l0_1 a0_2 a0_3 a0_4) else (if a2 < 0 then (pelicanlaw14_PlanLeast.j0 k a1 a2 t354 true l0_0 l0_1 a0_2 a0_3 a0_4) else (pelicanlaw14_PlanLeast.j0 k a1 a2 t354 (decide (a2 ≥ (l0_0.length : Int))) l0_0 l0_1 a0_2 a0_3 a0_4)))) else (pelicanlaw14_PlanLeast.j0 k a1 a2 t354 true l0_0 l0_1 a0_2 a0_3 a0_4))) else (pelicanlaw14_PlanLeast.j0 k a1 a2 t354 true l0_0 l0_1 a0_2 a0_3 a0_4)) else (pelicanlaw14_PlanLeast.j0 k a1 a2 t354 true l0_0 l0_1 a0_2 a0_3 a0_4)))) = some r := h
  clear h
  replace H := Option.bind_eq_some_iff.mp H
  obtain ⟨t354, A40, H⟩ := H
  replace H : ((pelicanlaw14_Few.f l0_0 l0_1 a0_2 a0_3 a0_4).bind fun t355 => (if t354 = true then (if t355 = true then ((plan_Fit.f k l0_0 l0_1 a0_2 a0_3 a0_4).bind fun t356 => (if t356 = true then (if a1 < 0 then (pelicanlaw14_PlanLeast.j0 k a1 a2 t354 true l0_0 l0_1 a0_2 a0_3 a0_4) else (if a1 ≥ (l0_1.length : Int) then (pelicanlaw14_PlanLeast.j0 k a1 a2 t354 true l0_0 l0_1 a0_2 a0_3 a0_4) else (if a2 < 0 then (pelicanlaw14_PlanLeast.j0 k a1 a2 t354 true l0_0 l0_1 a0_2 a0_3 a0_4) else (pelicanlaw14_PlanLeast.j0 k a1 a2 t354 (decide (a2 ≥ (l0_0.length : Int))) l0_0 l0_1 a0_2 a0_3 a0_4)))) else (pelicanlaw14_PlanLeast.j0 k a1 a2 t354 true l0_0 l0_1 a0_2 a0_3 a0_4))) else (pelicanlaw14_PlanLeast.j0 k a1 a2 t354 true l0_0 l0_1 a0_2 a0_3 a0_4)) else (pelicanlaw14_PlanLeast.j0 k a1 a2 t354 true l0_0 l0_1 a0_2 a0_3 a0_4))) = some r := H
  have A4 := Aside0.mk A40
  clear A40
  replace H := Option.bind_eq_some_iff.mp H
  obtain ⟨t355, A50, H⟩ := H
  replace H : (if t354 = true then (if t355 = true then ((plan_Fit.f k l0_0 l0_1 a0_2 a0_3 a0_4).bind fun t356 => (if t356 = true then (if a1 < 0 then (pelicanlaw14_PlanLeast.j0 k a1 a2 t354 true l0_0 l0_1 a0_2 a0_3 a0_4) else (if a1 ≥ (l0_1.length : Int) then (pelicanlaw14_PlanLeast.j0 k a1 a2 t354 true l0_0 l0_1 a0_2 a0_3 a0_4) else (if a2 < 0 then (pelicanlaw14_PlanLeast.j0 k a1 a2 t354 true l0_0 l0_1 a0_2 a0_3 a0_4) else (pelicanlaw14_PlanLeast.j0 k a1 a2 t354 (decide (a2 ≥ (l0_0.length : Int))) l0_0 l0_1 a0_2 a0_3 a0_4)))) else (pelicanlaw14_PlanLeast.j0 k a1 a2 t354 true l0_0 l0_1 a0_2 a0_3 a0_4))) else (pelicanlaw14_PlanLeast.j0 k a1 a2 t354 true l0_0 l0_1 a0_2 a0_3 a0_4)) else (pelicanlaw14_PlanLeast.j0 k a1 a2 t354 true l0_0 l0_1 a0_2 a0_3 a0_4)) = some r := H
  have A5 := Aside0.mk A50
  clear A50
  have HC6 := Aside0.mk H
  clear H
  go_enter Tryd.func10, Tryd.ntmps10
  go_upto_region 3 with (first | ((with_reducible refine gate_dst (N := 3) rfl ?_); (try (refine gate_guard (by rfl) ?_; dsimp only)); refine box_event ?hg (N := 3) ?hd (cs := #[.slice A0_0 l0_0.length c0_0, .slice A0_1 l0_1.length c0_1, .int .i64 a0_2, .int .i64 a0_3, .int .i64 a0_4]) (t := 37) ?hr ?_; (case hd => rfl); (case hg => rfl); (case hr => first | (go_simp; done) | (go_simp; rfl)); intro gb353 hg w7 hbox hb; have n0_ := Aside0.mk (below_step (by repeat (first | (with_reducible first | exact HB.out | apply below_alloc | apply pw_below_drewN | apply below_drew1) | exact HB.out)) hb); have n1_ := Aside0.mk (hbox); have n2_ := Aside0.mk ((by rw [hg]; exact (below_size (by repeat (first | (with_reducible first | exact HB.out | apply below_alloc | apply pw_below_drewN | apply below_drew1) | exact HB.out))) : w.heap.size ≤ gb353)); have n3_ := Aside0.mk ((by rw [hg]; exact (below_size (by repeat (first | (with_reducible first | exact HB.out | apply below_alloc | apply pw_below_drewN | apply below_drew1) | exact HB.out))) : w.heap.size ≤ gb353)); clear HB; have HB := n0_; have BK353 := n1_; have GW353 := n2_; have GE353 := n3_; clear n0_ n1_ n2_ n3_; clear hb hbox hg) | ((with_reducible refine gate_callee (f := 28) rfl ?_); refine goesL_ (some 12) rfl rfl Tryd.func28 (by kernel_rfl) rfl #[] rfl (by (try simp only [List.map_toArray, List.map_cons, List.map_nil]); first | done | rfl | (simp only [List.length_drop, List.length_take]; rfl)) ?_; (with_reducible refine (pelicanlaw14_awake.calls k  t354 _ ?side1 A4.out).mono ?_); (case side1 => first | (with_reducible exact HG.out) | (refine GlobOk.below HG.out ?_; repeat (first | (with_reducible first | exact HB.out | apply below_alloc | apply pw_below_drewN | apply below_drew1 | refine below_set ?_ GE353.out) | exact HB.out))); rintro e w8 ⟨rfl, hb⟩; refine ⟨_, rfl, ?_⟩; have n0_ := Aside0.mk (blk_below (g := gb353) (o := .cells #[.slice A0_0 l0_0.length c0_0, .slice A0_1 l0_1.length c0_1, .int .i64 a0_2, .int .i64 a0_3, .int .i64 a0_4] 37 (0, 0)) (by (with_reducible repeat (first | refine blk_drewN ?_ _ | refine blk_drew ?_ | refine blk_alloc ?_ _)); exact BK353.out) hb); have n1_ := Aside0.mk (below_step (by repeat (first | (with_reducible first | exact HB.out | apply below_alloc | apply pw_below_drewN | apply below_drew1 | refine below_set ?_ GE353.out) | exact HB.out)) hb); clear BK353; clear HB; have BK353 := n0_; have HB := n1_; clear n0_ n1_; (try clear hb); (try clear hb2); (try clear hk); (try clear hi); have hcz9_0 : w8.cell? ⟨gb353, 0, none⟩ = some (.slice A0_0 l0_0.length c0_0) := (blk_cell BK353.out 0).trans rfl; have hcz9_1 : w8.cell? ⟨gb353, 1, none⟩ = some (.slice A0_1 l0_1.length c0_1) := (blk_cell BK353.out 1).trans rfl; have hcz9_2 : w8.cell? ⟨gb353, 2, none⟩ = some (.int .i64 a0_2) := (blk_cell BK353.out 2).trans rfl; have hcz9_3 : w8.cell? ⟨gb353, 3, none⟩ = some (.int .i64 a0_3) := (blk_cell BK353.out 3).trans rfl; have hcz9_4 : w8.cell? ⟨gb353, 4, none⟩ = some (.int .i64 a0_4) := (blk_cell BK353.out 4).trans rfl; have hfz9_0 := blk_frozen BK353.out 0; have hfz9_1 := blk_frozen BK353.out 1; have hfz9_2 := blk_frozen BK353.out 2; have hfz9_3 := blk_frozen BK353.out 3; have hfz9_4 := blk_frozen BK353.out 4) | ((with_reducible refine gate_callee (f := 29) rfl ?_); refine goesL_ (some 14) rfl rfl Tryd.func29 (by kernel_rfl) rfl #[.agg #[.slice A0_0 l0_0.length c0_0, .slice A0_1 l0_1.length c0_1, .int .i64 a0_2, .int .i64 a0_3, .int .i64 a0_4]] rfl (by (try simp only [List.map_toArray, List.map_cons, List.map_nil]); first | done | rfl | (simp only [List.length_drop, List.length_take]; rfl)) ?_; (with_reducible refine (pelicanlaw14_Few.calls _ _ l0_0 _ _ l0_1 a0_2 a0_3 a0_4 t355 _ ?side1 ?side2 ?side3 ?side4 A5.out).mono ?_); (case side1 => repeat (first | exact (Kd.C_below HR0_0.out HB.out) | (with_reducible refine Kd.C_alloc ?_ _) | (with_reducible refine Kd.C_drewN ?_ _) | (with_reducible refine Kd.C_drew ?_))); (case side2 => exact HC0_0.out); (case side3 => repeat (first | exact (Kd.C_below HR0_1.out HB.out) | (with_reducible refine Kd.C_alloc ?_ _) | (with_reducible refine Kd.C_drewN ?_ _) | (with_reducible refine Kd.C_drew ?_))); (case side4 => exact HC0_1.out); rintro e w10 ⟨rfl, hb⟩; refine ⟨_, rfl, ?_⟩; have n0_ := Aside0.mk (blk_below (g := gb353) (o := .cells #[.slice A0_0 l0_0.length c0_0, .slice A0_1 l0_1.length c0_1, .int .i64 a0_2, .int .i64 a0_3, .int .i64 a0_4] 37 (0, 0)) (by (with_reducible repeat (first | refine blk_drewN ?_ _ | refine blk_drew ?_ | refine blk_alloc ?_ _)); exact BK353.out) hb); have n1_ := Aside0.mk (below_step (by repeat (first | (with_reducible first | exact HB.out | apply below_alloc | apply pw_below_drewN | apply below_drew1 | refine below_set ?_ GE353.out) | exact HB.out)) hb); clear BK353; clear HB; have BK353 := n0_; have HB := n1_; clear n0_ n1_; (try clear hb); (try clear hb2); (try clear hk); (try clear hi)))
  (try simp only [Act.put, List.setIfInBounds_toArray, List.set_cons_zero, List.set_cons_succ])
  go_cut [47] (fun v47 wc => ∃ (kq : Nat) (x47_5 : Bool), v47 = .bool x47_5 ∧ Aside0 (pelicanlaw14_PlanLeast.j0 kq a1 a2 t354 x47_5 l0_0 l0_1 a0_2 a0_3 a0_4 = some r) ∧ Aside0 (kq ≤ k) ∧ Aside0 (wc.heap[gb353]? = some (.cells #[(.slice A0_0 l0_0.length c0_0), (.slice A0_1 l0_1.length c0_1), .int .i64 a0_2, .int .i64 a0_3, .int .i64 a0_4] 37 (0, 0))) ∧ Aside0 (Below w.heap.size w wc))
  case first =>
    have H := HC6.out
    clear HC6
    by_cases c11 : t354 = true
    · subst c11
      have H1 : (if t355 = true then ((plan_Fit.f k l0_0 l0_1 a0_2 a0_3 a0_4).bind fun t356 => (if t356 = true then (if a1 < 0 then (pelicanlaw14_PlanLeast.j0 k a1 a2 true true l0_0 l0_1 a0_2 a0_3 a0_4) else (if a1 ≥ (l0_1.length : Int) then (pelicanlaw14_PlanLeast.j0 k a1 a2 true true l0_0 l0_1 a0_2 a0_3 a0_4) else (if a2 < 0 then (pelicanlaw14_PlanLeast.j0 k a1 a2 true true l0_0 l0_1 a0_2 a0_3 a0_4) else (pelicanlaw14_PlanLeast.j0 k a1 a2 true (decide (a2 ≥ (l0_0.length : Int))) l0_0 l0_1 a0_2 a0_3 a0_4)))) else (pelicanlaw14_PlanLeast.j0 k a1 a2 true true l0_0 l0_1 a0_2 a0_3 a0_4))) else (pelicanlaw14_PlanLeast.j0 k a1 a2 true true l0_0 l0_1 a0_2 a0_3 a0_4)) = some r := by rw [if_pos rfl] at H; exact H
      clear H
      have H := H1
      clear H1
      by_cases c12 : t355 = true
      · subst c12
        have H1 : ((plan_Fit.f k l0_0 l0_1 a0_2 a0_3 a0_4).bind fun t356 => (if t356 = true then (if a1 < 0 then (pelicanlaw14_PlanLeast.j0 k a1 a2 true true l0_0 l0_1 a0_2 a0_3 a0_4) else (if a1 ≥ (l0_1.length : Int) then (pelicanlaw14_PlanLeast.j0 k a1 a2 true true l0_0 l0_1 a0_2 a0_3 a0_4) else (if a2 < 0 then (pelicanlaw14_PlanLeast.j0 k a1 a2 true true l0_0 l0_1 a0_2 a0_3 a0_4) else (pelicanlaw14_PlanLeast.j0 k a1 a2 true (decide (a2 ≥ (l0_0.length : Int))) l0_0 l0_1 a0_2 a0_3 a0_4)))) else (pelicanlaw14_PlanLeast.j0 k a1 a2 true true l0_0 l0_1 a0_2 a0_3 a0_4))) = some r := by rw [if_pos rfl] at H; exact H
        clear H
        have H := H1
        clear H1
        replace H := Option.bind_eq_some_iff.mp H
        obtain ⟨t356, A130, H⟩ := H
        replace H : (if t356 = true then (if a1 < 0 then (pelicanlaw14_PlanLeast.j0 k a1 a2 true true l0_0 l0_1 a0_2 a0_3 a0_4) else (if a1 ≥ (l0_1.length : Int) then (pelicanlaw14_PlanLeast.j0 k a1 a2 true true l0_0 l0_1 a0_2 a0_3 a0_4) else (if a2 < 0 then (pelicanlaw14_PlanLeast.j0 k a1 a2 true true l0_0 l0_1 a0_2 a0_3 a0_4) else (pelicanlaw14_PlanLeast.j0 k a1 a2 true (decide (a2 ≥ (l0_0.length : Int))) l0_0 l0_1 a0_2 a0_3 a0_4)))) else (pelicanlaw14_PlanLeast.j0 k a1 a2 true true l0_0 l0_1 a0_2 a0_3 a0_4)) = some r := H
        have A13 := Aside0.mk A130
        clear A130
        by_cases c14 : t356 = true
        · subst c14
          have H1 : (if a1 < 0 then (pelicanlaw14_PlanLeast.j0 k a1 a2 true true l0_0 l0_1 a0_2 a0_3 a0_4) else (if a1 ≥ (l0_1.length : Int) then (pelicanlaw14_PlanLeast.j0 k a1 a2 true true l0_0 l0_1 a0_2 a0_3 a0_4) else (if a2 < 0 then (pelicanlaw14_PlanLeast.j0 k a1 a2 true true l0_0 l0_1 a0_2 a0_3 a0_4) else (pelicanlaw14_PlanLeast.j0 k a1 a2 true (decide (a2 ≥ (l0_0.length : Int))) l0_0 l0_1 a0_2 a0_3 a0_4)))) = some r := by rw [if_pos rfl] at H; exact H
          clear H
          have H := H1
          clear H1
          by_cases c15 : a1 < 0
          · rw [if_pos c15] at H
            have c15b0 : decide (a1 < 0) = true := decide_eq_true c15
            clear c15
            (first | rw [c15b0] | (simp only [i64_w, i32_w]; rw [c15b0]) | skip)
            have H' := Aside0.mk H
            clear H
            have hcz16_0 : w10.cell? ⟨gb353, 0, none⟩ = some (.slice A0_0 l0_0.length c0_0) := (blk_cell BK353.out 0).trans rfl
            have hcz16_1 : w10.cell? ⟨gb353, 1, none⟩ = some (.slice A0_1 l0_1.length c0_1) := (blk_cell BK353.out 1).trans rfl
            have hcz16_2 : w10.cell? ⟨gb353, 2, none⟩ = some (.int .i64 a0_2) := (blk_cell BK353.out 2).trans rfl
            have hcz16_3 : w10.cell? ⟨gb353, 3, none⟩ = some (.int .i64 a0_3) := (blk_cell BK353.out 3).trans rfl
            have hcz16_4 : w10.cell? ⟨gb353, 4, none⟩ = some (.int .i64 a0_4) := (blk_cell BK353.out 4).trans rfl
            have hfz16_0 := blk_frozen BK353.out 0
            have hfz16_1 := blk_frozen BK353.out 1
            have hfz16_2 := blk_frozen BK353.out 2
            have hfz16_3 := blk_frozen BK353.out 3
            have hfz16_4 := blk_frozen BK353.out 4
            go_wp2_with (first | (go_at_call 34; (with_reducible refine (plan_Fit.calls k _ _ l0_0 _ _ l0_1 a0_2 a0_3 a0_4 true _ ?side1 ?side2 ?side3 ?side4 ?side5 A13.out).mono ?_); (case side1 => repeat (first | exact (Kd.C_below HR0_0.out HB.out) | (with_reducible refine Kd.C_alloc ?_ _) | (with_reducible refine Kd.C_drewN ?_ _) | (with_reducible refine Kd.C_drew ?_))); (case side2 => exact HC0_0.out); (case side3 => repeat (first | exact (Kd.C_below HR0_1.out HB.out) | (with_reducible refine Kd.C_alloc ?_ _) | (with_reducible refine Kd.C_drewN ?_ _) | (with_reducible refine Kd.C_drew ?_))); (case side4 => exact HC0_1.out); (case side5 => first | (with_reducible exact HG.out) | (refine GlobOk.below HG.out ?_; repeat (first | (with_reducible first | exact HB.out | apply below_alloc | apply pw_below_drewN | apply below_drew1 | refine below_set ?_ GE353.out) | exact HB.out))); rintro e w17 ⟨rfl, hb⟩; have n0_ := Aside0.mk (blk_below (g := gb353) (o := .cells #[.slice A0_0 l0_0.length c0_0, .slice A0_1 l0_1.length c0_1, .int .i64 a0_2, .int .i64 a0_3, .int .i64 a0_4] 37 (0, 0)) (by (with_reducible repeat (first | refine blk_drewN ?_ _ | refine blk_drew ?_ | refine blk_alloc ?_ _)); exact BK353.out) hb); have n1_ := Aside0.mk (below_step (by repeat (first | (with_reducible first | exact HB.out | apply below_alloc | apply pw_below_drewN | apply below_drew1 | refine below_set ?_ GE353.out) | exact HB.out)) hb); clear BK353; clear HB; have BK353 := n0_; have HB := n1_; clear n0_ n1_; (try clear hb); (try clear hb2); (try clear hk); (try clear hi)))
            go_meet
            case rel => exact ⟨_, (true), (by first | rfl | (simp; done) | (simp [*]; done)), H', ⟨by first | omega | exact Nat.le_refl _⟩, ⟨by (with_reducible repeat (first | refine blk_drewN ?_ _ | refine blk_drew ?_ | refine blk_alloc ?_ _)); exact BK353.out⟩, ⟨by repeat (first | (with_reducible first | exact HB.out | apply below_alloc | apply pw_below_drewN | apply below_drew1 | refine below_set ?_ GE353.out) | exact HB.out)⟩⟩
          · rw [if_neg c15] at H
            have c15b0 : decide (a1 < 0) = false := decide_eq_false c15
            clear c15
            (first | rw [c15b0] | (simp only [i64_w, i32_w]; rw [c15b0]) | skip)
            by_cases c18 : a1 ≥ (l0_1.length : Int)
            · rw [if_pos c18] at H
              have c18b0 : decide ((l0_1.length : Int) ≤ a1) = true := decide_eq_true c18
              clear c18
              have H' := Aside0.mk H
              clear H
              have hcz19_0 : w10.cell? ⟨gb353, 0, none⟩ = some (.slice A0_0 l0_0.length c0_0) := (blk_cell BK353.out 0).trans rfl
              have hcz19_1 : w10.cell? ⟨gb353, 1, none⟩ = some (.slice A0_1 l0_1.length c0_1) := (blk_cell BK353.out 1).trans rfl
              have hcz19_2 : w10.cell? ⟨gb353, 2, none⟩ = some (.int .i64 a0_2) := (blk_cell BK353.out 2).trans rfl
              have hcz19_3 : w10.cell? ⟨gb353, 3, none⟩ = some (.int .i64 a0_3) := (blk_cell BK353.out 3).trans rfl
              have hcz19_4 : w10.cell? ⟨gb353, 4, none⟩ = some (.int .i64 a0_4) := (blk_cell BK353.out 4).trans rfl
              have hfz19_0 := blk_frozen BK353.out 0
              have hfz19_1 := blk_frozen BK353.out 1
              have hfz19_2 := blk_frozen BK353.out 2
              have hfz19_3 := blk_frozen BK353.out 3
              have hfz19_4 := blk_frozen BK353.out 4
              go_wp2_with (first | (go_at_call 34; (with_reducible refine (plan_Fit.calls k _ _ l0_0 _ _ l0_1 a0_2 a0_3 a0_4 true _ ?side1 ?side2 ?side3 ?side4 ?side5 A13.out).mono ?_); (case side1 => repeat (first | exact (Kd.C_below HR0_0.out HB.out) | (with_reducible refine Kd.C_alloc ?_ _) | (with_reducible refine Kd.C_drewN ?_ _) | (with_reducible refine Kd.C_drew ?_))); (case side2 => exact HC0_0.out); (case side3 => repeat (first | exact (Kd.C_below HR0_1.out HB.out) | (with_reducible refine Kd.C_alloc ?_ _) | (with_reducible refine Kd.C_drewN ?_ _) | (with_reducible refine Kd.C_drew ?_))); (case side4 => exact HC0_1.out); (case side5 => first | (with_reducible exact HG.out) | (refine GlobOk.below HG.out ?_; repeat (first | (with_reducible first | exact HB.out | apply below_alloc | apply pw_below_drewN | apply below_drew1 | refine below_set ?_ GE353.out) | exact HB.out))); rintro e w20 ⟨rfl, hb⟩; have n0_ := Aside0.mk (blk_below (g := gb353) (o := .cells #[.slice A0_0 l0_0.length c0_0, .slice A0_1 l0_1.length c0_1, .int .i64 a0_2, .int .i64 a0_3, .int .i64 a0_4] 37 (0, 0)) (by (with_reducible repeat (first | refine blk_drewN ?_ _ | refine blk_drew ?_ | refine blk_alloc ?_ _)); exact BK353.out) hb); have n1_ := Aside0.mk (below_step (by repeat (first | (with_reducible first | exact HB.out | apply below_alloc | apply pw_below_drewN | apply below_drew1 | refine below_set ?_ GE353.out) | exact HB.out)) hb); clear BK353; clear HB; have BK353 := n0_; have HB := n1_; clear n0_ n1_; (try clear hb); (try clear hb2); (try clear hk); (try clear hi); have hcz21_0 : w20.cell? ⟨gb353, 0, none⟩ = some (.slice A0_0 l0_0.length c0_0) := (blk_cell BK353.out 0).trans rfl; have hcz21_1 : w20.cell? ⟨gb353, 1, none⟩ = some (.slice A0_1 l0_1.length c0_1) := (blk_cell BK353.out 1).trans rfl; have hcz21_2 : w20.cell? ⟨gb353, 2, none⟩ = some (.int .i64 a0_2) := (blk_cell BK353.out 2).trans rfl; have hcz21_3 : w20.cell? ⟨gb353, 3, none⟩ = some (.int .i64 a0_3) := (blk_cell BK353.out 3).trans rfl; have hcz21_4 : w20.cell? ⟨gb353, 4, none⟩ = some (.int .i64 a0_4) := (blk_cell BK353.out 4).trans rfl; have hfz21_0 := blk_frozen BK353.out 0; have hfz21_1 := blk_frozen BK353.out 1; have hfz21_2 := blk_frozen BK353.out 2; have hfz21_3 := blk_frozen BK353.out 3; have hfz21_4 := blk_frozen BK353.out 4))
              go_meet
              case rel => exact ⟨_, (true), (by first | rfl | (simp; done) | (simp [*]; done)), H', ⟨by first | omega | exact Nat.le_refl _⟩, ⟨by (with_reducible repeat (first | refine blk_drewN ?_ _ | refine blk_drew ?_ | refine blk_alloc ?_ _)); exact BK353.out⟩, ⟨by repeat (first | (with_reducible first | exact HB.out | apply below_alloc | apply pw_below_drewN | apply below_drew1 | refine below_set ?_ GE353.out) | exact HB.out)⟩⟩
            · rw [if_neg c18] at H
              have c18b0 : decide ((l0_1.length : Int) ≤ a1) = false := decide_eq_false c18
              clear c18
              by_cases c22 : a2 < 0
              · rw [if_pos c22] at H
                have c22b0 : decide (a2 < 0) = true := decide_eq_true c22
                clear c22
                have H' := Aside0.mk H
                clear H
                have hcz23_0 : w10.cell? ⟨gb353, 0, none⟩ = some (.slice A0_0 l0_0.length c0_0) := (blk_cell BK353.out 0).trans rfl
                have hcz23_1 : w10.cell? ⟨gb353, 1, none⟩ = some (.slice A0_1 l0_1.length c0_1) := (blk_cell BK353.out 1).trans rfl
                have hcz23_2 : w10.cell? ⟨gb353, 2, none⟩ = some (.int .i64 a0_2) := (blk_cell BK353.out 2).trans rfl
                have hcz23_3 : w10.cell? ⟨gb353, 3, none⟩ = some (.int .i64 a0_3) := (blk_cell BK353.out 3).trans rfl
                have hcz23_4 : w10.cell? ⟨gb353, 4, none⟩ = some (.int .i64 a0_4) := (blk_cell BK353.out 4).trans rfl
                have hfz23_0 := blk_frozen BK353.out 0
                have hfz23_1 := blk_frozen BK353.out 1
                have hfz23_2 := blk_frozen BK353.out 2
                have hfz23_3 := blk_frozen BK353.out 3
                have hfz23_4 := blk_frozen BK353.out 4
                go_wp2_with (first | (go_at_call 34; (with_reducible refine (plan_Fit.calls k _ _ l0_0 _ _ l0_1 a0_2 a0_3 a0_4 true _ ?side1 ?side2 ?side3 ?side4 ?side5 A13.out).mono ?_); (case side1 => repeat (first | exact (Kd.C_below HR0_0.out HB.out) | (with_reducible refine Kd.C_alloc ?_ _) | (with_reducible refine Kd.C_drewN ?_ _) | (with_reducible refine Kd.C_drew ?_))); (case side2 => exact HC0_0.out); (case side3 => repeat (first | exact (Kd.C_below HR0_1.out HB.out) | (with_reducible refine Kd.C_alloc ?_ _) | (with_reducible refine Kd.C_drewN ?_ _) | (with_reducible refine Kd.C_drew ?_))); (case side4 => exact HC0_1.out); (case side5 => first | (with_reducible exact HG.out) | (refine GlobOk.below HG.out ?_; repeat (first | (with_reducible first | exact HB.out | apply below_alloc | apply pw_below_drewN | apply below_drew1 | refine below_set ?_ GE353.out) | exact HB.out))); rintro e w24 ⟨rfl, hb⟩; have n0_ := Aside0.mk (blk_below (g := gb353) (o := .cells #[.slice A0_0 l0_0.length c0_0, .slice A0_1 l0_1.length c0_1, .int .i64 a0_2, .int .i64 a0_3, .int .i64 a0_4] 37 (0, 0)) (by (with_reducible repeat (first | refine blk_drewN ?_ _ | refine blk_drew ?_ | refine blk_alloc ?_ _)); exact BK353.out) hb); have n1_ := Aside0.mk (below_step (by repeat (first | (with_reducible first | exact HB.out | apply below_alloc | apply pw_below_drewN | apply below_drew1 | refine below_set ?_ GE353.out) | exact HB.out)) hb); clear BK353; clear HB; have BK353 := n0_; have HB := n1_; clear n0_ n1_; (try clear hb); (try clear hb2); (try clear hk); (try clear hi); have hcz25_0 : w24.cell? ⟨gb353, 0, none⟩ = some (.slice A0_0 l0_0.length c0_0) := (blk_cell BK353.out 0).trans rfl; have hcz25_1 : w24.cell? ⟨gb353, 1, none⟩ = some (.slice A0_1 l0_1.length c0_1) := (blk_cell BK353.out 1).trans rfl; have hcz25_2 : w24.cell? ⟨gb353, 2, none⟩ = some (.int .i64 a0_2) := (blk_cell BK353.out 2).trans rfl; have hcz25_3 : w24.cell? ⟨gb353, 3, none⟩ = some (.int .i64 a0_3) := (blk_cell BK353.out 3).trans rfl; have hcz25_4 : w24.cell? ⟨gb353, 4, none⟩ = some (.int .i64 a0_4) := (blk_cell BK353.out 4).trans rfl; have hfz25_0 := blk_frozen BK353.out 0; have hfz25_1 := blk_frozen BK353.out 1; have hfz25_2 := blk_frozen BK353.out 2; have hfz25_3 := blk_frozen BK353.out 3; have hfz25_4 := blk_frozen BK353.out 4))
                go_meet
                case rel => exact ⟨_, (true), (by first | rfl | (simp; done) | (simp [*]; done)), H', ⟨by first | omega | exact Nat.le_refl _⟩, ⟨by (with_reducible repeat (first | refine blk_drewN ?_ _ | refine blk_drew ?_ | refine blk_alloc ?_ _)); exact BK353.out⟩, ⟨by repeat (first | (with_reducible first | exact HB.out | apply below_alloc | apply pw_below_drewN | apply below_drew1 | refine below_set ?_ GE353.out) | exact HB.out)⟩⟩
              · rw [if_neg c22] at H
                have c22b0 : decide (a2 < 0) = false := decide_eq_false c22
                clear c22
                have H' := Aside0.mk H
                clear H
                have hcz26_0 : w10.cell? ⟨gb353, 0, none⟩ = some (.slice A0_0 l0_0.length c0_0) := (blk_cell BK353.out 0).trans rfl
                have hcz26_1 : w10.cell? ⟨gb353, 1, none⟩ = some (.slice A0_1 l0_1.length c0_1) := (blk_cell BK353.out 1).trans rfl
                have hcz26_2 : w10.cell? ⟨gb353, 2, none⟩ = some (.int .i64 a0_2) := (blk_cell BK353.out 2).trans rfl
                have hcz26_3 : w10.cell? ⟨gb353, 3, none⟩ = some (.int .i64 a0_3) := (blk_cell BK353.out 3).trans rfl
                have hcz26_4 : w10.cell? ⟨gb353, 4, none⟩ = some (.int .i64 a0_4) := (blk_cell BK353.out 4).trans rfl
                have hfz26_0 := blk_frozen BK353.out 0
                have hfz26_1 := blk_frozen BK353.out 1
                have hfz26_2 := blk_frozen BK353.out 2
                have hfz26_3 := blk_frozen BK353.out 3
                have hfz26_4 := blk_frozen BK353.out 4
                go_wp2_with (first | (go_at_call 34; (with_reducible refine (plan_Fit.calls k _ _ l0_0 _ _ l0_1 a0_2 a0_3 a0_4 true _ ?side1 ?side2 ?side3 ?side4 ?side5 A13.out).mono ?_); (case side1 => repeat (first | exact (Kd.C_below HR0_0.out HB.out) | (with_reducible refine Kd.C_alloc ?_ _) | (with_reducible refine Kd.C_drewN ?_ _) | (with_reducible refine Kd.C_drew ?_))); (case side2 => exact HC0_0.out); (case side3 => repeat (first | exact (Kd.C_below HR0_1.out HB.out) | (with_reducible refine Kd.C_alloc ?_ _) | (with_reducible refine Kd.C_drewN ?_ _) | (with_reducible refine Kd.C_drew ?_))); (case side4 => exact HC0_1.out); (case side5 => first | (with_reducible exact HG.out) | (refine GlobOk.below HG.out ?_; repeat (first | (with_reducible first | exact HB.out | apply below_alloc | apply pw_below_drewN | apply below_drew1 | refine below_set ?_ GE353.out) | exact HB.out))); rintro e w27 ⟨rfl, hb⟩; have n0_ := Aside0.mk (blk_below (g := gb353) (o := .cells #[.slice A0_0 l0_0.length c0_0, .slice A0_1 l0_1.length c0_1, .int .i64 a0_2, .int .i64 a0_3, .int .i64 a0_4] 37 (0, 0)) (by (with_reducible repeat (first | refine blk_drewN ?_ _ | refine blk_drew ?_ | refine blk_alloc ?_ _)); exact BK353.out) hb); have n1_ := Aside0.mk (below_step (by repeat (first | (with_reducible first | exact HB.out | apply below_alloc | apply pw_below_drewN | apply below_drew1 | refine below_set ?_ GE353.out) | exact HB.out)) hb); clear BK353; clear HB; have BK353 := n0_; have HB := n1_; clear n0_ n1_; (try clear hb); (try clear hb2); (try clear hk); (try clear hi); have hcz28_0 : w27.cell? ⟨gb353, 0, none⟩ = some (.slice A0_0 l0_0.length c0_0) := (blk_cell BK353.out 0).trans rfl; have hcz28_1 : w27.cell? ⟨gb353, 1, none⟩ = some (.slice A0_1 l0_1.length c0_1) := (blk_cell BK353.out 1).trans rfl; have hcz28_2 : w27.cell? ⟨gb353, 2, none⟩ = some (.int .i64 a0_2) := (blk_cell BK353.out 2).trans rfl; have hcz28_3 : w27.cell? ⟨gb353, 3, none⟩ = some (.int .i64 a0_3) := (blk_cell BK353.out 3).trans rfl; have hcz28_4 : w27.cell? ⟨gb353, 4, none⟩ = some (.int .i64 a0_4) := (blk_cell BK353.out 4).trans rfl; have hfz28_0 := blk_frozen BK353.out 0; have hfz28_1 := blk_frozen BK353.out 1; have hfz28_2 := blk_frozen BK353.out 2; have hfz28_3 := blk_frozen BK353.out 3; have hfz28_4 := blk_frozen BK353.out 4))
                go_meet
                case rel => exact ⟨_, (decide (a2 ≥ (l0_0.length : Int))), (by first | rfl | (simp; done) | (simp [*]; done)), H', ⟨by first | omega | exact Nat.le_refl _⟩, ⟨by (with_reducible repeat (first | refine blk_drewN ?_ _ | refine blk_drew ?_ | refine blk_alloc ?_ _)); exact BK353.out⟩, ⟨by repeat (first | (with_reducible first | exact HB.out | apply below_alloc | apply pw_below_drewN | apply below_drew1 | refine below_set ?_ GE353.out) | exact HB.out)⟩⟩
        · replace c14 := Bool.eq_false_iff.mpr c14
          subst c14
          have H1 : (pelicanlaw14_PlanLeast.j0 k a1 a2 true true l0_0 l0_1 a0_2 a0_3 a0_4) = some r := by rw [if_neg (show ¬ (false = true) by decide)] at H; exact H
          clear H
          have H := H1
          clear H1
          have H' := Aside0.mk H
          clear H
          have hcz29_0 : w10.cell? ⟨gb353, 0, none⟩ = some (.slice A0_0 l0_0.length c0_0) := (blk_cell BK353.out 0).trans rfl
          have hcz29_1 : w10.cell? ⟨gb353, 1, none⟩ = some (.slice A0_1 l0_1.length c0_1) := (blk_cell BK353.out 1).trans rfl
          have hcz29_2 : w10.cell? ⟨gb353, 2, none⟩ = some (.int .i64 a0_2) := (blk_cell BK353.out 2).trans rfl
          have hcz29_3 : w10.cell? ⟨gb353, 3, none⟩ = some (.int .i64 a0_3) := (blk_cell BK353.out 3).trans rfl
          have hcz29_4 : w10.cell? ⟨gb353, 4, none⟩ = some (.int .i64 a0_4) := (blk_cell BK353.out 4).trans rfl
          have hfz29_0 := blk_frozen BK353.out 0
          have hfz29_1 := blk_frozen BK353.out 1
          have hfz29_2 := blk_frozen BK353.out 2
          have hfz29_3 := blk_frozen BK353.out 3
          have hfz29_4 := blk_frozen BK353.out 4
          go_wp2_with (first | (go_at_call 34; (with_reducible refine (plan_Fit.calls k _ _ l0_0 _ _ l0_1 a0_2 a0_3 a0_4 false _ ?side1 ?side2 ?side3 ?side4 ?side5 A13.out).mono ?_); (case side1 => repeat (first | exact (Kd.C_below HR0_0.out HB.out) | (with_reducible refine Kd.C_alloc ?_ _) | (with_reducible refine Kd.C_drewN ?_ _) | (with_reducible refine Kd.C_drew ?_))); (case side2 => exact HC0_0.out); (case side3 => repeat (first | exact (Kd.C_below HR0_1.out HB.out) | (with_reducible refine Kd.C_alloc ?_ _) | (with_reducible refine Kd.C_drewN ?_ _) | (with_reducible refine Kd.C_drew ?_))); (case side4 => exact HC0_1.out); (case side5 => first | (with_reducible exact HG.out) | (refine GlobOk.below HG.out ?_; repeat (first | (with_reducible first | exact HB.out | apply below_alloc | apply pw_below_drewN | apply below_drew1 | refine below_set ?_ GE353.out) | exact HB.out))); rintro e w30 ⟨rfl, hb⟩; have n0_ := Aside0.mk (blk_below (g := gb353) (o := .cells #[.slice A0_0 l0_0.length c0_0, .slice A0_1 l0_1.length c0_1, .int .i64 a0_2, .int .i64 a0_3, .int .i64 a0_4] 37 (0, 0)) (by (with_reducible repeat (first | refine blk_drewN ?_ _ | refine blk_drew ?_ | refine blk_alloc ?_ _)); exact BK353.out) hb); have n1_ := Aside0.mk (below_step (by repeat (first | (with_reducible first | exact HB.out | apply below_alloc | apply pw_below_drewN | apply below_drew1 | refine below_set ?_ GE353.out) | exact HB.out)) hb); clear BK353; clear HB; have BK353 := n0_; have HB := n1_; clear n0_ n1_; (try clear hb); (try clear hb2); (try clear hk); (try clear hi)))
          go_meet
          case rel => exact ⟨_, (true), (by first | rfl | (simp; done) | (simp [*]; done)), H', ⟨by first | omega | exact Nat.le_refl _⟩, ⟨by (with_reducible repeat (first | refine blk_drewN ?_ _ | refine blk_drew ?_ | refine blk_alloc ?_ _)); exact BK353.out⟩, ⟨by repeat (first | (with_reducible first | exact HB.out | apply below_alloc | apply pw_below_drewN | apply below_drew1 | refine below_set ?_ GE353.out) | exact HB.out)⟩⟩
      · replace c12 := Bool.eq_false_iff.mpr c12
        subst c12
        have H1 : (pelicanlaw14_PlanLeast.j0 k a1 a2 true true l0_0 l0_1 a0_2 a0_3 a0_4) = some r := by rw [if_neg (show ¬ (false = true) by decide)] at H; exact H
        clear H
        have H := H1
        clear H1
        have H' := Aside0.mk H
        clear H
        go_wp2
        go_meet
        case rel => exact ⟨_, (true), (by first | rfl | (simp; done) | (simp [*]; done)), H', ⟨by first | omega | exact Nat.le_refl _⟩, ⟨by (with_reducible repeat (first | refine blk_drewN ?_ _ | refine blk_drew ?_ | refine blk_alloc ?_ _)); exact BK353.out⟩, ⟨by repeat (first | (with_reducible first | exact HB.out | apply below_alloc | apply pw_below_drewN | apply below_drew1 | refine below_set ?_ GE353.out) | exact HB.out)⟩⟩
    · replace c11 := Bool.eq_false_iff.mpr c11
      subst c11
      have H1 : (pelicanlaw14_PlanLeast.j0 k a1 a2 false true l0_0 l0_1 a0_2 a0_3 a0_4) = some r := by rw [if_neg (show ¬ (false = true) by decide)] at H; exact H
      clear H
      have H := H1
      clear H1
      have H' := Aside0.mk H
      clear H
      go_wp2
      go_meet
      case rel => exact ⟨_, (true), (by first | rfl | (simp; done) | (simp [*]; done)), H', ⟨by first | omega | exact Nat.le_refl _⟩, ⟨by (with_reducible repeat (first | refine blk_drewN ?_ _ | refine blk_drew ?_ | refine blk_alloc ?_ _)); exact BK353.out⟩, ⟨by repeat (first | (with_reducible first | exact HB.out | apply below_alloc | apply pw_below_drewN | apply below_drew1 | refine below_set ?_ GE353.out) | exact HB.out)⟩⟩
  case rest =>
    clear HC6
    try clear c1
    try clear c2
    try clear p2
    try clear c10
    try clear c11
    try clear c12
    try clear c14
    try clear c15
    try clear c15b0
    try clear c18
    try clear c18b0
    try clear c22
    try clear c22b0
    try clear c28
    try clear c29
    try clear hcz16_0
    try clear hcz16_1
    try clear hcz16_2
    try clear hcz16_3
    try clear hcz16_4
    try clear hcz19_0
    try clear hcz19_1
    try clear hcz19_2
    try clear hcz19_3
    try clear hcz19_4
    try clear hcz21_0
    try clear hcz21_1
    try clear hcz21_2
    try clear hcz21_3
    try clear hcz21_4
    try clear hcz23_0
    try clear hcz23_1
    try clear hcz23_2
    try clear hcz23_3
    try clear hcz23_4
    try clear hcz25_0
    try clear hcz25_1
    try clear hcz25_2
    try clear hcz25_3
    try clear hcz25_4
    try clear hcz26_0
    try clear hcz26_1
    try clear hcz26_2
    try clear hcz26_3
    try clear hcz26_4
    try clear hcz28_0
    try clear hcz28_1
    try clear hcz28_2
    try clear hcz28_3
    try clear hcz28_4
    try clear hcz29_0
    try clear hcz29_1
    try clear hcz29_2
    try clear hcz29_3
    try clear hcz29_4
    try clear hcz9_0
    try clear hcz9_1
    try clear hcz9_2
    try clear hcz9_3
    try clear hcz9_4
    try clear hfz16_0
    try clear hfz16_1
    try clear hfz16_2
    try clear hfz16_3
    try clear hfz16_4
    try clear hfz19_0
    try clear hfz19_1
    try clear hfz19_2
    try clear hfz19_3
    try clear hfz19_4
    try clear hfz21_0
    try clear hfz21_1
    try clear hfz21_2
    try clear hfz21_3
    try clear hfz21_4
    try clear hfz23_0
    try clear hfz23_1
    try clear hfz23_2
    try clear hfz23_3
    try clear hfz23_4
    try clear hfz25_0
    try clear hfz25_1
    try clear hfz25_2
    try clear hfz25_3
    try clear hfz25_4
    try clear hfz26_0
    try clear hfz26_1
    try clear hfz26_2
    try clear hfz26_3
    try clear hfz26_4
    try clear hfz28_0
    try clear hfz28_1
    try clear hfz28_2
    try clear hfz28_3
    try clear hfz28_4
    try clear hfz29_0
    try clear hfz29_1
    try clear hfz29_2
    try clear hfz29_3
    try clear hfz29_4
    try clear hfz9_0
    try clear hfz9_1
    try clear hfz9_2
    try clear hfz9_3
    try clear hfz9_4
    obtain ⟨kq, x47_5, rfl, HA, HJ5, BK353, HB⟩ := hcut
    cases kq with
    | zero => exact absurd HA.out (by simp [pelicanlaw14_PlanLeast.j0])
    | succ kj5 =>
      have H := HA.out
      clear HA
      simp only [pelicanlaw14_PlanLeast.j0] at H
      by_cases c31 : x47_5 = true
      · subst c31
        have H1 : (some t354) = some r := by rw [if_pos rfl] at H; exact H
        clear H
        have H := H1
        clear H1
        obtain rfl := Option.some.inj H
        go_wp2
        go_ret
        exact ⟨by first | rfl | (simp [errW_none, errW_some] <;> rfl) | (simp [*, errW_none, errW_some] <;> rfl), by repeat (first | (with_reducible first | exact HB.out | apply below_alloc | apply pw_below_drewN | apply below_drew1 | refine below_set ?_ GE353.out) | exact HB.out)⟩
      · replace c31 := Bool.eq_false_iff.mpr c31
        subst c31
        have H1 : ((plan_Least.f kj5 l0_0 l0_1 a0_2 a0_3 a0_4 a2).bind fun t357 => (pelicanlaw14_PlanLeast.l0 kj5 a1 a2 t357 false 0 l0_0 l0_1 a0_2 a0_3 a0_4)) = some r := by rw [if_neg (show ¬ (false = true) by decide)] at H; exact H
        clear H
        have H := H1
        clear H1
        replace H := Option.bind_eq_some_iff.mp H
        obtain ⟨t357, A320, H⟩ := H
        replace H : (pelicanlaw14_PlanLeast.l0 kj5 a1 a2 t357 false 0 l0_0 l0_1 a0_2 a0_3 a0_4) = some r := H
        have A32 := Aside0.mk A320
        clear A320
        have H' := Aside0.mk H
        clear H
        have hcz33_0 : wc.cell? ⟨gb353, 0, none⟩ = some (.slice A0_0 l0_0.length c0_0) := (blk_cell BK353.out 0).trans rfl
        have hcz33_1 : wc.cell? ⟨gb353, 1, none⟩ = some (.slice A0_1 l0_1.length c0_1) := (blk_cell BK353.out 1).trans rfl
        have hcz33_2 : wc.cell? ⟨gb353, 2, none⟩ = some (.int .i64 a0_2) := (blk_cell BK353.out 2).trans rfl
        have hcz33_3 : wc.cell? ⟨gb353, 3, none⟩ = some (.int .i64 a0_3) := (blk_cell BK353.out 3).trans rfl
        have hcz33_4 : wc.cell? ⟨gb353, 4, none⟩ = some (.int .i64 a0_4) := (blk_cell BK353.out 4).trans rfl
        have hfz33_0 := blk_frozen BK353.out 0
        have hfz33_1 := blk_frozen BK353.out 1
        have hfz33_2 := blk_frozen BK353.out 2
        have hfz33_3 := blk_frozen BK353.out 3
        have hfz33_4 := blk_frozen BK353.out 4
        go_wp2_with (first | ((with_reducible refine gate_callee (f := 39) rfl ?_); refine goesL_ (some 51) rfl rfl Tryd.func39 (by kernel_rfl) rfl #[.agg #[.slice A0_0 l0_0.length c0_0, .slice A0_1 l0_1.length c0_1, .int .i64 a0_2, .int .i64 a0_3, .int .i64 a0_4], .int .i64 a2] rfl (by (try simp only [List.map_toArray, List.map_cons, List.map_nil]); first | done | rfl | (simp only [List.length_drop, List.length_take]; rfl)) ?_; (with_reducible refine (plan_Least.calls kj5 _ _ l0_0 _ _ l0_1 a0_2 a0_3 a0_4 a2 t357 _ ?side1 ?side2 ?side3 ?side4 ?side5 A32.out).mono ?_); (case side1 => repeat (first | exact (Kd.C_below HR0_0.out HB.out) | (with_reducible refine Kd.C_alloc ?_ _) | (with_reducible refine Kd.C_drewN ?_ _) | (with_reducible refine Kd.C_drew ?_))); (case side2 => exact HC0_0.out); (case side3 => repeat (first | exact (Kd.C_below HR0_1.out HB.out) | (with_reducible refine Kd.C_alloc ?_ _) | (with_reducible refine Kd.C_drewN ?_ _) | (with_reducible refine Kd.C_drew ?_))); (case side4 => exact HC0_1.out); (case side5 => first | (with_reducible exact HG.out) | (refine GlobOk.below HG.out ?_; repeat (first | (with_reducible first | exact HB.out | apply below_alloc | apply pw_below_drewN | apply below_drew1 | refine below_set ?_ GE353.out) | exact HB.out))); rintro e w34 ⟨rfl, hb⟩; refine ⟨_, rfl, ?_⟩; have n0_ := Aside0.mk (blk_below (g := gb353) (o := .cells #[.slice A0_0 l0_0.length c0_0, .slice A0_1 l0_1.length c0_1, .int .i64 a0_2, .int .i64 a0_3, .int .i64 a0_4] 37 (0, 0)) (by (with_reducible repeat (first | refine blk_drewN ?_ _ | refine blk_drew ?_ | refine blk_alloc ?_ _)); exact BK353.out) hb); have n1_ := Aside0.mk (below_step (by repeat (first | (with_reducible first | exact HB.out | apply below_alloc | apply pw_below_drewN | apply below_drew1 | refine below_set ?_ GE353.out) | exact HB.out)) hb); clear BK353; clear HB; have BK353 := n0_; have HB := n1_; clear n0_ n1_; (try clear hb); (try clear hb2); (try clear hk); (try clear hi)))
        go_loopg [10, 11] kj5 (fun kq v10 v11 w' => ∃ (x10_2 : Bool) (x11_2 : Int), v10 = .bool x10_2 ∧ v11 = .int .i64 x11_2 ∧ Aside0 (pelicanlaw14_PlanLeast.l0 kq a1 a2 t357 x10_2 x11_2 l0_0 l0_1 a0_2 a0_3 a0_4 = some r) ∧ Aside0 (kq ≤ kj5) ∧ Aside0 (w'.heap[gb353]? = some (.cells #[(.slice A0_0 l0_0.length c0_0), (.slice A0_1 l0_1.length c0_1), .int .i64 a0_2, .int .i64 a0_3, .int .i64 a0_4] 37 (0, 0))) ∧ Aside0 (Below w.heap.size w w'))
        case atStart => exact ⟨(false), (0), (by first | rfl | (simp; done) | (simp [*]; done)), (by first | rfl | (simp; done) | (simp [*]; done)), H', ⟨Nat.le_refl _⟩, ⟨by (with_reducible repeat (first | refine blk_drewN ?_ _ | refine blk_drew ?_ | refine blk_alloc ?_ _)); exact BK353.out⟩, ⟨by repeat (first | (with_reducible first | exact HB.out | apply below_alloc | apply pw_below_drewN | apply below_drew1 | refine below_set ?_ GE353.out) | exact HB.out)⟩⟩
        case round =>
          clear H'
          try clear c1
          try clear c2
          try clear p2
          try clear c3
          try clear c10
          try clear c11
          try clear c12
          try clear c14
          try clear c15
          try clear c15b0
          try clear c18
          try clear c18b0
          try clear c22
          try clear c22b0
          try clear c28
          try clear c29
          try clear c31
          try clear hcz16_0
          try clear hcz16_1
          try clear hcz16_2
          try clear hcz16_3
          try clear hcz16_4
          try clear hcz19_0
          try clear hcz19_1
          try clear hcz19_2
          try clear hcz19_3
          try clear hcz19_4
          try clear hcz21_0
          try clear hcz21_1
          try clear hcz21_2
          try clear hcz21_3
          try clear hcz21_4
          try clear hcz23_0
          try clear hcz23_1
          try clear hcz23_2
          try clear hcz23_3
          try clear hcz23_4
          try clear hcz25_0
          try clear hcz25_1
          try clear hcz25_2
          try clear hcz25_3
          try clear hcz25_4
          try clear hcz26_0
          try clear hcz26_1
          try clear hcz26_2
          try clear hcz26_3
          try clear hcz26_4
          try clear hcz28_0
          try clear hcz28_1
          try clear hcz28_2
          try clear hcz28_3
          try clear hcz28_4
          try clear hcz29_0
          try clear hcz29_1
          try clear hcz29_2
          try clear hcz29_3
          try clear hcz29_4
          try clear hcz33_0
          try clear hcz33_1
          try clear hcz33_2
          try clear hcz33_3
          try clear hcz33_4
          try clear hcz9_0
          try clear hcz9_1
          try clear hcz9_2
          try clear hcz9_3
          try clear hcz9_4
          try clear hfz16_0
          try clear hfz16_1
          try clear hfz16_2
          try clear hfz16_3
          try clear hfz16_4
          try clear hfz19_0
          try clear hfz19_1
          try clear hfz19_2
          try clear hfz19_3
          try clear hfz19_4
          try clear hfz21_0
          try clear hfz21_1
          try clear hfz21_2
          try clear hfz21_3
          try clear hfz21_4
          try clear hfz23_0
          try clear hfz23_1
          try clear hfz23_2
          try clear hfz23_3
          try clear hfz23_4
          try clear hfz25_0
          try clear hfz25_1
          try clear hfz25_2
          try clear hfz25_3
          try clear hfz25_4
          try clear hfz26_0
          try clear hfz26_1
          try clear hfz26_2
          try clear hfz26_3
          try clear hfz26_4
          try clear hfz28_0
          try clear hfz28_1
          try clear hfz28_2
          try clear hfz28_3
          try clear hfz28_4
          try clear hfz29_0
          try clear hfz29_1
          try clear hfz29_2
          try clear hfz29_3
          try clear hfz29_4
          try clear hfz33_0
          try clear hfz33_1
          try clear hfz33_2
          try clear hfz33_3
          try clear hfz33_4
          try clear hfz9_0
          try clear hfz9_1
          try clear hfz9_2
          try clear hfz9_3
          try clear hfz9_4
          try clear p2
          obtain ⟨x10_2, x11_2, rfl, rfl, HA, HK2, BK353, HB⟩ := hrel
          cases gk with
          | zero => exact absurd HA.out (by simp [pelicanlaw14_PlanLeast.l0])
          | succ k2 =>
            have H := HA.out
            clear HA
            simp only [pelicanlaw14_PlanLeast.l0] at H
            by_cases c35 : x11_2 < (l0_1.length : Int)
            · rw [if_pos c35] at H
              have c35b0 : decide (x11_2 < (l0_1.length : Int)) = true := decide_eq_true c35
              clear c35
              by_cases c36 : x10_2 = true
              · subst c36
                have H1 : (pelicanlaw14_PlanLeast.l0 k2 a1 a2 t357 true (wrap64 (x11_2 + 1)) l0_0 l0_1 a0_2 a0_3 a0_4) = some r := by rw [if_pos rfl] at H; exact H
                clear H
                have H := H1
                clear H1
                have H' := Aside0.mk H
                clear H
                have hcz37_0 : wr.cell? ⟨gb353, 0, none⟩ = some (.slice A0_0 l0_0.length c0_0) := (blk_cell BK353.out 0).trans rfl
                have hcz37_1 : wr.cell? ⟨gb353, 1, none⟩ = some (.slice A0_1 l0_1.length c0_1) := (blk_cell BK353.out 1).trans rfl
                have hcz37_2 : wr.cell? ⟨gb353, 2, none⟩ = some (.int .i64 a0_2) := (blk_cell BK353.out 2).trans rfl
                have hcz37_3 : wr.cell? ⟨gb353, 3, none⟩ = some (.int .i64 a0_3) := (blk_cell BK353.out 3).trans rfl
                have hcz37_4 : wr.cell? ⟨gb353, 4, none⟩ = some (.int .i64 a0_4) := (blk_cell BK353.out 4).trans rfl
                have hfz37_0 := blk_frozen BK353.out 0
                have hfz37_1 := blk_frozen BK353.out 1
                have hfz37_2 := blk_frozen BK353.out 2
                have hfz37_3 := blk_frozen BK353.out 3
                have hfz37_4 := blk_frozen BK353.out 4
                go_wp2
                go_roundg k2
                case measure => have := HJ5.out; have := HK2.out; omega
                case rel => exact ⟨(true), (wrap64 (x11_2 + 1)), (by first | rfl | (simp; done) | (simp [*]; done)), (by first | rfl | (simp; done) | (simp [*]; done)), H', ⟨by have := HJ5.out; have := HK2.out; omega⟩, ⟨by (with_reducible repeat (first | refine blk_drewN ?_ _ | refine blk_drew ?_ | refine blk_alloc ?_ _)); exact BK353.out⟩, ⟨by repeat (first | (with_reducible first | exact HB.out | apply below_alloc | apply pw_below_drewN | apply below_drew1 | refine below_set ?_ GE353.out) | exact HB.out)⟩⟩
              · replace c36 := Bool.eq_false_iff.mpr c36
                subst c36
                have H1 : (if 0 ≤ x11_2 then (if 0 ≤ a2 then (if (Go.bits .and .i64 (shr .i64 ((rd_T47 l0_1 x11_2).f0) a2) 1) = 1 then (pelicanlaw14_PlanLeast.l0 k2 a1 a2 t357 (((rd_T47 l0_1 x11_2).f1) == t357) (wrap64 (x11_2 + 1)) l0_0 l0_1 a0_2 a0_3 a0_4) else (pelicanlaw14_PlanLeast.l0 k2 a1 a2 t357 false (wrap64 (x11_2 + 1)) l0_0 l0_1 a0_2 a0_3 a0_4)) else (none)) else (none)) = some r := by rw [if_neg (show ¬ (false = true) by decide)] at H; exact H
                clear H
                have H := H1
                clear H1
                by_cases c38 : 0 ≤ x11_2
                · rw [if_pos c38] at H
                  have c38b0 : decide (0 ≤ x11_2) = true := decide_eq_true c38
                  clear c38
                  by_cases c39 : 0 ≤ a2
                  · rw [if_pos c39] at H
                    have c39b0 := eq_true c39
                    have c39b1 : decide (0 ≤ a2) = true := decide_eq_true c39
                    clear c39
                    obtain ⟨ji40, hji40⟩ : ∃ j_ : Int, (shr .i64 ((rd_T47 l0_1 x11_2).f0) a2) = j_ := ⟨_, rfl⟩
                    replace H : (if (Go.bits .and .i64 (ji40) 1) = 1 then (pelicanlaw14_PlanLeast.l0 k2 a1 a2 t357 (((rd_T47 l0_1 x11_2).f1) == t357) (wrap64 (x11_2 + 1)) l0_0 l0_1 a0_2 a0_3 a0_4) else (pelicanlaw14_PlanLeast.l0 k2 a1 a2 t357 false (wrap64 (x11_2 + 1)) l0_0 l0_1 a0_2 a0_3 a0_4)) = some r := by first | (rw [hji40] at H; exact H) | (simp only [hji40] at H ⊢; exact H)
                    have hji40_ : (((rd_T47 l0_1 x11_2).f0) / 2 ^ min a2.toNat 64) = ji40 := hji40
                    have hji40z : a2 ≤ 64 → (((rd_T47 l0_1 x11_2).f0) / 2 ^ a2.toNat) = ji40 := shr_small hji40
                    by_cases c41 : (Go.bits .and .i64 (ji40) 1) = 1
                    · rw [if_pos c41] at H
                      have c41b0 : ((Go.bits .and .i64 (ji40) 1) == 1) = true := beq_iff_eq.mpr c41
                      have c41b1 : ((Go.bits .and .i64 (ji40) 1) != 1) = false := bne_eq_false_iff_eq.mpr c41
                      clear c41
                      have H' := Aside0.mk H
                      clear H
                      have hcz42_0 : wr.cell? ⟨gb353, 0, none⟩ = some (.slice A0_0 l0_0.length c0_0) := (blk_cell BK353.out 0).trans rfl
                      have hcz42_1 : wr.cell? ⟨gb353, 1, none⟩ = some (.slice A0_1 l0_1.length c0_1) := (blk_cell BK353.out 1).trans rfl
                      have hcz42_2 : wr.cell? ⟨gb353, 2, none⟩ = some (.int .i64 a0_2) := (blk_cell BK353.out 2).trans rfl
                      have hcz42_3 : wr.cell? ⟨gb353, 3, none⟩ = some (.int .i64 a0_3) := (blk_cell BK353.out 3).trans rfl
                      have hcz42_4 : wr.cell? ⟨gb353, 4, none⟩ = some (.int .i64 a0_4) := (blk_cell BK353.out 4).trans rfl
                      have hfz42_0 := blk_frozen BK353.out 0
                      have hfz42_1 := blk_frozen BK353.out 1
                      have hfz42_2 := blk_frozen BK353.out 2
                      have hfz42_3 := blk_frozen BK353.out 3
                      have hfz42_4 := blk_frozen BK353.out 4
                      have p358 : 0 ≤ (x11_2 : Int) := of_decide_eq_true (by first | (with_reducible assumption) | assumption)
                      have q358 : x11_2 < (l0_1.length : Int) := of_decide_eq_true (by first | (with_reducible assumption) | assumption)
                      obtain ⟨ad358, e358, hx358_0, hx358_1, hx358_2⟩ := at_T47 HR0_1.out x11_2 p358 q358
                      cases e358
                      replace hx358_0 := (HB.out.cell (World.block_lt_of_cell? w _ hx358_0)).trans hx358_0
                      replace hx358_1 := (HB.out.cell (World.block_lt_of_cell? w _ hx358_1)).trans hx358_1
                      replace hx358_2 := (HB.out.cell (World.block_lt_of_cell? w _ hx358_2)).trans hx358_2
                      replace p358 := eq_true p358
                      replace q358 := eq_true q358
                      have p359 : 0 ≤ (x11_2 : Int) := of_decide_eq_true (by first | (with_reducible assumption) | assumption)
                      have q359 : x11_2 < (l0_1.length : Int) := of_decide_eq_true (by first | (with_reducible assumption) | assumption)
                      obtain ⟨ad359, e359, hx359_0, hx359_1, hx359_2⟩ := at_T47 HR0_1.out x11_2 p359 q359
                      obtain rfl : ad358 = ad359 := (by injection e359)
                      replace hx359_0 := (HB.out.cell (World.block_lt_of_cell? w _ hx359_0)).trans hx359_0
                      replace hx359_1 := (HB.out.cell (World.block_lt_of_cell? w _ hx359_1)).trans hx359_1
                      replace hx359_2 := (HB.out.cell (World.block_lt_of_cell? w _ hx359_2)).trans hx359_2
                      replace p359 := eq_true p359
                      replace q359 := eq_true q359
                      go_wp2
                      go_roundg k2
                      case measure => have := HJ5.out; have := HK2.out; omega
                      case rel => exact ⟨((((rd_T47 l0_1 x11_2).f1) == t357)), (wrap64 (x11_2 + 1)), (by first | rfl | (simp; done) | (simp [*]; done)), (by first | rfl | (simp; done) | (simp [*]; done)), H', ⟨by have := HJ5.out; have := HK2.out; omega⟩, ⟨by (with_reducible repeat (first | refine blk_drewN ?_ _ | refine blk_drew ?_ | refine blk_alloc ?_ _)); exact BK353.out⟩, ⟨by repeat (first | (with_reducible first | exact HB.out | apply below_alloc | apply pw_below_drewN | apply below_drew1 | refine below_set ?_ GE353.out) | exact HB.out)⟩⟩
                    · rw [if_neg c41] at H
                      have c41b0 : ((Go.bits .and .i64 (ji40) 1) == 1) = false := beq_eq_false_iff_ne.mpr c41
                      have c41b1 : ((Go.bits .and .i64 (ji40) 1) != 1) = true := bne_iff_ne.mpr c41
                      have H' := Aside0.mk H
                      clear H
                      have hcz43_0 : wr.cell? ⟨gb353, 0, none⟩ = some (.slice A0_0 l0_0.length c0_0) := (blk_cell BK353.out 0).trans rfl
                      have hcz43_1 : wr.cell? ⟨gb353, 1, none⟩ = some (.slice A0_1 l0_1.length c0_1) := (blk_cell BK353.out 1).trans rfl
                      have hcz43_2 : wr.cell? ⟨gb353, 2, none⟩ = some (.int .i64 a0_2) := (blk_cell BK353.out 2).trans rfl
                      have hcz43_3 : wr.cell? ⟨gb353, 3, none⟩ = some (.int .i64 a0_3) := (blk_cell BK353.out 3).trans rfl
                      have hcz43_4 : wr.cell? ⟨gb353, 4, none⟩ = some (.int .i64 a0_4) := (blk_cell BK353.out 4).trans rfl
                      have hfz43_0 := blk_frozen BK353.out 0
                      have hfz43_1 := blk_frozen BK353.out 1
                      have hfz43_2 := blk_frozen BK353.out 2
                      have hfz43_3 := blk_frozen BK353.out 3
                      have hfz43_4 := blk_frozen BK353.out 4
                      have p358 : 0 ≤ (x11_2 : Int) := of_decide_eq_true (by first | (with_reducible assumption) | assumption)
                      have q358 : x11_2 < (l0_1.length : Int) := of_decide_eq_true (by first | (with_reducible assumption) | assumption)
                      obtain ⟨ad358, e358, hx358_0, hx358_1, hx358_2⟩ := at_T47 HR0_1.out x11_2 p358 q358
                      cases e358
                      replace hx358_0 := (HB.out.cell (World.block_lt_of_cell? w _ hx358_0)).trans hx358_0
                      replace hx358_1 := (HB.out.cell (World.block_lt_of_cell? w _ hx358_1)).trans hx358_1
                      replace hx358_2 := (HB.out.cell (World.block_lt_of_cell? w _ hx358_2)).trans hx358_2
                      replace p358 := eq_true p358
                      replace q358 := eq_true q358
                      go_wp2
                      go_roundg k2
                      case measure => have := HJ5.out; have := HK2.out; omega
                      case rel => exact ⟨(false), (wrap64 (x11_2 + 1)), (by first | rfl | (simp; done) | (simp [*]; done)), (by first | rfl | (simp; done) | (simp [*]; done)), H', ⟨by have := HJ5.out; have := HK2.out; omega⟩, ⟨by (with_reducible repeat (first | refine blk_drewN ?_ _ | refine blk_drew ?_ | refine blk_alloc ?_ _)); exact BK353.out⟩, ⟨by repeat (first | (with_reducible first | exact HB.out | apply below_alloc | apply pw_below_drewN | apply below_drew1 | refine below_set ?_ GE353.out) | exact HB.out)⟩⟩
                  · rw [if_neg c39] at H
                    exact absurd H (by simp)
                · rw [if_neg c38] at H
                  exact absurd H (by simp)
            · rw [if_neg c35] at H
              have c35b0 : decide (x11_2 < (l0_1.length : Int)) = false := decide_eq_false c35
              clear c35
              by_cases c44 : x10_2 = true
              · subst c44
                have H1 : (if t357 ≥ 1 then (if 0 ≤ a1 then (if a1 < (l0_1.length : Int) then (if 0 ≤ a2 then (if (Go.bits .and .i64 (shr .i64 ((rd_T47 l0_1 a1).f0) a2) 1) = 0 then (some true) else (if ((rd_T47 l0_1 a1).f1) ≥ t357 then (some (decide (((rd_T47 l0_1 a1).f2) ≥ t357))) else (some false))) else (none)) else (none)) else (none)) else (some false)) = some r := by rw [if_pos rfl] at H; exact H
                clear H
                have H := H1
                clear H1
                by_cases c45 : t357 ≥ 1
                · rw [if_pos c45] at H
                  have c45b0 : decide (1 ≤ t357) = true := decide_eq_true c45
                  clear c45
                  by_cases c46 : 0 ≤ a1
                  · rw [if_pos c46] at H
                    have c46b0 : decide (0 ≤ a1) = true := decide_eq_true c46
                    clear c46
                    by_cases c47 : a1 < (l0_1.length : Int)
                    · rw [if_pos c47] at H
                      have c47b0 : decide (a1 < (l0_1.length : Int)) = true := decide_eq_true c47
                      clear c47
                      by_cases c48 : 0 ≤ a2
                      · rw [if_pos c48] at H
                        have c48b0 := eq_true c48
                        have c48b1 : decide (0 ≤ a2) = true := decide_eq_true c48
                        clear c48
                        obtain ⟨ji49, hji49⟩ : ∃ j_ : Int, (shr .i64 ((rd_T47 l0_1 a1).f0) a2) = j_ := ⟨_, rfl⟩
                        replace H : (if (Go.bits .and .i64 (ji49) 1) = 0 then (some true) else (if ((rd_T47 l0_1 a1).f1) ≥ t357 then (some (decide (((rd_T47 l0_1 a1).f2) ≥ t357))) else (some false))) = some r := by first | (rw [hji49] at H; exact H) | (simp only [hji49] at H ⊢; exact H)
                        have hji49_ : (((rd_T47 l0_1 a1).f0) / 2 ^ min a2.toNat 64) = ji49 := hji49
                        have hji49z : a2 ≤ 64 → (((rd_T47 l0_1 a1).f0) / 2 ^ a2.toNat) = ji49 := shr_small hji49
                        by_cases c50 : (Go.bits .and .i64 (ji49) 1) = 0
                        · rw [if_pos c50] at H
                          have c50b0 : ((Go.bits .and .i64 (ji49) 1) == 0) = true := beq_iff_eq.mpr c50
                          have c50b1 : ((Go.bits .and .i64 (ji49) 1) != 0) = false := bne_eq_false_iff_eq.mpr c50
                          clear c50
                          obtain rfl := Option.some.inj H
                          have hcz51_0 : wr.cell? ⟨gb353, 0, none⟩ = some (.slice A0_0 l0_0.length c0_0) := (blk_cell BK353.out 0).trans rfl
                          have hcz51_1 : wr.cell? ⟨gb353, 1, none⟩ = some (.slice A0_1 l0_1.length c0_1) := (blk_cell BK353.out 1).trans rfl
                          have hcz51_2 : wr.cell? ⟨gb353, 2, none⟩ = some (.int .i64 a0_2) := (blk_cell BK353.out 2).trans rfl
                          have hcz51_3 : wr.cell? ⟨gb353, 3, none⟩ = some (.int .i64 a0_3) := (blk_cell BK353.out 3).trans rfl
                          have hcz51_4 : wr.cell? ⟨gb353, 4, none⟩ = some (.int .i64 a0_4) := (blk_cell BK353.out 4).trans rfl
                          have hfz51_0 := blk_frozen BK353.out 0
                          have hfz51_1 := blk_frozen BK353.out 1
                          have hfz51_2 := blk_frozen BK353.out 2
                          have hfz51_3 := blk_frozen BK353.out 3
                          have hfz51_4 := blk_frozen BK353.out 4
                          have p360 : 0 ≤ (a1 : Int) := of_decide_eq_true (by first | (with_reducible assumption) | assumption)
                          have q360 : a1 < (l0_1.length : Int) := of_decide_eq_true (by first | (with_reducible assumption) | assumption)
                          obtain ⟨ad360, e360, hx360_0, hx360_1, hx360_2⟩ := at_T47 HR0_1.out a1 p360 q360
                          cases e360
                          replace hx360_0 := (HB.out.cell (World.block_lt_of_cell? w _ hx360_0)).trans hx360_0
                          replace hx360_1 := (HB.out.cell (World.block_lt_of_cell? w _ hx360_1)).trans hx360_1
                          replace hx360_2 := (HB.out.cell (World.block_lt_of_cell? w _ hx360_2)).trans hx360_2
                          replace p360 := eq_true p360
                          replace q360 := eq_true q360
                          go_wp2
                          go_ret
                          exact ⟨by first | rfl | (simp [errW_none, errW_some] <;> rfl) | (simp only [← hji49]; first | rfl | (simp [errW_none, errW_some] <;> rfl)) | (simp [*, errW_none, errW_some] <;> rfl), by repeat (first | (with_reducible first | exact HB.out | apply below_alloc | apply pw_below_drewN | apply below_drew1 | refine below_set ?_ GE353.out) | exact HB.out)⟩
                        · rw [if_neg c50] at H
                          have c50b0 : ((Go.bits .and .i64 (ji49) 1) == 0) = false := beq_eq_false_iff_ne.mpr c50
                          have c50b1 : ((Go.bits .and .i64 (ji49) 1) != 0) = true := bne_iff_ne.mpr c50
                          by_cases c52 : ((rd_T47 l0_1 a1).f1) ≥ t357
                          · rw [if_pos c52] at H
                            have c52b0 : decide (t357 ≤ ((rd_T47 l0_1 a1).f1)) = true := decide_eq_true c52
                            clear c52
                            obtain rfl := Option.some.inj H
                            have hcz53_0 : wr.cell? ⟨gb353, 0, none⟩ = some (.slice A0_0 l0_0.length c0_0) := (blk_cell BK353.out 0).trans rfl
                            have hcz53_1 : wr.cell? ⟨gb353, 1, none⟩ = some (.slice A0_1 l0_1.length c0_1) := (blk_cell BK353.out 1).trans rfl
                            have hcz53_2 : wr.cell? ⟨gb353, 2, none⟩ = some (.int .i64 a0_2) := (blk_cell BK353.out 2).trans rfl
                            have hcz53_3 : wr.cell? ⟨gb353, 3, none⟩ = some (.int .i64 a0_3) := (blk_cell BK353.out 3).trans rfl
                            have hcz53_4 : wr.cell? ⟨gb353, 4, none⟩ = some (.int .i64 a0_4) := (blk_cell BK353.out 4).trans rfl
                            have hfz53_0 := blk_frozen BK353.out 0
                            have hfz53_1 := blk_frozen BK353.out 1
                            have hfz53_2 := blk_frozen BK353.out 2
                            have hfz53_3 := blk_frozen BK353.out 3
                            have hfz53_4 := blk_frozen BK353.out 4
                            have p360 : 0 ≤ (a1 : Int) := of_decide_eq_true (by first | (with_reducible assumption) | assumption)
                            have q360 : a1 < (l0_1.length : Int) := of_decide_eq_true (by first | (with_reducible assumption) | assumption)
                            obtain ⟨ad360, e360, hx360_0, hx360_1, hx360_2⟩ := at_T47 HR0_1.out a1 p360 q360
                            cases e360
                            replace hx360_0 := (HB.out.cell (World.block_lt_of_cell? w _ hx360_0)).trans hx360_0
                            replace hx360_1 := (HB.out.cell (World.block_lt_of_cell? w _ hx360_1)).trans hx360_1
                            replace hx360_2 := (HB.out.cell (World.block_lt_of_cell? w _ hx360_2)).trans hx360_2
                            replace p360 := eq_true p360
                            replace q360 := eq_true q360
                            have p361 : 0 ≤ (a1 : Int) := of_decide_eq_true (by first | (with_reducible assumption) | assumption)
                            have q361 : a1 < (l0_1.length : Int) := of_decide_eq_true (by first | (with_reducible assumption) | assumption)
                            obtain ⟨ad361, e361, hx361_0, hx361_1, hx361_2⟩ := at_T47 HR0_1.out a1 p361 q361
                            obtain rfl : ad360 = ad361 := (by injection e361)
                            replace hx361_0 := (HB.out.cell (World.block_lt_of_cell? w _ hx361_0)).trans hx361_0
                            replace hx361_1 := (HB.out.cell (World.block_lt_of_cell? w _ hx361_1)).trans hx361_1
                            replace hx361_2 := (HB.out.cell (World.block_lt_of_cell? w _ hx361_2)).trans hx361_2
                            replace p361 := eq_true p361
                            replace q361 := eq_true q361
                            have p362 : 0 ≤ (a1 : Int) := of_decide_eq_true (by first | (with_reducible assumption) | assumption)
                            have q362 : a1 < (l0_1.length : Int) := of_decide_eq_true (by first | (with_reducible assumption) | assumption)
                            obtain ⟨ad362, e362, hx362_0, hx362_1, hx362_2⟩ := at_T47 HR0_1.out a1 p362 q362
                            obtain rfl : ad360 = ad362 := (by injection e362)
                            replace hx362_0 := (HB.out.cell (World.block_lt_of_cell? w _ hx362_0)).trans hx362_0
                            replace hx362_1 := (HB.out.cell (World.block_lt_of_cell? w _ hx362_1)).trans hx362_1
                            replace hx362_2 := (HB.out.cell (World.block_lt_of_cell? w _ hx362_2)).trans hx362_2
                            replace p362 := eq_true p362
                            replace q362 := eq_true q362
                            go_wp2
                            go_ret
                            exact ⟨by first | rfl | (simp [errW_none, errW_some] <;> rfl) | (simp only [← hji49]; first | rfl | (simp [errW_none, errW_some] <;> rfl)) | (simp [*, errW_none, errW_some] <;> rfl), by repeat (first | (with_reducible first | exact HB.out | apply below_alloc | apply pw_below_drewN | apply below_drew1 | refine below_set ?_ GE353.out) | exact HB.out)⟩
                          · rw [if_neg c52] at H
                            have c52b0 : decide (t357 ≤ ((rd_T47 l0_1 a1).f1)) = false := decide_eq_false c52
                            clear c52
                            obtain rfl := Option.some.inj H
                            have hcz54_0 : wr.cell? ⟨gb353, 0, none⟩ = some (.slice A0_0 l0_0.length c0_0) := (blk_cell BK353.out 0).trans rfl
                            have hcz54_1 : wr.cell? ⟨gb353, 1, none⟩ = some (.slice A0_1 l0_1.length c0_1) := (blk_cell BK353.out 1).trans rfl
                            have hcz54_2 : wr.cell? ⟨gb353, 2, none⟩ = some (.int .i64 a0_2) := (blk_cell BK353.out 2).trans rfl
                            have hcz54_3 : wr.cell? ⟨gb353, 3, none⟩ = some (.int .i64 a0_3) := (blk_cell BK353.out 3).trans rfl
                            have hcz54_4 : wr.cell? ⟨gb353, 4, none⟩ = some (.int .i64 a0_4) := (blk_cell BK353.out 4).trans rfl
                            have hfz54_0 := blk_frozen BK353.out 0
                            have hfz54_1 := blk_frozen BK353.out 1
                            have hfz54_2 := blk_frozen BK353.out 2
                            have hfz54_3 := blk_frozen BK353.out 3
                            have hfz54_4 := blk_frozen BK353.out 4
                            have p360 : 0 ≤ (a1 : Int) := of_decide_eq_true (by first | (with_reducible assumption) | assumption)
                            have q360 : a1 < (l0_1.length : Int) := of_decide_eq_true (by first | (with_reducible assumption) | assumption)
                            obtain ⟨ad360, e360, hx360_0, hx360_1, hx360_2⟩ := at_T47 HR0_1.out a1 p360 q360
                            cases e360
                            replace hx360_0 := (HB.out.cell (World.block_lt_of_cell? w _ hx360_0)).trans hx360_0
                            replace hx360_1 := (HB.out.cell (World.block_lt_of_cell? w _ hx360_1)).trans hx360_1
                            replace hx360_2 := (HB.out.cell (World.block_lt_of_cell? w _ hx360_2)).trans hx360_2
                            replace p360 := eq_true p360
                            replace q360 := eq_true q360
                            have p361 : 0 ≤ (a1 : Int) := of_decide_eq_true (by first | (with_reducible assumption) | assumption)
                            have q361 : a1 < (l0_1.length : Int) := of_decide_eq_true (by first | (with_reducible assumption) | assumption)
                            obtain ⟨ad361, e361, hx361_0, hx361_1, hx361_2⟩ := at_T47 HR0_1.out a1 p361 q361
                            obtain rfl : ad360 = ad361 := (by injection e361)
                            replace hx361_0 := (HB.out.cell (World.block_lt_of_cell? w _ hx361_0)).trans hx361_0
                            replace hx361_1 := (HB.out.cell (World.block_lt_of_cell? w _ hx361_1)).trans hx361_1
                            replace hx361_2 := (HB.out.cell (World.block_lt_of_cell? w _ hx361_2)).trans hx361_2
                            replace p361 := eq_true p361
                            replace q361 := eq_true q361
                            go_wp2
                            go_ret
                            exact ⟨by first | rfl | (simp [errW_none, errW_some] <;> rfl) | (simp only [← hji49]; first | rfl | (simp [errW_none, errW_some] <;> rfl)) | (simp [*, errW_none, errW_some] <;> rfl), by repeat (first | (with_reducible first | exact HB.out | apply below_alloc | apply pw_below_drewN | apply below_drew1 | refine below_set ?_ GE353.out) | exact HB.out)⟩
                      · rw [if_neg c48] at H
                        exact absurd H (by simp)
                    · rw [if_neg c47] at H
                      exact absurd H (by simp)
                  · rw [if_neg c46] at H
                    exact absurd H (by simp)
                · rw [if_neg c45] at H
                  have c45b0 : decide (1 ≤ t357) = false := decide_eq_false c45
                  clear c45
                  obtain rfl := Option.some.inj H
                  have hcz55_0 : wr.cell? ⟨gb353, 0, none⟩ = some (.slice A0_0 l0_0.length c0_0) := (blk_cell BK353.out 0).trans rfl
                  have hcz55_1 : wr.cell? ⟨gb353, 1, none⟩ = some (.slice A0_1 l0_1.length c0_1) := (blk_cell BK353.out 1).trans rfl
                  have hcz55_2 : wr.cell? ⟨gb353, 2, none⟩ = some (.int .i64 a0_2) := (blk_cell BK353.out 2).trans rfl
                  have hcz55_3 : wr.cell? ⟨gb353, 3, none⟩ = some (.int .i64 a0_3) := (blk_cell BK353.out 3).trans rfl
                  have hcz55_4 : wr.cell? ⟨gb353, 4, none⟩ = some (.int .i64 a0_4) := (blk_cell BK353.out 4).trans rfl
                  have hfz55_0 := blk_frozen BK353.out 0
                  have hfz55_1 := blk_frozen BK353.out 1
                  have hfz55_2 := blk_frozen BK353.out 2
                  have hfz55_3 := blk_frozen BK353.out 3
                  have hfz55_4 := blk_frozen BK353.out 4
                  go_wp2
                  go_ret
                  exact ⟨by first | rfl | (simp [errW_none, errW_some] <;> rfl) | (simp [*, errW_none, errW_some] <;> rfl), by repeat (first | (with_reducible first | exact HB.out | apply below_alloc | apply pw_below_drewN | apply below_drew1 | refine below_set ?_ GE353.out) | exact HB.out)⟩
              · replace c44 := Bool.eq_false_iff.mpr c44
                subst c44
                have H1 : (some false) = some r := by rw [if_neg (show ¬ (false = true) by decide)] at H; exact H
                clear H
                have H := H1
                clear H1
                obtain rfl := Option.some.inj H
                have hcz56_0 : wr.cell? ⟨gb353, 0, none⟩ = some (.slice A0_0 l0_0.length c0_0) := (blk_cell BK353.out 0).trans rfl
                have hcz56_1 : wr.cell? ⟨gb353, 1, none⟩ = some (.slice A0_1 l0_1.length c0_1) := (blk_cell BK353.out 1).trans rfl
                have hcz56_2 : wr.cell? ⟨gb353, 2, none⟩ = some (.int .i64 a0_2) := (blk_cell BK353.out 2).trans rfl
                have hcz56_3 : wr.cell? ⟨gb353, 3, none⟩ = some (.int .i64 a0_3) := (blk_cell BK353.out 3).trans rfl
                have hcz56_4 : wr.cell? ⟨gb353, 4, none⟩ = some (.int .i64 a0_4) := (blk_cell BK353.out 4).trans rfl
                have hfz56_0 := blk_frozen BK353.out 0
                have hfz56_1 := blk_frozen BK353.out 1
                have hfz56_2 := blk_frozen BK353.out 2
                have hfz56_3 := blk_frozen BK353.out 3
                have hfz56_4 := blk_frozen BK353.out 4
                go_wp2
                go_ret
                exact ⟨by first | rfl | (simp [errW_none, errW_some] <;> rfl) | (simp [*, errW_none, errW_some] <;> rfl), by repeat (first | (with_reducible first | exact HB.out | apply below_alloc | apply pw_below_drewN | apply below_drew1 | refine below_set ?_ GE353.out) | exact HB.out)⟩

end Go.Proofs.YtnogkpofgkaefaaDoor.F
