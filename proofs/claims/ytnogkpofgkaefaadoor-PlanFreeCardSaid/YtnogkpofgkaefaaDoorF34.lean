/- Woven by wip/weave/weave.py of this repo (own tool) out of the translation: the contracts of some functions. Lean checks it. -/
import Derived.Test.YtnogkpofgkaefaaDoorD
import Derived.Test.YtnogkpofgkaefaaDoorDPlanFree
import Derived.Test.YtnogkpofgkaefaaDoorF0
import Derived.Test.YtnogkpofgkaefaaDoorF6
import Derived.Test.YtnogkpofgkaefaaDoorF7
import Derived.Test.YtnogkpofgkaefaaDoorF20
import Derived.Test.YtnogkpofgkaefaaDoorF23
import Derived.Test.YtnogkpofgkaefaaDoorF24
namespace Go.Proofs.YtnogkpofgkaefaaDoor.F
open Go.RowKit Go.Proofs.YtnogkpofgkaefaaDoorW.PrintWords Go.Proofs.YtnogkpofgkaefaaDoorW.PrintLast Go.Proofs.YtnogkpofgkaefaaDoorW.PrintMore
attribute [local go_sem] max2_int min2_int max_two min_two max_three min_three max_four min_four   -- for this text's walks alone
set_option linter.unusedVariables false
set_option linter.unusedSimpArgs false

/-! ### pelicanlaw14_PlanFree: function 11 -/
def pelicanlaw14_PlanFree.T9 : Bool × List (List Nat × List Nat) := (true, [([], []), ([0], [0]), ([], []), ([2], [2]), ([1, 3], [1, 3]), ([], []), ([5], [5]), ([6], [6]), ([7], [7]), ([8], [8]), ([], []), ([10], [10]), ([9, 11], [9, 11]), ([4, 12], [4, 12]), ([13, 4, 0, 1, 2, 3, 4, 5, 6, 7, 8, 9, 10, 11, 12, 13], [13])])
def pelicanlaw14_PlanFree.B9 : List Nat := [0, 1, 0, 4, 15, 0, 32, 96, 224, 480, 0, 1024, 4064, 8191, 16383]
theorem pelicanlaw14_PlanFree.tab9 : rtab .any (opsOf Tryd.f11 9) = pelicanlaw14_PlanFree.T9 := by kernel_rfl
theorem pelicanlaw14_PlanFree.bits9 : waitsOk pelicanlaw14_PlanFree.T9.2 pelicanlaw14_PlanFree.B9 = true := by kernel_rfl
set_option maxHeartbeats 8000000 in
set_option maxRecDepth 100000 in
theorem pelicanlaw14_PlanFree.calls (k : Nat) (A0_0 : Option Addr) (c0_0 : Nat) (l0_0 : List Int) (A0_1 : Option Addr) (c0_1 : Nat) (l0_1 : List (S47)) (a0_2 : Int) (a0_3 : Int) (a0_4 : Int) (a1 : Int) (a2 : Int) (a3 : Int) (r : Bool) (HRR0 : r = true) (w : World) (hr0_0 : Kd.C (Kd.int .i64) w A0_0 l0_0.length l0_0) (hc0_0 : l0_0.length ≤ c0_0) (hr0_1 : Kd.C k47 w A0_1 l0_1.length l0_1) (hc0_1 : l0_1.length ≤ c0_1) (hG : GlobOk w) (h : pelicanlaw14_PlanFree.f k l0_0 l0_1 a0_2 a0_3 a0_4 a1 a2 a3 = some r) :
    Calls Tryd.prog 11 #[.agg #[.slice A0_0 l0_0.length c0_0, .slice A0_1 l0_1.length c0_1, .int .i64 a0_2, .int .i64 a0_3, .int .i64 a0_4], .int .i64 a1, .int .i64 a2, .int .i64 a3] w fun e w' => e = .returned (.bool r) ∧ Below w.heap.size w w' := by
  have hu37 := Tryd.underlying37
  have HR0_0 := Aside0.mk hr0_0
  have HC0_0 := Aside0.mk hc0_0
  clear hr0_0 hc0_0
  have HR0_1 := Aside0.mk hr0_1
  have HC0_1 := Aside0.mk hc0_1
  clear hr0_1 hc0_1
  have HG := Aside0.mk hG
  clear hG
  have HB := Aside0.mk (Below.refl w.heap.size w)
  have H : ((pelicanlaw14_awake.f k).bind fun t364 => ((pelicanlaw14_Few.f l0_0 l0_1 a0_2 a0_3 a0_4).bind fun t365 => (if t364 = true then (if t365 = true then ((plan_Fit.f k l0_0 l0_1 a0_2 a0_3 a0_4).bind fun t366 => (if t366 = true then (if a1 < 0 then (pelicanlaw14_PlanFree.j0 k a1 a2 a3 t364 true l0_0 l0_1 a0_2 a0_3 a0_4) else (if a1 ≥ (l0_1.length : Int) then (pelicanlaw14_PlanFree.j0 k a1 a2 a3 t364 true l0_0 l0_1 a0_2 a0_3 a0_4) else (if a2 < 0 then (pelicanlaw14_PlanFree.j0 k a1 a2 a3 t364 true l0_0 l0_1 a0_2 a0_3 a0_4) else (if a2 ≥ (l0_0.length : Int) then (pelicanlaw14_PlanFree.j0 k a1 a2 a3 t364 true l0_0 l0_1 a0_2 a0_3 a0_4) else (if a3 < 0 then (pelicanlaw14_PlanFree.j0 k a1 a2 a3 t364 true l0_0 l0_1 a0_2 a0_3 a0_4) else (pelicanlaw14_PlanFree.j0 k a1 a2 a3 t364 (decide (a3 ≥ (l0_0.length : Int))) l0_0 l0_1 a0_2 a0_3 a0_4)))))) else (pelicanlaw14_PlanFree.j0 k a1 a2 a3 t364 true l0_0 l0_1 a0_2 a0_3 a0_4))) else (pelicanlaw14_PlanFree.j0 k a1 a2 a3 t364 true l0_0 l0_1 a0_2 a0_3 a0_4)) else (pelicanlaw14_PlanFree.j0 k a1 a2 a3 t364 true l0_0 l0_1 a0_2 a0_3 a0_4)))) = some r := h
  clear h
  have HRR := Aside0.mk HRR0
  clear HRR0
  replace H := Option.bind_eq_some_iff.mp H
  obtain ⟨t364, A50, H⟩ := H
  replace H : ((pelicanlaw14_Few.f l0_0 l0_1 a0_2 a0_3 a0_4).bind fun t365 => (if t364 = true then (if t365 = true then ((plan_Fit.f k l0_0 l0_1 a0_2 a0_3 a0_4).bind fun t366 => (if t366 = true then (if a1 < 0 then (pelicanlaw14_PlanFree.j0 k a1 a2 a3 t364 true l0_0 l0_1 a0_2 a0_3 a0_4) else (if a1 ≥ (l0_1.length : Int) then (pelicanlaw14_PlanFree.j0 k a1 a2 a3 t364 true l0_0 l0_1 a0_2 a0_3 a0_4) else (if a2 < 0 then (pelicanlaw14_PlanFree.j0 k a1 a2 a3 t364 true l0_0 l0_1 a0_2 a0_3 a0_4) else (if a2 ≥ (l0_0.length : Int) then (pelicanlaw14_PlanFree.j0 k a1 a2 a3 t364 true l0_0 l0_1 a0_2 a0_3 a0_4) else (if a3 < 0 then (pelicanlaw14_PlanFree.j0 k a1 a2 a3 t364 true l0_0 l0_1 a0_2 a0_3 a0_4) else (pelicanlaw14_PlanFree.j0 k a1 a2 a3 t364 (decide (a3 ≥ (l0_0.length : Int))) l0_0 l0_1 a0_2 a0_3 a0_4)))))) else (pelicanlaw14_PlanFree.j0 k a1 a2 a3 t364 true l0_0 l0_1 a0_2 a0_3 a0_4))) else (pelicanlaw14_PlanFree.j0 k a1 a2 a3 t364 true l0_0 l0_1 a0_2 a0_3 a0_4)) else (pelicanlaw14_PlanFree.j0 k a1 a2 a3 t364 true l0_0 l0_1 a0_2 a0_3 a0_4))) = some r := H
  have A5 := Aside0.mk A50
  clear A50
  replace H := Option.bind_eq_some_iff.mp H
  obtain ⟨t365, A60, H⟩ := H
  replace H : (if t364 = true then (if t365 = true then ((plan_Fit.f k l0_0 l0_1 a0_2 a0_3 a0_4).bind fun t366 => (if t366 = true then (if a1 < 0 then (pelicanlaw14_PlanFree.j0 k a1 a2 a3 t364 true l0_0 l0_1 a0_2 a0_3 a0_4) else (if a1 ≥ (l0_1.length : Int) then (pelicanlaw14_PlanFree.j0 k a1 a2 a3 t364 true l0_0 l0_1 a0_2 a0_3 a0_4) else (if a2 < 0 then (pelicanlaw14_PlanFree.j0 k a1 a2 a3 t364 true l0_0 l0_1 a0_2 a0_3 a0_4) else (if a2 ≥ (l0_0.length : Int) then (pelicanlaw14_PlanFree.j0 k a1 a2 a3 t364 true l0_0 l0_1 a0_2 a0_3 a0_4) else (if a3 < 0 then (pelicanlaw14_PlanFree.j0 k a1 a2 a3 t364 true l0_0 l0_1 a0_2 a0_3 a0_4) else (pelicanlaw14_PlanFree.j0 k a1 a2 a3 t364 (decide (a3 ≥ (l0_0.length : Int))) l0_0 l0_1 a0_2 a0_3 a0_4)))))) else (pelicanlaw14_PlanFree.j0 k a1 a2 a3 t364 true l0_0 l0_1 a0_2 a0_3 a0_4))) else (pelicanlaw14_PlanFree.j0 k a1 a2 a3 t364 true l0_0 l0_1 a0_2 a0_3 a0_4)) else (pelicanlaw14_PlanFree.j0 k a1 a2 a3 t364 true l0_0 l0_1 a0_2 a0_3 a0_4)) = some r := H
  have A6 := Aside0.mk A60
  clear A60
  have HC7 := Aside0.mk H
  clear H
  go_enter Tryd.func11, Tryd.ntmps11
  go_upto_region 3 with (first | ((with_reducible refine gate_dst (N := 4) rfl ?_); (try (refine gate_guard (by rfl) ?_; dsimp only)); refine box_event ?hg (N := 4) ?hd (cs := #[.slice A0_0 l0_0.length c0_0, .slice A0_1 l0_1.length c0_1, .int .i64 a0_2, .int .i64 a0_3, .int .i64 a0_4]) (t := 37) ?hr ?_; (case hd => rfl); (case hg => rfl); (case hr => first | (go_simp; done) | (go_simp; rfl)); intro gb363 hg w8 hbox hb; have n0_ := Aside0.mk (below_step (by repeat (first | (with_reducible first | exact HB.out | apply below_alloc | apply pw_below_drewN | apply below_drew1) | exact HB.out)) hb); have n1_ := Aside0.mk (hbox); have n2_ := Aside0.mk ((by rw [hg]; exact (below_size (by repeat (first | (with_reducible first | exact HB.out | apply below_alloc | apply pw_below_drewN | apply below_drew1) | exact HB.out))) : w.heap.size ≤ gb363)); have n3_ := Aside0.mk ((by rw [hg]; exact (below_size (by repeat (first | (with_reducible first | exact HB.out | apply below_alloc | apply pw_below_drewN | apply below_drew1) | exact HB.out))) : w.heap.size ≤ gb363)); clear HB; have HB := n0_; have BK363 := n1_; have GW363 := n2_; have GE363 := n3_; clear n0_ n1_ n2_ n3_; clear hb hbox hg) | ((with_reducible refine gate_callee (f := 28) rfl ?_); refine goesL_ (some 16) rfl rfl Tryd.func28 (by kernel_rfl) rfl #[] rfl (by (try simp only [List.map_toArray, List.map_cons, List.map_nil]); first | done | rfl | (simp only [List.length_drop, List.length_take]; rfl)) ?_; (with_reducible refine (pelicanlaw14_awake.calls k  t364 _ ?side1 A5.out).mono ?_); (case side1 => first | (with_reducible exact HG.out) | (refine GlobOk.below HG.out ?_; repeat (first | (with_reducible first | exact HB.out | apply below_alloc | apply pw_below_drewN | apply below_drew1 | refine below_set ?_ GE363.out) | exact HB.out))); rintro e w9 ⟨rfl, hb⟩; refine ⟨_, rfl, ?_⟩; have n0_ := Aside0.mk (blk_below (g := gb363) (o := .cells #[.slice A0_0 l0_0.length c0_0, .slice A0_1 l0_1.length c0_1, .int .i64 a0_2, .int .i64 a0_3, .int .i64 a0_4] 37 (0, 0)) (by (with_reducible repeat (first | refine blk_drewN ?_ _ | refine blk_drew ?_ | refine blk_alloc ?_ _)); exact BK363.out) hb); have n1_ := Aside0.mk (below_step (by repeat (first | (with_reducible first | exact HB.out | apply below_alloc | apply pw_below_drewN | apply below_drew1 | refine below_set ?_ GE363.out) | exact HB.out)) hb); clear BK363; clear HB; have BK363 := n0_; have HB := n1_; clear n0_ n1_; (try clear hb); (try clear hb2); (try clear hk); (try clear hi); have hcz10_0 : w9.cell? ⟨gb363, 0, none⟩ = some (.slice A0_0 l0_0.length c0_0) := (blk_cell BK363.out 0).trans rfl; have hcz10_1 : w9.cell? ⟨gb363, 1, none⟩ = some (.slice A0_1 l0_1.length c0_1) := (blk_cell BK363.out 1).trans rfl; have hcz10_2 : w9.cell? ⟨gb363, 2, none⟩ = some (.int .i64 a0_2) := (blk_cell BK363.out 2).trans rfl; have hcz10_3 : w9.cell? ⟨gb363, 3, none⟩ = some (.int .i64 a0_3) := (blk_cell BK363.out 3).trans rfl; have hcz10_4 : w9.cell? ⟨gb363, 4, none⟩ = some (.int .i64 a0_4) := (blk_cell BK363.out 4).trans rfl; have hfz10_0 := blk_frozen BK363.out 0; have hfz10_1 := blk_frozen BK363.out 1; have hfz10_2 := blk_frozen BK363.out 2; have hfz10_3 := blk_frozen BK363.out 3; have hfz10_4 := blk_frozen BK363.out 4) | ((with_reducible refine gate_callee (f := 29) rfl ?_); refine goesL_ (some 18) rfl rfl Tryd.func29 (by kernel_rfl) rfl #[.agg #[.slice A0_0 l0_0.length c0_0, .slice A0_1 l0_1.length c0_1, .int .i64 a0_2, .int .i64 a0_3, .int .i64 a0_4]] rfl (by (try simp only [List.map_toArray, List.map_cons, List.map_nil]); first | done | rfl | (simp only [List.length_drop, List.length_take]; rfl)) ?_; (with_reducible refine (pelicanlaw14_Few.calls _ _ l0_0 _ _ l0_1 a0_2 a0_3 a0_4 t365 _ ?side1 ?side2 ?side3 ?side4 A6.out).mono ?_); (case side1 => repeat (first | exact (Kd.C_below HR0_0.out HB.out) | (with_reducible refine Kd.C_alloc ?_ _) | (with_reducible refine Kd.C_drewN ?_ _) | (with_reducible refine Kd.C_drew ?_))); (case side2 => exact HC0_0.out); (case side3 => repeat (first | exact (Kd.C_below HR0_1.out HB.out) | (with_reducible refine Kd.C_alloc ?_ _) | (with_reducible refine Kd.C_drewN ?_ _) | (with_reducible refine Kd.C_drew ?_))); (case side4 => exact HC0_1.out); rintro e w11 ⟨rfl, hb⟩; refine ⟨_, rfl, ?_⟩; have n0_ := Aside0.mk (blk_below (g := gb363) (o := .cells #[.slice A0_0 l0_0.length c0_0, .slice A0_1 l0_1.length c0_1, .int .i64 a0_2, .int .i64 a0_3, .int .i64 a0_4] 37 (0, 0)) (by (with_reducible repeat (first | refine blk_drewN ?_ _ | refine blk_drew ?_ | refine blk_alloc ?_ _)); exact BK363.out) hb); have n1_ := Aside0.mk (below_step (by repeat (first | (with_reducible first | exact HB.out | apply below_alloc | apply pw_below_drewN | apply below_drew1 | refine below_set ?_ GE363.out) | exact HB.out)) hb); clear BK363; clear HB; have BK363 := n0_; have HB := n1_; clear n0_ n1_; (try clear hb); (try clear hb2); (try clear hk); (try clear hi)))
  (try simp only [Act.put, List.setIfInBounds_toArray, List.set_cons_zero, List.set_cons_succ])
  go_cut [62] (fun v62 wc => ∃ (kq : Nat) (x62_6 : Bool), v62 = .bool x62_6 ∧ Aside0 (pelicanlaw14_PlanFree.j0 kq a1 a2 a3 t364 x62_6 l0_0 l0_1 a0_2 a0_3 a0_4 = some r) ∧ Aside0 (kq ≤ k) ∧ Aside0 (wc.heap[gb363]? = some (.cells #[(.slice A0_0 l0_0.length c0_0), (.slice A0_1 l0_1.length c0_1), .int .i64 a0_2, .int .i64 a0_3, .int .i64 a0_4] 37 (0, 0))) ∧ Aside0 (Below w.heap.size w wc))
  case first =>
    have H := HC7.out
    clear HC7
    by_cases c12 : t364 = true
    · subst c12
      have H1 : (if t365 = true then ((plan_Fit.f k l0_0 l0_1 a0_2 a0_3 a0_4).bind fun t366 => (if t366 = true then (if a1 < 0 then (pelicanlaw14_PlanFree.j0 k a1 a2 a3 true true l0_0 l0_1 a0_2 a0_3 a0_4) else (if a1 ≥ (l0_1.length : Int) then (pelicanlaw14_PlanFree.j0 k a1 a2 a3 true true l0_0 l0_1 a0_2 a0_3 a0_4) else (if a2 < 0 then (pelicanlaw14_PlanFree.j0 k a1 a2 a3 true true l0_0 l0_1 a0_2 a0_3 a0_4) else (if a2 ≥ (l0_0.length : Int) then (pelicanlaw14_PlanFree.j0 k a1 a2 a3 true true l0_0 l0_1 a0_2 a0_3 a0_4) else (if a3 < 0 then (pelicanlaw14_PlanFree.j0 k a1 a2 a3 true true l0_0 l0_1 a0_2 a0_3 a0_4) else (pelicanlaw14_PlanFree.j0 k a1 a2 a3 true (decide (a3 ≥ (l0_0.length : Int))) l0_0 l0_1 a0_2 a0_3 a0_4)))))) else (pelicanlaw14_PlanFree.j0 k a1 a2 a3 true true l0_0 l0_1 a0_2 a0_3 a0_4))) else (pelicanlaw14_PlanFree.j0 k a1 a2 a3 true true l0_0 l0_1 a0_2 a0_3 a0_4)) = some r := by rw [if_pos rfl] at H; exact H
      clear H
      have H := H1
      clear H1
      by_cases c13 : t365 = true
      · subst c13
        have H1 : ((plan_Fit.f k l0_0 l0_1 a0_2 a0_3 a0_4).bind fun t366 => (if t366 = true then (if a1 < 0 then (pelicanlaw14_PlanFree.j0 k a1 a2 a3 true true l0_0 l0_1 a0_2 a0_3 a0_4) else (if a1 ≥ (l0_1.length : Int) then (pelicanlaw14_PlanFree.j0 k a1 a2 a3 true true l0_0 l0_1 a0_2 a0_3 a0_4) else (if a2 < 0 then (pelicanlaw14_PlanFree.j0 k a1 a2 a3 true true l0_0 l0_1 a0_2 a0_3 a0_4) else (if a2 ≥ (l0_0.length : Int) then (pelicanlaw14_PlanFree.j0 k a1 a2 a3 true true l0_0 l0_1 a0_2 a0_3 a0_4) else (if a3 < 0 then (pelicanlaw14_PlanFree.j0 k a1 a2 a3 true true l0_0 l0_1 a0_2 a0_3 a0_4) else (pelicanlaw14_PlanFree.j0 k a1 a2 a3 true (decide (a3 ≥ (l0_0.length : Int))) l0_0 l0_1 a0_2 a0_3 a0_4)))))) else (pelicanlaw14_PlanFree.j0 k a1 a2 a3 true true l0_0 l0_1 a0_2 a0_3 a0_4))) = some r := by rw [if_pos rfl] at H; exact H
        clear H
        have H := H1
        clear H1
        replace H := Option.bind_eq_some_iff.mp H
        obtain ⟨t366, A140, H⟩ := H
        replace H : (if t366 = true then (if a1 < 0 then (pelicanlaw14_PlanFree.j0 k a1 a2 a3 true true l0_0 l0_1 a0_2 a0_3 a0_4) else (if a1 ≥ (l0_1.length : Int) then (pelicanlaw14_PlanFree.j0 k a1 a2 a3 true true l0_0 l0_1 a0_2 a0_3 a0_4) else (if a2 < 0 then (pelicanlaw14_PlanFree.j0 k a1 a2 a3 true true l0_0 l0_1 a0_2 a0_3 a0_4) else (if a2 ≥ (l0_0.length : Int) then (pelicanlaw14_PlanFree.j0 k a1 a2 a3 true true l0_0 l0_1 a0_2 a0_3 a0_4) else (if a3 < 0 then (pelicanlaw14_PlanFree.j0 k a1 a2 a3 true true l0_0 l0_1 a0_2 a0_3 a0_4) else (pelicanlaw14_PlanFree.j0 k a1 a2 a3 true (decide (a3 ≥ (l0_0.length : Int))) l0_0 l0_1 a0_2 a0_3 a0_4)))))) else (pelicanlaw14_PlanFree.j0 k a1 a2 a3 true true l0_0 l0_1 a0_2 a0_3 a0_4)) = some r := H
        have A14 := Aside0.mk A140
        clear A140
        by_cases c15 : t366 = true
        · subst c15
          have H1 : (if a1 < 0 then (pelicanlaw14_PlanFree.j0 k a1 a2 a3 true true l0_0 l0_1 a0_2 a0_3 a0_4) else (if a1 ≥ (l0_1.length : Int) then (pelicanlaw14_PlanFree.j0 k a1 a2 a3 true true l0_0 l0_1 a0_2 a0_3 a0_4) else (if a2 < 0 then (pelicanlaw14_PlanFree.j0 k a1 a2 a3 true true l0_0 l0_1 a0_2 a0_3 a0_4) else (if a2 ≥ (l0_0.length : Int) then (pelicanlaw14_PlanFree.j0 k a1 a2 a3 true true l0_0 l0_1 a0_2 a0_3 a0_4) else (if a3 < 0 then (pelicanlaw14_PlanFree.j0 k a1 a2 a3 true true l0_0 l0_1 a0_2 a0_3 a0_4) else (pelicanlaw14_PlanFree.j0 k a1 a2 a3 true (decide (a3 ≥ (l0_0.length : Int))) l0_0 l0_1 a0_2 a0_3 a0_4)))))) = some r := by rw [if_pos rfl] at H; exact H
          clear H
          have H := H1
          clear H1
          by_cases c16 : a1 < 0
          · rw [if_pos c16] at H
            have c16b0 : decide (a1 < 0) = true := decide_eq_true c16
            clear c16
            (first | rw [c16b0] | (simp only [i64_w, i32_w]; rw [c16b0]) | skip)
            have H' := Aside0.mk H
            clear H
            have hcz17_0 : w11.cell? ⟨gb363, 0, none⟩ = some (.slice A0_0 l0_0.length c0_0) := (blk_cell BK363.out 0).trans rfl
            have hcz17_1 : w11.cell? ⟨gb363, 1, none⟩ = some (.slice A0_1 l0_1.length c0_1) := (blk_cell BK363.out 1).trans rfl
            have hcz17_2 : w11.cell? ⟨gb363, 2, none⟩ = some (.int .i64 a0_2) := (blk_cell BK363.out 2).trans rfl
            have hcz17_3 : w11.cell? ⟨gb363, 3, none⟩ = some (.int .i64 a0_3) := (blk_cell BK363.out 3).trans rfl
            have hcz17_4 : w11.cell? ⟨gb363, 4, none⟩ = some (.int .i64 a0_4) := (blk_cell BK363.out 4).trans rfl
            have hfz17_0 := blk_frozen BK363.out 0
            have hfz17_1 := blk_frozen BK363.out 1
            have hfz17_2 := blk_frozen BK363.out 2
            have hfz17_3 := blk_frozen BK363.out 3
            have hfz17_4 := blk_frozen BK363.out 4
            go_wp2_with (first | (go_at_call 34; (with_reducible refine (plan_Fit.calls k _ _ l0_0 _ _ l0_1 a0_2 a0_3 a0_4 true _ ?side1 ?side2 ?side3 ?side4 ?side5 A14.out).mono ?_); (case side1 => repeat (first | exact (Kd.C_below HR0_0.out HB.out) | (with_reducible refine Kd.C_alloc ?_ _) | (with_reducible refine Kd.C_drewN ?_ _) | (with_reducible refine Kd.C_drew ?_))); (case side2 => exact HC0_0.out); (case side3 => repeat (first | exact (Kd.C_below HR0_1.out HB.out) | (with_reducible refine Kd.C_alloc ?_ _) | (with_reducible refine Kd.C_drewN ?_ _) | (with_reducible refine Kd.C_drew ?_))); (case side4 => exact HC0_1.out); (case side5 => first | (with_reducible exact HG.out) | (refine GlobOk.below HG.out ?_; repeat (first | (with_reducible first | exact HB.out | apply below_alloc | apply pw_below_drewN | apply below_drew1 | refine below_set ?_ GE363.out) | exact HB.out))); rintro e w18 ⟨rfl, hb⟩; have n0_ := Aside0.mk (blk_below (g := gb363) (o := .cells #[.slice A0_0 l0_0.length c0_0, .slice A0_1 l0_1.length c0_1, .int .i64 a0_2, .int .i64 a0_3, .int .i64 a0_4] 37 (0, 0)) (by (with_reducible repeat (first | refine blk_drewN ?_ _ | refine blk_drew ?_ | refine blk_alloc ?_ _)); exact BK363.out) hb); have n1_ := Aside0.mk (below_step (by repeat (first | (with_reducible first | exact HB.out | apply below_alloc | apply pw_below_drewN | apply below_drew1 | refine below_set ?_ GE363.out) | exact HB.out)) hb); clear BK363; clear HB; have BK363 := n0_; have HB := n1_; clear n0_ n1_; (try clear hb); (try clear hb2); (try clear hk); (try clear hi)))
            go_meet
            case rel => exact ⟨_, (true), (by first | rfl | (simp; done) | (simp [*]; done)), H', ⟨by first | omega | exact Nat.le_refl _⟩, ⟨by (with_reducible repeat (first | refine blk_drewN ?_ _ | refine blk_drew ?_ | refine blk_alloc ?_ _)); exact BK363.out⟩, ⟨by repeat (first | (with_reducible first | exact HB.out | apply below_alloc | apply pw_below_drewN | apply below_drew1 | refine below_set ?_ GE363.out) | exact HB.out)⟩⟩
          · rw [if_neg c16] at H
            have c16b0 : decide (a1 < 0) = false := decide_eq_false c16
            clear c16
            (first | rw [c16b0] | (simp only [i64_w, i32_w]; rw [c16b0]) | skip)
            by_cases c19 : a1 ≥ (l0_1.length : Int)
            · rw [if_pos c19] at H
              have c19b0 : decide ((l0_1.length : Int) ≤ a1) = true := decide_eq_true c19
              clear c19
              have H' := Aside0.mk H
              clear H
              have hcz20_0 : w11.cell? ⟨gb363, 0, none⟩ = some (.slice A0_0 l0_0.length c0_0) := (blk_cell BK363.out 0).trans rfl
              have hcz20_1 : w11.cell? ⟨gb363, 1, none⟩ = some (.slice A0_1 l0_1.length c0_1) := (blk_cell BK363.out 1).trans rfl
              have hcz20_2 : w11.cell? ⟨gb363, 2, none⟩ = some (.int .i64 a0_2) := (blk_cell BK363.out 2).trans rfl
              have hcz20_3 : w11.cell? ⟨gb363, 3, none⟩ = some (.int .i64 a0_3) := (blk_cell BK363.out 3).trans rfl
              have hcz20_4 : w11.cell? ⟨gb363, 4, none⟩ = some (.int .i64 a0_4) := (blk_cell BK363.out 4).trans rfl
              have hfz20_0 := blk_frozen BK363.out 0
              have hfz20_1 := blk_frozen BK363.out 1
              have hfz20_2 := blk_frozen BK363.out 2
              have hfz20_3 := blk_frozen BK363.out 3
              have hfz20_4 := blk_frozen BK363.out 4
              go_wp2_with (first | (go_at_call 34; (with_reducible refine (plan_Fit.calls k _ _ l0_0 _ _ l0_1 a0_2 a0_3 a0_4 true _ ?side1 ?side2 ?side3 ?side4 ?side5 A14.out).mono ?_); (case side1 => repeat (first | exact (Kd.C_below HR0_0.out HB.out) | (with_reducible refine Kd.C_alloc ?_ _) | (with_reducible refine Kd.C_drewN ?_ _) | (with_reducible refine Kd.C_drew ?_))); (case side2 => exact HC0_0.out); (case side3 => repeat (first | exact (Kd.C_below HR0_1.out HB.out) | (with_reducible refine Kd.C_alloc ?_ _) | (with_reducible refine Kd.C_drewN ?_ _) | (with_reducible refine Kd.C_drew ?_))); (case side4 => exact HC0_1.out); (case side5 => first | (with_reducible exact HG.out) | (refine GlobOk.below HG.out ?_; repeat (first | (with_reducible first | exact HB.out | apply below_alloc | apply pw_below_drewN | apply below_drew1 | refine below_set ?_ GE363.out) | exact HB.out))); rintro e w21 ⟨rfl, hb⟩; have n0_ := Aside0.mk (blk_below (g := gb363) (o := .cells #[.slice A0_0 l0_0.length c0_0, .slice A0_1 l0_1.length c0_1, .int .i64 a0_2, .int .i64 a0_3, .int .i64 a0_4] 37 (0, 0)) (by (with_reducible repeat (first | refine blk_drewN ?_ _ | refine blk_drew ?_ | refine blk_alloc ?_ _)); exact BK363.out) hb); have n1_ := Aside0.mk (below_step (by repeat (first | (with_reducible first | exact HB.out | apply below_alloc | apply pw_below_drewN | apply below_drew1 | refine below_set ?_ GE363.out) | exact HB.out)) hb); clear BK363; clear HB; have BK363 := n0_; have HB := n1_; clear n0_ n1_; (try clear hb); (try clear hb2); (try clear hk); (try clear hi); have hcz22_0 : w21.cell? ⟨gb363, 0, none⟩ = some (.slice A0_0 l0_0.length c0_0) := (blk_cell BK363.out 0).trans rfl; have hcz22_1 : w21.cell? ⟨gb363, 1, none⟩ = some (.slice A0_1 l0_1.length c0_1) := (blk_cell BK363.out 1).trans rfl; have hcz22_2 : w21.cell? ⟨gb363, 2, none⟩ = some (.int .i64 a0_2) := (blk_cell BK363.out 2).trans rfl; have hcz22_3 : w21.cell? ⟨gb363, 3, none⟩ = some (.int .i64 a0_3) := (blk_cell BK363.out 3).trans rfl; have hcz22_4 : w21.cell? ⟨gb363, 4, none⟩ = some (.int .i64 a0_4) := (blk_cell BK363.out 4).trans rfl; have hfz22_0 := blk_frozen BK363.out 0; have hfz22_1 := blk_frozen BK363.out 1; have hfz22_2 := blk_frozen BK363.out 2; have hfz22_3 := blk_frozen BK363.out 3; have hfz22_4 := blk_frozen BK363.out 4))
              go_meet
              case rel => exact ⟨_, (true), (by first | rfl | (simp; done) | (simp [*]; done)), H', ⟨by first | omega | exact Nat.le_refl _⟩, ⟨by (with_reducible repeat (first | refine blk_drewN ?_ _ | refine blk_drew ?_ | refine blk_alloc ?_ _)); exact BK363.out⟩, ⟨by repeat (first | (with_reducible first | exact HB.out | apply below_alloc | apply pw_below_drewN | apply below_drew1 | refine below_set ?_ GE363.out) | exact HB.out)⟩⟩
            · rw [if_neg c19] at H
              have c19b0 : decide ((l0_1.length : Int) ≤ a1) = false := decide_eq_false c19
              clear c19
              by_cases c23 : a2 < 0
              · rw [if_pos c23] at H
                have c23b0 : decide (a2 < 0) = true := decide_eq_true c23
                clear c23
                have H' := Aside0.mk H
                clear H
                have hcz24_0 : w11.cell? ⟨gb363, 0, none⟩ = some (.slice A0_0 l0_0.length c0_0) := (blk_cell BK363.out 0).trans rfl
                have hcz24_1 : w11.cell? ⟨gb363, 1, none⟩ = some (.slice A0_1 l0_1.length c0_1) := (blk_cell BK363.out 1).trans rfl
                have hcz24_2 : w11.cell? ⟨gb363, 2, none⟩ = some (.int .i64 a0_2) := (blk_cell BK363.out 2).trans rfl
                have hcz24_3 : w11.cell? ⟨gb363, 3, none⟩ = some (.int .i64 a0_3) := (blk_cell BK363.out 3).trans rfl
                have hcz24_4 : w11.cell? ⟨gb363, 4, none⟩ = some (.int .i64 a0_4) := (blk_cell BK363.out 4).trans rfl
                have hfz24_0 := blk_frozen BK363.out 0
                have hfz24_1 := blk_frozen BK363.out 1
                have hfz24_2 := blk_frozen BK363.out 2
                have hfz24_3 := blk_frozen BK363.out 3
                have hfz24_4 := blk_frozen BK363.out 4
                go_wp2_with (first | (go_at_call 34; (with_reducible refine (plan_Fit.calls k _ _ l0_0 _ _ l0_1 a0_2 a0_3 a0_4 true _ ?side1 ?side2 ?side3 ?side4 ?side5 A14.out).mono ?_); (case side1 => repeat (first | exact (Kd.C_below HR0_0.out HB.out) | (with_reducible refine Kd.C_alloc ?_ _) | (with_reducible refine Kd.C_drewN ?_ _) | (with_reducible refine Kd.C_drew ?_))); (case side2 => exact HC0_0.out); (case side3 => repeat (first | exact (Kd.C_below HR0_1.out HB.out) | (with_reducible refine Kd.C_alloc ?_ _) | (with_reducible refine Kd.C_drewN ?_ _) | (with_reducible refine Kd.C_drew ?_))); (case side4 => exact HC0_1.out); (case side5 => first | (with_reducible exact HG.out) | (refine GlobOk.below HG.out ?_; repeat (first | (with_reducible first | exact HB.out | apply below_alloc | apply pw_below_drewN | apply below_drew1 | refine below_set ?_ GE363.out) | exact HB.out))); rintro e w25 ⟨rfl, hb⟩; have n0_ := Aside0.mk (blk_below (g := gb363) (o := .cells #[.slice A0_0 l0_0.length c0_0, .slice A0_1 l0_1.length c0_1, .int .i64 a0_2, .int .i64 a0_3, .int .i64 a0_4] 37 (0, 0)) (by (with_reducible repeat (first | refine blk_drewN ?_ _ | refine blk_drew ?_ | refine blk_alloc ?_ _)); exact BK363.out) hb); have n1_ := Aside0.mk (below_step (by repeat (first | (with_reducible first | exact HB.out | apply below_alloc | apply pw_below_drewN | apply below_drew1 | refine below_set ?_ GE363.out) | exact HB.out)) hb); clear BK363; clear HB; have BK363 := n0_; have HB := n1_; clear n0_ n1_; (try clear hb); (try clear hb2); (try clear hk); (try clear hi); have hcz26_0 : w25.cell? ⟨gb363, 0, none⟩ = some (.slice A0_0 l0_0.length c0_0) := (blk_cell BK363.out 0).trans rfl; have hcz26_1 : w25.cell? ⟨gb363, 1, none⟩ = some (.slice A0_1 l0_1.length c0_1) := (blk_cell BK363.out 1).trans rfl; have hcz26_2 : w25.cell? ⟨gb363, 2, none⟩ = some (.int .i64 a0_2) := (blk_cell BK363.out 2).trans rfl; have hcz26_3 : w25.cell? ⟨gb363, 3, none⟩ = some (.int .i64 a0_3) := (blk_cell BK363.out 3).trans rfl; have hcz26_4 : w25.cell? ⟨gb363, 4, none⟩ = some (.int .i64 a0_4) := (blk_cell BK363.out 4).trans rfl; have hfz26_0 := blk_frozen BK363.out 0; have hfz26_1 := blk_frozen BK363.out 1; have hfz26_2 := blk_frozen BK363.out 2; have hfz26_3 := blk_frozen BK363.out 3; have hfz26_4 := blk_frozen BK363.out 4))
                go_meet
                case rel => exact ⟨_, (true), (by first | rfl | (simp; done) | (simp [*]; done)), H', ⟨by first | omega | exact Nat.le_refl _⟩, ⟨by (with_reducible repeat (first | refine blk_drewN ?_ _ | refine blk_drew ?_ | refine blk_alloc ?_ _)); exact BK363.out⟩, ⟨by repeat (first | (with_reducible first | exact HB.out | apply below_alloc | apply pw_below_drewN | apply below_drew1 | refine below_set ?_ GE363.out) | exact HB.out)⟩⟩
              · rw [if_neg c23] at H
                have c23b0 : decide (a2 < 0) = false := decide_eq_false c23
                clear c23
                by_cases c27 : a2 ≥ (l0_0.length : Int)
                · rw [if_pos c27] at H
                  have c27b0 : decide ((l0_0.length : Int) ≤ a2) = true := decide_eq_true c27
                  clear c27
                  have H' := Aside0.mk H
                  clear H
                  have hcz28_0 : w11.cell? ⟨gb363, 0, none⟩ = some (.slice A0_0 l0_0.length c0_0) := (blk_cell BK363.out 0).trans rfl
                  have hcz28_1 : w11.cell? ⟨gb363, 1, none⟩ = some (.slice A0_1 l0_1.length c0_1) := (blk_cell BK363.out 1).trans rfl
                  have hcz28_2 : w11.cell? ⟨gb363, 2, none⟩ = some (.int .i64 a0_2) := (blk_cell BK363.out 2).trans rfl
                  have hcz28_3 : w11.cell? ⟨gb363, 3, none⟩ = some (.int .i64 a0_3) := (blk_cell BK363.out 3).trans rfl
                  have hcz28_4 : w11.cell? ⟨gb363, 4, none⟩ = some (.int .i64 a0_4) := (blk_cell BK363.out 4).trans rfl
                  have hfz28_0 := blk_frozen BK363.out 0
                  have hfz28_1 := blk_frozen BK363.out 1
                  have hfz28_2 := blk_frozen BK363.out 2
                  have hfz28_3 := blk_frozen BK363.out 3
                  have hfz28_4 := blk_frozen BK363.out 4
                  go_wp2_with (first | (go_at_call 34; (with_reducible refine (plan_Fit.calls k _ _ l0_0 _ _ l0_1 a0_2 a0_3 a0_4 true _ ?side1 ?side2 ?side3 ?side4 ?side5 A14.out).mono ?_); (case side1 => repeat (first | exact (Kd.C_below HR0_0.out HB.out) | (with_reducible refine Kd.C_alloc ?_ _) | (with_reducible refine Kd.C_drewN ?_ _) | (with_reducible refine Kd.C_drew ?_))); (case side2 => exact HC0_0.out); (case side3 => repeat (first | exact (Kd.C_below HR0_1.out HB.out) | (with_reducible refine Kd.C_alloc ?_ _) | (with_reducible refine Kd.C_drewN ?_ _) | (with_reducible refine Kd.C_drew ?_))); (case side4 => exact HC0_1.out); (case side5 => first | (with_reducible exact HG.out) | (refine GlobOk.below HG.out ?_; repeat (first | (with_reducible first | exact HB.out | apply below_alloc | apply pw_below_drewN | apply below_drew1 | refine below_set ?_ GE363.out) | exact HB.out))); rintro e w29 ⟨rfl, hb⟩; have n0_ := Aside0.mk (blk_below (g := gb363) (o := .cells #[.slice A0_0 l0_0.length c0_0, .slice A0_1 l0_1.length c0_1, .int .i64 a0_2, .int .i64 a0_3, .int .i64 a0_4] 37 (0, 0)) (by (with_reducible repeat (first | refine blk_drewN ?_ _ | refine blk_drew ?_ | refine blk_alloc ?_ _)); exact BK363.out) hb); have n1_ := Aside0.mk (below_step (by repeat (first | (with_reducible first | exact HB.out | apply below_alloc | apply pw_below_drewN | apply below_drew1 | refine below_set ?_ GE363.out) | exact HB.out)) hb); clear BK363; clear HB; have BK363 := n0_; have HB := n1_; clear n0_ n1_; (try clear hb); (try clear hb2); (try clear hk); (try clear hi); have hcz30_0 : w29.cell? ⟨gb363, 0, none⟩ = some (.slice A0_0 l0_0.length c0_0) := (blk_cell BK363.out 0).trans rfl; have hcz30_1 : w29.cell? ⟨gb363, 1, none⟩ = some (.slice A0_1 l0_1.length c0_1) := (blk_cell BK363.out 1).trans rfl; have hcz30_2 : w29.cell? ⟨gb363, 2, none⟩ = some (.int .i64 a0_2) := (blk_cell BK363.out 2).trans rfl; have hcz30_3 : w29.cell? ⟨gb363, 3, none⟩ = some (.int .i64 a0_3) := (blk_cell BK363.out 3).trans rfl; have hcz30_4 : w29.cell? ⟨gb363, 4, none⟩ = some (.int .i64 a0_4) := (blk_cell BK363.out 4).trans rfl; have hfz30_0 := blk_frozen BK363.out 0; have hfz30_1 := blk_frozen BK363.out 1; have hfz30_2 := blk_frozen BK363.out 2; have hfz30_3 := blk_frozen BK363.out 3; have hfz30_4 := blk_frozen BK363.out 4))
                  go_meet
                  case rel => exact ⟨_, (true), (by first | rfl | (simp; done) | (simp [*]; done)), H', ⟨by first | omega | exact Nat.le_refl _⟩, ⟨by (with_reducible repeat (first | refine blk_drewN ?_ _ | refine blk_drew ?_ | refine blk_alloc ?_ _)); exact BK363.out⟩, ⟨by repeat (first | (with_reducible first | exact HB.out | apply below_alloc | apply pw_below_drewN | apply below_drew1 | refine below_set ?_ GE363.out) | exact HB.out)⟩⟩
                · rw [if_neg c27] at H
                  have c27b0 : decide ((l0_0.length : Int) ≤ a2) = false := decide_eq_false c27
                  clear c27
                  by_cases c31 : a3 < 0
                  · rw [if_pos c31] at H
                    have c31b0 : decide (a3 < 0) = true := decide_eq_true c31
                    clear c31
                    have H' := Aside0.mk H
                    clear H
                    have hcz32_0 : w11.cell? ⟨gb363, 0, none⟩ = some (.slice A0_0 l0_0.length c0_0) := (blk_cell BK363.out 0).trans rfl
                    have hcz32_1 : w11.cell? ⟨gb363, 1, none⟩ = some (.slice A0_1 l0_1.length c0_1) := (blk_cell BK363.out 1).trans rfl
                    have hcz32_2 : w11.cell? ⟨gb363, 2, none⟩ = some (.int .i64 a0_2) := (blk_cell BK363.out 2).trans rfl
                    have hcz32_3 : w11.cell? ⟨gb363, 3, none⟩ = some (.int .i64 a0_3) := (blk_cell BK363.out 3).trans rfl
                    have hcz32_4 : w11.cell? ⟨gb363, 4, none⟩ = some (.int .i64 a0_4) := (blk_cell BK363.out 4).trans rfl
                    have hfz32_0 := blk_frozen BK363.out 0
                    have hfz32_1 := blk_frozen BK363.out 1
                    have hfz32_2 := blk_frozen BK363.out 2
                    have hfz32_3 := blk_frozen BK363.out 3
                    have hfz32_4 := blk_frozen BK363.out 4
                    go_wp2_with (first | (go_at_call 34; (with_reducible refine (plan_Fit.calls k _ _ l0_0 _ _ l0_1 a0_2 a0_3 a0_4 true _ ?side1 ?side2 ?side3 ?side4 ?side5 A14.out).mono ?_); (case side1 => repeat (first | exact (Kd.C_below HR0_0.out HB.out) | (with_reducible refine Kd.C_alloc ?_ _) | (with_reducible refine Kd.C_drewN ?_ _) | (with_reducible refine Kd.C_drew ?_))); (case side2 => exact HC0_0.out); (case side3 => repeat (first | exact (Kd.C_below HR0_1.out HB.out) | (with_reducible refine Kd.C_alloc ?_ _) | (with_reducible refine Kd.C_drewN ?_ _) | (with_reducible refine Kd.C_drew ?_))); (case side4 => exact HC0_1.out); (case side5 => first | (with_reducible exact HG.out) | (refine GlobOk.below HG.out ?_; repeat (first | (with_reducible first | exact HB.out | apply below_alloc | apply pw_below_drewN | apply below_drew1 | refine below_set ?_ GE363.out) | exact HB.out))); rintro e w33 ⟨rfl, hb⟩; have n0_ := Aside0.mk (blk_below (g := gb363) (o := .cells #[.slice A0_0 l0_0.length c0_0, .slice A0_1 l0_1.length c0_1, .int .i64 a0_2, .int .i64 a0_3, .int .i64 a0_4] 37 (0, 0)) (by (with_reducible repeat (first | refine blk_drewN ?_ _ | refine blk_drew ?_ | refine blk_alloc ?_ _)); exact BK363.out) hb); have n1_ := Aside0.mk (below_step (by repeat (first | (with_reducible first | exact HB.out | apply below_alloc | apply pw_below_drewN | apply below_drew1 | refine below_set ?_ GE363.out) | exact HB.out)) hb); clear BK363; clear HB; have BK363 := n0_; have HB := n1_; clear n0_ n1_; (try clear hb); (try clear hb2); (try clear hk); (try clear hi); have hcz34_0 : w33.cell? ⟨gb363, 0, none⟩ = some (.slice A0_0 l0_0.length c0_0) := (blk_cell BK363.out 0).trans rfl; have hcz34_1 : w33.cell? ⟨gb363, 1, none⟩ = some (.slice A0_1 l0_1.length c0_1) := (blk_cell BK363.out 1).trans rfl; have hcz34_2 : w33.cell? ⟨gb363, 2, none⟩ = some (.int .i64 a0_2) := (blk_cell BK363.out 2).trans rfl; have hcz34_3 : w33.cell? ⟨gb363, 3, none⟩ = some (.int .i64 a0_3) := (blk_cell BK363.out 3).trans rfl; have hcz34_4 : w33.cell? ⟨gb363, 4, none⟩ = some (.int .i64 a0_4) := (blk_cell BK363.out 4).trans rfl; have hfz34_0 := blk_frozen BK363.out 0; have hfz34_1 := blk_frozen BK363.out 1; have hfz34_2 := blk_frozen BK363.out 2; have hfz34_3 := blk_frozen BK363.out 3; have hfz34_4 := blk_frozen BK363.out 4))
                    go_meet
                    case rel => exact ⟨_, (true), (by first | rfl | (simp; done) | (simp [*]; done)), H', ⟨by first | omega | exact Nat.le_refl _⟩, ⟨by (with_reducible repeat (first | refine blk_drewN ?_ _ | refine blk_drew ?_ | refine blk_alloc ?_ _)); exact BK363.out⟩, ⟨by repeat (first | (with_reducible first | exact HB.out | apply below_alloc | apply pw_below_drewN | apply below_drew1 | refine below_set ?_ GE363.out) | exact HB.out)⟩⟩
                  · rw [if_neg c31] at H
                    have c31b0 : decide (a3 < 0) = false := decide_eq_false c31
                    clear c31
                    have H' := Aside0.mk H
                    clear H
                    have hcz35_0 : w11.cell? ⟨gb363, 0, none⟩ = some (.slice A0_0 l0_0.length c0_0) := (blk_cell BK363.out 0).trans rfl
                    have hcz35_1 : w11.cell? ⟨gb363, 1, none⟩ = some (.slice A0_1 l0_1.length c0_1) := (blk_cell BK363.out 1).trans rfl
                    have hcz35_2 : w11.cell? ⟨gb363, 2, none⟩ = some (.int .i64 a0_2) := (blk_cell BK363.out 2).trans rfl
                    have hcz35_3 : w11.cell? ⟨gb363, 3, none⟩ = some (.int .i64 a0_3) := (blk_cell BK363.out 3).trans rfl
                    have hcz35_4 : w11.cell? ⟨gb363, 4, none⟩ = some (.int .i64 a0_4) := (blk_cell BK363.out 4).trans rfl
                    have hfz35_0 := blk_frozen BK363.out 0
                    have hfz35_1 := blk_frozen BK363.out 1
                    have hfz35_2 := blk_frozen BK363.out 2
                    have hfz35_3 := blk_frozen BK363.out 3
                    have hfz35_4 := blk_frozen BK363.out 4
                    go_wp2_with (first | (go_at_call 34; (with_reducible refine (plan_Fit.calls k _ _ l0_0 _ _ l0_1 a0_2 a0_3 a0_4 true _ ?side1 ?side2 ?side3 ?side4 ?side5 A14.out).mono ?_); (case side1 => repeat (first | exact (Kd.C_below HR0_0.out HB.out) | (with_reducible refine Kd.C_alloc ?_ _) | (with_reducible refine Kd.C_drewN ?_ _) | (with_reducible refine Kd.C_drew ?_))); (case side2 => exact HC0_0.out); (case side3 => repeat (first | exact (Kd.C_below HR0_1.out HB.out) | (with_reducible refine Kd.C_alloc ?_ _) | (with_reducible refine Kd.C_drewN ?_ _) | (with_reducible refine Kd.C_drew ?_))); (case side4 => exact HC0_1.out); (case side5 => first | (with_reducible exact HG.out) | (refine GlobOk.below HG.out ?_; repeat (first | (with_reducible first | exact HB.out | apply below_alloc | apply pw_below_drewN | apply below_drew1 | refine below_set ?_ GE363.out) | exact HB.out))); rintro e w36 ⟨rfl, hb⟩; have n0_ := Aside0.mk (blk_below (g := gb363) (o := .cells #[.slice A0_0 l0_0.length c0_0, .slice A0_1 l0_1.length c0_1, .int .i64 a0_2, .int .i64 a0_3, .int .i64 a0_4] 37 (0, 0)) (by (with_reducible repeat (first | refine blk_drewN ?_ _ | refine blk_drew ?_ | refine blk_alloc ?_ _)); exact BK363.out) hb); have n1_ := Aside0.mk (below_step (by repeat (first | (with_reducible first | exact HB.out | apply below_alloc | apply pw_below_drewN | apply below_drew1 | refine below_set ?_ GE363.out) | exact HB.out)) hb); clear BK363; clear HB; have BK363 := n0_; have HB := n1_; clear n0_ n1_; (try clear hb); (try clear hb2); (try clear hk); (try clear hi); have hcz37_0 : w36.cell? ⟨gb363, 0, none⟩ = some (.slice A0_0 l0_0.length c0_0) := (blk_cell BK363.out 0).trans rfl; have hcz37_1 : w36.cell? ⟨gb363, 1, none⟩ = some (.slice A0_1 l0_1.length c0_1) := (blk_cell BK363.out 1).trans rfl; have hcz37_2 : w36.cell? ⟨gb363, 2, none⟩ = some (.int .i64 a0_2) := (blk_cell BK363.out 2).trans rfl; have hcz37_3 : w36.cell? ⟨gb363, 3, none⟩ = some (.int .i64 a0_3) := (blk_cell BK363.out 3).trans rfl; have hcz37_4 : w36.cell? ⟨gb363, 4, none⟩ = some (.int .i64 a0_4) := (blk_cell BK363.out 4).trans rfl; have hfz37_0 := blk_frozen BK363.out 0; have hfz37_1 := blk_frozen BK363.out 1; have hfz37_2 := blk_frozen BK363.out 2; have hfz37_3 := blk_frozen BK363.out 3; have hfz37_4 := blk_frozen BK363.out 4))
                    go_meet
                    case rel => exact ⟨_, (decide (a3 ≥ (l0_0.length : Int))), (by first | rfl | (simp; done) | (simp [*]; done)), H', ⟨by first | omega | exact Nat.le_refl _⟩, ⟨by (with_reducible repeat (first | refine blk_drewN ?_ _ | refine blk_drew ?_ | refine blk_alloc ?_ _)); exact BK363.out⟩, ⟨by repeat (first | (with_reducible first | exact HB.out | apply below_alloc | apply pw_below_drewN | apply below_drew1 | refine below_set ?_ GE363.out) | exact HB.out)⟩⟩
        · replace c15 := Bool.eq_false_iff.mpr c15
          subst c15
          have H1 : (pelicanlaw14_PlanFree.j0 k a1 a2 a3 true true l0_0 l0_1 a0_2 a0_3 a0_4) = some r := by rw [if_neg (show ¬ (false = true) by decide)] at H; exact H
          clear H
          have H := H1
          clear H1
          have H' := Aside0.mk H
          clear H
          have hcz38_0 : w11.cell? ⟨gb363, 0, none⟩ = some (.slice A0_0 l0_0.length c0_0) := (blk_cell BK363.out 0).trans rfl
          have hcz38_1 : w11.cell? ⟨gb363, 1, none⟩ = some (.slice A0_1 l0_1.length c0_1) := (blk_cell BK363.out 1).trans rfl
          have hcz38_2 : w11.cell? ⟨gb363, 2, none⟩ = some (.int .i64 a0_2) := (blk_cell BK363.out 2).trans rfl
          have hcz38_3 : w11.cell? ⟨gb363, 3, none⟩ = some (.int .i64 a0_3) := (blk_cell BK363.out 3).trans rfl
          have hcz38_4 : w11.cell? ⟨gb363, 4, none⟩ = some (.int .i64 a0_4) := (blk_cell BK363.out 4).trans rfl
          have hfz38_0 := blk_frozen BK363.out 0
          have hfz38_1 := blk_frozen BK363.out 1
          have hfz38_2 := blk_frozen BK363.out 2
          have hfz38_3 := blk_frozen BK363.out 3
          have hfz38_4 := blk_frozen BK363.out 4
          go_wp2_with (first | (go_at_call 34; (with_reducible refine (plan_Fit.calls k _ _ l0_0 _ _ l0_1 a0_2 a0_3 a0_4 false _ ?side1 ?side2 ?side3 ?side4 ?side5 A14.out).mono ?_); (case side1 => repeat (first | exact (Kd.C_below HR0_0.out HB.out) | (with_reducible refine Kd.C_alloc ?_ _) | (with_reducible refine Kd.C_drewN ?_ _) | (with_reducible refine Kd.C_drew ?_))); (case side2 => exact HC0_0.out); (case side3 => repeat (first | exact (Kd.C_below HR0_1.out HB.out) | (with_reducible refine Kd.C_alloc ?_ _) | (with_reducible refine Kd.C_drewN ?_ _) | (with_reducible refine Kd.C_drew ?_))); (case side4 => exact HC0_1.out); (case side5 => first | (with_reducible exact HG.out) | (refine GlobOk.below HG.out ?_; repeat (first | (with_reducible first | exact HB.out | apply below_alloc | apply pw_below_drewN | apply below_drew1 | refine below_set ?_ GE363.out) | exact HB.out))); rintro e w39 ⟨rfl, hb⟩; have n0_ := Aside0.mk (blk_below (g := gb363) (o := .cells #[.slice A0_0 l0_0.length c0_0, .slice A0_1 l0_1.length c0_1, .int .i64 a0_2, .int .i64 a0_3, .int .i64 a0_4] 37 (0, 0)) (by (with_reducible repeat (first | refine blk_drewN ?_ _ | refine blk_drew ?_ | refine blk_alloc ?_ _)); exact BK363.out) hb); have n1_ := Aside0.mk (below_step (by repeat (first | (with_reducible first | exact HB.out | apply below_alloc | apply pw_below_drewN | apply below_drew1 | refine below_set ?_ GE363.out) | exact HB.out)) hb); clear BK363; clear HB; have BK363 := n0_; have HB := n1_; clear n0_ n1_; (try clear hb); (try clear hb2); (try clear hk); (try clear hi)))
          go_meet
          case rel => exact ⟨_, (true), (by first | rfl | (simp; done) | (simp [*]; done)), H', ⟨by first | omega | exact Nat.le_refl _⟩, ⟨by (with_reducible repeat (first | refine blk_drewN ?_ _ | refine blk_drew ?_ | refine blk_alloc ?_ _)); exact BK363.out⟩, ⟨by repeat (first | (with_reducible first | exact HB.out | apply below_alloc | apply pw_below_drewN | apply below_drew1 | refine below_set ?_ GE363.out) | exact HB.out)⟩⟩
      · replace c13 := Bool.eq_false_iff.mpr c13
        subst c13
        have H1 : (pelicanlaw14_PlanFree.j0 k a1 a2 a3 true true l0_0 l0_1 a0_2 a0_3 a0_4) = some r := by rw [if_neg (show ¬ (false = true) by decide)] at H; exact H
        clear H
        have H := H1
        clear H1
        have H' := Aside0.mk H
        clear H
        go_wp2
        go_meet
        case rel => exact ⟨_, (true), (by first | rfl | (simp; done) | (simp [*]; done)), H', ⟨by first | omega | exact Nat.le_refl _⟩, ⟨by (with_reducible repeat (first | refine blk_drewN ?_ _ | refine blk_drew ?_ | refine blk_alloc ?_ _)); exact BK363.out⟩, ⟨by repeat (first | (with_reducible first | exact HB.out | apply below_alloc | apply pw_below_drewN | apply below_drew1 | refine below_set ?_ GE363.out) | exact HB.out)⟩⟩
    · replace c12 := Bool.eq_false_iff.mpr c12
      subst c12
      have H1 : (pelicanlaw14_PlanFree.j0 k a1 a2 a3 false true l0_0 l0_1 a0_2 a0_3 a0_4) = some r := by rw [if_neg (show ¬ (false = true) by decide)] at H; exact H
      clear H
      have H := H1
      clear H1
      have H' := Aside0.mk H
      clear H
      go_wp2
      go_meet
      case rel => exact ⟨_, (true), (by first | rfl | (simp; done) | (simp [*]; done)), H', ⟨by first | omega | exact Nat.le_refl _⟩, ⟨by (with_reducible repeat (first | refine blk_drewN ?_ _ | refine blk_drew ?_ | refine blk_alloc ?_ _)); exact BK363.out⟩, ⟨by repeat (first | (with_reducible first | exact HB.out | apply below_alloc | apply pw_below_drewN | apply below_drew1 | refine below_set ?_ GE363.out) | exact HB.out)⟩⟩
  case rest =>
    clear HC7
    try clear c1
    try clear c2
    try clear p2
    try clear c3
    try clear c11
    try clear c12
    try clear c13
    try clear c15
    try clear c16
    try clear c16b0
    try clear c19
    try clear c19b0
    try clear c23
    try clear c23b0
    try clear c27
    try clear c27b0
    try clear c28
    try clear c29
    try clear c31
    try clear c31b0
    try clear hcz10_0
    try clear hcz10_1
    try clear hcz10_2
    try clear hcz10_3
    try clear hcz10_4
    try clear hcz17_0
    try clear hcz17_1
    try clear hcz17_2
    try clear hcz17_3
    try clear hcz17_4
    try clear hcz20_0
    try clear hcz20_1
    try clear hcz20_2
    try clear hcz20_3
    try clear hcz20_4
    try clear hcz22_0
    try clear hcz22_1
    try clear hcz22_2
    try clear hcz22_3
    try clear hcz22_4
    try clear hcz24_0
    try clear hcz24_1
    try clear hcz24_2
    try clear hcz24_3
    try clear hcz24_4
    try clear hcz26_0
    try clear hcz26_1
    try clear hcz26_2
    try clear hcz26_3
    try clear hcz26_4
    try clear hcz28_0
    try clear hcz28_1
    try clear hcz28_2
    try clear hcz28_3
    try clear hcz28_4
    try clear hcz30_0
    try clear hcz30_1
    try clear hcz30_2
    try clear hcz30_3
    try clear hcz30_4
    try clear hcz32_0
    try clear hcz32_1
    try clear hcz32_2
    try clear hcz32_3
    try clear hcz32_4
    try clear hcz34_0
    try clear hcz34_1
    try clear hcz34_2
    try clear hcz34_3
    try clear hcz34_4
    try clear hcz35_0
    try clear hcz35_1
    try clear hcz35_2
    try clear hcz35_3
    try clear hcz35_4
    try clear hcz37_0
    try clear hcz37_1
    try clear hcz37_2
    try clear hcz37_3
    try clear hcz37_4
    try clear hcz38_0
    try clear hcz38_1
    try clear hcz38_2
    try clear hcz38_3
    try clear hcz38_4
    try clear hfz10_0
    try clear hfz10_1
    try clear hfz10_2
    try clear hfz10_3
    try clear hfz10_4
    try clear hfz17_0
    try clear hfz17_1
    try clear hfz17_2
    try clear hfz17_3
    try clear hfz17_4
    try clear hfz20_0
    try clear hfz20_1
    try clear hfz20_2
    try clear hfz20_3
    try clear hfz20_4
    try clear hfz22_0
    try clear hfz22_1
    try clear hfz22_2
    try clear hfz22_3
    try clear hfz22_4
    try clear hfz24_0
    try clear hfz24_1
    try clear hfz24_2
    try clear hfz24_3
    try clear hfz24_4
    try clear hfz26_0
    try clear hfz26_1
    try clear hfz26_2
    try clear hfz26_3
    try clear hfz26_4
    try clear hfz28_0
    try clear hfz28_1
    try clear hfz28_2
    try clear hfz28_3
    try clear hfz28_4
    try clear hfz30_0
    try clear hfz30_1
    try clear hfz30_2
    try clear hfz30_3
    try clear hfz30_4
    try clear hfz32_0
    try clear hfz32_1
    try clear hfz32_2
    try clear hfz32_3
    try clear hfz32_4
    try clear hfz34_0
    try clear hfz34_1
    try clear hfz34_2
    try clear hfz34_3
    try clear hfz34_4
    try clear hfz35_0
    try clear hfz35_1
    try clear hfz35_2
    try clear hfz35_3
    try clear hfz35_4
    try clear hfz37_0
    try clear hfz37_1
    try clear hfz37_2
    try clear hfz37_3
    try clear hfz37_4
    try clear hfz38_0
    try clear hfz38_1
    try clear hfz38_2
    try clear hfz38_3
    try clear hfz38_4
    obtain ⟨kq, x62_6, rfl, HA, HJ6, BK363, HB⟩ := hcut
    cases kq with
    | zero => exact absurd HA.out (by simp [pelicanlaw14_PlanFree.j0])
    | succ kj6 =>
      have H := HA.out
      clear HA
      simp only [pelicanlaw14_PlanFree.j0] at H
      by_cases c40 : x62_6 = true
      · subst c40
        have H1 : (some t364) = some r := by rw [if_pos rfl] at H; exact H
        clear H
        have H := H1
        clear H1
        obtain rfl := Option.some.inj H
        go_wp2
        go_ret
        exact ⟨by first | rfl | (simp [errW_none, errW_some] <;> rfl) | (simp [*, errW_none, errW_some] <;> rfl), by repeat (first | (with_reducible first | exact HB.out | apply below_alloc | apply pw_below_drewN | apply below_drew1 | refine below_set ?_ GE363.out) | exact HB.out)⟩
      · replace c40 := Bool.eq_false_iff.mpr c40
        subst c40
        have H1 : (if 0 ≤ a1 then (if a1 < (l0_1.length : Int) then (if 0 ≤ a2 then (if a2 < (l0_0.length : Int) then (if 0 ≤ a3 then ((group_Against.f l0_0 (shl .i64 1 a2)).bind fun t369 => (if ((rd_T47 l0_1 a1).f0) > 0 then ((group_Free.f l0_0 ((rd_T47 l0_1 a1).f0)).bind fun t370 => (if t370 = true then (if (Go.bits .and .i64 (shr .i64 (rd l0_0 a2) a3) 1) = 1 then (if (Go.bits .and .i64 (shr .i64 ((rd_T47 l0_1 a1).f0) a2) 1) = 1 then (if ((Go.bits .and .i64 (shr .i64 ((rd_T47 l0_1 a1).f0) a3) 1) = 1) then (some false) else (if (t369 = (wrap64 ((wrap64 ((shl .i64 1 (l0_0.length : Int)) - 1)) - (shl .i64 1 a2)))) then (if ((Go.bits .and .i64 (shr .i64 ((rd_T47 l0_1 a1).f0) a2) 1) = 1) then (some (((rd_T47 l0_1 a1).f0) == (shl .i64 1 a2))) else (some true)) else (some true))) else (if (t369 = (wrap64 ((wrap64 ((shl .i64 1 (l0_0.length : Int)) - 1)) - (shl .i64 1 a2)))) then (if ((Go.bits .and .i64 (shr .i64 ((rd_T47 l0_1 a1).f0) a2) 1) = 1) then (some (((rd_T47 l0_1 a1).f0) == (shl .i64 1 a2))) else (some true)) else (some true))) else (if (t369 = (wrap64 ((wrap64 ((shl .i64 1 (l0_0.length : Int)) - 1)) - (shl .i64 1 a2)))) then (if ((Go.bits .and .i64 (shr .i64 ((rd_T47 l0_1 a1).f0) a2) 1) = 1) then (some (((rd_T47 l0_1 a1).f0) == (shl .i64 1 a2))) else (some true)) else (some true))) else (some false))) else (some false))) else (none)) else (none)) else (none)) else (none)) else (none)) = some r := by rw [if_neg (show ¬ (false = true) by decide)] at H; exact H
        clear H
        have H := H1
        clear H1
        by_cases c41 : 0 ≤ a1
        · rw [if_pos c41] at H
          have c41b0 : decide (0 ≤ a1) = true := decide_eq_true c41
          clear c41
          by_cases c42 : a1 < (l0_1.length : Int)
          · rw [if_pos c42] at H
            have c42b0 : decide (a1 < (l0_1.length : Int)) = true := decide_eq_true c42
            clear c42
            by_cases c43 : 0 ≤ a2
            · rw [if_pos c43] at H
              have c43b0 : decide (0 ≤ a2) = true := decide_eq_true c43
              clear c43
              by_cases c44 : a2 < (l0_0.length : Int)
              · rw [if_pos c44] at H
                have c44b0 : decide (a2 < (l0_0.length : Int)) = true := decide_eq_true c44
                clear c44
                by_cases c45 : 0 ≤ a3
                · rw [if_pos c45] at H
                  have c45b0 := eq_true c45
                  have c45b1 : decide (0 ≤ a3) = true := decide_eq_true c45
                  clear c45
                  obtain ⟨ji46, hji46⟩ : ∃ j_ : Int, (shr .i64 (rd l0_0 a2) a3) = j_ := ⟨_, rfl⟩
                  replace H : ((group_Against.f l0_0 (shl .i64 1 a2)).bind fun t369 => (if ((rd_T47 l0_1 a1).f0) > 0 then ((group_Free.f l0_0 ((rd_T47 l0_1 a1).f0)).bind fun t370 => (if t370 = true then (if (Go.bits .and .i64 (ji46) 1) = 1 then (if (Go.bits .and .i64 (shr .i64 ((rd_T47 l0_1 a1).f0) a2) 1) = 1 then (if ((Go.bits .and .i64 (shr .i64 ((rd_T47 l0_1 a1).f0) a3) 1) = 1) then (some false) else (if (t369 = (wrap64 ((wrap64 ((shl .i64 1 (l0_0.length : Int)) - 1)) - (shl .i64 1 a2)))) then (if ((Go.bits .and .i64 (shr .i64 ((rd_T47 l0_1 a1).f0) a2) 1) = 1) then (some (((rd_T47 l0_1 a1).f0) == (shl .i64 1 a2))) else (some true)) else (some true))) else (if (t369 = (wrap64 ((wrap64 ((shl .i64 1 (l0_0.length : Int)) - 1)) - (shl .i64 1 a2)))) then (if ((Go.bits .and .i64 (shr .i64 ((rd_T47 l0_1 a1).f0) a2) 1) = 1) then (some (((rd_T47 l0_1 a1).f0) == (shl .i64 1 a2))) else (some true)) else (some true))) else (if (t369 = (wrap64 ((wrap64 ((shl .i64 1 (l0_0.length : Int)) - 1)) - (shl .i64 1 a2)))) then (if ((Go.bits .and .i64 (shr .i64 ((rd_T47 l0_1 a1).f0) a2) 1) = 1) then (some (((rd_T47 l0_1 a1).f0) == (shl .i64 1 a2))) else (some true)) else (some true))) else (some false))) else (some false))) = some r := by first | (rw [hji46] at H; exact H) | (simp only [hji46] at H ⊢; exact H)
                  have hji46_ : ((rd l0_0 a2) / 2 ^ min a3.toNat 64) = ji46 := hji46
                  have hji46z : a3 ≤ 64 → ((rd l0_0 a2) / 2 ^ a3.toNat) = ji46 := shr_small hji46
                  have c47b0 := eq_true (of_decide_eq_true (by first | (with_reducible assumption) | assumption) : 0 ≤ a2)
                  obtain ⟨ji48, hji48⟩ : ∃ j_ : Int, (shr .i64 ((rd_T47 l0_1 a1).f0) a2) = j_ := ⟨_, rfl⟩
                  replace H : ((group_Against.f l0_0 (shl .i64 1 a2)).bind fun t369 => (if ((rd_T47 l0_1 a1).f0) > 0 then ((group_Free.f l0_0 ((rd_T47 l0_1 a1).f0)).bind fun t370 => (if t370 = true then (if (Go.bits .and .i64 (ji46) 1) = 1 then (if (Go.bits .and .i64 (ji48) 1) = 1 then (if ((Go.bits .and .i64 (shr .i64 ((rd_T47 l0_1 a1).f0) a3) 1) = 1) then (some false) else (if (t369 = (wrap64 ((wrap64 ((shl .i64 1 (l0_0.length : Int)) - 1)) - (shl .i64 1 a2)))) then (if ((Go.bits .and .i64 (ji48) 1) = 1) then (some (((rd_T47 l0_1 a1).f0) == (shl .i64 1 a2))) else (some true)) else (some true))) else (if (t369 = (wrap64 ((wrap64 ((shl .i64 1 (l0_0.length : Int)) - 1)) - (shl .i64 1 a2)))) then (if ((Go.bits .and .i64 (ji48) 1) = 1) then (some (((rd_T47 l0_1 a1).f0) == (shl .i64 1 a2))) else (some true)) else (some true))) else (if (t369 = (wrap64 ((wrap64 ((shl .i64 1 (l0_0.length : Int)) - 1)) - (shl .i64 1 a2)))) then (if ((Go.bits .and .i64 (ji48) 1) = 1) then (some (((rd_T47 l0_1 a1).f0) == (shl .i64 1 a2))) else (some true)) else (some true))) else (some false))) else (some false))) = some r := by first | (rw [hji48] at H; exact H) | (simp only [hji48] at H ⊢; exact H)
                  have hji48_ : (((rd_T47 l0_1 a1).f0) / 2 ^ min a2.toNat 64) = ji48 := hji48
                  have hji48z : a2 ≤ 64 → (((rd_T47 l0_1 a1).f0) / 2 ^ a2.toNat) = ji48 := shr_small hji48
                  have c49b0 := eq_true (of_decide_eq_true (by first | (with_reducible assumption) | assumption) : 0 ≤ a3)
                  obtain ⟨ji50, hji50⟩ : ∃ j_ : Int, (shr .i64 ((rd_T47 l0_1 a1).f0) a3) = j_ := ⟨_, rfl⟩
                  replace H : ((group_Against.f l0_0 (shl .i64 1 a2)).bind fun t369 => (if ((rd_T47 l0_1 a1).f0) > 0 then ((group_Free.f l0_0 ((rd_T47 l0_1 a1).f0)).bind fun t370 => (if t370 = true then (if (Go.bits .and .i64 (ji46) 1) = 1 then (if (Go.bits .and .i64 (ji48) 1) = 1 then (if ((Go.bits .and .i64 (ji50) 1) = 1) then (some false) else (if (t369 = (wrap64 ((wrap64 ((shl .i64 1 (l0_0.length : Int)) - 1)) - (shl .i64 1 a2)))) then (if ((Go.bits .and .i64 (ji48) 1) = 1) then (some (((rd_T47 l0_1 a1).f0) == (shl .i64 1 a2))) else (some true)) else (some true))) else (if (t369 = (wrap64 ((wrap64 ((shl .i64 1 (l0_0.length : Int)) - 1)) - (shl .i64 1 a2)))) then (if ((Go.bits .and .i64 (ji48) 1) = 1) then (some (((rd_T47 l0_1 a1).f0) == (shl .i64 1 a2))) else (some true)) else (some true))) else (if (t369 = (wrap64 ((wrap64 ((shl .i64 1 (l0_0.length : Int)) - 1)) - (shl .i64 1 a2)))) then (if ((Go.bits .and .i64 (ji48) 1) = 1) then (some (((rd_T47 l0_1 a1).f0) == (shl .i64 1 a2))) else (some true)) else (some true))) else (some false))) else (some false))) = some r := by first | (rw [hji50] at H; exact H) | (simp only [hji50] at H ⊢; exact H)
                  have hji50_ : (((rd_T47 l0_1 a1).f0) / 2 ^ min a3.toNat 64) = ji50 := hji50
                  have hji50z : a3 ≤ 64 → (((rd_T47 l0_1 a1).f0) / 2 ^ a3.toNat) = ji50 := shr_small hji50
                  have c51b0 := eq_true (of_decide_eq_true (by first | (with_reducible assumption) | assumption) : 0 ≤ a2)
                  obtain ⟨ji52, hji52⟩ : ∃ j_ : Int, (shl .i64 1 a2) = j_ := ⟨_, rfl⟩
                  replace H : ((group_Against.f l0_0 (ji52)).bind fun t369 => (if ((rd_T47 l0_1 a1).f0) > 0 then ((group_Free.f l0_0 ((rd_T47 l0_1 a1).f0)).bind fun t370 => (if t370 = true then (if (Go.bits .and .i64 (ji46) 1) = 1 then (if (Go.bits .and .i64 (ji48) 1) = 1 then (if ((Go.bits .and .i64 (ji50) 1) = 1) then (some false) else (if (t369 = (wrap64 ((wrap64 ((shl .i64 1 (l0_0.length : Int)) - 1)) - (ji52)))) then (if ((Go.bits .and .i64 (ji48) 1) = 1) then (some (((rd_T47 l0_1 a1).f0) == (ji52))) else (some true)) else (some true))) else (if (t369 = (wrap64 ((wrap64 ((shl .i64 1 (l0_0.length : Int)) - 1)) - (ji52)))) then (if ((Go.bits .and .i64 (ji48) 1) = 1) then (some (((rd_T47 l0_1 a1).f0) == (ji52))) else (some true)) else (some true))) else (if (t369 = (wrap64 ((wrap64 ((shl .i64 1 (l0_0.length : Int)) - 1)) - (ji52)))) then (if ((Go.bits .and .i64 (ji48) 1) = 1) then (some (((rd_T47 l0_1 a1).f0) == (ji52))) else (some true)) else (some true))) else (some false))) else (some false))) = some r := by first | (rw [hji52] at H; exact H) | (simp only [hji52] at H ⊢; exact H)
                  have hji52_ : (IntKind.i64.wrap (1 * 2 ^ min a2.toNat 64)) = ji52 := hji52
                  have hji52z : a2 ≤ 64 → (IntKind.i64.wrap (1 * 2 ^ a2.toNat)) = ji52 := shl_small hji52
                  have hji52u : (IntKind.i64.wrap (2 ^ min a2.toNat 64)) = ji52 := by have h_ := hji52_; rw [Int.one_mul] at h_; exact h_
                  have hji52v : a2 ≤ 64 → (IntKind.i64.wrap (2 ^ a2.toNat)) = ji52 := fun hle_ => by have h_ := hji52z hle_; rw [Int.one_mul] at h_; exact h_
                  have hji52y : (wrap64 (1 * 2 ^ min a2.toNat 64)) = ji52 := (i64_w _).symm.trans hji52_
                  have hji52x : a2 ≤ 64 → (wrap64 (1 * 2 ^ a2.toNat)) = ji52 := fun h_ => (i64_w _).symm.trans (hji52z h_)
                  replace H := Option.bind_eq_some_iff.mp H
                  obtain ⟨t369, A530, H⟩ := H
                  replace H : (if ((rd_T47 l0_1 a1).f0) > 0 then ((group_Free.f l0_0 ((rd_T47 l0_1 a1).f0)).bind fun t370 => (if t370 = true then (if (Go.bits .and .i64 (ji46) 1) = 1 then (if (Go.bits .and .i64 (ji48) 1) = 1 then (if ((Go.bits .and .i64 (ji50) 1) = 1) then (some false) else (if (t369 = (wrap64 ((wrap64 ((shl .i64 1 (l0_0.length : Int)) - 1)) - (ji52)))) then (if ((Go.bits .and .i64 (ji48) 1) = 1) then (some (((rd_T47 l0_1 a1).f0) == (ji52))) else (some true)) else (some true))) else (if (t369 = (wrap64 ((wrap64 ((shl .i64 1 (l0_0.length : Int)) - 1)) - (ji52)))) then (if ((Go.bits .and .i64 (ji48) 1) = 1) then (some (((rd_T47 l0_1 a1).f0) == (ji52))) else (some true)) else (some true))) else (if (t369 = (wrap64 ((wrap64 ((shl .i64 1 (l0_0.length : Int)) - 1)) - (ji52)))) then (if ((Go.bits .and .i64 (ji48) 1) = 1) then (some (((rd_T47 l0_1 a1).f0) == (ji52))) else (some true)) else (some true))) else (some false))) else (some false)) = some r := H
                  have A53 := Aside0.mk A530
                  clear A530
                  obtain ⟨ji54, hji54⟩ : ∃ j_ : Int, (shl .i64 1 (l0_0.length : Int)) = j_ := ⟨_, rfl⟩
                  replace H : (if ((rd_T47 l0_1 a1).f0) > 0 then ((group_Free.f l0_0 ((rd_T47 l0_1 a1).f0)).bind fun t370 => (if t370 = true then (if (Go.bits .and .i64 (ji46) 1) = 1 then (if (Go.bits .and .i64 (ji48) 1) = 1 then (if ((Go.bits .and .i64 (ji50) 1) = 1) then (some false) else (if (t369 = (wrap64 ((wrap64 ((ji54) - 1)) - (ji52)))) then (if ((Go.bits .and .i64 (ji48) 1) = 1) then (some (((rd_T47 l0_1 a1).f0) == (ji52))) else (some true)) else (some true))) else (if (t369 = (wrap64 ((wrap64 ((ji54) - 1)) - (ji52)))) then (if ((Go.bits .and .i64 (ji48) 1) = 1) then (some (((rd_T47 l0_1 a1).f0) == (ji52))) else (some true)) else (some true))) else (if (t369 = (wrap64 ((wrap64 ((ji54) - 1)) - (ji52)))) then (if ((Go.bits .and .i64 (ji48) 1) = 1) then (some (((rd_T47 l0_1 a1).f0) == (ji52))) else (some true)) else (some true))) else (some false))) else (some false)) = some r := by first | (rw [hji54] at H; exact H) | (simp only [hji54] at H ⊢; exact H)
                  (try rw [hji54] at A53)
                  have hji54_ : (IntKind.i64.wrap (1 * 2 ^ min (l0_0.length : Int).toNat 64)) = ji54 := hji54
                  have hji54z : (l0_0.length : Int) ≤ 64 → (IntKind.i64.wrap (1 * 2 ^ (l0_0.length : Int).toNat)) = ji54 := shl_small hji54
                  have hji54p : (IntKind.i64.wrap (1 * 2 ^ min l0_0.length 64)) = ji54 := hji54_
                  have hji54q : (l0_0.length : Int) ≤ 64 → (IntKind.i64.wrap (1 * 2 ^ l0_0.length)) = ji54 := hji54z
                  have hji54r : (IntKind.i64.wrap (2 ^ min l0_0.length 64)) = ji54 := by have h_ := hji54p; rw [Int.one_mul] at h_; exact h_
                  have hji54s : (l0_0.length : Int) ≤ 64 → (IntKind.i64.wrap (2 ^ l0_0.length)) = ji54 := fun hle_ => by have h_ := hji54q hle_; rw [Int.one_mul] at h_; exact h_
                  have hji54u : (IntKind.i64.wrap (2 ^ min (l0_0.length : Int).toNat 64)) = ji54 := by have h_ := hji54_; rw [Int.one_mul] at h_; exact h_
                  have hji54v : (l0_0.length : Int) ≤ 64 → (IntKind.i64.wrap (2 ^ (l0_0.length : Int).toNat)) = ji54 := fun hle_ => by have h_ := hji54z hle_; rw [Int.one_mul] at h_; exact h_
                  have hji54y : (wrap64 (1 * 2 ^ min (l0_0.length : Int).toNat 64)) = ji54 := (i64_w _).symm.trans hji54_
                  have hji54x : (l0_0.length : Int) ≤ 64 → (wrap64 (1 * 2 ^ (l0_0.length : Int).toNat)) = ji54 := fun h_ => (i64_w _).symm.trans (hji54z h_)
                  have c55b0 := eq_true (of_decide_eq_true (by first | (with_reducible assumption) | assumption) : 0 ≤ a2)
                  by_cases c57 : ((rd_T47 l0_1 a1).f0) > 0
                  · rw [if_pos c57] at H
                    have c57b0 : decide (0 < ((rd_T47 l0_1 a1).f0)) = true := decide_eq_true c57
                    clear c57
                    replace H := Option.bind_eq_some_iff.mp H
                    obtain ⟨t370, A580, H⟩ := H
                    replace H : (if t370 = true then (if (Go.bits .and .i64 (ji46) 1) = 1 then (if (Go.bits .and .i64 (ji48) 1) = 1 then (if ((Go.bits .and .i64 (ji50) 1) = 1) then (some false) else (if (t369 = (wrap64 ((wrap64 ((ji54) - 1)) - (ji52)))) then (if ((Go.bits .and .i64 (ji48) 1) = 1) then (some (((rd_T47 l0_1 a1).f0) == (ji52))) else (some true)) else (some true))) else (if (t369 = (wrap64 ((wrap64 ((ji54) - 1)) - (ji52)))) then (if ((Go.bits .and .i64 (ji48) 1) = 1) then (some (((rd_T47 l0_1 a1).f0) == (ji52))) else (some true)) else (some true))) else (if (t369 = (wrap64 ((wrap64 ((ji54) - 1)) - (ji52)))) then (if ((Go.bits .and .i64 (ji48) 1) = 1) then (some (((rd_T47 l0_1 a1).f0) == (ji52))) else (some true)) else (some true))) else (some false)) = some r := H
                    have A58 := Aside0.mk A580
                    clear A580
                    by_cases c59 : t370 = true
                    · subst c59
                      have H1 : (if (Go.bits .and .i64 (ji46) 1) = 1 then (if (Go.bits .and .i64 (ji48) 1) = 1 then (if ((Go.bits .and .i64 (ji50) 1) = 1) then (some false) else (if (t369 = (wrap64 ((wrap64 ((ji54) - 1)) - (ji52)))) then (if ((Go.bits .and .i64 (ji48) 1) = 1) then (some (((rd_T47 l0_1 a1).f0) == (ji52))) else (some true)) else (some true))) else (if (t369 = (wrap64 ((wrap64 ((ji54) - 1)) - (ji52)))) then (if ((Go.bits .and .i64 (ji48) 1) = 1) then (some (((rd_T47 l0_1 a1).f0) == (ji52))) else (some true)) else (some true))) else (if (t369 = (wrap64 ((wrap64 ((ji54) - 1)) - (ji52)))) then (if ((Go.bits .and .i64 (ji48) 1) = 1) then (some (((rd_T47 l0_1 a1).f0) == (ji52))) else (some true)) else (some true))) = some r := by rw [if_pos rfl] at H; exact H
                      clear H
                      have H := H1
                      clear H1
                      by_cases c60 : (Go.bits .and .i64 (ji46) 1) = 1
                      · rw [if_pos c60] at H
                        have c60b0 : ((Go.bits .and .i64 (ji46) 1) == 1) = true := beq_iff_eq.mpr c60
                        have c60b1 : ((Go.bits .and .i64 (ji46) 1) != 1) = false := bne_eq_false_iff_eq.mpr c60
                        clear c60
                        by_cases c61 : (Go.bits .and .i64 (ji48) 1) = 1
                        · rw [if_pos c61] at H
                          have c61b0 : ((Go.bits .and .i64 (ji48) 1) == 1) = true := beq_iff_eq.mpr c61
                          have c61b1 : ((Go.bits .and .i64 (ji48) 1) != 1) = false := bne_eq_false_iff_eq.mpr c61
                          clear c61
                          by_cases c62 : ((Go.bits .and .i64 (ji50) 1) = 1)
                          · rw [if_pos c62] at H
                            have c62b0 : ((Go.bits .and .i64 (ji50) 1) == 1) = true := beq_iff_eq.mpr c62
                            have c62b1 : ((Go.bits .and .i64 (ji50) 1) != 1) = false := bne_eq_false_iff_eq.mpr c62
                            clear c62
                            exact absurd (Option.some.inj H) (by rw [HRR.out]; decide)
                          · rw [if_neg c62] at H
                            have c62b0 : ((Go.bits .and .i64 (ji50) 1) == 1) = false := beq_eq_false_iff_ne.mpr c62
                            have c62b1 : ((Go.bits .and .i64 (ji50) 1) != 1) = true := bne_iff_ne.mpr c62
                            by_cases c68 : (t369 = (wrap64 ((wrap64 ((ji54) - 1)) - (ji52))))
                            · rw [if_pos c68] at H
                              have c68b0 : (t369 == (wrap64 ((wrap64 ((ji54) - 1)) - (ji52)))) = true := beq_iff_eq.mpr c68
                              have c68b1 : (t369 != (wrap64 ((wrap64 ((ji54) - 1)) - (ji52)))) = false := bne_eq_false_iff_eq.mpr c68
                              clear c68
                              by_cases c69 : ((Go.bits .and .i64 (ji48) 1) = 1)
                              · rw [if_pos c69] at H
                                have c69b0 : ((Go.bits .and .i64 (ji48) 1) == 1) = true := beq_iff_eq.mpr c69
                                have c69b1 : ((Go.bits .and .i64 (ji48) 1) != 1) = false := bne_eq_false_iff_eq.mpr c69
                                clear c69
                                have c70b0 := eq_true (of_decide_eq_true (by first | (with_reducible assumption) | assumption) : 0 ≤ a2)
                                obtain rfl := Option.some.inj H
                                have hcz72_0 : wc.cell? ⟨gb363, 0, none⟩ = some (.slice A0_0 l0_0.length c0_0) := (blk_cell BK363.out 0).trans rfl
                                have hcz72_1 : wc.cell? ⟨gb363, 1, none⟩ = some (.slice A0_1 l0_1.length c0_1) := (blk_cell BK363.out 1).trans rfl
                                have hcz72_2 : wc.cell? ⟨gb363, 2, none⟩ = some (.int .i64 a0_2) := (blk_cell BK363.out 2).trans rfl
                                have hcz72_3 : wc.cell? ⟨gb363, 3, none⟩ = some (.int .i64 a0_3) := (blk_cell BK363.out 3).trans rfl
                                have hcz72_4 : wc.cell? ⟨gb363, 4, none⟩ = some (.int .i64 a0_4) := (blk_cell BK363.out 4).trans rfl
                                have hfz72_0 := blk_frozen BK363.out 0
                                have hfz72_1 := blk_frozen BK363.out 1
                                have hfz72_2 := blk_frozen BK363.out 2
                                have hfz72_3 := blk_frozen BK363.out 3
                                have hfz72_4 := blk_frozen BK363.out 4
                                have p367 : 0 ≤ (a1 : Int) := of_decide_eq_true (by first | (with_reducible assumption) | assumption)
                                have q367 : a1 < (l0_1.length : Int) := of_decide_eq_true (by first | (with_reducible assumption) | assumption)
                                obtain ⟨ad367, e367, hx367_0, hx367_1, hx367_2⟩ := at_T47 HR0_1.out a1 p367 q367
                                cases e367
                                replace hx367_0 := (HB.out.cell (World.block_lt_of_cell? w _ hx367_0)).trans hx367_0
                                replace hx367_1 := (HB.out.cell (World.block_lt_of_cell? w _ hx367_1)).trans hx367_1
                                replace hx367_2 := (HB.out.cell (World.block_lt_of_cell? w _ hx367_2)).trans hx367_2
                                replace p367 := eq_true p367
                                replace q367 := eq_true q367
                                have p368 : 0 ≤ (a2 : Int) := of_decide_eq_true (by first | (with_reducible assumption) | assumption)
                                have q368 : a2 < (l0_0.length : Int) := of_decide_eq_true (by first | (with_reducible assumption) | assumption)
                                obtain ⟨ad368, e368, hx368_0⟩ := Kd.at_int HR0_0.out a2 p368 q368
                                cases e368
                                replace hx368_0 := (HB.out.cell (World.block_lt_of_cell? w _ hx368_0)).trans hx368_0
                                replace p368 := eq_true p368
                                replace q368 := eq_true q368
                                try go_wp2
                                have n0_ := Aside0.mk (blk_drew BK363.out)
                                have n1_ := Aside0.mk (below_drew1 HB.out)
                                clear BK363
                                clear HB
                                have BK363 := n0_
                                have HB := n1_
                                clear n0_ n1_
                                refine start_ (n := 15) (S := fun w' => w'.cell? ⟨gb363, 0, none⟩ = some (.slice (some ad368) l0_0.length c0_0) ∧ w'.cell? ⟨gb363, 1, none⟩ = some (.slice (some ad367) l0_1.length c0_1) ∧ w'.cell? ⟨gb363, 2, none⟩ = some (.int .i64 a0_2) ∧ w'.cell? ⟨gb363, 3, none⟩ = some (.int .i64 a0_3) ∧ w'.cell? ⟨gb363, 4, none⟩ = some (.int .i64 a0_4)) (ds := []) #[false, false, false, false, false, false, false, false, false, false, false, false, false, false, false] (by kernel_rfl) rfl rfl ⟨(blk_cell BK363.out 0).trans rfl, (blk_cell BK363.out 1).trans rfl, (blk_cell BK363.out 2).trans rfl, (blk_cell BK363.out 3).trans rfl, (blk_cell BK363.out 4).trans rfl⟩ (fun hHeld => ?_); refine with_tabW pelicanlaw14_PlanFree.tab9 pelicanlaw14_PlanFree.bits9 (fun HT_ HW_ => ?_)
                                generalize wc.drew = w73 at BK363 HB hHeld ⊢
                                refine pure_ (i := 0) (N := some 89) (v := ?_) (a' := ?_) #[true, false, false, false, false, false, false, false, false, false, false, false, false, false, false] rfl rfl (any_of HT_.out (by kernel_rfl)) (fun _ _ _ h => h) (Or.inl ⟨by rfl, ?_⟩) ?_ ?_
                                rotate_left
                                · intro w'
                                  go_simp
                                  with_reducible rfl
                                rotate_left
                                · simp only [Act.put, List.setIfInBounds_toArray, List.set_cons_zero, List.set_cons_succ, i64_w, i32_w]
                                  rfl
                                refine pure_ (i := 2) (N := some 91) (v := ?_) (a' := ?_) #[true, false, true, false, false, false, false, false, false, false, false, false, false, false, false] rfl rfl (any_of HT_.out (by kernel_rfl)) (fun _ _ _ h => h) (Or.inl ⟨by rfl, ?_⟩) ?_ ?_
                                rotate_left
                                · intro w'
                                  go_simp
                                  with_reducible rfl
                                rotate_left
                                · simp only [Act.put, List.setIfInBounds_toArray, List.set_cons_zero, List.set_cons_succ, i64_w, i32_w]
                                  rfl
                                refine pure_ (i := 3) (N := some 92) (v := ?_) (a' := ?_) #[true, false, true, true, false, false, false, false, false, false, false, false, false, false, false] rfl rfl (any_of HT_.out (by kernel_rfl)) (fun _ _ _ h => h) (Or.inl ⟨by rfl, ?_⟩) ?_ ?_
                                rotate_left
                                · intro w'
                                  go_simp
                                  with_reducible rfl
                                rotate_left
                                · simp only [Act.put, List.setIfInBounds_toArray, List.set_cons_zero, List.set_cons_succ, i64_w, i32_w]
                                  rfl
                                refine pure_ (i := 5) (N := some 94) (v := ?_) (a' := ?_) #[true, false, true, true, false, true, false, false, false, false, false, false, false, false, false] rfl rfl (any_of HT_.out (by kernel_rfl)) (fun _ _ _ h => h) (Or.inl ⟨by rfl, ?_⟩) ?_ ?_
                                rotate_left
                                · intro w'
                                  go_simp
                                  with_reducible rfl
                                rotate_left
                                · simp only [Act.put, List.setIfInBounds_toArray, List.set_cons_zero, List.set_cons_succ, i64_w, i32_w]
                                  rfl
                                refine pure_ (i := 10) (N := some 99) (v := ?_) (a' := ?_) #[true, false, true, true, false, true, false, false, false, false, true, false, false, false, false] rfl rfl (any_of HT_.out (by kernel_rfl)) (fun _ _ _ h => h) (Or.inl ⟨by rfl, ?_⟩) ?_ ?_
                                rotate_left
                                · intro w'
                                  go_simp
                                  with_reducible rfl
                                rotate_left
                                · simp only [Act.put, List.setIfInBounds_toArray, List.set_cons_zero, List.set_cons_succ, i64_w, i32_w]
                                  rfl
                                refine pure_ (i := 11) (N := some 100) (v := ?_) (a' := ?_) #[true, false, true, true, false, true, false, false, false, false, true, true, false, false, false] rfl rfl (any_of HT_.out (by kernel_rfl)) (fun _ _ _ h => h) (Or.inl ⟨by rfl, ?_⟩) ?_ ?_
                                rotate_left
                                · intro w'
                                  go_simp
                                  with_reducible rfl
                                rotate_left
                                · simp only [Act.put, List.setIfInBounds_toArray, List.set_cons_zero, List.set_cons_succ, i64_w, i32_w]
                                  rfl
                                refine take_ (i := 1) (N := some 90) (v := ?_) (a' := ?_) #[true, true, true, true, false, true, false, false, false, false, true, true, false, false, false] rfl rfl (take_ofW HT_.out HW_.out (by kernel_rfl)) (fun _ _ _ h => h) (Or.inl ⟨by rfl, ?_⟩) hHeld ?_ ?_
                                rotate_left
                                · rintro w' ⟨s0, s1, s2, s3, s4⟩
                                  go_simp
                                  with_reducible rfl
                                rotate_left
                                · simp only [Act.put, List.setIfInBounds_toArray, List.set_cons_zero, List.set_cons_succ, i64_w, i32_w]
                                  rfl
                                refine take_ (i := 6) (N := some 95) (v := ?_) (a' := ?_) #[true, true, true, true, false, true, true, false, false, false, true, true, false, false, false] rfl rfl (take_ofW HT_.out HW_.out (by kernel_rfl)) (fun _ _ _ h => h) (Or.inl ⟨by rfl, ?_⟩) hHeld ?_ ?_
                                rotate_left
                                · rintro w' ⟨s0, s1, s2, s3, s4⟩
                                  go_simp
                                  with_reducible rfl
                                rotate_left
                                · simp only [Act.put, List.setIfInBounds_toArray, List.set_cons_zero, List.set_cons_succ, i64_w, i32_w]
                                  rfl
                                refine pure_ (i := 7) (N := some 96) (v := ?_) (a' := ?_) #[true, true, true, true, false, true, true, true, false, false, true, true, false, false, false] rfl rfl (any_of HT_.out (by kernel_rfl)) (fun _ _ _ h => h) (Or.inl ⟨by rfl, ?_⟩) ?_ ?_
                                rotate_left
                                · intro w'
                                  go_simp
                                  with_reducible rfl
                                rotate_left
                                · simp only [Act.put, List.setIfInBounds_toArray, List.set_cons_zero, List.set_cons_succ, i64_w, i32_w]
                                  rfl
                                refine pure_ (i := 8) (N := some 97) (v := ?_) (a' := ?_) #[true, true, true, true, false, true, true, true, true, false, true, true, false, false, false] rfl rfl (any_of HT_.out (by kernel_rfl)) (fun _ _ _ h => h) (Or.inl ⟨by rfl, ?_⟩) ?_ ?_
                                rotate_left
                                · intro w'
                                  go_simp
                                  with_reducible rfl
                                rotate_left
                                · simp only [Act.put, List.setIfInBounds_toArray, List.set_cons_zero, List.set_cons_succ, i64_w, i32_w]
                                  rfl
                                refine pure_ (i := 9) (N := some 98) (v := ?_) (a' := ?_) #[true, true, true, true, false, true, true, true, true, true, true, true, false, false, false] rfl rfl (any_of HT_.out (by kernel_rfl)) (fun _ _ _ h => h) (Or.inl ⟨by rfl, ?_⟩) ?_ ?_
                                rotate_left
                                · intro w'
                                  go_simp
                                  with_reducible rfl
                                rotate_left
                                · simp only [Act.put, List.setIfInBounds_toArray, List.set_cons_zero, List.set_cons_succ, i64_w, i32_w]
                                  rfl
                                refine pure_ (i := 12) (N := some 101) (v := ?_) (a' := ?_) #[true, true, true, true, false, true, true, true, true, true, true, true, true, false, false] rfl rfl (any_of HT_.out (by kernel_rfl)) (fun _ _ _ h => h) (Or.inl ⟨by rfl, ?_⟩) ?_ ?_
                                rotate_left
                                · intro w'
                                  go_simp
                                  with_reducible rfl
                                rotate_left
                                · simp only [Act.put, List.setIfInBounds_toArray, List.set_cons_zero, List.set_cons_succ, i64_w, i32_w]
                                  rfl
                                refine one_ (i := 4) (N := some 93) #[true, true, true, true, true, true, true, true, true, true, true, true, true, false, false] rfl rfl (one_of HT_.out (by kernel_rfl)) (by decide) (fun K hK => ?_)
                                refine goes_ Tryd.func24 (by kernel_rfl) rfl #[.slice (some ad368) l0_0.length c0_0, .int .i64 ji52] (by rfl) rfl rfl (by (try simp only [List.map_toArray, List.map_cons, List.map_nil]); first | done | (simp only [hji52]; rfl) | rfl | (go_simp; rw [wrap_pow_min]; exact (i64_w _).symm.trans hji52u) | (simp only [List.length_drop, List.length_take]; rfl)) ?_
                                with_reducible refine (group_Against.calls _ _ l0_0 ji52 t369 _ ?side1 ?side2 ?side3 A53.out).mono ?_
                                (case side1 => repeat (first | exact (Kd.C_below HR0_0.out HB.out) | (with_reducible refine Kd.C_alloc ?_ _) | (with_reducible refine Kd.C_drewN ?_ _) | (with_reducible refine Kd.C_drew ?_)))
                                (case side2 => exact HC0_0.out)
                                (case side3 => first | (with_reducible exact HG.out) | (refine GlobOk.below HG.out ?_; repeat (first | (with_reducible first | exact HB.out | apply below_alloc | apply pw_below_drewN | apply below_drew1 | refine below_set ?_ GE363.out) | exact HB.out)))
                                rintro e w74 ⟨rfl, hb⟩
                                refine ⟨_, rfl, ?_⟩
                                have n0_ := Aside0.mk (blk_below (g := gb363) (o := .cells #[.slice (some ad368) l0_0.length c0_0, .slice (some ad367) l0_1.length c0_1, .int .i64 a0_2, .int .i64 a0_3, .int .i64 a0_4] 37 (0, 0)) (by (with_reducible repeat (first | refine blk_drewN ?_ _ | refine blk_drew ?_ | refine blk_alloc ?_ _)); exact BK363.out) hb)
                                have n1_ := Aside0.mk (below_step (by repeat (first | (with_reducible first | exact HB.out | apply below_alloc | apply pw_below_drewN | apply below_drew1 | refine below_set ?_ GE363.out) | exact HB.out)) hb)
                                clear BK363
                                clear HB
                                have BK363 := n0_
                                have HB := n1_
                                clear n0_ n1_
                                (try clear hb)
                                (try clear hb2)
                                (try clear hk)
                                (try clear hi)
                                refine hK.out _ _ ⟨(blk_cell BK363.out 0).trans rfl, (blk_cell BK363.out 1).trans rfl, (blk_cell BK363.out 2).trans rfl, (blk_cell BK363.out 3).trans rfl, (blk_cell BK363.out 4).trans rfl⟩ (fun hHeld => ?_)
                                clear hK K
                                refine norm_ (a' := ?_) ?_ ?_
                                rotate_left
                                · show Act.put _ (some 93) _ = _
                                  simp only [Act.put, List.setIfInBounds_toArray, List.set_cons_zero, List.set_cons_succ, i64_w, i32_w]
                                  rfl
                                refine pure_ (i := 13) (N := some 102) (v := ?_) (a' := ?_) #[true, true, true, true, true, true, true, true, true, true, true, true, true, true, false] rfl rfl (any_of HT_.out (by kernel_rfl)) (fun _ _ _ h => h) (Or.inl ⟨by rfl, ?_⟩) ?_ ?_
                                rotate_left
                                · intro w'
                                  go_simp
                                  with_reducible rfl
                                rotate_left
                                · simp only [Act.put, List.setIfInBounds_toArray, List.set_cons_zero, List.set_cons_succ, i64_w, i32_w]
                                  rfl
                                refine pure_ (i := 14) (N := some 15) (v := ?_) (a' := ?_) #[true, true, true, true, true, true, true, true, true, true, true, true, true, true, true] rfl rfl (any_of HT_.out (by kernel_rfl)) (fun _ _ _ h => h) (Or.inl ⟨by rfl, ?_⟩) ?_ ?_
                                rotate_left
                                · intro w'
                                  go_simp
                                  with_reducible rfl
                                rotate_left
                                · simp only [Act.put, List.setIfInBounds_toArray, List.set_cons_zero, List.set_cons_succ, i64_w, i32_w]
                                  rfl
                                refine done_ (done_of HT_.out (by kernel_rfl)) ?_
                                have hcz75_0 : w74.cell? ⟨gb363, 0, none⟩ = some (.slice (some ad368) l0_0.length c0_0) := (blk_cell BK363.out 0).trans rfl
                                have hcz75_1 : w74.cell? ⟨gb363, 1, none⟩ = some (.slice (some ad367) l0_1.length c0_1) := (blk_cell BK363.out 1).trans rfl
                                have hcz75_2 : w74.cell? ⟨gb363, 2, none⟩ = some (.int .i64 a0_2) := (blk_cell BK363.out 2).trans rfl
                                have hcz75_3 : w74.cell? ⟨gb363, 3, none⟩ = some (.int .i64 a0_3) := (blk_cell BK363.out 3).trans rfl
                                have hcz75_4 : w74.cell? ⟨gb363, 4, none⟩ = some (.int .i64 a0_4) := (blk_cell BK363.out 4).trans rfl
                                have hfz75_0 := blk_frozen BK363.out 0
                                have hfz75_1 := blk_frozen BK363.out 1
                                have hfz75_2 := blk_frozen BK363.out 2
                                have hfz75_3 := blk_frozen BK363.out 3
                                have hfz75_4 := blk_frozen BK363.out 4
                                try go_wp2_with (first | (go_at_call 23; (with_reducible refine (group_Free.calls _ _ l0_0 ((rd_T47 l0_1 a1).f0) true _ ?side1 ?side2 ?side3 A58.out).mono ?_); (case side1 => repeat (first | exact (Kd.C_below HR0_0.out HB.out) | (with_reducible refine Kd.C_alloc ?_ _) | (with_reducible refine Kd.C_drewN ?_ _) | (with_reducible refine Kd.C_drew ?_))); (case side2 => exact HC0_0.out); (case side3 => first | (with_reducible exact HG.out) | (refine GlobOk.below HG.out ?_; repeat (first | (with_reducible first | exact HB.out | apply below_alloc | apply pw_below_drewN | apply below_drew1 | refine below_set ?_ GE363.out) | exact HB.out))); rintro e w76 ⟨rfl, hb⟩; have n0_ := Aside0.mk (blk_below (g := gb363) (o := .cells #[.slice (some ad368) l0_0.length c0_0, .slice (some ad367) l0_1.length c0_1, .int .i64 a0_2, .int .i64 a0_3, .int .i64 a0_4] 37 (0, 0)) (by (with_reducible repeat (first | refine blk_drewN ?_ _ | refine blk_drew ?_ | refine blk_alloc ?_ _)); exact BK363.out) hb); have n1_ := Aside0.mk (below_step (by repeat (first | (with_reducible first | exact HB.out | apply below_alloc | apply pw_below_drewN | apply below_drew1 | refine below_set ?_ GE363.out) | exact HB.out)) hb); clear BK363; clear HB; have BK363 := n0_; have HB := n1_; clear n0_ n1_; (try clear hb); (try clear hb2); (try clear hk); (try clear hi)))
                                go_ret
                                exact ⟨by first | rfl | (simp [errW_none, errW_some] <;> rfl) | (simp only [← hji46, ← hji48, ← hji50, ← hji52, ← hji54]; first | rfl | (simp [errW_none, errW_some] <;> rfl)) | (simp [*, errW_none, errW_some] <;> rfl), by repeat (first | (with_reducible first | exact HB.out | apply below_alloc | apply pw_below_drewN | apply below_drew1 | refine below_set ?_ GE363.out) | exact HB.out)⟩
                              · rw [if_neg c69] at H
                                have c69b0 : ((Go.bits .and .i64 (ji48) 1) == 1) = false := beq_eq_false_iff_ne.mpr c69
                                exact absurd (c61b0.symm.trans c69b0) (by decide)
                            · rw [if_neg c68] at H
                              have c68b0 : (t369 == (wrap64 ((wrap64 ((ji54) - 1)) - (ji52)))) = false := beq_eq_false_iff_ne.mpr c68
                              have c68b1 : (t369 != (wrap64 ((wrap64 ((ji54) - 1)) - (ji52)))) = true := bne_iff_ne.mpr c68
                              obtain rfl := Option.some.inj H
                              have hcz82_0 : wc.cell? ⟨gb363, 0, none⟩ = some (.slice A0_0 l0_0.length c0_0) := (blk_cell BK363.out 0).trans rfl
                              have hcz82_1 : wc.cell? ⟨gb363, 1, none⟩ = some (.slice A0_1 l0_1.length c0_1) := (blk_cell BK363.out 1).trans rfl
                              have hcz82_2 : wc.cell? ⟨gb363, 2, none⟩ = some (.int .i64 a0_2) := (blk_cell BK363.out 2).trans rfl
                              have hcz82_3 : wc.cell? ⟨gb363, 3, none⟩ = some (.int .i64 a0_3) := (blk_cell BK363.out 3).trans rfl
                              have hcz82_4 : wc.cell? ⟨gb363, 4, none⟩ = some (.int .i64 a0_4) := (blk_cell BK363.out 4).trans rfl
                              have hfz82_0 := blk_frozen BK363.out 0
                              have hfz82_1 := blk_frozen BK363.out 1
                              have hfz82_2 := blk_frozen BK363.out 2
                              have hfz82_3 := blk_frozen BK363.out 3
                              have hfz82_4 := blk_frozen BK363.out 4
                              have p367 : 0 ≤ (a1 : Int) := of_decide_eq_true (by first | (with_reducible assumption) | assumption)
                              have q367 : a1 < (l0_1.length : Int) := of_decide_eq_true (by first | (with_reducible assumption) | assumption)
                              obtain ⟨ad367, e367, hx367_0, hx367_1, hx367_2⟩ := at_T47 HR0_1.out a1 p367 q367
                              cases e367
                              replace hx367_0 := (HB.out.cell (World.block_lt_of_cell? w _ hx367_0)).trans hx367_0
                              replace hx367_1 := (HB.out.cell (World.block_lt_of_cell? w _ hx367_1)).trans hx367_1
                              replace hx367_2 := (HB.out.cell (World.block_lt_of_cell? w _ hx367_2)).trans hx367_2
                              replace p367 := eq_true p367
                              replace q367 := eq_true q367
                              have p368 : 0 ≤ (a2 : Int) := of_decide_eq_true (by first | (with_reducible assumption) | assumption)
                              have q368 : a2 < (l0_0.length : Int) := of_decide_eq_true (by first | (with_reducible assumption) | assumption)
                              obtain ⟨ad368, e368, hx368_0⟩ := Kd.at_int HR0_0.out a2 p368 q368
                              cases e368
                              replace hx368_0 := (HB.out.cell (World.block_lt_of_cell? w _ hx368_0)).trans hx368_0
                              replace p368 := eq_true p368
                              replace q368 := eq_true q368
                              try go_wp2
                              have n0_ := Aside0.mk (blk_drew BK363.out)
                              have n1_ := Aside0.mk (below_drew1 HB.out)
                              clear BK363
                              clear HB
                              have BK363 := n0_
                              have HB := n1_
                              clear n0_ n1_
                              refine start_ (n := 15) (S := fun w' => w'.cell? ⟨gb363, 0, none⟩ = some (.slice (some ad368) l0_0.length c0_0) ∧ w'.cell? ⟨gb363, 1, none⟩ = some (.slice (some ad367) l0_1.length c0_1) ∧ w'.cell? ⟨gb363, 2, none⟩ = some (.int .i64 a0_2) ∧ w'.cell? ⟨gb363, 3, none⟩ = some (.int .i64 a0_3) ∧ w'.cell? ⟨gb363, 4, none⟩ = some (.int .i64 a0_4)) (ds := []) #[false, false, false, false, false, false, false, false, false, false, false, false, false, false, false] (by kernel_rfl) rfl rfl ⟨(blk_cell BK363.out 0).trans rfl, (blk_cell BK363.out 1).trans rfl, (blk_cell BK363.out 2).trans rfl, (blk_cell BK363.out 3).trans rfl, (blk_cell BK363.out 4).trans rfl⟩ (fun hHeld => ?_); refine with_tabW pelicanlaw14_PlanFree.tab9 pelicanlaw14_PlanFree.bits9 (fun HT_ HW_ => ?_)
                              generalize wc.drew = w83 at BK363 HB hHeld ⊢
                              refine pure_ (i := 0) (N := some 89) (v := ?_) (a' := ?_) #[true, false, false, false, false, false, false, false, false, false, false, false, false, false, false] rfl rfl (any_of HT_.out (by kernel_rfl)) (fun _ _ _ h => h) (Or.inl ⟨by rfl, ?_⟩) ?_ ?_
                              rotate_left
                              · intro w'
                                go_simp
                                with_reducible rfl
                              rotate_left
                              · simp only [Act.put, List.setIfInBounds_toArray, List.set_cons_zero, List.set_cons_succ, i64_w, i32_w]
                                rfl
                              refine pure_ (i := 2) (N := some 91) (v := ?_) (a' := ?_) #[true, false, true, false, false, false, false, false, false, false, false, false, false, false, false] rfl rfl (any_of HT_.out (by kernel_rfl)) (fun _ _ _ h => h) (Or.inl ⟨by rfl, ?_⟩) ?_ ?_
                              rotate_left
                              · intro w'
                                go_simp
                                with_reducible rfl
                              rotate_left
                              · simp only [Act.put, List.setIfInBounds_toArray, List.set_cons_zero, List.set_cons_succ, i64_w, i32_w]
                                rfl
                              refine pure_ (i := 3) (N := some 92) (v := ?_) (a' := ?_) #[true, false, true, true, false, false, false, false, false, false, false, false, false, false, false] rfl rfl (any_of HT_.out (by kernel_rfl)) (fun _ _ _ h => h) (Or.inl ⟨by rfl, ?_⟩) ?_ ?_
                              rotate_left
                              · intro w'
                                go_simp
                                with_reducible rfl
                              rotate_left
                              · simp only [Act.put, List.setIfInBounds_toArray, List.set_cons_zero, List.set_cons_succ, i64_w, i32_w]
                                rfl
                              refine pure_ (i := 5) (N := some 94) (v := ?_) (a' := ?_) #[true, false, true, true, false, true, false, false, false, false, false, false, false, false, false] rfl rfl (any_of HT_.out (by kernel_rfl)) (fun _ _ _ h => h) (Or.inl ⟨by rfl, ?_⟩) ?_ ?_
                              rotate_left
                              · intro w'
                                go_simp
                                with_reducible rfl
                              rotate_left
                              · simp only [Act.put, List.setIfInBounds_toArray, List.set_cons_zero, List.set_cons_succ, i64_w, i32_w]
                                rfl
                              refine pure_ (i := 10) (N := some 99) (v := ?_) (a' := ?_) #[true, false, true, true, false, true, false, false, false, false, true, false, false, false, false] rfl rfl (any_of HT_.out (by kernel_rfl)) (fun _ _ _ h => h) (Or.inl ⟨by rfl, ?_⟩) ?_ ?_
                              rotate_left
                              · intro w'
                                go_simp
                                with_reducible rfl
                              rotate_left
                              · simp only [Act.put, List.setIfInBounds_toArray, List.set_cons_zero, List.set_cons_succ, i64_w, i32_w]
                                rfl
                              refine pure_ (i := 11) (N := some 100) (v := ?_) (a' := ?_) #[true, false, true, true, false, true, false, false, false, false, true, true, false, false, false] rfl rfl (any_of HT_.out (by kernel_rfl)) (fun _ _ _ h => h) (Or.inl ⟨by rfl, ?_⟩) ?_ ?_
                              rotate_left
                              · intro w'
                                go_simp
                                with_reducible rfl
                              rotate_left
                              · simp only [Act.put, List.setIfInBounds_toArray, List.set_cons_zero, List.set_cons_succ, i64_w, i32_w]
                                rfl
                              refine take_ (i := 1) (N := some 90) (v := ?_) (a' := ?_) #[true, true, true, true, false, true, false, false, false, false, true, true, false, false, false] rfl rfl (take_ofW HT_.out HW_.out (by kernel_rfl)) (fun _ _ _ h => h) (Or.inl ⟨by rfl, ?_⟩) hHeld ?_ ?_
                              rotate_left
                              · rintro w' ⟨s0, s1, s2, s3, s4⟩
                                go_simp
                                with_reducible rfl
                              rotate_left
                              · simp only [Act.put, List.setIfInBounds_toArray, List.set_cons_zero, List.set_cons_succ, i64_w, i32_w]
                                rfl
                              refine take_ (i := 6) (N := some 95) (v := ?_) (a' := ?_) #[true, true, true, true, false, true, true, false, false, false, true, true, false, false, false] rfl rfl (take_ofW HT_.out HW_.out (by kernel_rfl)) (fun _ _ _ h => h) (Or.inl ⟨by rfl, ?_⟩) hHeld ?_ ?_
                              rotate_left
                              · rintro w' ⟨s0, s1, s2, s3, s4⟩
                                go_simp
                                with_reducible rfl
                              rotate_left
                              · simp only [Act.put, List.setIfInBounds_toArray, List.set_cons_zero, List.set_cons_succ, i64_w, i32_w]
                                rfl
                              refine pure_ (i := 7) (N := some 96) (v := ?_) (a' := ?_) #[true, true, true, true, false, true, true, true, false, false, true, true, false, false, false] rfl rfl (any_of HT_.out (by kernel_rfl)) (fun _ _ _ h => h) (Or.inl ⟨by rfl, ?_⟩) ?_ ?_
                              rotate_left
                              · intro w'
                                go_simp
                                with_reducible rfl
                              rotate_left
                              · simp only [Act.put, List.setIfInBounds_toArray, List.set_cons_zero, List.set_cons_succ, i64_w, i32_w]
                                rfl
                              refine pure_ (i := 8) (N := some 97) (v := ?_) (a' := ?_) #[true, true, true, true, false, true, true, true, true, false, true, true, false, false, false] rfl rfl (any_of HT_.out (by kernel_rfl)) (fun _ _ _ h => h) (Or.inl ⟨by rfl, ?_⟩) ?_ ?_
                              rotate_left
                              · intro w'
                                go_simp
                                with_reducible rfl
                              rotate_left
                              · simp only [Act.put, List.setIfInBounds_toArray, List.set_cons_zero, List.set_cons_succ, i64_w, i32_w]
                                rfl
                              refine pure_ (i := 9) (N := some 98) (v := ?_) (a' := ?_) #[true, true, true, true, false, true, true, true, true, true, true, true, false, false, false] rfl rfl (any_of HT_.out (by kernel_rfl)) (fun _ _ _ h => h) (Or.inl ⟨by rfl, ?_⟩) ?_ ?_
                              rotate_left
                              · intro w'
                                go_simp
                                with_reducible rfl
                              rotate_left
                              · simp only [Act.put, List.setIfInBounds_toArray, List.set_cons_zero, List.set_cons_succ, i64_w, i32_w]
                                rfl
                              refine pure_ (i := 12) (N := some 101) (v := ?_) (a' := ?_) #[true, true, true, true, false, true, true, true, true, true, true, true, true, false, false] rfl rfl (any_of HT_.out (by kernel_rfl)) (fun _ _ _ h => h) (Or.inl ⟨by rfl, ?_⟩) ?_ ?_
                              rotate_left
                              · intro w'
                                go_simp
                                with_reducible rfl
                              rotate_left
                              · simp only [Act.put, List.setIfInBounds_toArray, List.set_cons_zero, List.set_cons_succ, i64_w, i32_w]
                                rfl
                              refine one_ (i := 4) (N := some 93) #[true, true, true, true, true, true, true, true, true, true, true, true, true, false, false] rfl rfl (one_of HT_.out (by kernel_rfl)) (by decide) (fun K hK => ?_)
                              refine goes_ Tryd.func24 (by kernel_rfl) rfl #[.slice (some ad368) l0_0.length c0_0, .int .i64 ji52] (by rfl) rfl rfl (by (try simp only [List.map_toArray, List.map_cons, List.map_nil]); first | done | (simp only [hji52]; rfl) | rfl | (go_simp; rw [wrap_pow_min]; exact (i64_w _).symm.trans hji52u) | (simp only [List.length_drop, List.length_take]; rfl)) ?_
                              with_reducible refine (group_Against.calls _ _ l0_0 ji52 t369 _ ?side1 ?side2 ?side3 A53.out).mono ?_
                              (case side1 => repeat (first | exact (Kd.C_below HR0_0.out HB.out) | (with_reducible refine Kd.C_alloc ?_ _) | (with_reducible refine Kd.C_drewN ?_ _) | (with_reducible refine Kd.C_drew ?_)))
                              (case side2 => exact HC0_0.out)
                              (case side3 => first | (with_reducible exact HG.out) | (refine GlobOk.below HG.out ?_; repeat (first | (with_reducible first | exact HB.out | apply below_alloc | apply pw_below_drewN | apply below_drew1 | refine below_set ?_ GE363.out) | exact HB.out)))
                              rintro e w84 ⟨rfl, hb⟩
                              refine ⟨_, rfl, ?_⟩
                              have n0_ := Aside0.mk (blk_below (g := gb363) (o := .cells #[.slice (some ad368) l0_0.length c0_0, .slice (some ad367) l0_1.length c0_1, .int .i64 a0_2, .int .i64 a0_3, .int .i64 a0_4] 37 (0, 0)) (by (with_reducible repeat (first | refine blk_drewN ?_ _ | refine blk_drew ?_ | refine blk_alloc ?_ _)); exact BK363.out) hb)
                              have n1_ := Aside0.mk (below_step (by repeat (first | (with_reducible first | exact HB.out | apply below_alloc | apply pw_below_drewN | apply below_drew1 | refine below_set ?_ GE363.out) | exact HB.out)) hb)
                              clear BK363
                              clear HB
                              have BK363 := n0_
                              have HB := n1_
                              clear n0_ n1_
                              (try clear hb)
                              (try clear hb2)
                              (try clear hk)
                              (try clear hi)
                              refine hK.out _ _ ⟨(blk_cell BK363.out 0).trans rfl, (blk_cell BK363.out 1).trans rfl, (blk_cell BK363.out 2).trans rfl, (blk_cell BK363.out 3).trans rfl, (blk_cell BK363.out 4).trans rfl⟩ (fun hHeld => ?_)
                              clear hK K
                              refine norm_ (a' := ?_) ?_ ?_
                              rotate_left
                              · show Act.put _ (some 93) _ = _
                                simp only [Act.put, List.setIfInBounds_toArray, List.set_cons_zero, List.set_cons_succ, i64_w, i32_w]
                                rfl
                              refine pure_ (i := 13) (N := some 102) (v := ?_) (a' := ?_) #[true, true, true, true, true, true, true, true, true, true, true, true, true, true, false] rfl rfl (any_of HT_.out (by kernel_rfl)) (fun _ _ _ h => h) (Or.inl ⟨by rfl, ?_⟩) ?_ ?_
                              rotate_left
                              · intro w'
                                go_simp
                                with_reducible rfl
                              rotate_left
                              · simp only [Act.put, List.setIfInBounds_toArray, List.set_cons_zero, List.set_cons_succ, i64_w, i32_w]
                                rfl
                              refine pure_ (i := 14) (N := some 15) (v := ?_) (a' := ?_) #[true, true, true, true, true, true, true, true, true, true, true, true, true, true, true] rfl rfl (any_of HT_.out (by kernel_rfl)) (fun _ _ _ h => h) (Or.inl ⟨by rfl, ?_⟩) ?_ ?_
                              rotate_left
                              · intro w'
                                go_simp
                                with_reducible rfl
                              rotate_left
                              · simp only [Act.put, List.setIfInBounds_toArray, List.set_cons_zero, List.set_cons_succ, i64_w, i32_w]
                                rfl
                              refine done_ (done_of HT_.out (by kernel_rfl)) ?_
                              have hcz85_0 : w84.cell? ⟨gb363, 0, none⟩ = some (.slice (some ad368) l0_0.length c0_0) := (blk_cell BK363.out 0).trans rfl
                              have hcz85_1 : w84.cell? ⟨gb363, 1, none⟩ = some (.slice (some ad367) l0_1.length c0_1) := (blk_cell BK363.out 1).trans rfl
                              have hcz85_2 : w84.cell? ⟨gb363, 2, none⟩ = some (.int .i64 a0_2) := (blk_cell BK363.out 2).trans rfl
                              have hcz85_3 : w84.cell? ⟨gb363, 3, none⟩ = some (.int .i64 a0_3) := (blk_cell BK363.out 3).trans rfl
                              have hcz85_4 : w84.cell? ⟨gb363, 4, none⟩ = some (.int .i64 a0_4) := (blk_cell BK363.out 4).trans rfl
                              have hfz85_0 := blk_frozen BK363.out 0
                              have hfz85_1 := blk_frozen BK363.out 1
                              have hfz85_2 := blk_frozen BK363.out 2
                              have hfz85_3 := blk_frozen BK363.out 3
                              have hfz85_4 := blk_frozen BK363.out 4
                              try go_wp2_with (first | (go_at_call 23; (with_reducible refine (group_Free.calls _ _ l0_0 ((rd_T47 l0_1 a1).f0) true _ ?side1 ?side2 ?side3 A58.out).mono ?_); (case side1 => repeat (first | exact (Kd.C_below HR0_0.out HB.out) | (with_reducible refine Kd.C_alloc ?_ _) | (with_reducible refine Kd.C_drewN ?_ _) | (with_reducible refine Kd.C_drew ?_))); (case side2 => exact HC0_0.out); (case side3 => first | (with_reducible exact HG.out) | (refine GlobOk.below HG.out ?_; repeat (first | (with_reducible first | exact HB.out | apply below_alloc | apply pw_below_drewN | apply below_drew1 | refine below_set ?_ GE363.out) | exact HB.out))); rintro e w86 ⟨rfl, hb⟩; have n0_ := Aside0.mk (blk_below (g := gb363) (o := .cells #[.slice (some ad368) l0_0.length c0_0, .slice (some ad367) l0_1.length c0_1, .int .i64 a0_2, .int .i64 a0_3, .int .i64 a0_4] 37 (0, 0)) (by (with_reducible repeat (first | refine blk_drewN ?_ _ | refine blk_drew ?_ | refine blk_alloc ?_ _)); exact BK363.out) hb); have n1_ := Aside0.mk (below_step (by repeat (first | (with_reducible first | exact HB.out | apply below_alloc | apply pw_below_drewN | apply below_drew1 | refine below_set ?_ GE363.out) | exact HB.out)) hb); clear BK363; clear HB; have BK363 := n0_; have HB := n1_; clear n0_ n1_; (try clear hb); (try clear hb2); (try clear hk); (try clear hi)))
                              go_ret
                              exact ⟨by first | rfl | (simp [errW_none, errW_some] <;> rfl) | (simp only [← hji46, ← hji48, ← hji50, ← hji52, ← hji54]; first | rfl | (simp [errW_none, errW_some] <;> rfl)) | (simp [*, errW_none, errW_some] <;> rfl), by repeat (first | (with_reducible first | exact HB.out | apply below_alloc | apply pw_below_drewN | apply below_drew1 | refine below_set ?_ GE363.out) | exact HB.out)⟩
                        · rw [if_neg c61] at H
                          have c61b0 : ((Go.bits .and .i64 (ji48) 1) == 1) = false := beq_eq_false_iff_ne.mpr c61
                          have c61b1 : ((Go.bits .and .i64 (ji48) 1) != 1) = true := bne_iff_ne.mpr c61
                          by_cases c87 : (t369 = (wrap64 ((wrap64 ((ji54) - 1)) - (ji52))))
                          · rw [if_pos c87] at H
                            have c87b0 : (t369 == (wrap64 ((wrap64 ((ji54) - 1)) - (ji52)))) = true := beq_iff_eq.mpr c87
                            have c87b1 : (t369 != (wrap64 ((wrap64 ((ji54) - 1)) - (ji52)))) = false := bne_eq_false_iff_eq.mpr c87
                            clear c87
                            by_cases c88 : ((Go.bits .and .i64 (ji48) 1) = 1)
                            · rw [if_pos c88] at H
                              have c88b0 : ((Go.bits .and .i64 (ji48) 1) == 1) = true := beq_iff_eq.mpr c88
                              exact absurd (c61b0.symm.trans c88b0) (by decide)
                            · rw [if_neg c88] at H
                              have c88b0 : ((Go.bits .and .i64 (ji48) 1) == 1) = false := beq_eq_false_iff_ne.mpr c88
                              have c88b1 : ((Go.bits .and .i64 (ji48) 1) != 1) = true := bne_iff_ne.mpr c88
                              obtain rfl := Option.some.inj H
                              have hcz96_0 : wc.cell? ⟨gb363, 0, none⟩ = some (.slice A0_0 l0_0.length c0_0) := (blk_cell BK363.out 0).trans rfl
                              have hcz96_1 : wc.cell? ⟨gb363, 1, none⟩ = some (.slice A0_1 l0_1.length c0_1) := (blk_cell BK363.out 1).trans rfl
                              have hcz96_2 : wc.cell? ⟨gb363, 2, none⟩ = some (.int .i64 a0_2) := (blk_cell BK363.out 2).trans rfl
                              have hcz96_3 : wc.cell? ⟨gb363, 3, none⟩ = some (.int .i64 a0_3) := (blk_cell BK363.out 3).trans rfl
                              have hcz96_4 : wc.cell? ⟨gb363, 4, none⟩ = some (.int .i64 a0_4) := (blk_cell BK363.out 4).trans rfl
                              have hfz96_0 := blk_frozen BK363.out 0
                              have hfz96_1 := blk_frozen BK363.out 1
                              have hfz96_2 := blk_frozen BK363.out 2
                              have hfz96_3 := blk_frozen BK363.out 3
                              have hfz96_4 := blk_frozen BK363.out 4
                              have p367 : 0 ≤ (a1 : Int) := of_decide_eq_true (by first | (with_reducible assumption) | assumption)
                              have q367 : a1 < (l0_1.length : Int) := of_decide_eq_true (by first | (with_reducible assumption) | assumption)
                              obtain ⟨ad367, e367, hx367_0, hx367_1, hx367_2⟩ := at_T47 HR0_1.out a1 p367 q367
                              cases e367
                              replace hx367_0 := (HB.out.cell (World.block_lt_of_cell? w _ hx367_0)).trans hx367_0
                              replace hx367_1 := (HB.out.cell (World.block_lt_of_cell? w _ hx367_1)).trans hx367_1
                              replace hx367_2 := (HB.out.cell (World.block_lt_of_cell? w _ hx367_2)).trans hx367_2
                              replace p367 := eq_true p367
                              replace q367 := eq_true q367
                              have p368 : 0 ≤ (a2 : Int) := of_decide_eq_true (by first | (with_reducible assumption) | assumption)
                              have q368 : a2 < (l0_0.length : Int) := of_decide_eq_true (by first | (with_reducible assumption) | assumption)
                              obtain ⟨ad368, e368, hx368_0⟩ := Kd.at_int HR0_0.out a2 p368 q368
                              cases e368
                              replace hx368_0 := (HB.out.cell (World.block_lt_of_cell? w _ hx368_0)).trans hx368_0
                              replace p368 := eq_true p368
                              replace q368 := eq_true q368
                              try go_wp2
                              have n0_ := Aside0.mk (blk_drew BK363.out)
                              have n1_ := Aside0.mk (below_drew1 HB.out)
                              clear BK363
                              clear HB
                              have BK363 := n0_
                              have HB := n1_
                              clear n0_ n1_
                              refine start_ (n := 15) (S := fun w' => w'.cell? ⟨gb363, 0, none⟩ = some (.slice (some ad368) l0_0.length c0_0) ∧ w'.cell? ⟨gb363, 1, none⟩ = some (.slice (some ad367) l0_1.length c0_1) ∧ w'.cell? ⟨gb363, 2, none⟩ = some (.int .i64 a0_2) ∧ w'.cell? ⟨gb363, 3, none⟩ = some (.int .i64 a0_3) ∧ w'.cell? ⟨gb363, 4, none⟩ = some (.int .i64 a0_4)) (ds := []) #[false, false, false, false, false, false, false, false, false, false, false, false, false, false, false] (by kernel_rfl) rfl rfl ⟨(blk_cell BK363.out 0).trans rfl, (blk_cell BK363.out 1).trans rfl, (blk_cell BK363.out 2).trans rfl, (blk_cell BK363.out 3).trans rfl, (blk_cell BK363.out 4).trans rfl⟩ (fun hHeld => ?_); refine with_tabW pelicanlaw14_PlanFree.tab9 pelicanlaw14_PlanFree.bits9 (fun HT_ HW_ => ?_)
                              generalize wc.drew = w97 at BK363 HB hHeld ⊢
                              refine pure_ (i := 0) (N := some 89) (v := ?_) (a' := ?_) #[true, false, false, false, false, false, false, false, false, false, false, false, false, false, false] rfl rfl (any_of HT_.out (by kernel_rfl)) (fun _ _ _ h => h) (Or.inl ⟨by rfl, ?_⟩) ?_ ?_
                              rotate_left
                              · intro w'
                                go_simp
                                with_reducible rfl
                              rotate_left
                              · simp only [Act.put, List.setIfInBounds_toArray, List.set_cons_zero, List.set_cons_succ, i64_w, i32_w]
                                rfl
                              refine pure_ (i := 2) (N := some 91) (v := ?_) (a' := ?_) #[true, false, true, false, false, false, false, false, false, false, false, false, false, false, false] rfl rfl (any_of HT_.out (by kernel_rfl)) (fun _ _ _ h => h) (Or.inl ⟨by rfl, ?_⟩) ?_ ?_
                              rotate_left
                              · intro w'
                                go_simp
                                with_reducible rfl
                              rotate_left
                              · simp only [Act.put, List.setIfInBounds_toArray, List.set_cons_zero, List.set_cons_succ, i64_w, i32_w]
                                rfl
                              refine pure_ (i := 3) (N := some 92) (v := ?_) (a' := ?_) #[true, false, true, true, false, false, false, false, false, false, false, false, false, false, false] rfl rfl (any_of HT_.out (by kernel_rfl)) (fun _ _ _ h => h) (Or.inl ⟨by rfl, ?_⟩) ?_ ?_
                              rotate_left
                              · intro w'
                                go_simp
                                with_reducible rfl
                              rotate_left
                              · simp only [Act.put, List.setIfInBounds_toArray, List.set_cons_zero, List.set_cons_succ, i64_w, i32_w]
                                rfl
                              refine pure_ (i := 5) (N := some 94) (v := ?_) (a' := ?_) #[true, false, true, true, false, true, false, false, false, false, false, false, false, false, false] rfl rfl (any_of HT_.out (by kernel_rfl)) (fun _ _ _ h => h) (Or.inl ⟨by rfl, ?_⟩) ?_ ?_
                              rotate_left
                              · intro w'
                                go_simp
                                with_reducible rfl
                              rotate_left
                              · simp only [Act.put, List.setIfInBounds_toArray, List.set_cons_zero, List.set_cons_succ, i64_w, i32_w]
                                rfl
                              refine pure_ (i := 10) (N := some 99) (v := ?_) (a' := ?_) #[true, false, true, true, false, true, false, false, false, false, true, false, false, false, false] rfl rfl (any_of HT_.out (by kernel_rfl)) (fun _ _ _ h => h) (Or.inl ⟨by rfl, ?_⟩) ?_ ?_
                              rotate_left
                              · intro w'
                                go_simp
                                with_reducible rfl
                              rotate_left
                              · simp only [Act.put, List.setIfInBounds_toArray, List.set_cons_zero, List.set_cons_succ, i64_w, i32_w]
                                rfl
                              refine pure_ (i := 11) (N := some 100) (v := ?_) (a' := ?_) #[true, false, true, true, false, true, false, false, false, false, true, true, false, false, false] rfl rfl (any_of HT_.out (by kernel_rfl)) (fun _ _ _ h => h) (Or.inl ⟨by rfl, ?_⟩) ?_ ?_
                              rotate_left
                              · intro w'
                                go_simp
                                with_reducible rfl
                              rotate_left
                              · simp only [Act.put, List.setIfInBounds_toArray, List.set_cons_zero, List.set_cons_succ, i64_w, i32_w]
                                rfl
                              refine take_ (i := 1) (N := some 90) (v := ?_) (a' := ?_) #[true, true, true, true, false, true, false, false, false, false, true, true, false, false, false] rfl rfl (take_ofW HT_.out HW_.out (by kernel_rfl)) (fun _ _ _ h => h) (Or.inl ⟨by rfl, ?_⟩) hHeld ?_ ?_
                              rotate_left
                              · rintro w' ⟨s0, s1, s2, s3, s4⟩
                                go_simp
                                with_reducible rfl
                              rotate_left
                              · simp only [Act.put, List.setIfInBounds_toArray, List.set_cons_zero, List.set_cons_succ, i64_w, i32_w]
                                rfl
                              refine take_ (i := 6) (N := some 95) (v := ?_) (a' := ?_) #[true, true, true, true, false, true, true, false, false, false, true, true, false, false, false] rfl rfl (take_ofW HT_.out HW_.out (by kernel_rfl)) (fun _ _ _ h => h) (Or.inl ⟨by rfl, ?_⟩) hHeld ?_ ?_
                              rotate_left
                              · rintro w' ⟨s0, s1, s2, s3, s4⟩
                                go_simp
                                with_reducible rfl
                              rotate_left
                              · simp only [Act.put, List.setIfInBounds_toArray, List.set_cons_zero, List.set_cons_succ, i64_w, i32_w]
                                rfl
                              refine pure_ (i := 7) (N := some 96) (v := ?_) (a' := ?_) #[true, true, true, true, false, true, true, true, false, false, true, true, false, false, false] rfl rfl (any_of HT_.out (by kernel_rfl)) (fun _ _ _ h => h) (Or.inl ⟨by rfl, ?_⟩) ?_ ?_
                              rotate_left
                              · intro w'
                                go_simp
                                with_reducible rfl
                              rotate_left
                              · simp only [Act.put, List.setIfInBounds_toArray, List.set_cons_zero, List.set_cons_succ, i64_w, i32_w]
                                rfl
                              refine pure_ (i := 8) (N := some 97) (v := ?_) (a' := ?_) #[true, true, true, true, false, true, true, true, true, false, true, true, false, false, false] rfl rfl (any_of HT_.out (by kernel_rfl)) (fun _ _ _ h => h) (Or.inl ⟨by rfl, ?_⟩) ?_ ?_
                              rotate_left
                              · intro w'
                                go_simp
                                with_reducible rfl
                              rotate_left
                              · simp only [Act.put, List.setIfInBounds_toArray, List.set_cons_zero, List.set_cons_succ, i64_w, i32_w]
                                rfl
                              refine pure_ (i := 9) (N := some 98) (v := ?_) (a' := ?_) #[true, true, true, true, false, true, true, true, true, true, true, true, false, false, false] rfl rfl (any_of HT_.out (by kernel_rfl)) (fun _ _ _ h => h) (Or.inl ⟨by rfl, ?_⟩) ?_ ?_
                              rotate_left
                              · intro w'
                                go_simp
                                with_reducible rfl
                              rotate_left
                              · simp only [Act.put, List.setIfInBounds_toArray, List.set_cons_zero, List.set_cons_succ, i64_w, i32_w]
                                rfl
                              refine pure_ (i := 12) (N := some 101) (v := ?_) (a' := ?_) #[true, true, true, true, false, true, true, true, true, true, true, true, true, false, false] rfl rfl (any_of HT_.out (by kernel_rfl)) (fun _ _ _ h => h) (Or.inl ⟨by rfl, ?_⟩) ?_ ?_
                              rotate_left
                              · intro w'
                                go_simp
                                with_reducible rfl
                              rotate_left
                              · simp only [Act.put, List.setIfInBounds_toArray, List.set_cons_zero, List.set_cons_succ, i64_w, i32_w]
                                rfl
                              refine one_ (i := 4) (N := some 93) #[true, true, true, true, true, true, true, true, true, true, true, true, true, false, false] rfl rfl (one_of HT_.out (by kernel_rfl)) (by decide) (fun K hK => ?_)
                              refine goes_ Tryd.func24 (by kernel_rfl) rfl #[.slice (some ad368) l0_0.length c0_0, .int .i64 ji52] (by rfl) rfl rfl (by (try simp only [List.map_toArray, List.map_cons, List.map_nil]); first | done | (simp only [hji52]; rfl) | rfl | (go_simp; rw [wrap_pow_min]; exact (i64_w _).symm.trans hji52u) | (simp only [List.length_drop, List.length_take]; rfl)) ?_
                              with_reducible refine (group_Against.calls _ _ l0_0 ji52 t369 _ ?side1 ?side2 ?side3 A53.out).mono ?_
                              (case side1 => repeat (first | exact (Kd.C_below HR0_0.out HB.out) | (with_reducible refine Kd.C_alloc ?_ _) | (with_reducible refine Kd.C_drewN ?_ _) | (with_reducible refine Kd.C_drew ?_)))
                              (case side2 => exact HC0_0.out)
                              (case side3 => first | (with_reducible exact HG.out) | (refine GlobOk.below HG.out ?_; repeat (first | (with_reducible first | exact HB.out | apply below_alloc | apply pw_below_drewN | apply below_drew1 | refine below_set ?_ GE363.out) | exact HB.out)))
                              rintro e w98 ⟨rfl, hb⟩
                              refine ⟨_, rfl, ?_⟩
                              have n0_ := Aside0.mk (blk_below (g := gb363) (o := .cells #[.slice (some ad368) l0_0.length c0_0, .slice (some ad367) l0_1.length c0_1, .int .i64 a0_2, .int .i64 a0_3, .int .i64 a0_4] 37 (0, 0)) (by (with_reducible repeat (first | refine blk_drewN ?_ _ | refine blk_drew ?_ | refine blk_alloc ?_ _)); exact BK363.out) hb)
                              have n1_ := Aside0.mk (below_step (by repeat (first | (with_reducible first | exact HB.out | apply below_alloc | apply pw_below_drewN | apply below_drew1 | refine below_set ?_ GE363.out) | exact HB.out)) hb)
                              clear BK363
                              clear HB
                              have BK363 := n0_
                              have HB := n1_
                              clear n0_ n1_
                              (try clear hb)
                              (try clear hb2)
                              (try clear hk)
                              (try clear hi)
                              refine hK.out _ _ ⟨(blk_cell BK363.out 0).trans rfl, (blk_cell BK363.out 1).trans rfl, (blk_cell BK363.out 2).trans rfl, (blk_cell BK363.out 3).trans rfl, (blk_cell BK363.out 4).trans rfl⟩ (fun hHeld => ?_)
                              clear hK K
                              refine norm_ (a' := ?_) ?_ ?_
                              rotate_left
                              · show Act.put _ (some 93) _ = _
                                simp only [Act.put, List.setIfInBounds_toArray, List.set_cons_zero, List.set_cons_succ, i64_w, i32_w]
                                rfl
                              refine pure_ (i := 13) (N := some 102) (v := ?_) (a' := ?_) #[true, true, true, true, true, true, true, true, true, true, true, true, true, true, false] rfl rfl (any_of HT_.out (by kernel_rfl)) (fun _ _ _ h => h) (Or.inl ⟨by rfl, ?_⟩) ?_ ?_
                              rotate_left
                              · intro w'
                                go_simp
                                with_reducible rfl
                              rotate_left
                              · simp only [Act.put, List.setIfInBounds_toArray, List.set_cons_zero, List.set_cons_succ, i64_w, i32_w]
                                rfl
                              refine pure_ (i := 14) (N := some 15) (v := ?_) (a' := ?_) #[true, true, true, true, true, true, true, true, true, true, true, true, true, true, true] rfl rfl (any_of HT_.out (by kernel_rfl)) (fun _ _ _ h => h) (Or.inl ⟨by rfl, ?_⟩) ?_ ?_
                              rotate_left
                              · intro w'
                                go_simp
                                with_reducible rfl
                              rotate_left
                              · simp only [Act.put, List.setIfInBounds_toArray, List.set_cons_zero, List.set_cons_succ, i64_w, i32_w]
                                rfl
                              refine done_ (done_of HT_.out (by kernel_rfl)) ?_
                              have hcz99_0 : w98.cell? ⟨gb363, 0, none⟩ = some (.slice (some ad368) l0_0.length c0_0) := (blk_cell BK363.out 0).trans rfl
                              have hcz99_1 : w98.cell? ⟨gb363, 1, none⟩ = some (.slice (some ad367) l0_1.length c0_1) := (blk_cell BK363.out 1).trans rfl
                              have hcz99_2 : w98.cell? ⟨gb363, 2, none⟩ = some (.int .i64 a0_2) := (blk_cell BK363.out 2).trans rfl
                              have hcz99_3 : w98.cell? ⟨gb363, 3, none⟩ = some (.int .i64 a0_3) := (blk_cell BK363.out 3).trans rfl
                              have hcz99_4 : w98.cell? ⟨gb363, 4, none⟩ = some (.int .i64 a0_4) := (blk_cell BK363.out 4).trans rfl
                              have hfz99_0 := blk_frozen BK363.out 0
                              have hfz99_1 := blk_frozen BK363.out 1
                              have hfz99_2 := blk_frozen BK363.out 2
                              have hfz99_3 := blk_frozen BK363.out 3
                              have hfz99_4 := blk_frozen BK363.out 4
                              try go_wp2_with (first | (go_at_call 23; (with_reducible refine (group_Free.calls _ _ l0_0 ((rd_T47 l0_1 a1).f0) true _ ?side1 ?side2 ?side3 A58.out).mono ?_); (case side1 => repeat (first | exact (Kd.C_below HR0_0.out HB.out) | (with_reducible refine Kd.C_alloc ?_ _) | (with_reducible refine Kd.C_drewN ?_ _) | (with_reducible refine Kd.C_drew ?_))); (case side2 => exact HC0_0.out); (case side3 => first | (with_reducible exact HG.out) | (refine GlobOk.below HG.out ?_; repeat (first | (with_reducible first | exact HB.out | apply below_alloc | apply pw_below_drewN | apply below_drew1 | refine below_set ?_ GE363.out) | exact HB.out))); rintro e w100 ⟨rfl, hb⟩; have n0_ := Aside0.mk (blk_below (g := gb363) (o := .cells #[.slice (some ad368) l0_0.length c0_0, .slice (some ad367) l0_1.length c0_1, .int .i64 a0_2, .int .i64 a0_3, .int .i64 a0_4] 37 (0, 0)) (by (with_reducible repeat (first | refine blk_drewN ?_ _ | refine blk_drew ?_ | refine blk_alloc ?_ _)); exact BK363.out) hb); have n1_ := Aside0.mk (below_step (by repeat (first | (with_reducible first | exact HB.out | apply below_alloc | apply pw_below_drewN | apply below_drew1 | refine below_set ?_ GE363.out) | exact HB.out)) hb); clear BK363; clear HB; have BK363 := n0_; have HB := n1_; clear n0_ n1_; (try clear hb); (try clear hb2); (try clear hk); (try clear hi)))
                              go_ret
                              exact ⟨by first | rfl | (simp [errW_none, errW_some] <;> rfl) | (simp only [← hji46, ← hji48, ← hji50, ← hji52, ← hji54]; first | rfl | (simp [errW_none, errW_some] <;> rfl)) | (simp [*, errW_none, errW_some] <;> rfl), by repeat (first | (with_reducible first | exact HB.out | apply below_alloc | apply pw_below_drewN | apply below_drew1 | refine below_set ?_ GE363.out) | exact HB.out)⟩
                          · rw [if_neg c87] at H
                            have c87b0 : (t369 == (wrap64 ((wrap64 ((ji54) - 1)) - (ji52)))) = false := beq_eq_false_iff_ne.mpr c87
                            have c87b1 : (t369 != (wrap64 ((wrap64 ((ji54) - 1)) - (ji52)))) = true := bne_iff_ne.mpr c87
                            obtain rfl := Option.some.inj H
                            have hcz101_0 : wc.cell? ⟨gb363, 0, none⟩ = some (.slice A0_0 l0_0.length c0_0) := (blk_cell BK363.out 0).trans rfl
                            have hcz101_1 : wc.cell? ⟨gb363, 1, none⟩ = some (.slice A0_1 l0_1.length c0_1) := (blk_cell BK363.out 1).trans rfl
                            have hcz101_2 : wc.cell? ⟨gb363, 2, none⟩ = some (.int .i64 a0_2) := (blk_cell BK363.out 2).trans rfl
                            have hcz101_3 : wc.cell? ⟨gb363, 3, none⟩ = some (.int .i64 a0_3) := (blk_cell BK363.out 3).trans rfl
                            have hcz101_4 : wc.cell? ⟨gb363, 4, none⟩ = some (.int .i64 a0_4) := (blk_cell BK363.out 4).trans rfl
                            have hfz101_0 := blk_frozen BK363.out 0
                            have hfz101_1 := blk_frozen BK363.out 1
                            have hfz101_2 := blk_frozen BK363.out 2
                            have hfz101_3 := blk_frozen BK363.out 3
                            have hfz101_4 := blk_frozen BK363.out 4
                            have p367 : 0 ≤ (a1 : Int) := of_decide_eq_true (by first | (with_reducible assumption) | assumption)
                            have q367 : a1 < (l0_1.length : Int) := of_decide_eq_true (by first | (with_reducible assumption) | assumption)
                            obtain ⟨ad367, e367, hx367_0, hx367_1, hx367_2⟩ := at_T47 HR0_1.out a1 p367 q367
                            cases e367
                            replace hx367_0 := (HB.out.cell (World.block_lt_of_cell? w _ hx367_0)).trans hx367_0
                            replace hx367_1 := (HB.out.cell (World.block_lt_of_cell? w _ hx367_1)).trans hx367_1
                            replace hx367_2 := (HB.out.cell (World.block_lt_of_cell? w _ hx367_2)).trans hx367_2
                            replace p367 := eq_true p367
                            replace q367 := eq_true q367
                            have p368 : 0 ≤ (a2 : Int) := of_decide_eq_true (by first | (with_reducible assumption) | assumption)
                            have q368 : a2 < (l0_0.length : Int) := of_decide_eq_true (by first | (with_reducible assumption) | assumption)
                            obtain ⟨ad368, e368, hx368_0⟩ := Kd.at_int HR0_0.out a2 p368 q368
                            cases e368
                            replace hx368_0 := (HB.out.cell (World.block_lt_of_cell? w _ hx368_0)).trans hx368_0
                            replace p368 := eq_true p368
                            replace q368 := eq_true q368
                            try go_wp2
                            have n0_ := Aside0.mk (blk_drew BK363.out)
                            have n1_ := Aside0.mk (below_drew1 HB.out)
                            clear BK363
                            clear HB
                            have BK363 := n0_
                            have HB := n1_
                            clear n0_ n1_
                            refine start_ (n := 15) (S := fun w' => w'.cell? ⟨gb363, 0, none⟩ = some (.slice (some ad368) l0_0.length c0_0) ∧ w'.cell? ⟨gb363, 1, none⟩ = some (.slice (some ad367) l0_1.length c0_1) ∧ w'.cell? ⟨gb363, 2, none⟩ = some (.int .i64 a0_2) ∧ w'.cell? ⟨gb363, 3, none⟩ = some (.int .i64 a0_3) ∧ w'.cell? ⟨gb363, 4, none⟩ = some (.int .i64 a0_4)) (ds := []) #[false, false, false, false, false, false, false, false, false, false, false, false, false, false, false] (by kernel_rfl) rfl rfl ⟨(blk_cell BK363.out 0).trans rfl, (blk_cell BK363.out 1).trans rfl, (blk_cell BK363.out 2).trans rfl, (blk_cell BK363.out 3).trans rfl, (blk_cell BK363.out 4).trans rfl⟩ (fun hHeld => ?_); refine with_tabW pelicanlaw14_PlanFree.tab9 pelicanlaw14_PlanFree.bits9 (fun HT_ HW_ => ?_)
                            generalize wc.drew = w102 at BK363 HB hHeld ⊢
                            refine pure_ (i := 0) (N := some 89) (v := ?_) (a' := ?_) #[true, false, false, false, false, false, false, false, false, false, false, false, false, false, false] rfl rfl (any_of HT_.out (by kernel_rfl)) (fun _ _ _ h => h) (Or.inl ⟨by rfl, ?_⟩) ?_ ?_
                            rotate_left
                            · intro w'
                              go_simp
                              with_reducible rfl
                            rotate_left
                            · simp only [Act.put, List.setIfInBounds_toArray, List.set_cons_zero, List.set_cons_succ, i64_w, i32_w]
                              rfl
                            refine pure_ (i := 2) (N := some 91) (v := ?_) (a' := ?_) #[true, false, true, false, false, false, false, false, false, false, false, false, false, false, false] rfl rfl (any_of HT_.out (by kernel_rfl)) (fun _ _ _ h => h) (Or.inl ⟨by rfl, ?_⟩) ?_ ?_
                            rotate_left
                            · intro w'
                              go_simp
                              with_reducible rfl
                            rotate_left
                            · simp only [Act.put, List.setIfInBounds_toArray, List.set_cons_zero, List.set_cons_succ, i64_w, i32_w]
                              rfl
                            refine pure_ (i := 3) (N := some 92) (v := ?_) (a' := ?_) #[true, false, true, true, false, false, false, false, false, false, false, false, false, false, false] rfl rfl (any_of HT_.out (by kernel_rfl)) (fun _ _ _ h => h) (Or.inl ⟨by rfl, ?_⟩) ?_ ?_
                            rotate_left
                            · intro w'
                              go_simp
                              with_reducible rfl
                            rotate_left
                            · simp only [Act.put, List.setIfInBounds_toArray, List.set_cons_zero, List.set_cons_succ, i64_w, i32_w]
                              rfl
                            refine pure_ (i := 5) (N := some 94) (v := ?_) (a' := ?_) #[true, false, true, true, false, true, false, false, false, false, false, false, false, false, false] rfl rfl (any_of HT_.out (by kernel_rfl)) (fun _ _ _ h => h) (Or.inl ⟨by rfl, ?_⟩) ?_ ?_
                            rotate_left
                            · intro w'
                              go_simp
                              with_reducible rfl
                            rotate_left
                            · simp only [Act.put, List.setIfInBounds_toArray, List.set_cons_zero, List.set_cons_succ, i64_w, i32_w]
                              rfl
                            refine pure_ (i := 10) (N := some 99) (v := ?_) (a' := ?_) #[true, false, true, true, false, true, false, false, false, false, true, false, false, false, false] rfl rfl (any_of HT_.out (by kernel_rfl)) (fun _ _ _ h => h) (Or.inl ⟨by rfl, ?_⟩) ?_ ?_
                            rotate_left
                            · intro w'
                              go_simp
                              with_reducible rfl
                            rotate_left
                            · simp only [Act.put, List.setIfInBounds_toArray, List.set_cons_zero, List.set_cons_succ, i64_w, i32_w]
                              rfl
                            refine pure_ (i := 11) (N := some 100) (v := ?_) (a' := ?_) #[true, false, true, true, false, true, false, false, false, false, true, true, false, false, false] rfl rfl (any_of HT_.out (by kernel_rfl)) (fun _ _ _ h => h) (Or.inl ⟨by rfl, ?_⟩) ?_ ?_
                            rotate_left
                            · intro w'
                              go_simp
                              with_reducible rfl
                            rotate_left
                            · simp only [Act.put, List.setIfInBounds_toArray, List.set_cons_zero, List.set_cons_succ, i64_w, i32_w]
                              rfl
                            refine take_ (i := 1) (N := some 90) (v := ?_) (a' := ?_) #[true, true, true, true, false, true, false, false, false, false, true, true, false, false, false] rfl rfl (take_ofW HT_.out HW_.out (by kernel_rfl)) (fun _ _ _ h => h) (Or.inl ⟨by rfl, ?_⟩) hHeld ?_ ?_
                            rotate_left
                            · rintro w' ⟨s0, s1, s2, s3, s4⟩
                              go_simp
                              with_reducible rfl
                            rotate_left
                            · simp only [Act.put, List.setIfInBounds_toArray, List.set_cons_zero, List.set_cons_succ, i64_w, i32_w]
                              rfl
                            refine take_ (i := 6) (N := some 95) (v := ?_) (a' := ?_) #[true, true, true, true, false, true, true, false, false, false, true, true, false, false, false] rfl rfl (take_ofW HT_.out HW_.out (by kernel_rfl)) (fun _ _ _ h => h) (Or.inl ⟨by rfl, ?_⟩) hHeld ?_ ?_
                            rotate_left
                            · rintro w' ⟨s0, s1, s2, s3, s4⟩
                              go_simp
                              with_reducible rfl
                            rotate_left
                            · simp only [Act.put, List.setIfInBounds_toArray, List.set_cons_zero, List.set_cons_succ, i64_w, i32_w]
                              rfl
                            refine pure_ (i := 7) (N := some 96) (v := ?_) (a' := ?_) #[true, true, true, true, false, true, true, true, false, false, true, true, false, false, false] rfl rfl (any_of HT_.out (by kernel_rfl)) (fun _ _ _ h => h) (Or.inl ⟨by rfl, ?_⟩) ?_ ?_
                            rotate_left
                            · intro w'
                              go_simp
                              with_reducible rfl
                            rotate_left
                            · simp only [Act.put, List.setIfInBounds_toArray, List.set_cons_zero, List.set_cons_succ, i64_w, i32_w]
                              rfl
                            refine pure_ (i := 8) (N := some 97) (v := ?_) (a' := ?_) #[true, true, true, true, false, true, true, true, true, false, true, true, false, false, false] rfl rfl (any_of HT_.out (by kernel_rfl)) (fun _ _ _ h => h) (Or.inl ⟨by rfl, ?_⟩) ?_ ?_
                            rotate_left
                            · intro w'
                              go_simp
                              with_reducible rfl
                            rotate_left
                            · simp only [Act.put, List.setIfInBounds_toArray, List.set_cons_zero, List.set_cons_succ, i64_w, i32_w]
                              rfl
                            refine pure_ (i := 9) (N := some 98) (v := ?_) (a' := ?_) #[true, true, true, true, false, true, true, true, true, true, true, true, false, false, false] rfl rfl (any_of HT_.out (by kernel_rfl)) (fun _ _ _ h => h) (Or.inl ⟨by rfl, ?_⟩) ?_ ?_
                            rotate_left
                            · intro w'
                              go_simp
                              with_reducible rfl
                            rotate_left
                            · simp only [Act.put, List.setIfInBounds_toArray, List.set_cons_zero, List.set_cons_succ, i64_w, i32_w]
                              rfl
                            refine pure_ (i := 12) (N := some 101) (v := ?_) (a' := ?_) #[true, true, true, true, false, true, true, true, true, true, true, true, true, false, false] rfl rfl (any_of HT_.out (by kernel_rfl)) (fun _ _ _ h => h) (Or.inl ⟨by rfl, ?_⟩) ?_ ?_
                            rotate_left
                            · intro w'
                              go_simp
                              with_reducible rfl
                            rotate_left
                            · simp only [Act.put, List.setIfInBounds_toArray, List.set_cons_zero, List.set_cons_succ, i64_w, i32_w]
                              rfl
                            refine one_ (i := 4) (N := some 93) #[true, true, true, true, true, true, true, true, true, true, true, true, true, false, false] rfl rfl (one_of HT_.out (by kernel_rfl)) (by decide) (fun K hK => ?_)
                            refine goes_ Tryd.func24 (by kernel_rfl) rfl #[.slice (some ad368) l0_0.length c0_0, .int .i64 ji52] (by rfl) rfl rfl (by (try simp only [List.map_toArray, List.map_cons, List.map_nil]); first | done | (simp only [hji52]; rfl) | rfl | (go_simp; rw [wrap_pow_min]; exact (i64_w _).symm.trans hji52u) | (simp only [List.length_drop, List.length_take]; rfl)) ?_
                            with_reducible refine (group_Against.calls _ _ l0_0 ji52 t369 _ ?side1 ?side2 ?side3 A53.out).mono ?_
                            (case side1 => repeat (first | exact (Kd.C_below HR0_0.out HB.out) | (with_reducible refine Kd.C_alloc ?_ _) | (with_reducible refine Kd.C_drewN ?_ _) | (with_reducible refine Kd.C_drew ?_)))
                            (case side2 => exact HC0_0.out)
                            (case side3 => first | (with_reducible exact HG.out) | (refine GlobOk.below HG.out ?_; repeat (first | (with_reducible first | exact HB.out | apply below_alloc | apply pw_below_drewN | apply below_drew1 | refine below_set ?_ GE363.out) | exact HB.out)))
                            rintro e w103 ⟨rfl, hb⟩
                            refine ⟨_, rfl, ?_⟩
                            have n0_ := Aside0.mk (blk_below (g := gb363) (o := .cells #[.slice (some ad368) l0_0.length c0_0, .slice (some ad367) l0_1.length c0_1, .int .i64 a0_2, .int .i64 a0_3, .int .i64 a0_4] 37 (0, 0)) (by (with_reducible repeat (first | refine blk_drewN ?_ _ | refine blk_drew ?_ | refine blk_alloc ?_ _)); exact BK363.out) hb)
                            have n1_ := Aside0.mk (below_step (by repeat (first | (with_reducible first | exact HB.out | apply below_alloc | apply pw_below_drewN | apply below_drew1 | refine below_set ?_ GE363.out) | exact HB.out)) hb)
                            clear BK363
                            clear HB
                            have BK363 := n0_
                            have HB := n1_
                            clear n0_ n1_
                            (try clear hb)
                            (try clear hb2)
                            (try clear hk)
                            (try clear hi)
                            refine hK.out _ _ ⟨(blk_cell BK363.out 0).trans rfl, (blk_cell BK363.out 1).trans rfl, (blk_cell BK363.out 2).trans rfl, (blk_cell BK363.out 3).trans rfl, (blk_cell BK363.out 4).trans rfl⟩ (fun hHeld => ?_)
                            clear hK K
                            refine norm_ (a' := ?_) ?_ ?_
                            rotate_left
                            · show Act.put _ (some 93) _ = _
                              simp only [Act.put, List.setIfInBounds_toArray, List.set_cons_zero, List.set_cons_succ, i64_w, i32_w]
                              rfl
                            refine pure_ (i := 13) (N := some 102) (v := ?_) (a' := ?_) #[true, true, true, true, true, true, true, true, true, true, true, true, true, true, false] rfl rfl (any_of HT_.out (by kernel_rfl)) (fun _ _ _ h => h) (Or.inl ⟨by rfl, ?_⟩) ?_ ?_
                            rotate_left
                            · intro w'
                              go_simp
                              with_reducible rfl
                            rotate_left
                            · simp only [Act.put, List.setIfInBounds_toArray, List.set_cons_zero, List.set_cons_succ, i64_w, i32_w]
                              rfl
                            refine pure_ (i := 14) (N := some 15) (v := ?_) (a' := ?_) #[true, true, true, true, true, true, true, true, true, true, true, true, true, true, true] rfl rfl (any_of HT_.out (by kernel_rfl)) (fun _ _ _ h => h) (Or.inl ⟨by rfl, ?_⟩) ?_ ?_
                            rotate_left
                            · intro w'
                              go_simp
                              with_reducible rfl
                            rotate_left
                            · simp only [Act.put, List.setIfInBounds_toArray, List.set_cons_zero, List.set_cons_succ, i64_w, i32_w]
                              rfl
                            refine done_ (done_of HT_.out (by kernel_rfl)) ?_
                            have hcz104_0 : w103.cell? ⟨gb363, 0, none⟩ = some (.slice (some ad368) l0_0.length c0_0) := (blk_cell BK363.out 0).trans rfl
                            have hcz104_1 : w103.cell? ⟨gb363, 1, none⟩ = some (.slice (some ad367) l0_1.length c0_1) := (blk_cell BK363.out 1).trans rfl
                            have hcz104_2 : w103.cell? ⟨gb363, 2, none⟩ = some (.int .i64 a0_2) := (blk_cell BK363.out 2).trans rfl
                            have hcz104_3 : w103.cell? ⟨gb363, 3, none⟩ = some (.int .i64 a0_3) := (blk_cell BK363.out 3).trans rfl
                            have hcz104_4 : w103.cell? ⟨gb363, 4, none⟩ = some (.int .i64 a0_4) := (blk_cell BK363.out 4).trans rfl
                            have hfz104_0 := blk_frozen BK363.out 0
                            have hfz104_1 := blk_frozen BK363.out 1
                            have hfz104_2 := blk_frozen BK363.out 2
                            have hfz104_3 := blk_frozen BK363.out 3
                            have hfz104_4 := blk_frozen BK363.out 4
                            try go_wp2_with (first | (go_at_call 23; (with_reducible refine (group_Free.calls _ _ l0_0 ((rd_T47 l0_1 a1).f0) true _ ?side1 ?side2 ?side3 A58.out).mono ?_); (case side1 => repeat (first | exact (Kd.C_below HR0_0.out HB.out) | (with_reducible refine Kd.C_alloc ?_ _) | (with_reducible refine Kd.C_drewN ?_ _) | (with_reducible refine Kd.C_drew ?_))); (case side2 => exact HC0_0.out); (case side3 => first | (with_reducible exact HG.out) | (refine GlobOk.below HG.out ?_; repeat (first | (with_reducible first | exact HB.out | apply below_alloc | apply pw_below_drewN | apply below_drew1 | refine below_set ?_ GE363.out) | exact HB.out))); rintro e w105 ⟨rfl, hb⟩; have n0_ := Aside0.mk (blk_below (g := gb363) (o := .cells #[.slice (some ad368) l0_0.length c0_0, .slice (some ad367) l0_1.length c0_1, .int .i64 a0_2, .int .i64 a0_3, .int .i64 a0_4] 37 (0, 0)) (by (with_reducible repeat (first | refine blk_drewN ?_ _ | refine blk_drew ?_ | refine blk_alloc ?_ _)); exact BK363.out) hb); have n1_ := Aside0.mk (below_step (by repeat (first | (with_reducible first | exact HB.out | apply below_alloc | apply pw_below_drewN | apply below_drew1 | refine below_set ?_ GE363.out) | exact HB.out)) hb); clear BK363; clear HB; have BK363 := n0_; have HB := n1_; clear n0_ n1_; (try clear hb); (try clear hb2); (try clear hk); (try clear hi)))
                            go_ret
                            exact ⟨by first | rfl | (simp [errW_none, errW_some] <;> rfl) | (simp only [← hji46, ← hji48, ← hji50, ← hji52, ← hji54]; first | rfl | (simp [errW_none, errW_some] <;> rfl)) | (simp [*, errW_none, errW_some] <;> rfl), by repeat (first | (with_reducible first | exact HB.out | apply below_alloc | apply pw_below_drewN | apply below_drew1 | refine below_set ?_ GE363.out) | exact HB.out)⟩
                      · rw [if_neg c60] at H
                        have c60b0 : ((Go.bits .and .i64 (ji46) 1) == 1) = false := beq_eq_false_iff_ne.mpr c60
                        have c60b1 : ((Go.bits .and .i64 (ji46) 1) != 1) = true := bne_iff_ne.mpr c60
                        by_cases c106 : (t369 = (wrap64 ((wrap64 ((ji54) - 1)) - (ji52))))
                        · rw [if_pos c106] at H
                          have c106b0 : (t369 == (wrap64 ((wrap64 ((ji54) - 1)) - (ji52)))) = true := beq_iff_eq.mpr c106
                          have c106b1 : (t369 != (wrap64 ((wrap64 ((ji54) - 1)) - (ji52)))) = false := bne_eq_false_iff_eq.mpr c106
                          clear c106
                          by_cases c107 : ((Go.bits .and .i64 (ji48) 1) = 1)
                          · rw [if_pos c107] at H
                            have c107b0 : ((Go.bits .and .i64 (ji48) 1) == 1) = true := beq_iff_eq.mpr c107
                            have c107b1 : ((Go.bits .and .i64 (ji48) 1) != 1) = false := bne_eq_false_iff_eq.mpr c107
                            clear c107
                            have c108b0 := eq_true (of_decide_eq_true (by first | (with_reducible assumption) | assumption) : 0 ≤ a2)
                            obtain rfl := Option.some.inj H
                            have hcz110_0 : wc.cell? ⟨gb363, 0, none⟩ = some (.slice A0_0 l0_0.length c0_0) := (blk_cell BK363.out 0).trans rfl
                            have hcz110_1 : wc.cell? ⟨gb363, 1, none⟩ = some (.slice A0_1 l0_1.length c0_1) := (blk_cell BK363.out 1).trans rfl
                            have hcz110_2 : wc.cell? ⟨gb363, 2, none⟩ = some (.int .i64 a0_2) := (blk_cell BK363.out 2).trans rfl
                            have hcz110_3 : wc.cell? ⟨gb363, 3, none⟩ = some (.int .i64 a0_3) := (blk_cell BK363.out 3).trans rfl
                            have hcz110_4 : wc.cell? ⟨gb363, 4, none⟩ = some (.int .i64 a0_4) := (blk_cell BK363.out 4).trans rfl
                            have hfz110_0 := blk_frozen BK363.out 0
                            have hfz110_1 := blk_frozen BK363.out 1
                            have hfz110_2 := blk_frozen BK363.out 2
                            have hfz110_3 := blk_frozen BK363.out 3
                            have hfz110_4 := blk_frozen BK363.out 4
                            have p367 : 0 ≤ (a1 : Int) := of_decide_eq_true (by first | (with_reducible assumption) | assumption)
                            have q367 : a1 < (l0_1.length : Int) := of_decide_eq_true (by first | (with_reducible assumption) | assumption)
                            obtain ⟨ad367, e367, hx367_0, hx367_1, hx367_2⟩ := at_T47 HR0_1.out a1 p367 q367
                            cases e367
                            replace hx367_0 := (HB.out.cell (World.block_lt_of_cell? w _ hx367_0)).trans hx367_0
                            replace hx367_1 := (HB.out.cell (World.block_lt_of_cell? w _ hx367_1)).trans hx367_1
                            replace hx367_2 := (HB.out.cell (World.block_lt_of_cell? w _ hx367_2)).trans hx367_2
                            replace p367 := eq_true p367
                            replace q367 := eq_true q367
                            have p368 : 0 ≤ (a2 : Int) := of_decide_eq_true (by first | (with_reducible assumption) | assumption)
                            have q368 : a2 < (l0_0.length : Int) := of_decide_eq_true (by first | (with_reducible assumption) | assumption)
                            obtain ⟨ad368, e368, hx368_0⟩ := Kd.at_int HR0_0.out a2 p368 q368
                            cases e368
                            replace hx368_0 := (HB.out.cell (World.block_lt_of_cell? w _ hx368_0)).trans hx368_0
                            replace p368 := eq_true p368
                            replace q368 := eq_true q368
                            try go_wp2
                            have n0_ := Aside0.mk (blk_drew BK363.out)
                            have n1_ := Aside0.mk (below_drew1 HB.out)
                            clear BK363
                            clear HB
                            have BK363 := n0_
                            have HB := n1_
                            clear n0_ n1_
                            refine start_ (n := 15) (S := fun w' => w'.cell? ⟨gb363, 0, none⟩ = some (.slice (some ad368) l0_0.length c0_0) ∧ w'.cell? ⟨gb363, 1, none⟩ = some (.slice (some ad367) l0_1.length c0_1) ∧ w'.cell? ⟨gb363, 2, none⟩ = some (.int .i64 a0_2) ∧ w'.cell? ⟨gb363, 3, none⟩ = some (.int .i64 a0_3) ∧ w'.cell? ⟨gb363, 4, none⟩ = some (.int .i64 a0_4)) (ds := []) #[false, false, false, false, false, false, false, false, false, false, false, false, false, false, false] (by kernel_rfl) rfl rfl ⟨(blk_cell BK363.out 0).trans rfl, (blk_cell BK363.out 1).trans rfl, (blk_cell BK363.out 2).trans rfl, (blk_cell BK363.out 3).trans rfl, (blk_cell BK363.out 4).trans rfl⟩ (fun hHeld => ?_); refine with_tabW pelicanlaw14_PlanFree.tab9 pelicanlaw14_PlanFree.bits9 (fun HT_ HW_ => ?_)
                            generalize wc.drew = w111 at BK363 HB hHeld ⊢
                            refine pure_ (i := 0) (N := some 89) (v := ?_) (a' := ?_) #[true, false, false, false, false, false, false, false, false, false, false, false, false, false, false] rfl rfl (any_of HT_.out (by kernel_rfl)) (fun _ _ _ h => h) (Or.inl ⟨by rfl, ?_⟩) ?_ ?_
                            rotate_left
                            · intro w'
                              go_simp
                              with_reducible rfl
                            rotate_left
                            · simp only [Act.put, List.setIfInBounds_toArray, List.set_cons_zero, List.set_cons_succ, i64_w, i32_w]
                              rfl
                            refine pure_ (i := 2) (N := some 91) (v := ?_) (a' := ?_) #[true, false, true, false, false, false, false, false, false, false, false, false, false, false, false] rfl rfl (any_of HT_.out (by kernel_rfl)) (fun _ _ _ h => h) (Or.inl ⟨by rfl, ?_⟩) ?_ ?_
                            rotate_left
                            · intro w'
                              go_simp
                              with_reducible rfl
                            rotate_left
                            · simp only [Act.put, List.setIfInBounds_toArray, List.set_cons_zero, List.set_cons_succ, i64_w, i32_w]
                              rfl
                            refine pure_ (i := 3) (N := some 92) (v := ?_) (a' := ?_) #[true, false, true, true, false, false, false, false, false, false, false, false, false, false, false] rfl rfl (any_of HT_.out (by kernel_rfl)) (fun _ _ _ h => h) (Or.inl ⟨by rfl, ?_⟩) ?_ ?_
                            rotate_left
                            · intro w'
                              go_simp
                              with_reducible rfl
                            rotate_left
                            · simp only [Act.put, List.setIfInBounds_toArray, List.set_cons_zero, List.set_cons_succ, i64_w, i32_w]
                              rfl
                            refine pure_ (i := 5) (N := some 94) (v := ?_) (a' := ?_) #[true, false, true, true, false, true, false, false, false, false, false, false, false, false, false] rfl rfl (any_of HT_.out (by kernel_rfl)) (fun _ _ _ h => h) (Or.inl ⟨by rfl, ?_⟩) ?_ ?_
                            rotate_left
                            · intro w'
                              go_simp
                              with_reducible rfl
                            rotate_left
                            · simp only [Act.put, List.setIfInBounds_toArray, List.set_cons_zero, List.set_cons_succ, i64_w, i32_w]
                              rfl
                            refine pure_ (i := 10) (N := some 99) (v := ?_) (a' := ?_) #[true, false, true, true, false, true, false, false, false, false, true, false, false, false, false] rfl rfl (any_of HT_.out (by kernel_rfl)) (fun _ _ _ h => h) (Or.inl ⟨by rfl, ?_⟩) ?_ ?_
                            rotate_left
                            · intro w'
                              go_simp
                              with_reducible rfl
                            rotate_left
                            · simp only [Act.put, List.setIfInBounds_toArray, List.set_cons_zero, List.set_cons_succ, i64_w, i32_w]
                              rfl
                            refine pure_ (i := 11) (N := some 100) (v := ?_) (a' := ?_) #[true, false, true, true, false, true, false, false, false, false, true, true, false, false, false] rfl rfl (any_of HT_.out (by kernel_rfl)) (fun _ _ _ h => h) (Or.inl ⟨by rfl, ?_⟩) ?_ ?_
                            rotate_left
                            · intro w'
                              go_simp
                              with_reducible rfl
                            rotate_left
                            · simp only [Act.put, List.setIfInBounds_toArray, List.set_cons_zero, List.set_cons_succ, i64_w, i32_w]
                              rfl
                            refine take_ (i := 1) (N := some 90) (v := ?_) (a' := ?_) #[true, true, true, true, false, true, false, false, false, false, true, true, false, false, false] rfl rfl (take_ofW HT_.out HW_.out (by kernel_rfl)) (fun _ _ _ h => h) (Or.inl ⟨by rfl, ?_⟩) hHeld ?_ ?_
                            rotate_left
                            · rintro w' ⟨s0, s1, s2, s3, s4⟩
                              go_simp
                              with_reducible rfl
                            rotate_left
                            · simp only [Act.put, List.setIfInBounds_toArray, List.set_cons_zero, List.set_cons_succ, i64_w, i32_w]
                              rfl
                            refine take_ (i := 6) (N := some 95) (v := ?_) (a' := ?_) #[true, true, true, true, false, true, true, false, false, false, true, true, false, false, false] rfl rfl (take_ofW HT_.out HW_.out (by kernel_rfl)) (fun _ _ _ h => h) (Or.inl ⟨by rfl, ?_⟩) hHeld ?_ ?_
                            rotate_left
                            · rintro w' ⟨s0, s1, s2, s3, s4⟩
                              go_simp
                              with_reducible rfl
                            rotate_left
                            · simp only [Act.put, List.setIfInBounds_toArray, List.set_cons_zero, List.set_cons_succ, i64_w, i32_w]
                              rfl
                            refine pure_ (i := 7) (N := some 96) (v := ?_) (a' := ?_) #[true, true, true, true, false, true, true, true, false, false, true, true, false, false, false] rfl rfl (any_of HT_.out (by kernel_rfl)) (fun _ _ _ h => h) (Or.inl ⟨by rfl, ?_⟩) ?_ ?_
                            rotate_left
                            · intro w'
                              go_simp
                              with_reducible rfl
                            rotate_left
                            · simp only [Act.put, List.setIfInBounds_toArray, List.set_cons_zero, List.set_cons_succ, i64_w, i32_w]
                              rfl
                            refine pure_ (i := 8) (N := some 97) (v := ?_) (a' := ?_) #[true, true, true, true, false, true, true, true, true, false, true, true, false, false, false] rfl rfl (any_of HT_.out (by kernel_rfl)) (fun _ _ _ h => h) (Or.inl ⟨by rfl, ?_⟩) ?_ ?_
                            rotate_left
                            · intro w'
                              go_simp
                              with_reducible rfl
                            rotate_left
                            · simp only [Act.put, List.setIfInBounds_toArray, List.set_cons_zero, List.set_cons_succ, i64_w, i32_w]
                              rfl
                            refine pure_ (i := 9) (N := some 98) (v := ?_) (a' := ?_) #[true, true, true, true, false, true, true, true, true, true, true, true, false, false, false] rfl rfl (any_of HT_.out (by kernel_rfl)) (fun _ _ _ h => h) (Or.inl ⟨by rfl, ?_⟩) ?_ ?_
                            rotate_left
                            · intro w'
                              go_simp
                              with_reducible rfl
                            rotate_left
                            · simp only [Act.put, List.setIfInBounds_toArray, List.set_cons_zero, List.set_cons_succ, i64_w, i32_w]
                              rfl
                            refine pure_ (i := 12) (N := some 101) (v := ?_) (a' := ?_) #[true, true, true, true, false, true, true, true, true, true, true, true, true, false, false] rfl rfl (any_of HT_.out (by kernel_rfl)) (fun _ _ _ h => h) (Or.inl ⟨by rfl, ?_⟩) ?_ ?_
                            rotate_left
                            · intro w'
                              go_simp
                              with_reducible rfl
                            rotate_left
                            · simp only [Act.put, List.setIfInBounds_toArray, List.set_cons_zero, List.set_cons_succ, i64_w, i32_w]
                              rfl
                            refine one_ (i := 4) (N := some 93) #[true, true, true, true, true, true, true, true, true, true, true, true, true, false, false] rfl rfl (one_of HT_.out (by kernel_rfl)) (by decide) (fun K hK => ?_)
                            refine goes_ Tryd.func24 (by kernel_rfl) rfl #[.slice (some ad368) l0_0.length c0_0, .int .i64 ji52] (by rfl) rfl rfl (by (try simp only [List.map_toArray, List.map_cons, List.map_nil]); first | done | (simp only [hji52]; rfl) | rfl | (go_simp; rw [wrap_pow_min]; exact (i64_w _).symm.trans hji52u) | (simp only [List.length_drop, List.length_take]; rfl)) ?_
                            with_reducible refine (group_Against.calls _ _ l0_0 ji52 t369 _ ?side1 ?side2 ?side3 A53.out).mono ?_
                            (case side1 => repeat (first | exact (Kd.C_below HR0_0.out HB.out) | (with_reducible refine Kd.C_alloc ?_ _) | (with_reducible refine Kd.C_drewN ?_ _) | (with_reducible refine Kd.C_drew ?_)))
                            (case side2 => exact HC0_0.out)
                            (case side3 => first | (with_reducible exact HG.out) | (refine GlobOk.below HG.out ?_; repeat (first | (with_reducible first | exact HB.out | apply below_alloc | apply pw_below_drewN | apply below_drew1 | refine below_set ?_ GE363.out) | exact HB.out)))
                            rintro e w112 ⟨rfl, hb⟩
                            refine ⟨_, rfl, ?_⟩
                            have n0_ := Aside0.mk (blk_below (g := gb363) (o := .cells #[.slice (some ad368) l0_0.length c0_0, .slice (some ad367) l0_1.length c0_1, .int .i64 a0_2, .int .i64 a0_3, .int .i64 a0_4] 37 (0, 0)) (by (with_reducible repeat (first | refine blk_drewN ?_ _ | refine blk_drew ?_ | refine blk_alloc ?_ _)); exact BK363.out) hb)
                            have n1_ := Aside0.mk (below_step (by repeat (first | (with_reducible first | exact HB.out | apply below_alloc | apply pw_below_drewN | apply below_drew1 | refine below_set ?_ GE363.out) | exact HB.out)) hb)
                            clear BK363
                            clear HB
                            have BK363 := n0_
                            have HB := n1_
                            clear n0_ n1_
                            (try clear hb)
                            (try clear hb2)
                            (try clear hk)
                            (try clear hi)
                            refine hK.out _ _ ⟨(blk_cell BK363.out 0).trans rfl, (blk_cell BK363.out 1).trans rfl, (blk_cell BK363.out 2).trans rfl, (blk_cell BK363.out 3).trans rfl, (blk_cell BK363.out 4).trans rfl⟩ (fun hHeld => ?_)
                            clear hK K
                            refine norm_ (a' := ?_) ?_ ?_
                            rotate_left
                            · show Act.put _ (some 93) _ = _
                              simp only [Act.put, List.setIfInBounds_toArray, List.set_cons_zero, List.set_cons_succ, i64_w, i32_w]
                              rfl
                            refine pure_ (i := 13) (N := some 102) (v := ?_) (a' := ?_) #[true, true, true, true, true, true, true, true, true, true, true, true, true, true, false] rfl rfl (any_of HT_.out (by kernel_rfl)) (fun _ _ _ h => h) (Or.inl ⟨by rfl, ?_⟩) ?_ ?_
                            rotate_left
                            · intro w'
                              go_simp
                              with_reducible rfl
                            rotate_left
                            · simp only [Act.put, List.setIfInBounds_toArray, List.set_cons_zero, List.set_cons_succ, i64_w, i32_w]
                              rfl
                            refine pure_ (i := 14) (N := some 15) (v := ?_) (a' := ?_) #[true, true, true, true, true, true, true, true, true, true, true, true, true, true, true] rfl rfl (any_of HT_.out (by kernel_rfl)) (fun _ _ _ h => h) (Or.inl ⟨by rfl, ?_⟩) ?_ ?_
                            rotate_left
                            · intro w'
                              go_simp
                              with_reducible rfl
                            rotate_left
                            · simp only [Act.put, List.setIfInBounds_toArray, List.set_cons_zero, List.set_cons_succ, i64_w, i32_w]
                              rfl
                            refine done_ (done_of HT_.out (by kernel_rfl)) ?_
                            have hcz113_0 : w112.cell? ⟨gb363, 0, none⟩ = some (.slice (some ad368) l0_0.length c0_0) := (blk_cell BK363.out 0).trans rfl
                            have hcz113_1 : w112.cell? ⟨gb363, 1, none⟩ = some (.slice (some ad367) l0_1.length c0_1) := (blk_cell BK363.out 1).trans rfl
                            have hcz113_2 : w112.cell? ⟨gb363, 2, none⟩ = some (.int .i64 a0_2) := (blk_cell BK363.out 2).trans rfl
                            have hcz113_3 : w112.cell? ⟨gb363, 3, none⟩ = some (.int .i64 a0_3) := (blk_cell BK363.out 3).trans rfl
                            have hcz113_4 : w112.cell? ⟨gb363, 4, none⟩ = some (.int .i64 a0_4) := (blk_cell BK363.out 4).trans rfl
                            have hfz113_0 := blk_frozen BK363.out 0
                            have hfz113_1 := blk_frozen BK363.out 1
                            have hfz113_2 := blk_frozen BK363.out 2
                            have hfz113_3 := blk_frozen BK363.out 3
                            have hfz113_4 := blk_frozen BK363.out 4
                            try go_wp2_with (first | (go_at_call 23; (with_reducible refine (group_Free.calls _ _ l0_0 ((rd_T47 l0_1 a1).f0) true _ ?side1 ?side2 ?side3 A58.out).mono ?_); (case side1 => repeat (first | exact (Kd.C_below HR0_0.out HB.out) | (with_reducible refine Kd.C_alloc ?_ _) | (with_reducible refine Kd.C_drewN ?_ _) | (with_reducible refine Kd.C_drew ?_))); (case side2 => exact HC0_0.out); (case side3 => first | (with_reducible exact HG.out) | (refine GlobOk.below HG.out ?_; repeat (first | (with_reducible first | exact HB.out | apply below_alloc | apply pw_below_drewN | apply below_drew1 | refine below_set ?_ GE363.out) | exact HB.out))); rintro e w114 ⟨rfl, hb⟩; have n0_ := Aside0.mk (blk_below (g := gb363) (o := .cells #[.slice (some ad368) l0_0.length c0_0, .slice (some ad367) l0_1.length c0_1, .int .i64 a0_2, .int .i64 a0_3, .int .i64 a0_4] 37 (0, 0)) (by (with_reducible repeat (first | refine blk_drewN ?_ _ | refine blk_drew ?_ | refine blk_alloc ?_ _)); exact BK363.out) hb); have n1_ := Aside0.mk (below_step (by repeat (first | (with_reducible first | exact HB.out | apply below_alloc | apply pw_below_drewN | apply below_drew1 | refine below_set ?_ GE363.out) | exact HB.out)) hb); clear BK363; clear HB; have BK363 := n0_; have HB := n1_; clear n0_ n1_; (try clear hb); (try clear hb2); (try clear hk); (try clear hi)))
                            go_ret
                            exact ⟨by first | rfl | (simp [errW_none, errW_some] <;> rfl) | (simp only [← hji46, ← hji48, ← hji50, ← hji52, ← hji54]; first | rfl | (simp [errW_none, errW_some] <;> rfl)) | (simp [*, errW_none, errW_some] <;> rfl), by repeat (first | (with_reducible first | exact HB.out | apply below_alloc | apply pw_below_drewN | apply below_drew1 | refine below_set ?_ GE363.out) | exact HB.out)⟩
                          · rw [if_neg c107] at H
                            have c107b0 : ((Go.bits .and .i64 (ji48) 1) == 1) = false := beq_eq_false_iff_ne.mpr c107
                            have c107b1 : ((Go.bits .and .i64 (ji48) 1) != 1) = true := bne_iff_ne.mpr c107
                            obtain rfl := Option.some.inj H
                            have hcz115_0 : wc.cell? ⟨gb363, 0, none⟩ = some (.slice A0_0 l0_0.length c0_0) := (blk_cell BK363.out 0).trans rfl
                            have hcz115_1 : wc.cell? ⟨gb363, 1, none⟩ = some (.slice A0_1 l0_1.length c0_1) := (blk_cell BK363.out 1).trans rfl
                            have hcz115_2 : wc.cell? ⟨gb363, 2, none⟩ = some (.int .i64 a0_2) := (blk_cell BK363.out 2).trans rfl
                            have hcz115_3 : wc.cell? ⟨gb363, 3, none⟩ = some (.int .i64 a0_3) := (blk_cell BK363.out 3).trans rfl
                            have hcz115_4 : wc.cell? ⟨gb363, 4, none⟩ = some (.int .i64 a0_4) := (blk_cell BK363.out 4).trans rfl
                            have hfz115_0 := blk_frozen BK363.out 0
                            have hfz115_1 := blk_frozen BK363.out 1
                            have hfz115_2 := blk_frozen BK363.out 2
                            have hfz115_3 := blk_frozen BK363.out 3
                            have hfz115_4 := blk_frozen BK363.out 4
                            have p367 : 0 ≤ (a1 : Int) := of_decide_eq_true (by first | (with_reducible assumption) | assumption)
                            have q367 : a1 < (l0_1.length : Int) := of_decide_eq_true (by first | (with_reducible assumption) | assumption)
                            obtain ⟨ad367, e367, hx367_0, hx367_1, hx367_2⟩ := at_T47 HR0_1.out a1 p367 q367
                            cases e367
                            replace hx367_0 := (HB.out.cell (World.block_lt_of_cell? w _ hx367_0)).trans hx367_0
                            replace hx367_1 := (HB.out.cell (World.block_lt_of_cell? w _ hx367_1)).trans hx367_1
                            replace hx367_2 := (HB.out.cell (World.block_lt_of_cell? w _ hx367_2)).trans hx367_2
                            replace p367 := eq_true p367
                            replace q367 := eq_true q367
                            have p368 : 0 ≤ (a2 : Int) := of_decide_eq_true (by first | (with_reducible assumption) | assumption)
                            have q368 : a2 < (l0_0.length : Int) := of_decide_eq_true (by first | (with_reducible assumption) | assumption)
                            obtain ⟨ad368, e368, hx368_0⟩ := Kd.at_int HR0_0.out a2 p368 q368
                            cases e368
                            replace hx368_0 := (HB.out.cell (World.block_lt_of_cell? w _ hx368_0)).trans hx368_0
                            replace p368 := eq_true p368
                            replace q368 := eq_true q368
                            try go_wp2
                            have n0_ := Aside0.mk (blk_drew BK363.out)
                            have n1_ := Aside0.mk (below_drew1 HB.out)
                            clear BK363
                            clear HB
                            have BK363 := n0_
                            have HB := n1_
                            clear n0_ n1_
                            refine start_ (n := 15) (S := fun w' => w'.cell? ⟨gb363, 0, none⟩ = some (.slice (some ad368) l0_0.length c0_0) ∧ w'.cell? ⟨gb363, 1, none⟩ = some (.slice (some ad367) l0_1.length c0_1) ∧ w'.cell? ⟨gb363, 2, none⟩ = some (.int .i64 a0_2) ∧ w'.cell? ⟨gb363, 3, none⟩ = some (.int .i64 a0_3) ∧ w'.cell? ⟨gb363, 4, none⟩ = some (.int .i64 a0_4)) (ds := []) #[false, false, false, false, false, false, false, false, false, false, false, false, false, false, false] (by kernel_rfl) rfl rfl ⟨(blk_cell BK363.out 0).trans rfl, (blk_cell BK363.out 1).trans rfl, (blk_cell BK363.out 2).trans rfl, (blk_cell BK363.out 3).trans rfl, (blk_cell BK363.out 4).trans rfl⟩ (fun hHeld => ?_); refine with_tabW pelicanlaw14_PlanFree.tab9 pelicanlaw14_PlanFree.bits9 (fun HT_ HW_ => ?_)
                            generalize wc.drew = w116 at BK363 HB hHeld ⊢
                            refine pure_ (i := 0) (N := some 89) (v := ?_) (a' := ?_) #[true, false, false, false, false, false, false, false, false, false, false, false, false, false, false] rfl rfl (any_of HT_.out (by kernel_rfl)) (fun _ _ _ h => h) (Or.inl ⟨by rfl, ?_⟩) ?_ ?_
                            rotate_left
                            · intro w'
                              go_simp
                              with_reducible rfl
                            rotate_left
                            · simp only [Act.put, List.setIfInBounds_toArray, List.set_cons_zero, List.set_cons_succ, i64_w, i32_w]
                              rfl
                            refine pure_ (i := 2) (N := some 91) (v := ?_) (a' := ?_) #[true, false, true, false, false, false, false, false, false, false, false, false, false, false, false] rfl rfl (any_of HT_.out (by kernel_rfl)) (fun _ _ _ h => h) (Or.inl ⟨by rfl, ?_⟩) ?_ ?_
                            rotate_left
                            · intro w'
                              go_simp
                              with_reducible rfl
                            rotate_left
                            · simp only [Act.put, List.setIfInBounds_toArray, List.set_cons_zero, List.set_cons_succ, i64_w, i32_w]
                              rfl
                            refine pure_ (i := 3) (N := some 92) (v := ?_) (a' := ?_) #[true, false, true, true, false, false, false, false, false, false, false, false, false, false, false] rfl rfl (any_of HT_.out (by kernel_rfl)) (fun _ _ _ h => h) (Or.inl ⟨by rfl, ?_⟩) ?_ ?_
                            rotate_left
                            · intro w'
                              go_simp
                              with_reducible rfl
                            rotate_left
                            · simp only [Act.put, List.setIfInBounds_toArray, List.set_cons_zero, List.set_cons_succ, i64_w, i32_w]
                              rfl
                            refine pure_ (i := 5) (N := some 94) (v := ?_) (a' := ?_) #[true, false, true, true, false, true, false, false, false, false, false, false, false, false, false] rfl rfl (any_of HT_.out (by kernel_rfl)) (fun _ _ _ h => h) (Or.inl ⟨by rfl, ?_⟩) ?_ ?_
                            rotate_left
                            · intro w'
                              go_simp
                              with_reducible rfl
                            rotate_left
                            · simp only [Act.put, List.setIfInBounds_toArray, List.set_cons_zero, List.set_cons_succ, i64_w, i32_w]
                              rfl
                            refine pure_ (i := 10) (N := some 99) (v := ?_) (a' := ?_) #[true, false, true, true, false, true, false, false, false, false, true, false, false, false, false] rfl rfl (any_of HT_.out (by kernel_rfl)) (fun _ _ _ h => h) (Or.inl ⟨by rfl, ?_⟩) ?_ ?_
                            rotate_left
                            · intro w'
                              go_simp
                              with_reducible rfl
                            rotate_left
                            · simp only [Act.put, List.setIfInBounds_toArray, List.set_cons_zero, List.set_cons_succ, i64_w, i32_w]
                              rfl
                            refine pure_ (i := 11) (N := some 100) (v := ?_) (a' := ?_) #[true, false, true, true, false, true, false, false, false, false, true, true, false, false, false] rfl rfl (any_of HT_.out (by kernel_rfl)) (fun _ _ _ h => h) (Or.inl ⟨by rfl, ?_⟩) ?_ ?_
                            rotate_left
                            · intro w'
                              go_simp
                              with_reducible rfl
                            rotate_left
                            · simp only [Act.put, List.setIfInBounds_toArray, List.set_cons_zero, List.set_cons_succ, i64_w, i32_w]
                              rfl
                            refine take_ (i := 1) (N := some 90) (v := ?_) (a' := ?_) #[true, true, true, true, false, true, false, false, false, false, true, true, false, false, false] rfl rfl (take_ofW HT_.out HW_.out (by kernel_rfl)) (fun _ _ _ h => h) (Or.inl ⟨by rfl, ?_⟩) hHeld ?_ ?_
                            rotate_left
                            · rintro w' ⟨s0, s1, s2, s3, s4⟩
                              go_simp
                              with_reducible rfl
                            rotate_left
                            · simp only [Act.put, List.setIfInBounds_toArray, List.set_cons_zero, List.set_cons_succ, i64_w, i32_w]
                              rfl
                            refine take_ (i := 6) (N := some 95) (v := ?_) (a' := ?_) #[true, true, true, true, false, true, true, false, false, false, true, true, false, false, false] rfl rfl (take_ofW HT_.out HW_.out (by kernel_rfl)) (fun _ _ _ h => h) (Or.inl ⟨by rfl, ?_⟩) hHeld ?_ ?_
                            rotate_left
                            · rintro w' ⟨s0, s1, s2, s3, s4⟩
                              go_simp
                              with_reducible rfl
                            rotate_left
                            · simp only [Act.put, List.setIfInBounds_toArray, List.set_cons_zero, List.set_cons_succ, i64_w, i32_w]
                              rfl
                            refine pure_ (i := 7) (N := some 96) (v := ?_) (a' := ?_) #[true, true, true, true, false, true, true, true, false, false, true, true, false, false, false] rfl rfl (any_of HT_.out (by kernel_rfl)) (fun _ _ _ h => h) (Or.inl ⟨by rfl, ?_⟩) ?_ ?_
                            rotate_left
                            · intro w'
                              go_simp
                              with_reducible rfl
                            rotate_left
                            · simp only [Act.put, List.setIfInBounds_toArray, List.set_cons_zero, List.set_cons_succ, i64_w, i32_w]
                              rfl
                            refine pure_ (i := 8) (N := some 97) (v := ?_) (a' := ?_) #[true, true, true, true, false, true, true, true, true, false, true, true, false, false, false] rfl rfl (any_of HT_.out (by kernel_rfl)) (fun _ _ _ h => h) (Or.inl ⟨by rfl, ?_⟩) ?_ ?_
                            rotate_left
                            · intro w'
                              go_simp
                              with_reducible rfl
                            rotate_left
                            · simp only [Act.put, List.setIfInBounds_toArray, List.set_cons_zero, List.set_cons_succ, i64_w, i32_w]
                              rfl
                            refine pure_ (i := 9) (N := some 98) (v := ?_) (a' := ?_) #[true, true, true, true, false, true, true, true, true, true, true, true, false, false, false] rfl rfl (any_of HT_.out (by kernel_rfl)) (fun _ _ _ h => h) (Or.inl ⟨by rfl, ?_⟩) ?_ ?_
                            rotate_left
                            · intro w'
                              go_simp
                              with_reducible rfl
                            rotate_left
                            · simp only [Act.put, List.setIfInBounds_toArray, List.set_cons_zero, List.set_cons_succ, i64_w, i32_w]
                              rfl
                            refine pure_ (i := 12) (N := some 101) (v := ?_) (a' := ?_) #[true, true, true, true, false, true, true, true, true, true, true, true, true, false, false] rfl rfl (any_of HT_.out (by kernel_rfl)) (fun _ _ _ h => h) (Or.inl ⟨by rfl, ?_⟩) ?_ ?_
                            rotate_left
                            · intro w'
                              go_simp
                              with_reducible rfl
                            rotate_left
                            · simp only [Act.put, List.setIfInBounds_toArray, List.set_cons_zero, List.set_cons_succ, i64_w, i32_w]
                              rfl
                            refine one_ (i := 4) (N := some 93) #[true, true, true, true, true, true, true, true, true, true, true, true, true, false, false] rfl rfl (one_of HT_.out (by kernel_rfl)) (by decide) (fun K hK => ?_)
                            refine goes_ Tryd.func24 (by kernel_rfl) rfl #[.slice (some ad368) l0_0.length c0_0, .int .i64 ji52] (by rfl) rfl rfl (by (try simp only [List.map_toArray, List.map_cons, List.map_nil]); first | done | (simp only [hji52]; rfl) | rfl | (go_simp; rw [wrap_pow_min]; exact (i64_w _).symm.trans hji52u) | (simp only [List.length_drop, List.length_take]; rfl)) ?_
                            with_reducible refine (group_Against.calls _ _ l0_0 ji52 t369 _ ?side1 ?side2 ?side3 A53.out).mono ?_
                            (case side1 => repeat (first | exact (Kd.C_below HR0_0.out HB.out) | (with_reducible refine Kd.C_alloc ?_ _) | (with_reducible refine Kd.C_drewN ?_ _) | (with_reducible refine Kd.C_drew ?_)))
                            (case side2 => exact HC0_0.out)
                            (case side3 => first | (with_reducible exact HG.out) | (refine GlobOk.below HG.out ?_; repeat (first | (with_reducible first | exact HB.out | apply below_alloc | apply pw_below_drewN | apply below_drew1 | refine below_set ?_ GE363.out) | exact HB.out)))
                            rintro e w117 ⟨rfl, hb⟩
                            refine ⟨_, rfl, ?_⟩
                            have n0_ := Aside0.mk (blk_below (g := gb363) (o := .cells #[.slice (some ad368) l0_0.length c0_0, .slice (some ad367) l0_1.length c0_1, .int .i64 a0_2, .int .i64 a0_3, .int .i64 a0_4] 37 (0, 0)) (by (with_reducible repeat (first | refine blk_drewN ?_ _ | refine blk_drew ?_ | refine blk_alloc ?_ _)); exact BK363.out) hb)
                            have n1_ := Aside0.mk (below_step (by repeat (first | (with_reducible first | exact HB.out | apply below_alloc | apply pw_below_drewN | apply below_drew1 | refine below_set ?_ GE363.out) | exact HB.out)) hb)
                            clear BK363
                            clear HB
                            have BK363 := n0_
                            have HB := n1_
                            clear n0_ n1_
                            (try clear hb)
                            (try clear hb2)
                            (try clear hk)
                            (try clear hi)
                            refine hK.out _ _ ⟨(blk_cell BK363.out 0).trans rfl, (blk_cell BK363.out 1).trans rfl, (blk_cell BK363.out 2).trans rfl, (blk_cell BK363.out 3).trans rfl, (blk_cell BK363.out 4).trans rfl⟩ (fun hHeld => ?_)
                            clear hK K
                            refine norm_ (a' := ?_) ?_ ?_
                            rotate_left
                            · show Act.put _ (some 93) _ = _
                              simp only [Act.put, List.setIfInBounds_toArray, List.set_cons_zero, List.set_cons_succ, i64_w, i32_w]
                              rfl
                            refine pure_ (i := 13) (N := some 102) (v := ?_) (a' := ?_) #[true, true, true, true, true, true, true, true, true, true, true, true, true, true, false] rfl rfl (any_of HT_.out (by kernel_rfl)) (fun _ _ _ h => h) (Or.inl ⟨by rfl, ?_⟩) ?_ ?_
                            rotate_left
                            · intro w'
                              go_simp
                              with_reducible rfl
                            rotate_left
                            · simp only [Act.put, List.setIfInBounds_toArray, List.set_cons_zero, List.set_cons_succ, i64_w, i32_w]
                              rfl
                            refine pure_ (i := 14) (N := some 15) (v := ?_) (a' := ?_) #[true, true, true, true, true, true, true, true, true, true, true, true, true, true, true] rfl rfl (any_of HT_.out (by kernel_rfl)) (fun _ _ _ h => h) (Or.inl ⟨by rfl, ?_⟩) ?_ ?_
                            rotate_left
                            · intro w'
                              go_simp
                              with_reducible rfl
                            rotate_left
                            · simp only [Act.put, List.setIfInBounds_toArray, List.set_cons_zero, List.set_cons_succ, i64_w, i32_w]
                              rfl
                            refine done_ (done_of HT_.out (by kernel_rfl)) ?_
                            have hcz118_0 : w117.cell? ⟨gb363, 0, none⟩ = some (.slice (some ad368) l0_0.length c0_0) := (blk_cell BK363.out 0).trans rfl
                            have hcz118_1 : w117.cell? ⟨gb363, 1, none⟩ = some (.slice (some ad367) l0_1.length c0_1) := (blk_cell BK363.out 1).trans rfl
                            have hcz118_2 : w117.cell? ⟨gb363, 2, none⟩ = some (.int .i64 a0_2) := (blk_cell BK363.out 2).trans rfl
                            have hcz118_3 : w117.cell? ⟨gb363, 3, none⟩ = some (.int .i64 a0_3) := (blk_cell BK363.out 3).trans rfl
                            have hcz118_4 : w117.cell? ⟨gb363, 4, none⟩ = some (.int .i64 a0_4) := (blk_cell BK363.out 4).trans rfl
                            have hfz118_0 := blk_frozen BK363.out 0
                            have hfz118_1 := blk_frozen BK363.out 1
                            have hfz118_2 := blk_frozen BK363.out 2
                            have hfz118_3 := blk_frozen BK363.out 3
                            have hfz118_4 := blk_frozen BK363.out 4
                            try go_wp2_with (first | (go_at_call 23; (with_reducible refine (group_Free.calls _ _ l0_0 ((rd_T47 l0_1 a1).f0) true _ ?side1 ?side2 ?side3 A58.out).mono ?_); (case side1 => repeat (first | exact (Kd.C_below HR0_0.out HB.out) | (with_reducible refine Kd.C_alloc ?_ _) | (with_reducible refine Kd.C_drewN ?_ _) | (with_reducible refine Kd.C_drew ?_))); (case side2 => exact HC0_0.out); (case side3 => first | (with_reducible exact HG.out) | (refine GlobOk.below HG.out ?_; repeat (first | (with_reducible first | exact HB.out | apply below_alloc | apply pw_below_drewN | apply below_drew1 | refine below_set ?_ GE363.out) | exact HB.out))); rintro e w119 ⟨rfl, hb⟩; have n0_ := Aside0.mk (blk_below (g := gb363) (o := .cells #[.slice (some ad368) l0_0.length c0_0, .slice (some ad367) l0_1.length c0_1, .int .i64 a0_2, .int .i64 a0_3, .int .i64 a0_4] 37 (0, 0)) (by (with_reducible repeat (first | refine blk_drewN ?_ _ | refine blk_drew ?_ | refine blk_alloc ?_ _)); exact BK363.out) hb); have n1_ := Aside0.mk (below_step (by repeat (first | (with_reducible first | exact HB.out | apply below_alloc | apply pw_below_drewN | apply below_drew1 | refine below_set ?_ GE363.out) | exact HB.out)) hb); clear BK363; clear HB; have BK363 := n0_; have HB := n1_; clear n0_ n1_; (try clear hb); (try clear hb2); (try clear hk); (try clear hi)))
                            go_ret
                            exact ⟨by first | rfl | (simp [errW_none, errW_some] <;> rfl) | (simp only [← hji46, ← hji48, ← hji50, ← hji52, ← hji54]; first | rfl | (simp [errW_none, errW_some] <;> rfl)) | (simp [*, errW_none, errW_some] <;> rfl), by repeat (first | (with_reducible first | exact HB.out | apply below_alloc | apply pw_below_drewN | apply below_drew1 | refine below_set ?_ GE363.out) | exact HB.out)⟩
                        · rw [if_neg c106] at H
                          have c106b0 : (t369 == (wrap64 ((wrap64 ((ji54) - 1)) - (ji52)))) = false := beq_eq_false_iff_ne.mpr c106
                          have c106b1 : (t369 != (wrap64 ((wrap64 ((ji54) - 1)) - (ji52)))) = true := bne_iff_ne.mpr c106
                          obtain rfl := Option.some.inj H
                          have hcz120_0 : wc.cell? ⟨gb363, 0, none⟩ = some (.slice A0_0 l0_0.length c0_0) := (blk_cell BK363.out 0).trans rfl
                          have hcz120_1 : wc.cell? ⟨gb363, 1, none⟩ = some (.slice A0_1 l0_1.length c0_1) := (blk_cell BK363.out 1).trans rfl
                          have hcz120_2 : wc.cell? ⟨gb363, 2, none⟩ = some (.int .i64 a0_2) := (blk_cell BK363.out 2).trans rfl
                          have hcz120_3 : wc.cell? ⟨gb363, 3, none⟩ = some (.int .i64 a0_3) := (blk_cell BK363.out 3).trans rfl
                          have hcz120_4 : wc.cell? ⟨gb363, 4, none⟩ = some (.int .i64 a0_4) := (blk_cell BK363.out 4).trans rfl
                          have hfz120_0 := blk_frozen BK363.out 0
                          have hfz120_1 := blk_frozen BK363.out 1
                          have hfz120_2 := blk_frozen BK363.out 2
                          have hfz120_3 := blk_frozen BK363.out 3
                          have hfz120_4 := blk_frozen BK363.out 4
                          have p367 : 0 ≤ (a1 : Int) := of_decide_eq_true (by first | (with_reducible assumption) | assumption)
                          have q367 : a1 < (l0_1.length : Int) := of_decide_eq_true (by first | (with_reducible assumption) | assumption)
                          obtain ⟨ad367, e367, hx367_0, hx367_1, hx367_2⟩ := at_T47 HR0_1.out a1 p367 q367
                          cases e367
                          replace hx367_0 := (HB.out.cell (World.block_lt_of_cell? w _ hx367_0)).trans hx367_0
                          replace hx367_1 := (HB.out.cell (World.block_lt_of_cell? w _ hx367_1)).trans hx367_1
                          replace hx367_2 := (HB.out.cell (World.block_lt_of_cell? w _ hx367_2)).trans hx367_2
                          replace p367 := eq_true p367
                          replace q367 := eq_true q367
                          have p368 : 0 ≤ (a2 : Int) := of_decide_eq_true (by first | (with_reducible assumption) | assumption)
                          have q368 : a2 < (l0_0.length : Int) := of_decide_eq_true (by first | (with_reducible assumption) | assumption)
                          obtain ⟨ad368, e368, hx368_0⟩ := Kd.at_int HR0_0.out a2 p368 q368
                          cases e368
                          replace hx368_0 := (HB.out.cell (World.block_lt_of_cell? w _ hx368_0)).trans hx368_0
                          replace p368 := eq_true p368
                          replace q368 := eq_true q368
                          try go_wp2
                          have n0_ := Aside0.mk (blk_drew BK363.out)
                          have n1_ := Aside0.mk (below_drew1 HB.out)
                          clear BK363
                          clear HB
                          have BK363 := n0_
                          have HB := n1_
                          clear n0_ n1_
                          refine start_ (n := 15) (S := fun w' => w'.cell? ⟨gb363, 0, none⟩ = some (.slice (some ad368) l0_0.length c0_0) ∧ w'.cell? ⟨gb363, 1, none⟩ = some (.slice (some ad367) l0_1.length c0_1) ∧ w'.cell? ⟨gb363, 2, none⟩ = some (.int .i64 a0_2) ∧ w'.cell? ⟨gb363, 3, none⟩ = some (.int .i64 a0_3) ∧ w'.cell? ⟨gb363, 4, none⟩ = some (.int .i64 a0_4)) (ds := []) #[false, false, false, false, false, false, false, false, false, false, false, false, false, false, false] (by kernel_rfl) rfl rfl ⟨(blk_cell BK363.out 0).trans rfl, (blk_cell BK363.out 1).trans rfl, (blk_cell BK363.out 2).trans rfl, (blk_cell BK363.out 3).trans rfl, (blk_cell BK363.out 4).trans rfl⟩ (fun hHeld => ?_); refine with_tabW pelicanlaw14_PlanFree.tab9 pelicanlaw14_PlanFree.bits9 (fun HT_ HW_ => ?_)
                          generalize wc.drew = w121 at BK363 HB hHeld ⊢
                          refine pure_ (i := 0) (N := some 89) (v := ?_) (a' := ?_) #[true, false, false, false, false, false, false, false, false, false, false, false, false, false, false] rfl rfl (any_of HT_.out (by kernel_rfl)) (fun _ _ _ h => h) (Or.inl ⟨by rfl, ?_⟩) ?_ ?_
                          rotate_left
                          · intro w'
                            go_simp
                            with_reducible rfl
                          rotate_left
                          · simp only [Act.put, List.setIfInBounds_toArray, List.set_cons_zero, List.set_cons_succ, i64_w, i32_w]
                            rfl
                          refine pure_ (i := 2) (N := some 91) (v := ?_) (a' := ?_) #[true, false, true, false, false, false, false, false, false, false, false, false, false, false, false] rfl rfl (any_of HT_.out (by kernel_rfl)) (fun _ _ _ h => h) (Or.inl ⟨by rfl, ?_⟩) ?_ ?_
                          rotate_left
                          · intro w'
                            go_simp
                            with_reducible rfl
                          rotate_left
                          · simp only [Act.put, List.setIfInBounds_toArray, List.set_cons_zero, List.set_cons_succ, i64_w, i32_w]
                            rfl
                          refine pure_ (i := 3) (N := some 92) (v := ?_) (a' := ?_) #[true, false, true, true, false, false, false, false, false, false, false, false, false, false, false] rfl rfl (any_of HT_.out (by kernel_rfl)) (fun _ _ _ h => h) (Or.inl ⟨by rfl, ?_⟩) ?_ ?_
                          rotate_left
                          · intro w'
                            go_simp
                            with_reducible rfl
                          rotate_left
                          · simp only [Act.put, List.setIfInBounds_toArray, List.set_cons_zero, List.set_cons_succ, i64_w, i32_w]
                            rfl
                          refine pure_ (i := 5) (N := some 94) (v := ?_) (a' := ?_) #[true, false, true, true, false, true, false, false, false, false, false, false, false, false, false] rfl rfl (any_of HT_.out (by kernel_rfl)) (fun _ _ _ h => h) (Or.inl ⟨by rfl, ?_⟩) ?_ ?_
                          rotate_left
                          · intro w'
                            go_simp
                            with_reducible rfl
                          rotate_left
                          · simp only [Act.put, List.setIfInBounds_toArray, List.set_cons_zero, List.set_cons_succ, i64_w, i32_w]
                            rfl
                          refine pure_ (i := 10) (N := some 99) (v := ?_) (a' := ?_) #[true, false, true, true, false, true, false, false, false, false, true, false, false, false, false] rfl rfl (any_of HT_.out (by kernel_rfl)) (fun _ _ _ h => h) (Or.inl ⟨by rfl, ?_⟩) ?_ ?_
                          rotate_left
                          · intro w'
                            go_simp
                            with_reducible rfl
                          rotate_left
                          · simp only [Act.put, List.setIfInBounds_toArray, List.set_cons_zero, List.set_cons_succ, i64_w, i32_w]
                            rfl
                          refine pure_ (i := 11) (N := some 100) (v := ?_) (a' := ?_) #[true, false, true, true, false, true, false, false, false, false, true, true, false, false, false] rfl rfl (any_of HT_.out (by kernel_rfl)) (fun _ _ _ h => h) (Or.inl ⟨by rfl, ?_⟩) ?_ ?_
                          rotate_left
                          · intro w'
                            go_simp
                            with_reducible rfl
                          rotate_left
                          · simp only [Act.put, List.setIfInBounds_toArray, List.set_cons_zero, List.set_cons_succ, i64_w, i32_w]
                            rfl
                          refine take_ (i := 1) (N := some 90) (v := ?_) (a' := ?_) #[true, true, true, true, false, true, false, false, false, false, true, true, false, false, false] rfl rfl (take_ofW HT_.out HW_.out (by kernel_rfl)) (fun _ _ _ h => h) (Or.inl ⟨by rfl, ?_⟩) hHeld ?_ ?_
                          rotate_left
                          · rintro w' ⟨s0, s1, s2, s3, s4⟩
                            go_simp
                            with_reducible rfl
                          rotate_left
                          · simp only [Act.put, List.setIfInBounds_toArray, List.set_cons_zero, List.set_cons_succ, i64_w, i32_w]
                            rfl
                          refine take_ (i := 6) (N := some 95) (v := ?_) (a' := ?_) #[true, true, true, true, false, true, true, false, false, false, true, true, false, false, false] rfl rfl (take_ofW HT_.out HW_.out (by kernel_rfl)) (fun _ _ _ h => h) (Or.inl ⟨by rfl, ?_⟩) hHeld ?_ ?_
                          rotate_left
                          · rintro w' ⟨s0, s1, s2, s3, s4⟩
                            go_simp
                            with_reducible rfl
                          rotate_left
                          · simp only [Act.put, List.setIfInBounds_toArray, List.set_cons_zero, List.set_cons_succ, i64_w, i32_w]
                            rfl
                          refine pure_ (i := 7) (N := some 96) (v := ?_) (a' := ?_) #[true, true, true, true, false, true, true, true, false, false, true, true, false, false, false] rfl rfl (any_of HT_.out (by kernel_rfl)) (fun _ _ _ h => h) (Or.inl ⟨by rfl, ?_⟩) ?_ ?_
                          rotate_left
                          · intro w'
                            go_simp
                            with_reducible rfl
                          rotate_left
                          · simp only [Act.put, List.setIfInBounds_toArray, List.set_cons_zero, List.set_cons_succ, i64_w, i32_w]
                            rfl
                          refine pure_ (i := 8) (N := some 97) (v := ?_) (a' := ?_) #[true, true, true, true, false, true, true, true, true, false, true, true, false, false, false] rfl rfl (any_of HT_.out (by kernel_rfl)) (fun _ _ _ h => h) (Or.inl ⟨by rfl, ?_⟩) ?_ ?_
                          rotate_left
                          · intro w'
                            go_simp
                            with_reducible rfl
                          rotate_left
                          · simp only [Act.put, List.setIfInBounds_toArray, List.set_cons_zero, List.set_cons_succ, i64_w, i32_w]
                            rfl
                          refine pure_ (i := 9) (N := some 98) (v := ?_) (a' := ?_) #[true, true, true, true, false, true, true, true, true, true, true, true, false, false, false] rfl rfl (any_of HT_.out (by kernel_rfl)) (fun _ _ _ h => h) (Or.inl ⟨by rfl, ?_⟩) ?_ ?_
                          rotate_left
                          · intro w'
                            go_simp
                            with_reducible rfl
                          rotate_left
                          · simp only [Act.put, List.setIfInBounds_toArray, List.set_cons_zero, List.set_cons_succ, i64_w, i32_w]
                            rfl
                          refine pure_ (i := 12) (N := some 101) (v := ?_) (a' := ?_) #[true, true, true, true, false, true, true, true, true, true, true, true, true, false, false] rfl rfl (any_of HT_.out (by kernel_rfl)) (fun _ _ _ h => h) (Or.inl ⟨by rfl, ?_⟩) ?_ ?_
                          rotate_left
                          · intro w'
                            go_simp
                            with_reducible rfl
                          rotate_left
                          · simp only [Act.put, List.setIfInBounds_toArray, List.set_cons_zero, List.set_cons_succ, i64_w, i32_w]
                            rfl
                          refine one_ (i := 4) (N := some 93) #[true, true, true, true, true, true, true, true, true, true, true, true, true, false, false] rfl rfl (one_of HT_.out (by kernel_rfl)) (by decide) (fun K hK => ?_)
                          refine goes_ Tryd.func24 (by kernel_rfl) rfl #[.slice (some ad368) l0_0.length c0_0, .int .i64 ji52] (by rfl) rfl rfl (by (try simp only [List.map_toArray, List.map_cons, List.map_nil]); first | done | (simp only [hji52]; rfl) | rfl | (go_simp; rw [wrap_pow_min]; exact (i64_w _).symm.trans hji52u) | (simp only [List.length_drop, List.length_take]; rfl)) ?_
                          with_reducible refine (group_Against.calls _ _ l0_0 ji52 t369 _ ?side1 ?side2 ?side3 A53.out).mono ?_
                          (case side1 => repeat (first | exact (Kd.C_below HR0_0.out HB.out) | (with_reducible refine Kd.C_alloc ?_ _) | (with_reducible refine Kd.C_drewN ?_ _) | (with_reducible refine Kd.C_drew ?_)))
                          (case side2 => exact HC0_0.out)
                          (case side3 => first | (with_reducible exact HG.out) | (refine GlobOk.below HG.out ?_; repeat (first | (with_reducible first | exact HB.out | apply below_alloc | apply pw_below_drewN | apply below_drew1 | refine below_set ?_ GE363.out) | exact HB.out)))
                          rintro e w122 ⟨rfl, hb⟩
                          refine ⟨_, rfl, ?_⟩
                          have n0_ := Aside0.mk (blk_below (g := gb363) (o := .cells #[.slice (some ad368) l0_0.length c0_0, .slice (some ad367) l0_1.length c0_1, .int .i64 a0_2, .int .i64 a0_3, .int .i64 a0_4] 37 (0, 0)) (by (with_reducible repeat (first | refine blk_drewN ?_ _ | refine blk_drew ?_ | refine blk_alloc ?_ _)); exact BK363.out) hb)
                          have n1_ := Aside0.mk (below_step (by repeat (first | (with_reducible first | exact HB.out | apply below_alloc | apply pw_below_drewN | apply below_drew1 | refine below_set ?_ GE363.out) | exact HB.out)) hb)
                          clear BK363
                          clear HB
                          have BK363 := n0_
                          have HB := n1_
                          clear n0_ n1_
                          (try clear hb)
                          (try clear hb2)
                          (try clear hk)
                          (try clear hi)
                          refine hK.out _ _ ⟨(blk_cell BK363.out 0).trans rfl, (blk_cell BK363.out 1).trans rfl, (blk_cell BK363.out 2).trans rfl, (blk_cell BK363.out 3).trans rfl, (blk_cell BK363.out 4).trans rfl⟩ (fun hHeld => ?_)
                          clear hK K
                          refine norm_ (a' := ?_) ?_ ?_
                          rotate_left
                          · show Act.put _ (some 93) _ = _
                            simp only [Act.put, List.setIfInBounds_toArray, List.set_cons_zero, List.set_cons_succ, i64_w, i32_w]
                            rfl
                          refine pure_ (i := 13) (N := some 102) (v := ?_) (a' := ?_) #[true, true, true, true, true, true, true, true, true, true, true, true, true, true, false] rfl rfl (any_of HT_.out (by kernel_rfl)) (fun _ _ _ h => h) (Or.inl ⟨by rfl, ?_⟩) ?_ ?_
                          rotate_left
                          · intro w'
                            go_simp
                            with_reducible rfl
                          rotate_left
                          · simp only [Act.put, List.setIfInBounds_toArray, List.set_cons_zero, List.set_cons_succ, i64_w, i32_w]
                            rfl
                          refine pure_ (i := 14) (N := some 15) (v := ?_) (a' := ?_) #[true, true, true, true, true, true, true, true, true, true, true, true, true, true, true] rfl rfl (any_of HT_.out (by kernel_rfl)) (fun _ _ _ h => h) (Or.inl ⟨by rfl, ?_⟩) ?_ ?_
                          rotate_left
                          · intro w'
                            go_simp
                            with_reducible rfl
                          rotate_left
                          · simp only [Act.put, List.setIfInBounds_toArray, List.set_cons_zero, List.set_cons_succ, i64_w, i32_w]
                            rfl
                          refine done_ (done_of HT_.out (by kernel_rfl)) ?_
                          have hcz123_0 : w122.cell? ⟨gb363, 0, none⟩ = some (.slice (some ad368) l0_0.length c0_0) := (blk_cell BK363.out 0).trans rfl
                          have hcz123_1 : w122.cell? ⟨gb363, 1, none⟩ = some (.slice (some ad367) l0_1.length c0_1) := (blk_cell BK363.out 1).trans rfl
                          have hcz123_2 : w122.cell? ⟨gb363, 2, none⟩ = some (.int .i64 a0_2) := (blk_cell BK363.out 2).trans rfl
                          have hcz123_3 : w122.cell? ⟨gb363, 3, none⟩ = some (.int .i64 a0_3) := (blk_cell BK363.out 3).trans rfl
                          have hcz123_4 : w122.cell? ⟨gb363, 4, none⟩ = some (.int .i64 a0_4) := (blk_cell BK363.out 4).trans rfl
                          have hfz123_0 := blk_frozen BK363.out 0
                          have hfz123_1 := blk_frozen BK363.out 1
                          have hfz123_2 := blk_frozen BK363.out 2
                          have hfz123_3 := blk_frozen BK363.out 3
                          have hfz123_4 := blk_frozen BK363.out 4
                          try go_wp2_with (first | (go_at_call 23; (with_reducible refine (group_Free.calls _ _ l0_0 ((rd_T47 l0_1 a1).f0) true _ ?side1 ?side2 ?side3 A58.out).mono ?_); (case side1 => repeat (first | exact (Kd.C_below HR0_0.out HB.out) | (with_reducible refine Kd.C_alloc ?_ _) | (with_reducible refine Kd.C_drewN ?_ _) | (with_reducible refine Kd.C_drew ?_))); (case side2 => exact HC0_0.out); (case side3 => first | (with_reducible exact HG.out) | (refine GlobOk.below HG.out ?_; repeat (first | (with_reducible first | exact HB.out | apply below_alloc | apply pw_below_drewN | apply below_drew1 | refine below_set ?_ GE363.out) | exact HB.out))); rintro e w124 ⟨rfl, hb⟩; have n0_ := Aside0.mk (blk_below (g := gb363) (o := .cells #[.slice (some ad368) l0_0.length c0_0, .slice (some ad367) l0_1.length c0_1, .int .i64 a0_2, .int .i64 a0_3, .int .i64 a0_4] 37 (0, 0)) (by (with_reducible repeat (first | refine blk_drewN ?_ _ | refine blk_drew ?_ | refine blk_alloc ?_ _)); exact BK363.out) hb); have n1_ := Aside0.mk (below_step (by repeat (first | (with_reducible first | exact HB.out | apply below_alloc | apply pw_below_drewN | apply below_drew1 | refine below_set ?_ GE363.out) | exact HB.out)) hb); clear BK363; clear HB; have BK363 := n0_; have HB := n1_; clear n0_ n1_; (try clear hb); (try clear hb2); (try clear hk); (try clear hi)))
                          go_ret
                          exact ⟨by first | rfl | (simp [errW_none, errW_some] <;> rfl) | (simp only [← hji46, ← hji48, ← hji50, ← hji52, ← hji54]; first | rfl | (simp [errW_none, errW_some] <;> rfl)) | (simp [*, errW_none, errW_some] <;> rfl), by repeat (first | (with_reducible first | exact HB.out | apply below_alloc | apply pw_below_drewN | apply below_drew1 | refine below_set ?_ GE363.out) | exact HB.out)⟩
                    · replace c59 := Bool.eq_false_iff.mpr c59
                      subst c59
                      have H1 : (some false) = some r := by rw [if_neg (show ¬ (false = true) by decide)] at H; exact H
                      clear H
                      have H := H1
                      clear H1
                      exact absurd (Option.some.inj H) (by rw [HRR.out]; decide)
                  · rw [if_neg c57] at H
                    have c57b0 : decide (0 < ((rd_T47 l0_1 a1).f0)) = false := decide_eq_false c57
                    clear c57
                    exact absurd (Option.some.inj H) (by rw [HRR.out]; decide)
                · rw [if_neg c45] at H
                  exact absurd H (by simp)
              · rw [if_neg c44] at H
                exact absurd H (by simp)
            · rw [if_neg c43] at H
              exact absurd H (by simp)
          · rw [if_neg c42] at H
            exact absurd H (by simp)
        · rw [if_neg c41] at H
          exact absurd H (by simp)

end Go.Proofs.YtnogkpofgkaefaaDoor.F
