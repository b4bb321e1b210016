/- Woven by wip/weave/weave.py of this repo (own tool) out of the translation: the contracts of some functions. Lean checks it. -/
import Derived.Test.YtechgjbhgeddjaaDoorD
import Derived.Test.YtechgjbhgeddjaaDoorDLampShow
import Derived.Test.YtechgjbhgeddjaaDoorF0
import Derived.Test.YtechgjbhgeddjaaDoorF11
import Derived.Test.YtechgjbhgeddjaaDoorF13
import Derived.Test.YtechgjbhgeddjaaDoorF22
import Derived.Test.YtechgjbhgeddjaaDoorF46
namespace Go.Proofs.YtechgjbhgeddjaaDoor.F
open Go.RowKit Go.Proofs.YtechgjbhgeddjaaDoorW.PrintWords Go.Proofs.YtechgjbhgeddjaaDoorW.PrintLast Go.Proofs.YtechgjbhgeddjaaDoorW.PrintMore
attribute [local go_sem] max2_int min2_int max_two min_two max_three min_three max_four min_four   -- for this text's walks alone
set_option linter.unusedVariables false
set_option linter.unusedSimpArgs false

/-! ### pelicanlaw15_LampShow: function 12 -/
set_option maxHeartbeats 8000000 in
set_option maxRecDepth 100000 in
theorem pelicanlaw15_LampShow.calls (k : Nat) (A0_0 : Option Addr) (c0_0 : Nat) (l0_0 : List Int) (A0_1 : Option Addr) (c0_1 : Nat) (l0_1 : List (S41)) (a0_2 : Int) (a0_3 : Int) (a0_4 : Int) (a1 : Int) (a2 : Int) (r : Bool) (HRR0 : r = true) (w : World) (hr0_0 : Kd.C (Kd.int .i64) w A0_0 l0_0.length l0_0) (hc0_0 : l0_0.length ≤ c0_0) (hr0_1 : Kd.C k41 w A0_1 l0_1.length l0_1) (hc0_1 : l0_1.length ≤ c0_1) (hG : GlobOk w) (h : pelicanlaw15_LampShow.f k l0_0 l0_1 a0_2 a0_3 a0_4 a1 a2 = some r) :
    Calls Tryd.prog 12 #[.agg #[.slice A0_0 l0_0.length c0_0, .slice A0_1 l0_1.length c0_1, .int .i64 a0_2, .int .i64 a0_3, .int .i64 a0_4], .int .i64 a1, .int .i64 a2] w fun e w' => e = .returned (.bool r) ∧ Below w.heap.size w w' := by
  have hu39 := Tryd.underlying39
  have HR0_0 := Aside0.mk hr0_0
  have HC0_0 := Aside0.mk hc0_0
  clear hr0_0 hc0_0
  have HR0_1 := Aside0.mk hr0_1
  have HC0_1 := Aside0.mk hc0_1
  clear hr0_1 hc0_1
  have HG := Aside0.mk hG
  clear hG
  have HB := Aside0.mk (Below.refl w.heap.size w)
  have H : ((pelicanlaw15_awake.f k).bind fun t749 => ((pelicanlaw14_Few.f l0_0 l0_1 a0_2 a0_3 a0_4).bind fun t750 => (if t749 = true then (if t750 = true then ((plan_Fit.f k l0_0 l0_1 a0_2 a0_3 a0_4).bind fun t751 => (if t751 = true then (if a1 < 0 then (pelicanlaw15_LampShow.j0 k a1 a2 t749 true l0_0 l0_1 a0_2 a0_3 a0_4) else (if a1 ≥ (l0_1.length : Int) then (pelicanlaw15_LampShow.j0 k a1 a2 t749 true l0_0 l0_1 a0_2 a0_3 a0_4) else (if a2 < 0 then (pelicanlaw15_LampShow.j0 k a1 a2 t749 true l0_0 l0_1 a0_2 a0_3 a0_4) else (pelicanlaw15_LampShow.j0 k a1 a2 t749 (decide (a2 ≥ (l0_0.length : Int))) l0_0 l0_1 a0_2 a0_3 a0_4)))) else (pelicanlaw15_LampShow.j0 k a1 a2 t749 true l0_0 l0_1 a0_2 a0_3 a0_4))) else (pelicanlaw15_LampShow.j0 k a1 a2 t749 true l0_0 l0_1 a0_2 a0_3 a0_4)) else (pelicanlaw15_LampShow.j0 k a1 a2 t749 true l0_0 l0_1 a0_2 a0_3 a0_4)))) = some r := h
  clear h
  have HRR := Aside0.mk HRR0
  clear HRR0
  replace H := Option.bind_eq_some_iff.mp H
  obtain ⟨t749, A40, H⟩ := H
  replace H : ((pelicanlaw14_Few.f l0_0 l0_1 a0_2 a0_3 a0_4).bind fun t750 => (if t749 = true then (if t750 = true then ((plan_Fit.f k l0_0 l0_1 a0_2 a0_3 a0_4).bind fun t751 => (if t751 = true then (if a1 < 0 then (pelicanlaw15_LampShow.j0 k a1 a2 t749 true l0_0 l0_1 a0_2 a0_3 a0_4) else (if a1 ≥ (l0_1.length : Int) then (pelicanlaw15_LampShow.j0 k a1 a2 t749 true l0_0 l0_1 a0_2 a0_3 a0_4) else (if a2 < 0 then (pelicanlaw15_LampShow.j0 k a1 a2 t749 true l0_0 l0_1 a0_2 a0_3 a0_4) else (pelicanlaw15_LampShow.j0 k a1 a2 t749 (decide (a2 ≥ (l0_0.length : Int))) l0_0 l0_1 a0_2 a0_3 a0_4)))) else (pelicanlaw15_LampShow.j0 k a1 a2 t749 true l0_0 l0_1 a0_2 a0_3 a0_4))) else (pelicanlaw15_LampShow.j0 k a1 a2 t749 true l0_0 l0_1 a0_2 a0_3 a0_4)) else (pelicanlaw15_LampShow.j0 k a1 a2 t749 true l0_0 l0_1 a0_2 a0_3 a0_4))) = some r := H
  have A4 := Aside0.mk A40
  clear A40
  replace H := Option.bind_eq_some_iff.mp H
  obtain ⟨t750, A50, H⟩ := H
  replace H : (if t749 = true then (if t750 = true then ((plan_Fit.f k l0_0 l0_1 a0_2 a0_3 a0_4).bind fun t751 => (if t751 = true then (if a1 < 0 then (pelicanlaw15_LampShow.j0 k a1 a2 t749 true l0_0 l0_1 a0_2 a0_3 a0_4) else (if a1 ≥ (l0_1.length : Int) then (pelicanlaw15_LampShow.j0 k a1 a2 t749 true l0_0 l0_1 a0_2 a0_3 a0_4) else (if a2 < 0 then (pelicanlaw15_LampShow.j0 k a1 a2 t749 true l0_0 l0_1 a0_2 a0_3 a0_4) else (pelicanlaw15_LampShow.j0 k a1 a2 t749 (decide (a2 ≥ (l0_0.length : Int))) l0_0 l0_1 a0_2 a0_3 a0_4)))) else (pelicanlaw15_LampShow.j0 k a1 a2 t749 true l0_0 l0_1 a0_2 a0_3 a0_4))) else (pelicanlaw15_LampShow.j0 k a1 a2 t749 true l0_0 l0_1 a0_2 a0_3 a0_4)) else (pelicanlaw15_LampShow.j0 k a1 a2 t749 true l0_0 l0_1 a0_2 a0_3 a0_4)) = some r := H
  have A5 := Aside0.mk A50
  clear A50
  have HC6 := Aside0.mk H
  clear H
  go_enter Tryd.func12, Tryd.ntmps12
  go_upto_region 3 with (first | ((with_reducible refine gate_dst (N := 3) rfl ?_); (try (refine gate_guard (by rfl) ?_; dsimp only)); refine box_event ?hg (N := 3) ?hd (cs := #[.slice A0_0 l0_0.length c0_0, .slice A0_1 l0_1.length c0_1, .int .i64 a0_2, .int .i64 a0_3, .int .i64 a0_4]) (t := 39) ?hr ?_; (case hd => rfl); (case hg => rfl); (case hr => first | (go_simp; done) | (go_simp; rfl)); intro gb748 hg w7 hbox hb; have n0_ := Aside0.mk (below_step (by repeat (first | (with_reducible first | exact HB.out | apply below_alloc | apply pw_below_drewN | apply below_drew1) | exact HB.out)) hb); have n1_ := Aside0.mk (hbox); have n2_ := Aside0.mk ((by rw [hg]; exact (below_size (by repeat (first | (with_reducible first | exact HB.out | apply below_alloc | apply pw_below_drewN | apply below_drew1) | exact HB.out))) : w.heap.size ≤ gb748)); have n3_ := Aside0.mk ((by rw [hg]; exact (below_size (by repeat (first | (with_reducible first | exact HB.out | apply below_alloc | apply pw_below_drewN | apply below_drew1) | exact HB.out))) : w.heap.size ≤ gb748)); clear HB; have HB := n0_; have BK748 := n1_; have GW748 := n2_; have GE748 := n3_; clear n0_ n1_ n2_ n3_; clear hb hbox hg) | ((with_reducible refine gate_callee (f := 30) rfl ?_); refine goesL_ (some 13) rfl rfl Tryd.func30 (by kernel_rfl) rfl #[] rfl (by (try simp only [List.map_toArray, List.map_cons, List.map_nil]); first | done | rfl | (simp only [List.length_drop, List.length_take]; rfl)) ?_; (with_reducible refine (pelicanlaw15_awake.calls k  t749 _ ?side1 A4.out).mono ?_); (case side1 => first | (with_reducible exact HG.out) | (refine GlobOk.below HG.out ?_; repeat (first | (with_reducible first | exact HB.out | apply below_alloc | apply pw_below_drewN | apply below_drew1 | refine below_set ?_ GE748.out) | exact HB.out))); rintro e w8 ⟨rfl, hb⟩; refine ⟨_, rfl, ?_⟩; have n0_ := Aside0.mk (blk_below (g := gb748) (o := .cells #[.slice A0_0 l0_0.length c0_0, .slice A0_1 l0_1.length c0_1, .int .i64 a0_2, .int .i64 a0_3, .int .i64 a0_4] 39 (0, 0)) (by (with_reducible repeat (first | refine blk_drewN ?_ _ | refine blk_drew ?_ | refine blk_alloc ?_ _)); exact BK748.out) hb); have n1_ := Aside0.mk (below_step (by repeat (first | (with_reducible first | exact HB.out | apply below_alloc | apply pw_below_drewN | apply below_drew1 | refine below_set ?_ GE748.out) | exact HB.out)) hb); clear BK748; clear HB; have BK748 := n0_; have HB := n1_; clear n0_ n1_; (try clear hb); (try clear hb2); (try clear hk); (try clear hi); have hcz9_0 : w8.cell? ⟨gb748, 0, none⟩ = some (.slice A0_0 l0_0.length c0_0) := (blk_cell BK748.out 0).trans rfl; have hcz9_1 : w8.cell? ⟨gb748, 1, none⟩ = some (.slice A0_1 l0_1.length c0_1) := (blk_cell BK748.out 1).trans rfl; have hcz9_2 : w8.cell? ⟨gb748, 2, none⟩ = some (.int .i64 a0_2) := (blk_cell BK748.out 2).trans rfl; have hcz9_3 : w8.cell? ⟨gb748, 3, none⟩ = some (.int .i64 a0_3) := (blk_cell BK748.out 3).trans rfl; have hcz9_4 : w8.cell? ⟨gb748, 4, none⟩ = some (.int .i64 a0_4) := (blk_cell BK748.out 4).trans rfl; have hfz9_0 := blk_frozen BK748.out 0; have hfz9_1 := blk_frozen BK748.out 1; have hfz9_2 := blk_frozen BK748.out 2; have hfz9_3 := blk_frozen BK748.out 3; have hfz9_4 := blk_frozen BK748.out 4) | ((with_reducible refine gate_callee (f := 31) rfl ?_); refine goesL_ (some 15) rfl rfl Tryd.func31 (by kernel_rfl) rfl #[.agg #[.slice A0_0 l0_0.length c0_0, .slice A0_1 l0_1.length c0_1, .int .i64 a0_2, .int .i64 a0_3, .int .i64 a0_4]] rfl (by (try simp only [List.map_toArray, List.map_cons, List.map_nil]); first | done | rfl | (simp only [List.length_drop, List.length_take]; rfl)) ?_; (with_reducible refine (pelicanlaw14_Few.calls _ _ l0_0 _ _ l0_1 a0_2 a0_3 a0_4 t750 _ ?side1 ?side2 ?side3 ?side4 A5.out).mono ?_); (case side1 => repeat (first | exact (Kd.C_below HR0_0.out HB.out) | (with_reducible refine Kd.C_alloc ?_ _) | (with_reducible refine Kd.C_drewN ?_ _) | (with_reducible refine Kd.C_drew ?_))); (case side2 => exact HC0_0.out); (case side3 => repeat (first | exact (Kd.C_below HR0_1.out HB.out) | (with_reducible refine Kd.C_alloc ?_ _) | (with_reducible refine Kd.C_drewN ?_ _) | (with_reducible refine Kd.C_drew ?_))); (case side4 => exact HC0_1.out); rintro e w10 ⟨rfl, hb⟩; refine ⟨_, rfl, ?_⟩; have n0_ := Aside0.mk (blk_below (g := gb748) (o := .cells #[.slice A0_0 l0_0.length c0_0, .slice A0_1 l0_1.length c0_1, .int .i64 a0_2, .int .i64 a0_3, .int .i64 a0_4] 39 (0, 0)) (by (with_reducible repeat (first | refine blk_drewN ?_ _ | refine blk_drew ?_ | refine blk_alloc ?_ _)); exact BK748.out) hb); have n1_ := Aside0.mk (below_step (by repeat (first | (with_reducible first | exact HB.out | apply below_alloc | apply pw_below_drewN | apply below_drew1 | refine below_set ?_ GE748.out) | exact HB.out)) hb); clear BK748; clear HB; have BK748 := n0_; have HB := n1_; clear n0_ n1_; (try clear hb); (try clear hb2); (try clear hk); (try clear hi)))
  (try simp only [Act.put, List.setIfInBounds_toArray, List.set_cons_zero, List.set_cons_succ])
  go_cut [48] (fun v48 wc => ∃ (kq : Nat) (x48_5 : Bool), v48 = .bool x48_5 ∧ Aside0 (pelicanlaw15_LampShow.j0 kq a1 a2 t749 x48_5 l0_0 l0_1 a0_2 a0_3 a0_4 = some r) ∧ Aside0 (kq ≤ k) ∧ Aside0 (wc.heap[gb748]? = some (.cells #[(.slice A0_0 l0_0.length c0_0), (.slice A0_1 l0_1.length c0_1), .int .i64 a0_2, .int .i64 a0_3, .int .i64 a0_4] 39 (0, 0))) ∧ Aside0 (Below w.heap.size w wc))
  case first =>
    have H := HC6.out
    clear HC6
    by_cases c11 : t749 = true
    · subst c11
      have H1 : (if t750 = true then ((plan_Fit.f k l0_0 l0_1 a0_2 a0_3 a0_4).bind fun t751 => (if t751 = true then (if a1 < 0 then (pelicanlaw15_LampShow.j0 k a1 a2 true true l0_0 l0_1 a0_2 a0_3 a0_4) else (if a1 ≥ (l0_1.length : Int) then (pelicanlaw15_LampShow.j0 k a1 a2 true true l0_0 l0_1 a0_2 a0_3 a0_4) else (if a2 < 0 then (pelicanlaw15_LampShow.j0 k a1 a2 true true l0_0 l0_1 a0_2 a0_3 a0_4) else (pelicanlaw15_LampShow.j0 k a1 a2 true (decide (a2 ≥ (l0_0.length : Int))) l0_0 l0_1 a0_2 a0_3 a0_4)))) else (pelicanlaw15_LampShow.j0 k a1 a2 true true l0_0 l0_1 a0_2 a0_3 a0_4))) else (pelicanlaw15_LampShow.j0 k a1 a2 true true l0_0 l0_1 a0_2 a0_3 a0_4)) = some r := by rw [if_pos rfl] at H; exact H
      clear H
      have H := H1
      clear H1
      by_cases c12 : t750 = true
      · subst c12
        have H1 : ((plan_Fit.f k l0_0 l0_1 a0_2 a0_3 a0_4).bind fun t751 => (if t751 = true then (if a1 < 0 then (pelicanlaw15_LampShow.j0 k a1 a2 true true l0_0 l0_1 a0_2 a0_3 a0_4) else (if a1 ≥ (l0_1.length : Int) then (pelicanlaw15_LampShow.j0 k a1 a2 true true l0_0 l0_1 a0_2 a0_3 a0_4) else (if a2 < 0 then (pelicanlaw15_LampShow.j0 k a1 a2 true true l0_0 l0_1 a0_2 a0_3 a0_4) else (pelicanlaw15_LampShow.j0 k a1 a2 true (decide (a2 ≥ (l0_0.length : Int))) l0_0 l0_1 a0_2 a0_3 a0_4)))) else (pelicanlaw15_LampShow.j0 k a1 a2 true true l0_0 l0_1 a0_2 a0_3 a0_4))) = some r := by rw [if_pos rfl] at H; exact H
        clear H
        have H := H1
        clear H1
        replace H := Option.bind_eq_some_iff.mp H
        obtain ⟨t751, A130, H⟩ := H
        replace H : (if t751 = true then (if a1 < 0 then (pelicanlaw15_LampShow.j0 k a1 a2 true true l0_0 l0_1 a0_2 a0_3 a0_4) else (if a1 ≥ (l0_1.length : Int) then (pelicanlaw15_LampShow.j0 k a1 a2 true true l0_0 l0_1 a0_2 a0_3 a0_4) else (if a2 < 0 then (pelicanlaw15_LampShow.j0 k a1 a2 true true l0_0 l0_1 a0_2 a0_3 a0_4) else (pelicanlaw15_LampShow.j0 k a1 a2 true (decide (a2 ≥ (l0_0.length : Int))) l0_0 l0_1 a0_2 a0_3 a0_4)))) else (pelicanlaw15_LampShow.j0 k a1 a2 true true l0_0 l0_1 a0_2 a0_3 a0_4)) = some r := H
        have A13 := Aside0.mk A130
        clear A130
        by_cases c14 : t751 = true
        · subst c14
          have H1 : (if a1 < 0 then (pelicanlaw15_LampShow.j0 k a1 a2 true true l0_0 l0_1 a0_2 a0_3 a0_4) else (if a1 ≥ (l0_1.length : Int) then (pelicanlaw15_LampShow.j0 k a1 a2 true true l0_0 l0_1 a0_2 a0_3 a0_4) else (if a2 < 0 then (pelicanlaw15_LampShow.j0 k a1 a2 true true l0_0 l0_1 a0_2 a0_3 a0_4) else (pelicanlaw15_LampShow.j0 k a1 a2 true (decide (a2 ≥ (l0_0.length : Int))) l0_0 l0_1 a0_2 a0_3 a0_4)))) = some r := by rw [if_pos rfl] at H; exact H
          clear H
          have H := H1
          clear H1
          by_cases c15 : a1 < 0
          · rw [if_pos c15] at H
            have c15b0 : decide (a1 < 0) = true := decide_eq_true c15
            clear c15
            (first | rw [c15b0] | (simp only [i64_w, i32_w]; rw [c15b0]) | skip)
            have H' := Aside0.mk H
            clear H
            have hcz16_0 : w10.cell? ⟨gb748, 0, none⟩ = some (.slice A0_0 l0_0.length c0_0) := (blk_cell BK748.out 0).trans rfl
            have hcz16_1 : w10.cell? ⟨gb748, 1, none⟩ = some (.slice A0_1 l0_1.length c0_1) := (blk_cell BK748.out 1).trans rfl
            have hcz16_2 : w10.cell? ⟨gb748, 2, none⟩ = some (.int .i64 a0_2) := (blk_cell BK748.out 2).trans rfl
            have hcz16_3 : w10.cell? ⟨gb748, 3, none⟩ = some (.int .i64 a0_3) := (blk_cell BK748.out 3).trans rfl
            have hcz16_4 : w10.cell? ⟨gb748, 4, none⟩ = some (.int .i64 a0_4) := (blk_cell BK748.out 4).trans rfl
            have hfz16_0 := blk_frozen BK748.out 0
            have hfz16_1 := blk_frozen BK748.out 1
            have hfz16_2 := blk_frozen BK748.out 2
            have hfz16_3 := blk_frozen BK748.out 3
            have hfz16_4 := blk_frozen BK748.out 4
            go_wp2_with (first | (go_at_call 41; (with_reducible refine (plan_Fit.calls k _ _ l0_0 _ _ l0_1 a0_2 a0_3 a0_4 true _ ?side1 ?side2 ?side3 ?side4 ?side5 A13.out).mono ?_); (case side1 => repeat (first | exact (Kd.C_below HR0_0.out HB.out) | (with_reducible refine Kd.C_alloc ?_ _) | (with_reducible refine Kd.C_drewN ?_ _) | (with_reducible refine Kd.C_drew ?_))); (case side2 => exact HC0_0.out); (case side3 => repeat (first | exact (Kd.C_below HR0_1.out HB.out) | (with_reducible refine Kd.C_alloc ?_ _) | (with_reducible refine Kd.C_drewN ?_ _) | (with_reducible refine Kd.C_drew ?_))); (case side4 => exact HC0_1.out); (case side5 => first | (with_reducible exact HG.out) | (refine GlobOk.below HG.out ?_; repeat (first | (with_reducible first | exact HB.out | apply below_alloc | apply pw_below_drewN | apply below_drew1 | refine below_set ?_ GE748.out) | exact HB.out))); rintro e w17 ⟨rfl, hb⟩; have n0_ := Aside0.mk (blk_below (g := gb748) (o := .cells #[.slice A0_0 l0_0.length c0_0, .slice A0_1 l0_1.length c0_1, .int .i64 a0_2, .int .i64 a0_3, .int .i64 a0_4] 39 (0, 0)) (by (with_reducible repeat (first | refine blk_drewN ?_ _ | refine blk_drew ?_ | refine blk_alloc ?_ _)); exact BK748.out) hb); have n1_ := Aside0.mk (below_step (by repeat (first | (with_reducible first | exact HB.out | apply below_alloc | apply pw_below_drewN | apply below_drew1 | refine below_set ?_ GE748.out) | exact HB.out)) hb); clear BK748; clear HB; have BK748 := n0_; have HB := n1_; clear n0_ n1_; (try clear hb); (try clear hb2); (try clear hk); (try clear hi)))
            go_meet
            case rel => exact ⟨_, (true), (by first | rfl | (simp; done) | (simp [*]; done)), H', ⟨by first | omega | exact Nat.le_refl _⟩, ⟨by (with_reducible repeat (first | refine blk_drewN ?_ _ | refine blk_drew ?_ | refine blk_alloc ?_ _)); exact BK748.out⟩, ⟨by repeat (first | (with_reducible first | exact HB.out | apply below_alloc | apply pw_below_drewN | apply below_drew1 | refine below_set ?_ GE748.out) | exact HB.out)⟩⟩
          · rw [if_neg c15] at H
            have c15b0 : decide (a1 < 0) = false := decide_eq_false c15
            clear c15
            (first | rw [c15b0] | (simp only [i64_w, i32_w]; rw [c15b0]) | skip)
            by_cases c18 : a1 ≥ (l0_1.length : Int)
            · rw [if_pos c18] at H
              have c18b0 : decide ((l0_1.length : Int) ≤ a1) = true := decide_eq_true c18
              clear c18
              have H' := Aside0.mk H
              clear H
              have hcz19_0 : w10.cell? ⟨gb748, 0, none⟩ = some (.slice A0_0 l0_0.length c0_0) := (blk_cell BK748.out 0).trans rfl
              have hcz19_1 : w10.cell? ⟨gb748, 1, none⟩ = some (.slice A0_1 l0_1.length c0_1) := (blk_cell BK748.out 1).trans rfl
              have hcz19_2 : w10.cell? ⟨gb748, 2, none⟩ = some (.int .i64 a0_2) := (blk_cell BK748.out 2).trans rfl
              have hcz19_3 : w10.cell? ⟨gb748, 3, none⟩ = some (.int .i64 a0_3) := (blk_cell BK748.out 3).trans rfl
              have hcz19_4 : w10.cell? ⟨gb748, 4, none⟩ = some (.int .i64 a0_4) := (blk_cell BK748.out 4).trans rfl
              have hfz19_0 := blk_frozen BK748.out 0
              have hfz19_1 := blk_frozen BK748.out 1
              have hfz19_2 := blk_frozen BK748.out 2
              have hfz19_3 := blk_frozen BK748.out 3
              have hfz19_4 := blk_frozen BK748.out 4
              go_wp2_with (first | (go_at_call 41; (with_reducible refine (plan_Fit.calls k _ _ l0_0 _ _ l0_1 a0_2 a0_3 a0_4 true _ ?side1 ?side2 ?side3 ?side4 ?side5 A13.out).mono ?_); (case side1 => repeat (first | exact (Kd.C_below HR0_0.out HB.out) | (with_reducible refine Kd.C_alloc ?_ _) | (with_reducible refine Kd.C_drewN ?_ _) | (with_reducible refine Kd.C_drew ?_))); (case side2 => exact HC0_0.out); (case side3 => repeat (first | exact (Kd.C_below HR0_1.out HB.out) | (with_reducible refine Kd.C_alloc ?_ _) | (with_reducible refine Kd.C_drewN ?_ _) | (with_reducible refine Kd.C_drew ?_))); (case side4 => exact HC0_1.out); (case side5 => first | (with_reducible exact HG.out) | (refine GlobOk.below HG.out ?_; repeat (first | (with_reducible first | exact HB.out | apply below_alloc | apply pw_below_drewN | apply below_drew1 | refine below_set ?_ GE748.out) | exact HB.out))); rintro e w20 ⟨rfl, hb⟩; have n0_ := Aside0.mk (blk_below (g := gb748) (o := .cells #[.slice A0_0 l0_0.length c0_0, .slice A0_1 l0_1.length c0_1, .int .i64 a0_2, .int .i64 a0_3, .int .i64 a0_4] 39 (0, 0)) (by (with_reducible repeat (first | refine blk_drewN ?_ _ | refine blk_drew ?_ | refine blk_alloc ?_ _)); exact BK748.out) hb); have n1_ := Aside0.mk (below_step (by repeat (first | (with_reducible first | exact HB.out | apply below_alloc | apply pw_below_drewN | apply below_drew1 | refine below_set ?_ GE748.out) | exact HB.out)) hb); clear BK748; clear HB; have BK748 := n0_; have HB := n1_; clear n0_ n1_; (try clear hb); (try clear hb2); (try clear hk); (try clear hi); have hcz21_0 : w20.cell? ⟨gb748, 0, none⟩ = some (.slice A0_0 l0_0.length c0_0) := (blk_cell BK748.out 0).trans rfl; have hcz21_1 : w20.cell? ⟨gb748, 1, none⟩ = some (.slice A0_1 l0_1.length c0_1) := (blk_cell BK748.out 1).trans rfl; have hcz21_2 : w20.cell? ⟨gb748, 2, none⟩ = some (.int .i64 a0_2) := (blk_cell BK748.out 2).trans rfl; have hcz21_3 : w20.cell? ⟨gb748, 3, none⟩ = some (.int .i64 a0_3) := (blk_cell BK748.out 3).trans rfl; have hcz21_4 : w20.cell? ⟨gb748, 4, none⟩ = some (.int .i64 a0_4) := (blk_cell BK748.out 4).trans rfl; have hfz21_0 := blk_frozen BK748.out 0; have hfz21_1 := blk_frozen BK748.out 1; have hfz21_2 := blk_frozen BK748.out 2; have hfz21_3 := blk_frozen BK748.out 3; have hfz21_4 := blk_frozen BK748.out 4))
              go_meet
              case rel => exact ⟨_, (true), (by first | rfl | (simp; done) | (simp [*]; done)), H', ⟨by first | omega | exact Nat.le_refl _⟩, ⟨by (with_reducible repeat (first | refine blk_drewN ?_ _ | refine blk_drew ?_ | refine blk_alloc ?_ _)); exact BK748.out⟩, ⟨by repeat (first | (with_reducible first | exact HB.out | apply below_alloc | apply pw_below_drewN | apply below_drew1 | refine below_set ?_ GE748.out) | exact HB.out)⟩⟩
            · rw [if_neg c18] at H
              have c18b0 : decide ((l0_1.length : Int) ≤ a1) = false := decide_eq_false c18
              clear c18
              by_cases c22 : a2 < 0
              · rw [if_pos c22] at H
                have c22b0 : decide (a2 < 0) = true := decide_eq_true c22
                clear c22
                have H' := Aside0.mk H
                clear H
                have hcz23_0 : w10.cell? ⟨gb748, 0, none⟩ = some (.slice A0_0 l0_0.length c0_0) := (blk_cell BK748.out 0).trans rfl
                have hcz23_1 : w10.cell? ⟨gb748, 1, none⟩ = some (.slice A0_1 l0_1.length c0_1) := (blk_cell BK748.out 1).trans rfl
                have hcz23_2 : w10.cell? ⟨gb748, 2, none⟩ = some (.int .i64 a0_2) := (blk_cell BK748.out 2).trans rfl
                have hcz23_3 : w10.cell? ⟨gb748, 3, none⟩ = some (.int .i64 a0_3) := (blk_cell BK748.out 3).trans rfl
                have hcz23_4 : w10.cell? ⟨gb748, 4, none⟩ = some (.int .i64 a0_4) := (blk_cell BK748.out 4).trans rfl
                have hfz23_0 := blk_frozen BK748.out 0
                have hfz23_1 := blk_frozen BK748.out 1
                have hfz23_2 := blk_frozen BK748.out 2
                have hfz23_3 := blk_frozen BK748.out 3
                have hfz23_4 := blk_frozen BK748.out 4
                go_wp2_with (first | (go_at_call 41; (with_reducible refine (plan_Fit.calls k _ _ l0_0 _ _ l0_1 a0_2 a0_3 a0_4 true _ ?side1 ?side2 ?side3 ?side4 ?side5 A13.out).mono ?_); (case side1 => repeat (first | exact (Kd.C_below HR0_0.out HB.out) | (with_reducible refine Kd.C_alloc ?_ _) | (with_reducible refine Kd.C_drewN ?_ _) | (with_reducible refine Kd.C_drew ?_))); (case side2 => exact HC0_0.out); (case side3 => repeat (first | exact (Kd.C_below HR0_1.out HB.out) | (with_reducible refine Kd.C_alloc ?_ _) | (with_reducible refine Kd.C_drewN ?_ _) | (with_reducible refine Kd.C_drew ?_))); (case side4 => exact HC0_1.out); (case side5 => first | (with_reducible exact HG.out) | (refine GlobOk.below HG.out ?_; repeat (first | (with_reducible first | exact HB.out | apply below_alloc | apply pw_below_drewN | apply below_drew1 | refine below_set ?_ GE748.out) | exact HB.out))); rintro e w24 ⟨rfl, hb⟩; have n0_ := Aside0.mk (blk_below (g := gb748) (o := .cells #[.slice A0_0 l0_0.length c0_0, .slice A0_1 l0_1.length c0_1, .int .i64 a0_2, .int .i64 a0_3, .int .i64 a0_4] 39 (0, 0)) (by (with_reducible repeat (first | refine blk_drewN ?_ _ | refine blk_drew ?_ | refine blk_alloc ?_ _)); exact BK748.out) hb); have n1_ := Aside0.mk (below_step (by repeat (first | (with_reducible first | exact HB.out | apply below_alloc | apply pw_below_drewN | apply below_drew1 | refine below_set ?_ GE748.out) | exact HB.out)) hb); clear BK748; clear HB; have BK748 := n0_; have HB := n1_; clear n0_ n1_; (try clear hb); (try clear hb2); (try clear hk); (try clear hi); have hcz25_0 : w24.cell? ⟨gb748, 0, none⟩ = some (.slice A0_0 l0_0.length c0_0) := (blk_cell BK748.out 0).trans rfl; have hcz25_1 : w24.cell? ⟨gb748, 1, none⟩ = some (.slice A0_1 l0_1.length c0_1) := (blk_cell BK748.out 1).trans rfl; have hcz25_2 : w24.cell? ⟨gb748, 2, none⟩ = some (.int .i64 a0_2) := (blk_cell BK748.out 2).trans rfl; have hcz25_3 : w24.cell? ⟨gb748, 3, none⟩ = some (.int .i64 a0_3) := (blk_cell BK748.out 3).trans rfl; have hcz25_4 : w24.cell? ⟨gb748, 4, none⟩ = some (.int .i64 a0_4) := (blk_cell BK748.out 4).trans rfl; have hfz25_0 := blk_frozen BK748.out 0; have hfz25_1 := blk_frozen BK748.out 1; have hfz25_2 := blk_frozen BK748.out 2; have hfz25_3 := blk_frozen BK748.out 3; have hfz25_4 := blk_frozen BK748.out 4))
                go_meet
                case rel => exact ⟨_, (true), (by first | rfl | (simp; done) | (simp [*]; done)), H', ⟨by first | omega | exact Nat.le_refl _⟩, ⟨by (with_reducible repeat (first | refine blk_drewN ?_ _ | refine blk_drew ?_ | refine blk_alloc ?_ _)); exact BK748.out⟩, ⟨by repeat (first | (with_reducible first | exact HB.out | apply below_alloc | apply pw_below_drewN | apply below_drew1 | refine below_set ?_ GE748.out) | exact HB.out)⟩⟩
              · rw [if_neg c22] at H
                have c22b0 : decide (a2 < 0) = false := decide_eq_false c22
                clear c22
                have H' := Aside0.mk H
                clear H
                have hcz26_0 : w10.cell? ⟨gb748, 0, none⟩ = some (.slice A0_0 l0_0.length c0_0) := (blk_cell BK748.out 0).trans rfl
                have hcz26_1 : w10.cell? ⟨gb748, 1, none⟩ = some (.slice A0_1 l0_1.length c0_1) := (blk_cell BK748.out 1).trans rfl
                have hcz26_2 : w10.cell? ⟨gb748, 2, none⟩ = some (.int .i64 a0_2) := (blk_cell BK748.out 2).trans rfl
                have hcz26_3 : w10.cell? ⟨gb748, 3, none⟩ = some (.int .i64 a0_3) := (blk_cell BK748.out 3).trans rfl
                have hcz26_4 : w10.cell? ⟨gb748, 4, none⟩ = some (.int .i64 a0_4) := (blk_cell BK748.out 4).trans rfl
                have hfz26_0 := blk_frozen BK748.out 0
                have hfz26_1 := blk_frozen BK748.out 1
                have hfz26_2 := blk_frozen BK748.out 2
                have hfz26_3 := blk_frozen BK748.out 3
                have hfz26_4 := blk_frozen BK748.out 4
                go_wp2_with (first | (go_at_call 41; (with_reducible refine (plan_Fit.calls k _ _ l0_0 _ _ l0_1 a0_2 a0_3 a0_4 true _ ?side1 ?side2 ?side3 ?side4 ?side5 A13.out).mono ?_); (case side1 => repeat (first | exact (Kd.C_below HR0_0.out HB.out) | (with_reducible refine Kd.C_alloc ?_ _) | (with_reducible refine Kd.C_drewN ?_ _) | (with_reducible refine Kd.C_drew ?_))); (case side2 => exact HC0_0.out); (case side3 => repeat (first | exact (Kd.C_below HR0_1.out HB.out) | (with_reducible refine Kd.C_alloc ?_ _) | (with_reducible refine Kd.C_drewN ?_ _) | (with_reducible refine Kd.C_drew ?_))); (case side4 => exact HC0_1.out); (case side5 => first | (with_reducible exact HG.out) | (refine GlobOk.below HG.out ?_; repeat (first | (with_reducible first | exact HB.out | apply below_alloc | apply pw_below_drewN | apply below_drew1 | refine below_set ?_ GE748.out) | exact HB.out))); rintro e w27 ⟨rfl, hb⟩; have n0_ := Aside0.mk (blk_below (g := gb748) (o := .cells #[.slice A0_0 l0_0.length c0_0, .slice A0_1 l0_1.length c0_1, .int .i64 a0_2, .int .i64 a0_3, .int .i64 a0_4] 39 (0, 0)) (by (with_reducible repeat (first | refine blk_drewN ?_ _ | refine blk_drew ?_ | refine blk_alloc ?_ _)); exact BK748.out) hb); have n1_ := Aside0.mk (below_step (by repeat (first | (with_reducible first | exact HB.out | apply below_alloc | apply pw_below_drewN | apply below_drew1 | refine below_set ?_ GE748.out) | exact HB.out)) hb); clear BK748; clear HB; have BK748 := n0_; have HB := n1_; clear n0_ n1_; (try clear hb); (try clear hb2); (try clear hk); (try clear hi); have hcz28_0 : w27.cell? ⟨gb748, 0, none⟩ = some (.slice A0_0 l0_0.length c0_0) := (blk_cell BK748.out 0).trans rfl; have hcz28_1 : w27.cell? ⟨gb748, 1, none⟩ = some (.slice A0_1 l0_1.length c0_1) := (blk_cell BK748.out 1).trans rfl; have hcz28_2 : w27.cell? ⟨gb748, 2, none⟩ = some (.int .i64 a0_2) := (blk_cell BK748.out 2).trans rfl; have hcz28_3 : w27.cell? ⟨gb748, 3, none⟩ = some (.int .i64 a0_3) := (blk_cell BK748.out 3).trans rfl; have hcz28_4 : w27.cell? ⟨gb748, 4, none⟩ = some (.int .i64 a0_4) := (blk_cell BK748.out 4).trans rfl; have hfz28_0 := blk_frozen BK748.out 0; have hfz28_1 := blk_frozen BK748.out 1; have hfz28_2 := blk_frozen BK748.out 2; have hfz28_3 := blk_frozen BK748.out 3; have hfz28_4 := blk_frozen BK748.out 4))
                go_meet
                case rel => exact ⟨_, (decide (a2 ≥ (l0_0.length : Int))), (by first | rfl | (simp; done) | (simp [*]; done)), H', ⟨by first | omega | exact Nat.le_refl _⟩, ⟨by (with_reducible repeat (first | refine blk_drewN ?_ _ | refine blk_drew ?_ | refine blk_alloc ?_ _)); exact BK748.out⟩, ⟨by repeat (first | (with_reducible first | exact HB.out | apply below_alloc | apply pw_below_drewN | apply below_drew1 | refine below_set ?_ GE748.out) | exact HB.out)⟩⟩
        · replace c14 := Bool.eq_false_iff.mpr c14
          subst c14
          have H1 : (pelicanlaw15_LampShow.j0 k a1 a2 true true l0_0 l0_1 a0_2 a0_3 a0_4) = some r := by rw [if_neg (show ¬ (false = true) by decide)] at H; exact H
          clear H
          have H := H1
          clear H1
          have H' := Aside0.mk H
          clear H
          have hcz29_0 : w10.cell? ⟨gb748, 0, none⟩ = some (.slice A0_0 l0_0.length c0_0) := (blk_cell BK748.out 0).trans rfl
          have hcz29_1 : w10.cell? ⟨gb748, 1, none⟩ = some (.slice A0_1 l0_1.length c0_1) := (blk_cell BK748.out 1).trans rfl
          have hcz29_2 : w10.cell? ⟨gb748, 2, none⟩ = some (.int .i64 a0_2) := (blk_cell BK748.out 2).trans rfl
          have hcz29_3 : w10.cell? ⟨gb748, 3, none⟩ = some (.int .i64 a0_3) := (blk_cell BK748.out 3).trans rfl
          have hcz29_4 : w10.cell? ⟨gb748, 4, none⟩ = some (.int .i64 a0_4) := (blk_cell BK748.out 4).trans rfl
          have hfz29_0 := blk_frozen BK748.out 0
          have hfz29_1 := blk_frozen BK748.out 1
          have hfz29_2 := blk_frozen BK748.out 2
          have hfz29_3 := blk_frozen BK748.out 3
          have hfz29_4 := blk_frozen BK748.out 4
          go_wp2_with (first | (go_at_call 41; (with_reducible refine (plan_Fit.calls k _ _ l0_0 _ _ l0_1 a0_2 a0_3 a0_4 false _ ?side1 ?side2 ?side3 ?side4 ?side5 A13.out).mono ?_); (case side1 => repeat (first | exact (Kd.C_below HR0_0.out HB.out) | (with_reducible refine Kd.C_alloc ?_ _) | (with_reducible refine Kd.C_drewN ?_ _) | (with_reducible refine Kd.C_drew ?_))); (case side2 => exact HC0_0.out); (case side3 => repeat (first | exact (Kd.C_below HR0_1.out HB.out) | (with_reducible refine Kd.C_alloc ?_ _) | (with_reducible refine Kd.C_drewN ?_ _) | (with_reducible refine Kd.C_drew ?_))); (case side4 => exact HC0_1.out); (case side5 => first | (with_reducible exact HG.out) | (refine GlobOk.below HG.out ?_; repeat (first | (with_reducible first | exact HB.out | apply below_alloc | apply pw_below_drewN | apply below_drew1 | refine below_set ?_ GE748.out) | exact HB.out))); rintro e w30 ⟨rfl, hb⟩; have n0_ := Aside0.mk (blk_below (g := gb748) (o := .cells #[.slice A0_0 l0_0.length c0_0, .slice A0_1 l0_1.length c0_1, .int .i64 a0_2, .int .i64 a0_3, .int .i64 a0_4] 39 (0, 0)) (by (with_reducible repeat (first | refine blk_drewN ?_ _ | refine blk_drew ?_ | refine blk_alloc ?_ _)); exact BK748.out) hb); have n1_ := Aside0.mk (below_step (by repeat (first | (with_reducible first | exact HB.out | apply below_alloc | apply pw_below_drewN | apply below_drew1 | refine below_set ?_ GE748.out) | exact HB.out)) hb); clear BK748; clear HB; have BK748 := n0_; have HB := n1_; clear n0_ n1_; (try clear hb); (try clear hb2); (try clear hk); (try clear hi)))
          go_meet
          case rel => exact ⟨_, (true), (by first | rfl | (simp; done) | (simp [*]; done)), H', ⟨by first | omega | exact Nat.le_refl _⟩, ⟨by (with_reducible repeat (first | refine blk_drewN ?_ _ | refine blk_drew ?_ | refine blk_alloc ?_ _)); exact BK748.out⟩, ⟨by repeat (first | (with_reducible first | exact HB.out | apply below_alloc | apply pw_below_drewN | apply below_drew1 | refine below_set ?_ GE748.out) | exact HB.out)⟩⟩
      · replace c12 := Bool.eq_false_iff.mpr c12
        subst c12
        have H1 : (pelicanlaw15_LampShow.j0 k a1 a2 true true l0_0 l0_1 a0_2 a0_3 a0_4) = some r := by rw [if_neg (show ¬ (false = true) by decide)] at H; exact H
        clear H
        have H := H1
        clear H1
        have H' := Aside0.mk H
        clear H
        go_wp2
        go_meet
        case rel => exact ⟨_, (true), (by first | rfl | (simp; done) | (simp [*]; done)), H', ⟨by first | omega | exact Nat.le_refl _⟩, ⟨by (with_reducible repeat (first | refine blk_drewN ?_ _ | refine blk_drew ?_ | refine blk_alloc ?_ _)); exact BK748.out⟩, ⟨by repeat (first | (with_reducible first | exact HB.out | apply below_alloc | apply pw_below_drewN | apply below_drew1 | refine below_set ?_ GE748.out) | exact HB.out)⟩⟩
    · replace c11 := Bool.eq_false_iff.mpr c11
      subst c11
      have H1 : (pelicanlaw15_LampShow.j0 k a1 a2 false true l0_0 l0_1 a0_2 a0_3 a0_4) = some r := by rw [if_neg (show ¬ (false = true) by decide)] at H; exact H
      clear H
      have H := H1
      clear H1
      have H' := Aside0.mk H
      clear H
      go_wp2
      go_meet
      case rel => exact ⟨_, (true), (by first | rfl | (simp; done) | (simp [*]; done)), H', ⟨by first | omega | exact Nat.le_refl _⟩, ⟨by (with_reducible repeat (first | refine blk_drewN ?_ _ | refine blk_drew ?_ | refine blk_alloc ?_ _)); exact BK748.out⟩, ⟨by repeat (first | (with_reducible first | exact HB.out | apply below_alloc | apply pw_below_drewN | apply below_drew1 | refine below_set ?_ GE748.out) | exact HB.out)⟩⟩
  case rest =>
    clear HC6
    try clear c1
    try clear c2
    try clear p2
    try clear c3
    try clear c11
    try clear c12
    try clear c14
    try clear c15
    try clear c15b0
    try clear c18
    try clear c18b0
    try clear c22
    try clear c22b0
    try clear c30
    try clear hcz16_0
    try clear hcz16_1
    try clear hcz16_2
    try clear hcz16_3
    try clear hcz16_4
    try clear hcz19_0
    try clear hcz19_1
    try clear hcz19_2
    try clear hcz19_3
    try clear hcz19_4
    try clear hcz21_0
    try clear hcz21_1
    try clear hcz21_2
    try clear hcz21_3
    try clear hcz21_4
    try clear hcz23_0
    try clear hcz23_1
    try clear hcz23_2
    try clear hcz23_3
    try clear hcz23_4
    try clear hcz25_0
    try clear hcz25_1
    try clear hcz25_2
    try clear hcz25_3
    try clear hcz25_4
    try clear hcz26_0
    try clear hcz26_1
    try clear hcz26_2
    try clear hcz26_3
    try clear hcz26_4
    try clear hcz28_0
    try clear hcz28_1
    try clear hcz28_2
    try clear hcz28_3
    try clear hcz28_4
    try clear hcz29_0
    try clear hcz29_1
    try clear hcz29_2
    try clear hcz29_3
    try clear hcz29_4
    try clear hcz9_0
    try clear hcz9_1
    try clear hcz9_2
    try clear hcz9_3
    try clear hcz9_4
    try clear hfz16_0
    try clear hfz16_1
    try clear hfz16_2
    try clear hfz16_3
    try clear hfz16_4
    try clear hfz19_0
    try clear hfz19_1
    try clear hfz19_2
    try clear hfz19_3
    try clear hfz19_4
    try clear hfz21_0
    try clear hfz21_1
    try clear hfz21_2
    try clear hfz21_3
    try clear hfz21_4
    try clear hfz23_0
    try clear hfz23_1
    try clear hfz23_2
    try clear hfz23_3
    try clear hfz23_4
    try clear hfz25_0
    try clear hfz25_1
    try clear hfz25_2
    try clear hfz25_3
    try clear hfz25_4
    try clear hfz26_0
    try clear hfz26_1
    try clear hfz26_2
    try clear hfz26_3
    try clear hfz26_4
    try clear hfz28_0
    try clear hfz28_1
    try clear hfz28_2
    try clear hfz28_3
    try clear hfz28_4
    try clear hfz29_0
    try clear hfz29_1
    try clear hfz29_2
    try clear hfz29_3
    try clear hfz29_4
    try clear hfz9_0
    try clear hfz9_1
    try clear hfz9_2
    try clear hfz9_3
    try clear hfz9_4
    obtain ⟨kq, x48_5, rfl, HA, HJ5, BK748, HB⟩ := hcut
    cases kq with
    | zero => exact absurd HA.out (by simp [pelicanlaw15_LampShow.j0])
    | succ kj5 =>
      have H := HA.out
      clear HA
      simp only [pelicanlaw15_LampShow.j0] at H
      by_cases c31 : x48_5 = true
      · subst c31
        have H1 : (some t749) = some r := by rw [if_pos rfl] at H; exact H
        clear H
        have H := H1
        clear H1
        obtain rfl := Option.some.inj H
        go_wp2
        go_ret
        exact ⟨by first | rfl | (simp [errW_none, errW_some] <;> rfl) | (simp [*, errW_none, errW_some] <;> rfl), by repeat (first | (with_reducible first | exact HB.out | apply below_alloc | apply pw_below_drewN | apply below_drew1 | refine below_set ?_ GE748.out) | exact HB.out)⟩
      · replace c31 := Bool.eq_false_iff.mpr c31
        subst c31
        have H1 : ((lamp_Show.f l0_0 l0_1 a0_2 a0_3 a0_4 a1 0).bind fun t752 => ((lamp_Show.f l0_0 l0_1 a0_2 a0_3 a0_4 a1 1).bind fun t755 => ((lamp_Show.f l0_0 l0_1 a0_2 a0_3 a0_4 a1 2).bind fun t758 => (if (t752.length : Int) = (l0_0.length : Int) then (if (t755.length : Int) = (l0_0.length : Int) then (if (t758.length : Int) = (l0_0.length : Int) then (if 0 ≤ a1 then (if a1 < (l0_1.length : Int) then (if 0 ≤ a2 then (if a2 < (t758.length : Int) then (if (rd t758 a2) = 0 then (if (Go.bits .and .i64 (shr .i64 ((rd_T41 l0_1 a1).f0) a2) 1) = 1 then (if a2 < (t752.length : Int) then (if (rd t752 a2) = 2 then (if a2 < (t755.length : Int) then (if (rd t755 a2) = 1 then (some true) else (if ((Go.bits .and .i64 (shr .i64 ((rd_T41 l0_1 a1).f0) a2) 1) = 1) then (some false) else (if (rd t752 a2) = 0 then (some ((rd t755 a2) == 0)) else (some false)))) else (none)) else (if ((Go.bits .and .i64 (shr .i64 ((rd_T41 l0_1 a1).f0) a2) 1) = 1) then (some false) else (if (rd t752 a2) = 0 then (if a2 < (t755.length : Int) then (some ((rd t755 a2) == 0)) else (none)) else (some false)))) else (none)) else (if ((Go.bits .and .i64 (shr .i64 ((rd_T41 l0_1 a1).f0) a2) 1) = 1) then (some false) else (if a2 < (t752.length : Int) then (if (rd t752 a2) = 0 then (if a2 < (t755.length : Int) then (some ((rd t755 a2) == 0)) else (none)) else (some false)) else (none)))) else (some false)) else (none)) else (none)) else (none)) else (none)) else (some false)) else (some false)) else (some false))))) = some r := by rw [if_neg (show ¬ (false = true) by decide)] at H; exact H
        clear H
        have H := H1
        clear H1
        replace H := Option.bind_eq_some_iff.mp H
        obtain ⟨t752, A320, H⟩ := H
        replace H : ((lamp_Show.f l0_0 l0_1 a0_2 a0_3 a0_4 a1 1).bind fun t755 => ((lamp_Show.f l0_0 l0_1 a0_2 a0_3 a0_4 a1 2).bind fun t758 => (if (t752.length : Int) = (l0_0.length : Int) then (if (t755.length : Int) = (l0_0.length : Int) then (if (t758.length : Int) = (l0_0.length : Int) then (if 0 ≤ a1 then (if a1 < (l0_1.length : Int) then (if 0 ≤ a2 then (if a2 < (t758.length : Int) then (if (rd t758 a2) = 0 then (if (Go.bits .and .i64 (shr .i64 ((rd_T41 l0_1 a1).f0) a2) 1) = 1 then (if a2 < (t752.length : Int) then (if (rd t752 a2) = 2 then (if a2 < (t755.length : Int) then (if (rd t755 a2) = 1 then (some true) else (if ((Go.bits .and .i64 (shr .i64 ((rd_T41 l0_1 a1).f0) a2) 1) = 1) then (some false) else (if (rd t752 a2) = 0 then (some ((rd t755 a2) == 0)) else (some false)))) else (none)) else (if ((Go.bits .and .i64 (shr .i64 ((rd_T41 l0_1 a1).f0) a2) 1) = 1) then (some false) else (if (rd t752 a2) = 0 then (if a2 < (t755.length : Int) then (some ((rd t755 a2) == 0)) else (none)) else (some false)))) else (none)) else (if ((Go.bits .and .i64 (shr .i64 ((rd_T41 l0_1 a1).f0) a2) 1) = 1) then (some false) else (if a2 < (t752.length : Int) then (if (rd t752 a2) = 0 then (if a2 < (t755.length : Int) then (some ((rd t755 a2) == 0)) else (none)) else (some false)) else (none)))) else (some false)) else (none)) else (none)) else (none)) else (none)) else (some false)) else (some false)) else (some false)))) = some r := H
        have A32 := Aside0.mk A320
        clear A320
        replace H := Option.bind_eq_some_iff.mp H
        obtain ⟨t755, A330, H⟩ := H
        replace H : ((lamp_Show.f l0_0 l0_1 a0_2 a0_3 a0_4 a1 2).bind fun t758 => (if (t752.length : Int) = (l0_0.length : Int) then (if (t755.length : Int) = (l0_0.length : Int) then (if (t758.length : Int) = (l0_0.length : Int) then (if 0 ≤ a1 then (if a1 < (l0_1.length : Int) then (if 0 ≤ a2 then (if a2 < (t758.length : Int) then (if (rd t758 a2) = 0 then (if (Go.bits .and .i64 (shr .i64 ((rd_T41 l0_1 a1).f0) a2) 1) = 1 then (if a2 < (t752.length : Int) then (if (rd t752 a2) = 2 then (if a2 < (t755.length : Int) then (if (rd t755 a2) = 1 then (some true) else (if ((Go.bits .and .i64 (shr .i64 ((rd_T41 l0_1 a1).f0) a2) 1) = 1) then (some false) else (if (rd t752 a2) = 0 then (some ((rd t755 a2) == 0)) else (some false)))) else (none)) else (if ((Go.bits .and .i64 (shr .i64 ((rd_T41 l0_1 a1).f0) a2) 1) = 1) then (some false) else (if (rd t752 a2) = 0 then (if a2 < (t755.length : Int) then (some ((rd t755 a2) == 0)) else (none)) else (some false)))) else (none)) else (if ((Go.bits .and .i64 (shr .i64 ((rd_T41 l0_1 a1).f0) a2) 1) = 1) then (some false) else (if a2 < (t752.length : Int) then (if (rd t752 a2) = 0 then (if a2 < (t755.length : Int) then (some ((rd t755 a2) == 0)) else (none)) else (some false)) else (none)))) else (some false)) else (none)) else (none)) else (none)) else (none)) else (some false)) else (some false)) else (some false))) = some r := H
        have A33 := Aside0.mk A330
        clear A330
        replace H := Option.bind_eq_some_iff.mp H
        obtain ⟨t758, A340, H⟩ := H
        replace H : (if (t752.length : Int) = (l0_0.length : Int) then (if (t755.length : Int) = (l0_0.length : Int) then (if (t758.length : Int) = (l0_0.length : Int) then (if 0 ≤ a1 then (if a1 < (l0_1.length : Int) then (if 0 ≤ a2 then (if a2 < (t758.length : Int) then (if (rd t758 a2) = 0 then (if (Go.bits .and .i64 (shr .i64 ((rd_T41 l0_1 a1).f0) a2) 1) = 1 then (if a2 < (t752.length : Int) then (if (rd t752 a2) = 2 then (if a2 < (t755.length : Int) then (if (rd t755 a2) = 1 then (some true) else (if ((Go.bits .and .i64 (shr .i64 ((rd_T41 l0_1 a1).f0) a2) 1) = 1) then (some false) else (if (rd t752 a2) = 0 then (some ((rd t755 a2) == 0)) else (some false)))) else (none)) else (if ((Go.bits .and .i64 (shr .i64 ((rd_T41 l0_1 a1).f0) a2) 1) = 1) then (some false) else (if (rd t752 a2) = 0 then (if a2 < (t755.length : Int) then (some ((rd t755 a2) == 0)) else (none)) else (some false)))) else (none)) else (if ((Go.bits .and .i64 (shr .i64 ((rd_T41 l0_1 a1).f0) a2) 1) = 1) then (some false) else (if a2 < (t752.length : Int) then (if (rd t752 a2) = 0 then (if a2 < (t755.length : Int) then (some ((rd t755 a2) == 0)) else (none)) else (some false)) else (none)))) else (some false)) else (none)) else (none)) else (none)) else (none)) else (some false)) else (some false)) else (some false)) = some r := H
        have A34 := Aside0.mk A340
        clear A340
        by_cases c35 : (t752.length : Int) = (l0_0.length : Int)
        · rw [if_pos c35] at H
          have c35b0 : ((t752.length : Int) == (l0_0.length : Int)) = true := beq_iff_eq.mpr c35
          have c35b1 : ((t752.length : Int) != (l0_0.length : Int)) = false := bne_eq_false_iff_eq.mpr c35
          have c35b2 : (t752.length == l0_0.length) = true := by first | simpa using c35 | (simp at c35 ⊢; omega)
          clear c35
          by_cases c36 : (t755.length : Int) = (l0_0.length : Int)
          · rw [if_pos c36] at H
            have c36b0 : ((t755.length : Int) == (l0_0.length : Int)) = true := beq_iff_eq.mpr c36
            have c36b1 : ((t755.length : Int) != (l0_0.length : Int)) = false := bne_eq_false_iff_eq.mpr c36
            have c36b2 : (t755.length == l0_0.length) = true := by first | simpa using c36 | (simp at c36 ⊢; omega)
            clear c36
            by_cases c37 : (t758.length : Int) = (l0_0.length : Int)
            · rw [if_pos c37] at H
              have c37b0 : ((t758.length : Int) == (l0_0.length : Int)) = true := beq_iff_eq.mpr c37
              have c37b1 : ((t758.length : Int) != (l0_0.length : Int)) = false := bne_eq_false_iff_eq.mpr c37
              have c37b2 : (t758.length == l0_0.length) = true := by first | simpa using c37 | (simp at c37 ⊢; omega)
              clear c37
              by_cases c38 : 0 ≤ a1
              · rw [if_pos c38] at H
                have c38b0 : decide (0 ≤ a1) = true := decide_eq_true c38
                clear c38
                by_cases c39 : a1 < (l0_1.length : Int)
                · rw [if_pos c39] at H
                  have c39b0 : decide (a1 < (l0_1.length : Int)) = true := decide_eq_true c39
                  clear c39
                  by_cases c40 : 0 ≤ a2
                  · rw [if_pos c40] at H
                    have c40b0 := eq_true c40
                    have c40b1 : decide (0 ≤ a2) = true := decide_eq_true c40
                    clear c40
                    obtain ⟨ji41, hji41⟩ : ∃ j_ : Int, (shr .i64 ((rd_T41 l0_1 a1).f0) a2) = j_ := ⟨_, rfl⟩
                    replace H : (if a2 < (t758.length : Int) then (if (rd t758 a2) = 0 then (if (Go.bits .and .i64 (ji41) 1) = 1 then (if a2 < (t752.length : Int) then (if (rd t752 a2) = 2 then (if a2 < (t755.length : Int) then (if (rd t755 a2) = 1 then (some true) else (if ((Go.bits .and .i64 (ji41) 1) = 1) then (some false) else (if (rd t752 a2) = 0 then (some ((rd t755 a2) == 0)) else (some false)))) else (none)) else (if ((Go.bits .and .i64 (ji41) 1) = 1) then (some false) else (if (rd t752 a2) = 0 then (if a2 < (t755.length : Int) then (some ((rd t755 a2) == 0)) else (none)) else (some false)))) else (none)) else (if ((Go.bits .and .i64 (ji41) 1) = 1) then (some false) else (if a2 < (t752.length : Int) then (if (rd t752 a2) = 0 then (if a2 < (t755.length : Int) then (some ((rd t755 a2) == 0)) else (none)) else (some false)) else (none)))) else (some false)) else (none)) = some r := by first | (rw [hji41] at H; exact H) | (simp only [hji41] at H ⊢; exact H)
                    (try rw [hji41] at A32)
                    (try rw [hji41] at A33)
                    (try rw [hji41] at A34)
                    have hji41_ : (((rd_T41 l0_1 a1).f0) / 2 ^ min a2.toNat 64) = ji41 := hji41
                    have hji41z : a2 ≤ 64 → (((rd_T41 l0_1 a1).f0) / 2 ^ a2.toNat) = ji41 := shr_small hji41
                    by_cases c42 : a2 < (t758.length : Int)
                    · rw [if_pos c42] at H
                      have c42b0 : decide (a2 < (t758.length : Int)) = true := decide_eq_true c42
                      clear c42
                      by_cases c43 : (rd t758 a2) = 0
                      · rw [if_pos c43] at H
                        have c43b0 : ((rd t758 a2) == 0) = true := beq_iff_eq.mpr c43
                        have c43b1 : ((rd t758 a2) != 0) = false := bne_eq_false_iff_eq.mpr c43
                        clear c43
                        by_cases c44 : (Go.bits .and .i64 (ji41) 1) = 1
                        · rw [if_pos c44] at H
                          have c44b0 : ((Go.bits .and .i64 (ji41) 1) == 1) = true := beq_iff_eq.mpr c44
                          have c44b1 : ((Go.bits .and .i64 (ji41) 1) != 1) = false := bne_eq_false_iff_eq.mpr c44
                          clear c44
                          by_cases c45 : a2 < (t752.length : Int)
                          · rw [if_pos c45] at H
                            have c45b0 : decide (a2 < (t752.length : Int)) = true := decide_eq_true c45
                            clear c45
                            by_cases c46 : (rd t752 a2) = 2
                            · rw [if_pos c46] at H
                              have c46b0 : ((rd t752 a2) == 2) = true := beq_iff_eq.mpr c46
                              have c46b1 : ((rd t752 a2) != 2) = false := bne_eq_false_iff_eq.mpr c46
                              clear c46
                              by_cases c47 : a2 < (t755.length : Int)
                              · rw [if_pos c47] at H
                                have c47b0 : decide (a2 < (t755.length : Int)) = true := decide_eq_true c47
                                clear c47
                                by_cases c48 : (rd t755 a2) = 1
                                · rw [if_pos c48] at H
                                  have c48b0 : ((rd t755 a2) == 1) = true := beq_iff_eq.mpr c48
                                  have c48b1 : ((rd t755 a2) != 1) = false := bne_eq_false_iff_eq.mpr c48
                                  clear c48
                                  obtain rfl := Option.some.inj H
                                  have hcz49_0 : wc.cell? ⟨gb748, 0, none⟩ = some (.slice A0_0 l0_0.length c0_0) := (blk_cell BK748.out 0).trans rfl
                                  have hcz49_1 : wc.cell? ⟨gb748, 1, none⟩ = some (.slice A0_1 l0_1.length c0_1) := (blk_cell BK748.out 1).trans rfl
                                  have hcz49_2 : wc.cell? ⟨gb748, 2, none⟩ = some (.int .i64 a0_2) := (blk_cell BK748.out 2).trans rfl
                                  have hcz49_3 : wc.cell? ⟨gb748, 3, none⟩ = some (.int .i64 a0_3) := (blk_cell BK748.out 3).trans rfl
                                  have hcz49_4 : wc.cell? ⟨gb748, 4, none⟩ = some (.int .i64 a0_4) := (blk_cell BK748.out 4).trans rfl
                                  have hfz49_0 := blk_frozen BK748.out 0
                                  have hfz49_1 := blk_frozen BK748.out 1
                                  have hfz49_2 := blk_frozen BK748.out 2
                                  have hfz49_3 := blk_frozen BK748.out 3
                                  have hfz49_4 := blk_frozen BK748.out 4
                                  go_wp2_with (first | ((with_reducible refine gate_callee (f := 35) rfl ?_); refine goesL_ (some 52) rfl rfl Tryd.func35 (by kernel_rfl) rfl #[.agg #[.slice A0_0 l0_0.length c0_0, .slice A0_1 l0_1.length c0_1, .int .i64 a0_2, .int .i64 a0_3, .int .i64 a0_4], .int .i64 a1, .int .i64 0] rfl (by (try simp only [List.map_toArray, List.map_cons, List.map_nil]); first | done | rfl | (simp only [List.length_drop, List.length_take]; rfl)) ?_; (with_reducible refine (lamp_Show.calls _ _ l0_0 _ _ l0_1 a0_2 a0_3 a0_4 a1 0 t752 _ ?side1 ?side2 ?side3 ?side4 ?side5 A32.out).mono ?_); (case side1 => repeat (first | exact (Kd.C_below HR0_0.out HB.out) | (with_reducible refine Kd.C_alloc ?_ _) | (with_reducible refine Kd.C_drewN ?_ _) | (with_reducible refine Kd.C_drew ?_))); (case side2 => exact HC0_0.out); (case side3 => repeat (first | exact (Kd.C_below HR0_1.out HB.out) | (with_reducible refine Kd.C_alloc ?_ _) | (with_reducible refine Kd.C_drewN ?_ _) | (with_reducible refine Kd.C_drew ?_))); (case side4 => exact HC0_1.out); (case side5 => first | (with_reducible exact HG.out) | (refine GlobOk.below HG.out ?_; repeat (first | (with_reducible first | exact HB.out | apply below_alloc | apply pw_below_drewN | apply below_drew1 | refine below_set ?_ GE748.out) | exact HB.out))); rintro e w50 ⟨v753, rfl, ho0, hb⟩; refine ⟨_, rfl, ?_⟩; have n0_ := Aside0.mk (Kd.R_lower ho0 (below_size (by repeat (first | (with_reducible first | exact HB.out | apply below_alloc | apply pw_below_drewN | apply below_drew1 | refine below_set ?_ GE748.out) | exact HB.out)))); have n1_ := Aside0.mk (blk_below (g := gb748) (o := .cells #[.slice A0_0 l0_0.length c0_0, .slice A0_1 l0_1.length c0_1, .int .i64 a0_2, .int .i64 a0_3, .int .i64 a0_4] 39 (0, 0)) (by (with_reducible repeat (first | refine blk_drewN ?_ _ | refine blk_drew ?_ | refine blk_alloc ?_ _)); exact BK748.out) hb); have n2_ := Aside0.mk (below_step (by repeat (first | (with_reducible first | exact HB.out | apply below_alloc | apply pw_below_drewN | apply below_drew1 | refine below_set ?_ GE748.out) | exact HB.out)) hb); clear BK748; clear HB; have HO754 := n0_; have BK748 := n1_; have HB := n2_; clear n0_ n1_ n2_; (try clear hb); (try clear hb2); (try clear hk); (try clear hi); (try clear ho0); have hcz51_0 : w50.cell? ⟨gb748, 0, none⟩ = some (.slice A0_0 l0_0.length c0_0) := (blk_cell BK748.out 0).trans rfl; have hcz51_1 : w50.cell? ⟨gb748, 1, none⟩ = some (.slice A0_1 l0_1.length c0_1) := (blk_cell BK748.out 1).trans rfl; have hcz51_2 : w50.cell? ⟨gb748, 2, none⟩ = some (.int .i64 a0_2) := (blk_cell BK748.out 2).trans rfl; have hcz51_3 : w50.cell? ⟨gb748, 3, none⟩ = some (.int .i64 a0_3) := (blk_cell BK748.out 3).trans rfl; have hcz51_4 : w50.cell? ⟨gb748, 4, none⟩ = some (.int .i64 a0_4) := (blk_cell BK748.out 4).trans rfl; have hfz51_0 := blk_frozen BK748.out 0; have hfz51_1 := blk_frozen BK748.out 1; have hfz51_2 := blk_frozen BK748.out 2; have hfz51_3 := blk_frozen BK748.out 3; have hfz51_4 := blk_frozen BK748.out 4) | ((with_reducible refine gate_callee (f := 35) rfl ?_); refine goesL_ (some 55) rfl rfl Tryd.func35 (by kernel_rfl) rfl #[.agg #[.slice A0_0 l0_0.length c0_0, .slice A0_1 l0_1.length c0_1, .int .i64 a0_2, .int .i64 a0_3, .int .i64 a0_4], .int .i64 a1, .int .i64 1] rfl (by (try simp only [List.map_toArray, List.map_cons, List.map_nil]); first | done | rfl | (simp only [List.length_drop, List.length_take]; rfl)) ?_; (with_reducible refine (lamp_Show.calls _ _ l0_0 _ _ l0_1 a0_2 a0_3 a0_4 a1 1 t755 _ ?side1 ?side2 ?side3 ?side4 ?side5 A33.out).mono ?_); (case side1 => repeat (first | exact (Kd.C_below HR0_0.out HB.out) | (with_reducible refine Kd.C_alloc ?_ _) | (with_reducible refine Kd.C_drewN ?_ _) | (with_reducible refine Kd.C_drew ?_))); (case side2 => exact HC0_0.out); (case side3 => repeat (first | exact (Kd.C_below HR0_1.out HB.out) | (with_reducible refine Kd.C_alloc ?_ _) | (with_reducible refine Kd.C_drewN ?_ _) | (with_reducible refine Kd.C_drew ?_))); (case side4 => exact HC0_1.out); (case side5 => first | (with_reducible exact HG.out) | (refine GlobOk.below HG.out ?_; repeat (first | (with_reducible first | exact HB.out | apply below_alloc | apply pw_below_drewN | apply below_drew1 | refine below_set ?_ GE748.out) | exact HB.out))); rintro e w52 ⟨v756, rfl, ho0, hb⟩; refine ⟨_, rfl, ?_⟩; have n0_ := Aside0.mk (Kd.R_elder' (by (with_reducible repeat (first | apply Kd.R_alloc | apply Kd.R_drewN | apply Kd.R_drew)); exact HO754.out) (Kd.R_base ho0) hb); have n1_ := Aside0.mk (Kd.R_lower (Kd.R_new' ho0 (Kd.R_lt (by (with_reducible repeat (first | apply Kd.R_alloc | apply Kd.R_drewN | apply Kd.R_drew)); exact HO754.out))) (below_size (by repeat (first | (with_reducible first | exact HB.out | apply below_alloc | apply pw_below_drewN | apply below_drew1 | refine below_set ?_ GE748.out) | exact HB.out)))); have n2_ := Aside0.mk (blk_below (g := gb748) (o := .cells #[.slice A0_0 l0_0.length c0_0, .slice A0_1 l0_1.length c0_1, .int .i64 a0_2, .int .i64 a0_3, .int .i64 a0_4] 39 (0, 0)) (by (with_reducible repeat (first | refine blk_drewN ?_ _ | refine blk_drew ?_ | refine blk_alloc ?_ _)); exact BK748.out) hb); have n3_ := Aside0.mk (below_step (by repeat (first | (with_reducible first | exact HB.out | apply below_alloc | apply pw_below_drewN | apply below_drew1 | refine below_set ?_ GE748.out) | exact HB.out)) hb); clear HO754; clear BK748; clear HB; have HO754 := n0_; have HO757 := n1_; have BK748 := n2_; have HB := n3_; clear n0_ n1_ n2_ n3_; (try clear hb); (try clear hb2); (try clear hk); (try clear hi); (try clear ho0); have hcz53_0 : w52.cell? ⟨gb748, 0, none⟩ = some (.slice A0_0 l0_0.length c0_0) := (blk_cell BK748.out 0).trans rfl; have hcz53_1 : w52.cell? ⟨gb748, 1, none⟩ = some (.slice A0_1 l0_1.length c0_1) := (blk_cell BK748.out 1).trans rfl; have hcz53_2 : w52.cell? ⟨gb748, 2, none⟩ = some (.int .i64 a0_2) := (blk_cell BK748.out 2).trans rfl; have hcz53_3 : w52.cell? ⟨gb748, 3, none⟩ = some (.int .i64 a0_3) := (blk_cell BK748.out 3).trans rfl; have hcz53_4 : w52.cell? ⟨gb748, 4, none⟩ = some (.int .i64 a0_4) := (blk_cell BK748.out 4).trans rfl; have hfz53_0 := blk_frozen BK748.out 0; have hfz53_1 := blk_frozen BK748.out 1; have hfz53_2 := blk_frozen BK748.out 2; have hfz53_3 := blk_frozen BK748.out 3; have hfz53_4 := blk_frozen BK748.out 4) | ((with_reducible refine gate_callee (f := 35) rfl ?_); refine goesL_ (some 58) rfl rfl Tryd.func35 (by kernel_rfl) rfl #[.agg #[.slice A0_0 l0_0.length c0_0, .slice A0_1 l0_1.length c0_1, .int .i64 a0_2, .int .i64 a0_3, .int .i64 a0_4], .int .i64 a1, .int .i64 2] rfl (by (try simp only [List.map_toArray, List.map_cons, List.map_nil]); first | done | rfl | (simp only [List.length_drop, List.length_take]; rfl)) ?_; (with_reducible refine (lamp_Show.calls _ _ l0_0 _ _ l0_1 a0_2 a0_3 a0_4 a1 2 t758 _ ?side1 ?side2 ?side3 ?side4 ?side5 A34.out).mono ?_); (case side1 => repeat (first | exact (Kd.C_below HR0_0.out HB.out) | (with_reducible refine Kd.C_alloc ?_ _) | (with_reducible refine Kd.C_drewN ?_ _) | (with_reducible refine Kd.C_drew ?_))); (case side2 => exact HC0_0.out); (case side3 => repeat (first | exact (Kd.C_below HR0_1.out HB.out) | (with_reducible refine Kd.C_alloc ?_ _) | (with_reducible refine Kd.C_drewN ?_ _) | (with_reducible refine Kd.C_drew ?_))); (case side4 => exact HC0_1.out); (case side5 => first | (with_reducible exact HG.out) | (refine GlobOk.below HG.out ?_; repeat (first | (with_reducible first | exact HB.out | apply below_alloc | apply pw_below_drewN | apply below_drew1 | refine below_set ?_ GE748.out) | exact HB.out))); rintro e w54 ⟨v759, rfl, ho0, hb⟩; refine ⟨_, rfl, ?_⟩; have n0_ := Aside0.mk (Kd.R_elder' (by (with_reducible repeat (first | apply Kd.R_alloc | apply Kd.R_drewN | apply Kd.R_drew)); exact HO754.out) (Kd.R_base ho0) hb); have n1_ := Aside0.mk (Kd.R_elder' (by (with_reducible repeat (first | apply Kd.R_alloc | apply Kd.R_drewN | apply Kd.R_drew)); exact HO757.out) (Kd.R_base ho0) hb); have n2_ := Aside0.mk (Kd.R_lower (Kd.R_new' (Kd.R_new' ho0 (Kd.R_lt (by (with_reducible repeat (first | apply Kd.R_alloc | apply Kd.R_drewN | apply Kd.R_drew)); exact HO754.out))) (Kd.R_lt (by (with_reducible repeat (first | apply Kd.R_alloc | apply Kd.R_drewN | apply Kd.R_drew)); exact HO757.out))) (below_size (by repeat (first | (with_reducible first | exact HB.out | apply below_alloc | apply pw_below_drewN | apply below_drew1 | refine below_set ?_ GE748.out) | exact HB.out)))); have n3_ := Aside0.mk (blk_below (g := gb748) (o := .cells #[.slice A0_0 l0_0.length c0_0, .slice A0_1 l0_1.length c0_1, .int .i64 a0_2, .int .i64 a0_3, .int .i64 a0_4] 39 (0, 0)) (by (with_reducible repeat (first | refine blk_drewN ?_ _ | refine blk_drew ?_ | refine blk_alloc ?_ _)); exact BK748.out) hb); have n4_ := Aside0.mk (below_step (by repeat (first | (with_reducible first | exact HB.out | apply below_alloc | apply pw_below_drewN | apply below_drew1 | refine below_set ?_ GE748.out) | exact HB.out)) hb); clear HO754; clear HO757; clear BK748; clear HB; have HO754 := n0_; have HO757 := n1_; have HO760 := n2_; have BK748 := n3_; have HB := n4_; clear n0_ n1_ n2_ n3_ n4_; (try clear hb); (try clear hb2); (try clear hk); (try clear hi); (try clear ho0); obtain ⟨Ao55, co55, eo55⟩ := Kd.R_slice HO754.out; subst eo55; have hcz56_0 : w54.cell? ⟨gb748, 0, none⟩ = some (.slice A0_0 l0_0.length c0_0) := (blk_cell BK748.out 0).trans rfl; have hcz56_1 : w54.cell? ⟨gb748, 1, none⟩ = some (.slice A0_1 l0_1.length c0_1) := (blk_cell BK748.out 1).trans rfl; have hcz56_2 : w54.cell? ⟨gb748, 2, none⟩ = some (.int .i64 a0_2) := (blk_cell BK748.out 2).trans rfl; have hcz56_3 : w54.cell? ⟨gb748, 3, none⟩ = some (.int .i64 a0_3) := (blk_cell BK748.out 3).trans rfl; have hcz56_4 : w54.cell? ⟨gb748, 4, none⟩ = some (.int .i64 a0_4) := (blk_cell BK748.out 4).trans rfl; have hfz56_0 := blk_frozen BK748.out 0; have hfz56_1 := blk_frozen BK748.out 1; have hfz56_2 := blk_frozen BK748.out 2; have hfz56_3 := blk_frozen BK748.out 3; have hfz56_4 := blk_frozen BK748.out 4; obtain ⟨Ao57, co57, eo57⟩ := Kd.R_slice HO757.out; subst eo57; obtain ⟨Ao58, co58, eo58⟩ := Kd.R_slice HO760.out; subst eo58; have p761 : 0 ≤ (a1 : Int) := of_decide_eq_true (by first | (with_reducible assumption) | assumption); have q761 : a1 < (l0_1.length : Int) := of_decide_eq_true (by first | (with_reducible assumption) | assumption); obtain ⟨ad761, e761, hx761_0, hx761_1, hx761_2⟩ := at_T41 HR0_1.out a1 p761 q761; cases e761; replace hx761_0 := (HB.out.cell (World.block_lt_of_cell? w _ hx761_0)).trans hx761_0; replace hx761_1 := (HB.out.cell (World.block_lt_of_cell? w _ hx761_1)).trans hx761_1; replace hx761_2 := (HB.out.cell (World.block_lt_of_cell? w _ hx761_2)).trans hx761_2; replace p761 := eq_true p761; replace q761 := eq_true q761; have p762 : 0 ≤ (a2 : Int) := of_decide_eq_true (by first | (with_reducible assumption) | assumption); have q762 : a2 < (t758.length : Int) := of_decide_eq_true (by first | (with_reducible assumption) | assumption); obtain ⟨ad762, e762, hx762_0⟩ := Kd.at_int (Kd.R_reads' HO760.out).2.2 a2 p762 q762; cases e762; replace p762 := eq_true p762; replace q762 := eq_true q762; have p763 : 0 ≤ (a2 : Int) := of_decide_eq_true (by first | (with_reducible assumption) | assumption); have q763 : a2 < (t752.length : Int) := of_decide_eq_true (by first | (with_reducible assumption) | assumption); obtain ⟨ad763, e763, hx763_0⟩ := Kd.at_int (Kd.R_reads' HO754.out).2.2 a2 p763 q763; cases e763; replace p763 := eq_true p763; replace q763 := eq_true q763; have p764 : 0 ≤ (a2 : Int) := of_decide_eq_true (by first | (with_reducible assumption) | assumption); have q764 : a2 < (t755.length : Int) := of_decide_eq_true (by first | (with_reducible assumption) | assumption); obtain ⟨ad764, e764, hx764_0⟩ := Kd.at_int (Kd.R_reads' HO757.out).2.2 a2 p764 q764; cases e764; replace p764 := eq_true p764; replace q764 := eq_true q764))
                                  go_ret
                                  exact ⟨by first | rfl | (simp [errW_none, errW_some] <;> rfl) | (simp only [← hji41]; first | rfl | (simp [errW_none, errW_some] <;> rfl)) | (simp [*, errW_none, errW_some] <;> rfl), by repeat (first | (with_reducible first | exact HB.out | apply below_alloc | apply pw_below_drewN | apply below_drew1 | refine below_set ?_ GE748.out) | exact HB.out)⟩
                                · rw [if_neg c48] at H
                                  have c48b0 : ((rd t755 a2) == 1) = false := beq_eq_false_iff_ne.mpr c48
                                  have c48b1 : ((rd t755 a2) != 1) = true := bne_iff_ne.mpr c48
                                  by_cases c59 : ((Go.bits .and .i64 (ji41) 1) = 1)
                                  · rw [if_pos c59] at H
                                    have c59b0 : ((Go.bits .and .i64 (ji41) 1) == 1) = true := beq_iff_eq.mpr c59
                                    have c59b1 : ((Go.bits .and .i64 (ji41) 1) != 1) = false := bne_eq_false_iff_eq.mpr c59
                                    clear c59
                                    exact absurd (Option.some.inj H) (by rw [HRR.out]; decide)
                                  · rw [if_neg c59] at H
                                    have c59b0 : ((Go.bits .and .i64 (ji41) 1) == 1) = false := beq_eq_false_iff_ne.mpr c59
                                    exact absurd (c44b0.symm.trans c59b0) (by decide)
                              · rw [if_neg c47] at H
                                exact absurd H (by simp)
                            · rw [if_neg c46] at H
                              have c46b0 : ((rd t752 a2) == 2) = false := beq_eq_false_iff_ne.mpr c46
                              have c46b1 : ((rd t752 a2) != 2) = true := bne_iff_ne.mpr c46
                              by_cases c91 : ((Go.bits .and .i64 (ji41) 1) = 1)
                              · rw [if_pos c91] at H
                                have c91b0 : ((Go.bits .and .i64 (ji41) 1) == 1) = true := beq_iff_eq.mpr c91
                                have c91b1 : ((Go.bits .and .i64 (ji41) 1) != 1) = false := bne_eq_false_iff_eq.mpr c91
                                clear c91
                                exact absurd (Option.some.inj H) (by rw [HRR.out]; decide)
                              · rw [if_neg c91] at H
                                have c91b0 : ((Go.bits .and .i64 (ji41) 1) == 1) = false := beq_eq_false_iff_ne.mpr c91
                                exact absurd (c44b0.symm.trans c91b0) (by decide)
                          · rw [if_neg c45] at H
                            exact absurd H (by simp)
                        · rw [if_neg c44] at H
                          have c44b0 : ((Go.bits .and .i64 (ji41) 1) == 1) = false := beq_eq_false_iff_ne.mpr c44
                          have c44b1 : ((Go.bits .and .i64 (ji41) 1) != 1) = true := bne_iff_ne.mpr c44
                          by_cases c124 : ((Go.bits .and .i64 (ji41) 1) = 1)
                          · rw [if_pos c124] at H
                            have c124b0 : ((Go.bits .and .i64 (ji41) 1) == 1) = true := beq_iff_eq.mpr c124
                            exact absurd (c44b0.symm.trans c124b0) (by decide)
                          · rw [if_neg c124] at H
                            have c124b0 : ((Go.bits .and .i64 (ji41) 1) == 1) = false := beq_eq_false_iff_ne.mpr c124
                            have c124b1 : ((Go.bits .and .i64 (ji41) 1) != 1) = true := bne_iff_ne.mpr c124
                            by_cases c135 : a2 < (t752.length : Int)
                            · rw [if_pos c135] at H
                              have c135b0 : decide (a2 < (t752.length : Int)) = true := decide_eq_true c135
                              clear c135
                              by_cases c136 : (rd t752 a2) = 0
                              · rw [if_pos c136] at H
                                have c136b0 : ((rd t752 a2) == 0) = true := beq_iff_eq.mpr c136
                                have c136b1 : ((rd t752 a2) != 0) = false := bne_eq_false_iff_eq.mpr c136
                                clear c136
                                by_cases c137 : a2 < (t755.length : Int)
                                · rw [if_pos c137] at H
                                  have c137b0 : decide (a2 < (t755.length : Int)) = true := decide_eq_true c137
                                  clear c137
                                  obtain rfl := Option.some.inj H
                                  have hcz138_0 : wc.cell? ⟨gb748, 0, none⟩ = some (.slice A0_0 l0_0.length c0_0) := (blk_cell BK748.out 0).trans rfl
                                  have hcz138_1 : wc.cell? ⟨gb748, 1, none⟩ = some (.slice A0_1 l0_1.length c0_1) := (blk_cell BK748.out 1).trans rfl
                                  have hcz138_2 : wc.cell? ⟨gb748, 2, none⟩ = some (.int .i64 a0_2) := (blk_cell BK748.out 2).trans rfl
                                  have hcz138_3 : wc.cell? ⟨gb748, 3, none⟩ = some (.int .i64 a0_3) := (blk_cell BK748.out 3).trans rfl
                                  have hcz138_4 : wc.cell? ⟨gb748, 4, none⟩ = some (.int .i64 a0_4) := (blk_cell BK748.out 4).trans rfl
                                  have hfz138_0 := blk_frozen BK748.out 0
                                  have hfz138_1 := blk_frozen BK748.out 1
                                  have hfz138_2 := blk_frozen BK748.out 2
                                  have hfz138_3 := blk_frozen BK748.out 3
                                  have hfz138_4 := blk_frozen BK748.out 4
                                  go_wp2_with (first | ((with_reducible refine gate_callee (f := 35) rfl ?_); refine goesL_ (some 52) rfl rfl Tryd.func35 (by kernel_rfl) rfl #[.agg #[.slice A0_0 l0_0.length c0_0, .slice A0_1 l0_1.length c0_1, .int .i64 a0_2, .int .i64 a0_3, .int .i64 a0_4], .int .i64 a1, .int .i64 0] rfl (by (try simp only [List.map_toArray, List.map_cons, List.map_nil]); first | done | rfl | (simp only [List.length_drop, List.length_take]; rfl)) ?_; (with_reducible refine (lamp_Show.calls _ _ l0_0 _ _ l0_1 a0_2 a0_3 a0_4 a1 0 t752 _ ?side1 ?side2 ?side3 ?side4 ?side5 A32.out).mono ?_); (case side1 => repeat (first | exact (Kd.C_below HR0_0.out HB.out) | (with_reducible refine Kd.C_alloc ?_ _) | (with_reducible refine Kd.C_drewN ?_ _) | (with_reducible refine Kd.C_drew ?_))); (case side2 => exact HC0_0.out); (case side3 => repeat (first | exact (Kd.C_below HR0_1.out HB.out) | (with_reducible refine Kd.C_alloc ?_ _) | (with_reducible refine Kd.C_drewN ?_ _) | (with_reducible refine Kd.C_drew ?_))); (case side4 => exact HC0_1.out); (case side5 => first | (with_reducible exact HG.out) | (refine GlobOk.below HG.out ?_; repeat (first | (with_reducible first | exact HB.out | apply below_alloc | apply pw_below_drewN | apply below_drew1 | refine below_set ?_ GE748.out) | exact HB.out))); rintro e w139 ⟨v753, rfl, ho0, hb⟩; refine ⟨_, rfl, ?_⟩; have n0_ := Aside0.mk (Kd.R_lower ho0 (below_size (by repeat (first | (with_reducible first | exact HB.out | apply below_alloc | apply pw_below_drewN | apply below_drew1 | refine below_set ?_ GE748.out) | exact HB.out)))); have n1_ := Aside0.mk (blk_below (g := gb748) (o := .cells #[.slice A0_0 l0_0.length c0_0, .slice A0_1 l0_1.length c0_1, .int .i64 a0_2, .int .i64 a0_3, .int .i64 a0_4] 39 (0, 0)) (by (with_reducible repeat (first | refine blk_drewN ?_ _ | refine blk_drew ?_ | refine blk_alloc ?_ _)); exact BK748.out) hb); have n2_ := Aside0.mk (below_step (by repeat (first | (with_reducible first | exact HB.out | apply below_alloc | apply pw_below_drewN | apply below_drew1 | refine below_set ?_ GE748.out) | exact HB.out)) hb); clear BK748; clear HB; have HO754 := n0_; have BK748 := n1_; have HB := n2_; clear n0_ n1_ n2_; (try clear hb); (try clear hb2); (try clear hk); (try clear hi); (try clear ho0); have hcz140_0 : w139.cell? ⟨gb748, 0, none⟩ = some (.slice A0_0 l0_0.length c0_0) := (blk_cell BK748.out 0).trans rfl; have hcz140_1 : w139.cell? ⟨gb748, 1, none⟩ = some (.slice A0_1 l0_1.length c0_1) := (blk_cell BK748.out 1).trans rfl; have hcz140_2 : w139.cell? ⟨gb748, 2, none⟩ = some (.int .i64 a0_2) := (blk_cell BK748.out 2).trans rfl; have hcz140_3 : w139.cell? ⟨gb748, 3, none⟩ = some (.int .i64 a0_3) := (blk_cell BK748.out 3).trans rfl; have hcz140_4 : w139.cell? ⟨gb748, 4, none⟩ = some (.int .i64 a0_4) := (blk_cell BK748.out 4).trans rfl; have hfz140_0 := blk_frozen BK748.out 0; have hfz140_1 := blk_frozen BK748.out 1; have hfz140_2 := blk_frozen BK748.out 2; have hfz140_3 := blk_frozen BK748.out 3; have hfz140_4 := blk_frozen BK748.out 4) | ((with_reducible refine gate_callee (f := 35) rfl ?_); refine goesL_ (some 55) rfl rfl Tryd.func35 (by kernel_rfl) rfl #[.agg #[.slice A0_0 l0_0.length c0_0, .slice A0_1 l0_1.length c0_1, .int .i64 a0_2, .int .i64 a0_3, .int .i64 a0_4], .int .i64 a1, .int .i64 1] rfl (by (try simp only [List.map_toArray, List.map_cons, List.map_nil]); first | done | rfl | (simp only [List.length_drop, List.length_take]; rfl)) ?_; (with_reducible refine (lamp_Show.calls _ _ l0_0 _ _ l0_1 a0_2 a0_3 a0_4 a1 1 t755 _ ?side1 ?side2 ?side3 ?side4 ?side5 A33.out).mono ?_); (case side1 => repeat (first | exact (Kd.C_below HR0_0.out HB.out) | (with_reducible refine Kd.C_alloc ?_ _) | (with_reducible refine Kd.C_drewN ?_ _) | (with_reducible refine Kd.C_drew ?_))); (case side2 => exact HC0_0.out); (case side3 => repeat (first | exact (Kd.C_below HR0_1.out HB.out) | (with_reducible refine Kd.C_alloc ?_ _) | (with_reducible refine Kd.C_drewN ?_ _) | (with_reducible refine Kd.C_drew ?_))); (case side4 => exact HC0_1.out); (case side5 => first | (with_reducible exact HG.out) | (refine GlobOk.below HG.out ?_; repeat (first | (with_reducible first | exact HB.out | apply below_alloc | apply pw_below_drewN | apply below_drew1 | refine below_set ?_ GE748.out) | exact HB.out))); rintro e w141 ⟨v756, rfl, ho0, hb⟩; refine ⟨_, rfl, ?_⟩; have n0_ := Aside0.mk (Kd.R_elder' (by (with_reducible repeat (first | apply Kd.R_alloc | apply Kd.R_drewN | apply Kd.R_drew)); exact HO754.out) (Kd.R_base ho0) hb); have n1_ := Aside0.mk (Kd.R_lower (Kd.R_new' ho0 (Kd.R_lt (by (with_reducible repeat (first | apply Kd.R_alloc | apply Kd.R_drewN | apply Kd.R_drew)); exact HO754.out))) (below_size (by repeat (first | (with_reducible first | exact HB.out | apply below_alloc | apply pw_below_drewN | apply below_drew1 | refine below_set ?_ GE748.out) | exact HB.out)))); have n2_ := Aside0.mk (blk_below (g := gb748) (o := .cells #[.slice A0_0 l0_0.length c0_0, .slice A0_1 l0_1.length c0_1, .int .i64 a0_2, .int .i64 a0_3, .int .i64 a0_4] 39 (0, 0)) (by (with_reducible repeat (first | refine blk_drewN ?_ _ | refine blk_drew ?_ | refine blk_alloc ?_ _)); exact BK748.out) hb); have n3_ := Aside0.mk (below_step (by repeat (first | (with_reducible first | exact HB.out | apply below_alloc | apply pw_below_drewN | apply below_drew1 | refine below_set ?_ GE748.out) | exact HB.out)) hb); clear HO754; clear BK748; clear HB; have HO754 := n0_; have HO757 := n1_; have BK748 := n2_; have HB := n3_; clear n0_ n1_ n2_ n3_; (try clear hb); (try clear hb2); (try clear hk); (try clear hi); (try clear ho0); have hcz142_0 : w141.cell? ⟨gb748, 0, none⟩ = some (.slice A0_0 l0_0.length c0_0) := (blk_cell BK748.out 0).trans rfl; have hcz142_1 : w141.cell? ⟨gb748, 1, none⟩ = some (.slice A0_1 l0_1.length c0_1) := (blk_cell BK748.out 1).trans rfl; have hcz142_2 : w141.cell? ⟨gb748, 2, none⟩ = some (.int .i64 a0_2) := (blk_cell BK748.out 2).trans rfl; have hcz142_3 : w141.cell? ⟨gb748, 3, none⟩ = some (.int .i64 a0_3) := (blk_cell BK748.out 3).trans rfl; have hcz142_4 : w141.cell? ⟨gb748, 4, none⟩ = some (.int .i64 a0_4) := (blk_cell BK748.out 4).trans rfl; have hfz142_0 := blk_frozen BK748.out 0; have hfz142_1 := blk_frozen BK748.out 1; have hfz142_2 := blk_frozen BK748.out 2; have hfz142_3 := blk_frozen BK748.out 3; have hfz142_4 := blk_frozen BK748.out 4) | ((with_reducible refine gate_callee (f := 35) rfl ?_); refine goesL_ (some 58) rfl rfl Tryd.func35 (by kernel_rfl) rfl #[.agg #[.slice A0_0 l0_0.length c0_0, .slice A0_1 l0_1.length c0_1, .int .i64 a0_2, .int .i64 a0_3, .int .i64 a0_4], .int .i64 a1, .int .i64 2] rfl (by (try simp only [List.map_toArray, List.map_cons, List.map_nil]); first | done | rfl | (simp only [List.length_drop, List.length_take]; rfl)) ?_; (with_reducible refine (lamp_Show.calls _ _ l0_0 _ _ l0_1 a0_2 a0_3 a0_4 a1 2 t758 _ ?side1 ?side2 ?side3 ?side4 ?side5 A34.out).mono ?_); (case side1 => repeat (first | exact (Kd.C_below HR0_0.out HB.out) | (with_reducible refine Kd.C_alloc ?_ _) | (with_reducible refine Kd.C_drewN ?_ _) | (with_reducible refine Kd.C_drew ?_))); (case side2 => exact HC0_0.out); (case side3 => repeat (first | exact (Kd.C_below HR0_1.out HB.out) | (with_reducible refine Kd.C_alloc ?_ _) | (with_reducible refine Kd.C_drewN ?_ _) | (with_reducible refine Kd.C_drew ?_))); (case side4 => exact HC0_1.out); (case side5 => first | (with_reducible exact HG.out) | (refine GlobOk.below HG.out ?_; repeat (first | (with_reducible first | exact HB.out | apply below_alloc | apply pw_below_drewN | apply below_drew1 | refine below_set ?_ GE748.out) | exact HB.out))); rintro e w143 ⟨v759, rfl, ho0, hb⟩; refine ⟨_, rfl, ?_⟩; have n0_ := Aside0.mk (Kd.R_elder' (by (with_reducible repeat (first | apply Kd.R_alloc | apply Kd.R_drewN | apply Kd.R_drew)); exact HO754.out) (Kd.R_base ho0) hb); have n1_ := Aside0.mk (Kd.R_elder' (by (with_reducible repeat (first | apply Kd.R_alloc | apply Kd.R_drewN | apply Kd.R_drew)); exact HO757.out) (Kd.R_base ho0) hb); have n2_ := Aside0.mk (Kd.R_lower (Kd.R_new' (Kd.R_new' ho0 (Kd.R_lt (by (with_reducible repeat (first | apply Kd.R_alloc | apply Kd.R_drewN | apply Kd.R_drew)); exact HO754.out))) (Kd.R_lt (by (with_reducible repeat (first | apply Kd.R_alloc | apply Kd.R_drewN | apply Kd.R_drew)); exact HO757.out))) (below_size (by repeat (first | (with_reducible first | exact HB.out | apply below_alloc | apply pw_below_drewN | apply below_drew1 | refine below_set ?_ GE748.out) | exact HB.out)))); have n3_ := Aside0.mk (blk_below (g := gb748) (o := .cells #[.slice A0_0 l0_0.length c0_0, .slice A0_1 l0_1.length c0_1, .int .i64 a0_2, .int .i64 a0_3, .int .i64 a0_4] 39 (0, 0)) (by (with_reducible repeat (first | refine blk_drewN ?_ _ | refine blk_drew ?_ | refine blk_alloc ?_ _)); exact BK748.out) hb); have n4_ := Aside0.mk (below_step (by repeat (first | (with_reducible first | exact HB.out | apply below_alloc | apply pw_below_drewN | apply below_drew1 | refine below_set ?_ GE748.out) | exact HB.out)) hb); clear HO754; clear HO757; clear BK748; clear HB; have HO754 := n0_; have HO757 := n1_; have HO760 := n2_; have BK748 := n3_; have HB := n4_; clear n0_ n1_ n2_ n3_ n4_; (try clear hb); (try clear hb2); (try clear hk); (try clear hi); (try clear ho0); obtain ⟨Ao144, co144, eo144⟩ := Kd.R_slice HO754.out; subst eo144; have hcz145_0 : w143.cell? ⟨gb748, 0, none⟩ = some (.slice A0_0 l0_0.length c0_0) := (blk_cell BK748.out 0).trans rfl; have hcz145_1 : w143.cell? ⟨gb748, 1, none⟩ = some (.slice A0_1 l0_1.length c0_1) := (blk_cell BK748.out 1).trans rfl; have hcz145_2 : w143.cell? ⟨gb748, 2, none⟩ = some (.int .i64 a0_2) := (blk_cell BK748.out 2).trans rfl; have hcz145_3 : w143.cell? ⟨gb748, 3, none⟩ = some (.int .i64 a0_3) := (blk_cell BK748.out 3).trans rfl; have hcz145_4 : w143.cell? ⟨gb748, 4, none⟩ = some (.int .i64 a0_4) := (blk_cell BK748.out 4).trans rfl; have hfz145_0 := blk_frozen BK748.out 0; have hfz145_1 := blk_frozen BK748.out 1; have hfz145_2 := blk_frozen BK748.out 2; have hfz145_3 := blk_frozen BK748.out 3; have hfz145_4 := blk_frozen BK748.out 4; obtain ⟨Ao146, co146, eo146⟩ := Kd.R_slice HO757.out; subst eo146; obtain ⟨Ao147, co147, eo147⟩ := Kd.R_slice HO760.out; subst eo147; have p761 : 0 ≤ (a1 : Int) := of_decide_eq_true (by first | (with_reducible assumption) | assumption); have q761 : a1 < (l0_1.length : Int) := of_decide_eq_true (by first | (with_reducible assumption) | assumption); obtain ⟨ad761, e761, hx761_0, hx761_1, hx761_2⟩ := at_T41 HR0_1.out a1 p761 q761; cases e761; replace hx761_0 := (HB.out.cell (World.block_lt_of_cell? w _ hx761_0)).trans hx761_0; replace hx761_1 := (HB.out.cell (World.block_lt_of_cell? w _ hx761_1)).trans hx761_1; replace hx761_2 := (HB.out.cell (World.block_lt_of_cell? w _ hx761_2)).trans hx761_2; replace p761 := eq_true p761; replace q761 := eq_true q761; have p762 : 0 ≤ (a2 : Int) := of_decide_eq_true (by first | (with_reducible assumption) | assumption); have q762 : a2 < (t758.length : Int) := of_decide_eq_true (by first | (with_reducible assumption) | assumption); obtain ⟨ad762, e762, hx762_0⟩ := Kd.at_int (Kd.R_reads' HO760.out).2.2 a2 p762 q762; cases e762; replace p762 := eq_true p762; replace q762 := eq_true q762; have p769 : 0 ≤ (a2 : Int) := of_decide_eq_true (by first | (with_reducible assumption) | assumption); have q769 : a2 < (t752.length : Int) := of_decide_eq_true (by first | (with_reducible assumption) | assumption); obtain ⟨ad769, e769, hx769_0⟩ := Kd.at_int (Kd.R_reads' HO754.out).2.2 a2 p769 q769; cases e769; replace p769 := eq_true p769; replace q769 := eq_true q769; have p770 : 0 ≤ (a2 : Int) := of_decide_eq_true (by first | (with_reducible assumption) | assumption); have q770 : a2 < (t755.length : Int) := of_decide_eq_true (by first | (with_reducible assumption) | assumption); obtain ⟨ad770, e770, hx770_0⟩ := Kd.at_int (Kd.R_reads' HO757.out).2.2 a2 p770 q770; cases e770; replace p770 := eq_true p770; replace q770 := eq_true q770))
                                  go_ret
                                  exact ⟨by first | rfl | (simp [errW_none, errW_some] <;> rfl) | (simp only [← hji41]; first | rfl | (simp [errW_none, errW_some] <;> rfl)) | (simp [*, errW_none, errW_some] <;> rfl), by repeat (first | (with_reducible first | exact HB.out | apply below_alloc | apply pw_below_drewN | apply below_drew1 | refine below_set ?_ GE748.out) | exact HB.out)⟩
                                · rw [if_neg c137] at H
                                  exact absurd H (by simp)
                              · rw [if_neg c136] at H
                                have c136b0 : ((rd t752 a2) == 0) = false := beq_eq_false_iff_ne.mpr c136
                                have c136b1 : ((rd t752 a2) != 0) = true := bne_iff_ne.mpr c136
                                exact absurd (Option.some.inj H) (by rw [HRR.out]; decide)
                            · rw [if_neg c135] at H
                              exact absurd H (by simp)
                      · rw [if_neg c43] at H
                        have c43b0 : ((rd t758 a2) == 0) = false := beq_eq_false_iff_ne.mpr c43
                        have c43b1 : ((rd t758 a2) != 0) = true := bne_iff_ne.mpr c43
                        exact absurd (Option.some.inj H) (by rw [HRR.out]; decide)
                    · rw [if_neg c42] at H
                      exact absurd H (by simp)
                  · rw [if_neg c40] at H
                    exact absurd H (by simp)
                · rw [if_neg c39] at H
                  exact absurd H (by simp)
              · rw [if_neg c38] at H
                exact absurd H (by simp)
            · rw [if_neg c37] at H
              have c37b0 : ((t758.length : Int) == (l0_0.length : Int)) = false := beq_eq_false_iff_ne.mpr c37
              have c37b1 : ((t758.length : Int) != (l0_0.length : Int)) = true := bne_iff_ne.mpr c37
              have c37b2 : (t758.length == l0_0.length) = false := by first | simpa using c37 | (simp at c37 ⊢; omega)
              exact absurd (Option.some.inj H) (by rw [HRR.out]; decide)
          · rw [if_neg c36] at H
            have c36b0 : ((t755.length : Int) == (l0_0.length : Int)) = false := beq_eq_false_iff_ne.mpr c36
            have c36b1 : ((t755.length : Int) != (l0_0.length : Int)) = true := bne_iff_ne.mpr c36
            have c36b2 : (t755.length == l0_0.length) = false := by first | simpa using c36 | (simp at c36 ⊢; omega)
            exact absurd (Option.some.inj H) (by rw [HRR.out]; decide)
        · rw [if_neg c35] at H
          have c35b0 : ((t752.length : Int) == (l0_0.length : Int)) = false := beq_eq_false_iff_ne.mpr c35
          have c35b1 : ((t752.length : Int) != (l0_0.length : Int)) = true := bne_iff_ne.mpr c35
          have c35b2 : (t752.length == l0_0.length) = false := by first | simpa using c35 | (simp at c35 ⊢; omega)
          exact absurd (Option.some.inj H) (by rw [HRR.out]; decide)

end Go.Proofs.YtechgjbhgeddjaaDoor.F
