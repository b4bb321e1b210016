/- Woven by wip/weave/weave.py of this repo (own tool) out of the translation: the contracts of some functions. Lean checks it. -/
import Derived.Test.YtechgjbhgeddjaaDoorQeD
import Derived.Test.YtechgjbhgeddjaaDoorQeF0
import Derived.Test.YtechgjbhgeddjaaDoorQeF3
import Derived.Test.YtechgjbhgeddjaaDoorQeF4
namespace Go.Proofs.YtechgjbhgeddjaaDoor.F
open Go.RowKit Go.Proofs.YtechgjbhgeddjaaDoorW.PrintWords Go.Proofs.YtechgjbhgeddjaaDoorW.PrintLast Go.Proofs.YtechgjbhgeddjaaDoorW.PrintMore
attribute [local go_sem] max2_int min2_int max_two min_two max_three min_three max_four min_four   -- for this text's walks alone
set_option linter.unusedVariables false
set_option linter.unusedSimpArgs false
/-! ### stage_May: function 22 -/
set_option maxHeartbeats 8000000 in
set_option maxRecDepth 100000 in
theorem stage_May.calls (k : Nat) (A0 : Option Addr) (c0 : Nat) (l0 : List (S39)) (a1_0 : Int) (a1_1 : Int) (a1_2 : Int) (a1_3 : Int) (a1_4 : Int) (a1_5 : Int) (a1_6 : Int) (a1_7 : Int) (a1_8 : Int) (a1_9 : Bool) (r : Bool) (w : World) (hr0 : Kd.C k39 w A0 l0.length l0) (hc0 : l0.length ≤ c0) (hG : GlobOk w) (h : stage_May.f k l0 a1_0 a1_1 a1_2 a1_3 a1_4 a1_5 a1_6 a1_7 a1_8 a1_9 = some r) :
    Calls Tryd.prog 22 #[.slice A0 l0.length c0, .agg #[.int .i64 a1_0, .int .i64 a1_1, .int .i64 a1_2, .int .i64 a1_3, .int .i64 a1_4, .int .i64 a1_5, .int .i64 a1_6, .int .i64 a1_7, .int .i64 a1_8, .bool a1_9]] w fun e w' => e = .returned (.bool r) ∧ Below w.heap.size w w' := by
  have hu24 := Tryd.underlying24
  have hu39 := Tryd.underlying39
  have HR0 := Aside0.mk hr0
  have HC0 := Aside0.mk hc0
  clear hr0 hc0
  have HG := Aside0.mk hG
  clear hG
  have HB := Aside0.mk (Below.refl w.heap.size w)
  have H : ((plan_All.f l0).bind fun t107 => (if t107 = true then ((stage_in.f a1_0 0 (wrap64 ((l0.length : Int) - 1))).bind fun t108 => (stage_May.j0 k l0 (!t108) a1_0 a1_1 a1_2 a1_3 a1_4 a1_5 a1_6 a1_7 a1_8 a1_9)) else (stage_May.j0 k l0 true a1_0 a1_1 a1_2 a1_3 a1_4 a1_5 a1_6 a1_7 a1_8 a1_9))) = some r := h
  clear h
  have HC3 := Aside0.mk H
  clear H
  go_enter Tryd.func22, Tryd.ntmps22
  go_upto_region 1 with (first | ((with_reducible refine gate_dst (N := 3) rfl ?_); (try (refine gate_guard (by rfl) ?_; dsimp only)); refine box_event ?hg (N := 3) ?hd (cs := #[.int .i64 a1_0, .int .i64 a1_1, .int .i64 a1_2, .int .i64 a1_3, .int .i64 a1_4, .int .i64 a1_5, .int .i64 a1_6, .int .i64 a1_7, .int .i64 a1_8, .bool a1_9]) (t := 24) ?hr ?_; (case hd => rfl); (case hg => rfl); (case hr => first | (go_simp; done) | (go_simp; rfl)); intro gb106 hg w4 hbox hb; have n0_ := Aside0.mk (below_step (by repeat (first | (with_reducible first | exact HB.out | apply below_alloc | apply pw_below_drewN | apply below_drew1) | exact HB.out)) hb); have n1_ := Aside0.mk (hbox); have n2_ := Aside0.mk ((by rw [hg]; exact (below_size (by repeat (first | (with_reducible first | exact HB.out | apply below_alloc | apply pw_below_drewN | apply below_drew1) | exact HB.out))) : w.heap.size ≤ gb106)); have n3_ := Aside0.mk ((by rw [hg]; exact (below_size (by repeat (first | (with_reducible first | exact HB.out | apply below_alloc | apply pw_below_drewN | apply below_drew1) | exact HB.out))) : w.heap.size ≤ gb106)); clear HB; have HB := n0_; have BK106 := n1_; have GW106 := n2_; have GE106 := n3_; clear n0_ n1_ n2_ n3_; clear hb hbox hg))
  (try simp only [Act.put, List.setIfInBounds_toArray, List.set_cons_zero, List.set_cons_succ])
  go_cut [18] (fun v18 wc => ∃ (kq : Nat) (x18_2 : Bool), v18 = .bool x18_2 ∧ Aside0 (stage_May.j0 kq l0 x18_2 a1_0 a1_1 a1_2 a1_3 a1_4 a1_5 a1_6 a1_7 a1_8 a1_9 = some r) ∧ Aside0 (kq ≤ k) ∧ Aside0 (wc.heap[gb106]? = some (.cells #[.int .i64 a1_0, .int .i64 a1_1, .int .i64 a1_2, .int .i64 a1_3, .int .i64 a1_4, .int .i64 a1_5, .int .i64 a1_6, .int .i64 a1_7, .int .i64 a1_8, .bool a1_9] 24 (0, 0))) ∧ Aside0 (Below w.heap.size w wc))
  case first =>
    have H := HC3.out
    clear HC3
    replace H := Option.bind_eq_some_iff.mp H
    obtain ⟨t107, A50, H⟩ := H
    replace H : (if t107 = true then ((stage_in.f a1_0 0 (wrap64 ((l0.length : Int) - 1))).bind fun t108 => (stage_May.j0 k l0 (!t108) a1_0 a1_1 a1_2 a1_3 a1_4 a1_5 a1_6 a1_7 a1_8 a1_9)) else (stage_May.j0 k l0 true a1_0 a1_1 a1_2 a1_3 a1_4 a1_5 a1_6 a1_7 a1_8 a1_9)) = some r := H
    have A5 := Aside0.mk A50
    clear A50
    by_cases c6 : t107 = true
    · subst c6
      have H1 : ((stage_in.f a1_0 0 (wrap64 ((l0.length : Int) - 1))).bind fun t108 => (stage_May.j0 k l0 (!t108) a1_0 a1_1 a1_2 a1_3 a1_4 a1_5 a1_6 a1_7 a1_8 a1_9)) = some r := by rw [if_pos rfl] at H; exact H
      clear H
      have H := H1
      clear H1
      replace H := Option.bind_eq_some_iff.mp H
      obtain ⟨t108, A70, H⟩ := H
      replace H : (stage_May.j0 k l0 (!t108) a1_0 a1_1 a1_2 a1_3 a1_4 a1_5 a1_6 a1_7 a1_8 a1_9) = some r := H
      have A7 := Aside0.mk A70
      clear A70
      have H' := Aside0.mk H
      clear H
      go_wp2_with (first | ((with_reducible refine gate_callee (f := 27) rfl ?_); refine goesL_ (some 8) rfl rfl Tryd.func27 (by kernel_rfl) rfl #[.slice A0 l0.length c0] rfl (by (try simp only [List.map_toArray, List.map_cons, List.map_nil]); first | done | rfl | (simp only [List.length_drop, List.length_take]; rfl)) ?_; (with_reducible refine (plan_All.calls _ _ l0 true _ ?side1 ?side2 ?side3 A5.out).mono ?_); (case side1 => repeat (first | exact (Kd.C_below HR0.out HB.out) | (with_reducible refine Kd.C_alloc ?_ _) | (with_reducible refine Kd.C_drewN ?_ _) | (with_reducible refine Kd.C_drew ?_))); (case side2 => exact HC0.out); (case side3 => first | (with_reducible exact HG.out) | (refine GlobOk.below HG.out ?_; repeat (first | (with_reducible first | exact HB.out | apply below_alloc | apply pw_below_drewN | apply below_drew1 | refine below_set ?_ GE106.out) | exact HB.out))); rintro e w8 ⟨rfl, hb⟩; refine ⟨_, rfl, ?_⟩; have n0_ := Aside0.mk (blk_below (g := gb106) (o := .cells #[.int .i64 a1_0, .int .i64 a1_1, .int .i64 a1_2, .int .i64 a1_3, .int .i64 a1_4, .int .i64 a1_5, .int .i64 a1_6, .int .i64 a1_7, .int .i64 a1_8, .bool a1_9] 24 (0, 0)) (by (with_reducible repeat (first | refine blk_drewN ?_ _ | refine blk_drew ?_ | refine blk_alloc ?_ _)); exact BK106.out) hb); have n1_ := Aside0.mk (below_step (by repeat (first | (with_reducible first | exact HB.out | apply below_alloc | apply pw_below_drewN | apply below_drew1 | refine below_set ?_ GE106.out) | exact HB.out)) hb); clear BK106; clear HB; have BK106 := n0_; have HB := n1_; clear n0_ n1_; (try clear hb); (try clear hb2); (try clear hk); (try clear hi); have hcz9_0 : w8.cell? ⟨gb106, 0, none⟩ = some (.int .i64 a1_0) := (blk_cell BK106.out 0).trans rfl; have hcz9_1 : w8.cell? ⟨gb106, 1, none⟩ = some (.int .i64 a1_1) := (blk_cell BK106.out 1).trans rfl; have hcz9_2 : w8.cell? ⟨gb106, 2, none⟩ = some (.int .i64 a1_2) := (blk_cell BK106.out 2).trans rfl; have hcz9_3 : w8.cell? ⟨gb106, 3, none⟩ = some (.int .i64 a1_3) := (blk_cell BK106.out 3).trans rfl; have hcz9_4 : w8.cell? ⟨gb106, 4, none⟩ = some (.int .i64 a1_4) := (blk_cell BK106.out 4).trans rfl; have hcz9_5 : w8.cell? ⟨gb106, 5, none⟩ = some (.int .i64 a1_5) := (blk_cell BK106.out 5).trans rfl; have hcz9_6 : w8.cell? ⟨gb106, 6, none⟩ = some (.int .i64 a1_6) := (blk_cell BK106.out 6).trans rfl; have hcz9_7 : w8.cell? ⟨gb106, 7, none⟩ = some (.int .i64 a1_7) := (blk_cell BK106.out 7).trans rfl; have hcz9_8 : w8.cell? ⟨gb106, 8, none⟩ = some (.int .i64 a1_8) := (blk_cell BK106.out 8).trans rfl; have hcz9_9 : w8.cell? ⟨gb106, 9, none⟩ = some (.bool a1_9) := (blk_cell BK106.out 9).trans rfl; have hfz9_0 := blk_frozen BK106.out 0; have hfz9_1 := blk_frozen BK106.out 1; have hfz9_2 := blk_frozen BK106.out 2; have hfz9_3 := blk_frozen BK106.out 3; have hfz9_4 := blk_frozen BK106.out 4; have hfz9_5 := blk_frozen BK106.out 5; have hfz9_6 := blk_frozen BK106.out 6; have hfz9_7 := blk_frozen BK106.out 7; have hfz9_8 := blk_frozen BK106.out 8; have hfz9_9 := blk_frozen BK106.out 9) | (go_at_call 44; (with_reducible refine (stage_in.calls a1_0 0 (wrap64 ((l0.length : Int) - 1)) t108 _ A7.out).mono ?_); rintro e w' ⟨rfl, ⟨nd, rfl⟩⟩))
      go_meet
      case rel => exact ⟨_, (!t108), (by first | rfl | (simp; done) | (simp [*]; done)), H', ⟨by first | omega | exact Nat.le_refl _⟩, ⟨by (with_reducible repeat (first | refine blk_drewN ?_ _ | refine blk_drew ?_ | refine blk_alloc ?_ _)); exact BK106.out⟩, ⟨by repeat (first | (with_reducible first | exact HB.out | apply below_alloc | apply pw_below_drewN | apply below_drew1 | refine below_set ?_ GE106.out) | exact HB.out)⟩⟩
    · replace c6 := Bool.eq_false_iff.mpr c6
      subst c6
      have H1 : (stage_May.j0 k l0 true a1_0 a1_1 a1_2 a1_3 a1_4 a1_5 a1_6 a1_7 a1_8 a1_9) = some r := by rw [if_neg (show ¬ (false = true) by decide)] at H; exact H
      clear H
      have H := H1
      clear H1
      have H' := Aside0.mk H
      clear H
      go_wp2_with (first | ((with_reducible refine gate_callee (f := 27) rfl ?_); refine goesL_ (some 8) rfl rfl Tryd.func27 (by kernel_rfl) rfl #[.slice A0 l0.length c0] rfl (by (try simp only [List.map_toArray, List.map_cons, List.map_nil]); first | done | rfl | (simp only [List.length_drop, List.length_take]; rfl)) ?_; (with_reducible refine (plan_All.calls _ _ l0 false _ ?side1 ?side2 ?side3 A5.out).mono ?_); (case side1 => repeat (first | exact (Kd.C_below HR0.out HB.out) | (with_reducible refine Kd.C_alloc ?_ _) | (with_reducible refine Kd.C_drewN ?_ _) | (with_reducible refine Kd.C_drew ?_))); (case side2 => exact HC0.out); (case side3 => first | (with_reducible exact HG.out) | (refine GlobOk.below HG.out ?_; repeat (first | (with_reducible first | exact HB.out | apply below_alloc | apply pw_below_drewN | apply below_drew1 | refine below_set ?_ GE106.out) | exact HB.out))); rintro e w10 ⟨rfl, hb⟩; refine ⟨_, rfl, ?_⟩; have n0_ := Aside0.mk (blk_below (g := gb106) (o := .cells #[.int .i64 a1_0, .int .i64 a1_1, .int .i64 a1_2, .int .i64 a1_3, .int .i64 a1_4, .int .i64 a1_5, .int .i64 a1_6, .int .i64 a1_7, .int .i64 a1_8, .bool a1_9] 24 (0, 0)) (by (with_reducible repeat (first | refine blk_drewN ?_ _ | refine blk_drew ?_ | refine blk_alloc ?_ _)); exact BK106.out) hb); have n1_ := Aside0.mk (below_step (by repeat (first | (with_reducible first | exact HB.out | apply below_alloc | apply pw_below_drewN | apply below_drew1 | refine below_set ?_ GE106.out) | exact HB.out)) hb); clear BK106; clear HB; have BK106 := n0_; have HB := n1_; clear n0_ n1_; (try clear hb); (try clear hb2); (try clear hk); (try clear hi)))
      go_meet
      case rel => exact ⟨_, (true), (by first | rfl | (simp; done) | (simp [*]; done)), H', ⟨by first | omega | exact Nat.le_refl _⟩, ⟨by (with_reducible repeat (first | refine blk_drewN ?_ _ | refine blk_drew ?_ | refine blk_alloc ?_ _)); exact BK106.out⟩, ⟨by repeat (first | (with_reducible first | exact HB.out | apply below_alloc | apply pw_below_drewN | apply below_drew1 | refine below_set ?_ GE106.out) | exact HB.out)⟩⟩
  case rest =>
    clear HC3
    try clear c2
    try clear p2
    try clear c6
    try clear p6
    try clear hcz9_0
    try clear hcz9_1
    try clear hcz9_2
    try clear hcz9_3
    try clear hcz9_4
    try clear hcz9_5
    try clear hcz9_6
    try clear hcz9_7
    try clear hcz9_8
    try clear hcz9_9
    try clear hfz9_0
    try clear hfz9_1
    try clear hfz9_2
    try clear hfz9_3
    try clear hfz9_4
    try clear hfz9_5
    try clear hfz9_6
    try clear hfz9_7
    try clear hfz9_8
    try clear hfz9_9
    obtain ⟨kq, x18_2, rfl, HA, HJ2, BK106, HB⟩ := hcut
    cases kq with
    | zero => exact absurd HA.out (by simp [stage_May.j0])
    | succ kj2 =>
      have H := HA.out
      clear HA
      simp only [stage_May.j0] at H
      by_cases c11 : x18_2 = true
      · subst c11
        have H1 : (some false) = some r := by rw [if_pos rfl] at H; exact H
        clear H
        have H := H1
        clear H1
        obtain rfl := Option.some.inj H
        go_wp2
        go_ret
        exact ⟨by first | rfl | (simp [errW_none, errW_some] <;> rfl) | (simp [*, errW_none, errW_some] <;> rfl), by repeat (first | (with_reducible first | exact HB.out | apply below_alloc | apply pw_below_drewN | apply below_drew1 | refine below_set ?_ GE106.out) | exact HB.out)⟩
      · replace c11 := Bool.eq_false_iff.mpr c11
        subst c11
        have H1 : (if 0 ≤ a1_0 then (if a1_0 < (l0.length : Int) then ((stage_in.f a1_1 0 (wrap64 ((((rd_T39 l0 a1_0).f1).length : Int) - 1))).bind fun t111 => (if t111 = true then ((stage_in.f a1_2 0 (wrap64 ((((rd_T39 l0 a1_0).f1).length : Int) - 1))).bind fun t112 => (if t112 = true then ((stage_in.f a1_7 (-1) (wrap64 ((((rd_T39 l0 a1_0).f1).length : Int) - 1))).bind fun t113 => (if t113 = true then ((stage_in.f a1_8 (-1) (wrap64 ((l0.length : Int) - 1))).bind fun t114 => (if t114 = true then ((stage_in.f a1_3 0 2).bind fun t115 => (stage_May.j1 kj2 (!t115) a1_0 a1_1 a1_2 a1_3 a1_4 a1_5 a1_6 a1_7 a1_8 a1_9 ((rd_T39 l0 a1_0).f0) ((rd_T39 l0 a1_0).f1) ((rd_T39 l0 a1_0).f2) ((rd_T39 l0 a1_0).f3) ((rd_T39 l0 a1_0).f4))) else (stage_May.j1 kj2 (!t114) a1_0 a1_1 a1_2 a1_3 a1_4 a1_5 a1_6 a1_7 a1_8 a1_9 ((rd_T39 l0 a1_0).f0) ((rd_T39 l0 a1_0).f1) ((rd_T39 l0 a1_0).f2) ((rd_T39 l0 a1_0).f3) ((rd_T39 l0 a1_0).f4)))) else (stage_May.j1 kj2 (!t113) a1_0 a1_1 a1_2 a1_3 a1_4 a1_5 a1_6 a1_7 a1_8 a1_9 ((rd_T39 l0 a1_0).f0) ((rd_T39 l0 a1_0).f1) ((rd_T39 l0 a1_0).f2) ((rd_T39 l0 a1_0).f3) ((rd_T39 l0 a1_0).f4)))) else (stage_May.j1 kj2 (!t112) a1_0 a1_1 a1_2 a1_3 a1_4 a1_5 a1_6 a1_7 a1_8 a1_9 ((rd_T39 l0 a1_0).f0) ((rd_T39 l0 a1_0).f1) ((rd_T39 l0 a1_0).f2) ((rd_T39 l0 a1_0).f3) ((rd_T39 l0 a1_0).f4)))) else (stage_May.j1 kj2 (!t111) a1_0 a1_1 a1_2 a1_3 a1_4 a1_5 a1_6 a1_7 a1_8 a1_9 ((rd_T39 l0 a1_0).f0) ((rd_T39 l0 a1_0).f1) ((rd_T39 l0 a1_0).f2) ((rd_T39 l0 a1_0).f3) ((rd_T39 l0 a1_0).f4)))) else (none)) else (none)) = some r := by rw [if_neg (show ¬ (false = true) by decide)] at H; exact H
        clear H
        have H := H1
        clear H1
        by_cases c12 : 0 ≤ a1_0
        · rw [if_pos c12] at H
          have c12b0 : decide (0 ≤ a1_0) = true := decide_eq_true c12
          clear c12
          by_cases c13 : a1_0 < (l0.length : Int)
          · rw [if_pos c13] at H
            have c13b0 : decide (a1_0 < (l0.length : Int)) = true := decide_eq_true c13
            clear c13
            replace H := Option.bind_eq_some_iff.mp H
            obtain ⟨t111, A140, H⟩ := H
            replace H : (if t111 = true then ((stage_in.f a1_2 0 (wrap64 ((((rd_T39 l0 a1_0).f1).length : Int) - 1))).bind fun t112 => (if t112 = true then ((stage_in.f a1_7 (-1) (wrap64 ((((rd_T39 l0 a1_0).f1).length : Int) - 1))).bind fun t113 => (if t113 = true then ((stage_in.f a1_8 (-1) (wrap64 ((l0.length : Int) - 1))).bind fun t114 => (if t114 = true then ((stage_in.f a1_3 0 2).bind fun t115 => (stage_May.j1 kj2 (!t115) a1_0 a1_1 a1_2 a1_3 a1_4 a1_5 a1_6 a1_7 a1_8 a1_9 ((rd_T39 l0 a1_0).f0) ((rd_T39 l0 a1_0).f1) ((rd_T39 l0 a1_0).f2) ((rd_T39 l0 a1_0).f3) ((rd_T39 l0 a1_0).f4))) else (stage_May.j1 kj2 (!t114) a1_0 a1_1 a1_2 a1_3 a1_4 a1_5 a1_6 a1_7 a1_8 a1_9 ((rd_T39 l0 a1_0).f0) ((rd_T39 l0 a1_0).f1) ((rd_T39 l0 a1_0).f2) ((rd_T39 l0 a1_0).f3) ((rd_T39 l0 a1_0).f4)))) else (stage_May.j1 kj2 (!t113) a1_0 a1_1 a1_2 a1_3 a1_4 a1_5 a1_6 a1_7 a1_8 a1_9 ((rd_T39 l0 a1_0).f0) ((rd_T39 l0 a1_0).f1) ((rd_T39 l0 a1_0).f2) ((rd_T39 l0 a1_0).f3) ((rd_T39 l0 a1_0).f4)))) else (stage_May.j1 kj2 (!t112) a1_0 a1_1 a1_2 a1_3 a1_4 a1_5 a1_6 a1_7 a1_8 a1_9 ((rd_T39 l0 a1_0).f0) ((rd_T39 l0 a1_0).f1) ((rd_T39 l0 a1_0).f2) ((rd_T39 l0 a1_0).f3) ((rd_T39 l0 a1_0).f4)))) else (stage_May.j1 kj2 (!t111) a1_0 a1_1 a1_2 a1_3 a1_4 a1_5 a1_6 a1_7 a1_8 a1_9 ((rd_T39 l0 a1_0).f0) ((rd_T39 l0 a1_0).f1) ((rd_T39 l0 a1_0).f2) ((rd_T39 l0 a1_0).f3) ((rd_T39 l0 a1_0).f4))) = some r := H
            have A14 := Aside0.mk A140
            clear A140
            have HC15 := Aside0.mk H
            clear H
            have hcz16_0 : wc.cell? ⟨gb106, 0, none⟩ = some (.int .i64 a1_0) := (blk_cell BK106.out 0).trans rfl
            have hcz16_1 : wc.cell? ⟨gb106, 1, none⟩ = some (.int .i64 a1_1) := (blk_cell BK106.out 1).trans rfl
            have hcz16_2 : wc.cell? ⟨gb106, 2, none⟩ = some (.int .i64 a1_2) := (blk_cell BK106.out 2).trans rfl
            have hcz16_3 : wc.cell? ⟨gb106, 3, none⟩ = some (.int .i64 a1_3) := (blk_cell BK106.out 3).trans rfl
            have hcz16_4 : wc.cell? ⟨gb106, 4, none⟩ = some (.int .i64 a1_4) := (blk_cell BK106.out 4).trans rfl
            have hcz16_5 : wc.cell? ⟨gb106, 5, none⟩ = some (.int .i64 a1_5) := (blk_cell BK106.out 5).trans rfl
            have hcz16_6 : wc.cell? ⟨gb106, 6, none⟩ = some (.int .i64 a1_6) := (blk_cell BK106.out 6).trans rfl
            have hcz16_7 : wc.cell? ⟨gb106, 7, none⟩ = some (.int .i64 a1_7) := (blk_cell BK106.out 7).trans rfl
            have hcz16_8 : wc.cell? ⟨gb106, 8, none⟩ = some (.int .i64 a1_8) := (blk_cell BK106.out 8).trans rfl
            have hcz16_9 : wc.cell? ⟨gb106, 9, none⟩ = some (.bool a1_9) := (blk_cell BK106.out 9).trans rfl
            have hfz16_0 := blk_frozen BK106.out 0
            have hfz16_1 := blk_frozen BK106.out 1
            have hfz16_2 := blk_frozen BK106.out 2
            have hfz16_3 := blk_frozen BK106.out 3
            have hfz16_4 := blk_frozen BK106.out 4
            have hfz16_5 := blk_frozen BK106.out 5
            have hfz16_6 := blk_frozen BK106.out 6
            have hfz16_7 := blk_frozen BK106.out 7
            have hfz16_8 := blk_frozen BK106.out 8
            have hfz16_9 := blk_frozen BK106.out 9
            have p109 : 0 ≤ (a1_0 : Int) := of_decide_eq_true (by first | (with_reducible assumption) | assumption)
            have q109 : a1_0 < (l0.length : Int) := of_decide_eq_true (by first | (with_reducible assumption) | assumption)
            obtain ⟨ad109, A109_0, c109_0, A109_1, c109_1, e109, hx109_0, hx109_1, hx109_2, hx109_3, hx109_4, hl109_0, hi109_0, hl109_1, hi109_1⟩ := at_T39 HR0.out a1_0 p109 q109
            cases e109
            replace hx109_0 := (HB.out.cell (World.block_lt_of_cell? w _ hx109_0)).trans hx109_0
            replace hx109_1 := (HB.out.cell (World.block_lt_of_cell? w _ hx109_1)).trans hx109_1
            replace hx109_2 := (HB.out.cell (World.block_lt_of_cell? w _ hx109_2)).trans hx109_2
            replace hx109_3 := (HB.out.cell (World.block_lt_of_cell? w _ hx109_3)).trans hx109_3
            replace hx109_4 := (HB.out.cell (World.block_lt_of_cell? w _ hx109_4)).trans hx109_4
            have HR109_0 := Aside0.mk hi109_0
            have HC109_0 := Aside0.mk hl109_0
            clear hi109_0 hl109_0
            have HR109_1 := Aside0.mk hi109_1
            have HC109_1 := Aside0.mk hl109_1
            clear hi109_1 hl109_1
            replace p109 := eq_true p109
            replace q109 := eq_true q109
            go_upto_if 28 with (first | ((with_reducible refine gate_dst (N := 5) rfl ?_); (try (refine gate_guard (by rfl) ?_; dsimp only)); refine box_event ?hg (N := 5) ?hd (cs := #[.slice none 0 0, .slice none 0 0, .int .i64 0, .int .i64 0, .int .i64 0]) (t := 39) ?hr ?_; (case hd => rfl); (case hg => rfl); (case hr => first | (go_simp; done) | (go_simp; rfl)); intro gb110 hg w17 hbox hb; have n0_ := Aside0.mk (blk_below (g := gb106) (o := .cells #[.int .i64 a1_0, .int .i64 a1_1, .int .i64 a1_2, .int .i64 a1_3, .int .i64 a1_4, .int .i64 a1_5, .int .i64 a1_6, .int .i64 a1_7, .int .i64 a1_8, .bool a1_9] 24 (0, 0)) (by (with_reducible repeat (first | refine blk_drewN ?_ _ | refine blk_drew ?_ | refine blk_alloc ?_ _)); exact BK106.out) hb); have n1_ := Aside0.mk (below_step (by repeat (first | (with_reducible first | exact HB.out | apply below_alloc | apply pw_below_drewN | apply below_drew1 | refine below_set ?_ GE106.out) | exact HB.out)) hb); have n2_ := Aside0.mk (hbox); have n3_ := Aside0.mk ((by rw [hg]; exact (below_size (by repeat (first | (with_reducible first | exact HB.out | apply below_alloc | apply pw_below_drewN | apply below_drew1 | refine below_set ?_ GE106.out) | exact HB.out))) : w.heap.size ≤ gb110)); have n4_ := Aside0.mk ((by rw [hg]; exact (below_size (by repeat (first | (with_reducible first | exact HB.out | apply below_alloc | apply pw_below_drewN | apply below_drew1 | refine below_set ?_ GE106.out) | exact HB.out))) : w.heap.size ≤ gb110)); have n5_ := Aside0.mk ((by rw [hg]; exact Nat.ne_of_lt (blk_lt (g := gb106) (o := .cells #[.int .i64 a1_0, .int .i64 a1_1, .int .i64 a1_2, .int .i64 a1_3, .int .i64 a1_4, .int .i64 a1_5, .int .i64 a1_6, .int .i64 a1_7, .int .i64 a1_8, .bool a1_9] 24 (0, 0)) (by (with_reducible repeat (first | refine blk_drewN ?_ _ | refine blk_drew ?_ | refine blk_alloc ?_ _)); exact BK106.out)) : gb106 ≠ gb110)); have n6_ := Aside0.mk ((by rw [hg]; exact Nat.ne_of_gt (blk_lt (g := gb106) (o := .cells #[.int .i64 a1_0, .int .i64 a1_1, .int .i64 a1_2, .int .i64 a1_3, .int .i64 a1_4, .int .i64 a1_5, .int .i64 a1_6, .int .i64 a1_7, .int .i64 a1_8, .bool a1_9] 24 (0, 0)) (by (with_reducible repeat (first | refine blk_drewN ?_ _ | refine blk_drew ?_ | refine blk_alloc ?_ _)); exact BK106.out)) : gb110 ≠ gb106)); clear BK106; clear HB; have BK106 := n0_; have HB := n1_; have BK110 := n2_; have GW110 := n3_; have GE110 := n4_; have NB106_110 := n5_; have NB110_106 := n6_; clear n0_ n1_ n2_ n3_ n4_ n5_ n6_; clear hb hbox hg; have hnb18 := NB110_106.out; have hnc18 := NB106_110.out; have hcz19_0 : w17.cell? ⟨gb110, 0, none⟩ = some (.slice none 0 0) := (blk_cell BK110.out 0).trans rfl; have hcz19_1 : w17.cell? ⟨gb110, 1, none⟩ = some (.slice none 0 0) := (blk_cell BK110.out 1).trans rfl; have hcz19_2 : w17.cell? ⟨gb110, 2, none⟩ = some (.int .i64 0) := (blk_cell BK110.out 2).trans rfl; have hcz19_3 : w17.cell? ⟨gb110, 3, none⟩ = some (.int .i64 0) := (blk_cell BK110.out 3).trans rfl; have hcz19_4 : w17.cell? ⟨gb110, 4, none⟩ = some (.int .i64 0) := (blk_cell BK110.out 4).trans rfl; have hfz19_0 := blk_frozen BK110.out 0; have hfz19_1 := blk_frozen BK110.out 1; have hfz19_2 := blk_frozen BK110.out 2; have hfz19_3 := blk_frozen BK110.out 3; have hfz19_4 := blk_frozen BK110.out 4; have hcz20_0 : w17.cell? ⟨gb106, 0, none⟩ = some (.int .i64 a1_0) := (blk_cell BK106.out 0).trans rfl; have hcz20_1 : w17.cell? ⟨gb106, 1, none⟩ = some (.int .i64 a1_1) := (blk_cell BK106.out 1).trans rfl; have hcz20_2 : w17.cell? ⟨gb106, 2, none⟩ = some (.int .i64 a1_2) := (blk_cell BK106.out 2).trans rfl; have hcz20_3 : w17.cell? ⟨gb106, 3, none⟩ = some (.int .i64 a1_3) := (blk_cell BK106.out 3).trans rfl; have hcz20_4 : w17.cell? ⟨gb106, 4, none⟩ = some (.int .i64 a1_4) := (blk_cell BK106.out 4).trans rfl; have hcz20_5 : w17.cell? ⟨gb106, 5, none⟩ = some (.int .i64 a1_5) := (blk_cell BK106.out 5).trans rfl; have hcz20_6 : w17.cell? ⟨gb106, 6, none⟩ = some (.int .i64 a1_6) := (blk_cell BK106.out 6).trans rfl; have hcz20_7 : w17.cell? ⟨gb106, 7, none⟩ = some (.int .i64 a1_7) := (blk_cell BK106.out 7).trans rfl; have hcz20_8 : w17.cell? ⟨gb106, 8, none⟩ = some (.int .i64 a1_8) := (blk_cell BK106.out 8).trans rfl; have hcz20_9 : w17.cell? ⟨gb106, 9, none⟩ = some (.bool a1_9) := (blk_cell BK106.out 9).trans rfl; have hfz20_0 := blk_frozen BK106.out 0; have hfz20_1 := blk_frozen BK106.out 1; have hfz20_2 := blk_frozen BK106.out 2; have hfz20_3 := blk_frozen BK106.out 3; have hfz20_4 := blk_frozen BK106.out 4; have hfz20_5 := blk_frozen BK106.out 5; have hfz20_6 := blk_frozen BK106.out 6; have hfz20_7 := blk_frozen BK106.out 7; have hfz20_8 := blk_frozen BK106.out 8; have hfz20_9 := blk_frozen BK106.out 9) | ((with_reducible refine gate_callee (f := 44) rfl ?_); refine goesL_ (some 32) rfl rfl Tryd.func44 (by kernel_rfl) rfl #[.int .i64 a1_1, .int .i64 0, .int .i64 (wrap64 ((((rd_T39 l0 a1_0).f1).length : Int) - 1))] rfl (by (try simp only [List.map_toArray, List.map_cons, List.map_nil]); first | done | rfl | (simp only [List.length_drop, List.length_take]; rfl)) ?_; (with_reducible refine (stage_in.calls a1_1 0 (wrap64 ((((rd_T39 l0 a1_0).f1).length : Int) - 1)) t111 _ A14.out).mono ?_); rintro e w' ⟨rfl, ⟨nd, rfl⟩⟩; refine ⟨_, rfl, ?_⟩))
            (try simp only [Act.put, List.setIfInBounds_toArray, List.set_cons_zero, List.set_cons_succ])
            go_cut [28] (fun v28 wc => ∃ (kq : Nat) (x28_14 : Bool), v28 = .bool x28_14 ∧ Aside0 (stage_May.j1 kq x28_14 a1_0 a1_1 a1_2 a1_3 a1_4 a1_5 a1_6 a1_7 a1_8 a1_9 ((rd_T39 l0 a1_0).f0) ((rd_T39 l0 a1_0).f1) ((rd_T39 l0 a1_0).f2) ((rd_T39 l0 a1_0).f3) ((rd_T39 l0 a1_0).f4) = some r) ∧ Aside0 (kq ≤ kj2) ∧ Aside0 (wc.heap[gb106]? = some (.cells #[.int .i64 a1_0, .int .i64 a1_1, .int .i64 a1_2, .int .i64 a1_3, .int .i64 a1_4, .int .i64 a1_5, .int .i64 a1_6, .int .i64 a1_7, .int .i64 a1_8, .bool a1_9] 24 (0, 0))) ∧ Aside0 (wc.heap[gb110]? = some (.cells #[(.slice A109_0 ((rd_T39 l0 a1_0).f0).length c109_0), (.slice A109_1 ((rd_T39 l0 a1_0).f1).length c109_1), .int .i64 ((rd_T39 l0 a1_0).f2), .int .i64 ((rd_T39 l0 a1_0).f3), .int .i64 ((rd_T39 l0 a1_0).f4)] 39 (0, 0))) ∧ Aside0 (Below w.heap.size w wc))
            case first =>
              have H := HC15.out
              clear HC15
              by_cases c21 : t111 = true
              · subst c21
                have H1 : ((stage_in.f a1_2 0 (wrap64 ((((rd_T39 l0 a1_0).f1).length : Int) - 1))).bind fun t112 => (if t112 = true then ((stage_in.f a1_7 (-1) (wrap64 ((((rd_T39 l0 a1_0).f1).length : Int) - 1))).bind fun t113 => (if t113 = true then ((stage_in.f a1_8 (-1) (wrap64 ((l0.length : Int) - 1))).bind fun t114 => (if t114 = true then ((stage_in.f a1_3 0 2).bind fun t115 => (stage_May.j1 kj2 (!t115) a1_0 a1_1 a1_2 a1_3 a1_4 a1_5 a1_6 a1_7 a1_8 a1_9 ((rd_T39 l0 a1_0).f0) ((rd_T39 l0 a1_0).f1) ((rd_T39 l0 a1_0).f2) ((rd_T39 l0 a1_0).f3) ((rd_T39 l0 a1_0).f4))) else (stage_May.j1 kj2 (!t114) a1_0 a1_1 a1_2 a1_3 a1_4 a1_5 a1_6 a1_7 a1_8 a1_9 ((rd_T39 l0 a1_0).f0) ((rd_T39 l0 a1_0).f1) ((rd_T39 l0 a1_0).f2) ((rd_T39 l0 a1_0).f3) ((rd_T39 l0 a1_0).f4)))) else (stage_May.j1 kj2 (!t113) a1_0 a1_1 a1_2 a1_3 a1_4 a1_5 a1_6 a1_7 a1_8 a1_9 ((rd_T39 l0 a1_0).f0) ((rd_T39 l0 a1_0).f1) ((rd_T39 l0 a1_0).f2) ((rd_T39 l0 a1_0).f3) ((rd_T39 l0 a1_0).f4)))) else (stage_May.j1 kj2 (!t112) a1_0 a1_1 a1_2 a1_3 a1_4 a1_5 a1_6 a1_7 a1_8 a1_9 ((rd_T39 l0 a1_0).f0) ((rd_T39 l0 a1_0).f1) ((rd_T39 l0 a1_0).f2) ((rd_T39 l0 a1_0).f3) ((rd_T39 l0 a1_0).f4)))) = some r := by rw [if_pos rfl] at H; exact H
                clear H
                have H := H1
                clear H1
                replace H := Option.bind_eq_some_iff.mp H
                obtain ⟨t112, A220, H⟩ := H
                replace H : (if t112 = true then ((stage_in.f a1_7 (-1) (wrap64 ((((rd_T39 l0 a1_0).f1).length : Int) - 1))).bind fun t113 => (if t113 = true then ((stage_in.f a1_8 (-1) (wrap64 ((l0.length : Int) - 1))).bind fun t114 => (if t114 = true then ((stage_in.f a1_3 0 2).bind fun t115 => (stage_May.j1 kj2 (!t115) a1_0 a1_1 a1_2 a1_3 a1_4 a1_5 a1_6 a1_7 a1_8 a1_9 ((rd_T39 l0 a1_0).f0) ((rd_T39 l0 a1_0).f1) ((rd_T39 l0 a1_0).f2) ((rd_T39 l0 a1_0).f3) ((rd_T39 l0 a1_0).f4))) else (stage_May.j1 kj2 (!t114) a1_0 a1_1 a1_2 a1_3 a1_4 a1_5 a1_6 a1_7 a1_8 a1_9 ((rd_T39 l0 a1_0).f0) ((rd_T39 l0 a1_0).f1) ((rd_T39 l0 a1_0).f2) ((rd_T39 l0 a1_0).f3) ((rd_T39 l0 a1_0).f4)))) else (stage_May.j1 kj2 (!t113) a1_0 a1_1 a1_2 a1_3 a1_4 a1_5 a1_6 a1_7 a1_8 a1_9 ((rd_T39 l0 a1_0).f0) ((rd_T39 l0 a1_0).f1) ((rd_T39 l0 a1_0).f2) ((rd_T39 l0 a1_0).f3) ((rd_T39 l0 a1_0).f4)))) else (stage_May.j1 kj2 (!t112) a1_0 a1_1 a1_2 a1_3 a1_4 a1_5 a1_6 a1_7 a1_8 a1_9 ((rd_T39 l0 a1_0).f0) ((rd_T39 l0 a1_0).f1) ((rd_T39 l0 a1_0).f2) ((rd_T39 l0 a1_0).f3) ((rd_T39 l0 a1_0).f4))) = some r := H
                have A22 := Aside0.mk A220
                clear A220
                by_cases c23 : t112 = true
                · subst c23
                  have H1 : ((stage_in.f a1_7 (-1) (wrap64 ((((rd_T39 l0 a1_0).f1).length : Int) - 1))).bind fun t113 => (if t113 = true then ((stage_in.f a1_8 (-1) (wrap64 ((l0.length : Int) - 1))).bind fun t114 => (if t114 = true then ((stage_in.f a1_3 0 2).bind fun t115 => (stage_May.j1 kj2 (!t115) a1_0 a1_1 a1_2 a1_3 a1_4 a1_5 a1_6 a1_7 a1_8 a1_9 ((rd_T39 l0 a1_0).f0) ((rd_T39 l0 a1_0).f1) ((rd_T39 l0 a1_0).f2) ((rd_T39 l0 a1_0).f3) ((rd_T39 l0 a1_0).f4))) else (stage_May.j1 kj2 (!t114) a1_0 a1_1 a1_2 a1_3 a1_4 a1_5 a1_6 a1_7 a1_8 a1_9 ((rd_T39 l0 a1_0).f0) ((rd_T39 l0 a1_0).f1) ((rd_T39 l0 a1_0).f2) ((rd_T39 l0 a1_0).f3) ((rd_T39 l0 a1_0).f4)))) else (stage_May.j1 kj2 (!t113) a1_0 a1_1 a1_2 a1_3 a1_4 a1_5 a1_6 a1_7 a1_8 a1_9 ((rd_T39 l0 a1_0).f0) ((rd_T39 l0 a1_0).f1) ((rd_T39 l0 a1_0).f2) ((rd_T39 l0 a1_0).f3) ((rd_T39 l0 a1_0).f4)))) = some r := by rw [if_pos rfl] at H; exact H
                  clear H
                  have H := H1
                  clear H1
                  replace H := Option.bind_eq_some_iff.mp H
                  obtain ⟨t113, A240, H⟩ := H
                  replace H : (if t113 = true then ((stage_in.f a1_8 (-1) (wrap64 ((l0.length : Int) - 1))).bind fun t114 => (if t114 = true then ((stage_in.f a1_3 0 2).bind fun t115 => (stage_May.j1 kj2 (!t115) a1_0 a1_1 a1_2 a1_3 a1_4 a1_5 a1_6 a1_7 a1_8 a1_9 ((rd_T39 l0 a1_0).f0) ((rd_T39 l0 a1_0).f1) ((rd_T39 l0 a1_0).f2) ((rd_T39 l0 a1_0).f3) ((rd_T39 l0 a1_0).f4))) else (stage_May.j1 kj2 (!t114) a1_0 a1_1 a1_2 a1_3 a1_4 a1_5 a1_6 a1_7 a1_8 a1_9 ((rd_T39 l0 a1_0).f0) ((rd_T39 l0 a1_0).f1) ((rd_T39 l0 a1_0).f2) ((rd_T39 l0 a1_0).f3) ((rd_T39 l0 a1_0).f4)))) else (stage_May.j1 kj2 (!t113) a1_0 a1_1 a1_2 a1_3 a1_4 a1_5 a1_6 a1_7 a1_8 a1_9 ((rd_T39 l0 a1_0).f0) ((rd_T39 l0 a1_0).f1) ((rd_T39 l0 a1_0).f2) ((rd_T39 l0 a1_0).f3) ((rd_T39 l0 a1_0).f4))) = some r := H
                  have A24 := Aside0.mk A240
                  clear A240
                  by_cases c25 : t113 = true
                  · subst c25
                    have H1 : ((stage_in.f a1_8 (-1) (wrap64 ((l0.length : Int) - 1))).bind fun t114 => (if t114 = true then ((stage_in.f a1_3 0 2).bind fun t115 => (stage_May.j1 kj2 (!t115) a1_0 a1_1 a1_2 a1_3 a1_4 a1_5 a1_6 a1_7 a1_8 a1_9 ((rd_T39 l0 a1_0).f0) ((rd_T39 l0 a1_0).f1) ((rd_T39 l0 a1_0).f2) ((rd_T39 l0 a1_0).f3) ((rd_T39 l0 a1_0).f4))) else (stage_May.j1 kj2 (!t114) a1_0 a1_1 a1_2 a1_3 a1_4 a1_5 a1_6 a1_7 a1_8 a1_9 ((rd_T39 l0 a1_0).f0) ((rd_T39 l0 a1_0).f1) ((rd_T39 l0 a1_0).f2) ((rd_T39 l0 a1_0).f3) ((rd_T39 l0 a1_0).f4)))) = some r := by rw [if_pos rfl] at H; exact H
                    clear H
                    have H := H1
                    clear H1
                    replace H := Option.bind_eq_some_iff.mp H
                    obtain ⟨t114, A260, H⟩ := H
                    replace H : (if t114 = true then ((stage_in.f a1_3 0 2).bind fun t115 => (stage_May.j1 kj2 (!t115) a1_0 a1_1 a1_2 a1_3 a1_4 a1_5 a1_6 a1_7 a1_8 a1_9 ((rd_T39 l0 a1_0).f0) ((rd_T39 l0 a1_0).f1) ((rd_T39 l0 a1_0).f2) ((rd_T39 l0 a1_0).f3) ((rd_T39 l0 a1_0).f4))) else (stage_May.j1 kj2 (!t114) a1_0 a1_1 a1_2 a1_3 a1_4 a1_5 a1_6 a1_7 a1_8 a1_9 ((rd_T39 l0 a1_0).f0) ((rd_T39 l0 a1_0).f1) ((rd_T39 l0 a1_0).f2) ((rd_T39 l0 a1_0).f3) ((rd_T39 l0 a1_0).f4))) = some r := H
                    have A26 := Aside0.mk A260
                    clear A260
                    by_cases c27 : t114 = true
                    · subst c27
                      have H1 : ((stage_in.f a1_3 0 2).bind fun t115 => (stage_May.j1 kj2 (!t115) a1_0 a1_1 a1_2 a1_3 a1_4 a1_5 a1_6 a1_7 a1_8 a1_9 ((rd_T39 l0 a1_0).f0) ((rd_T39 l0 a1_0).f1) ((rd_T39 l0 a1_0).f2) ((rd_T39 l0 a1_0).f3) ((rd_T39 l0 a1_0).f4))) = some r := by rw [if_pos rfl] at H; exact H
                      clear H
                      have H := H1
                      clear H1
                      replace H := Option.bind_eq_some_iff.mp H
                      obtain ⟨t115, A280, H⟩ := H
                      replace H : (stage_May.j1 kj2 (!t115) a1_0 a1_1 a1_2 a1_3 a1_4 a1_5 a1_6 a1_7 a1_8 a1_9 ((rd_T39 l0 a1_0).f0) ((rd_T39 l0 a1_0).f1) ((rd_T39 l0 a1_0).f2) ((rd_T39 l0 a1_0).f3) ((rd_T39 l0 a1_0).f4)) = some r := H
                      have A28 := Aside0.mk A280
                      clear A280
                      have H' := Aside0.mk H
                      clear H
                      have hnb29 := NB106_110.out
                      have hnc29 := NB110_106.out
                      have hcz30_0 : w17.cell? ⟨gb106, 0, none⟩ = some (.int .i64 a1_0) := (blk_cell BK106.out 0).trans rfl
                      have hcz30_1 : w17.cell? ⟨gb106, 1, none⟩ = some (.int .i64 a1_1) := (blk_cell BK106.out 1).trans rfl
                      have hcz30_2 : w17.cell? ⟨gb106, 2, none⟩ = some (.int .i64 a1_2) := (blk_cell BK106.out 2).trans rfl
                      have hcz30_3 : w17.cell? ⟨gb106, 3, none⟩ = some (.int .i64 a1_3) := (blk_cell BK106.out 3).trans rfl
                      have hcz30_4 : w17.cell? ⟨gb106, 4, none⟩ = some (.int .i64 a1_4) := (blk_cell BK106.out 4).trans rfl
                      have hcz30_5 : w17.cell? ⟨gb106, 5, none⟩ = some (.int .i64 a1_5) := (blk_cell BK106.out 5).trans rfl
                      have hcz30_6 : w17.cell? ⟨gb106, 6, none⟩ = some (.int .i64 a1_6) := (blk_cell BK106.out 6).trans rfl
                      have hcz30_7 : w17.cell? ⟨gb106, 7, none⟩ = some (.int .i64 a1_7) := (blk_cell BK106.out 7).trans rfl
                      have hcz30_8 : w17.cell? ⟨gb106, 8, none⟩ = some (.int .i64 a1_8) := (blk_cell BK106.out 8).trans rfl
                      have hcz30_9 : w17.cell? ⟨gb106, 9, none⟩ = some (.bool a1_9) := (blk_cell BK106.out 9).trans rfl
                      have hfz30_0 := blk_frozen BK106.out 0
                      have hfz30_1 := blk_frozen BK106.out 1
                      have hfz30_2 := blk_frozen BK106.out 2
                      have hfz30_3 := blk_frozen BK106.out 3
                      have hfz30_4 := blk_frozen BK106.out 4
                      have hfz30_5 := blk_frozen BK106.out 5
                      have hfz30_6 := blk_frozen BK106.out 6
                      have hfz30_7 := blk_frozen BK106.out 7
                      have hfz30_8 := blk_frozen BK106.out 8
                      have hfz30_9 := blk_frozen BK106.out 9
                      go_wp2_with (first | ((with_reducible refine gate_callee (f := 44) rfl ?_); refine goesL_ (some 37) rfl rfl Tryd.func44 (by kernel_rfl) rfl #[.int .i64 a1_2, .int .i64 0, .int .i64 (wrap64 ((((rd_T39 l0 a1_0).f1).length : Int) - 1))] rfl (by (try simp only [List.map_toArray, List.map_cons, List.map_nil]); first | done | rfl | (simp only [List.length_drop, List.length_take]; rfl)) ?_; (with_reducible refine (stage_in.calls a1_2 0 (wrap64 ((((rd_T39 l0 a1_0).f1).length : Int) - 1)) true _ A22.out).mono ?_); rintro e w' ⟨rfl, ⟨nd, rfl⟩⟩; refine ⟨_, rfl, ?_⟩) | ((with_reducible refine gate_callee (f := 44) rfl ?_); refine goesL_ (some 42) rfl rfl Tryd.func44 (by kernel_rfl) rfl #[.int .i64 a1_7, .int .i64 (-1), .int .i64 (wrap64 ((((rd_T39 l0 a1_0).f1).length : Int) - 1))] rfl (by (try simp only [List.map_toArray, List.map_cons, List.map_nil]); first | done | rfl | (simp only [List.length_drop, List.length_take]; rfl)) ?_; (with_reducible refine (stage_in.calls a1_7 (-1) (wrap64 ((((rd_T39 l0 a1_0).f1).length : Int) - 1)) true _ A24.out).mono ?_); rintro e w' ⟨rfl, ⟨nd, rfl⟩⟩; refine ⟨_, rfl, ?_⟩) | ((with_reducible refine gate_callee (f := 44) rfl ?_); refine goesL_ (some 49) rfl rfl Tryd.func44 (by kernel_rfl) rfl #[.int .i64 a1_8, .int .i64 (-1), .int .i64 (wrap64 ((l0.length : Int) - 1))] rfl (by (try simp only [List.map_toArray, List.map_cons, List.map_nil]); first | done | rfl | (simp only [List.length_drop, List.length_take]; rfl)) ?_; (with_reducible refine (stage_in.calls a1_8 (-1) (wrap64 ((l0.length : Int) - 1)) true _ A26.out).mono ?_); rintro e w' ⟨rfl, ⟨nd, rfl⟩⟩; refine ⟨_, rfl, ?_⟩) | ((with_reducible refine gate_callee (f := 44) rfl ?_); refine goesL_ (some 53) rfl rfl Tryd.func44 (by kernel_rfl) rfl #[.int .i64 a1_3, .int .i64 0, .int .i64 2] rfl (by (try simp only [List.map_toArray, List.map_cons, List.map_nil]); first | done | rfl | (simp only [List.length_drop, List.length_take]; rfl)) ?_; (with_reducible refine (stage_in.calls a1_3 0 2 t115 _ A28.out).mono ?_); rintro e w' ⟨rfl, ⟨nd, rfl⟩⟩; refine ⟨_, rfl, ?_⟩))
                      go_meet
                      case rel => exact ⟨_, (!t115), (by first | rfl | (simp; done) | (simp [*]; done)), H', ⟨by have := HJ2.out; first | omega | exact Nat.le_refl _⟩, ⟨by (with_reducible repeat (first | refine blk_drewN ?_ _ | refine blk_drew ?_ | refine blk_alloc ?_ _)); refine blk_far ?_ NB106_110.out _; (with_reducible repeat (first | refine blk_drewN ?_ _ | refine blk_drew ?_ | refine blk_alloc ?_ _)); refine blk_far ?_ NB106_110.out _; (with_reducible repeat (first | refine blk_drewN ?_ _ | refine blk_drew ?_ | refine blk_alloc ?_ _)); refine blk_far ?_ NB106_110.out _; (with_reducible repeat (first | refine blk_drewN ?_ _ | refine blk_drew ?_ | refine blk_alloc ?_ _)); refine blk_far ?_ NB106_110.out _; (with_reducible repeat (first | refine blk_drewN ?_ _ | refine blk_drew ?_ | refine blk_alloc ?_ _)); refine blk_far ?_ NB106_110.out _; (with_reducible repeat (first | refine blk_drewN ?_ _ | refine blk_drew ?_ | refine blk_alloc ?_ _)); exact BK106.out⟩, ⟨by (with_reducible repeat (first | refine blk_drewN ?_ _ | refine blk_drew ?_ | refine blk_alloc ?_ _)); refine blk_put (cs := #[.slice A109_0 ((rd_T39 l0 a1_0).f0).length c109_0, .slice A109_1 ((rd_T39 l0 a1_0).f1).length c109_1, .int .i64 ((rd_T39 l0 a1_0).f2), .int .i64 ((rd_T39 l0 a1_0).f3), .int .i64 0]) ?_ 4 _ rfl; (with_reducible repeat (first | refine blk_drewN ?_ _ | refine blk_drew ?_ | refine blk_alloc ?_ _)); refine blk_put (cs := #[.slice A109_0 ((rd_T39 l0 a1_0).f0).length c109_0, .slice A109_1 ((rd_T39 l0 a1_0).f1).length c109_1, .int .i64 ((rd_T39 l0 a1_0).f2), .int .i64 0, .int .i64 0]) ?_ 3 _ rfl; (with_reducible repeat (first | refine blk_drewN ?_ _ | refine blk_drew ?_ | refine blk_alloc ?_ _)); refine blk_put (cs := #[.slice A109_0 ((rd_T39 l0 a1_0).f0).length c109_0, .slice A109_1 ((rd_T39 l0 a1_0).f1).length c109_1, .int .i64 0, .int .i64 0, .int .i64 0]) ?_ 2 _ rfl; (with_reducible repeat (first | refine blk_drewN ?_ _ | refine blk_drew ?_ | refine blk_alloc ?_ _)); refine blk_put (cs := #[.slice A109_0 ((rd_T39 l0 a1_0).f0).length c109_0, .slice none 0 0, .int .i64 0, .int .i64 0, .int .i64 0]) ?_ 1 _ rfl; (with_reducible repeat (first | refine blk_drewN ?_ _ | refine blk_drew ?_ | refine blk_alloc ?_ _)); refine blk_put (cs := #[.slice none 0 0, .slice none 0 0, .int .i64 0, .int .i64 0, .int .i64 0]) ?_ 0 _ rfl; (with_reducible repeat (first | refine blk_drewN ?_ _ | refine blk_drew ?_ | refine blk_alloc ?_ _)); exact BK110.out⟩, ⟨by repeat (first | (with_reducible first | exact HB.out | apply below_alloc | apply pw_below_drewN | apply below_drew1 | refine below_set ?_ GE106.out | refine below_set ?_ GE110.out) | exact HB.out)⟩⟩
                    · replace c27 := Bool.eq_false_iff.mpr c27
                      subst c27
                      have H1 : (stage_May.j1 kj2 (!false) a1_0 a1_1 a1_2 a1_3 a1_4 a1_5 a1_6 a1_7 a1_8 a1_9 ((rd_T39 l0 a1_0).f0) ((rd_T39 l0 a1_0).f1) ((rd_T39 l0 a1_0).f2) ((rd_T39 l0 a1_0).f3) ((rd_T39 l0 a1_0).f4)) = some r := by rw [if_neg (show ¬ (false = true) by decide)] at H; exact H
                      clear H
                      have H := H1
                      clear H1
                      have H' := Aside0.mk H
                      clear H
                      have hnb31 := NB106_110.out
                      have hnc31 := NB110_106.out
                      have hcz32_0 : w17.cell? ⟨gb106, 0, none⟩ = some (.int .i64 a1_0) := (blk_cell BK106.out 0).trans rfl
                      have hcz32_1 : w17.cell? ⟨gb106, 1, none⟩ = some (.int .i64 a1_1) := (blk_cell BK106.out 1).trans rfl
                      have hcz32_2 : w17.cell? ⟨gb106, 2, none⟩ = some (.int .i64 a1_2) := (blk_cell BK106.out 2).trans rfl
                      have hcz32_3 : w17.cell? ⟨gb106, 3, none⟩ = some (.int .i64 a1_3) := (blk_cell BK106.out 3).trans rfl
                      have hcz32_4 : w17.cell? ⟨gb106, 4, none⟩ = some (.int .i64 a1_4) := (blk_cell BK106.out 4).trans rfl
                      have hcz32_5 : w17.cell? ⟨gb106, 5, none⟩ = some (.int .i64 a1_5) := (blk_cell BK106.out 5).trans rfl
                      have hcz32_6 : w17.cell? ⟨gb106, 6, none⟩ = some (.int .i64 a1_6) := (blk_cell BK106.out 6).trans rfl
                      have hcz32_7 : w17.cell? ⟨gb106, 7, none⟩ = some (.int .i64 a1_7) := (blk_cell BK106.out 7).trans rfl
                      have hcz32_8 : w17.cell? ⟨gb106, 8, none⟩ = some (.int .i64 a1_8) := (blk_cell BK106.out 8).trans rfl
                      have hcz32_9 : w17.cell? ⟨gb106, 9, none⟩ = some (.bool a1_9) := (blk_cell BK106.out 9).trans rfl
                      have hfz32_0 := blk_frozen BK106.out 0
                      have hfz32_1 := blk_frozen BK106.out 1
                      have hfz32_2 := blk_frozen BK106.out 2
                      have hfz32_3 := blk_frozen BK106.out 3
                      have hfz32_4 := blk_frozen BK106.out 4
                      have hfz32_5 := blk_frozen BK106.out 5
                      have hfz32_6 := blk_frozen BK106.out 6
                      have hfz32_7 := blk_frozen BK106.out 7
                      have hfz32_8 := blk_frozen BK106.out 8
                      have hfz32_9 := blk_frozen BK106.out 9
                      go_wp2_with (first | ((with_reducible refine gate_callee (f := 44) rfl ?_); refine goesL_ (some 37) rfl rfl Tryd.func44 (by kernel_rfl) rfl #[.int .i64 a1_2, .int .i64 0, .int .i64 (wrap64 ((((rd_T39 l0 a1_0).f1).length : Int) - 1))] rfl (by (try simp only [List.map_toArray, List.map_cons, List.map_nil]); first | done | rfl | (simp only [List.length_drop, List.length_take]; rfl)) ?_; (with_reducible refine (stage_in.calls a1_2 0 (wrap64 ((((rd_T39 l0 a1_0).f1).length : Int) - 1)) true _ A22.out).mono ?_); rintro e w' ⟨rfl, ⟨nd, rfl⟩⟩; refine ⟨_, rfl, ?_⟩) | ((with_reducible refine gate_callee (f := 44) rfl ?_); refine goesL_ (some 42) rfl rfl Tryd.func44 (by kernel_rfl) rfl #[.int .i64 a1_7, .int .i64 (-1), .int .i64 (wrap64 ((((rd_T39 l0 a1_0).f1).length : Int) - 1))] rfl (by (try simp only [List.map_toArray, List.map_cons, List.map_nil]); first | done | rfl | (simp only [List.length_drop, List.length_take]; rfl)) ?_; (with_reducible refine (stage_in.calls a1_7 (-1) (wrap64 ((((rd_T39 l0 a1_0).f1).length : Int) - 1)) true _ A24.out).mono ?_); rintro e w' ⟨rfl, ⟨nd, rfl⟩⟩; refine ⟨_, rfl, ?_⟩) | ((with_reducible refine gate_callee (f := 44) rfl ?_); refine goesL_ (some 49) rfl rfl Tryd.func44 (by kernel_rfl) rfl #[.int .i64 a1_8, .int .i64 (-1), .int .i64 (wrap64 ((l0.length : Int) - 1))] rfl (by (try simp only [List.map_toArray, List.map_cons, List.map_nil]); first | done | rfl | (simp only [List.length_drop, List.length_take]; rfl)) ?_; (with_reducible refine (stage_in.calls a1_8 (-1) (wrap64 ((l0.length : Int) - 1)) false _ A26.out).mono ?_); rintro e w' ⟨rfl, ⟨nd, rfl⟩⟩; refine ⟨_, rfl, ?_⟩))
                      go_meet
                      case rel => exact ⟨_, (!false), (by first | rfl | (simp; done) | (simp [*]; done)), H', ⟨by have := HJ2.out; first | omega | exact Nat.le_refl _⟩, ⟨by (with_reducible repeat (first | refine blk_drewN ?_ _ | refine blk_drew ?_ | refine blk_alloc ?_ _)); refine blk_far ?_ NB106_110.out _; (with_reducible repeat (first | refine blk_drewN ?_ _ | refine blk_drew ?_ | refine blk_alloc ?_ _)); refine blk_far ?_ NB106_110.out _; (with_reducible repeat (first | refine blk_drewN ?_ _ | refine blk_drew ?_ | refine blk_alloc ?_ _)); refine blk_far ?_ NB106_110.out _; (with_reducible repeat (first | refine blk_drewN ?_ _ | refine blk_drew ?_ | refine blk_alloc ?_ _)); refine blk_far ?_ NB106_110.out _; (with_reducible repeat (first | refine blk_drewN ?_ _ | refine blk_drew ?_ | refine blk_alloc ?_ _)); refine blk_far ?_ NB106_110.out _; (with_reducible repeat (first | refine blk_drewN ?_ _ | refine blk_drew ?_ | refine blk_alloc ?_ _)); exact BK106.out⟩, ⟨by (with_reducible repeat (first | refine blk_drewN ?_ _ | refine blk_drew ?_ | refine blk_alloc ?_ _)); refine blk_put (cs := #[.slice A109_0 ((rd_T39 l0 a1_0).f0).length c109_0, .slice A109_1 ((rd_T39 l0 a1_0).f1).length c109_1, .int .i64 ((rd_T39 l0 a1_0).f2), .int .i64 ((rd_T39 l0 a1_0).f3), .int .i64 0]) ?_ 4 _ rfl; (with_reducible repeat (first | refine blk_drewN ?_ _ | refine blk_drew ?_ | refine blk_alloc ?_ _)); refine blk_put (cs := #[.slice A109_0 ((rd_T39 l0 a1_0).f0).length c109_0, .slice A109_1 ((rd_T39 l0 a1_0).f1).length c109_1, .int .i64 ((rd_T39 l0 a1_0).f2), .int .i64 0, .int .i64 0]) ?_ 3 _ rfl; (with_reducible repeat (first | refine blk_drewN ?_ _ | refine blk_drew ?_ | refine blk_alloc ?_ _)); refine blk_put (cs := #[.slice A109_0 ((rd_T39 l0 a1_0).f0).length c109_0, .slice A109_1 ((rd_T39 l0 a1_0).f1).length c109_1, .int .i64 0, .int .i64 0, .int .i64 0]) ?_ 2 _ rfl; (with_reducible repeat (first | refine blk_drewN ?_ _ | refine blk_drew ?_ | refine blk_alloc ?_ _)); refine blk_put (cs := #[.slice A109_0 ((rd_T39 l0 a1_0).f0).length c109_0, .slice none 0 0, .int .i64 0, .int .i64 0, .int .i64 0]) ?_ 1 _ rfl; (with_reducible repeat (first | refine blk_drewN ?_ _ | refine blk_drew ?_ | refine blk_alloc ?_ _)); refine blk_put (cs := #[.slice none 0 0, .slice none 0 0, .int .i64 0, .int .i64 0, .int .i64 0]) ?_ 0 _ rfl; (with_reducible repeat (first | refine blk_drewN ?_ _ | refine blk_drew ?_ | refine blk_alloc ?_ _)); exact BK110.out⟩, ⟨by repeat (first | (with_reducible first | exact HB.out | apply below_alloc | apply pw_below_drewN | apply below_drew1 | refine below_set ?_ GE106.out | refine below_set ?_ GE110.out) | exact HB.out)⟩⟩
                  · replace c25 := Bool.eq_false_iff.mpr c25
                    subst c25
                    have H1 : (stage_May.j1 kj2 (!false) a1_0 a1_1 a1_2 a1_3 a1_4 a1_5 a1_6 a1_7 a1_8 a1_9 ((rd_T39 l0 a1_0).f0) ((rd_T39 l0 a1_0).f1) ((rd_T39 l0 a1_0).f2) ((rd_T39 l0 a1_0).f3) ((rd_T39 l0 a1_0).f4)) = some r := by rw [if_neg (show ¬ (false = true) by decide)] at H; exact H
                    clear H
                    have H := H1
                    clear H1
                    have H' := Aside0.mk H
                    clear H
                    have hnb33 := NB106_110.out
                    have hnc33 := NB110_106.out
                    have hcz34_0 : w17.cell? ⟨gb106, 0, none⟩ = some (.int .i64 a1_0) := (blk_cell BK106.out 0).trans rfl
                    have hcz34_1 : w17.cell? ⟨gb106, 1, none⟩ = some (.int .i64 a1_1) := (blk_cell BK106.out 1).trans rfl
                    have hcz34_2 : w17.cell? ⟨gb106, 2, none⟩ = some (.int .i64 a1_2) := (blk_cell BK106.out 2).trans rfl
                    have hcz34_3 : w17.cell? ⟨gb106, 3, none⟩ = some (.int .i64 a1_3) := (blk_cell BK106.out 3).trans rfl
                    have hcz34_4 : w17.cell? ⟨gb106, 4, none⟩ = some (.int .i64 a1_4) := (blk_cell BK106.out 4).trans rfl
                    have hcz34_5 : w17.cell? ⟨gb106, 5, none⟩ = some (.int .i64 a1_5) := (blk_cell BK106.out 5).trans rfl
                    have hcz34_6 : w17.cell? ⟨gb106, 6, none⟩ = some (.int .i64 a1_6) := (blk_cell BK106.out 6).trans rfl
                    have hcz34_7 : w17.cell? ⟨gb106, 7, none⟩ = some (.int .i64 a1_7) := (blk_cell BK106.out 7).trans rfl
                    have hcz34_8 : w17.cell? ⟨gb106, 8, none⟩ = some (.int .i64 a1_8) := (blk_cell BK106.out 8).trans rfl
                    have hcz34_9 : w17.cell? ⟨gb106, 9, none⟩ = some (.bool a1_9) := (blk_cell BK106.out 9).trans rfl
                    have hfz34_0 := blk_frozen BK106.out 0
                    have hfz34_1 := blk_frozen BK106.out 1
                    have hfz34_2 := blk_frozen BK106.out 2
                    have hfz34_3 := blk_frozen BK106.out 3
                    have hfz34_4 := blk_frozen BK106.out 4
                    have hfz34_5 := blk_frozen BK106.out 5
                    have hfz34_6 := blk_frozen BK106.out 6
                    have hfz34_7 := blk_frozen BK106.out 7
                    have hfz34_8 := blk_frozen BK106.out 8
                    have hfz34_9 := blk_frozen BK106.out 9
                    go_wp2_with (first | ((with_reducible refine gate_callee (f := 44) rfl ?_); refine goesL_ (some 37) rfl rfl Tryd.func44 (by kernel_rfl) rfl #[.int .i64 a1_2, .int .i64 0, .int .i64 (wrap64 ((((rd_T39 l0 a1_0).f1).length : Int) - 1))] rfl (by (try simp only [List.map_toArray, List.map_cons, List.map_nil]); first | done | rfl | (simp only [List.length_drop, List.length_take]; rfl)) ?_; (with_reducible refine (stage_in.calls a1_2 0 (wrap64 ((((rd_T39 l0 a1_0).f1).length : Int) - 1)) true _ A22.out).mono ?_); rintro e w' ⟨rfl, ⟨nd, rfl⟩⟩; refine ⟨_, rfl, ?_⟩) | ((with_reducible refine gate_callee (f := 44) rfl ?_); refine goesL_ (some 42) rfl rfl Tryd.func44 (by kernel_rfl) rfl #[.int .i64 a1_7, .int .i64 (-1), .int .i64 (wrap64 ((((rd_T39 l0 a1_0).f1).length : Int) - 1))] rfl (by (try simp only [List.map_toArray, List.map_cons, List.map_nil]); first | done | rfl | (simp only [List.length_drop, List.length_take]; rfl)) ?_; (with_reducible refine (stage_in.calls a1_7 (-1) (wrap64 ((((rd_T39 l0 a1_0).f1).length : Int) - 1)) false _ A24.out).mono ?_); rintro e w' ⟨rfl, ⟨nd, rfl⟩⟩; refine ⟨_, rfl, ?_⟩))
                    go_meet
                    case rel => exact ⟨_, (!false), (by first | rfl | (simp; done) | (simp [*]; done)), H', ⟨by have := HJ2.out; first | omega | exact Nat.le_refl _⟩, ⟨by (with_reducible repeat (first | refine blk_drewN ?_ _ | refine blk_drew ?_ | refine blk_alloc ?_ _)); refine blk_far ?_ NB106_110.out _; (with_reducible repeat (first | refine blk_drewN ?_ _ | refine blk_drew ?_ | refine blk_alloc ?_ _)); refine blk_far ?_ NB106_110.out _; (with_reducible repeat (first | refine blk_drewN ?_ _ | refine blk_drew ?_ | refine blk_alloc ?_ _)); refine blk_far ?_ NB106_110.out _; (with_reducible repeat (first | refine blk_drewN ?_ _ | refine blk_drew ?_ | refine blk_alloc ?_ _)); refine blk_far ?_ NB106_110.out _; (with_reducible repeat (first | refine blk_drewN ?_ _ | refine blk_drew ?_ | refine blk_alloc ?_ _)); refine blk_far ?_ NB106_110.out _; (with_reducible repeat (first | refine blk_drewN ?_ _ | refine blk_drew ?_ | refine blk_alloc ?_ _)); exact BK106.out⟩, ⟨by (with_reducible repeat (first | refine blk_drewN ?_ _ | refine blk_drew ?_ | refine blk_alloc ?_ _)); refine blk_put (cs := #[.slice A109_0 ((rd_T39 l0 a1_0).f0).length c109_0, .slice A109_1 ((rd_T39 l0 a1_0).f1).length c109_1, .int .i64 ((rd_T39 l0 a1_0).f2), .int .i64 ((rd_T39 l0 a1_0).f3), .int .i64 0]) ?_ 4 _ rfl; (with_reducible repeat (first | refine blk_drewN ?_ _ | refine blk_drew ?_ | refine blk_alloc ?_ _)); refine blk_put (cs := #[.slice A109_0 ((rd_T39 l0 a1_0).f0).length c109_0, .slice A109_1 ((rd_T39 l0 a1_0).f1).length c109_1, .int .i64 ((rd_T39 l0 a1_0).f2), .int .i64 0, .int .i64 0]) ?_ 3 _ rfl; (with_reducible repeat (first | refine blk_drewN ?_ _ | refine blk_drew ?_ | refine blk_alloc ?_ _)); refine blk_put (cs := #[.slice A109_0 ((rd_T39 l0 a1_0).f0).length c109_0, .slice A109_1 ((rd_T39 l0 a1_0).f1).length c109_1, .int .i64 0, .int .i64 0, .int .i64 0]) ?_ 2 _ rfl; (with_reducible repeat (first | refine blk_drewN ?_ _ | refine blk_drew ?_ | refine blk_alloc ?_ _)); refine blk_put (cs := #[.slice A109_0 ((rd_T39 l0 a1_0).f0).length c109_0, .slice none 0 0, .int .i64 0, .int .i64 0, .int .i64 0]) ?_ 1 _ rfl; (with_reducible repeat (first | refine blk_drewN ?_ _ | refine blk_drew ?_ | refine blk_alloc ?_ _)); refine blk_put (cs := #[.slice none 0 0, .slice none 0 0, .int .i64 0, .int .i64 0, .int .i64 0]) ?_ 0 _ rfl; (with_reducible repeat (first | refine blk_drewN ?_ _ | refine blk_drew ?_ | refine blk_alloc ?_ _)); exact BK110.out⟩, ⟨by repeat (first | (with_reducible first | exact HB.out | apply below_alloc | apply pw_below_drewN | apply below_drew1 | refine below_set ?_ GE106.out | refine below_set ?_ GE110.out) | exact HB.out)⟩⟩
                · replace c23 := Bool.eq_false_iff.mpr c23
                  subst c23
                  have H1 : (stage_May.j1 kj2 (!false) a1_0 a1_1 a1_2 a1_3 a1_4 a1_5 a1_6 a1_7 a1_8 a1_9 ((rd_T39 l0 a1_0).f0) ((rd_T39 l0 a1_0).f1) ((rd_T39 l0 a1_0).f2) ((rd_T39 l0 a1_0).f3) ((rd_T39 l0 a1_0).f4)) = some r := by rw [if_neg (show ¬ (false = true) by decide)] at H; exact H
                  clear H
                  have H := H1
                  clear H1
                  have H' := Aside0.mk H
                  clear H
                  have hnb35 := NB106_110.out
                  have hnc35 := NB110_106.out
                  have hcz36_0 : w17.cell? ⟨gb106, 0, none⟩ = some (.int .i64 a1_0) := (blk_cell BK106.out 0).trans rfl
                  have hcz36_1 : w17.cell? ⟨gb106, 1, none⟩ = some (.int .i64 a1_1) := (blk_cell BK106.out 1).trans rfl
                  have hcz36_2 : w17.cell? ⟨gb106, 2, none⟩ = some (.int .i64 a1_2) := (blk_cell BK106.out 2).trans rfl
                  have hcz36_3 : w17.cell? ⟨gb106, 3, none⟩ = some (.int .i64 a1_3) := (blk_cell BK106.out 3).trans rfl
                  have hcz36_4 : w17.cell? ⟨gb106, 4, none⟩ = some (.int .i64 a1_4) := (blk_cell BK106.out 4).trans rfl
                  have hcz36_5 : w17.cell? ⟨gb106, 5, none⟩ = some (.int .i64 a1_5) := (blk_cell BK106.out 5).trans rfl
                  have hcz36_6 : w17.cell? ⟨gb106, 6, none⟩ = some (.int .i64 a1_6) := (blk_cell BK106.out 6).trans rfl
                  have hcz36_7 : w17.cell? ⟨gb106, 7, none⟩ = some (.int .i64 a1_7) := (blk_cell BK106.out 7).trans rfl
                  have hcz36_8 : w17.cell? ⟨gb106, 8, none⟩ = some (.int .i64 a1_8) := (blk_cell BK106.out 8).trans rfl
                  have hcz36_9 : w17.cell? ⟨gb106, 9, none⟩ = some (.bool a1_9) := (blk_cell BK106.out 9).trans rfl
                  have hfz36_0 := blk_frozen BK106.out 0
                  have hfz36_1 := blk_frozen BK106.out 1
                  have hfz36_2 := blk_frozen BK106.out 2
                  have hfz36_3 := blk_frozen BK106.out 3
                  have hfz36_4 := blk_frozen BK106.out 4
                  have hfz36_5 := blk_frozen BK106.out 5
                  have hfz36_6 := blk_frozen BK106.out 6
                  have hfz36_7 := blk_frozen BK106.out 7
                  have hfz36_8 := blk_frozen BK106.out 8
                  have hfz36_9 := blk_frozen BK106.out 9
                  go_wp2_with (first | ((with_reducible refine gate_callee (f := 44) rfl ?_); refine goesL_ (some 37) rfl rfl Tryd.func44 (by kernel_rfl) rfl #[.int .i64 a1_2, .int .i64 0, .int .i64 (wrap64 ((((rd_T39 l0 a1_0).f1).length : Int) - 1))] rfl (by (try simp only [List.map_toArray, List.map_cons, List.map_nil]); first | done | rfl | (simp only [List.length_drop, List.length_take]; rfl)) ?_; (with_reducible refine (stage_in.calls a1_2 0 (wrap64 ((((rd_T39 l0 a1_0).f1).length : Int) - 1)) false _ A22.out).mono ?_); rintro e w' ⟨rfl, ⟨nd, rfl⟩⟩; refine ⟨_, rfl, ?_⟩))
                  go_meet
                  case rel => exact ⟨_, (!false), (by first | rfl | (simp; done) | (simp [*]; done)), H', ⟨by have := HJ2.out; first | omega | exact Nat.le_refl _⟩, ⟨by (with_reducible repeat (first | refine blk_drewN ?_ _ | refine blk_drew ?_ | refine blk_alloc ?_ _)); refine blk_far ?_ NB106_110.out _; (with_reducible repeat (first | refine blk_drewN ?_ _ | refine blk_drew ?_ | refine blk_alloc ?_ _)); refine blk_far ?_ NB106_110.out _; (with_reducible repeat (first | refine blk_drewN ?_ _ | refine blk_drew ?_ | refine blk_alloc ?_ _)); refine blk_far ?_ NB106_110.out _; (with_reducible repeat (first | refine blk_drewN ?_ _ | refine blk_drew ?_ | refine blk_alloc ?_ _)); refine blk_far ?_ NB106_110.out _; (with_reducible repeat (first | refine blk_drewN ?_ _ | refine blk_drew ?_ | refine blk_alloc ?_ _)); refine blk_far ?_ NB106_110.out _; (with_reducible repeat (first | refine blk_drewN ?_ _ | refine blk_drew ?_ | refine blk_alloc ?_ _)); exact BK106.out⟩, ⟨by (with_reducible repeat (first | refine blk_drewN ?_ _ | refine blk_drew ?_ | refine blk_alloc ?_ _)); refine blk_put (cs := #[.slice A109_0 ((rd_T39 l0 a1_0).f0).length c109_0, .slice A109_1 ((rd_T39 l0 a1_0).f1).length c109_1, .int .i64 ((rd_T39 l0 a1_0).f2), .int .i64 ((rd_T39 l0 a1_0).f3), .int .i64 0]) ?_ 4 _ rfl; (with_reducible repeat (first | refine blk_drewN ?_ _ | refine blk_drew ?_ | refine blk_alloc ?_ _)); refine blk_put (cs := #[.slice A109_0 ((rd_T39 l0 a1_0).f0).length c109_0, .slice A109_1 ((rd_T39 l0 a1_0).f1).length c109_1, .int .i64 ((rd_T39 l0 a1_0).f2), .int .i64 0, .int .i64 0]) ?_ 3 _ rfl; (with_reducible repeat (first | refine blk_drewN ?_ _ | refine blk_drew ?_ | refine blk_alloc ?_ _)); refine blk_put (cs := #[.slice A109_0 ((rd_T39 l0 a1_0).f0).length c109_0, .slice A109_1 ((rd_T39 l0 a1_0).f1).length c109_1, .int .i64 0, .int .i64 0, .int .i64 0]) ?_ 2 _ rfl; (with_reducible repeat (first | refine blk_drewN ?_ _ | refine blk_drew ?_ | refine blk_alloc ?_ _)); refine blk_put (cs := #[.slice A109_0 ((rd_T39 l0 a1_0).f0).length c109_0, .slice none 0 0, .int .i64 0, .int .i64 0, .int .i64 0]) ?_ 1 _ rfl; (with_reducible repeat (first | refine blk_drewN ?_ _ | refine blk_drew ?_ | refine blk_alloc ?_ _)); refine blk_put (cs := #[.slice none 0 0, .slice none 0 0, .int .i64 0, .int .i64 0, .int .i64 0]) ?_ 0 _ rfl; (with_reducible repeat (first | refine blk_drewN ?_ _ | refine blk_drew ?_ | refine blk_alloc ?_ _)); exact BK110.out⟩, ⟨by repeat (first | (with_reducible first | exact HB.out | apply below_alloc | apply pw_below_drewN | apply below_drew1 | refine below_set ?_ GE106.out | refine below_set ?_ GE110.out) | exact HB.out)⟩⟩
              · replace c21 := Bool.eq_false_iff.mpr c21
                subst c21
                have H1 : (stage_May.j1 kj2 (!false) a1_0 a1_1 a1_2 a1_3 a1_4 a1_5 a1_6 a1_7 a1_8 a1_9 ((rd_T39 l0 a1_0).f0) ((rd_T39 l0 a1_0).f1) ((rd_T39 l0 a1_0).f2) ((rd_T39 l0 a1_0).f3) ((rd_T39 l0 a1_0).f4)) = some r := by rw [if_neg (show ¬ (false = true) by decide)] at H; exact H
                clear H
                have H := H1
                clear H1
                have H' := Aside0.mk H
                clear H
                go_wp2
                go_meet
                case rel => exact ⟨_, (!false), (by first | rfl | (simp; done) | (simp [*]; done)), H', ⟨by have := HJ2.out; first | omega | exact Nat.le_refl _⟩, ⟨by (with_reducible repeat (first | refine blk_drewN ?_ _ | refine blk_drew ?_ | refine blk_alloc ?_ _)); refine blk_far ?_ NB106_110.out _; (with_reducible repeat (first | refine blk_drewN ?_ _ | refine blk_drew ?_ | refine blk_alloc ?_ _)); refine blk_far ?_ NB106_110.out _; (with_reducible repeat (first | refine blk_drewN ?_ _ | refine blk_drew ?_ | refine blk_alloc ?_ _)); refine blk_far ?_ NB106_110.out _; (with_reducible repeat (first | refine blk_drewN ?_ _ | refine blk_drew ?_ | refine blk_alloc ?_ _)); refine blk_far ?_ NB106_110.out _; (with_reducible repeat (first | refine blk_drewN ?_ _ | refine blk_drew ?_ | refine blk_alloc ?_ _)); refine blk_far ?_ NB106_110.out _; (with_reducible repeat (first | refine blk_drewN ?_ _ | refine blk_drew ?_ | refine blk_alloc ?_ _)); exact BK106.out⟩, ⟨by (with_reducible repeat (first | refine blk_drewN ?_ _ | refine blk_drew ?_ | refine blk_alloc ?_ _)); refine blk_put (cs := #[.slice A109_0 ((rd_T39 l0 a1_0).f0).length c109_0, .slice A109_1 ((rd_T39 l0 a1_0).f1).length c109_1, .int .i64 ((rd_T39 l0 a1_0).f2), .int .i64 ((rd_T39 l0 a1_0).f3), .int .i64 0]) ?_ 4 _ rfl; (with_reducible repeat (first | refine blk_drewN ?_ _ | refine blk_drew ?_ | refine blk_alloc ?_ _)); refine blk_put (cs := #[.slice A109_0 ((rd_T39 l0 a1_0).f0).length c109_0, .slice A109_1 ((rd_T39 l0 a1_0).f1).length c109_1, .int .i64 ((rd_T39 l0 a1_0).f2), .int .i64 0, .int .i64 0]) ?_ 3 _ rfl; (with_reducible repeat (first | refine blk_drewN ?_ _ | refine blk_drew ?_ | refine blk_alloc ?_ _)); refine blk_put (cs := #[.slice A109_0 ((rd_T39 l0 a1_0).f0).length c109_0, .slice A109_1 ((rd_T39 l0 a1_0).f1).length c109_1, .int .i64 0, .int .i64 0, .int .i64 0]) ?_ 2 _ rfl; (with_reducible repeat (first | refine blk_drewN ?_ _ | refine blk_drew ?_ | refine blk_alloc ?_ _)); refine blk_put (cs := #[.slice A109_0 ((rd_T39 l0 a1_0).f0).length c109_0, .slice none 0 0, .int .i64 0, .int .i64 0, .int .i64 0]) ?_ 1 _ rfl; (with_reducible repeat (first | refine blk_drewN ?_ _ | refine blk_drew ?_ | refine blk_alloc ?_ _)); refine blk_put (cs := #[.slice none 0 0, .slice none 0 0, .int .i64 0, .int .i64 0, .int .i64 0]) ?_ 0 _ rfl; (with_reducible repeat (first | refine blk_drewN ?_ _ | refine blk_drew ?_ | refine blk_alloc ?_ _)); exact BK110.out⟩, ⟨by repeat (first | (with_reducible first | exact HB.out | apply below_alloc | apply pw_below_drewN | apply below_drew1 | refine below_set ?_ GE106.out | refine below_set ?_ GE110.out) | exact HB.out)⟩⟩
            case rest =>
              clear HC15
              try clear c1
              try clear p1
              try clear q1
              try clear hx1
              try clear c2
              try clear p2
              try clear c3
              try clear c4
              try clear c6
              try clear p6
              try clear c10
              try clear p10
              try clear q10
              try clear hx10
              try clear c11
              try clear c12
              try clear c12b0
              try clear c13
              try clear c13b0
              try clear c18
              try clear c21
              try clear c22
              try clear c23
              try clear c25
              try clear c27
              try clear c29
              try clear c31
              try clear c33
              try clear c35
              try clear hcz16_0
              try clear hcz16_1
              try clear hcz16_2
              try clear hcz16_3
              try clear hcz16_4
              try clear hcz16_5
              try clear hcz16_6
              try clear hcz16_7
              try clear hcz16_8
              try clear hcz16_9
              try clear hcz19_0
              try clear hcz19_1
              try clear hcz19_2
              try clear hcz19_3
              try clear hcz19_4
              try clear hcz20_0
              try clear hcz20_1
              try clear hcz20_2
              try clear hcz20_3
              try clear hcz20_4
              try clear hcz20_5
              try clear hcz20_6
              try clear hcz20_7
              try clear hcz20_8
              try clear hcz20_9
              try clear hcz30_0
              try clear hcz30_1
              try clear hcz30_2
              try clear hcz30_3
              try clear hcz30_4
              try clear hcz30_5
              try clear hcz30_6
              try clear hcz30_7
              try clear hcz30_8
              try clear hcz30_9
              try clear hcz32_0
              try clear hcz32_1
              try clear hcz32_2
              try clear hcz32_3
              try clear hcz32_4
              try clear hcz32_5
              try clear hcz32_6
              try clear hcz32_7
              try clear hcz32_8
              try clear hcz32_9
              try clear hcz34_0
              try clear hcz34_1
              try clear hcz34_2
              try clear hcz34_3
              try clear hcz34_4
              try clear hcz34_5
              try clear hcz34_6
              try clear hcz34_7
              try clear hcz34_8
              try clear hcz34_9
              try clear hcz36_0
              try clear hcz36_1
              try clear hcz36_2
              try clear hcz36_3
              try clear hcz36_4
              try clear hcz36_5
              try clear hcz36_6
              try clear hcz36_7
              try clear hcz36_8
              try clear hcz36_9
              try clear hcz9_0
              try clear hcz9_1
              try clear hcz9_2
              try clear hcz9_3
              try clear hcz9_4
              try clear hcz9_5
              try clear hcz9_6
              try clear hcz9_7
              try clear hcz9_8
              try clear hcz9_9
              try clear hfz16_0
              try clear hfz16_1
              try clear hfz16_2
              try clear hfz16_3
              try clear hfz16_4
              try clear hfz16_5
              try clear hfz16_6
              try clear hfz16_7
              try clear hfz16_8
              try clear hfz16_9
              try clear hfz19_0
              try clear hfz19_1
              try clear hfz19_2
              try clear hfz19_3
              try clear hfz19_4
              try clear hfz20_0
              try clear hfz20_1
              try clear hfz20_2
              try clear hfz20_3
              try clear hfz20_4
              try clear hfz20_5
              try clear hfz20_6
              try clear hfz20_7
              try clear hfz20_8
              try clear hfz20_9
              try clear hfz30_0
              try clear hfz30_1
              try clear hfz30_2
              try clear hfz30_3
              try clear hfz30_4
              try clear hfz30_5
              try clear hfz30_6
              try clear hfz30_7
              try clear hfz30_8
              try clear hfz30_9
              try clear hfz32_0
              try clear hfz32_1
              try clear hfz32_2
              try clear hfz32_3
              try clear hfz32_4
              try clear hfz32_5
              try clear hfz32_6
              try clear hfz32_7
              try clear hfz32_8
              try clear hfz32_9
              try clear hfz34_0
              try clear hfz34_1
              try clear hfz34_2
              try clear hfz34_3
              try clear hfz34_4
              try clear hfz34_5
              try clear hfz34_6
              try clear hfz34_7
              try clear hfz34_8
              try clear hfz34_9
              try clear hfz36_0
              try clear hfz36_1
              try clear hfz36_2
              try clear hfz36_3
              try clear hfz36_4
              try clear hfz36_5
              try clear hfz36_6
              try clear hfz36_7
              try clear hfz36_8
              try clear hfz36_9
              try clear hfz9_0
              try clear hfz9_1
              try clear hfz9_2
              try clear hfz9_3
              try clear hfz9_4
              try clear hfz9_5
              try clear hfz9_6
              try clear hfz9_7
              try clear hfz9_8
              try clear hfz9_9
              try clear hx109_0
              try clear hx109_1
              try clear hx109_2
              try clear hx109_3
              try clear hx109_4
              try clear p109
              try clear p2
              try clear p6
              try clear q109
              obtain ⟨kq, x28_14, rfl, HA, HJ14, BK106, BK110, HB⟩ := hcut
              cases kq with
              | zero => exact absurd HA.out (by simp [stage_May.j1])
              | succ kj14 =>
                have H := HA.out
                clear HA
                simp only [stage_May.j1] at H
                by_cases c37 : x28_14 = true
                · subst c37
                  have H1 : (some false) = some r := by rw [if_pos rfl] at H; exact H
                  clear H
                  have H := H1
                  clear H1
                  obtain rfl := Option.some.inj H
                  go_wp2
                  go_ret
                  exact ⟨by first | rfl | (simp [errW_none, errW_some] <;> rfl) | (simp [*, errW_none, errW_some] <;> rfl), by repeat (first | (with_reducible first | exact HB.out | apply below_alloc | apply pw_below_drewN | apply below_drew1 | refine below_set ?_ GE106.out | refine below_set ?_ GE110.out) | exact HB.out)⟩
                · replace c37 := Bool.eq_false_iff.mpr c37
                  subst c37
                  have H1 : ((stage_in.f a1_6 0 ((rd_T39 l0 a1_0).f4)).bind fun t116 => (if t116 = true then ((stage_in.f a1_5 0 (wrap64 (((rd_T39 l0 a1_0).f4) - a1_6))).bind fun t117 => (if t117 = true then ((stage_phase.f ((rd_T39 l0 a1_0).f0) ((rd_T39 l0 a1_0).f1) ((rd_T39 l0 a1_0).f2) ((rd_T39 l0 a1_0).f3) ((rd_T39 l0 a1_0).f4) a1_0 a1_1 a1_2 a1_3 a1_4 a1_5 a1_6 a1_7 a1_8 a1_9).bind fun t118 => (some t118)) else (some false))) else (some false))) = some r := by rw [if_neg (show ¬ (false = true) by decide)] at H; exact H
                  clear H
                  have H := H1
                  clear H1
                  replace H := Option.bind_eq_some_iff.mp H
                  obtain ⟨t116, A380, H⟩ := H
                  replace H : (if t116 = true then ((stage_in.f a1_5 0 (wrap64 (((rd_T39 l0 a1_0).f4) - a1_6))).bind fun t117 => (if t117 = true then ((stage_phase.f ((rd_T39 l0 a1_0).f0) ((rd_T39 l0 a1_0).f1) ((rd_T39 l0 a1_0).f2) ((rd_T39 l0 a1_0).f3) ((rd_T39 l0 a1_0).f4) a1_0 a1_1 a1_2 a1_3 a1_4 a1_5 a1_6 a1_7 a1_8 a1_9).bind fun t118 => (some t118)) else (some false))) else (some false)) = some r := H
                  have A38 := Aside0.mk A380
                  clear A380
                  by_cases c39 : t116 = true
                  · subst c39
                    have H1 : ((stage_in.f a1_5 0 (wrap64 (((rd_T39 l0 a1_0).f4) - a1_6))).bind fun t117 => (if t117 = true then ((stage_phase.f ((rd_T39 l0 a1_0).f0) ((rd_T39 l0 a1_0).f1) ((rd_T39 l0 a1_0).f2) ((rd_T39 l0 a1_0).f3) ((rd_T39 l0 a1_0).f4) a1_0 a1_1 a1_2 a1_3 a1_4 a1_5 a1_6 a1_7 a1_8 a1_9).bind fun t118 => (some t118)) else (some false))) = some r := by rw [if_pos rfl] at H; exact H
                    clear H
                    have H := H1
                    clear H1
                    replace H := Option.bind_eq_some_iff.mp H
                    obtain ⟨t117, A400, H⟩ := H
                    replace H : (if t117 = true then ((stage_phase.f ((rd_T39 l0 a1_0).f0) ((rd_T39 l0 a1_0).f1) ((rd_T39 l0 a1_0).f2) ((rd_T39 l0 a1_0).f3) ((rd_T39 l0 a1_0).f4) a1_0 a1_1 a1_2 a1_3 a1_4 a1_5 a1_6 a1_7 a1_8 a1_9).bind fun t118 => (some t118)) else (some false)) = some r := H
                    have A40 := Aside0.mk A400
                    clear A400
                    by_cases c41 : t117 = true
                    · subst c41
                      have H1 : ((stage_phase.f ((rd_T39 l0 a1_0).f0) ((rd_T39 l0 a1_0).f1) ((rd_T39 l0 a1_0).f2) ((rd_T39 l0 a1_0).f3) ((rd_T39 l0 a1_0).f4) a1_0 a1_1 a1_2 a1_3 a1_4 a1_5 a1_6 a1_7 a1_8 a1_9).bind fun t118 => (some t118)) = some r := by rw [if_pos rfl] at H; exact H
                      clear H
                      have H := H1
                      clear H1
                      replace H := Option.bind_eq_some_iff.mp H
                      obtain ⟨t118, A420, H⟩ := H
                      replace H : (some t118) = some r := H
                      have A42 := Aside0.mk A420
                      clear A420
                      obtain rfl := Option.some.inj H
                      have hnb43 := NB106_110.out
                      have hnc43 := NB110_106.out
                      have hcz44_0 : wc.cell? ⟨gb106, 0, none⟩ = some (.int .i64 a1_0) := (blk_cell BK106.out 0).trans rfl
                      have hcz44_1 : wc.cell? ⟨gb106, 1, none⟩ = some (.int .i64 a1_1) := (blk_cell BK106.out 1).trans rfl
                      have hcz44_2 : wc.cell? ⟨gb106, 2, none⟩ = some (.int .i64 a1_2) := (blk_cell BK106.out 2).trans rfl
                      have hcz44_3 : wc.cell? ⟨gb106, 3, none⟩ = some (.int .i64 a1_3) := (blk_cell BK106.out 3).trans rfl
                      have hcz44_4 : wc.cell? ⟨gb106, 4, none⟩ = some (.int .i64 a1_4) := (blk_cell BK106.out 4).trans rfl
                      have hcz44_5 : wc.cell? ⟨gb106, 5, none⟩ = some (.int .i64 a1_5) := (blk_cell BK106.out 5).trans rfl
                      have hcz44_6 : wc.cell? ⟨gb106, 6, none⟩ = some (.int .i64 a1_6) := (blk_cell BK106.out 6).trans rfl
                      have hcz44_7 : wc.cell? ⟨gb106, 7, none⟩ = some (.int .i64 a1_7) := (blk_cell BK106.out 7).trans rfl
                      have hcz44_8 : wc.cell? ⟨gb106, 8, none⟩ = some (.int .i64 a1_8) := (blk_cell BK106.out 8).trans rfl
                      have hcz44_9 : wc.cell? ⟨gb106, 9, none⟩ = some (.bool a1_9) := (blk_cell BK106.out 9).trans rfl
                      have hfz44_0 := blk_frozen BK106.out 0
                      have hfz44_1 := blk_frozen BK106.out 1
                      have hfz44_2 := blk_frozen BK106.out 2
                      have hfz44_3 := blk_frozen BK106.out 3
                      have hfz44_4 := blk_frozen BK106.out 4
                      have hfz44_5 := blk_frozen BK106.out 5
                      have hfz44_6 := blk_frozen BK106.out 6
                      have hfz44_7 := blk_frozen BK106.out 7
                      have hfz44_8 := blk_frozen BK106.out 8
                      have hfz44_9 := blk_frozen BK106.out 9
                      have hcz45_0 : wc.cell? ⟨gb110, 0, none⟩ = some (.slice A109_0 ((rd_T39 l0 a1_0).f0).length c109_0) := (blk_cell BK110.out 0).trans rfl
                      have hcz45_1 : wc.cell? ⟨gb110, 1, none⟩ = some (.slice A109_1 ((rd_T39 l0 a1_0).f1).length c109_1) := (blk_cell BK110.out 1).trans rfl
                      have hcz45_2 : wc.cell? ⟨gb110, 2, none⟩ = some (.int .i64 ((rd_T39 l0 a1_0).f2)) := (blk_cell BK110.out 2).trans rfl
                      have hcz45_3 : wc.cell? ⟨gb110, 3, none⟩ = some (.int .i64 ((rd_T39 l0 a1_0).f3)) := (blk_cell BK110.out 3).trans rfl
                      have hcz45_4 : wc.cell? ⟨gb110, 4, none⟩ = some (.int .i64 ((rd_T39 l0 a1_0).f4)) := (blk_cell BK110.out 4).trans rfl
                      have hfz45_0 := blk_frozen BK110.out 0
                      have hfz45_1 := blk_frozen BK110.out 1
                      have hfz45_2 := blk_frozen BK110.out 2
                      have hfz45_3 := blk_frozen BK110.out 3
                      have hfz45_4 := blk_frozen BK110.out 4
                      go_wp2_with (first | ((with_reducible refine gate_callee (f := 44) rfl ?_); refine goesL_ (some 60) rfl rfl Tryd.func44 (by kernel_rfl) rfl #[.int .i64 a1_6, .int .i64 0, .int .i64 ((rd_T39 l0 a1_0).f4)] rfl (by (try simp only [List.map_toArray, List.map_cons, List.map_nil]); first | done | rfl | (simp only [List.length_drop, List.length_take]; rfl)) ?_; (with_reducible refine (stage_in.calls a1_6 0 ((rd_T39 l0 a1_0).f4) true _ A38.out).mono ?_); rintro e w' ⟨rfl, ⟨nd, rfl⟩⟩; refine ⟨_, rfl, ?_⟩) | ((with_reducible refine gate_callee (f := 44) rfl ?_); refine goesL_ (some 69) rfl rfl Tryd.func44 (by kernel_rfl) rfl #[.int .i64 a1_5, .int .i64 0, .int .i64 (wrap64 (((rd_T39 l0 a1_0).f4) - a1_6))] rfl (by (try simp only [List.map_toArray, List.map_cons, List.map_nil]); first | done | rfl | (simp only [List.length_drop, List.length_take]; rfl)) ?_; (with_reducible refine (stage_in.calls a1_5 0 (wrap64 (((rd_T39 l0 a1_0).f4) - a1_6)) true _ A40.out).mono ?_); rintro e w' ⟨rfl, ⟨nd, rfl⟩⟩; refine ⟨_, rfl, ?_⟩) | ((with_reducible refine gate_callee (f := 45) rfl ?_); refine goesL_ (some 73) rfl rfl Tryd.func45 (by kernel_rfl) rfl #[.agg #[.slice A109_0 ((rd_T39 l0 a1_0).f0).length c109_0, .slice A109_1 ((rd_T39 l0 a1_0).f1).length c109_1, .int .i64 ((rd_T39 l0 a1_0).f2), .int .i64 ((rd_T39 l0 a1_0).f3), .int .i64 ((rd_T39 l0 a1_0).f4)], .agg #[.int .i64 a1_0, .int .i64 a1_1, .int .i64 a1_2, .int .i64 a1_3, .int .i64 a1_4, .int .i64 a1_5, .int .i64 a1_6, .int .i64 a1_7, .int .i64 a1_8, .bool a1_9]] rfl (by (try simp only [List.map_toArray, List.map_cons, List.map_nil]); first | done | rfl | (simp only [List.length_drop, List.length_take]; rfl)) ?_; (with_reducible refine (stage_phase.calls _ _ ((rd_T39 l0 a1_0).f0) _ _ ((rd_T39 l0 a1_0).f1) ((rd_T39 l0 a1_0).f2) ((rd_T39 l0 a1_0).f3) ((rd_T39 l0 a1_0).f4) a1_0 a1_1 a1_2 a1_3 a1_4 a1_5 a1_6 a1_7 a1_8 a1_9 t118 _ ?side1 ?side2 ?side3 ?side4 A42.out).mono ?_); (case side1 => repeat (first | exact (Kd.C_below HR109_0.out (by repeat (first | (with_reducible first | exact HB.out | apply below_alloc | apply pw_below_drewN | apply below_drew1 | refine below_set ?_ GE106.out | refine below_set ?_ GE110.out) | exact HB.out))) | (with_reducible refine Kd.C_alloc ?_ _) | (with_reducible refine Kd.C_drewN ?_ _) | (with_reducible refine Kd.C_drew ?_))); (case side2 => exact HC109_0.out); (case side3 => repeat (first | exact (Kd.C_below HR109_1.out (by repeat (first | (with_reducible first | exact HB.out | apply below_alloc | apply pw_below_drewN | apply below_drew1 | refine below_set ?_ GE106.out | refine below_set ?_ GE110.out) | exact HB.out))) | (with_reducible refine Kd.C_alloc ?_ _) | (with_reducible refine Kd.C_drewN ?_ _) | (with_reducible refine Kd.C_drew ?_))); (case side4 => exact HC109_1.out); rintro e w46 ⟨rfl, hb⟩; refine ⟨_, rfl, ?_⟩; have n0_ := Aside0.mk (blk_below (g := gb106) (o := .cells #[.int .i64 a1_0, .int .i64 a1_1, .int .i64 a1_2, .int .i64 a1_3, .int .i64 a1_4, .int .i64 a1_5, .int .i64 a1_6, .int .i64 a1_7, .int .i64 a1_8, .bool a1_9] 24 (0, 0)) (by (with_reducible repeat (first | refine blk_drewN ?_ _ | refine blk_drew ?_ | refine blk_alloc ?_ _)); exact BK106.out) hb); have n1_ := Aside0.mk (blk_below (g := gb110) (o := .cells #[.slice A109_0 ((rd_T39 l0 a1_0).f0).length c109_0, .slice A109_1 ((rd_T39 l0 a1_0).f1).length c109_1, .int .i64 ((rd_T39 l0 a1_0).f2), .int .i64 ((rd_T39 l0 a1_0).f3), .int .i64 ((rd_T39 l0 a1_0).f4)] 39 (0, 0)) (by (with_reducible repeat (first | refine blk_drewN ?_ _ | refine blk_drew ?_ | refine blk_alloc ?_ _)); exact BK110.out) hb); have n2_ := Aside0.mk (below_step (by repeat (first | (with_reducible first | exact HB.out | apply below_alloc | apply pw_below_drewN | apply below_drew1 | refine below_set ?_ GE106.out | refine below_set ?_ GE110.out) | exact HB.out)) hb); clear BK106; clear BK110; clear HB; have BK106 := n0_; have BK110 := n1_; have HB := n2_; clear n0_ n1_ n2_; (try clear hb); (try clear hb2); (try clear hk); (try clear hi)))
                      go_ret
                      exact ⟨by first | rfl | (simp [errW_none, errW_some] <;> rfl) | (simp [*, errW_none, errW_some] <;> rfl), by repeat (first | (with_reducible first | exact HB.out | apply below_alloc | apply pw_below_drewN | apply below_drew1 | refine below_set ?_ GE106.out | refine below_set ?_ GE110.out) | exact HB.out)⟩
                    · replace c41 := Bool.eq_false_iff.mpr c41
                      subst c41
                      have H1 : (some false) = some r := by rw [if_neg (show ¬ (false = true) by decide)] at H; exact H
                      clear H
                      have H := H1
                      clear H1
                      obtain rfl := Option.some.inj H
                      have hnb47 := NB106_110.out
                      have hnc47 := NB110_106.out
                      have hcz48_0 : wc.cell? ⟨gb106, 0, none⟩ = some (.int .i64 a1_0) := (blk_cell BK106.out 0).trans rfl
                      have hcz48_1 : wc.cell? ⟨gb106, 1, none⟩ = some (.int .i64 a1_1) := (blk_cell BK106.out 1).trans rfl
                      have hcz48_2 : wc.cell? ⟨gb106, 2, none⟩ = some (.int .i64 a1_2) := (blk_cell BK106.out 2).trans rfl
                      have hcz48_3 : wc.cell? ⟨gb106, 3, none⟩ = some (.int .i64 a1_3) := (blk_cell BK106.out 3).trans rfl
                      have hcz48_4 : wc.cell? ⟨gb106, 4, none⟩ = some (.int .i64 a1_4) := (blk_cell BK106.out 4).trans rfl
                      have hcz48_5 : wc.cell? ⟨gb106, 5, none⟩ = some (.int .i64 a1_5) := (blk_cell BK106.out 5).trans rfl
                      have hcz48_6 : wc.cell? ⟨gb106, 6, none⟩ = some (.int .i64 a1_6) := (blk_cell BK106.out 6).trans rfl
                      have hcz48_7 : wc.cell? ⟨gb106, 7, none⟩ = some (.int .i64 a1_7) := (blk_cell BK106.out 7).trans rfl
                      have hcz48_8 : wc.cell? ⟨gb106, 8, none⟩ = some (.int .i64 a1_8) := (blk_cell BK106.out 8).trans rfl
                      have hcz48_9 : wc.cell? ⟨gb106, 9, none⟩ = some (.bool a1_9) := (blk_cell BK106.out 9).trans rfl
                      have hfz48_0 := blk_frozen BK106.out 0
                      have hfz48_1 := blk_frozen BK106.out 1
                      have hfz48_2 := blk_frozen BK106.out 2
                      have hfz48_3 := blk_frozen BK106.out 3
                      have hfz48_4 := blk_frozen BK106.out 4
                      have hfz48_5 := blk_frozen BK106.out 5
                      have hfz48_6 := blk_frozen BK106.out 6
                      have hfz48_7 := blk_frozen BK106.out 7
                      have hfz48_8 := blk_frozen BK106.out 8
                      have hfz48_9 := blk_frozen BK106.out 9
                      have hcz49_0 : wc.cell? ⟨gb110, 0, none⟩ = some (.slice A109_0 ((rd_T39 l0 a1_0).f0).length c109_0) := (blk_cell BK110.out 0).trans rfl
                      have hcz49_1 : wc.cell? ⟨gb110, 1, none⟩ = some (.slice A109_1 ((rd_T39 l0 a1_0).f1).length c109_1) := (blk_cell BK110.out 1).trans rfl
                      have hcz49_2 : wc.cell? ⟨gb110, 2, none⟩ = some (.int .i64 ((rd_T39 l0 a1_0).f2)) := (blk_cell BK110.out 2).trans rfl
                      have hcz49_3 : wc.cell? ⟨gb110, 3, none⟩ = some (.int .i64 ((rd_T39 l0 a1_0).f3)) := (blk_cell BK110.out 3).trans rfl
                      have hcz49_4 : wc.cell? ⟨gb110, 4, none⟩ = some (.int .i64 ((rd_T39 l0 a1_0).f4)) := (blk_cell BK110.out 4).trans rfl
                      have hfz49_0 := blk_frozen BK110.out 0
                      have hfz49_1 := blk_frozen BK110.out 1
                      have hfz49_2 := blk_frozen BK110.out 2
                      have hfz49_3 := blk_frozen BK110.out 3
                      have hfz49_4 := blk_frozen BK110.out 4
                      go_wp2_with (first | ((with_reducible refine gate_callee (f := 44) rfl ?_); refine goesL_ (some 60) rfl rfl Tryd.func44 (by kernel_rfl) rfl #[.int .i64 a1_6, .int .i64 0, .int .i64 ((rd_T39 l0 a1_0).f4)] rfl (by (try simp only [List.map_toArray, List.map_cons, List.map_nil]); first | done | rfl | (simp only [List.length_drop, List.length_take]; rfl)) ?_; (with_reducible refine (stage_in.calls a1_6 0 ((rd_T39 l0 a1_0).f4) true _ A38.out).mono ?_); rintro e w' ⟨rfl, ⟨nd, rfl⟩⟩; refine ⟨_, rfl, ?_⟩) | ((with_reducible refine gate_callee (f := 44) rfl ?_); refine goesL_ (some 69) rfl rfl Tryd.func44 (by kernel_rfl) rfl #[.int .i64 a1_5, .int .i64 0, .int .i64 (wrap64 (((rd_T39 l0 a1_0).f4) - a1_6))] rfl (by (try simp only [List.map_toArray, List.map_cons, List.map_nil]); first | done | rfl | (simp only [List.length_drop, List.length_take]; rfl)) ?_; (with_reducible refine (stage_in.calls a1_5 0 (wrap64 (((rd_T39 l0 a1_0).f4) - a1_6)) false _ A40.out).mono ?_); rintro e w' ⟨rfl, ⟨nd, rfl⟩⟩; refine ⟨_, rfl, ?_⟩))
                      go_ret
                      exact ⟨by first | rfl | (simp [errW_none, errW_some] <;> rfl) | (simp [*, errW_none, errW_some] <;> rfl), by repeat (first | (with_reducible first | exact HB.out | apply below_alloc | apply pw_below_drewN | apply below_drew1 | refine below_set ?_ GE106.out | refine below_set ?_ GE110.out) | exact HB.out)⟩
                  · replace c39 := Bool.eq_false_iff.mpr c39
                    subst c39
                    have H1 : (some false) = some r := by rw [if_neg (show ¬ (false = true) by decide)] at H; exact H
                    clear H
                    have H := H1
                    clear H1
                    obtain rfl := Option.some.inj H
                    have hnb50 := NB106_110.out
                    have hnc50 := NB110_106.out
                    have hcz51_0 : wc.cell? ⟨gb106, 0, none⟩ = some (.int .i64 a1_0) := (blk_cell BK106.out 0).trans rfl
                    have hcz51_1 : wc.cell? ⟨gb106, 1, none⟩ = some (.int .i64 a1_1) := (blk_cell BK106.out 1).trans rfl
                    have hcz51_2 : wc.cell? ⟨gb106, 2, none⟩ = some (.int .i64 a1_2) := (blk_cell BK106.out 2).trans rfl
                    have hcz51_3 : wc.cell? ⟨gb106, 3, none⟩ = some (.int .i64 a1_3) := (blk_cell BK106.out 3).trans rfl
                    have hcz51_4 : wc.cell? ⟨gb106, 4, none⟩ = some (.int .i64 a1_4) := (blk_cell BK106.out 4).trans rfl
                    have hcz51_5 : wc.cell? ⟨gb106, 5, none⟩ = some (.int .i64 a1_5) := (blk_cell BK106.out 5).trans rfl
                    have hcz51_6 : wc.cell? ⟨gb106, 6, none⟩ = some (.int .i64 a1_6) := (blk_cell BK106.out 6).trans rfl
                    have hcz51_7 : wc.cell? ⟨gb106, 7, none⟩ = some (.int .i64 a1_7) := (blk_cell BK106.out 7).trans rfl
                    have hcz51_8 : wc.cell? ⟨gb106, 8, none⟩ = some (.int .i64 a1_8) := (blk_cell BK106.out 8).trans rfl
                    have hcz51_9 : wc.cell? ⟨gb106, 9, none⟩ = some (.bool a1_9) := (blk_cell BK106.out 9).trans rfl
                    have hfz51_0 := blk_frozen BK106.out 0
                    have hfz51_1 := blk_frozen BK106.out 1
                    have hfz51_2 := blk_frozen BK106.out 2
                    have hfz51_3 := blk_frozen BK106.out 3
                    have hfz51_4 := blk_frozen BK106.out 4
                    have hfz51_5 := blk_frozen BK106.out 5
                    have hfz51_6 := blk_frozen BK106.out 6
                    have hfz51_7 := blk_frozen BK106.out 7
                    have hfz51_8 := blk_frozen BK106.out 8
                    have hfz51_9 := blk_frozen BK106.out 9
                    have hcz52_0 : wc.cell? ⟨gb110, 0, none⟩ = some (.slice A109_0 ((rd_T39 l0 a1_0).f0).length c109_0) := (blk_cell BK110.out 0).trans rfl
                    have hcz52_1 : wc.cell? ⟨gb110, 1, none⟩ = some (.slice A109_1 ((rd_T39 l0 a1_0).f1).length c109_1) := (blk_cell BK110.out 1).trans rfl
                    have hcz52_2 : wc.cell? ⟨gb110, 2, none⟩ = some (.int .i64 ((rd_T39 l0 a1_0).f2)) := (blk_cell BK110.out 2).trans rfl
                    have hcz52_3 : wc.cell? ⟨gb110, 3, none⟩ = some (.int .i64 ((rd_T39 l0 a1_0).f3)) := (blk_cell BK110.out 3).trans rfl
                    have hcz52_4 : wc.cell? ⟨gb110, 4, none⟩ = some (.int .i64 ((rd_T39 l0 a1_0).f4)) := (blk_cell BK110.out 4).trans rfl
                    have hfz52_0 := blk_frozen BK110.out 0
                    have hfz52_1 := blk_frozen BK110.out 1
                    have hfz52_2 := blk_frozen BK110.out 2
                    have hfz52_3 := blk_frozen BK110.out 3
                    have hfz52_4 := blk_frozen BK110.out 4
                    go_wp2_with (first | ((with_reducible refine gate_callee (f := 44) rfl ?_); refine goesL_ (some 60) rfl rfl Tryd.func44 (by kernel_rfl) rfl #[.int .i64 a1_6, .int .i64 0, .int .i64 ((rd_T39 l0 a1_0).f4)] rfl (by (try simp only [List.map_toArray, List.map_cons, List.map_nil]); first | done | rfl | (simp only [List.length_drop, List.length_take]; rfl)) ?_; (with_reducible refine (stage_in.calls a1_6 0 ((rd_T39 l0 a1_0).f4) false _ A38.out).mono ?_); rintro e w' ⟨rfl, ⟨nd, rfl⟩⟩; refine ⟨_, rfl, ?_⟩))
                    go_ret
                    exact ⟨by first | rfl | (simp [errW_none, errW_some] <;> rfl) | (simp [*, errW_none, errW_some] <;> rfl), by repeat (first | (with_reducible first | exact HB.out | apply below_alloc | apply pw_below_drewN | apply below_drew1 | refine below_set ?_ GE106.out | refine below_set ?_ GE110.out) | exact HB.out)⟩
          · rw [if_neg c13] at H
            exact absurd H (by simp)
        · rw [if_neg c12] at H
          exact absurd H (by simp)
end Go.Proofs.YtechgjbhgeddjaaDoor.F
