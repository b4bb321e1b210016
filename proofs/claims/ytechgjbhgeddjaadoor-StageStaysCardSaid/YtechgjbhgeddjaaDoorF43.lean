/- Woven by wip/weave/weave.py of this repo (own tool) out of the translation: the contracts of some functions. Lean checks it. -/
import Derived.Test.YtechgjbhgeddjaaDoorD
import Derived.Test.YtechgjbhgeddjaaDoorDStageStays
import Derived.Test.YtechgjbhgeddjaaDoorF0
import Derived.Test.YtechgjbhgeddjaaDoorF1
import Derived.Test.YtechgjbhgeddjaaDoorF5
import Derived.Test.YtechgjbhgeddjaaDoorF14
import Derived.Test.YtechgjbhgeddjaaDoorF15
import Derived.Test.YtechgjbhgeddjaaDoorF17
import Derived.Test.YtechgjbhgeddjaaDoorF21
import Derived.Test.YtechgjbhgeddjaaDoorF22
import Derived.Test.YtechgjbhgeddjaaDoorF42
namespace Go.Proofs.YtechgjbhgeddjaaDoor.F
open Go.RowKit Go.Proofs.YtechgjbhgeddjaaDoorW.PrintWords Go.Proofs.YtechgjbhgeddjaaDoorW.PrintLast Go.Proofs.YtechgjbhgeddjaaDoorW.PrintMore
attribute [local go_sem] max2_int min2_int max_two min_two max_three min_three max_four min_four   -- for this text's walks alone
set_option linter.unusedVariables false
set_option linter.unusedSimpArgs false

attribute [local go_sem high] eqA24
/-! ### pelicanlaw16_StageStays: function 8 -/
set_option maxHeartbeats 8000000 in
set_option maxRecDepth 100000 in
theorem pelicanlaw16_StageStays.calls (k : Nat) (A0 : Option Addr) (c0 : Nat) (l0 : List (S39)) (a1_0 : Int) (a1_1 : Int) (a1_2 : Int) (a1_3 : Int) (a1_4 : Int) (a1_5 : Int) (a1_6 : Int) (a1_7 : Int) (a1_8 : Int) (a1_9 : Bool) (r : Bool) (HRR0 : r = true) (w : World) (hr0 : Kd.C k39 w A0 l0.length l0) (hc0 : l0.length ≤ c0) (hG : GlobOk w) (h : pelicanlaw16_StageStays.f k l0 a1_0 a1_1 a1_2 a1_3 a1_4 a1_5 a1_6 a1_7 a1_8 a1_9 = some r) :
    Calls Tryd.prog 8 #[.slice A0 l0.length c0, .agg #[.int .i64 a1_0, .int .i64 a1_1, .int .i64 a1_2, .int .i64 a1_3, .int .i64 a1_4, .int .i64 a1_5, .int .i64 a1_6, .int .i64 a1_7, .int .i64 a1_8, .bool a1_9]] w fun e w' => e = .returned (.bool r) ∧ Below w.heap.size w w' := by
  have hu24 := Tryd.underlying24
  have hu39 := Tryd.underlying39
  have HR0 := Aside0.mk hr0
  have HC0 := Aside0.mk hc0
  clear hr0 hc0
  have HG := Aside0.mk hG
  clear hG
  have HB := Aside0.mk (Below.refl w.heap.size w)
  have H : ((pelicanlaw16_awake.f k).bind fun t606 => ((pelicanlaw14_FewAll.f k l0).bind fun t607 => (if t606 = true then (pelicanlaw16_StageStays.j0 k l0 t606 (!t607) a1_0 a1_1 a1_2 a1_3 a1_4 a1_5 a1_6 a1_7 a1_8 a1_9) else (pelicanlaw16_StageStays.j0 k l0 t606 true a1_0 a1_1 a1_2 a1_3 a1_4 a1_5 a1_6 a1_7 a1_8 a1_9)))) = some r := h
  clear h
  have HRR := Aside0.mk HRR0
  clear HRR0
  replace H := Option.bind_eq_some_iff.mp H
  obtain ⟨t606, A30, H⟩ := H
  replace H : ((pelicanlaw14_FewAll.f k l0).bind fun t607 => (if t606 = true then (pelicanlaw16_StageStays.j0 k l0 t606 (!t607) a1_0 a1_1 a1_2 a1_3 a1_4 a1_5 a1_6 a1_7 a1_8 a1_9) else (pelicanlaw16_StageStays.j0 k l0 t606 true a1_0 a1_1 a1_2 a1_3 a1_4 a1_5 a1_6 a1_7 a1_8 a1_9))) = some r := H
  have A3 := Aside0.mk A30
  clear A30
  replace H := Option.bind_eq_some_iff.mp H
  obtain ⟨t607, A40, H⟩ := H
  replace H : (if t606 = true then (pelicanlaw16_StageStays.j0 k l0 t606 (!t607) a1_0 a1_1 a1_2 a1_3 a1_4 a1_5 a1_6 a1_7 a1_8 a1_9) else (pelicanlaw16_StageStays.j0 k l0 t606 true a1_0 a1_1 a1_2 a1_3 a1_4 a1_5 a1_6 a1_7 a1_8 a1_9)) = some r := H
  have A4 := Aside0.mk A40
  clear A40
  have HC5 := Aside0.mk H
  clear H
  go_enter Tryd.func8, Tryd.ntmps8
  go_upto_region 3 with (first | ((with_reducible refine gate_dst (N := 3) rfl ?_); (try (refine gate_guard (by rfl) ?_; dsimp only)); refine box_event ?hg (N := 3) ?hd (cs := #[.int .i64 a1_0, .int .i64 a1_1, .int .i64 a1_2, .int .i64 a1_3, .int .i64 a1_4, .int .i64 a1_5, .int .i64 a1_6, .int .i64 a1_7, .int .i64 a1_8, .bool a1_9]) (t := 24) ?hr ?_; (case hd => rfl); (case hg => rfl); (case hr => first | (go_simp; done) | (go_simp; rfl)); intro gb605 hg w6 hbox hb; have n0_ := Aside0.mk (below_step (by repeat (first | (with_reducible first | exact HB.out | apply below_alloc | apply pw_below_drewN | apply below_drew1) | exact HB.out)) hb); have n1_ := Aside0.mk (hbox); have n2_ := Aside0.mk ((by rw [hg]; exact (below_size (by repeat (first | (with_reducible first | exact HB.out | apply below_alloc | apply pw_below_drewN | apply below_drew1) | exact HB.out))) : w.heap.size ≤ gb605)); have n3_ := Aside0.mk ((by rw [hg]; exact (below_size (by repeat (first | (with_reducible first | exact HB.out | apply below_alloc | apply pw_below_drewN | apply below_drew1) | exact HB.out))) : w.heap.size ≤ gb605)); clear HB; have HB := n0_; have BK605 := n1_; have GW605 := n2_; have GE605 := n3_; clear n0_ n1_ n2_ n3_; clear hb hbox hg) | ((with_reducible refine gate_callee (f := 14) rfl ?_); refine goesL_ (some 9) rfl rfl Tryd.func14 (by kernel_rfl) rfl #[] rfl (by (try simp only [List.map_toArray, List.map_cons, List.map_nil]); first | done | rfl | (simp only [List.length_drop, List.length_take]; rfl)) ?_; (with_reducible refine (pelicanlaw16_awake.calls k  t606 _ ?side1 A3.out).mono ?_); (case side1 => first | (with_reducible exact HG.out) | (refine GlobOk.below HG.out ?_; repeat (first | (with_reducible first | exact HB.out | apply below_alloc | apply pw_below_drewN | apply below_drew1 | refine below_set ?_ GE605.out) | exact HB.out))); rintro e w7 ⟨rfl, hb⟩; refine ⟨_, rfl, ?_⟩; have n0_ := Aside0.mk (blk_below (g := gb605) (o := .cells #[.int .i64 a1_0, .int .i64 a1_1, .int .i64 a1_2, .int .i64 a1_3, .int .i64 a1_4, .int .i64 a1_5, .int .i64 a1_6, .int .i64 a1_7, .int .i64 a1_8, .bool a1_9] 24 (0, 0)) (by (with_reducible repeat (first | refine blk_drewN ?_ _ | refine blk_drew ?_ | refine blk_alloc ?_ _)); exact BK605.out) hb); have n1_ := Aside0.mk (below_step (by repeat (first | (with_reducible first | exact HB.out | apply below_alloc | apply pw_below_drewN | apply below_drew1 | refine below_set ?_ GE605.out) | exact HB.out)) hb); clear BK605; clear HB; have BK605 := n0_; have HB := n1_; clear n0_ n1_; (try clear hb); (try clear hb2); (try clear hk); (try clear hi)) | ((with_reducible refine gate_callee (f := 15) rfl ?_); refine goesL_ (some 11) rfl rfl Tryd.func15 (by kernel_rfl) rfl #[.slice A0 l0.length c0] rfl (by (try simp only [List.map_toArray, List.map_cons, List.map_nil]); first | done | rfl | (simp only [List.length_drop, List.length_take]; rfl)) ?_; (with_reducible refine (pelicanlaw14_FewAll.calls k _ _ l0 t607 _ ?side1 ?side2 A4.out).mono ?_); (case side1 => repeat (first | exact (Kd.C_below HR0.out HB.out) | (with_reducible refine Kd.C_alloc ?_ _) | (with_reducible refine Kd.C_drewN ?_ _) | (with_reducible refine Kd.C_drew ?_))); (case side2 => exact HC0.out); rintro e w8 ⟨rfl, hb⟩; refine ⟨_, rfl, ?_⟩; have n0_ := Aside0.mk (blk_below (g := gb605) (o := .cells #[.int .i64 a1_0, .int .i64 a1_1, .int .i64 a1_2, .int .i64 a1_3, .int .i64 a1_4, .int .i64 a1_5, .int .i64 a1_6, .int .i64 a1_7, .int .i64 a1_8, .bool a1_9] 24 (0, 0)) (by (with_reducible repeat (first | refine blk_drewN ?_ _ | refine blk_drew ?_ | refine blk_alloc ?_ _)); exact BK605.out) hb); have n1_ := Aside0.mk (below_step (by repeat (first | (with_reducible first | exact HB.out | apply below_alloc | apply pw_below_drewN | apply below_drew1 | refine below_set ?_ GE605.out) | exact HB.out)) hb); clear BK605; clear HB; have BK605 := n0_; have HB := n1_; clear n0_ n1_; (try clear hb); (try clear hb2); (try clear hk); (try clear hi)))
  (try simp only [Act.put, List.setIfInBounds_toArray, List.set_cons_zero, List.set_cons_succ])
  go_cut [17] (fun v17 wc => ∃ (kq : Nat) (x17_4 : Bool), v17 = .bool x17_4 ∧ Aside0 (pelicanlaw16_StageStays.j0 kq l0 t606 x17_4 a1_0 a1_1 a1_2 a1_3 a1_4 a1_5 a1_6 a1_7 a1_8 a1_9 = some r) ∧ Aside0 (kq ≤ k) ∧ Aside0 (wc.heap[gb605]? = some (.cells #[.int .i64 a1_0, .int .i64 a1_1, .int .i64 a1_2, .int .i64 a1_3, .int .i64 a1_4, .int .i64 a1_5, .int .i64 a1_6, .int .i64 a1_7, .int .i64 a1_8, .bool a1_9] 24 (0, 0))) ∧ Aside0 (Below w.heap.size w wc))
  case first =>
    have H := HC5.out
    clear HC5
    by_cases c9 : t606 = true
    · subst c9
      have H1 : (pelicanlaw16_StageStays.j0 k l0 true (!t607) a1_0 a1_1 a1_2 a1_3 a1_4 a1_5 a1_6 a1_7 a1_8 a1_9) = some r := by rw [if_pos rfl] at H; exact H
      clear H
      have H := H1
      clear H1
      have H' := Aside0.mk H
      clear H
      go_wp2
      go_meet
      case rel => exact ⟨_, (!t607), (by first | rfl | (simp; done) | (simp [*]; done)), H', ⟨by first | omega | exact Nat.le_refl _⟩, ⟨by (with_reducible repeat (first | refine blk_drewN ?_ _ | refine blk_drew ?_ | refine blk_alloc ?_ _)); exact BK605.out⟩, ⟨by repeat (first | (with_reducible first | exact HB.out | apply below_alloc | apply pw_below_drewN | apply below_drew1 | refine below_set ?_ GE605.out) | exact HB.out)⟩⟩
    · replace c9 := Bool.eq_false_iff.mpr c9
      subst c9
      have H1 : (pelicanlaw16_StageStays.j0 k l0 false true a1_0 a1_1 a1_2 a1_3 a1_4 a1_5 a1_6 a1_7 a1_8 a1_9) = some r := by rw [if_neg (show ¬ (false = true) by decide)] at H; exact H
      clear H
      have H := H1
      clear H1
      have H' := Aside0.mk H
      clear H
      go_wp2
      go_meet
      case rel => exact ⟨_, (true), (by first | rfl | (simp; done) | (simp [*]; done)), H', ⟨by first | omega | exact Nat.le_refl _⟩, ⟨by (with_reducible repeat (first | refine blk_drewN ?_ _ | refine blk_drew ?_ | refine blk_alloc ?_ _)); exact BK605.out⟩, ⟨by repeat (first | (with_reducible first | exact HB.out | apply below_alloc | apply pw_below_drewN | apply below_drew1 | refine below_set ?_ GE605.out) | exact HB.out)⟩⟩
  case rest =>
    clear HC5
    try clear c1
    try clear p2
    try clear c8
    try clear c9
    obtain ⟨kq, x17_4, rfl, HA, HJ4, BK605, HB⟩ := hcut
    cases kq with
    | zero => exact absurd HA.out (by simp [pelicanlaw16_StageStays.j0])
    | succ kj4 =>
      have H := HA.out
      clear HA
      simp only [pelicanlaw16_StageStays.j0] at H
      by_cases c10 : x17_4 = true
      · subst c10
        have H1 : (some t606) = some r := by rw [if_pos rfl] at H; exact H
        clear H
        have H := H1
        clear H1
        obtain rfl := Option.some.inj H
        go_wp2
        go_ret
        exact ⟨by first | rfl | (simp [errW_none, errW_some] <;> rfl) | (simp [*, errW_none, errW_some] <;> rfl), by repeat (first | (with_reducible first | exact HB.out | apply below_alloc | apply pw_below_drewN | apply below_drew1 | refine below_set ?_ GE605.out) | exact HB.out)⟩
      · replace c10 := Bool.eq_false_iff.mpr c10
        subst c10
        have H1 : ((stage_Tick.f l0 a1_0 a1_1 a1_2 a1_3 a1_4 a1_5 a1_6 a1_7 a1_8 a1_9).bind fun bt608 => ((stage_May.f kj4 l0 a1_0 a1_1 a1_2 a1_3 a1_4 a1_5 a1_6 a1_7 a1_8 a1_9).bind fun t619 => (if t619 = true then ((stage_May.f kj4 l0 bt608.1 bt608.2.1 bt608.2.2.1 bt608.2.2.2.1 bt608.2.2.2.2.1 bt608.2.2.2.2.2.1 bt608.2.2.2.2.2.2.1 bt608.2.2.2.2.2.2.2.1 bt608.2.2.2.2.2.2.2.2.1 bt608.2.2.2.2.2.2.2.2.2).bind fun t623 => (if t623 = true then (if bt608.1 < 0 then (pelicanlaw16_StageStays.j1 kj4 l0 true bt608.1 bt608.2.1 bt608.2.2.1 bt608.2.2.2.1 bt608.2.2.2.2.1 bt608.2.2.2.2.2.1 bt608.2.2.2.2.2.2.1 bt608.2.2.2.2.2.2.2.1 bt608.2.2.2.2.2.2.2.2.1 bt608.2.2.2.2.2.2.2.2.2) else (pelicanlaw16_StageStays.j1 kj4 l0 (decide (bt608.1 ≥ (l0.length : Int))) bt608.1 bt608.2.1 bt608.2.2.1 bt608.2.2.2.1 bt608.2.2.2.2.1 bt608.2.2.2.2.2.1 bt608.2.2.2.2.2.2.1 bt608.2.2.2.2.2.2.2.1 bt608.2.2.2.2.2.2.2.2.1 bt608.2.2.2.2.2.2.2.2.2)) else (pelicanlaw16_StageStays.j1 kj4 l0 true bt608.1 bt608.2.1 bt608.2.2.1 bt608.2.2.2.1 bt608.2.2.2.2.1 bt608.2.2.2.2.2.1 bt608.2.2.2.2.2.2.1 bt608.2.2.2.2.2.2.2.1 bt608.2.2.2.2.2.2.2.2.1 bt608.2.2.2.2.2.2.2.2.2))) else (if (bt608.1 == a1_0 && (bt608.2.1 == a1_1 && (bt608.2.2.1 == a1_2 && (bt608.2.2.2.1 == a1_3 && (bt608.2.2.2.2.1 == a1_4 && (bt608.2.2.2.2.2.1 == a1_5 && (bt608.2.2.2.2.2.2.1 == a1_6 && (bt608.2.2.2.2.2.2.2.1 == a1_7 && (bt608.2.2.2.2.2.2.2.2.1 == a1_8 && (bt608.2.2.2.2.2.2.2.2.2 == a1_9)))))))))) = true then ((stage_Lamps.f kj4 l0 a1_0 a1_1 a1_2 a1_3 a1_4 a1_5 a1_6 a1_7 a1_8 a1_9).bind fun t620 => (some ((t620.length : Int) == 0))) else (some false))))) = some r := by rw [if_neg (show ¬ (false = true) by decide)] at H; exact H
        clear H
        have H := H1
        clear H1
        replace H := Option.bind_eq_some_iff.mp H
        obtain ⟨⟨t608, t609, t610, t611, t612, t613, t614, t615, t616, t617⟩, A110, H⟩ := H
        replace H : ((stage_May.f kj4 l0 a1_0 a1_1 a1_2 a1_3 a1_4 a1_5 a1_6 a1_7 a1_8 a1_9).bind fun t619 => (if t619 = true then ((stage_May.f kj4 l0 t608 t609 t610 t611 t612 t613 t614 t615 t616 t617).bind fun t623 => (if t623 = true then (if t608 < 0 then (pelicanlaw16_StageStays.j1 kj4 l0 true t608 t609 t610 t611 t612 t613 t614 t615 t616 t617) else (pelicanlaw16_StageStays.j1 kj4 l0 (decide (t608 ≥ (l0.length : Int))) t608 t609 t610 t611 t612 t613 t614 t615 t616 t617)) else (pelicanlaw16_StageStays.j1 kj4 l0 true t608 t609 t610 t611 t612 t613 t614 t615 t616 t617))) else (if (t608 == a1_0 && (t609 == a1_1 && (t610 == a1_2 && (t611 == a1_3 && (t612 == a1_4 && (t613 == a1_5 && (t614 == a1_6 && (t615 == a1_7 && (t616 == a1_8 && (t617 == a1_9)))))))))) = true then ((stage_Lamps.f kj4 l0 a1_0 a1_1 a1_2 a1_3 a1_4 a1_5 a1_6 a1_7 a1_8 a1_9).bind fun t620 => (some ((t620.length : Int) == 0))) else (some false)))) = some r := H
        have A11 := Aside0.mk A110
        clear A110
        replace H := Option.bind_eq_some_iff.mp H
        obtain ⟨t619, A120, H⟩ := H
        replace H : (if t619 = true then ((stage_May.f kj4 l0 t608 t609 t610 t611 t612 t613 t614 t615 t616 t617).bind fun t623 => (if t623 = true then (if t608 < 0 then (pelicanlaw16_StageStays.j1 kj4 l0 true t608 t609 t610 t611 t612 t613 t614 t615 t616 t617) else (pelicanlaw16_StageStays.j1 kj4 l0 (decide (t608 ≥ (l0.length : Int))) t608 t609 t610 t611 t612 t613 t614 t615 t616 t617)) else (pelicanlaw16_StageStays.j1 kj4 l0 true t608 t609 t610 t611 t612 t613 t614 t615 t616 t617))) else (if (t608 == a1_0 && (t609 == a1_1 && (t610 == a1_2 && (t611 == a1_3 && (t612 == a1_4 && (t613 == a1_5 && (t614 == a1_6 && (t615 == a1_7 && (t616 == a1_8 && (t617 == a1_9)))))))))) = true then ((stage_Lamps.f kj4 l0 a1_0 a1_1 a1_2 a1_3 a1_4 a1_5 a1_6 a1_7 a1_8 a1_9).bind fun t620 => (some ((t620.length : Int) == 0))) else (some false))) = some r := H
        have A12 := Aside0.mk A120
        clear A120
        by_cases c13 : t619 = true
        · subst c13
          have H1 : ((stage_May.f kj4 l0 t608 t609 t610 t611 t612 t613 t614 t615 t616 t617).bind fun t623 => (if t623 = true then (if t608 < 0 then (pelicanlaw16_StageStays.j1 kj4 l0 true t608 t609 t610 t611 t612 t613 t614 t615 t616 t617) else (pelicanlaw16_StageStays.j1 kj4 l0 (decide (t608 ≥ (l0.length : Int))) t608 t609 t610 t611 t612 t613 t614 t615 t616 t617)) else (pelicanlaw16_StageStays.j1 kj4 l0 true t608 t609 t610 t611 t612 t613 t614 t615 t616 t617))) = some r := by rw [if_pos rfl] at H; exact H
          clear H
          have H := H1
          clear H1
          have HC14 := Aside0.mk H
          clear H
          have hcz15_0 : wc.cell? ⟨gb605, 0, none⟩ = some (.int .i64 a1_0) := (blk_cell BK605.out 0).trans rfl
          have hcz15_1 : wc.cell? ⟨gb605, 1, none⟩ = some (.int .i64 a1_1) := (blk_cell BK605.out 1).trans rfl
          have hcz15_2 : wc.cell? ⟨gb605, 2, none⟩ = some (.int .i64 a1_2) := (blk_cell BK605.out 2).trans rfl
          have hcz15_3 : wc.cell? ⟨gb605, 3, none⟩ = some (.int .i64 a1_3) := (blk_cell BK605.out 3).trans rfl
          have hcz15_4 : wc.cell? ⟨gb605, 4, none⟩ = some (.int .i64 a1_4) := (blk_cell BK605.out 4).trans rfl
          have hcz15_5 : wc.cell? ⟨gb605, 5, none⟩ = some (.int .i64 a1_5) := (blk_cell BK605.out 5).trans rfl
          have hcz15_6 : wc.cell? ⟨gb605, 6, none⟩ = some (.int .i64 a1_6) := (blk_cell BK605.out 6).trans rfl
          have hcz15_7 : wc.cell? ⟨gb605, 7, none⟩ = some (.int .i64 a1_7) := (blk_cell BK605.out 7).trans rfl
          have hcz15_8 : wc.cell? ⟨gb605, 8, none⟩ = some (.int .i64 a1_8) := (blk_cell BK605.out 8).trans rfl
          have hcz15_9 : wc.cell? ⟨gb605, 9, none⟩ = some (.bool a1_9) := (blk_cell BK605.out 9).trans rfl
          have hfz15_0 := blk_frozen BK605.out 0
          have hfz15_1 := blk_frozen BK605.out 1
          have hfz15_2 := blk_frozen BK605.out 2
          have hfz15_3 := blk_frozen BK605.out 3
          have hfz15_4 := blk_frozen BK605.out 4
          have hfz15_5 := blk_frozen BK605.out 5
          have hfz15_6 := blk_frozen BK605.out 6
          have hfz15_7 := blk_frozen BK605.out 7
          have hfz15_8 := blk_frozen BK605.out 8
          have hfz15_9 := blk_frozen BK605.out 9
          go_upto_region 8 with (first | ((with_reducible refine gate_callee (f := 23) rfl ?_); refine goesL_ (some 21) rfl rfl Tryd.func23 (by kernel_rfl) rfl #[.slice A0 l0.length c0, .agg #[.int .i64 a1_0, .int .i64 a1_1, .int .i64 a1_2, .int .i64 a1_3, .int .i64 a1_4, .int .i64 a1_5, .int .i64 a1_6, .int .i64 a1_7, .int .i64 a1_8, .bool a1_9]] rfl (by (try simp only [List.map_toArray, List.map_cons, List.map_nil]); first | done | rfl | (simp only [List.length_drop, List.length_take]; rfl)) ?_; (with_reducible refine (stage_Tick.calls _ _ l0 a1_0 a1_1 a1_2 a1_3 a1_4 a1_5 a1_6 a1_7 a1_8 a1_9 t608 t609 t610 t611 t612 t613 t614 t615 t616 t617 _ ?side1 ?side2 ?side3 A11.out).mono ?_); (case side1 => repeat (first | exact (Kd.C_below HR0.out HB.out) | (with_reducible refine Kd.C_alloc ?_ _) | (with_reducible refine Kd.C_drewN ?_ _) | (with_reducible refine Kd.C_drew ?_))); (case side2 => exact HC0.out); (case side3 => first | (with_reducible exact HG.out) | (refine GlobOk.below HG.out ?_; repeat (first | (with_reducible first | exact HB.out | apply below_alloc | apply pw_below_drewN | apply below_drew1 | refine below_set ?_ GE605.out) | exact HB.out))); rintro e w16 ⟨rfl, hb⟩; refine ⟨_, rfl, ?_⟩; have n0_ := Aside0.mk (blk_below (g := gb605) (o := .cells #[.int .i64 a1_0, .int .i64 a1_1, .int .i64 a1_2, .int .i64 a1_3, .int .i64 a1_4, .int .i64 a1_5, .int .i64 a1_6, .int .i64 a1_7, .int .i64 a1_8, .bool a1_9] 24 (0, 0)) (by (with_reducible repeat (first | refine blk_drewN ?_ _ | refine blk_drew ?_ | refine blk_alloc ?_ _)); exact BK605.out) hb); have n1_ := Aside0.mk (below_step (by repeat (first | (with_reducible first | exact HB.out | apply below_alloc | apply pw_below_drewN | apply below_drew1 | refine below_set ?_ GE605.out) | exact HB.out)) hb); clear BK605; clear HB; have BK605 := n0_; have HB := n1_; clear n0_ n1_; (try clear hb); (try clear hb2); (try clear hk); (try clear hi)) | ((with_reducible refine gate_dst (N := 7) rfl ?_); (try (refine gate_guard (by rfl) ?_; dsimp only)); refine box_event ?hg (N := 7) ?hd (cs := #[.int .i64 0, .int .i64 0, .int .i64 0, .int .i64 0, .int .i64 0, .int .i64 0, .int .i64 0, .int .i64 0, .int .i64 0, .bool false]) (t := 24) ?hr ?_; (case hd => rfl); (case hg => rfl); (case hr => first | (go_simp; done) | (go_simp; rfl)); intro gb618 hg w17 hbox hb; have n0_ := Aside0.mk (blk_below (g := gb605) (o := .cells #[.int .i64 a1_0, .int .i64 a1_1, .int .i64 a1_2, .int .i64 a1_3, .int .i64 a1_4, .int .i64 a1_5, .int .i64 a1_6, .int .i64 a1_7, .int .i64 a1_8, .bool a1_9] 24 (0, 0)) (by (with_reducible repeat (first | refine blk_drewN ?_ _ | refine blk_drew ?_ | refine blk_alloc ?_ _)); exact BK605.out) hb); have n1_ := Aside0.mk (below_step (by repeat (first | (with_reducible first | exact HB.out | apply below_alloc | apply pw_below_drewN | apply below_drew1 | refine below_set ?_ GE605.out) | exact HB.out)) hb); have n2_ := Aside0.mk (hbox); have n3_ := Aside0.mk ((by rw [hg]; exact (below_size (by repeat (first | (with_reducible first | exact HB.out | apply below_alloc | apply pw_below_drewN | apply below_drew1 | refine below_set ?_ GE605.out) | exact HB.out))) : w.heap.size ≤ gb618)); have n4_ := Aside0.mk ((by rw [hg]; exact (below_size (by repeat (first | (with_reducible first | exact HB.out | apply below_alloc | apply pw_below_drewN | apply below_drew1 | refine below_set ?_ GE605.out) | exact HB.out))) : w.heap.size ≤ gb618)); have n5_ := Aside0.mk ((by rw [hg]; exact Nat.ne_of_lt (blk_lt (g := gb605) (o := .cells #[.int .i64 a1_0, .int .i64 a1_1, .int .i64 a1_2, .int .i64 a1_3, .int .i64 a1_4, .int .i64 a1_5, .int .i64 a1_6, .int .i64 a1_7, .int .i64 a1_8, .bool a1_9] 24 (0, 0)) (by (with_reducible repeat (first | refine blk_drewN ?_ _ | refine blk_drew ?_ | refine blk_alloc ?_ _)); exact BK605.out)) : gb605 ≠ gb618)); have n6_ := Aside0.mk ((by rw [hg]; exact Nat.ne_of_gt (blk_lt (g := gb605) (o := .cells #[.int .i64 a1_0, .int .i64 a1_1, .int .i64 a1_2, .int .i64 a1_3, .int .i64 a1_4, .int .i64 a1_5, .int .i64 a1_6, .int .i64 a1_7, .int .i64 a1_8, .bool a1_9] 24 (0, 0)) (by (with_reducible repeat (first | refine blk_drewN ?_ _ | refine blk_drew ?_ | refine blk_alloc ?_ _)); exact BK605.out)) : gb618 ≠ gb605)); clear BK605; clear HB; have BK605 := n0_; have HB := n1_; have BK618 := n2_; have GW618 := n3_; have GE618 := n4_; have NB605_618 := n5_; have NB618_605 := n6_; clear n0_ n1_ n2_ n3_ n4_ n5_ n6_; clear hb hbox hg; have hnb18 := NB618_605.out; have hnc18 := NB605_618.out; have hcz19_0 : w17.cell? ⟨gb618, 0, none⟩ = some (.int .i64 0) := (blk_cell BK618.out 0).trans rfl; have hcz19_1 : w17.cell? ⟨gb618, 1, none⟩ = some (.int .i64 0) := (blk_cell BK618.out 1).trans rfl; have hcz19_2 : w17.cell? ⟨gb618, 2, none⟩ = some (.int .i64 0) := (blk_cell BK618.out 2).trans rfl; have hcz19_3 : w17.cell? ⟨gb618, 3, none⟩ = some (.int .i64 0) := (blk_cell BK618.out 3).trans rfl; have hcz19_4 : w17.cell? ⟨gb618, 4, none⟩ = some (.int .i64 0) := (blk_cell BK618.out 4).trans rfl; have hcz19_5 : w17.cell? ⟨gb618, 5, none⟩ = some (.int .i64 0) := (blk_cell BK618.out 5).trans rfl; have hcz19_6 : w17.cell? ⟨gb618, 6, none⟩ = some (.int .i64 0) := (blk_cell BK618.out 6).trans rfl; have hcz19_7 : w17.cell? ⟨gb618, 7, none⟩ = some (.int .i64 0) := (blk_cell BK618.out 7).trans rfl; have hcz19_8 : w17.cell? ⟨gb618, 8, none⟩ = some (.int .i64 0) := (blk_cell BK618.out 8).trans rfl; have hcz19_9 : w17.cell? ⟨gb618, 9, none⟩ = some (.bool false) := (blk_cell BK618.out 9).trans rfl; have hfz19_0 := blk_frozen BK618.out 0; have hfz19_1 := blk_frozen BK618.out 1; have hfz19_2 := blk_frozen BK618.out 2; have hfz19_3 := blk_frozen BK618.out 3; have hfz19_4 := blk_frozen BK618.out 4; have hfz19_5 := blk_frozen BK618.out 5; have hfz19_6 := blk_frozen BK618.out 6; have hfz19_7 := blk_frozen BK618.out 7; have hfz19_8 := blk_frozen BK618.out 8; have hfz19_9 := blk_frozen BK618.out 9; have hcz20_0 : w17.cell? ⟨gb605, 0, none⟩ = some (.int .i64 a1_0) := (blk_cell BK605.out 0).trans rfl; have hcz20_1 : w17.cell? ⟨gb605, 1, none⟩ = some (.int .i64 a1_1) := (blk_cell BK605.out 1).trans rfl; have hcz20_2 : w17.cell? ⟨gb605, 2, none⟩ = some (.int .i64 a1_2) := (blk_cell BK605.out 2).trans rfl; have hcz20_3 : w17.cell? ⟨gb605, 3, none⟩ = some (.int .i64 a1_3) := (blk_cell BK605.out 3).trans rfl; have hcz20_4 : w17.cell? ⟨gb605, 4, none⟩ = some (.int .i64 a1_4) := (blk_cell BK605.out 4).trans rfl; have hcz20_5 : w17.cell? ⟨gb605, 5, none⟩ = some (.int .i64 a1_5) := (blk_cell BK605.out 5).trans rfl; have hcz20_6 : w17.cell? ⟨gb605, 6, none⟩ = some (.int .i64 a1_6) := (blk_cell BK605.out 6).trans rfl; have hcz20_7 : w17.cell? ⟨gb605, 7, none⟩ = some (.int .i64 a1_7) := (blk_cell BK605.out 7).trans rfl; have hcz20_8 : w17.cell? ⟨gb605, 8, none⟩ = some (.int .i64 a1_8) := (blk_cell BK605.out 8).trans rfl; have hcz20_9 : w17.cell? ⟨gb605, 9, none⟩ = some (.bool a1_9) := (blk_cell BK605.out 9).trans rfl; have hfz20_0 := blk_frozen BK605.out 0; have hfz20_1 := blk_frozen BK605.out 1; have hfz20_2 := blk_frozen BK605.out 2; have hfz20_3 := blk_frozen BK605.out 3; have hfz20_4 := blk_frozen BK605.out 4; have hfz20_5 := blk_frozen BK605.out 5; have hfz20_6 := blk_frozen BK605.out 6; have hfz20_7 := blk_frozen BK605.out 7; have hfz20_8 := blk_frozen BK605.out 8; have hfz20_9 := blk_frozen BK605.out 9) | ((with_reducible refine gate_callee (f := 22) rfl ?_); refine goesL_ (some 24) rfl rfl Tryd.func22 (by kernel_rfl) rfl #[.slice A0 l0.length c0, .agg #[.int .i64 a1_0, .int .i64 a1_1, .int .i64 a1_2, .int .i64 a1_3, .int .i64 a1_4, .int .i64 a1_5, .int .i64 a1_6, .int .i64 a1_7, .int .i64 a1_8, .bool a1_9]] rfl (by (try simp only [List.map_toArray, List.map_cons, List.map_nil]); first | done | rfl | (simp only [List.length_drop, List.length_take]; rfl)) ?_; (with_reducible refine (stage_May.calls kj4 _ _ l0 a1_0 a1_1 a1_2 a1_3 a1_4 a1_5 a1_6 a1_7 a1_8 a1_9 true _ ?side1 ?side2 ?side3 A12.out).mono ?_); (case side1 => exact Kd.C_below HR0.out (by repeat (first | (with_reducible first | exact HB.out | apply below_alloc | apply pw_below_drewN | apply below_drew1 | refine below_set ?_ GE605.out | refine below_set ?_ GE618.out) | exact HB.out))); (case side2 => exact HC0.out); (case side3 => first | (with_reducible exact HG.out) | (refine GlobOk.below HG.out ?_; repeat (first | (with_reducible first | exact HB.out | apply below_alloc | apply pw_below_drewN | apply below_drew1 | refine below_set ?_ GE605.out | refine below_set ?_ GE618.out) | exact HB.out))); rintro e w21 ⟨rfl, hb⟩; refine ⟨_, rfl, ?_⟩; have n0_ := Aside0.mk (blk_below (g := gb605) (o := .cells #[.int .i64 a1_0, .int .i64 a1_1, .int .i64 a1_2, .int .i64 a1_3, .int .i64 a1_4, .int .i64 a1_5, .int .i64 a1_6, .int .i64 a1_7, .int .i64 a1_8, .bool a1_9] 24 (0, 0)) (by (with_reducible repeat (first | refine blk_drewN ?_ _ | refine blk_drew ?_ | refine blk_alloc ?_ _)); refine blk_far ?_ NB605_618.out _; (with_reducible repeat (first | refine blk_drewN ?_ _ | refine blk_drew ?_ | refine blk_alloc ?_ _)); refine blk_far ?_ NB605_618.out _; (with_reducible repeat (first | refine blk_drewN ?_ _ | refine blk_drew ?_ | refine blk_alloc ?_ _)); refine blk_far ?_ NB605_618.out _; (with_reducible repeat (first | refine blk_drewN ?_ _ | refine blk_drew ?_ | refine blk_alloc ?_ _)); refine blk_far ?_ NB605_618.out _; (with_reducible repeat (first | refine blk_drewN ?_ _ | refine blk_drew ?_ | refine blk_alloc ?_ _)); refine blk_far ?_ NB605_618.out _; (with_reducible repeat (first | refine blk_drewN ?_ _ | refine blk_drew ?_ | refine blk_alloc ?_ _)); refine blk_far ?_ NB605_618.out _; (with_reducible repeat (first | refine blk_drewN ?_ _ | refine blk_drew ?_ | refine blk_alloc ?_ _)); refine blk_far ?_ NB605_618.out _; (with_reducible repeat (first | refine blk_drewN ?_ _ | refine blk_drew ?_ | refine blk_alloc ?_ _)); refine blk_far ?_ NB605_618.out _; (with_reducible repeat (first | refine blk_drewN ?_ _ | refine blk_drew ?_ | refine blk_alloc ?_ _)); refine blk_far ?_ NB605_618.out _; (with_reducible repeat (first | refine blk_drewN ?_ _ | refine blk_drew ?_ | refine blk_alloc ?_ _)); refine blk_far ?_ NB605_618.out _; (with_reducible repeat (first | refine blk_drewN ?_ _ | refine blk_drew ?_ | refine blk_alloc ?_ _)); exact BK605.out) hb); have n1_ := Aside0.mk (blk_below (g := gb618) (o := .cells #[.int .i64 t608, .int .i64 t609, .int .i64 t610, .int .i64 t611, .int .i64 t612, .int .i64 t613, .int .i64 t614, .int .i64 t615, .int .i64 t616, .bool t617] 24 (0, 0)) (by (with_reducible repeat (first | refine blk_drewN ?_ _ | refine blk_drew ?_ | refine blk_alloc ?_ _)); refine blk_put (cs := #[.int .i64 t608, .int .i64 t609, .int .i64 t610, .int .i64 t611, .int .i64 t612, .int .i64 t613, .int .i64 t614, .int .i64 t615, .int .i64 t616, .bool false]) ?_ 9 _ rfl; (with_reducible repeat (first | refine blk_drewN ?_ _ | refine blk_drew ?_ | refine blk_alloc ?_ _)); refine blk_put (cs := #[.int .i64 t608, .int .i64 t609, .int .i64 t610, .int .i64 t611, .int .i64 t612, .int .i64 t613, .int .i64 t614, .int .i64 t615, .int .i64 0, .bool false]) ?_ 8 _ rfl; (with_reducible repeat (first | refine blk_drewN ?_ _ | refine blk_drew ?_ | refine blk_alloc ?_ _)); refine blk_put (cs := #[.int .i64 t608, .int .i64 t609, .int .i64 t610, .int .i64 t611, .int .i64 t612, .int .i64 t613, .int .i64 t614, .int .i64 0, .int .i64 0, .bool false]) ?_ 7 _ rfl; (with_reducible repeat (first | refine blk_drewN ?_ _ | refine blk_drew ?_ | refine blk_alloc ?_ _)); refine blk_put (cs := #[.int .i64 t608, .int .i64 t609, .int .i64 t610, .int .i64 t611, .int .i64 t612, .int .i64 t613, .int .i64 0, .int .i64 0, .int .i64 0, .bool false]) ?_ 6 _ rfl; (with_reducible repeat (first | refine blk_drewN ?_ _ | refine blk_drew ?_ | refine blk_alloc ?_ _)); refine blk_put (cs := #[.int .i64 t608, .int .i64 t609, .int .i64 t610, .int .i64 t611, .int .i64 t612, .int .i64 0, .int .i64 0, .int .i64 0, .int .i64 0, .bool false]) ?_ 5 _ rfl; (with_reducible repeat (first | refine blk_drewN ?_ _ | refine blk_drew ?_ | refine blk_alloc ?_ _)); refine blk_put (cs := #[.int .i64 t608, .int .i64 t609, .int .i64 t610, .int .i64 t611, .int .i64 0, .int .i64 0, .int .i64 0, .int .i64 0, .int .i64 0, .bool false]) ?_ 4 _ rfl; (with_reducible repeat (first | refine blk_drewN ?_ _ | refine blk_drew ?_ | refine blk_alloc ?_ _)); refine blk_put (cs := #[.int .i64 t608, .int .i64 t609, .int .i64 t610, .int .i64 0, .int .i64 0, .int .i64 0, .int .i64 0, .int .i64 0, .int .i64 0, .bool false]) ?_ 3 _ rfl; (with_reducible repeat (first | refine blk_drewN ?_ _ | refine blk_drew ?_ | refine blk_alloc ?_ _)); refine blk_put (cs := #[.int .i64 t608, .int .i64 t609, .int .i64 0, .int .i64 0, .int .i64 0, .int .i64 0, .int .i64 0, .int .i64 0, .int .i64 0, .bool false]) ?_ 2 _ rfl; (with_reducible repeat (first | refine blk_drewN ?_ _ | refine blk_drew ?_ | refine blk_alloc ?_ _)); refine blk_put (cs := #[.int .i64 t608, .int .i64 0, .int .i64 0, .int .i64 0, .int .i64 0, .int .i64 0, .int .i64 0, .int .i64 0, .int .i64 0, .bool false]) ?_ 1 _ rfl; (with_reducible repeat (first | refine blk_drewN ?_ _ | refine blk_drew ?_ | refine blk_alloc ?_ _)); refine blk_put (cs := #[.int .i64 0, .int .i64 0, .int .i64 0, .int .i64 0, .int .i64 0, .int .i64 0, .int .i64 0, .int .i64 0, .int .i64 0, .bool false]) ?_ 0 _ rfl; (with_reducible repeat (first | refine blk_drewN ?_ _ | refine blk_drew ?_ | refine blk_alloc ?_ _)); exact BK618.out) hb); have n2_ := Aside0.mk (below_step (by repeat (first | (with_reducible first | exact HB.out | apply below_alloc | apply pw_below_drewN | apply below_drew1 | refine below_set ?_ GE605.out | refine below_set ?_ GE618.out) | exact HB.out)) hb); clear BK605; clear BK618; clear HB; have BK605 := n0_; have BK618 := n1_; have HB := n2_; clear n0_ n1_ n2_; (try clear hb); (try clear hb2); (try clear hk); (try clear hi)))
          (try simp only [Act.put, List.setIfInBounds_toArray, List.set_cons_zero, List.set_cons_succ])
          go_cut [51] (fun v51 wc => ∃ (kq : Nat) (x51_13 : Bool), v51 = .bool x51_13 ∧ Aside0 (pelicanlaw16_StageStays.j1 kq l0 x51_13 t608 t609 t610 t611 t612 t613 t614 t615 t616 t617 = some r) ∧ Aside0 (kq ≤ kj4) ∧ Aside0 (wc.heap[gb605]? = some (.cells #[.int .i64 a1_0, .int .i64 a1_1, .int .i64 a1_2, .int .i64 a1_3, .int .i64 a1_4, .int .i64 a1_5, .int .i64 a1_6, .int .i64 a1_7, .int .i64 a1_8, .bool a1_9] 24 (0, 0))) ∧ Aside0 (wc.heap[gb618]? = some (.cells #[.int .i64 t608, .int .i64 t609, .int .i64 t610, .int .i64 t611, .int .i64 t612, .int .i64 t613, .int .i64 t614, .int .i64 t615, .int .i64 t616, .bool t617] 24 (0, 0))) ∧ Aside0 (Below w.heap.size w wc))
          case first =>
            have H := HC14.out
            clear HC14
            replace H := Option.bind_eq_some_iff.mp H
            obtain ⟨t623, A220, H⟩ := H
            replace H : (if t623 = true then (if t608 < 0 then (pelicanlaw16_StageStays.j1 kj4 l0 true t608 t609 t610 t611 t612 t613 t614 t615 t616 t617) else (pelicanlaw16_StageStays.j1 kj4 l0 (decide (t608 ≥ (l0.length : Int))) t608 t609 t610 t611 t612 t613 t614 t615 t616 t617)) else (pelicanlaw16_StageStays.j1 kj4 l0 true t608 t609 t610 t611 t612 t613 t614 t615 t616 t617)) = some r := H
            have A22 := Aside0.mk A220
            clear A220
            by_cases c23 : t623 = true
            · subst c23
              have H1 : (if t608 < 0 then (pelicanlaw16_StageStays.j1 kj4 l0 true t608 t609 t610 t611 t612 t613 t614 t615 t616 t617) else (pelicanlaw16_StageStays.j1 kj4 l0 (decide (t608 ≥ (l0.length : Int))) t608 t609 t610 t611 t612 t613 t614 t615 t616 t617)) = some r := by rw [if_pos rfl] at H; exact H
              clear H
              have H := H1
              clear H1
              by_cases c24 : t608 < 0
              · rw [if_pos c24] at H
                have c24b0 : decide (t608 < 0) = true := decide_eq_true c24
                clear c24
                (first | rw [c24b0] | (simp only [i64_w, i32_w]; rw [c24b0]) | skip)
                have H' := Aside0.mk H
                clear H
                have hnb25 := NB618_605.out
                have hnc25 := NB605_618.out
                have hcz26_0 : w21.cell? ⟨gb618, 0, none⟩ = some (.int .i64 t608) := (blk_cell BK618.out 0).trans rfl
                have hcz26_1 : w21.cell? ⟨gb618, 1, none⟩ = some (.int .i64 t609) := (blk_cell BK618.out 1).trans rfl
                have hcz26_2 : w21.cell? ⟨gb618, 2, none⟩ = some (.int .i64 t610) := (blk_cell BK618.out 2).trans rfl
                have hcz26_3 : w21.cell? ⟨gb618, 3, none⟩ = some (.int .i64 t611) := (blk_cell BK618.out 3).trans rfl
                have hcz26_4 : w21.cell? ⟨gb618, 4, none⟩ = some (.int .i64 t612) := (blk_cell BK618.out 4).trans rfl
                have hcz26_5 : w21.cell? ⟨gb618, 5, none⟩ = some (.int .i64 t613) := (blk_cell BK618.out 5).trans rfl
                have hcz26_6 : w21.cell? ⟨gb618, 6, none⟩ = some (.int .i64 t614) := (blk_cell BK618.out 6).trans rfl
                have hcz26_7 : w21.cell? ⟨gb618, 7, none⟩ = some (.int .i64 t615) := (blk_cell BK618.out 7).trans rfl
                have hcz26_8 : w21.cell? ⟨gb618, 8, none⟩ = some (.int .i64 t616) := (blk_cell BK618.out 8).trans rfl
                have hcz26_9 : w21.cell? ⟨gb618, 9, none⟩ = some (.bool t617) := (blk_cell BK618.out 9).trans rfl
                have hfz26_0 := blk_frozen BK618.out 0
                have hfz26_1 := blk_frozen BK618.out 1
                have hfz26_2 := blk_frozen BK618.out 2
                have hfz26_3 := blk_frozen BK618.out 3
                have hfz26_4 := blk_frozen BK618.out 4
                have hfz26_5 := blk_frozen BK618.out 5
                have hfz26_6 := blk_frozen BK618.out 6
                have hfz26_7 := blk_frozen BK618.out 7
                have hfz26_8 := blk_frozen BK618.out 8
                have hfz26_9 := blk_frozen BK618.out 9
                go_wp2_with (first | ((with_reducible refine gate_callee (f := 22) rfl ?_); refine goesL_ (some 38) rfl rfl Tryd.func22 (by kernel_rfl) rfl #[.slice A0 l0.length c0, .agg #[.int .i64 t608, .int .i64 t609, .int .i64 t610, .int .i64 t611, .int .i64 t612, .int .i64 t613, .int .i64 t614, .int .i64 t615, .int .i64 t616, .bool t617]] rfl (by (try simp only [List.map_toArray, List.map_cons, List.map_nil]); first | done | rfl | (simp only [List.length_drop, List.length_take]; rfl)) ?_; (with_reducible refine (stage_May.calls kj4 _ _ l0 t608 t609 t610 t611 t612 t613 t614 t615 t616 t617 true _ ?side1 ?side2 ?side3 A22.out).mono ?_); (case side1 => repeat (first | exact (Kd.C_below HR0.out HB.out) | (with_reducible refine Kd.C_alloc ?_ _) | (with_reducible refine Kd.C_drewN ?_ _) | (with_reducible refine Kd.C_drew ?_))); (case side2 => exact HC0.out); (case side3 => first | (with_reducible exact HG.out) | (refine GlobOk.below HG.out ?_; repeat (first | (with_reducible first | exact HB.out | apply below_alloc | apply pw_below_drewN | apply below_drew1 | refine below_set ?_ GE605.out | refine below_set ?_ GE618.out) | exact HB.out))); rintro e w27 ⟨rfl, hb⟩; refine ⟨_, rfl, ?_⟩; have n0_ := Aside0.mk (blk_below (g := gb605) (o := .cells #[.int .i64 a1_0, .int .i64 a1_1, .int .i64 a1_2, .int .i64 a1_3, .int .i64 a1_4, .int .i64 a1_5, .int .i64 a1_6, .int .i64 a1_7, .int .i64 a1_8, .bool a1_9] 24 (0, 0)) (by (with_reducible repeat (first | refine blk_drewN ?_ _ | refine blk_drew ?_ | refine blk_alloc ?_ _)); exact BK605.out) hb); have n1_ := Aside0.mk (blk_below (g := gb618) (o := .cells #[.int .i64 t608, .int .i64 t609, .int .i64 t610, .int .i64 t611, .int .i64 t612, .int .i64 t613, .int .i64 t614, .int .i64 t615, .int .i64 t616, .bool t617] 24 (0, 0)) (by (with_reducible repeat (first | refine blk_drewN ?_ _ | refine blk_drew ?_ | refine blk_alloc ?_ _)); exact BK618.out) hb); have n2_ := Aside0.mk (below_step (by repeat (first | (with_reducible first | exact HB.out | apply below_alloc | apply pw_below_drewN | apply below_drew1 | refine below_set ?_ GE605.out | refine below_set ?_ GE618.out) | exact HB.out)) hb); clear BK605; clear BK618; clear HB; have BK605 := n0_; have BK618 := n1_; have HB := n2_; clear n0_ n1_ n2_; (try clear hb); (try clear hb2); (try clear hk); (try clear hi); have hcz28_0 : w27.cell? ⟨gb618, 0, none⟩ = some (.int .i64 t608) := (blk_cell BK618.out 0).trans rfl; have hcz28_1 : w27.cell? ⟨gb618, 1, none⟩ = some (.int .i64 t609) := (blk_cell BK618.out 1).trans rfl; have hcz28_2 : w27.cell? ⟨gb618, 2, none⟩ = some (.int .i64 t610) := (blk_cell BK618.out 2).trans rfl; have hcz28_3 : w27.cell? ⟨gb618, 3, none⟩ = some (.int .i64 t611) := (blk_cell BK618.out 3).trans rfl; have hcz28_4 : w27.cell? ⟨gb618, 4, none⟩ = some (.int .i64 t612) := (blk_cell BK618.out 4).trans rfl; have hcz28_5 : w27.cell? ⟨gb618, 5, none⟩ = some (.int .i64 t613) := (blk_cell BK618.out 5).trans rfl; have hcz28_6 : w27.cell? ⟨gb618, 6, none⟩ = some (.int .i64 t614) := (blk_cell BK618.out 6).trans rfl; have hcz28_7 : w27.cell? ⟨gb618, 7, none⟩ = some (.int .i64 t615) := (blk_cell BK618.out 7).trans rfl; have hcz28_8 : w27.cell? ⟨gb618, 8, none⟩ = some (.int .i64 t616) := (blk_cell BK618.out 8).trans rfl; have hcz28_9 : w27.cell? ⟨gb618, 9, none⟩ = some (.bool t617) := (blk_cell BK618.out 9).trans rfl; have hfz28_0 := blk_frozen BK618.out 0; have hfz28_1 := blk_frozen BK618.out 1; have hfz28_2 := blk_frozen BK618.out 2; have hfz28_3 := blk_frozen BK618.out 3; have hfz28_4 := blk_frozen BK618.out 4; have hfz28_5 := blk_frozen BK618.out 5; have hfz28_6 := blk_frozen BK618.out 6; have hfz28_7 := blk_frozen BK618.out 7; have hfz28_8 := blk_frozen BK618.out 8; have hfz28_9 := blk_frozen BK618.out 9))
                go_meet
                case rel => exact ⟨_, (true), (by first | rfl | (simp; done) | (simp [*]; done)), H', ⟨by have := HJ4.out; first | omega | exact Nat.le_refl _⟩, ⟨by (with_reducible repeat (first | refine blk_drewN ?_ _ | refine blk_drew ?_ | refine blk_alloc ?_ _)); exact BK605.out⟩, ⟨by (with_reducible repeat (first | refine blk_drewN ?_ _ | refine blk_drew ?_ | refine blk_alloc ?_ _)); exact BK618.out⟩, ⟨by repeat (first | (with_reducible first | exact HB.out | apply below_alloc | apply pw_below_drewN | apply below_drew1 | refine below_set ?_ GE605.out | refine below_set ?_ GE618.out) | exact HB.out)⟩⟩
              · rw [if_neg c24] at H
                have c24b0 : decide (t608 < 0) = false := decide_eq_false c24
                clear c24
                (first | rw [c24b0] | (simp only [i64_w, i32_w]; rw [c24b0]) | skip)
                have H' := Aside0.mk H
                clear H
                have hnb29 := NB618_605.out
                have hnc29 := NB605_618.out
                have hcz30_0 : w21.cell? ⟨gb618, 0, none⟩ = some (.int .i64 t608) := (blk_cell BK618.out 0).trans rfl
                have hcz30_1 : w21.cell? ⟨gb618, 1, none⟩ = some (.int .i64 t609) := (blk_cell BK618.out 1).trans rfl
                have hcz30_2 : w21.cell? ⟨gb618, 2, none⟩ = some (.int .i64 t610) := (blk_cell BK618.out 2).trans rfl
                have hcz30_3 : w21.cell? ⟨gb618, 3, none⟩ = some (.int .i64 t611) := (blk_cell BK618.out 3).trans rfl
                have hcz30_4 : w21.cell? ⟨gb618, 4, none⟩ = some (.int .i64 t612) := (blk_cell BK618.out 4).trans rfl
                have hcz30_5 : w21.cell? ⟨gb618, 5, none⟩ = some (.int .i64 t613) := (blk_cell BK618.out 5).trans rfl
                have hcz30_6 : w21.cell? ⟨gb618, 6, none⟩ = some (.int .i64 t614) := (blk_cell BK618.out 6).trans rfl
                have hcz30_7 : w21.cell? ⟨gb618, 7, none⟩ = some (.int .i64 t615) := (blk_cell BK618.out 7).trans rfl
                have hcz30_8 : w21.cell? ⟨gb618, 8, none⟩ = some (.int .i64 t616) := (blk_cell BK618.out 8).trans rfl
                have hcz30_9 : w21.cell? ⟨gb618, 9, none⟩ = some (.bool t617) := (blk_cell BK618.out 9).trans rfl
                have hfz30_0 := blk_frozen BK618.out 0
                have hfz30_1 := blk_frozen BK618.out 1
                have hfz30_2 := blk_frozen BK618.out 2
                have hfz30_3 := blk_frozen BK618.out 3
                have hfz30_4 := blk_frozen BK618.out 4
                have hfz30_5 := blk_frozen BK618.out 5
                have hfz30_6 := blk_frozen BK618.out 6
                have hfz30_7 := blk_frozen BK618.out 7
                have hfz30_8 := blk_frozen BK618.out 8
                have hfz30_9 := blk_frozen BK618.out 9
                go_wp2_with (first | ((with_reducible refine gate_callee (f := 22) rfl ?_); refine goesL_ (some 38) rfl rfl Tryd.func22 (by kernel_rfl) rfl #[.slice A0 l0.length c0, .agg #[.int .i64 t608, .int .i64 t609, .int .i64 t610, .int .i64 t611, .int .i64 t612, .int .i64 t613, .int .i64 t614, .int .i64 t615, .int .i64 t616, .bool t617]] rfl (by (try simp only [List.map_toArray, List.map_cons, List.map_nil]); first | done | rfl | (simp only [List.length_drop, List.length_take]; rfl)) ?_; (with_reducible refine (stage_May.calls kj4 _ _ l0 t608 t609 t610 t611 t612 t613 t614 t615 t616 t617 true _ ?side1 ?side2 ?side3 A22.out).mono ?_); (case side1 => repeat (first | exact (Kd.C_below HR0.out HB.out) | (with_reducible refine Kd.C_alloc ?_ _) | (with_reducible refine Kd.C_drewN ?_ _) | (with_reducible refine Kd.C_drew ?_))); (case side2 => exact HC0.out); (case side3 => first | (with_reducible exact HG.out) | (refine GlobOk.below HG.out ?_; repeat (first | (with_reducible first | exact HB.out | apply below_alloc | apply pw_below_drewN | apply below_drew1 | refine below_set ?_ GE605.out | refine below_set ?_ GE618.out) | exact HB.out))); rintro e w31 ⟨rfl, hb⟩; refine ⟨_, rfl, ?_⟩; have n0_ := Aside0.mk (blk_below (g := gb605) (o := .cells #[.int .i64 a1_0, .int .i64 a1_1, .int .i64 a1_2, .int .i64 a1_3, .int .i64 a1_4, .int .i64 a1_5, .int .i64 a1_6, .int .i64 a1_7, .int .i64 a1_8, .bool a1_9] 24 (0, 0)) (by (with_reducible repeat (first | refine blk_drewN ?_ _ | refine blk_drew ?_ | refine blk_alloc ?_ _)); exact BK605.out) hb); have n1_ := Aside0.mk (blk_below (g := gb618) (o := .cells #[.int .i64 t608, .int .i64 t609, .int .i64 t610, .int .i64 t611, .int .i64 t612, .int .i64 t613, .int .i64 t614, .int .i64 t615, .int .i64 t616, .bool t617] 24 (0, 0)) (by (with_reducible repeat (first | refine blk_drewN ?_ _ | refine blk_drew ?_ | refine blk_alloc ?_ _)); exact BK618.out) hb); have n2_ := Aside0.mk (below_step (by repeat (first | (with_reducible first | exact HB.out | apply below_alloc | apply pw_below_drewN | apply below_drew1 | refine below_set ?_ GE605.out | refine below_set ?_ GE618.out) | exact HB.out)) hb); clear BK605; clear BK618; clear HB; have BK605 := n0_; have BK618 := n1_; have HB := n2_; clear n0_ n1_ n2_; (try clear hb); (try clear hb2); (try clear hk); (try clear hi); have hcz32_0 : w31.cell? ⟨gb618, 0, none⟩ = some (.int .i64 t608) := (blk_cell BK618.out 0).trans rfl; have hcz32_1 : w31.cell? ⟨gb618, 1, none⟩ = some (.int .i64 t609) := (blk_cell BK618.out 1).trans rfl; have hcz32_2 : w31.cell? ⟨gb618, 2, none⟩ = some (.int .i64 t610) := (blk_cell BK618.out 2).trans rfl; have hcz32_3 : w31.cell? ⟨gb618, 3, none⟩ = some (.int .i64 t611) := (blk_cell BK618.out 3).trans rfl; have hcz32_4 : w31.cell? ⟨gb618, 4, none⟩ = some (.int .i64 t612) := (blk_cell BK618.out 4).trans rfl; have hcz32_5 : w31.cell? ⟨gb618, 5, none⟩ = some (.int .i64 t613) := (blk_cell BK618.out 5).trans rfl; have hcz32_6 : w31.cell? ⟨gb618, 6, none⟩ = some (.int .i64 t614) := (blk_cell BK618.out 6).trans rfl; have hcz32_7 : w31.cell? ⟨gb618, 7, none⟩ = some (.int .i64 t615) := (blk_cell BK618.out 7).trans rfl; have hcz32_8 : w31.cell? ⟨gb618, 8, none⟩ = some (.int .i64 t616) := (blk_cell BK618.out 8).trans rfl; have hcz32_9 : w31.cell? ⟨gb618, 9, none⟩ = some (.bool t617) := (blk_cell BK618.out 9).trans rfl; have hfz32_0 := blk_frozen BK618.out 0; have hfz32_1 := blk_frozen BK618.out 1; have hfz32_2 := blk_frozen BK618.out 2; have hfz32_3 := blk_frozen BK618.out 3; have hfz32_4 := blk_frozen BK618.out 4; have hfz32_5 := blk_frozen BK618.out 5; have hfz32_6 := blk_frozen BK618.out 6; have hfz32_7 := blk_frozen BK618.out 7; have hfz32_8 := blk_frozen BK618.out 8; have hfz32_9 := blk_frozen BK618.out 9))
                go_meet
                case rel => exact ⟨_, (decide (t608 ≥ (l0.length : Int))), (by first | rfl | (simp; done) | (simp [*]; done)), H', ⟨by have := HJ4.out; first | omega | exact Nat.le_refl _⟩, ⟨by (with_reducible repeat (first | refine blk_drewN ?_ _ | refine blk_drew ?_ | refine blk_alloc ?_ _)); exact BK605.out⟩, ⟨by (with_reducible repeat (first | refine blk_drewN ?_ _ | refine blk_drew ?_ | refine blk_alloc ?_ _)); exact BK618.out⟩, ⟨by repeat (first | (with_reducible first | exact HB.out | apply below_alloc | apply pw_below_drewN | apply below_drew1 | refine below_set ?_ GE605.out | refine below_set ?_ GE618.out) | exact HB.out)⟩⟩
            · replace c23 := Bool.eq_false_iff.mpr c23
              subst c23
              have H1 : (pelicanlaw16_StageStays.j1 kj4 l0 true t608 t609 t610 t611 t612 t613 t614 t615 t616 t617) = some r := by rw [if_neg (show ¬ (false = true) by decide)] at H; exact H
              clear H
              have H := H1
              clear H1
              have H' := Aside0.mk H
              clear H
              have hnb33 := NB618_605.out
              have hnc33 := NB605_618.out
              have hcz34_0 : w21.cell? ⟨gb618, 0, none⟩ = some (.int .i64 t608) := (blk_cell BK618.out 0).trans rfl
              have hcz34_1 : w21.cell? ⟨gb618, 1, none⟩ = some (.int .i64 t609) := (blk_cell BK618.out 1).trans rfl
              have hcz34_2 : w21.cell? ⟨gb618, 2, none⟩ = some (.int .i64 t610) := (blk_cell BK618.out 2).trans rfl
              have hcz34_3 : w21.cell? ⟨gb618, 3, none⟩ = some (.int .i64 t611) := (blk_cell BK618.out 3).trans rfl
              have hcz34_4 : w21.cell? ⟨gb618, 4, none⟩ = some (.int .i64 t612) := (blk_cell BK618.out 4).trans rfl
              have hcz34_5 : w21.cell? ⟨gb618, 5, none⟩ = some (.int .i64 t613) := (blk_cell BK618.out 5).trans rfl
              have hcz34_6 : w21.cell? ⟨gb618, 6, none⟩ = some (.int .i64 t614) := (blk_cell BK618.out 6).trans rfl
              have hcz34_7 : w21.cell? ⟨gb618, 7, none⟩ = some (.int .i64 t615) := (blk_cell BK618.out 7).trans rfl
              have hcz34_8 : w21.cell? ⟨gb618, 8, none⟩ = some (.int .i64 t616) := (blk_cell BK618.out 8).trans rfl
              have hcz34_9 : w21.cell? ⟨gb618, 9, none⟩ = some (.bool t617) := (blk_cell BK618.out 9).trans rfl
              have hfz34_0 := blk_frozen BK618.out 0
              have hfz34_1 := blk_frozen BK618.out 1
              have hfz34_2 := blk_frozen BK618.out 2
              have hfz34_3 := blk_frozen BK618.out 3
              have hfz34_4 := blk_frozen BK618.out 4
              have hfz34_5 := blk_frozen BK618.out 5
              have hfz34_6 := blk_frozen BK618.out 6
              have hfz34_7 := blk_frozen BK618.out 7
              have hfz34_8 := blk_frozen BK618.out 8
              have hfz34_9 := blk_frozen BK618.out 9
              go_wp2_with (first | ((with_reducible refine gate_callee (f := 22) rfl ?_); refine goesL_ (some 38) rfl rfl Tryd.func22 (by kernel_rfl) rfl #[.slice A0 l0.length c0, .agg #[.int .i64 t608, .int .i64 t609, .int .i64 t610, .int .i64 t611, .int .i64 t612, .int .i64 t613, .int .i64 t614, .int .i64 t615, .int .i64 t616, .bool t617]] rfl (by (try simp only [List.map_toArray, List.map_cons, List.map_nil]); first | done | rfl | (simp only [List.length_drop, List.length_take]; rfl)) ?_; (with_reducible refine (stage_May.calls kj4 _ _ l0 t608 t609 t610 t611 t612 t613 t614 t615 t616 t617 false _ ?side1 ?side2 ?side3 A22.out).mono ?_); (case side1 => repeat (first | exact (Kd.C_below HR0.out HB.out) | (with_reducible refine Kd.C_alloc ?_ _) | (with_reducible refine Kd.C_drewN ?_ _) | (with_reducible refine Kd.C_drew ?_))); (case side2 => exact HC0.out); (case side3 => first | (with_reducible exact HG.out) | (refine GlobOk.below HG.out ?_; repeat (first | (with_reducible first | exact HB.out | apply below_alloc | apply pw_below_drewN | apply below_drew1 | refine below_set ?_ GE605.out | refine below_set ?_ GE618.out) | exact HB.out))); rintro e w35 ⟨rfl, hb⟩; refine ⟨_, rfl, ?_⟩; have n0_ := Aside0.mk (blk_below (g := gb605) (o := .cells #[.int .i64 a1_0, .int .i64 a1_1, .int .i64 a1_2, .int .i64 a1_3, .int .i64 a1_4, .int .i64 a1_5, .int .i64 a1_6, .int .i64 a1_7, .int .i64 a1_8, .bool a1_9] 24 (0, 0)) (by (with_reducible repeat (first | refine blk_drewN ?_ _ | refine blk_drew ?_ | refine blk_alloc ?_ _)); exact BK605.out) hb); have n1_ := Aside0.mk (blk_below (g := gb618) (o := .cells #[.int .i64 t608, .int .i64 t609, .int .i64 t610, .int .i64 t611, .int .i64 t612, .int .i64 t613, .int .i64 t614, .int .i64 t615, .int .i64 t616, .bool t617] 24 (0, 0)) (by (with_reducible repeat (first | refine blk_drewN ?_ _ | refine blk_drew ?_ | refine blk_alloc ?_ _)); exact BK618.out) hb); have n2_ := Aside0.mk (below_step (by repeat (first | (with_reducible first | exact HB.out | apply below_alloc | apply pw_below_drewN | apply below_drew1 | refine below_set ?_ GE605.out | refine below_set ?_ GE618.out) | exact HB.out)) hb); clear BK605; clear BK618; clear HB; have BK605 := n0_; have BK618 := n1_; have HB := n2_; clear n0_ n1_ n2_; (try clear hb); (try clear hb2); (try clear hk); (try clear hi)))
              go_meet
              case rel => exact ⟨_, (true), (by first | rfl | (simp; done) | (simp [*]; done)), H', ⟨by have := HJ4.out; first | omega | exact Nat.le_refl _⟩, ⟨by (with_reducible repeat (first | refine blk_drewN ?_ _ | refine blk_drew ?_ | refine blk_alloc ?_ _)); exact BK605.out⟩, ⟨by (with_reducible repeat (first | refine blk_drewN ?_ _ | refine blk_drew ?_ | refine blk_alloc ?_ _)); exact BK618.out⟩, ⟨by repeat (first | (with_reducible first | exact HB.out | apply below_alloc | apply pw_below_drewN | apply below_drew1 | refine below_set ?_ GE605.out | refine below_set ?_ GE618.out) | exact HB.out)⟩⟩
          case rest =>
            clear HC14
            try clear c1
            try clear c2
            try clear p2
            try clear c3
            try clear c8
            try clear c9
            try clear c10
            try clear c13
            try clear c14
            try clear c15
            try clear c18
            try clear c22
            try clear c23
            try clear c24
            try clear c24b0
            try clear c25
            try clear c29
            try clear c33
            try clear hcz15_0
            try clear hcz15_1
            try clear hcz15_2
            try clear hcz15_3
            try clear hcz15_4
            try clear hcz15_5
            try clear hcz15_6
            try clear hcz15_7
            try clear hcz15_8
            try clear hcz15_9
            try clear hcz19_0
            try clear hcz19_1
            try clear hcz19_2
            try clear hcz19_3
            try clear hcz19_4
            try clear hcz19_5
            try clear hcz19_6
            try clear hcz19_7
            try clear hcz19_8
            try clear hcz19_9
            try clear hcz20_0
            try clear hcz20_1
            try clear hcz20_2
            try clear hcz20_3
            try clear hcz20_4
            try clear hcz20_5
            try clear hcz20_6
            try clear hcz20_7
            try clear hcz20_8
            try clear hcz20_9
            try clear hcz26_0
            try clear hcz26_1
            try clear hcz26_2
            try clear hcz26_3
            try clear hcz26_4
            try clear hcz26_5
            try clear hcz26_6
            try clear hcz26_7
            try clear hcz26_8
            try clear hcz26_9
            try clear hcz28_0
            try clear hcz28_1
            try clear hcz28_2
            try clear hcz28_3
            try clear hcz28_4
            try clear hcz28_5
            try clear hcz28_6
            try clear hcz28_7
            try clear hcz28_8
            try clear hcz28_9
            try clear hcz30_0
            try clear hcz30_1
            try clear hcz30_2
            try clear hcz30_3
            try clear hcz30_4
            try clear hcz30_5
            try clear hcz30_6
            try clear hcz30_7
            try clear hcz30_8
            try clear hcz30_9
            try clear hcz32_0
            try clear hcz32_1
            try clear hcz32_2
            try clear hcz32_3
            try clear hcz32_4
            try clear hcz32_5
            try clear hcz32_6
            try clear hcz32_7
            try clear hcz32_8
            try clear hcz32_9
            try clear hcz34_0
            try clear hcz34_1
            try clear hcz34_2
            try clear hcz34_3
            try clear hcz34_4
            try clear hcz34_5
            try clear hcz34_6
            try clear hcz34_7
            try clear hcz34_8
            try clear hcz34_9
            try clear hfz15_0
            try clear hfz15_1
            try clear hfz15_2
            try clear hfz15_3
            try clear hfz15_4
            try clear hfz15_5
            try clear hfz15_6
            try clear hfz15_7
            try clear hfz15_8
            try clear hfz15_9
            try clear hfz19_0
            try clear hfz19_1
            try clear hfz19_2
            try clear hfz19_3
            try clear hfz19_4
            try clear hfz19_5
            try clear hfz19_6
            try clear hfz19_7
            try clear hfz19_8
            try clear hfz19_9
            try clear hfz20_0
            try clear hfz20_1
            try clear hfz20_2
            try clear hfz20_3
            try clear hfz20_4
            try clear hfz20_5
            try clear hfz20_6
            try clear hfz20_7
            try clear hfz20_8
            try clear hfz20_9
            try clear hfz26_0
            try clear hfz26_1
            try clear hfz26_2
            try clear hfz26_3
            try clear hfz26_4
            try clear hfz26_5
            try clear hfz26_6
            try clear hfz26_7
            try clear hfz26_8
            try clear hfz26_9
            try clear hfz28_0
            try clear hfz28_1
            try clear hfz28_2
            try clear hfz28_3
            try clear hfz28_4
            try clear hfz28_5
            try clear hfz28_6
            try clear hfz28_7
            try clear hfz28_8
            try clear hfz28_9
            try clear hfz30_0
            try clear hfz30_1
            try clear hfz30_2
            try clear hfz30_3
            try clear hfz30_4
            try clear hfz30_5
            try clear hfz30_6
            try clear hfz30_7
            try clear hfz30_8
            try clear hfz30_9
            try clear hfz32_0
            try clear hfz32_1
            try clear hfz32_2
            try clear hfz32_3
            try clear hfz32_4
            try clear hfz32_5
            try clear hfz32_6
            try clear hfz32_7
            try clear hfz32_8
            try clear hfz32_9
            try clear hfz34_0
            try clear hfz34_1
            try clear hfz34_2
            try clear hfz34_3
            try clear hfz34_4
            try clear hfz34_5
            try clear hfz34_6
            try clear hfz34_7
            try clear hfz34_8
            try clear hfz34_9
            try clear p2
            obtain ⟨kq, x51_13, rfl, HA, HJ13, BK605, BK618, HB⟩ := hcut
            cases kq with
            | zero => exact absurd HA.out (by simp [pelicanlaw16_StageStays.j1])
            | succ kj13 =>
              have H := HA.out
              clear HA
              simp only [pelicanlaw16_StageStays.j1] at H
              by_cases c36 : x51_13 = true
              · subst c36
                have H1 : (some false) = some r := by rw [if_pos rfl] at H; exact H
                clear H
                have H := H1
                clear H1
                exact absurd (Option.some.inj H) (by rw [HRR.out]; decide)
              · replace c36 := Bool.eq_false_iff.mpr c36
                subst c36
                have H1 : ((stage_Lamps.f kj13 l0 t608 t609 t610 t611 t612 t613 t614 t615 t616 t617).bind fun t624 => (if 0 < (l0.length : Int) then (if (t624.length : Int) = (((rd_T39 l0 0).f0).length : Int) then ((lamp_May.f t624).bind fun t628 => (if t628 = true then (if 0 ≤ t608 then (if t608 < (l0.length : Int) then ((lamp_Clash.f kj13 ((rd_T39 l0 t608).f0) ((rd_T39 l0 t608).f1) ((rd_T39 l0 t608).f2) ((rd_T39 l0 t608).f3) ((rd_T39 l0 t608).f4) t624).bind fun t630 => (some (!t630))) else (none)) else (none)) else (some false))) else (some false)) else (none))) = some r := by rw [if_neg (show ¬ (false = true) by decide)] at H; exact H
                clear H
                have H := H1
                clear H1
                replace H := Option.bind_eq_some_iff.mp H
                obtain ⟨t624, A370, H⟩ := H
                replace H : (if 0 < (l0.length : Int) then (if (t624.length : Int) = (((rd_T39 l0 0).f0).length : Int) then ((lamp_May.f t624).bind fun t628 => (if t628 = true then (if 0 ≤ t608 then (if t608 < (l0.length : Int) then ((lamp_Clash.f kj13 ((rd_T39 l0 t608).f0) ((rd_T39 l0 t608).f1) ((rd_T39 l0 t608).f2) ((rd_T39 l0 t608).f3) ((rd_T39 l0 t608).f4) t624).bind fun t630 => (some (!t630))) else (none)) else (none)) else (some false))) else (some false)) else (none)) = some r := H
                have A37 := Aside0.mk A370
                clear A370
                by_cases c38 : 0 < (l0.length : Int)
                · rw [if_pos c38] at H
                  have c38b0 : decide (0 < (l0.length : Int)) = true := decide_eq_true c38
                  have c38b1 : decide (0 < l0.length) = true := decide_eq_true (by omega)
                  clear c38
                  by_cases c39 : (t624.length : Int) = (((rd_T39 l0 0).f0).length : Int)
                  · rw [if_pos c39] at H
                    have c39b0 : ((t624.length : Int) == (((rd_T39 l0 0).f0).length : Int)) = true := beq_iff_eq.mpr c39
                    have c39b1 : ((t624.length : Int) != (((rd_T39 l0 0).f0).length : Int)) = false := bne_eq_false_iff_eq.mpr c39
                    have c39b2 : (t624.length == ((rd_T39 l0 0).f0).length) = true := by first | simpa using c39 | (simp at c39 ⊢; omega)
                    clear c39
                    replace H := Option.bind_eq_some_iff.mp H
                    obtain ⟨t628, A400, H⟩ := H
                    replace H : (if t628 = true then (if 0 ≤ t608 then (if t608 < (l0.length : Int) then ((lamp_Clash.f kj13 ((rd_T39 l0 t608).f0) ((rd_T39 l0 t608).f1) ((rd_T39 l0 t608).f2) ((rd_T39 l0 t608).f3) ((rd_T39 l0 t608).f4) t624).bind fun t630 => (some (!t630))) else (none)) else (none)) else (some false)) = some r := H
                    have A40 := Aside0.mk A400
                    clear A400
                    by_cases c41 : t628 = true
                    · subst c41
                      have H1 : (if 0 ≤ t608 then (if t608 < (l0.length : Int) then ((lamp_Clash.f kj13 ((rd_T39 l0 t608).f0) ((rd_T39 l0 t608).f1) ((rd_T39 l0 t608).f2) ((rd_T39 l0 t608).f3) ((rd_T39 l0 t608).f4) t624).bind fun t630 => (some (!t630))) else (none)) else (none)) = some r := by rw [if_pos rfl] at H; exact H
                      clear H
                      have H := H1
                      clear H1
                      by_cases c42 : 0 ≤ t608
                      · rw [if_pos c42] at H
                        have c42b0 : decide (0 ≤ t608) = true := decide_eq_true c42
                        clear c42
                        by_cases c43 : t608 < (l0.length : Int)
                        · rw [if_pos c43] at H
                          have c43b0 : decide (t608 < (l0.length : Int)) = true := decide_eq_true c43
                          clear c43
                          replace H := Option.bind_eq_some_iff.mp H
                          obtain ⟨t630, A440, H⟩ := H
                          replace H : (some (!t630)) = some r := H
                          have A44 := Aside0.mk A440
                          clear A440
                          obtain rfl := Option.some.inj H
                          have hnb45 := NB618_605.out
                          have hnc45 := NB605_618.out
                          have hcz46_0 : wc.cell? ⟨gb618, 0, none⟩ = some (.int .i64 t608) := (blk_cell BK618.out 0).trans rfl
                          have hcz46_1 : wc.cell? ⟨gb618, 1, none⟩ = some (.int .i64 t609) := (blk_cell BK618.out 1).trans rfl
                          have hcz46_2 : wc.cell? ⟨gb618, 2, none⟩ = some (.int .i64 t610) := (blk_cell BK618.out 2).trans rfl
                          have hcz46_3 : wc.cell? ⟨gb618, 3, none⟩ = some (.int .i64 t611) := (blk_cell BK618.out 3).trans rfl
                          have hcz46_4 : wc.cell? ⟨gb618, 4, none⟩ = some (.int .i64 t612) := (blk_cell BK618.out 4).trans rfl
                          have hcz46_5 : wc.cell? ⟨gb618, 5, none⟩ = some (.int .i64 t613) := (blk_cell BK618.out 5).trans rfl
                          have hcz46_6 : wc.cell? ⟨gb618, 6, none⟩ = some (.int .i64 t614) := (blk_cell BK618.out 6).trans rfl
                          have hcz46_7 : wc.cell? ⟨gb618, 7, none⟩ = some (.int .i64 t615) := (blk_cell BK618.out 7).trans rfl
                          have hcz46_8 : wc.cell? ⟨gb618, 8, none⟩ = some (.int .i64 t616) := (blk_cell BK618.out 8).trans rfl
                          have hcz46_9 : wc.cell? ⟨gb618, 9, none⟩ = some (.bool t617) := (blk_cell BK618.out 9).trans rfl
                          have hfz46_0 := blk_frozen BK618.out 0
                          have hfz46_1 := blk_frozen BK618.out 1
                          have hfz46_2 := blk_frozen BK618.out 2
                          have hfz46_3 := blk_frozen BK618.out 3
                          have hfz46_4 := blk_frozen BK618.out 4
                          have hfz46_5 := blk_frozen BK618.out 5
                          have hfz46_6 := blk_frozen BK618.out 6
                          have hfz46_7 := blk_frozen BK618.out 7
                          have hfz46_8 := blk_frozen BK618.out 8
                          have hfz46_9 := blk_frozen BK618.out 9
                          go_wp2_with (first | ((with_reducible refine gate_callee (f := 20) rfl ?_); refine goesL_ (some 54) rfl rfl Tryd.func20 (by kernel_rfl) rfl #[.slice A0 l0.length c0, .agg #[.int .i64 t608, .int .i64 t609, .int .i64 t610, .int .i64 t611, .int .i64 t612, .int .i64 t613, .int .i64 t614, .int .i64 t615, .int .i64 t616, .bool t617]] rfl (by (try simp only [List.map_toArray, List.map_cons, List.map_nil]); first | done | rfl | (simp only [List.length_drop, List.length_take]; rfl)) ?_; (with_reducible refine (stage_Lamps.calls kj13 _ _ l0 t608 t609 t610 t611 t612 t613 t614 t615 t616 t617 t624 _ ?side1 ?side2 ?side3 A37.out).mono ?_); (case side1 => repeat (first | exact (Kd.C_below HR0.out HB.out) | (with_reducible refine Kd.C_alloc ?_ _) | (with_reducible refine Kd.C_drewN ?_ _) | (with_reducible refine Kd.C_drew ?_))); (case side2 => exact HC0.out); (case side3 => first | (with_reducible exact HG.out) | (refine GlobOk.below HG.out ?_; repeat (first | (with_reducible first | exact HB.out | apply below_alloc | apply pw_below_drewN | apply below_drew1 | refine below_set ?_ GE605.out | refine below_set ?_ GE618.out) | exact HB.out))); rintro e w47 ⟨v625, rfl, ho0, hb⟩; refine ⟨_, rfl, ?_⟩; have n0_ := Aside0.mk (Kd.R_lower ho0 (below_size (by repeat (first | (with_reducible first | exact HB.out | apply below_alloc | apply pw_below_drewN | apply below_drew1 | refine below_set ?_ GE605.out | refine below_set ?_ GE618.out) | exact HB.out)))); have n1_ := Aside0.mk (blk_below (g := gb605) (o := .cells #[.int .i64 a1_0, .int .i64 a1_1, .int .i64 a1_2, .int .i64 a1_3, .int .i64 a1_4, .int .i64 a1_5, .int .i64 a1_6, .int .i64 a1_7, .int .i64 a1_8, .bool a1_9] 24 (0, 0)) (by (with_reducible repeat (first | refine blk_drewN ?_ _ | refine blk_drew ?_ | refine blk_alloc ?_ _)); exact BK605.out) hb); have n2_ := Aside0.mk (blk_below (g := gb618) (o := .cells #[.int .i64 t608, .int .i64 t609, .int .i64 t610, .int .i64 t611, .int .i64 t612, .int .i64 t613, .int .i64 t614, .int .i64 t615, .int .i64 t616, .bool t617] 24 (0, 0)) (by (with_reducible repeat (first | refine blk_drewN ?_ _ | refine blk_drew ?_ | refine blk_alloc ?_ _)); exact BK618.out) hb); have n3_ := Aside0.mk (below_step (by repeat (first | (with_reducible first | exact HB.out | apply below_alloc | apply pw_below_drewN | apply below_drew1 | refine below_set ?_ GE605.out | refine below_set ?_ GE618.out) | exact HB.out)) hb); clear BK605; clear BK618; clear HB; have HO626 := n0_; have BK605 := n1_; have BK618 := n2_; have HB := n3_; clear n0_ n1_ n2_ n3_; (try clear hb); (try clear hb2); (try clear hk); (try clear hi); (try clear ho0); obtain ⟨Ao48, co48, eo48⟩ := Kd.R_slice HO626.out; subst eo48; have p627 : 0 ≤ (0 : Int) := (by omega); have q627 : 0 < (l0.length : Int) := of_decide_eq_true (by first | (with_reducible assumption) | assumption); obtain ⟨ad627, A627_0, c627_0, A627_1, c627_1, e627, hx627_0, hx627_1, hx627_2, hx627_3, hx627_4, hl627_0, hi627_0, hl627_1, hi627_1⟩ := at_T39 HR0.out 0 p627 q627; cases e627; have qi627 : (0 < l0.length) = True := eq_true (by omega); (try rw [show ((0 : Int)).toNat = 0 from rfl] at hx627_0); (try rw [show 0 * 5 = 0 from rfl] at hx627_0); (try rw [Addr.add_zero'] at hx627_0); (try rw [show ((0 : Int)).toNat = 0 from rfl] at hx627_1); (try rw [show 0 * 5 = 0 from rfl] at hx627_1); (try rw [Addr.add_zero'] at hx627_1); (try rw [show ((0 : Int)).toNat = 0 from rfl] at hx627_2); (try rw [show 0 * 5 = 0 from rfl] at hx627_2); (try rw [Addr.add_zero'] at hx627_2); (try rw [show ((0 : Int)).toNat = 0 from rfl] at hx627_3); (try rw [show 0 * 5 = 0 from rfl] at hx627_3); (try rw [Addr.add_zero'] at hx627_3); (try rw [show ((0 : Int)).toNat = 0 from rfl] at hx627_4); (try rw [show 0 * 5 = 0 from rfl] at hx627_4); (try rw [Addr.add_zero'] at hx627_4); replace hx627_0 := (HB.out.cell (World.block_lt_of_cell? w _ hx627_0)).trans hx627_0; replace hx627_1 := (HB.out.cell (World.block_lt_of_cell? w _ hx627_1)).trans hx627_1; replace hx627_2 := (HB.out.cell (World.block_lt_of_cell? w _ hx627_2)).trans hx627_2; replace hx627_3 := (HB.out.cell (World.block_lt_of_cell? w _ hx627_3)).trans hx627_3; replace hx627_4 := (HB.out.cell (World.block_lt_of_cell? w _ hx627_4)).trans hx627_4; have HR627_0 := Aside0.mk hi627_0; have HC627_0 := Aside0.mk hl627_0; clear hi627_0 hl627_0; have HR627_1 := Aside0.mk hi627_1; have HC627_1 := Aside0.mk hl627_1; clear hi627_1 hl627_1; replace p627 := eq_true p627; replace q627 := eq_true q627) | (go_at_call 28; (with_reducible refine (lamp_May.calls _ _ t624 true _ ?side1 ?side2 A40.out).mono ?_); (case side1 => repeat (first | exact (Kd.R_reads' HO626.out).2.2 | (with_reducible refine Kd.C_alloc ?_ _) | (with_reducible refine Kd.C_drewN ?_ _) | (with_reducible refine Kd.C_drew ?_))); (case side2 => exact (Kd.R_reads' HO626.out).2.1); rintro e w49 ⟨rfl, hb⟩; have n0_ := Aside0.mk (Kd.R_below (by (with_reducible repeat (first | apply Kd.R_alloc | apply Kd.R_drewN | apply Kd.R_drew)); exact HO626.out) hb); have n1_ := Aside0.mk (blk_below (g := gb605) (o := .cells #[.int .i64 a1_0, .int .i64 a1_1, .int .i64 a1_2, .int .i64 a1_3, .int .i64 a1_4, .int .i64 a1_5, .int .i64 a1_6, .int .i64 a1_7, .int .i64 a1_8, .bool a1_9] 24 (0, 0)) (by (with_reducible repeat (first | refine blk_drewN ?_ _ | refine blk_drew ?_ | refine blk_alloc ?_ _)); exact BK605.out) hb); have n2_ := Aside0.mk (blk_below (g := gb618) (o := .cells #[.int .i64 t608, .int .i64 t609, .int .i64 t610, .int .i64 t611, .int .i64 t612, .int .i64 t613, .int .i64 t614, .int .i64 t615, .int .i64 t616, .bool t617] 24 (0, 0)) (by (with_reducible repeat (first | refine blk_drewN ?_ _ | refine blk_drew ?_ | refine blk_alloc ?_ _)); exact BK618.out) hb); have n3_ := Aside0.mk (below_step (by repeat (first | (with_reducible first | exact HB.out | apply below_alloc | apply pw_below_drewN | apply below_drew1 | refine below_set ?_ GE605.out | refine below_set ?_ GE618.out) | exact HB.out)) hb); clear HO626; clear BK605; clear BK618; clear HB; have HO626 := n0_; have BK605 := n1_; have BK618 := n2_; have HB := n3_; clear n0_ n1_ n2_ n3_; (try clear hb); (try clear hb2); (try clear hk); (try clear hi); have hcz50_0 : w49.cell? ⟨gb618, 0, none⟩ = some (.int .i64 t608) := (blk_cell BK618.out 0).trans rfl; have hcz50_1 : w49.cell? ⟨gb618, 1, none⟩ = some (.int .i64 t609) := (blk_cell BK618.out 1).trans rfl; have hcz50_2 : w49.cell? ⟨gb618, 2, none⟩ = some (.int .i64 t610) := (blk_cell BK618.out 2).trans rfl; have hcz50_3 : w49.cell? ⟨gb618, 3, none⟩ = some (.int .i64 t611) := (blk_cell BK618.out 3).trans rfl; have hcz50_4 : w49.cell? ⟨gb618, 4, none⟩ = some (.int .i64 t612) := (blk_cell BK618.out 4).trans rfl; have hcz50_5 : w49.cell? ⟨gb618, 5, none⟩ = some (.int .i64 t613) := (blk_cell BK618.out 5).trans rfl; have hcz50_6 : w49.cell? ⟨gb618, 6, none⟩ = some (.int .i64 t614) := (blk_cell BK618.out 6).trans rfl; have hcz50_7 : w49.cell? ⟨gb618, 7, none⟩ = some (.int .i64 t615) := (blk_cell BK618.out 7).trans rfl; have hcz50_8 : w49.cell? ⟨gb618, 8, none⟩ = some (.int .i64 t616) := (blk_cell BK618.out 8).trans rfl; have hcz50_9 : w49.cell? ⟨gb618, 9, none⟩ = some (.bool t617) := (blk_cell BK618.out 9).trans rfl; have hfz50_0 := blk_frozen BK618.out 0; have hfz50_1 := blk_frozen BK618.out 1; have hfz50_2 := blk_frozen BK618.out 2; have hfz50_3 := blk_frozen BK618.out 3; have hfz50_4 := blk_frozen BK618.out 4; have hfz50_5 := blk_frozen BK618.out 5; have hfz50_6 := blk_frozen BK618.out 6; have hfz50_7 := blk_frozen BK618.out 7; have hfz50_8 := blk_frozen BK618.out 8; have hfz50_9 := blk_frozen BK618.out 9; have p629 : 0 ≤ (t608 : Int) := of_decide_eq_true (by first | (with_reducible assumption) | assumption); have q629 : t608 < (l0.length : Int) := of_decide_eq_true (by first | (with_reducible assumption) | assumption); obtain ⟨ad629, A629_0, c629_0, A629_1, c629_1, e629, hx629_0, hx629_1, hx629_2, hx629_3, hx629_4, hl629_0, hi629_0, hl629_1, hi629_1⟩ := at_T39 HR0.out t608 p629 q629; obtain rfl : ad627 = ad629 := (by injection e629); replace hx629_0 := (HB.out.cell (World.block_lt_of_cell? w _ hx629_0)).trans hx629_0; replace hx629_1 := (HB.out.cell (World.block_lt_of_cell? w _ hx629_1)).trans hx629_1; replace hx629_2 := (HB.out.cell (World.block_lt_of_cell? w _ hx629_2)).trans hx629_2; replace hx629_3 := (HB.out.cell (World.block_lt_of_cell? w _ hx629_3)).trans hx629_3; replace hx629_4 := (HB.out.cell (World.block_lt_of_cell? w _ hx629_4)).trans hx629_4; have HR629_0 := Aside0.mk hi629_0; have HC629_0 := Aside0.mk hl629_0; clear hi629_0 hl629_0; have HR629_1 := Aside0.mk hi629_1; have HC629_1 := Aside0.mk hl629_1; clear hi629_1 hl629_1; replace p629 := eq_true p629; replace q629 := eq_true q629) | (go_at_call 29; (with_reducible refine (lamp_Clash.calls kj13 _ _ ((rd_T39 l0 t608).f0) _ _ ((rd_T39 l0 t608).f1) ((rd_T39 l0 t608).f2) ((rd_T39 l0 t608).f3) ((rd_T39 l0 t608).f4) _ _ t624 t630 _ ?side1 ?side2 ?side3 ?side4 ?side5 ?side6 ?side7 A44.out).mono ?_); (case side1 => repeat (first | exact (Kd.C_below HR629_0.out HB.out) | (with_reducible refine Kd.C_alloc ?_ _) | (with_reducible refine Kd.C_drewN ?_ _) | (with_reducible refine Kd.C_drew ?_))); (case side2 => exact HC629_0.out); (case side3 => repeat (first | exact (Kd.C_below HR629_1.out HB.out) | (with_reducible refine Kd.C_alloc ?_ _) | (with_reducible refine Kd.C_drewN ?_ _) | (with_reducible refine Kd.C_drew ?_))); (case side4 => exact HC629_1.out); (case side5 => repeat (first | exact (Kd.R_reads' HO626.out).2.2 | (with_reducible refine Kd.C_alloc ?_ _) | (with_reducible refine Kd.C_drewN ?_ _) | (with_reducible refine Kd.C_drew ?_))); (case side6 => exact (Kd.R_reads' HO626.out).2.1); (case side7 => first | (with_reducible exact HG.out) | (refine GlobOk.below HG.out ?_; repeat (first | (with_reducible first | exact HB.out | apply below_alloc | apply pw_below_drewN | apply below_drew1 | refine below_set ?_ GE605.out | refine below_set ?_ GE618.out) | exact HB.out))); rintro e w51 ⟨rfl, hb⟩; have n0_ := Aside0.mk (Kd.R_below (by (with_reducible repeat (first | apply Kd.R_alloc | apply Kd.R_drewN | apply Kd.R_drew)); exact HO626.out) hb); have n1_ := Aside0.mk (blk_below (g := gb605) (o := .cells #[.int .i64 a1_0, .int .i64 a1_1, .int .i64 a1_2, .int .i64 a1_3, .int .i64 a1_4, .int .i64 a1_5, .int .i64 a1_6, .int .i64 a1_7, .int .i64 a1_8, .bool a1_9] 24 (0, 0)) (by (with_reducible repeat (first | refine blk_drewN ?_ _ | refine blk_drew ?_ | refine blk_alloc ?_ _)); exact BK605.out) hb); have n2_ := Aside0.mk (blk_below (g := gb618) (o := .cells #[.int .i64 t608, .int .i64 t609, .int .i64 t610, .int .i64 t611, .int .i64 t612, .int .i64 t613, .int .i64 t614, .int .i64 t615, .int .i64 t616, .bool t617] 24 (0, 0)) (by (with_reducible repeat (first | refine blk_drewN ?_ _ | refine blk_drew ?_ | refine blk_alloc ?_ _)); exact BK618.out) hb); have n3_ := Aside0.mk (below_step (by repeat (first | (with_reducible first | exact HB.out | apply below_alloc | apply pw_below_drewN | apply below_drew1 | refine below_set ?_ GE605.out | refine below_set ?_ GE618.out) | exact HB.out)) hb); clear HO626; clear BK605; clear BK618; clear HB; have HO626 := n0_; have BK605 := n1_; have BK618 := n2_; have HB := n3_; clear n0_ n1_ n2_ n3_; (try clear hb); (try clear hb2); (try clear hk); (try clear hi)))
                          go_ret
                          exact ⟨by first | rfl | (simp [errW_none, errW_some] <;> rfl) | (simp [*, errW_none, errW_some] <;> rfl), by repeat (first | (with_reducible first | exact HB.out | apply below_alloc | apply pw_below_drewN | apply below_drew1 | refine below_set ?_ GE605.out | refine below_set ?_ GE618.out) | exact HB.out)⟩
                        · rw [if_neg c43] at H
                          exact absurd H (by simp)
                      · rw [if_neg c42] at H
                        exact absurd H (by simp)
                    · replace c41 := Bool.eq_false_iff.mpr c41
                      subst c41
                      have H1 : (some false) = some r := by rw [if_neg (show ¬ (false = true) by decide)] at H; exact H
                      clear H
                      have H := H1
                      clear H1
                      exact absurd (Option.some.inj H) (by rw [HRR.out]; decide)
                  · rw [if_neg c39] at H
                    have c39b0 : ((t624.length : Int) == (((rd_T39 l0 0).f0).length : Int)) = false := beq_eq_false_iff_ne.mpr c39
                    have c39b1 : ((t624.length : Int) != (((rd_T39 l0 0).f0).length : Int)) = true := bne_iff_ne.mpr c39
                    have c39b2 : (t624.length == ((rd_T39 l0 0).f0).length) = false := by first | simpa using c39 | (simp at c39 ⊢; omega)
                    exact absurd (Option.some.inj H) (by rw [HRR.out]; decide)
                · rw [if_neg c38] at H
                  exact absurd H (by simp)
        · replace c13 := Bool.eq_false_iff.mpr c13
          subst c13
          have H1 : (if (t608 == a1_0 && (t609 == a1_1 && (t610 == a1_2 && (t611 == a1_3 && (t612 == a1_4 && (t613 == a1_5 && (t614 == a1_6 && (t615 == a1_7 && (t616 == a1_8 && (t617 == a1_9)))))))))) = true then ((stage_Lamps.f kj4 l0 a1_0 a1_1 a1_2 a1_3 a1_4 a1_5 a1_6 a1_7 a1_8 a1_9).bind fun t620 => (some ((t620.length : Int) == 0))) else (some false)) = some r := by rw [if_neg (show ¬ (false = true) by decide)] at H; exact H
          clear H
          have H := H1
          clear H1
          by_cases c61 : (t608 == a1_0 && (t609 == a1_1 && (t610 == a1_2 && (t611 == a1_3 && (t612 == a1_4 && (t613 == a1_5 && (t614 == a1_6 && (t615 == a1_7 && (t616 == a1_8 && (t617 == a1_9)))))))))) = true
          · rw [if_pos c61] at H
            have c61b0 : (t608 == a1_0 && (t609 == a1_1 && (t610 == a1_2 && (t611 == a1_3 && (t612 == a1_4 && (t613 == a1_5 && (t614 == a1_6 && (t615 == a1_7 && (t616 == a1_8 && (t617 == a1_9)))))))))) = true := c61
            (try (have c61b1 : decide (t608 = a1_0 && (t609 == a1_1 && (t610 == a1_2 && (t611 == a1_3 && (t612 == a1_4 && (t613 == a1_5 && (t614 == a1_6 && (t615 == a1_7 && (t616 == a1_8 && (t617 == a1_9)))))))))) = true := by simpa using c61))
            (try (have c61b2 : (t608 == a1_0 && (t609 == a1_1 && (t610 == a1_2 && (t611 == a1_3 && (t612 == a1_4 && (t613 == a1_5 && (t614 == a1_6 && (t615 == a1_7 && (t616 == a1_8 && (t617 == a1_9)))))))))) = true := by simpa using c61))
            clear c61
            replace H := Option.bind_eq_some_iff.mp H
            obtain ⟨t620, A620, H⟩ := H
            replace H : (some ((t620.length : Int) == 0)) = some r := H
            have A62 := Aside0.mk A620
            clear A620
            obtain rfl := Option.some.inj H
            have hcz63_0 : wc.cell? ⟨gb605, 0, none⟩ = some (.int .i64 a1_0) := (blk_cell BK605.out 0).trans rfl
            have hcz63_1 : wc.cell? ⟨gb605, 1, none⟩ = some (.int .i64 a1_1) := (blk_cell BK605.out 1).trans rfl
            have hcz63_2 : wc.cell? ⟨gb605, 2, none⟩ = some (.int .i64 a1_2) := (blk_cell BK605.out 2).trans rfl
            have hcz63_3 : wc.cell? ⟨gb605, 3, none⟩ = some (.int .i64 a1_3) := (blk_cell BK605.out 3).trans rfl
            have hcz63_4 : wc.cell? ⟨gb605, 4, none⟩ = some (.int .i64 a1_4) := (blk_cell BK605.out 4).trans rfl
            have hcz63_5 : wc.cell? ⟨gb605, 5, none⟩ = some (.int .i64 a1_5) := (blk_cell BK605.out 5).trans rfl
            have hcz63_6 : wc.cell? ⟨gb605, 6, none⟩ = some (.int .i64 a1_6) := (blk_cell BK605.out 6).trans rfl
            have hcz63_7 : wc.cell? ⟨gb605, 7, none⟩ = some (.int .i64 a1_7) := (blk_cell BK605.out 7).trans rfl
            have hcz63_8 : wc.cell? ⟨gb605, 8, none⟩ = some (.int .i64 a1_8) := (blk_cell BK605.out 8).trans rfl
            have hcz63_9 : wc.cell? ⟨gb605, 9, none⟩ = some (.bool a1_9) := (blk_cell BK605.out 9).trans rfl
            have hfz63_0 := blk_frozen BK605.out 0
            have hfz63_1 := blk_frozen BK605.out 1
            have hfz63_2 := blk_frozen BK605.out 2
            have hfz63_3 := blk_frozen BK605.out 3
            have hfz63_4 := blk_frozen BK605.out 4
            have hfz63_5 := blk_frozen BK605.out 5
            have hfz63_6 := blk_frozen BK605.out 6
            have hfz63_7 := blk_frozen BK605.out 7
            have hfz63_8 := blk_frozen BK605.out 8
            have hfz63_9 := blk_frozen BK605.out 9
            go_wp2_with (first | ((with_reducible refine gate_callee (f := 23) rfl ?_); refine goesL_ (some 21) rfl rfl Tryd.func23 (by kernel_rfl) rfl #[.slice A0 l0.length c0, .agg #[.int .i64 a1_0, .int .i64 a1_1, .int .i64 a1_2, .int .i64 a1_3, .int .i64 a1_4, .int .i64 a1_5, .int .i64 a1_6, .int .i64 a1_7, .int .i64 a1_8, .bool a1_9]] rfl (by (try simp only [List.map_toArray, List.map_cons, List.map_nil]); first | done | rfl | (simp only [List.length_drop, List.length_take]; rfl)) ?_; (with_reducible refine (stage_Tick.calls _ _ l0 a1_0 a1_1 a1_2 a1_3 a1_4 a1_5 a1_6 a1_7 a1_8 a1_9 t608 t609 t610 t611 t612 t613 t614 t615 t616 t617 _ ?side1 ?side2 ?side3 A11.out).mono ?_); (case side1 => repeat (first | exact (Kd.C_below HR0.out HB.out) | (with_reducible refine Kd.C_alloc ?_ _) | (with_reducible refine Kd.C_drewN ?_ _) | (with_reducible refine Kd.C_drew ?_))); (case side2 => exact HC0.out); (case side3 => first | (with_reducible exact HG.out) | (refine GlobOk.below HG.out ?_; repeat (first | (with_reducible first | exact HB.out | apply below_alloc | apply pw_below_drewN | apply below_drew1 | refine below_set ?_ GE605.out) | exact HB.out))); rintro e w64 ⟨rfl, hb⟩; refine ⟨_, rfl, ?_⟩; have n0_ := Aside0.mk (blk_below (g := gb605) (o := .cells #[.int .i64 a1_0, .int .i64 a1_1, .int .i64 a1_2, .int .i64 a1_3, .int .i64 a1_4, .int .i64 a1_5, .int .i64 a1_6, .int .i64 a1_7, .int .i64 a1_8, .bool a1_9] 24 (0, 0)) (by (with_reducible repeat (first | refine blk_drewN ?_ _ | refine blk_drew ?_ | refine blk_alloc ?_ _)); exact BK605.out) hb); have n1_ := Aside0.mk (below_step (by repeat (first | (with_reducible first | exact HB.out | apply below_alloc | apply pw_below_drewN | apply below_drew1 | refine below_set ?_ GE605.out) | exact HB.out)) hb); clear BK605; clear HB; have BK605 := n0_; have HB := n1_; clear n0_ n1_; (try clear hb); (try clear hb2); (try clear hk); (try clear hi)) | ((with_reducible refine gate_dst (N := 7) rfl ?_); (try (refine gate_guard (by rfl) ?_; dsimp only)); refine box_event ?hg (N := 7) ?hd (cs := #[.int .i64 0, .int .i64 0, .int .i64 0, .int .i64 0, .int .i64 0, .int .i64 0, .int .i64 0, .int .i64 0, .int .i64 0, .bool false]) (t := 24) ?hr ?_; (case hd => rfl); (case hg => rfl); (case hr => first | (go_simp; done) | (go_simp; rfl)); intro gb618 hg w65 hbox hb; have n0_ := Aside0.mk (blk_below (g := gb605) (o := .cells #[.int .i64 a1_0, .int .i64 a1_1, .int .i64 a1_2, .int .i64 a1_3, .int .i64 a1_4, .int .i64 a1_5, .int .i64 a1_6, .int .i64 a1_7, .int .i64 a1_8, .bool a1_9] 24 (0, 0)) (by (with_reducible repeat (first | refine blk_drewN ?_ _ | refine blk_drew ?_ | refine blk_alloc ?_ _)); exact BK605.out) hb); have n1_ := Aside0.mk (below_step (by repeat (first | (with_reducible first | exact HB.out | apply below_alloc | apply pw_below_drewN | apply below_drew1 | refine below_set ?_ GE605.out) | exact HB.out)) hb); have n2_ := Aside0.mk (hbox); have n3_ := Aside0.mk ((by rw [hg]; exact (below_size (by repeat (first | (with_reducible first | exact HB.out | apply below_alloc | apply pw_below_drewN | apply below_drew1 | refine below_set ?_ GE605.out) | exact HB.out))) : w.heap.size ≤ gb618)); have n4_ := Aside0.mk ((by rw [hg]; exact (below_size (by repeat (first | (with_reducible first | exact HB.out | apply below_alloc | apply pw_below_drewN | apply below_drew1 | refine below_set ?_ GE605.out) | exact HB.out))) : w.heap.size ≤ gb618)); have n5_ := Aside0.mk ((by rw [hg]; exact Nat.ne_of_lt (blk_lt (g := gb605) (o := .cells #[.int .i64 a1_0, .int .i64 a1_1, .int .i64 a1_2, .int .i64 a1_3, .int .i64 a1_4, .int .i64 a1_5, .int .i64 a1_6, .int .i64 a1_7, .int .i64 a1_8, .bool a1_9] 24 (0, 0)) (by (with_reducible repeat (first | refine blk_drewN ?_ _ | refine blk_drew ?_ | refine blk_alloc ?_ _)); exact BK605.out)) : gb605 ≠ gb618)); have n6_ := Aside0.mk ((by rw [hg]; exact Nat.ne_of_gt (blk_lt (g := gb605) (o := .cells #[.int .i64 a1_0, .int .i64 a1_1, .int .i64 a1_2, .int .i64 a1_3, .int .i64 a1_4, .int .i64 a1_5, .int .i64 a1_6, .int .i64 a1_7, .int .i64 a1_8, .bool a1_9] 24 (0, 0)) (by (with_reducible repeat (first | refine blk_drewN ?_ _ | refine blk_drew ?_ | refine blk_alloc ?_ _)); exact BK605.out)) : gb618 ≠ gb605)); clear BK605; clear HB; have BK605 := n0_; have HB := n1_; have BK618 := n2_; have GW618 := n3_; have GE618 := n4_; have NB605_618 := n5_; have NB618_605 := n6_; clear n0_ n1_ n2_ n3_ n4_ n5_ n6_; clear hb hbox hg; have hnb66 := NB618_605.out; have hnc66 := NB605_618.out; have hcz67_0 : w65.cell? ⟨gb618, 0, none⟩ = some (.int .i64 0) := (blk_cell BK618.out 0).trans rfl; have hcz67_1 : w65.cell? ⟨gb618, 1, none⟩ = some (.int .i64 0) := (blk_cell BK618.out 1).trans rfl; have hcz67_2 : w65.cell? ⟨gb618, 2, none⟩ = some (.int .i64 0) := (blk_cell BK618.out 2).trans rfl; have hcz67_3 : w65.cell? ⟨gb618, 3, none⟩ = some (.int .i64 0) := (blk_cell BK618.out 3).trans rfl; have hcz67_4 : w65.cell? ⟨gb618, 4, none⟩ = some (.int .i64 0) := (blk_cell BK618.out 4).trans rfl; have hcz67_5 : w65.cell? ⟨gb618, 5, none⟩ = some (.int .i64 0) := (blk_cell BK618.out 5).trans rfl; have hcz67_6 : w65.cell? ⟨gb618, 6, none⟩ = some (.int .i64 0) := (blk_cell BK618.out 6).trans rfl; have hcz67_7 : w65.cell? ⟨gb618, 7, none⟩ = some (.int .i64 0) := (blk_cell BK618.out 7).trans rfl; have hcz67_8 : w65.cell? ⟨gb618, 8, none⟩ = some (.int .i64 0) := (blk_cell BK618.out 8).trans rfl; have hcz67_9 : w65.cell? ⟨gb618, 9, none⟩ = some (.bool false) := (blk_cell BK618.out 9).trans rfl; have hfz67_0 := blk_frozen BK618.out 0; have hfz67_1 := blk_frozen BK618.out 1; have hfz67_2 := blk_frozen BK618.out 2; have hfz67_3 := blk_frozen BK618.out 3; have hfz67_4 := blk_frozen BK618.out 4; have hfz67_5 := blk_frozen BK618.out 5; have hfz67_6 := blk_frozen BK618.out 6; have hfz67_7 := blk_frozen BK618.out 7; have hfz67_8 := blk_frozen BK618.out 8; have hfz67_9 := blk_frozen BK618.out 9; have hcz68_0 : w65.cell? ⟨gb605, 0, none⟩ = some (.int .i64 a1_0) := (blk_cell BK605.out 0).trans rfl; have hcz68_1 : w65.cell? ⟨gb605, 1, none⟩ = some (.int .i64 a1_1) := (blk_cell BK605.out 1).trans rfl; have hcz68_2 : w65.cell? ⟨gb605, 2, none⟩ = some (.int .i64 a1_2) := (blk_cell BK605.out 2).trans rfl; have hcz68_3 : w65.cell? ⟨gb605, 3, none⟩ = some (.int .i64 a1_3) := (blk_cell BK605.out 3).trans rfl; have hcz68_4 : w65.cell? ⟨gb605, 4, none⟩ = some (.int .i64 a1_4) := (blk_cell BK605.out 4).trans rfl; have hcz68_5 : w65.cell? ⟨gb605, 5, none⟩ = some (.int .i64 a1_5) := (blk_cell BK605.out 5).trans rfl; have hcz68_6 : w65.cell? ⟨gb605, 6, none⟩ = some (.int .i64 a1_6) := (blk_cell BK605.out 6).trans rfl; have hcz68_7 : w65.cell? ⟨gb605, 7, none⟩ = some (.int .i64 a1_7) := (blk_cell BK605.out 7).trans rfl; have hcz68_8 : w65.cell? ⟨gb605, 8, none⟩ = some (.int .i64 a1_8) := (blk_cell BK605.out 8).trans rfl; have hcz68_9 : w65.cell? ⟨gb605, 9, none⟩ = some (.bool a1_9) := (blk_cell BK605.out 9).trans rfl; have hfz68_0 := blk_frozen BK605.out 0; have hfz68_1 := blk_frozen BK605.out 1; have hfz68_2 := blk_frozen BK605.out 2; have hfz68_3 := blk_frozen BK605.out 3; have hfz68_4 := blk_frozen BK605.out 4; have hfz68_5 := blk_frozen BK605.out 5; have hfz68_6 := blk_frozen BK605.out 6; have hfz68_7 := blk_frozen BK605.out 7; have hfz68_8 := blk_frozen BK605.out 8; have hfz68_9 := blk_frozen BK605.out 9) | ((with_reducible refine gate_callee (f := 22) rfl ?_); refine goesL_ (some 24) rfl rfl Tryd.func22 (by kernel_rfl) rfl #[.slice A0 l0.length c0, .agg #[.int .i64 a1_0, .int .i64 a1_1, .int .i64 a1_2, .int .i64 a1_3, .int .i64 a1_4, .int .i64 a1_5, .int .i64 a1_6, .int .i64 a1_7, .int .i64 a1_8, .bool a1_9]] rfl (by (try simp only [List.map_toArray, List.map_cons, List.map_nil]); first | done | rfl | (simp only [List.length_drop, List.length_take]; rfl)) ?_; (with_reducible refine (stage_May.calls kj4 _ _ l0 a1_0 a1_1 a1_2 a1_3 a1_4 a1_5 a1_6 a1_7 a1_8 a1_9 false _ ?side1 ?side2 ?side3 A12.out).mono ?_); (case side1 => exact Kd.C_below HR0.out (by repeat (first | (with_reducible first | exact HB.out | apply below_alloc | apply pw_below_drewN | apply below_drew1 | refine below_set ?_ GE605.out | refine below_set ?_ GE618.out) | exact HB.out))); (case side2 => exact HC0.out); (case side3 => first | (with_reducible exact HG.out) | (refine GlobOk.below HG.out ?_; repeat (first | (with_reducible first | exact HB.out | apply below_alloc | apply pw_below_drewN | apply below_drew1 | refine below_set ?_ GE605.out | refine below_set ?_ GE618.out) | exact HB.out))); rintro e w69 ⟨rfl, hb⟩; refine ⟨_, rfl, ?_⟩; have n0_ := Aside0.mk (blk_below (g := gb605) (o := .cells #[.int .i64 a1_0, .int .i64 a1_1, .int .i64 a1_2, .int .i64 a1_3, .int .i64 a1_4, .int .i64 a1_5, .int .i64 a1_6, .int .i64 a1_7, .int .i64 a1_8, .bool a1_9] 24 (0, 0)) (by (with_reducible repeat (first | refine blk_drewN ?_ _ | refine blk_drew ?_ | refine blk_alloc ?_ _)); refine blk_far ?_ NB605_618.out _; (with_reducible repeat (first | refine blk_drewN ?_ _ | refine blk_drew ?_ | refine blk_alloc ?_ _)); refine blk_far ?_ NB605_618.out _; (with_reducible repeat (first | refine blk_drewN ?_ _ | refine blk_drew ?_ | refine blk_alloc ?_ _)); refine blk_far ?_ NB605_618.out _; (with_reducible repeat (first | refine blk_drewN ?_ _ | refine blk_drew ?_ | refine blk_alloc ?_ _)); refine blk_far ?_ NB605_618.out _; (with_reducible repeat (first | refine blk_drewN ?_ _ | refine blk_drew ?_ | refine blk_alloc ?_ _)); refine blk_far ?_ NB605_618.out _; (with_reducible repeat (first | refine blk_drewN ?_ _ | refine blk_drew ?_ | refine blk_alloc ?_ _)); refine blk_far ?_ NB605_618.out _; (with_reducible repeat (first | refine blk_drewN ?_ _ | refine blk_drew ?_ | refine blk_alloc ?_ _)); refine blk_far ?_ NB605_618.out _; (with_reducible repeat (first | refine blk_drewN ?_ _ | refine blk_drew ?_ | refine blk_alloc ?_ _)); refine blk_far ?_ NB605_618.out _; (with_reducible repeat (first | refine blk_drewN ?_ _ | refine blk_drew ?_ | refine blk_alloc ?_ _)); refine blk_far ?_ NB605_618.out _; (with_reducible repeat (first | refine blk_drewN ?_ _ | refine blk_drew ?_ | refine blk_alloc ?_ _)); refine blk_far ?_ NB605_618.out _; (with_reducible repeat (first | refine blk_drewN ?_ _ | refine blk_drew ?_ | refine blk_alloc ?_ _)); exact BK605.out) hb); have n1_ := Aside0.mk (blk_below (g := gb618) (o := .cells #[.int .i64 t608, .int .i64 t609, .int .i64 t610, .int .i64 t611, .int .i64 t612, .int .i64 t613, .int .i64 t614, .int .i64 t615, .int .i64 t616, .bool t617] 24 (0, 0)) (by (with_reducible repeat (first | refine blk_drewN ?_ _ | refine blk_drew ?_ | refine blk_alloc ?_ _)); refine blk_put (cs := #[.int .i64 t608, .int .i64 t609, .int .i64 t610, .int .i64 t611, .int .i64 t612, .int .i64 t613, .int .i64 t614, .int .i64 t615, .int .i64 t616, .bool false]) ?_ 9 _ rfl; (with_reducible repeat (first | refine blk_drewN ?_ _ | refine blk_drew ?_ | refine blk_alloc ?_ _)); refine blk_put (cs := #[.int .i64 t608, .int .i64 t609, .int .i64 t610, .int .i64 t611, .int .i64 t612, .int .i64 t613, .int .i64 t614, .int .i64 t615, .int .i64 0, .bool false]) ?_ 8 _ rfl; (with_reducible repeat (first | refine blk_drewN ?_ _ | refine blk_drew ?_ | refine blk_alloc ?_ _)); refine blk_put (cs := #[.int .i64 t608, .int .i64 t609, .int .i64 t610, .int .i64 t611, .int .i64 t612, .int .i64 t613, .int .i64 t614, .int .i64 0, .int .i64 0, .bool false]) ?_ 7 _ rfl; (with_reducible repeat (first | refine blk_drewN ?_ _ | refine blk_drew ?_ | refine blk_alloc ?_ _)); refine blk_put (cs := #[.int .i64 t608, .int .i64 t609, .int .i64 t610, .int .i64 t611, .int .i64 t612, .int .i64 t613, .int .i64 0, .int .i64 0, .int .i64 0, .bool false]) ?_ 6 _ rfl; (with_reducible repeat (first | refine blk_drewN ?_ _ | refine blk_drew ?_ | refine blk_alloc ?_ _)); refine blk_put (cs := #[.int .i64 t608, .int .i64 t609, .int .i64 t610, .int .i64 t611, .int .i64 t612, .int .i64 0, .int .i64 0, .int .i64 0, .int .i64 0, .bool false]) ?_ 5 _ rfl; (with_reducible repeat (first | refine blk_drewN ?_ _ | refine blk_drew ?_ | refine blk_alloc ?_ _)); refine blk_put (cs := #[.int .i64 t608, .int .i64 t609, .int .i64 t610, .int .i64 t611, .int .i64 0, .int .i64 0, .int .i64 0, .int .i64 0, .int .i64 0, .bool false]) ?_ 4 _ rfl; (with_reducible repeat (first | refine blk_drewN ?_ _ | refine blk_drew ?_ | refine blk_alloc ?_ _)); refine blk_put (cs := #[.int .i64 t608, .int .i64 t609, .int .i64 t610, .int .i64 0, .int .i64 0, .int .i64 0, .int .i64 0, .int .i64 0, .int .i64 0, .bool false]) ?_ 3 _ rfl; (with_reducible repeat (first | refine blk_drewN ?_ _ | refine blk_drew ?_ | refine blk_alloc ?_ _)); refine blk_put (cs := #[.int .i64 t608, .int .i64 t609, .int .i64 0, .int .i64 0, .int .i64 0, .int .i64 0, .int .i64 0, .int .i64 0, .int .i64 0, .bool false]) ?_ 2 _ rfl; (with_reducible repeat (first | refine blk_drewN ?_ _ | refine blk_drew ?_ | refine blk_alloc ?_ _)); refine blk_put (cs := #[.int .i64 t608, .int .i64 0, .int .i64 0, .int .i64 0, .int .i64 0, .int .i64 0, .int .i64 0, .int .i64 0, .int .i64 0, .bool false]) ?_ 1 _ rfl; (with_reducible repeat (first | refine blk_drewN ?_ _ | refine blk_drew ?_ | refine blk_alloc ?_ _)); refine blk_put (cs := #[.int .i64 0, .int .i64 0, .int .i64 0, .int .i64 0, .int .i64 0, .int .i64 0, .int .i64 0, .int .i64 0, .int .i64 0, .bool false]) ?_ 0 _ rfl; (with_reducible repeat (first | refine blk_drewN ?_ _ | refine blk_drew ?_ | refine blk_alloc ?_ _)); exact BK618.out) hb); have n2_ := Aside0.mk (below_step (by repeat (first | (with_reducible first | exact HB.out | apply below_alloc | apply pw_below_drewN | apply below_drew1 | refine below_set ?_ GE605.out | refine below_set ?_ GE618.out) | exact HB.out)) hb); clear BK605; clear BK618; clear HB; have BK605 := n0_; have BK618 := n1_; have HB := n2_; clear n0_ n1_ n2_; (try clear hb); (try clear hb2); (try clear hk); (try clear hi); have hcz70_0 : w69.cell? ⟨gb618, 0, none⟩ = some (.int .i64 t608) := (blk_cell BK618.out 0).trans rfl; have hcz70_1 : w69.cell? ⟨gb618, 1, none⟩ = some (.int .i64 t609) := (blk_cell BK618.out 1).trans rfl; have hcz70_2 : w69.cell? ⟨gb618, 2, none⟩ = some (.int .i64 t610) := (blk_cell BK618.out 2).trans rfl; have hcz70_3 : w69.cell? ⟨gb618, 3, none⟩ = some (.int .i64 t611) := (blk_cell BK618.out 3).trans rfl; have hcz70_4 : w69.cell? ⟨gb618, 4, none⟩ = some (.int .i64 t612) := (blk_cell BK618.out 4).trans rfl; have hcz70_5 : w69.cell? ⟨gb618, 5, none⟩ = some (.int .i64 t613) := (blk_cell BK618.out 5).trans rfl; have hcz70_6 : w69.cell? ⟨gb618, 6, none⟩ = some (.int .i64 t614) := (blk_cell BK618.out 6).trans rfl; have hcz70_7 : w69.cell? ⟨gb618, 7, none⟩ = some (.int .i64 t615) := (blk_cell BK618.out 7).trans rfl; have hcz70_8 : w69.cell? ⟨gb618, 8, none⟩ = some (.int .i64 t616) := (blk_cell BK618.out 8).trans rfl; have hcz70_9 : w69.cell? ⟨gb618, 9, none⟩ = some (.bool t617) := (blk_cell BK618.out 9).trans rfl; have hfz70_0 := blk_frozen BK618.out 0; have hfz70_1 := blk_frozen BK618.out 1; have hfz70_2 := blk_frozen BK618.out 2; have hfz70_3 := blk_frozen BK618.out 3; have hfz70_4 := blk_frozen BK618.out 4; have hfz70_5 := blk_frozen BK618.out 5; have hfz70_6 := blk_frozen BK618.out 6; have hfz70_7 := blk_frozen BK618.out 7; have hfz70_8 := blk_frozen BK618.out 8; have hfz70_9 := blk_frozen BK618.out 9; have hcz71_0 : w69.cell? ⟨gb605, 0, none⟩ = some (.int .i64 a1_0) := (blk_cell BK605.out 0).trans rfl; have hcz71_1 : w69.cell? ⟨gb605, 1, none⟩ = some (.int .i64 a1_1) := (blk_cell BK605.out 1).trans rfl; have hcz71_2 : w69.cell? ⟨gb605, 2, none⟩ = some (.int .i64 a1_2) := (blk_cell BK605.out 2).trans rfl; have hcz71_3 : w69.cell? ⟨gb605, 3, none⟩ = some (.int .i64 a1_3) := (blk_cell BK605.out 3).trans rfl; have hcz71_4 : w69.cell? ⟨gb605, 4, none⟩ = some (.int .i64 a1_4) := (blk_cell BK605.out 4).trans rfl; have hcz71_5 : w69.cell? ⟨gb605, 5, none⟩ = some (.int .i64 a1_5) := (blk_cell BK605.out 5).trans rfl; have hcz71_6 : w69.cell? ⟨gb605, 6, none⟩ = some (.int .i64 a1_6) := (blk_cell BK605.out 6).trans rfl; have hcz71_7 : w69.cell? ⟨gb605, 7, none⟩ = some (.int .i64 a1_7) := (blk_cell BK605.out 7).trans rfl; have hcz71_8 : w69.cell? ⟨gb605, 8, none⟩ = some (.int .i64 a1_8) := (blk_cell BK605.out 8).trans rfl; have hcz71_9 : w69.cell? ⟨gb605, 9, none⟩ = some (.bool a1_9) := (blk_cell BK605.out 9).trans rfl; have hfz71_0 := blk_frozen BK605.out 0; have hfz71_1 := blk_frozen BK605.out 1; have hfz71_2 := blk_frozen BK605.out 2; have hfz71_3 := blk_frozen BK605.out 3; have hfz71_4 := blk_frozen BK605.out 4; have hfz71_5 := blk_frozen BK605.out 5; have hfz71_6 := blk_frozen BK605.out 6; have hfz71_7 := blk_frozen BK605.out 7; have hfz71_8 := blk_frozen BK605.out 8; have hfz71_9 := blk_frozen BK605.out 9) | (go_at_call 20; (with_reducible refine (stage_Lamps.calls kj4 _ _ l0 a1_0 a1_1 a1_2 a1_3 a1_4 a1_5 a1_6 a1_7 a1_8 a1_9 t620 _ ?side1 ?side2 ?side3 A62.out).mono ?_); (case side1 => repeat (first | exact (Kd.C_below HR0.out HB.out) | (with_reducible refine Kd.C_alloc ?_ _) | (with_reducible refine Kd.C_drewN ?_ _) | (with_reducible refine Kd.C_drew ?_))); (case side2 => exact HC0.out); (case side3 => first | (with_reducible exact HG.out) | (refine GlobOk.below HG.out ?_; repeat (first | (with_reducible first | exact HB.out | apply below_alloc | apply pw_below_drewN | apply below_drew1 | refine below_set ?_ GE605.out | refine below_set ?_ GE618.out) | exact HB.out))); rintro e w72 ⟨v621, rfl, ho0, hb⟩; have n0_ := Aside0.mk (Kd.R_lower ho0 (below_size (by repeat (first | (with_reducible first | exact HB.out | apply below_alloc | apply pw_below_drewN | apply below_drew1 | refine below_set ?_ GE605.out | refine below_set ?_ GE618.out) | exact HB.out)))); have n1_ := Aside0.mk (blk_below (g := gb605) (o := .cells #[.int .i64 a1_0, .int .i64 a1_1, .int .i64 a1_2, .int .i64 a1_3, .int .i64 a1_4, .int .i64 a1_5, .int .i64 a1_6, .int .i64 a1_7, .int .i64 a1_8, .bool a1_9] 24 (0, 0)) (by (with_reducible repeat (first | refine blk_drewN ?_ _ | refine blk_drew ?_ | refine blk_alloc ?_ _)); exact BK605.out) hb); have n2_ := Aside0.mk (blk_below (g := gb618) (o := .cells #[.int .i64 t608, .int .i64 t609, .int .i64 t610, .int .i64 t611, .int .i64 t612, .int .i64 t613, .int .i64 t614, .int .i64 t615, .int .i64 t616, .bool t617] 24 (0, 0)) (by (with_reducible repeat (first | refine blk_drewN ?_ _ | refine blk_drew ?_ | refine blk_alloc ?_ _)); exact BK618.out) hb); have n3_ := Aside0.mk (below_step (by repeat (first | (with_reducible first | exact HB.out | apply below_alloc | apply pw_below_drewN | apply below_drew1 | refine below_set ?_ GE605.out | refine below_set ?_ GE618.out) | exact HB.out)) hb); clear BK605; clear BK618; clear HB; have HO622 := n0_; have BK605 := n1_; have BK618 := n2_; have HB := n3_; clear n0_ n1_ n2_ n3_; (try clear hb); (try clear hb2); (try clear hk); (try clear hi); (try clear ho0); obtain ⟨Ao73, co73, eo73⟩ := Kd.R_slice HO622.out; subst eo73))
            go_ret
            exact ⟨by first | rfl | (simp [errW_none, errW_some] <;> rfl) | (simp [*, errW_none, errW_some] <;> rfl), by repeat (first | (with_reducible first | exact HB.out | apply below_alloc | apply pw_below_drewN | apply below_drew1 | refine below_set ?_ GE605.out | refine below_set ?_ GE618.out) | exact HB.out)⟩
          · rw [if_neg c61] at H
            have c61b0 : (t608 == a1_0 && (t609 == a1_1 && (t610 == a1_2 && (t611 == a1_3 && (t612 == a1_4 && (t613 == a1_5 && (t614 == a1_6 && (t615 == a1_7 && (t616 == a1_8 && (t617 == a1_9)))))))))) = false := by simpa using c61
            (try (have c61b1 : decide (t608 = a1_0 && (t609 == a1_1 && (t610 == a1_2 && (t611 == a1_3 && (t612 == a1_4 && (t613 == a1_5 && (t614 == a1_6 && (t615 == a1_7 && (t616 == a1_8 && (t617 == a1_9)))))))))) = false := by simpa using c61))
            (try (have c61b2 : (t608 == a1_0 && (t609 == a1_1 && (t610 == a1_2 && (t611 == a1_3 && (t612 == a1_4 && (t613 == a1_5 && (t614 == a1_6 && (t615 == a1_7 && (t616 == a1_8 && (t617 == a1_9)))))))))) = false := by simpa using c61))
            (try (have c61b3 : ¬ (t608 = a1_0 && (t609 == a1_1 && (t610 == a1_2 && (t611 == a1_3 && (t612 == a1_4 && (t613 == a1_5 && (t614 == a1_6 && (t615 == a1_7 && (t616 == a1_8 && (t617 == a1_9)))))))))) := by simpa using c61))
            clear c61
            exact absurd (Option.some.inj H) (by rw [HRR.out]; decide)

end Go.Proofs.YtechgjbhgeddjaaDoor.F
