/- Woven by wip/weave/weave.py of this repo (own tool) out of the translation: the contracts of some functions. Lean checks it. -/
import Derived.Test.YtpciieagafddcaaDoorQjD
import Derived.Test.YtpciieagafddcaaDoorQjDR13
import Derived.Test.YtpciieagafddcaaDoorQjSp
import Derived.Test.YtpciieagafddcaaDoorQjF14
namespace Go.Proofs.YtpciieagafddcaaDoor.F
open Go.RowKit Go.Proofs.YtpciieagafddcaaDoorW.PrintWords Go.Proofs.YtpciieagafddcaaDoorW.PrintLast Go.Proofs.YtpciieagafddcaaDoorW.PrintMore
attribute [local go_sem] max2_int min2_int max_two min_two max_three min_three max_four min_four   -- for this text's walks alone
set_option linter.unusedVariables false
set_option linter.unusedSimpArgs false
set_option maxHeartbeats 8000000 in
set_option maxRecDepth 100000 in
theorem pelicanref14_Next.calls (k : Nat) (A0_0 : Option Addr) (c0_0 : Nat) (l0_0 : List Int) (A0_1 : Option Addr) (c0_1 : Nat) (l0_1 : List (S87)) (a0_2 : Int) (a0_3 : Int) (a0_4 : Int) (a1 : Int) (r : Int) (w : World) (hr0_0 : Kd.C (Kd.int .i64) w A0_0 l0_0.length l0_0) (hc0_0 : l0_0.length ≤ c0_0) (hr0_1 : Kd.C k87 w A0_1 l0_1.length l0_1) (hc0_1 : l0_1.length ≤ c0_1) (h : pelicanref14_Next.f k l0_0 l0_1 a0_2 a0_3 a0_4 a1 = some r) :
    Calls Tryd.prog 119 #[.agg #[.slice A0_0 l0_0.length c0_0, .slice A0_1 l0_1.length c0_1, .int .i64 a0_2, .int .i64 a0_3, .int .i64 a0_4], .int .i64 a1] w fun e w' => e = .returned (.int .i64 r) ∧ Below w.heap.size w w' := by
  have hu25 := Tryd.underlying25
  have HR0_0 := Aside0.mk hr0_0
  have HC0_0 := Aside0.mk hc0_0
  clear hr0_0 hc0_0
  have HR0_1 := Aside0.mk hr0_1
  have HC0_1 := Aside0.mk hc0_1
  clear hr0_1 hc0_1
  have HB := Aside0.mk (Below.refl w.heap.size w)
  have H : ((pelicanref14_Fit.f k l0_0 l0_1 a0_2 a0_3 a0_4).bind fun t392 => (if t392 = true then (if a1 < 0 then (pelicanref14_Next.j0 k a1 true l0_0 l0_1 a0_2 a0_3 a0_4) else (pelicanref14_Next.j0 k a1 (decide (a1 ≥ (l0_1.length : Int))) l0_0 l0_1 a0_2 a0_3 a0_4)) else (pelicanref14_Next.j0 k a1 true l0_0 l0_1 a0_2 a0_3 a0_4))) = some r := h
  clear h
  replace H := Option.bind_eq_some_iff.mp H
  obtain ⟨t392, A30, H⟩ := H
  replace H : (if t392 = true then (if a1 < 0 then (pelicanref14_Next.j0 k a1 true l0_0 l0_1 a0_2 a0_3 a0_4) else (pelicanref14_Next.j0 k a1 (decide (a1 ≥ (l0_1.length : Int))) l0_0 l0_1 a0_2 a0_3 a0_4)) else (pelicanref14_Next.j0 k a1 true l0_0 l0_1 a0_2 a0_3 a0_4)) = some r := H
  have A3 := Aside0.mk A30
  clear A30
  have HC4 := Aside0.mk H
  clear H
  go_enter Tryd.func119, Tryd.ntmps119
  go_upto_region 2 with (first | ((with_reducible refine gate_dst (N := 2) rfl ?_); (try (refine gate_guard (by rfl) ?_; dsimp only)); refine box_event ?hg (N := 2) ?hd (cs := #[.slice A0_0 l0_0.length c0_0, .slice A0_1 l0_1.length c0_1, .int .i64 a0_2, .int .i64 a0_3, .int .i64 a0_4]) (t := 25) ?hr ?_; (case hd => rfl); (case hg => rfl); (case hr => first | (go_simp; done) | (go_simp; rfl)); intro gb391 hg w5 hbox hb; have n0_ := Aside0.mk (below_step (by repeat (first | (with_reducible first | exact HB.out | apply below_alloc | apply pw_below_drewN | apply below_drew1) | exact HB.out)) hb); have n1_ := Aside0.mk (hbox); have n2_ := Aside0.mk ((by rw [hg]; exact (below_size (by repeat (first | (with_reducible first | exact HB.out | apply below_alloc | apply pw_below_drewN | apply below_drew1) | exact HB.out))) : w.heap.size ≤ gb391)); have n3_ := Aside0.mk ((by rw [hg]; exact (below_size (by repeat (first | (with_reducible first | exact HB.out | apply below_alloc | apply pw_below_drewN | apply below_drew1) | exact HB.out))) : w.heap.size ≤ gb391)); clear HB; have HB := n0_; have BK391 := n1_; have GW391 := n2_; have GE391 := n3_; clear n0_ n1_ n2_ n3_; clear hb hbox hg; have hcz6_0 : w5.cell? ⟨gb391, 0, none⟩ = some (.slice A0_0 l0_0.length c0_0) := (blk_cell BK391.out 0).trans rfl; have hcz6_1 : w5.cell? ⟨gb391, 1, none⟩ = some (.slice A0_1 l0_1.length c0_1) := (blk_cell BK391.out 1).trans rfl; have hcz6_2 : w5.cell? ⟨gb391, 2, none⟩ = some (.int .i64 a0_2) := (blk_cell BK391.out 2).trans rfl; have hcz6_3 : w5.cell? ⟨gb391, 3, none⟩ = some (.int .i64 a0_3) := (blk_cell BK391.out 3).trans rfl; have hcz6_4 : w5.cell? ⟨gb391, 4, none⟩ = some (.int .i64 a0_4) := (blk_cell BK391.out 4).trans rfl; have hfz6_0 := blk_frozen BK391.out 0; have hfz6_1 := blk_frozen BK391.out 1; have hfz6_2 := blk_frozen BK391.out 2; have hfz6_3 := blk_frozen BK391.out 3; have hfz6_4 := blk_frozen BK391.out 4) | ((with_reducible refine gate_callee (f := 50) rfl ?_); refine goesL_ (some 7) rfl rfl Tryd.func50 (by kernel_rfl) rfl #[.agg #[.slice A0_0 l0_0.length c0_0, .slice A0_1 l0_1.length c0_1, .int .i64 a0_2, .int .i64 a0_3, .int .i64 a0_4]] rfl (by (try simp only [List.map_toArray, List.map_cons, List.map_nil]); first | done | rfl | (simp only [List.length_drop, List.length_take]; rfl)) ?_; (with_reducible refine (pelicanref14_Fit.calls k _ _ l0_0 _ _ l0_1 a0_2 a0_3 a0_4 t392 _ ?side1 ?side2 ?side3 ?side4 A3.out).mono ?_); (case side1 => repeat (first | exact (Kd.C_below HR0_0.out HB.out) | (with_reducible refine Kd.C_alloc ?_ _) | (with_reducible refine Kd.C_drewN ?_ _) | (with_reducible refine Kd.C_drew ?_))); (case side2 => exact HC0_0.out); (case side3 => repeat (first | exact (Kd.C_below HR0_1.out HB.out) | (with_reducible refine Kd.C_alloc ?_ _) | (with_reducible refine Kd.C_drewN ?_ _) | (with_reducible refine Kd.C_drew ?_))); (case side4 => exact HC0_1.out); rintro e w7 ⟨rfl, hb⟩; refine ⟨_, rfl, ?_⟩; have n0_ := Aside0.mk (blk_below (g := gb391) (o := .cells #[.slice A0_0 l0_0.length c0_0, .slice A0_1 l0_1.length c0_1, .int .i64 a0_2, .int .i64 a0_3, .int .i64 a0_4] 25 (0, 0)) (by (with_reducible repeat (first | refine blk_drewN ?_ _ | refine blk_drew ?_ | refine blk_alloc ?_ _)); exact BK391.out) hb); have n1_ := Aside0.mk (below_step (by repeat (first | (with_reducible first | exact HB.out | apply below_alloc | apply pw_below_drewN | apply below_drew1 | refine below_set ?_ GE391.out) | exact HB.out)) hb); clear BK391; clear HB; have BK391 := n0_; have HB := n1_; clear n0_ n1_; (try clear hb); (try clear hb2); (try clear hk); (try clear hi)))
  (try simp only [Act.put, List.setIfInBounds_toArray, List.set_cons_zero, List.set_cons_succ])
  go_cut [20] (fun v20 wc => ∃ (kq : Nat) (x20_3 : Bool), v20 = .bool x20_3 ∧ Aside0 (pelicanref14_Next.j0 kq a1 x20_3 l0_0 l0_1 a0_2 a0_3 a0_4 = some r) ∧ Aside0 (kq ≤ k) ∧ Aside0 (wc.heap[gb391]? = some (.cells #[(.slice A0_0 l0_0.length c0_0), (.slice A0_1 l0_1.length c0_1), .int .i64 a0_2, .int .i64 a0_3, .int .i64 a0_4] 25 (0, 0))) ∧ Aside0 (Below w.heap.size w wc))
  case first =>
    have H := HC4.out
    clear HC4
    by_cases c8 : t392 = true
    · subst c8
      have H1 : (if a1 < 0 then (pelicanref14_Next.j0 k a1 true l0_0 l0_1 a0_2 a0_3 a0_4) else (pelicanref14_Next.j0 k a1 (decide (a1 ≥ (l0_1.length : Int))) l0_0 l0_1 a0_2 a0_3 a0_4)) = some r := by rw [if_pos rfl] at H; exact H
      clear H
      have H := H1
      clear H1
      by_cases c9 : a1 < 0
      · rw [if_pos c9] at H
        have c9b0 : decide (a1 < 0) = true := decide_eq_true c9
        clear c9
        (first | rw [c9b0] | (simp only [i64_w, i32_w]; rw [c9b0]) | skip)
        have H' := Aside0.mk H
        clear H
        go_wp2
        go_meet
        case rel => exact ⟨_, (true), (by first | rfl | (simp; done) | (simp [*]; done)), H', ⟨by first | omega | exact Nat.le_refl _⟩, ⟨by (with_reducible repeat (first | refine blk_drewN ?_ _ | refine blk_drew ?_ | refine blk_alloc ?_ _)); exact BK391.out⟩, ⟨by repeat (first | (with_reducible first | exact HB.out | apply below_alloc | apply pw_below_drewN | apply below_drew1 | refine below_set ?_ GE391.out) | exact HB.out)⟩⟩
      · rw [if_neg c9] at H
        have c9b0 : decide (a1 < 0) = false := decide_eq_false c9
        clear c9
        (first | rw [c9b0] | (simp only [i64_w, i32_w]; rw [c9b0]) | skip)
        have H' := Aside0.mk H
        clear H
        have hcz10_0 : w7.cell? ⟨gb391, 0, none⟩ = some (.slice A0_0 l0_0.length c0_0) := (blk_cell BK391.out 0).trans rfl
        have hcz10_1 : w7.cell? ⟨gb391, 1, none⟩ = some (.slice A0_1 l0_1.length c0_1) := (blk_cell BK391.out 1).trans rfl
        have hcz10_2 : w7.cell? ⟨gb391, 2, none⟩ = some (.int .i64 a0_2) := (blk_cell BK391.out 2).trans rfl
        have hcz10_3 : w7.cell? ⟨gb391, 3, none⟩ = some (.int .i64 a0_3) := (blk_cell BK391.out 3).trans rfl
        have hcz10_4 : w7.cell? ⟨gb391, 4, none⟩ = some (.int .i64 a0_4) := (blk_cell BK391.out 4).trans rfl
        have hfz10_0 := blk_frozen BK391.out 0
        have hfz10_1 := blk_frozen BK391.out 1
        have hfz10_2 := blk_frozen BK391.out 2
        have hfz10_3 := blk_frozen BK391.out 3
        have hfz10_4 := blk_frozen BK391.out 4
        go_wp2
        go_meet
        case rel => exact ⟨_, (decide (a1 ≥ (l0_1.length : Int))), (by first | rfl | (simp; done) | (simp [*]; done)), H', ⟨by first | omega | exact Nat.le_refl _⟩, ⟨by (with_reducible repeat (first | refine blk_drewN ?_ _ | refine blk_drew ?_ | refine blk_alloc ?_ _)); exact BK391.out⟩, ⟨by repeat (first | (with_reducible first | exact HB.out | apply below_alloc | apply pw_below_drewN | apply below_drew1 | refine below_set ?_ GE391.out) | exact HB.out)⟩⟩
    · replace c8 := Bool.eq_false_iff.mpr c8
      subst c8
      have H1 : (pelicanref14_Next.j0 k a1 true l0_0 l0_1 a0_2 a0_3 a0_4) = some r := by rw [if_neg (show ¬ (false = true) by decide)] at H; exact H
      clear H
      have H := H1
      clear H1
      have H' := Aside0.mk H
      clear H
      go_wp2
      go_meet
      case rel => exact ⟨_, (true), (by first | rfl | (simp; done) | (simp [*]; done)), H', ⟨by first | omega | exact Nat.le_refl _⟩, ⟨by (with_reducible repeat (first | refine blk_drewN ?_ _ | refine blk_drew ?_ | refine blk_alloc ?_ _)); exact BK391.out⟩, ⟨by repeat (first | (with_reducible first | exact HB.out | apply below_alloc | apply pw_below_drewN | apply below_drew1 | refine below_set ?_ GE391.out) | exact HB.out)⟩⟩
  case rest =>
    clear HC4
    try clear c1
    try clear p2
    try clear c5
    try clear c8
    try clear c9
    try clear c9b0
    try clear hcz10_0
    try clear hcz10_1
    try clear hcz10_2
    try clear hcz10_3
    try clear hcz10_4
    try clear hcz6_0
    try clear hcz6_1
    try clear hcz6_2
    try clear hcz6_3
    try clear hcz6_4
    try clear hfz10_0
    try clear hfz10_1
    try clear hfz10_2
    try clear hfz10_3
    try clear hfz10_4
    try clear hfz6_0
    try clear hfz6_1
    try clear hfz6_2
    try clear hfz6_3
    try clear hfz6_4
    obtain ⟨kq, x20_3, rfl, HA, HJ3, BK391, HB⟩ := hcut
    cases kq with
    | zero => exact absurd HA.out (by simp [pelicanref14_Next.j0])
    | succ kj3 =>
      have H := HA.out
      clear HA
      simp only [pelicanref14_Next.j0] at H
      by_cases c11 : x20_3 = true
      · subst c11
        have H1 : (some (-1)) = some r := by rw [if_pos rfl] at H; exact H
        clear H
        have H := H1
        clear H1
        obtain rfl := Option.some.inj H
        go_wp2
        go_ret
        exact ⟨by first | rfl | (simp [errW_none, errW_some] <;> rfl) | (simp [*, errW_none, errW_some] <;> rfl), by repeat (first | (with_reducible first | exact HB.out | apply below_alloc | apply pw_below_drewN | apply below_drew1 | refine below_set ?_ GE391.out) | exact HB.out)⟩
      · replace c11 := Bool.eq_false_iff.mpr c11
        subst c11
        have H1 : (if a1 = (wrap64 ((l0_1.length : Int) - 1)) then (some 0) else (some (wrap64 (a1 + 1)))) = some r := by rw [if_neg (show ¬ (false = true) by decide)] at H; exact H
        clear H
        have H := H1
        clear H1
        by_cases c12 : a1 = (wrap64 ((l0_1.length : Int) - 1))
        · rw [if_pos c12] at H
          have c12b0 : (a1 == (wrap64 ((l0_1.length : Int) - 1))) = true := beq_iff_eq.mpr c12
          have c12b1 : (a1 != (wrap64 ((l0_1.length : Int) - 1))) = false := bne_eq_false_iff_eq.mpr c12
          clear c12
          obtain rfl := Option.some.inj H
          have hcz13_0 : wc.cell? ⟨gb391, 0, none⟩ = some (.slice A0_0 l0_0.length c0_0) := (blk_cell BK391.out 0).trans rfl
          have hcz13_1 : wc.cell? ⟨gb391, 1, none⟩ = some (.slice A0_1 l0_1.length c0_1) := (blk_cell BK391.out 1).trans rfl
          have hcz13_2 : wc.cell? ⟨gb391, 2, none⟩ = some (.int .i64 a0_2) := (blk_cell BK391.out 2).trans rfl
          have hcz13_3 : wc.cell? ⟨gb391, 3, none⟩ = some (.int .i64 a0_3) := (blk_cell BK391.out 3).trans rfl
          have hcz13_4 : wc.cell? ⟨gb391, 4, none⟩ = some (.int .i64 a0_4) := (blk_cell BK391.out 4).trans rfl
          have hfz13_0 := blk_frozen BK391.out 0
          have hfz13_1 := blk_frozen BK391.out 1
          have hfz13_2 := blk_frozen BK391.out 2
          have hfz13_3 := blk_frozen BK391.out 3
          have hfz13_4 := blk_frozen BK391.out 4
          go_wp2
          go_ret
          exact ⟨by first | rfl | (simp [errW_none, errW_some] <;> rfl) | (simp [*, errW_none, errW_some] <;> rfl), by repeat (first | (with_reducible first | exact HB.out | apply below_alloc | apply pw_below_drewN | apply below_drew1 | refine below_set ?_ GE391.out) | exact HB.out)⟩
        · rw [if_neg c12] at H
          have c12b0 : (a1 == (wrap64 ((l0_1.length : Int) - 1))) = false := beq_eq_false_iff_ne.mpr c12
          have c12b1 : (a1 != (wrap64 ((l0_1.length : Int) - 1))) = true := bne_iff_ne.mpr c12
          obtain rfl := Option.some.inj H
          have hcz14_0 : wc.cell? ⟨gb391, 0, none⟩ = some (.slice A0_0 l0_0.length c0_0) := (blk_cell BK391.out 0).trans rfl
          have hcz14_1 : wc.cell? ⟨gb391, 1, none⟩ = some (.slice A0_1 l0_1.length c0_1) := (blk_cell BK391.out 1).trans rfl
          have hcz14_2 : wc.cell? ⟨gb391, 2, none⟩ = some (.int .i64 a0_2) := (blk_cell BK391.out 2).trans rfl
          have hcz14_3 : wc.cell? ⟨gb391, 3, none⟩ = some (.int .i64 a0_3) := (blk_cell BK391.out 3).trans rfl
          have hcz14_4 : wc.cell? ⟨gb391, 4, none⟩ = some (.int .i64 a0_4) := (blk_cell BK391.out 4).trans rfl
          have hfz14_0 := blk_frozen BK391.out 0
          have hfz14_1 := blk_frozen BK391.out 1
          have hfz14_2 := blk_frozen BK391.out 2
          have hfz14_3 := blk_frozen BK391.out 3
          have hfz14_4 := blk_frozen BK391.out 4
          go_wp2
          go_ret
          exact ⟨by first | rfl | (simp [errW_none, errW_some] <;> rfl) | (simp [*, errW_none, errW_some] <;> rfl), by repeat (first | (with_reducible first | exact HB.out | apply below_alloc | apply pw_below_drewN | apply below_drew1 | refine below_set ?_ GE391.out) | exact HB.out)⟩
end Go.Proofs.YtpciieagafddcaaDoor.F
