/- Woven by wip/weave/weave.py of this repo (own tool) out of the translation: the contracts of some functions. Lean checks it. -/
import Derived.Test.YtpciieagafddcaaDoorQiD
import Derived.Test.YtpciieagafddcaaDoorQiF0
import Derived.Test.YtpciieagafddcaaDoorQiF6
import Derived.Test.YtpciieagafddcaaDoorQiF7
namespace Go.Proofs.YtpciieagafddcaaDoor.F
open Go.RowKit Go.Proofs.YtpciieagafddcaaDoorW.PrintWords Go.Proofs.YtpciieagafddcaaDoorW.PrintLast Go.Proofs.YtpciieagafddcaaDoorW.PrintMore
attribute [local go_sem] max2_int min2_int max_two min_two max_three min_three max_four min_four   -- for this text's walks alone
set_option linter.unusedVariables false
set_option linter.unusedSimpArgs false
/-! ### lamp_Clash: function 26 -/
set_option maxHeartbeats 8000000 in
set_option maxRecDepth 100000 in
theorem lamp_Clash.calls (k : Nat) (A0_0 : Option Addr) (c0_0 : Nat) (l0_0 : List Int) (A0_1 : Option Addr) (c0_1 : Nat) (l0_1 : List (S87)) (a0_2 : Int) (a0_3 : Int) (a0_4 : Int) (A1 : Option Addr) (c1 : Nat) (l1 : List Int) (r : Bool) (w : World) (hr0_0 : Kd.C (Kd.int .i64) w A0_0 l0_0.length l0_0) (hc0_0 : l0_0.length ≤ c0_0) (hr0_1 : Kd.C k87 w A0_1 l0_1.length l0_1) (hc0_1 : l0_1.length ≤ c0_1) (hr1 : Kd.C (Kd.int .i64) w A1 l1.length l1) (hc1 : l1.length ≤ c1) (hG : GlobOk w) (h : lamp_Clash.f k l0_0 l0_1 a0_2 a0_3 a0_4 l1 = some r) :
    Calls Tryd.prog 26 #[.agg #[.slice A0_0 l0_0.length c0_0, .slice A0_1 l0_1.length c0_1, .int .i64 a0_2, .int .i64 a0_3, .int .i64 a0_4], .slice A1 l1.length c1] w fun e w' => e = .returned (.bool r) ∧ Below w.heap.size w w' := by
  have hu25 := Tryd.underlying25
  have HR0_0 := Aside0.mk hr0_0
  have HC0_0 := Aside0.mk hc0_0
  clear hr0_0 hc0_0
  have HR0_1 := Aside0.mk hr0_1
  have HC0_1 := Aside0.mk hc0_1
  clear hr0_1 hc0_1
  have HR1 := Aside0.mk hr1
  have HC1 := Aside0.mk hc1
  clear hr1 hc1
  have HG := Aside0.mk hG
  clear hG
  have HB := Aside0.mk (Below.refl w.heap.size w)
  have H : ((plan_Fit.f k l0_0 l0_1 a0_2 a0_3 a0_4).bind fun t120 => (if t120 = true then (if (l1.length : Int) = (l0_0.length : Int) then ((lamp_May.f l1).bind fun t121 => (lamp_Clash.j0 k l1 (!t121) l0_0 l0_1 a0_2 a0_3 a0_4)) else (lamp_Clash.j0 k l1 true l0_0 l0_1 a0_2 a0_3 a0_4)) else (lamp_Clash.j0 k l1 true l0_0 l0_1 a0_2 a0_3 a0_4))) = some r := h
  clear h
  have HC3 := Aside0.mk H
  clear H
  go_enter Tryd.func26, Tryd.ntmps26
  go_upto_region 1 with (first | ((with_reducible refine gate_dst (N := 2) rfl ?_); (try (refine gate_guard (by rfl) ?_; dsimp only)); refine box_event ?hg (N := 2) ?hd (cs := #[.slice A0_0 l0_0.length c0_0, .slice A0_1 l0_1.length c0_1, .int .i64 a0_2, .int .i64 a0_3, .int .i64 a0_4]) (t := 25) ?hr ?_; (case hd => rfl); (case hg => rfl); (case hr => first | (go_simp; done) | (go_simp; rfl)); intro gb119 hg w4 hbox hb; have n0_ := Aside0.mk (below_step (by repeat (first | (with_reducible first | exact HB.out | apply below_alloc | apply pw_below_drewN | apply below_drew1) | exact HB.out)) hb); have n1_ := Aside0.mk (hbox); have n2_ := Aside0.mk ((by rw [hg]; exact (below_size (by repeat (first | (with_reducible first | exact HB.out | apply below_alloc | apply pw_below_drewN | apply below_drew1) | exact HB.out))) : w.heap.size ≤ gb119)); have n3_ := Aside0.mk ((by rw [hg]; exact (below_size (by repeat (first | (with_reducible first | exact HB.out | apply below_alloc | apply pw_below_drewN | apply below_drew1) | exact HB.out))) : w.heap.size ≤ gb119)); clear HB; have HB := n0_; have BK119 := n1_; have GW119 := n2_; have GE119 := n3_; clear n0_ n1_ n2_ n3_; clear hb hbox hg))
  (try simp only [Act.put, List.setIfInBounds_toArray, List.set_cons_zero, List.set_cons_succ])
  go_cut [23] (fun v23 wc => ∃ (kq : Nat) (x23_2 : Bool), v23 = .bool x23_2 ∧ Aside0 (lamp_Clash.j0 kq l1 x23_2 l0_0 l0_1 a0_2 a0_3 a0_4 = some r) ∧ Aside0 (kq ≤ k) ∧ Aside0 (wc.heap[gb119]? = some (.cells #[(.slice A0_0 l0_0.length c0_0), (.slice A0_1 l0_1.length c0_1), .int .i64 a0_2, .int .i64 a0_3, .int .i64 a0_4] 25 (0, 0))) ∧ Aside0 (Below w.heap.size w wc))
  case first =>
    have H := HC3.out
    clear HC3
    replace H := Option.bind_eq_some_iff.mp H
    obtain ⟨t120, A50, H⟩ := H
    replace H : (if t120 = true then (if (l1.length : Int) = (l0_0.length : Int) then ((lamp_May.f l1).bind fun t121 => (lamp_Clash.j0 k l1 (!t121) l0_0 l0_1 a0_2 a0_3 a0_4)) else (lamp_Clash.j0 k l1 true l0_0 l0_1 a0_2 a0_3 a0_4)) else (lamp_Clash.j0 k l1 true l0_0 l0_1 a0_2 a0_3 a0_4)) = some r := H
    have A5 := Aside0.mk A50
    clear A50
    by_cases c6 : t120 = true
    · subst c6
      have H1 : (if (l1.length : Int) = (l0_0.length : Int) then ((lamp_May.f l1).bind fun t121 => (lamp_Clash.j0 k l1 (!t121) l0_0 l0_1 a0_2 a0_3 a0_4)) else (lamp_Clash.j0 k l1 true l0_0 l0_1 a0_2 a0_3 a0_4)) = some r := by rw [if_pos rfl] at H; exact H
      clear H
      have H := H1
      clear H1
      by_cases c7 : (l1.length : Int) = (l0_0.length : Int)
      · rw [if_pos c7] at H
        have c7b0 : ((l1.length : Int) == (l0_0.length : Int)) = true := beq_iff_eq.mpr c7
        have c7b1 : ((l1.length : Int) != (l0_0.length : Int)) = false := bne_eq_false_iff_eq.mpr c7
        have c7b2 : (l1.length == l0_0.length) = true := by first | simpa using c7 | (simp at c7 ⊢; omega)
        clear c7
        (first | rw [c7b0] | (simp only [i64_w, i32_w]; rw [c7b0]) | skip)
        replace H := Option.bind_eq_some_iff.mp H
        obtain ⟨t121, A80, H⟩ := H
        replace H : (lamp_Clash.j0 k l1 (!t121) l0_0 l0_1 a0_2 a0_3 a0_4) = some r := H
        have A8 := Aside0.mk A80
        clear A80
        have H' := Aside0.mk H
        clear H
        have hcz9_0 : w4.cell? ⟨gb119, 0, none⟩ = some (.slice A0_0 l0_0.length c0_0) := (blk_cell BK119.out 0).trans rfl
        have hcz9_1 : w4.cell? ⟨gb119, 1, none⟩ = some (.slice A0_1 l0_1.length c0_1) := (blk_cell BK119.out 1).trans rfl
        have hcz9_2 : w4.cell? ⟨gb119, 2, none⟩ = some (.int .i64 a0_2) := (blk_cell BK119.out 2).trans rfl
        have hcz9_3 : w4.cell? ⟨gb119, 3, none⟩ = some (.int .i64 a0_3) := (blk_cell BK119.out 3).trans rfl
        have hcz9_4 : w4.cell? ⟨gb119, 4, none⟩ = some (.int .i64 a0_4) := (blk_cell BK119.out 4).trans rfl
        have hfz9_0 := blk_frozen BK119.out 0
        have hfz9_1 := blk_frozen BK119.out 1
        have hfz9_2 := blk_frozen BK119.out 2
        have hfz9_3 := blk_frozen BK119.out 3
        have hfz9_4 := blk_frozen BK119.out 4
        go_wp2_with (first | ((with_reducible refine gate_callee (f := 25) rfl ?_); refine goesL_ (some 9) rfl rfl Tryd.func25 (by kernel_rfl) rfl #[.agg #[.slice A0_0 l0_0.length c0_0, .slice A0_1 l0_1.length c0_1, .int .i64 a0_2, .int .i64 a0_3, .int .i64 a0_4]] rfl (by (try simp only [List.map_toArray, List.map_cons, List.map_nil]); first | done | rfl | (simp only [List.length_drop, List.length_take]; rfl)) ?_; (with_reducible refine (plan_Fit.calls k _ _ l0_0 _ _ l0_1 a0_2 a0_3 a0_4 true _ ?side1 ?side2 ?side3 ?side4 ?side5 A5.out).mono ?_); (case side1 => repeat (first | exact (Kd.C_below HR0_0.out HB.out) | (with_reducible refine Kd.C_alloc ?_ _) | (with_reducible refine Kd.C_drewN ?_ _) | (with_reducible refine Kd.C_drew ?_))); (case side2 => exact HC0_0.out); (case side3 => repeat (first | exact (Kd.C_below HR0_1.out HB.out) | (with_reducible refine Kd.C_alloc ?_ _) | (with_reducible refine Kd.C_drewN ?_ _) | (with_reducible refine Kd.C_drew ?_))); (case side4 => exact HC0_1.out); (case side5 => first | (with_reducible exact HG.out) | (refine GlobOk.below HG.out ?_; repeat (first | (with_reducible first | exact HB.out | apply below_alloc | apply pw_below_drewN | apply below_drew1 | refine below_set ?_ GE119.out) | exact HB.out))); rintro e w10 ⟨rfl, hb⟩; refine ⟨_, rfl, ?_⟩; have n0_ := Aside0.mk (blk_below (g := gb119) (o := .cells #[.slice A0_0 l0_0.length c0_0, .slice A0_1 l0_1.length c0_1, .int .i64 a0_2, .int .i64 a0_3, .int .i64 a0_4] 25 (0, 0)) (by (with_reducible repeat (first | refine blk_drewN ?_ _ | refine blk_drew ?_ | refine blk_alloc ?_ _)); exact BK119.out) hb); have n1_ := Aside0.mk (below_step (by repeat (first | (with_reducible first | exact HB.out | apply below_alloc | apply pw_below_drewN | apply below_drew1 | refine below_set ?_ GE119.out) | exact HB.out)) hb); clear BK119; clear HB; have BK119 := n0_; have HB := n1_; clear n0_ n1_; (try clear hb); (try clear hb2); (try clear hk); (try clear hi); have hcz11_0 : w10.cell? ⟨gb119, 0, none⟩ = some (.slice A0_0 l0_0.length c0_0) := (blk_cell BK119.out 0).trans rfl; have hcz11_1 : w10.cell? ⟨gb119, 1, none⟩ = some (.slice A0_1 l0_1.length c0_1) := (blk_cell BK119.out 1).trans rfl; have hcz11_2 : w10.cell? ⟨gb119, 2, none⟩ = some (.int .i64 a0_2) := (blk_cell BK119.out 2).trans rfl; have hcz11_3 : w10.cell? ⟨gb119, 3, none⟩ = some (.int .i64 a0_3) := (blk_cell BK119.out 3).trans rfl; have hcz11_4 : w10.cell? ⟨gb119, 4, none⟩ = some (.int .i64 a0_4) := (blk_cell BK119.out 4).trans rfl; have hfz11_0 := blk_frozen BK119.out 0; have hfz11_1 := blk_frozen BK119.out 1; have hfz11_2 := blk_frozen BK119.out 2; have hfz11_3 := blk_frozen BK119.out 3; have hfz11_4 := blk_frozen BK119.out 4) | (go_at_call 49; (with_reducible refine (lamp_May.calls _ _ l1 t121 _ ?side1 ?side2 A8.out).mono ?_); (case side1 => repeat (first | exact (Kd.C_below HR1.out HB.out) | (with_reducible refine Kd.C_alloc ?_ _) | (with_reducible refine Kd.C_drewN ?_ _) | (with_reducible refine Kd.C_drew ?_))); (case side2 => exact HC1.out); rintro e w12 ⟨rfl, hb⟩; have n0_ := Aside0.mk (blk_below (g := gb119) (o := .cells #[.slice A0_0 l0_0.length c0_0, .slice A0_1 l0_1.length c0_1, .int .i64 a0_2, .int .i64 a0_3, .int .i64 a0_4] 25 (0, 0)) (by (with_reducible repeat (first | refine blk_drewN ?_ _ | refine blk_drew ?_ | refine blk_alloc ?_ _)); exact BK119.out) hb); have n1_ := Aside0.mk (below_step (by repeat (first | (with_reducible first | exact HB.out | apply below_alloc | apply pw_below_drewN | apply below_drew1 | refine below_set ?_ GE119.out) | exact HB.out)) hb); clear BK119; clear HB; have BK119 := n0_; have HB := n1_; clear n0_ n1_; (try clear hb); (try clear hb2); (try clear hk); (try clear hi)))
        go_meet
        case rel => exact ⟨_, (!t121), (by first | rfl | (simp; done) | (simp [*]; done)), H', ⟨by first | omega | exact Nat.le_refl _⟩, ⟨by (with_reducible repeat (first | refine blk_drewN ?_ _ | refine blk_drew ?_ | refine blk_alloc ?_ _)); exact BK119.out⟩, ⟨by repeat (first | (with_reducible first | exact HB.out | apply below_alloc | apply pw_below_drewN | apply below_drew1 | refine below_set ?_ GE119.out) | exact HB.out)⟩⟩
      · rw [if_neg c7] at H
        have c7b0 : ((l1.length : Int) == (l0_0.length : Int)) = false := beq_eq_false_iff_ne.mpr c7
        have c7b1 : ((l1.length : Int) != (l0_0.length : Int)) = true := bne_iff_ne.mpr c7
        have c7b2 : (l1.length == l0_0.length) = false := by first | simpa using c7 | (simp at c7 ⊢; omega)
        (first | rw [c7b0] | (simp only [i64_w, i32_w]; rw [c7b0]) | skip)
        have H' := Aside0.mk H
        clear H
        have hcz13_0 : w4.cell? ⟨gb119, 0, none⟩ = some (.slice A0_0 l0_0.length c0_0) := (blk_cell BK119.out 0).trans rfl
        have hcz13_1 : w4.cell? ⟨gb119, 1, none⟩ = some (.slice A0_1 l0_1.length c0_1) := (blk_cell BK119.out 1).trans rfl
        have hcz13_2 : w4.cell? ⟨gb119, 2, none⟩ = some (.int .i64 a0_2) := (blk_cell BK119.out 2).trans rfl
        have hcz13_3 : w4.cell? ⟨gb119, 3, none⟩ = some (.int .i64 a0_3) := (blk_cell BK119.out 3).trans rfl
        have hcz13_4 : w4.cell? ⟨gb119, 4, none⟩ = some (.int .i64 a0_4) := (blk_cell BK119.out 4).trans rfl
        have hfz13_0 := blk_frozen BK119.out 0
        have hfz13_1 := blk_frozen BK119.out 1
        have hfz13_2 := blk_frozen BK119.out 2
        have hfz13_3 := blk_frozen BK119.out 3
        have hfz13_4 := blk_frozen BK119.out 4
        go_wp2_with (first | ((with_reducible refine gate_callee (f := 25) rfl ?_); refine goesL_ (some 9) rfl rfl Tryd.func25 (by kernel_rfl) rfl #[.agg #[.slice A0_0 l0_0.length c0_0, .slice A0_1 l0_1.length c0_1, .int .i64 a0_2, .int .i64 a0_3, .int .i64 a0_4]] rfl (by (try simp only [List.map_toArray, List.map_cons, List.map_nil]); first | done | rfl | (simp only [List.length_drop, List.length_take]; rfl)) ?_; (with_reducible refine (plan_Fit.calls k _ _ l0_0 _ _ l0_1 a0_2 a0_3 a0_4 true _ ?side1 ?side2 ?side3 ?side4 ?side5 A5.out).mono ?_); (case side1 => repeat (first | exact (Kd.C_below HR0_0.out HB.out) | (with_reducible refine Kd.C_alloc ?_ _) | (with_reducible refine Kd.C_drewN ?_ _) | (with_reducible refine Kd.C_drew ?_))); (case side2 => exact HC0_0.out); (case side3 => repeat (first | exact (Kd.C_below HR0_1.out HB.out) | (with_reducible refine Kd.C_alloc ?_ _) | (with_reducible refine Kd.C_drewN ?_ _) | (with_reducible refine Kd.C_drew ?_))); (case side4 => exact HC0_1.out); (case side5 => first | (with_reducible exact HG.out) | (refine GlobOk.below HG.out ?_; repeat (first | (with_reducible first | exact HB.out | apply below_alloc | apply pw_below_drewN | apply below_drew1 | refine below_set ?_ GE119.out) | exact HB.out))); rintro e w14 ⟨rfl, hb⟩; refine ⟨_, rfl, ?_⟩; have n0_ := Aside0.mk (blk_below (g := gb119) (o := .cells #[.slice A0_0 l0_0.length c0_0, .slice A0_1 l0_1.length c0_1, .int .i64 a0_2, .int .i64 a0_3, .int .i64 a0_4] 25 (0, 0)) (by (with_reducible repeat (first | refine blk_drewN ?_ _ | refine blk_drew ?_ | refine blk_alloc ?_ _)); exact BK119.out) hb); have n1_ := Aside0.mk (below_step (by repeat (first | (with_reducible first | exact HB.out | apply below_alloc | apply pw_below_drewN | apply below_drew1 | refine below_set ?_ GE119.out) | exact HB.out)) hb); clear BK119; clear HB; have BK119 := n0_; have HB := n1_; clear n0_ n1_; (try clear hb); (try clear hb2); (try clear hk); (try clear hi); have hcz15_0 : w14.cell? ⟨gb119, 0, none⟩ = some (.slice A0_0 l0_0.length c0_0) := (blk_cell BK119.out 0).trans rfl; have hcz15_1 : w14.cell? ⟨gb119, 1, none⟩ = some (.slice A0_1 l0_1.length c0_1) := (blk_cell BK119.out 1).trans rfl; have hcz15_2 : w14.cell? ⟨gb119, 2, none⟩ = some (.int .i64 a0_2) := (blk_cell BK119.out 2).trans rfl; have hcz15_3 : w14.cell? ⟨gb119, 3, none⟩ = some (.int .i64 a0_3) := (blk_cell BK119.out 3).trans rfl; have hcz15_4 : w14.cell? ⟨gb119, 4, none⟩ = some (.int .i64 a0_4) := (blk_cell BK119.out 4).trans rfl; have hfz15_0 := blk_frozen BK119.out 0; have hfz15_1 := blk_frozen BK119.out 1; have hfz15_2 := blk_frozen BK119.out 2; have hfz15_3 := blk_frozen BK119.out 3; have hfz15_4 := blk_frozen BK119.out 4))
        go_meet
        case rel => exact ⟨_, (true), (by first | rfl | (simp; done) | (simp [*]; done)), H', ⟨by first | omega | exact Nat.le_refl _⟩, ⟨by (with_reducible repeat (first | refine blk_drewN ?_ _ | refine blk_drew ?_ | refine blk_alloc ?_ _)); exact BK119.out⟩, ⟨by repeat (first | (with_reducible first | exact HB.out | apply below_alloc | apply pw_below_drewN | apply below_drew1 | refine below_set ?_ GE119.out) | exact HB.out)⟩⟩
    · replace c6 := Bool.eq_false_iff.mpr c6
      subst c6
      have H1 : (lamp_Clash.j0 k l1 true l0_0 l0_1 a0_2 a0_3 a0_4) = some r := by rw [if_neg (show ¬ (false = true) by decide)] at H; exact H
      clear H
      have H := H1
      clear H1
      have H' := Aside0.mk H
      clear H
      have hcz16_0 : w4.cell? ⟨gb119, 0, none⟩ = some (.slice A0_0 l0_0.length c0_0) := (blk_cell BK119.out 0).trans rfl
      have hcz16_1 : w4.cell? ⟨gb119, 1, none⟩ = some (.slice A0_1 l0_1.length c0_1) := (blk_cell BK119.out 1).trans rfl
      have hcz16_2 : w4.cell? ⟨gb119, 2, none⟩ = some (.int .i64 a0_2) := (blk_cell BK119.out 2).trans rfl
      have hcz16_3 : w4.cell? ⟨gb119, 3, none⟩ = some (.int .i64 a0_3) := (blk_cell BK119.out 3).trans rfl
      have hcz16_4 : w4.cell? ⟨gb119, 4, none⟩ = some (.int .i64 a0_4) := (blk_cell BK119.out 4).trans rfl
      have hfz16_0 := blk_frozen BK119.out 0
      have hfz16_1 := blk_frozen BK119.out 1
      have hfz16_2 := blk_frozen BK119.out 2
      have hfz16_3 := blk_frozen BK119.out 3
      have hfz16_4 := blk_frozen BK119.out 4
      go_wp2_with (first | ((with_reducible refine gate_callee (f := 25) rfl ?_); refine goesL_ (some 9) rfl rfl Tryd.func25 (by kernel_rfl) rfl #[.agg #[.slice A0_0 l0_0.length c0_0, .slice A0_1 l0_1.length c0_1, .int .i64 a0_2, .int .i64 a0_3, .int .i64 a0_4]] rfl (by (try simp only [List.map_toArray, List.map_cons, List.map_nil]); first | done | rfl | (simp only [List.length_drop, List.length_take]; rfl)) ?_; (with_reducible refine (plan_Fit.calls k _ _ l0_0 _ _ l0_1 a0_2 a0_3 a0_4 false _ ?side1 ?side2 ?side3 ?side4 ?side5 A5.out).mono ?_); (case side1 => repeat (first | exact (Kd.C_below HR0_0.out HB.out) | (with_reducible refine Kd.C_alloc ?_ _) | (with_reducible refine Kd.C_drewN ?_ _) | (with_reducible refine Kd.C_drew ?_))); (case side2 => exact HC0_0.out); (case side3 => repeat (first | exact (Kd.C_below HR0_1.out HB.out) | (with_reducible refine Kd.C_alloc ?_ _) | (with_reducible refine Kd.C_drewN ?_ _) | (with_reducible refine Kd.C_drew ?_))); (case side4 => exact HC0_1.out); (case side5 => first | (with_reducible exact HG.out) | (refine GlobOk.below HG.out ?_; repeat (first | (with_reducible first | exact HB.out | apply below_alloc | apply pw_below_drewN | apply below_drew1 | refine below_set ?_ GE119.out) | exact HB.out))); rintro e w17 ⟨rfl, hb⟩; refine ⟨_, rfl, ?_⟩; have n0_ := Aside0.mk (blk_below (g := gb119) (o := .cells #[.slice A0_0 l0_0.length c0_0, .slice A0_1 l0_1.length c0_1, .int .i64 a0_2, .int .i64 a0_3, .int .i64 a0_4] 25 (0, 0)) (by (with_reducible repeat (first | refine blk_drewN ?_ _ | refine blk_drew ?_ | refine blk_alloc ?_ _)); exact BK119.out) hb); have n1_ := Aside0.mk (below_step (by repeat (first | (with_reducible first | exact HB.out | apply below_alloc | apply pw_below_drewN | apply below_drew1 | refine below_set ?_ GE119.out) | exact HB.out)) hb); clear BK119; clear HB; have BK119 := n0_; have HB := n1_; clear n0_ n1_; (try clear hb); (try clear hb2); (try clear hk); (try clear hi)))
      go_meet
      case rel => exact ⟨_, (true), (by first | rfl | (simp; done) | (simp [*]; done)), H', ⟨by first | omega | exact Nat.le_refl _⟩, ⟨by (with_reducible repeat (first | refine blk_drewN ?_ _ | refine blk_drew ?_ | refine blk_alloc ?_ _)); exact BK119.out⟩, ⟨by repeat (first | (with_reducible first | exact HB.out | apply below_alloc | apply pw_below_drewN | apply below_drew1 | refine below_set ?_ GE119.out) | exact HB.out)⟩⟩
  case rest =>
    clear HC3
    try clear c1
    try clear c2
    try clear p2
    try clear c6
    try clear c7
    try clear c7b0
    try clear c7b1
    try clear c7b2
    try clear hcz11_0
    try clear hcz11_1
    try clear hcz11_2
    try clear hcz11_3
    try clear hcz11_4
    try clear hcz13_0
    try clear hcz13_1
    try clear hcz13_2
    try clear hcz13_3
    try clear hcz13_4
    try clear hcz15_0
    try clear hcz15_1
    try clear hcz15_2
    try clear hcz15_3
    try clear hcz15_4
    try clear hcz16_0
    try clear hcz16_1
    try clear hcz16_2
    try clear hcz16_3
    try clear hcz16_4
    try clear hcz9_0
    try clear hcz9_1
    try clear hcz9_2
    try clear hcz9_3
    try clear hcz9_4
    try clear hfz11_0
    try clear hfz11_1
    try clear hfz11_2
    try clear hfz11_3
    try clear hfz11_4
    try clear hfz13_0
    try clear hfz13_1
    try clear hfz13_2
    try clear hfz13_3
    try clear hfz13_4
    try clear hfz15_0
    try clear hfz15_1
    try clear hfz15_2
    try clear hfz15_3
    try clear hfz15_4
    try clear hfz16_0
    try clear hfz16_1
    try clear hfz16_2
    try clear hfz16_3
    try clear hfz16_4
    try clear hfz9_0
    try clear hfz9_1
    try clear hfz9_2
    try clear hfz9_3
    try clear hfz9_4
    obtain ⟨kq, x23_2, rfl, HA, HJ2, BK119, HB⟩ := hcut
    cases kq with
    | zero => exact absurd HA.out (by simp [lamp_Clash.j0])
    | succ kj2 =>
      have H := HA.out
      clear HA
      simp only [lamp_Clash.j0] at H
      by_cases c18 : x23_2 = true
      · subst c18
        have H1 : (some false) = some r := by rw [if_pos rfl] at H; exact H
        clear H
        have H := H1
        clear H1
        obtain rfl := Option.some.inj H
        go_wp2
        go_ret
        exact ⟨by first | rfl | (simp [errW_none, errW_some] <;> rfl) | (simp [*, errW_none, errW_some] <;> rfl), by repeat (first | (with_reducible first | exact HB.out | apply below_alloc | apply pw_below_drewN | apply below_drew1 | refine below_set ?_ GE119.out) | exact HB.out)⟩
      · replace c18 := Bool.eq_false_iff.mpr c18
        subst c18
        have H1 : (lamp_Clash.l0 kj2 0 l1 (l1.length : Int) 0 l0_0 l0_1 a0_2 a0_3 a0_4) = some r := by rw [if_neg (show ¬ (false = true) by decide)] at H; exact H
        clear H
        have H := H1
        clear H1
        have H' := Aside0.mk H
        clear H
        go_wp2
        go_loopg [5, 26] kj2 (fun kq v5 v26 w' => ∃ (x5_2 : Int) (x26_2 : Int), v5 = .int .i64 x5_2 ∧ v26 = .int .i64 x26_2 ∧ Aside0 (lamp_Clash.l0 kq x5_2 l1 (l1.length : Int) x26_2 l0_0 l0_1 a0_2 a0_3 a0_4 = some r) ∧ Aside0 (kq ≤ kj2) ∧ Aside0 (w'.heap[gb119]? = some (.cells #[(.slice A0_0 l0_0.length c0_0), (.slice A0_1 l0_1.length c0_1), .int .i64 a0_2, .int .i64 a0_3, .int .i64 a0_4] 25 (0, 0))) ∧ Aside0 (Below w.heap.size w w'))
        case atStart => exact ⟨(0), (0), (by first | rfl | (simp; done) | (simp [*]; done)), (by first | rfl | (simp; done) | (simp [*]; done)), H', ⟨Nat.le_refl _⟩, ⟨by (with_reducible repeat (first | refine blk_drewN ?_ _ | refine blk_drew ?_ | refine blk_alloc ?_ _)); exact BK119.out⟩, ⟨by repeat (first | (with_reducible first | exact HB.out | apply below_alloc | apply pw_below_drewN | apply below_drew1 | refine below_set ?_ GE119.out) | exact HB.out)⟩⟩
        case round =>
          clear H'
          try clear c1
          try clear c2
          try clear p2
          try clear c6
          try clear c7
          try clear c7b0
          try clear c7b1
          try clear c7b2
          try clear c18
          try clear hcz11_0
          try clear hcz11_1
          try clear hcz11_2
          try clear hcz11_3
          try clear hcz11_4
          try clear hcz13_0
          try clear hcz13_1
          try clear hcz13_2
          try clear hcz13_3
          try clear hcz13_4
          try clear hcz15_0
          try clear hcz15_1
          try clear hcz15_2
          try clear hcz15_3
          try clear hcz15_4
          try clear hcz16_0
          try clear hcz16_1
          try clear hcz16_2
          try clear hcz16_3
          try clear hcz16_4
          try clear hcz9_0
          try clear hcz9_1
          try clear hcz9_2
          try clear hcz9_3
          try clear hcz9_4
          try clear hfz11_0
          try clear hfz11_1
          try clear hfz11_2
          try clear hfz11_3
          try clear hfz11_4
          try clear hfz13_0
          try clear hfz13_1
          try clear hfz13_2
          try clear hfz13_3
          try clear hfz13_4
          try clear hfz15_0
          try clear hfz15_1
          try clear hfz15_2
          try clear hfz15_3
          try clear hfz15_4
          try clear hfz16_0
          try clear hfz16_1
          try clear hfz16_2
          try clear hfz16_3
          try clear hfz16_4
          try clear hfz9_0
          try clear hfz9_1
          try clear hfz9_2
          try clear hfz9_3
          try clear hfz9_4
          try clear p2
          obtain ⟨x5_2, x26_2, rfl, rfl, HA, HK2, BK119, HB⟩ := hrel
          cases gk with
          | zero => exact absurd HA.out (by simp [lamp_Clash.l0])
          | succ k2 =>
            have H := HA.out
            clear HA
            simp only [lamp_Clash.l0] at H
            by_cases c19 : x26_2 < (l1.length : Int)
            · rw [if_pos c19] at H
              have c19b0 : decide (x26_2 < (l1.length : Int)) = true := decide_eq_true c19
              clear c19
              by_cases c20 : 0 ≤ x26_2
              · rw [if_pos c20] at H
                have c20b0 : decide (0 ≤ x26_2) = true := decide_eq_true c20
                clear c20
                by_cases c21 : x26_2 < (l1.length : Int)
                · rw [if_pos c21] at H
                  have c21b0 : decide (x26_2 < (l1.length : Int)) = true := decide_eq_true c21
                  clear c21
                  by_cases c22 : (rd l1 x26_2) = 0
                  · rw [if_pos c22] at H
                    have c22b0 : ((rd l1 x26_2) == 0) = true := beq_iff_eq.mpr c22
                    have c22b1 : ((rd l1 x26_2) != 0) = false := bne_eq_false_iff_eq.mpr c22
                    clear c22
                    have H' := Aside0.mk H
                    clear H
                    have p122 : 0 ≤ (x26_2 : Int) := of_decide_eq_true (by first | (with_reducible assumption) | assumption)
                    have q122 : x26_2 < (l1.length : Int) := of_decide_eq_true (by first | (with_reducible assumption) | assumption)
                    obtain ⟨ad122, e122, hx122_0⟩ := Kd.at_int HR1.out x26_2 p122 q122
                    cases e122
                    replace hx122_0 := (HB.out.cell (World.block_lt_of_cell? w _ hx122_0)).trans hx122_0
                    replace p122 := eq_true p122
                    replace q122 := eq_true q122
                    go_wp2
                    go_roundg k2
                    case measure => have := HJ2.out; have := HK2.out; omega
                    case rel => exact ⟨(x5_2), (wrap64 (x26_2 + 1)), (by first | rfl | (simp; done) | (simp [*]; done)), (by first | rfl | (simp; done) | (simp [*]; done)), H', ⟨by have := HJ2.out; have := HK2.out; omega⟩, ⟨by (with_reducible repeat (first | refine blk_drewN ?_ _ | refine blk_drew ?_ | refine blk_alloc ?_ _)); exact BK119.out⟩, ⟨by repeat (first | (with_reducible first | exact HB.out | apply below_alloc | apply pw_below_drewN | apply below_drew1 | refine below_set ?_ GE119.out) | exact HB.out)⟩⟩
                  · rw [if_neg c22] at H
                    have c22b0 : ((rd l1 x26_2) == 0) = false := beq_eq_false_iff_ne.mpr c22
                    have c22b1 : ((rd l1 x26_2) != 0) = true := bne_iff_ne.mpr c22
                    have c23b0 := eq_true (of_decide_eq_true (by first | (with_reducible assumption) | assumption) : 0 ≤ x26_2)
                    obtain ⟨ji24, hji24⟩ : ∃ j_ : Int, (shl .i64 1 x26_2) = j_ := ⟨_, rfl⟩
                    replace H : (lamp_Clash.l0 k2 (Go.bits .or .i64 x5_2 (ji24)) l1 (l1.length : Int) (wrap64 (x26_2 + 1)) l0_0 l0_1 a0_2 a0_3 a0_4) = some r := by first | (rw [hji24] at H; exact H) | (simp only [hji24] at H ⊢; exact H)
                    have hji24_ : (IntKind.i64.wrap (1 * 2 ^ min x26_2.toNat 64)) = ji24 := hji24
                    have hji24z : x26_2 ≤ 64 → (IntKind.i64.wrap (1 * 2 ^ x26_2.toNat)) = ji24 := shl_small hji24
                    have hji24u : (IntKind.i64.wrap (2 ^ min x26_2.toNat 64)) = ji24 := by have h_ := hji24_; rw [Int.one_mul] at h_; exact h_
                    have hji24v : x26_2 ≤ 64 → (IntKind.i64.wrap (2 ^ x26_2.toNat)) = ji24 := fun hle_ => by have h_ := hji24z hle_; rw [Int.one_mul] at h_; exact h_
                    have hji24y : (wrap64 (1 * 2 ^ min x26_2.toNat 64)) = ji24 := (i64_w _).symm.trans hji24_
                    have hji24x : x26_2 ≤ 64 → (wrap64 (1 * 2 ^ x26_2.toNat)) = ji24 := fun h_ => (i64_w _).symm.trans (hji24z h_)
                    have H' := Aside0.mk H
                    clear H
                    have p122 : 0 ≤ (x26_2 : Int) := of_decide_eq_true (by first | (with_reducible assumption) | assumption)
                    have q122 : x26_2 < (l1.length : Int) := of_decide_eq_true (by first | (with_reducible assumption) | assumption)
                    obtain ⟨ad122, e122, hx122_0⟩ := Kd.at_int HR1.out x26_2 p122 q122
                    cases e122
                    replace hx122_0 := (HB.out.cell (World.block_lt_of_cell? w _ hx122_0)).trans hx122_0
                    replace p122 := eq_true p122
                    replace q122 := eq_true q122
                    go_wp2
                    go_roundg k2
                    case measure => have := HJ2.out; have := HK2.out; omega
                    case rel => exact ⟨(Go.bits .or .i64 x5_2 (ji24)), (wrap64 (x26_2 + 1)), (by first | rfl | (simp; done) | (simp only [← hji24] <;> (first | rfl | simp)) | (simp [*]; done)), (by first | rfl | (simp; done) | (simp [*]; done)), H', ⟨by have := HJ2.out; have := HK2.out; omega⟩, ⟨by (with_reducible repeat (first | refine blk_drewN ?_ _ | refine blk_drew ?_ | refine blk_alloc ?_ _)); exact BK119.out⟩, ⟨by repeat (first | (with_reducible first | exact HB.out | apply below_alloc | apply pw_below_drewN | apply below_drew1 | refine below_set ?_ GE119.out) | exact HB.out)⟩⟩
                · rw [if_neg c21] at H
                  exact absurd H (by simp)
              · rw [if_neg c20] at H
                exact absurd H (by simp)
            · rw [if_neg c19] at H
              have c19b0 : decide (x26_2 < (l1.length : Int)) = false := decide_eq_false c19
              clear c19
              replace H := Option.bind_eq_some_iff.mp H
              obtain ⟨t123, A250, H⟩ := H
              replace H : (some (!t123)) = some r := H
              have A25 := Aside0.mk A250
              clear A250
              obtain rfl := Option.some.inj H
              have hcz26_0 : wr.cell? ⟨gb119, 0, none⟩ = some (.slice A0_0 l0_0.length c0_0) := (blk_cell BK119.out 0).trans rfl
              have hcz26_1 : wr.cell? ⟨gb119, 1, none⟩ = some (.slice A0_1 l0_1.length c0_1) := (blk_cell BK119.out 1).trans rfl
              have hcz26_2 : wr.cell? ⟨gb119, 2, none⟩ = some (.int .i64 a0_2) := (blk_cell BK119.out 2).trans rfl
              have hcz26_3 : wr.cell? ⟨gb119, 3, none⟩ = some (.int .i64 a0_3) := (blk_cell BK119.out 3).trans rfl
              have hcz26_4 : wr.cell? ⟨gb119, 4, none⟩ = some (.int .i64 a0_4) := (blk_cell BK119.out 4).trans rfl
              have hfz26_0 := blk_frozen BK119.out 0
              have hfz26_1 := blk_frozen BK119.out 1
              have hfz26_2 := blk_frozen BK119.out 2
              have hfz26_3 := blk_frozen BK119.out 3
              have hfz26_4 := blk_frozen BK119.out 4
              go_wp2_with (first | ((with_reducible refine gate_callee (f := 58) rfl ?_); refine goesL_ (some 41) rfl rfl Tryd.func58 (by kernel_rfl) rfl #[.slice A0_0 l0_0.length c0_0, .int .i64 x5_2] rfl (by (try simp only [List.map_toArray, List.map_cons, List.map_nil]); first | done | rfl | (simp only [List.length_drop, List.length_take]; rfl)) ?_; (with_reducible refine (group_Free.calls _ _ l0_0 x5_2 t123 _ ?side1 ?side2 ?side3 A25.out).mono ?_); (case side1 => repeat (first | exact (Kd.C_below HR0_0.out HB.out) | (with_reducible refine Kd.C_alloc ?_ _) | (with_reducible refine Kd.C_drewN ?_ _) | (with_reducible refine Kd.C_drew ?_))); (case side2 => exact HC0_0.out); (case side3 => first | (with_reducible exact HG.out) | (refine GlobOk.below HG.out ?_; repeat (first | (with_reducible first | exact HB.out | apply below_alloc | apply pw_below_drewN | apply below_drew1 | refine below_set ?_ GE119.out) | exact HB.out))); rintro e w27 ⟨rfl, hb⟩; refine ⟨_, rfl, ?_⟩; have n0_ := Aside0.mk (blk_below (g := gb119) (o := .cells #[.slice A0_0 l0_0.length c0_0, .slice A0_1 l0_1.length c0_1, .int .i64 a0_2, .int .i64 a0_3, .int .i64 a0_4] 25 (0, 0)) (by (with_reducible repeat (first | refine blk_drewN ?_ _ | refine blk_drew ?_ | refine blk_alloc ?_ _)); exact BK119.out) hb); have n1_ := Aside0.mk (below_step (by repeat (first | (with_reducible first | exact HB.out | apply below_alloc | apply pw_below_drewN | apply below_drew1 | refine below_set ?_ GE119.out) | exact HB.out)) hb); clear BK119; clear HB; have BK119 := n0_; have HB := n1_; clear n0_ n1_; (try clear hb); (try clear hb2); (try clear hk); (try clear hi)))
              go_ret
              exact ⟨by first | rfl | (simp [errW_none, errW_some] <;> rfl) | (simp [*, errW_none, errW_some] <;> rfl), by repeat (first | (with_reducible first | exact HB.out | apply below_alloc | apply pw_below_drewN | apply below_drew1 | refine below_set ?_ GE119.out) | exact HB.out)⟩
-- NOT PRINTED: function 21 (trace_Check)
-- NOT PRINTED: function 23 (trace_Clear)
/-! ### pelicanlaw14_Two: function 44 -/
-- NOT PRINTED: function 15 (pelicanlaw23_awake)
/-! ### pelicanlaw14_Few: function 16 -/
set_option maxHeartbeats 8000000 in
set_option maxRecDepth 100000 in
theorem pelicanlaw14_Few.calls (A0_0 : Option Addr) (c0_0 : Nat) (l0_0 : List Int) (A0_1 : Option Addr) (c0_1 : Nat) (l0_1 : List (S87)) (a0_2 : Int) (a0_3 : Int) (a0_4 : Int) (r : Bool) (w : World) (hr0_0 : Kd.C (Kd.int .i64) w A0_0 l0_0.length l0_0) (hc0_0 : l0_0.length ≤ c0_0) (hr0_1 : Kd.C k87 w A0_1 l0_1.length l0_1) (hc0_1 : l0_1.length ≤ c0_1) (h : pelicanlaw14_Few.f l0_0 l0_1 a0_2 a0_3 a0_4 = some r) :
    Calls Tryd.prog 16 #[.agg #[.slice A0_0 l0_0.length c0_0, .slice A0_1 l0_1.length c0_1, .int .i64 a0_2, .int .i64 a0_3, .int .i64 a0_4]] w fun e w' => e = .returned (.bool r) ∧ Below w.heap.size w w' := by
  have hu25 := Tryd.underlying25
  have HR0_0 := Aside0.mk hr0_0
  have HC0_0 := Aside0.mk hc0_0
  clear hr0_0 hc0_0
  have HR0_1 := Aside0.mk hr0_1
  have HC0_1 := Aside0.mk hc0_1
  clear hr0_1 hc0_1
  have HB := Aside0.mk (Below.refl w.heap.size w)
  have H : (if (l0_0.length : Int) ≤ 10 then (some (decide ((l0_1.length : Int) ≤ 10))) else (some false)) = some r := h
  clear h
  by_cases c2 : (l0_0.length : Int) ≤ 10
  · rw [if_pos c2] at H
    have c2b0 : decide ((l0_0.length : Int) ≤ 10) = true := decide_eq_true c2
    have c2b1 : decide (l0_0.length ≤ 10) = true := decide_eq_true (by omega)
    clear c2
    obtain rfl := Option.some.inj H
    go_enter Tryd.func16, Tryd.ntmps16
    go_wp2_with (first | ((with_reducible refine gate_dst (N := 1) rfl ?_); (try (refine gate_guard (by rfl) ?_; dsimp only)); refine box_event ?hg (N := 1) ?hd (cs := #[.slice A0_0 l0_0.length c0_0, .slice A0_1 l0_1.length c0_1, .int .i64 a0_2, .int .i64 a0_3, .int .i64 a0_4]) (t := 25) ?hr ?_; (case hd => rfl); (case hg => rfl); (case hr => first | (go_simp; done) | (go_simp; rfl)); intro gb155 hg w3 hbox hb; have n0_ := Aside0.mk (below_step (by repeat (first | (with_reducible first | exact HB.out | apply below_alloc | apply pw_below_drewN | apply below_drew1) | exact HB.out)) hb); have n1_ := Aside0.mk (hbox); have n2_ := Aside0.mk ((by rw [hg]; exact (below_size (by repeat (first | (with_reducible first | exact HB.out | apply below_alloc | apply pw_below_drewN | apply below_drew1) | exact HB.out))) : w.heap.size ≤ gb155)); have n3_ := Aside0.mk ((by rw [hg]; exact (below_size (by repeat (first | (with_reducible first | exact HB.out | apply below_alloc | apply pw_below_drewN | apply below_drew1) | exact HB.out))) : w.heap.size ≤ gb155)); clear HB; have HB := n0_; have BK155 := n1_; have GW155 := n2_; have GE155 := n3_; clear n0_ n1_ n2_ n3_; clear hb hbox hg; have hcz4_0 : w3.cell? ⟨gb155, 0, none⟩ = some (.slice A0_0 l0_0.length c0_0) := (blk_cell BK155.out 0).trans rfl; have hcz4_1 : w3.cell? ⟨gb155, 1, none⟩ = some (.slice A0_1 l0_1.length c0_1) := (blk_cell BK155.out 1).trans rfl; have hcz4_2 : w3.cell? ⟨gb155, 2, none⟩ = some (.int .i64 a0_2) := (blk_cell BK155.out 2).trans rfl; have hcz4_3 : w3.cell? ⟨gb155, 3, none⟩ = some (.int .i64 a0_3) := (blk_cell BK155.out 3).trans rfl; have hcz4_4 : w3.cell? ⟨gb155, 4, none⟩ = some (.int .i64 a0_4) := (blk_cell BK155.out 4).trans rfl; have hfz4_0 := blk_frozen BK155.out 0; have hfz4_1 := blk_frozen BK155.out 1; have hfz4_2 := blk_frozen BK155.out 2; have hfz4_3 := blk_frozen BK155.out 3; have hfz4_4 := blk_frozen BK155.out 4))
    go_ret
    exact ⟨by first | rfl | (simp [errW_none, errW_some] <;> rfl) | (simp [*, errW_none, errW_some] <;> rfl), by repeat (first | (with_reducible first | exact HB.out | apply below_alloc | apply pw_below_drewN | apply below_drew1 | refine below_set ?_ GE155.out) | exact HB.out)⟩
  · rw [if_neg c2] at H
    have c2b0 : decide ((l0_0.length : Int) ≤ 10) = false := decide_eq_false c2
    have c2b1 : decide (l0_0.length ≤ 10) = false := decide_eq_false (by omega)
    clear c2
    obtain rfl := Option.some.inj H
    go_enter Tryd.func16, Tryd.ntmps16
    go_wp2_with (first | ((with_reducible refine gate_dst (N := 1) rfl ?_); (try (refine gate_guard (by rfl) ?_; dsimp only)); refine box_event ?hg (N := 1) ?hd (cs := #[.slice A0_0 l0_0.length c0_0, .slice A0_1 l0_1.length c0_1, .int .i64 a0_2, .int .i64 a0_3, .int .i64 a0_4]) (t := 25) ?hr ?_; (case hd => rfl); (case hg => rfl); (case hr => first | (go_simp; done) | (go_simp; rfl)); intro gb155 hg w5 hbox hb; have n0_ := Aside0.mk (below_step (by repeat (first | (with_reducible first | exact HB.out | apply below_alloc | apply pw_below_drewN | apply below_drew1) | exact HB.out)) hb); have n1_ := Aside0.mk (hbox); have n2_ := Aside0.mk ((by rw [hg]; exact (below_size (by repeat (first | (with_reducible first | exact HB.out | apply below_alloc | apply pw_below_drewN | apply below_drew1) | exact HB.out))) : w.heap.size ≤ gb155)); have n3_ := Aside0.mk ((by rw [hg]; exact (below_size (by repeat (first | (with_reducible first | exact HB.out | apply below_alloc | apply pw_below_drewN | apply below_drew1) | exact HB.out))) : w.heap.size ≤ gb155)); clear HB; have HB := n0_; have BK155 := n1_; have GW155 := n2_; have GE155 := n3_; clear n0_ n1_ n2_ n3_; clear hb hbox hg; have hcz6_0 : w5.cell? ⟨gb155, 0, none⟩ = some (.slice A0_0 l0_0.length c0_0) := (blk_cell BK155.out 0).trans rfl; have hcz6_1 : w5.cell? ⟨gb155, 1, none⟩ = some (.slice A0_1 l0_1.length c0_1) := (blk_cell BK155.out 1).trans rfl; have hcz6_2 : w5.cell? ⟨gb155, 2, none⟩ = some (.int .i64 a0_2) := (blk_cell BK155.out 2).trans rfl; have hcz6_3 : w5.cell? ⟨gb155, 3, none⟩ = some (.int .i64 a0_3) := (blk_cell BK155.out 3).trans rfl; have hcz6_4 : w5.cell? ⟨gb155, 4, none⟩ = some (.int .i64 a0_4) := (blk_cell BK155.out 4).trans rfl; have hfz6_0 := blk_frozen BK155.out 0; have hfz6_1 := blk_frozen BK155.out 1; have hfz6_2 := blk_frozen BK155.out 2; have hfz6_3 := blk_frozen BK155.out 3; have hfz6_4 := blk_frozen BK155.out 4))
    go_ret
    exact ⟨by first | rfl | (simp [errW_none, errW_some] <;> rfl) | (simp [*, errW_none, errW_some] <;> rfl), by repeat (first | (with_reducible first | exact HB.out | apply below_alloc | apply pw_below_drewN | apply below_drew1 | refine below_set ?_ GE155.out) | exact HB.out)⟩
/-! ### pelicanlaw23_Few: function 17 -/
end Go.Proofs.YtpciieagafddcaaDoor.F
