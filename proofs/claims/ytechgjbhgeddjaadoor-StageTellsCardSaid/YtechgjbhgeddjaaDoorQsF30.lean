/- Woven by wip/weave/weave.py of this repo (own tool) out of the translation: the contracts of some functions. Lean checks it. -/
import Derived.Test.YtechgjbhgeddjaaDoorQsD
import Derived.Test.YtechgjbhgeddjaaDoorQsDR14
import Derived.Test.YtechgjbhgeddjaaDoorQsSp
import Derived.Test.YtechgjbhgeddjaaDoorQsF29
namespace Go.Proofs.YtechgjbhgeddjaaDoor.F
open Go.RowKit Go.Proofs.YtechgjbhgeddjaaDoorW.PrintWords Go.Proofs.YtechgjbhgeddjaaDoorW.PrintLast Go.Proofs.YtechgjbhgeddjaaDoorW.PrintMore
attribute [local go_sem] max2_int min2_int max_two min_two max_three min_three max_four min_four   -- for this text's walks alone
set_option linter.unusedVariables false
set_option linter.unusedSimpArgs false
/-! ### pelicanref14_All: function 43 -/
set_option maxHeartbeats 8000000 in
set_option maxRecDepth 100000 in
theorem pelicanref14_All.calls (k : Nat) (A0 : Option Addr) (c0 : Nat) (l0 : List (S39)) (r : Bool) (w : World) (hr0 : Kd.C k39 w A0 l0.length l0) (hc0 : l0.length ≤ c0) (h : pelicanref14_All.f k l0 = some r) :
    Calls Tryd.prog 43 #[.slice A0 l0.length c0] w fun e w' => e = .returned (.bool r) ∧ Below w.heap.size w w' := by
  have hu39 := Tryd.underlying39
  have HR0 := Aside0.mk hr0
  have HC0 := Aside0.mk hc0
  clear hr0 hc0
  have HB := Aside0.mk (Below.refl w.heap.size w)
  have H : (if (l0.length : Int) < 1 then (pelicanref14_All.j0 k l0 true) else (pelicanref14_All.j0 k l0 (decide ((l0.length : Int) > 3)))) = some r := h
  clear h
  have HC2 := Aside0.mk H
  clear H
  go_enter Tryd.func43, Tryd.ntmps43
  go_upto_region 1 with (fail)
  repeat (go_quiet (fail); go_upto_region 1 with (fail))
  go_cut [12] (fun v12 wc => ∃ (kq : Nat) (x12_1 : Bool), v12 = .bool x12_1 ∧ Aside0 (pelicanref14_All.j0 kq l0 x12_1 = some r) ∧ Aside0 (kq ≤ k) ∧ Aside0 (Below w.heap.size w wc))
  case first =>
    have H := HC2.out
    clear HC2
    by_cases c3 : (l0.length : Int) < 1
    · rw [if_pos c3] at H
      have c3b0 : decide ((l0.length : Int) < 1) = true := decide_eq_true c3
      have c3b1 : decide (l0.length < 1) = true := decide_eq_true (by omega)
      clear c3
      (first | rw [c3b0] | (simp only [i64_w, i32_w]; rw [c3b0]) | skip)
      have H' := Aside0.mk H
      clear H
      go_wp2
      repeat (go_quiet (fail); try go_wp2)
      go_meet
      case rel => exact ⟨_, (true), (by first | rfl | (simp; done) | (simp [*]; done)), H', ⟨by first | omega | exact Nat.le_refl _⟩, ⟨by repeat (first | (with_reducible first | exact HB.out | apply below_alloc | apply pw_below_drewN | apply below_drew1) | exact HB.out)⟩⟩
    · rw [if_neg c3] at H
      have c3b0 : decide ((l0.length : Int) < 1) = false := decide_eq_false c3
      have c3b1 : decide (l0.length < 1) = false := decide_eq_false (by omega)
      clear c3
      (first | rw [c3b0] | (simp only [i64_w, i32_w]; rw [c3b0]) | skip)
      have H' := Aside0.mk H
      clear H
      go_wp2
      repeat (go_quiet (fail); try go_wp2)
      go_meet
      case rel => exact ⟨_, (decide ((l0.length : Int) > 3)), (by first | rfl | (simp; done) | (simp [*]; done)), H', ⟨by first | omega | exact Nat.le_refl _⟩, ⟨by repeat (first | (with_reducible first | exact HB.out | apply below_alloc | apply pw_below_drewN | apply below_drew1) | exact HB.out)⟩⟩
  case rest =>
    clear HC2
    try clear p2
    try clear c3
    try clear c3b0
    try clear c3b1
    obtain ⟨kq, x12_1, rfl, HA, HJ1, HB⟩ := hcut
    cases kq with
    | zero => exact absurd HA.out (by simp [pelicanref14_All.j0])
    | succ kj1 =>
      have H := HA.out
      clear HA
      simp only [pelicanref14_All.j0] at H
      by_cases c4 : x12_1 = true
      · subst c4
        have H1 : (some false) = some r := by rw [if_pos rfl] at H; exact H
        clear H
        have H := H1
        clear H1
        obtain rfl := Option.some.inj H
        go_wp2
        repeat (go_quiet (fail); try go_wp2)
        go_ret
        exact ⟨by first | rfl | (simp [errW_none, errW_some] <;> rfl) | (simp [*, errW_none, errW_some] <;> rfl), by repeat (first | (with_reducible first | exact HB.out | apply below_alloc | apply pw_below_drewN | apply below_drew1) | exact HB.out)⟩
      · replace c4 := Bool.eq_false_iff.mpr c4
        subst c4
        have H1 : (pelicanref14_All.l0 kj1 l0 0) = some r := by rw [if_neg (show ¬ (false = true) by decide)] at H; exact H
        clear H
        have H := H1
        clear H1
        have H' := Aside0.mk H
        clear H
        go_wp2
        repeat (go_quiet (fail); try go_wp2)
        go_loopg [3] kj1 (fun kq v3 w' => ∃ (x3_2 : Int), v3 = .int .i64 x3_2 ∧ Aside0 (pelicanref14_All.l0 kq l0 x3_2 = some r) ∧ Aside0 (kq ≤ kj1) ∧ Aside0 (Below w.heap.size w w'))
        case atStart => exact ⟨(0), (by first | rfl | (simp; done) | (simp [*]; done)), H', ⟨Nat.le_refl _⟩, ⟨by repeat (first | (with_reducible first | exact HB.out | apply below_alloc | apply pw_below_drewN | apply below_drew1) | exact HB.out)⟩⟩
        case round =>
          clear H'
          try clear p2
          try clear c3
          try clear c3b0
          try clear c3b1
          try clear c4
          try clear p2
          obtain ⟨x3_2, rfl, HA, HK2, HB⟩ := hrel
          cases gk with
          | zero => exact absurd HA.out (by simp [pelicanref14_All.l0])
          | succ k2 =>
            have H := HA.out
            clear HA
            simp only [pelicanref14_All.l0] at H
            by_cases c5 : x3_2 < (l0.length : Int)
            · rw [if_pos c5] at H
              have c5b0 : decide (x3_2 < (l0.length : Int)) = true := decide_eq_true c5
              clear c5
              by_cases c6 : 0 ≤ x3_2
              · rw [if_pos c6] at H
                have c6b0 : decide (0 ≤ x3_2) = true := decide_eq_true c6
                clear c6
                replace H := Option.bind_eq_some_iff.mp H
                obtain ⟨t247, A70, H⟩ := H
                replace H : (if t247 = true then (if 0 < (l0.length : Int) then (if (((rd_T39 l0 x3_2).f0).length : Int) = (((rd_T39 l0 0).f0).length : Int) then (pelicanref14_All.l0 k2 l0 (wrap64 (x3_2 + 1))) else (some false)) else (none)) else (some false)) = some r := H
                have A7 := Aside0.mk A70
                clear A70
                by_cases c8 : t247 = true
                · subst c8
                  have H1 : (if 0 < (l0.length : Int) then (if (((rd_T39 l0 x3_2).f0).length : Int) = (((rd_T39 l0 0).f0).length : Int) then (pelicanref14_All.l0 k2 l0 (wrap64 (x3_2 + 1))) else (some false)) else (none)) = some r := by rw [if_pos rfl] at H; exact H
                  clear H
                  have H := H1
                  clear H1
                  by_cases c9 : 0 < (l0.length : Int)
                  · rw [if_pos c9] at H
                    have c9b0 : decide (0 < (l0.length : Int)) = true := decide_eq_true c9
                    have c9b1 : decide (0 < l0.length) = true := decide_eq_true (by omega)
                    clear c9
                    by_cases c10 : (((rd_T39 l0 x3_2).f0).length : Int) = (((rd_T39 l0 0).f0).length : Int)
                    · rw [if_pos c10] at H
                      have c10b0 : ((((rd_T39 l0 x3_2).f0).length : Int) == (((rd_T39 l0 0).f0).length : Int)) = true := beq_iff_eq.mpr c10
                      have c10b1 : ((((rd_T39 l0 x3_2).f0).length : Int) != (((rd_T39 l0 0).f0).length : Int)) = false := bne_eq_false_iff_eq.mpr c10
                      have c10b2 : (((rd_T39 l0 x3_2).f0).length == ((rd_T39 l0 0).f0).length) = true := by first | simpa using c10 | (simp at c10 ⊢; omega)
                      clear c10
                      have H' := Aside0.mk H
                      clear H
                      have p246 : 0 ≤ (x3_2 : Int) := of_decide_eq_true (by first | (with_reducible assumption) | assumption)
                      have q246 : x3_2 < (l0.length : Int) := of_decide_eq_true (by first | (with_reducible assumption) | assumption)
                      obtain ⟨ad246, A246_0, c246_0, A246_1, c246_1, e246, hx246_0, hx246_1, hx246_2, hx246_3, hx246_4, hl246_0, hi246_0, hl246_1, hi246_1⟩ := at_T39 HR0.out x3_2 p246 q246
                      cases e246
                      replace hx246_0 := (HB.out.cell (World.block_lt_of_cell? w _ hx246_0)).trans hx246_0
                      replace hx246_1 := (HB.out.cell (World.block_lt_of_cell? w _ hx246_1)).trans hx246_1
                      replace hx246_2 := (HB.out.cell (World.block_lt_of_cell? w _ hx246_2)).trans hx246_2
                      replace hx246_3 := (HB.out.cell (World.block_lt_of_cell? w _ hx246_3)).trans hx246_3
                      replace hx246_4 := (HB.out.cell (World.block_lt_of_cell? w _ hx246_4)).trans hx246_4
                      have HR246_0 := Aside0.mk hi246_0
                      have HC246_0 := Aside0.mk hl246_0
                      clear hi246_0 hl246_0
                      have HR246_1 := Aside0.mk hi246_1
                      have HC246_1 := Aside0.mk hl246_1
                      clear hi246_1 hl246_1
                      replace p246 := eq_true p246
                      replace q246 := eq_true q246
                      go_wp2_with (first | (go_at_call 59; (with_reducible refine (pelicanref14_Fit.calls k2 _ _ ((rd_T39 l0 x3_2).f0) _ _ ((rd_T39 l0 x3_2).f1) ((rd_T39 l0 x3_2).f2) ((rd_T39 l0 x3_2).f3) ((rd_T39 l0 x3_2).f4) true _ ?side1 ?side2 ?side3 ?side4 A7.out).mono ?_); (case side1 => repeat (first | exact (Kd.C_below HR246_0.out HB.out) | (with_reducible refine Kd.C_alloc ?_ _) | (with_reducible refine Kd.C_drewN ?_ _) | (with_reducible refine Kd.C_drew ?_))); (case side2 => exact HC246_0.out); (case side3 => repeat (first | exact (Kd.C_below HR246_1.out HB.out) | (with_reducible refine Kd.C_alloc ?_ _) | (with_reducible refine Kd.C_drewN ?_ _) | (with_reducible refine Kd.C_drew ?_))); (case side4 => exact HC246_1.out); rintro e w11 ⟨rfl, hb⟩; have n0_ := Aside0.mk (below_step (by repeat (first | (with_reducible first | exact HB.out | apply below_alloc | apply pw_below_drewN | apply below_drew1) | exact HB.out)) hb); clear HB; have HB := n0_; clear n0_; (try clear hb); (try clear hb2); (try clear hk); (try clear hi); have p248 : 0 ≤ (x3_2 : Int) := of_decide_eq_true (by first | (with_reducible assumption) | assumption); have q248 : x3_2 < (l0.length : Int) := of_decide_eq_true (by first | (with_reducible assumption) | assumption); obtain ⟨ad248, A248_0, c248_0, A248_1, c248_1, e248, hx248_0, hx248_1, hx248_2, hx248_3, hx248_4, hl248_0, hi248_0, hl248_1, hi248_1⟩ := at_T39 HR0.out x3_2 p248 q248; obtain rfl : ad246 = ad248 := (by injection e248); replace hx248_0 := (HB.out.cell (World.block_lt_of_cell? w _ hx248_0)).trans hx248_0; replace hx248_1 := (HB.out.cell (World.block_lt_of_cell? w _ hx248_1)).trans hx248_1; replace hx248_2 := (HB.out.cell (World.block_lt_of_cell? w _ hx248_2)).trans hx248_2; replace hx248_3 := (HB.out.cell (World.block_lt_of_cell? w _ hx248_3)).trans hx248_3; replace hx248_4 := (HB.out.cell (World.block_lt_of_cell? w _ hx248_4)).trans hx248_4; have HR248_0 := Aside0.mk hi248_0; have HC248_0 := Aside0.mk hl248_0; clear hi248_0 hl248_0; have HR248_1 := Aside0.mk hi248_1; have HC248_1 := Aside0.mk hl248_1; clear hi248_1 hl248_1; replace p248 := eq_true p248; replace q248 := eq_true q248; have p249 : 0 ≤ (0 : Int) := (by omega); have q249 : 0 < (l0.length : Int) := of_decide_eq_true (by first | (with_reducible assumption) | assumption); obtain ⟨ad249, A249_0, c249_0, A249_1, c249_1, e249, hx249_0, hx249_1, hx249_2, hx249_3, hx249_4, hl249_0, hi249_0, hl249_1, hi249_1⟩ := at_T39 HR0.out 0 p249 q249; obtain rfl : ad246 = ad249 := (by injection e249); have qi249 : (0 < l0.length) = True := eq_true (by omega); (try rw [show ((0 : Int)).toNat = 0 from rfl] at hx249_0); (try rw [show 0 * 5 = 0 from rfl] at hx249_0); (try rw [Addr.add_zero'] at hx249_0); (try rw [show ((0 : Int)).toNat = 0 from rfl] at hx249_1); (try rw [show 0 * 5 = 0 from rfl] at hx249_1); (try rw [Addr.add_zero'] at hx249_1); (try rw [show ((0 : Int)).toNat = 0 from rfl] at hx249_2); (try rw [show 0 * 5 = 0 from rfl] at hx249_2); (try rw [Addr.add_zero'] at hx249_2); (try rw [show ((0 : Int)).toNat = 0 from rfl] at hx249_3); (try rw [show 0 * 5 = 0 from rfl] at hx249_3); (try rw [Addr.add_zero'] at hx249_3); (try rw [show ((0 : Int)).toNat = 0 from rfl] at hx249_4); (try rw [show 0 * 5 = 0 from rfl] at hx249_4); (try rw [Addr.add_zero'] at hx249_4); replace hx249_0 := (HB.out.cell (World.block_lt_of_cell? w _ hx249_0)).trans hx249_0; replace hx249_1 := (HB.out.cell (World.block_lt_of_cell? w _ hx249_1)).trans hx249_1; replace hx249_2 := (HB.out.cell (World.block_lt_of_cell? w _ hx249_2)).trans hx249_2; replace hx249_3 := (HB.out.cell (World.block_lt_of_cell? w _ hx249_3)).trans hx249_3; replace hx249_4 := (HB.out.cell (World.block_lt_of_cell? w _ hx249_4)).trans hx249_4; have HR249_0 := Aside0.mk hi249_0; have HC249_0 := Aside0.mk hl249_0; clear hi249_0 hl249_0; have HR249_1 := Aside0.mk hi249_1; have HC249_1 := Aside0.mk hl249_1; clear hi249_1 hl249_1; replace p249 := eq_true p249; replace q249 := eq_true q249))
                      repeat (go_quiet (first | (go_at_call 59; (with_reducible refine (pelicanref14_Fit.calls k2 _ _ ((rd_T39 l0 x3_2).f0) _ _ ((rd_T39 l0 x3_2).f1) ((rd_T39 l0 x3_2).f2) ((rd_T39 l0 x3_2).f3) ((rd_T39 l0 x3_2).f4) true _ ?side1 ?side2 ?side3 ?side4 A7.out).mono ?_); (case side1 => repeat (first | exact (Kd.C_below HR246_0.out HB.out) | (with_reducible refine Kd.C_alloc ?_ _) | (with_reducible refine Kd.C_drewN ?_ _) | (with_reducible refine Kd.C_drew ?_))); (case side2 => exact HC246_0.out); (case side3 => repeat (first | exact (Kd.C_below HR246_1.out HB.out) | (with_reducible refine Kd.C_alloc ?_ _) | (with_reducible refine Kd.C_drewN ?_ _) | (with_reducible refine Kd.C_drew ?_))); (case side4 => exact HC246_1.out); rintro e w11 ⟨rfl, hb⟩; have n0_ := Aside0.mk (below_step (by repeat (first | (with_reducible first | exact HB.out | apply below_alloc | apply pw_below_drewN | apply below_drew1) | exact HB.out)) hb); clear HB; have HB := n0_; clear n0_; (try clear hb); (try clear hb2); (try clear hk); (try clear hi); have p248 : 0 ≤ (x3_2 : Int) := of_decide_eq_true (by first | (with_reducible assumption) | assumption); have q248 : x3_2 < (l0.length : Int) := of_decide_eq_true (by first | (with_reducible assumption) | assumption); obtain ⟨ad248, A248_0, c248_0, A248_1, c248_1, e248, hx248_0, hx248_1, hx248_2, hx248_3, hx248_4, hl248_0, hi248_0, hl248_1, hi248_1⟩ := at_T39 HR0.out x3_2 p248 q248; obtain rfl : ad246 = ad248 := (by injection e248); replace hx248_0 := (HB.out.cell (World.block_lt_of_cell? w _ hx248_0)).trans hx248_0; replace hx248_1 := (HB.out.cell (World.block_lt_of_cell? w _ hx248_1)).trans hx248_1; replace hx248_2 := (HB.out.cell (World.block_lt_of_cell? w _ hx248_2)).trans hx248_2; replace hx248_3 := (HB.out.cell (World.block_lt_of_cell? w _ hx248_3)).trans hx248_3; replace hx248_4 := (HB.out.cell (World.block_lt_of_cell? w _ hx248_4)).trans hx248_4; have HR248_0 := Aside0.mk hi248_0; have HC248_0 := Aside0.mk hl248_0; clear hi248_0 hl248_0; have HR248_1 := Aside0.mk hi248_1; have HC248_1 := Aside0.mk hl248_1; clear hi248_1 hl248_1; replace p248 := eq_true p248; replace q248 := eq_true q248; have p249 : 0 ≤ (0 : Int) := (by omega); have q249 : 0 < (l0.length : Int) := of_decide_eq_true (by first | (with_reducible assumption) | assumption); obtain ⟨ad249, A249_0, c249_0, A249_1, c249_1, e249, hx249_0, hx249_1, hx249_2, hx249_3, hx249_4, hl249_0, hi249_0, hl249_1, hi249_1⟩ := at_T39 HR0.out 0 p249 q249; obtain rfl : ad246 = ad249 := (by injection e249); have qi249 : (0 < l0.length) = True := eq_true (by omega); (try rw [show ((0 : Int)).toNat = 0 from rfl] at hx249_0); (try rw [show 0 * 5 = 0 from rfl] at hx249_0); (try rw [Addr.add_zero'] at hx249_0); (try rw [show ((0 : Int)).toNat = 0 from rfl] at hx249_1); (try rw [show 0 * 5 = 0 from rfl] at hx249_1); (try rw [Addr.add_zero'] at hx249_1); (try rw [show ((0 : Int)).toNat = 0 from rfl] at hx249_2); (try rw [show 0 * 5 = 0 from rfl] at hx249_2); (try rw [Addr.add_zero'] at hx249_2); (try rw [show ((0 : Int)).toNat = 0 from rfl] at hx249_3); (try rw [show 0 * 5 = 0 from rfl] at hx249_3); (try rw [Addr.add_zero'] at hx249_3); (try rw [show ((0 : Int)).toNat = 0 from rfl] at hx249_4); (try rw [show 0 * 5 = 0 from rfl] at hx249_4); (try rw [Addr.add_zero'] at hx249_4); replace hx249_0 := (HB.out.cell (World.block_lt_of_cell? w _ hx249_0)).trans hx249_0; replace hx249_1 := (HB.out.cell (World.block_lt_of_cell? w _ hx249_1)).trans hx249_1; replace hx249_2 := (HB.out.cell (World.block_lt_of_cell? w _ hx249_2)).trans hx249_2; replace hx249_3 := (HB.out.cell (World.block_lt_of_cell? w _ hx249_3)).trans hx249_3; replace hx249_4 := (HB.out.cell (World.block_lt_of_cell? w _ hx249_4)).trans hx249_4; have HR249_0 := Aside0.mk hi249_0; have HC249_0 := Aside0.mk hl249_0; clear hi249_0 hl249_0; have HR249_1 := Aside0.mk hi249_1; have HC249_1 := Aside0.mk hl249_1; clear hi249_1 hl249_1; replace p249 := eq_true p249; replace q249 := eq_true q249)); try go_wp2_with (first | (go_at_call 59; (with_reducible refine (pelicanref14_Fit.calls k2 _ _ ((rd_T39 l0 x3_2).f0) _ _ ((rd_T39 l0 x3_2).f1) ((rd_T39 l0 x3_2).f2) ((rd_T39 l0 x3_2).f3) ((rd_T39 l0 x3_2).f4) true _ ?side1 ?side2 ?side3 ?side4 A7.out).mono ?_); (case side1 => repeat (first | exact (Kd.C_below HR246_0.out HB.out) | (with_reducible refine Kd.C_alloc ?_ _) | (with_reducible refine Kd.C_drewN ?_ _) | (with_reducible refine Kd.C_drew ?_))); (case side2 => exact HC246_0.out); (case side3 => repeat (first | exact (Kd.C_below HR246_1.out HB.out) | (with_reducible refine Kd.C_alloc ?_ _) | (with_reducible refine Kd.C_drewN ?_ _) | (with_reducible refine Kd.C_drew ?_))); (case side4 => exact HC246_1.out); rintro e w11 ⟨rfl, hb⟩; have n0_ := Aside0.mk (below_step (by repeat (first | (with_reducible first | exact HB.out | apply below_alloc | apply pw_below_drewN | apply below_drew1) | exact HB.out)) hb); clear HB; have HB := n0_; clear n0_; (try clear hb); (try clear hb2); (try clear hk); (try clear hi); have p248 : 0 ≤ (x3_2 : Int) := of_decide_eq_true (by first | (with_reducible assumption) | assumption); have q248 : x3_2 < (l0.length : Int) := of_decide_eq_true (by first | (with_reducible assumption) | assumption); obtain ⟨ad248, A248_0, c248_0, A248_1, c248_1, e248, hx248_0, hx248_1, hx248_2, hx248_3, hx248_4, hl248_0, hi248_0, hl248_1, hi248_1⟩ := at_T39 HR0.out x3_2 p248 q248; obtain rfl : ad246 = ad248 := (by injection e248); replace hx248_0 := (HB.out.cell (World.block_lt_of_cell? w _ hx248_0)).trans hx248_0; replace hx248_1 := (HB.out.cell (World.block_lt_of_cell? w _ hx248_1)).trans hx248_1; replace hx248_2 := (HB.out.cell (World.block_lt_of_cell? w _ hx248_2)).trans hx248_2; replace hx248_3 := (HB.out.cell (World.block_lt_of_cell? w _ hx248_3)).trans hx248_3; replace hx248_4 := (HB.out.cell (World.block_lt_of_cell? w _ hx248_4)).trans hx248_4; have HR248_0 := Aside0.mk hi248_0; have HC248_0 := Aside0.mk hl248_0; clear hi248_0 hl248_0; have HR248_1 := Aside0.mk hi248_1; have HC248_1 := Aside0.mk hl248_1; clear hi248_1 hl248_1; replace p248 := eq_true p248; replace q248 := eq_true q248; have p249 : 0 ≤ (0 : Int) := (by omega); have q249 : 0 < (l0.length : Int) := of_decide_eq_true (by first | (with_reducible assumption) | assumption); obtain ⟨ad249, A249_0, c249_0, A249_1, c249_1, e249, hx249_0, hx249_1, hx249_2, hx249_3, hx249_4, hl249_0, hi249_0, hl249_1, hi249_1⟩ := at_T39 HR0.out 0 p249 q249; obtain rfl : ad246 = ad249 := (by injection e249); have qi249 : (0 < l0.length) = True := eq_true (by omega); (try rw [show ((0 : Int)).toNat = 0 from rfl] at hx249_0); (try rw [show 0 * 5 = 0 from rfl] at hx249_0); (try rw [Addr.add_zero'] at hx249_0); (try rw [show ((0 : Int)).toNat = 0 from rfl] at hx249_1); (try rw [show 0 * 5 = 0 from rfl] at hx249_1); (try rw [Addr.add_zero'] at hx249_1); (try rw [show ((0 : Int)).toNat = 0 from rfl] at hx249_2); (try rw [show 0 * 5 = 0 from rfl] at hx249_2); (try rw [Addr.add_zero'] at hx249_2); (try rw [show ((0 : Int)).toNat = 0 from rfl] at hx249_3); (try rw [show 0 * 5 = 0 from rfl] at hx249_3); (try rw [Addr.add_zero'] at hx249_3); (try rw [show ((0 : Int)).toNat = 0 from rfl] at hx249_4); (try rw [show 0 * 5 = 0 from rfl] at hx249_4); (try rw [Addr.add_zero'] at hx249_4); replace hx249_0 := (HB.out.cell (World.block_lt_of_cell? w _ hx249_0)).trans hx249_0; replace hx249_1 := (HB.out.cell (World.block_lt_of_cell? w _ hx249_1)).trans hx249_1; replace hx249_2 := (HB.out.cell (World.block_lt_of_cell? w _ hx249_2)).trans hx249_2; replace hx249_3 := (HB.out.cell (World.block_lt_of_cell? w _ hx249_3)).trans hx249_3; replace hx249_4 := (HB.out.cell (World.block_lt_of_cell? w _ hx249_4)).trans hx249_4; have HR249_0 := Aside0.mk hi249_0; have HC249_0 := Aside0.mk hl249_0; clear hi249_0 hl249_0; have HR249_1 := Aside0.mk hi249_1; have HC249_1 := Aside0.mk hl249_1; clear hi249_1 hl249_1; replace p249 := eq_true p249; replace q249 := eq_true q249)))
                      go_roundg k2
                      case measure => have := HJ1.out; have := HK2.out; omega
                      case rel => exact ⟨(wrap64 (x3_2 + 1)), (by first | rfl | (simp; done) | (simp [*]; done)), H', ⟨by have := HJ1.out; have := HK2.out; omega⟩, ⟨by repeat (first | (with_reducible first | exact HB.out | apply below_alloc | apply pw_below_drewN | apply below_drew1) | exact HB.out)⟩⟩
                    · rw [if_neg c10] at H
                      have c10b0 : ((((rd_T39 l0 x3_2).f0).length : Int) == (((rd_T39 l0 0).f0).length : Int)) = false := beq_eq_false_iff_ne.mpr c10
                      have c10b1 : ((((rd_T39 l0 x3_2).f0).length : Int) != (((rd_T39 l0 0).f0).length : Int)) = true := bne_iff_ne.mpr c10
                      have c10b2 : (((rd_T39 l0 x3_2).f0).length == ((rd_T39 l0 0).f0).length) = false := by first | simpa using c10 | (simp at c10 ⊢; omega)
                      obtain rfl := Option.some.inj H
                      have p246 : 0 ≤ (x3_2 : Int) := of_decide_eq_true (by first | (with_reducible assumption) | assumption)
                      have q246 : x3_2 < (l0.length : Int) := of_decide_eq_true (by first | (with_reducible assumption) | assumption)
                      obtain ⟨ad246, A246_0, c246_0, A246_1, c246_1, e246, hx246_0, hx246_1, hx246_2, hx246_3, hx246_4, hl246_0, hi246_0, hl246_1, hi246_1⟩ := at_T39 HR0.out x3_2 p246 q246
                      cases e246
                      replace hx246_0 := (HB.out.cell (World.block_lt_of_cell? w _ hx246_0)).trans hx246_0
                      replace hx246_1 := (HB.out.cell (World.block_lt_of_cell? w _ hx246_1)).trans hx246_1
                      replace hx246_2 := (HB.out.cell (World.block_lt_of_cell? w _ hx246_2)).trans hx246_2
                      replace hx246_3 := (HB.out.cell (World.block_lt_of_cell? w _ hx246_3)).trans hx246_3
                      replace hx246_4 := (HB.out.cell (World.block_lt_of_cell? w _ hx246_4)).trans hx246_4
                      have HR246_0 := Aside0.mk hi246_0
                      have HC246_0 := Aside0.mk hl246_0
                      clear hi246_0 hl246_0
                      have HR246_1 := Aside0.mk hi246_1
                      have HC246_1 := Aside0.mk hl246_1
                      clear hi246_1 hl246_1
                      replace p246 := eq_true p246
                      replace q246 := eq_true q246
                      go_wp2_with (first | (go_at_call 59; (with_reducible refine (pelicanref14_Fit.calls k2 _ _ ((rd_T39 l0 x3_2).f0) _ _ ((rd_T39 l0 x3_2).f1) ((rd_T39 l0 x3_2).f2) ((rd_T39 l0 x3_2).f3) ((rd_T39 l0 x3_2).f4) true _ ?side1 ?side2 ?side3 ?side4 A7.out).mono ?_); (case side1 => repeat (first | exact (Kd.C_below HR246_0.out HB.out) | (with_reducible refine Kd.C_alloc ?_ _) | (with_reducible refine Kd.C_drewN ?_ _) | (with_reducible refine Kd.C_drew ?_))); (case side2 => exact HC246_0.out); (case side3 => repeat (first | exact (Kd.C_below HR246_1.out HB.out) | (with_reducible refine Kd.C_alloc ?_ _) | (with_reducible refine Kd.C_drewN ?_ _) | (with_reducible refine Kd.C_drew ?_))); (case side4 => exact HC246_1.out); rintro e w12 ⟨rfl, hb⟩; have n0_ := Aside0.mk (below_step (by repeat (first | (with_reducible first | exact HB.out | apply below_alloc | apply pw_below_drewN | apply below_drew1) | exact HB.out)) hb); clear HB; have HB := n0_; clear n0_; (try clear hb); (try clear hb2); (try clear hk); (try clear hi); have p248 : 0 ≤ (x3_2 : Int) := of_decide_eq_true (by first | (with_reducible assumption) | assumption); have q248 : x3_2 < (l0.length : Int) := of_decide_eq_true (by first | (with_reducible assumption) | assumption); obtain ⟨ad248, A248_0, c248_0, A248_1, c248_1, e248, hx248_0, hx248_1, hx248_2, hx248_3, hx248_4, hl248_0, hi248_0, hl248_1, hi248_1⟩ := at_T39 HR0.out x3_2 p248 q248; obtain rfl : ad246 = ad248 := (by injection e248); replace hx248_0 := (HB.out.cell (World.block_lt_of_cell? w _ hx248_0)).trans hx248_0; replace hx248_1 := (HB.out.cell (World.block_lt_of_cell? w _ hx248_1)).trans hx248_1; replace hx248_2 := (HB.out.cell (World.block_lt_of_cell? w _ hx248_2)).trans hx248_2; replace hx248_3 := (HB.out.cell (World.block_lt_of_cell? w _ hx248_3)).trans hx248_3; replace hx248_4 := (HB.out.cell (World.block_lt_of_cell? w _ hx248_4)).trans hx248_4; have HR248_0 := Aside0.mk hi248_0; have HC248_0 := Aside0.mk hl248_0; clear hi248_0 hl248_0; have HR248_1 := Aside0.mk hi248_1; have HC248_1 := Aside0.mk hl248_1; clear hi248_1 hl248_1; replace p248 := eq_true p248; replace q248 := eq_true q248; have p249 : 0 ≤ (0 : Int) := (by omega); have q249 : 0 < (l0.length : Int) := of_decide_eq_true (by first | (with_reducible assumption) | assumption); obtain ⟨ad249, A249_0, c249_0, A249_1, c249_1, e249, hx249_0, hx249_1, hx249_2, hx249_3, hx249_4, hl249_0, hi249_0, hl249_1, hi249_1⟩ := at_T39 HR0.out 0 p249 q249; obtain rfl : ad246 = ad249 := (by injection e249); have qi249 : (0 < l0.length) = True := eq_true (by omega); (try rw [show ((0 : Int)).toNat = 0 from rfl] at hx249_0); (try rw [show 0 * 5 = 0 from rfl] at hx249_0); (try rw [Addr.add_zero'] at hx249_0); (try rw [show ((0 : Int)).toNat = 0 from rfl] at hx249_1); (try rw [show 0 * 5 = 0 from rfl] at hx249_1); (try rw [Addr.add_zero'] at hx249_1); (try rw [show ((0 : Int)).toNat = 0 from rfl] at hx249_2); (try rw [show 0 * 5 = 0 from rfl] at hx249_2); (try rw [Addr.add_zero'] at hx249_2); (try rw [show ((0 : Int)).toNat = 0 from rfl] at hx249_3); (try rw [show 0 * 5 = 0 from rfl] at hx249_3); (try rw [Addr.add_zero'] at hx249_3); (try rw [show ((0 : Int)).toNat = 0 from rfl] at hx249_4); (try rw [show 0 * 5 = 0 from rfl] at hx249_4); (try rw [Addr.add_zero'] at hx249_4); replace hx249_0 := (HB.out.cell (World.block_lt_of_cell? w _ hx249_0)).trans hx249_0; replace hx249_1 := (HB.out.cell (World.block_lt_of_cell? w _ hx249_1)).trans hx249_1; replace hx249_2 := (HB.out.cell (World.block_lt_of_cell? w _ hx249_2)).trans hx249_2; replace hx249_3 := (HB.out.cell (World.block_lt_of_cell? w _ hx249_3)).trans hx249_3; replace hx249_4 := (HB.out.cell (World.block_lt_of_cell? w _ hx249_4)).trans hx249_4; have HR249_0 := Aside0.mk hi249_0; have HC249_0 := Aside0.mk hl249_0; clear hi249_0 hl249_0; have HR249_1 := Aside0.mk hi249_1; have HC249_1 := Aside0.mk hl249_1; clear hi249_1 hl249_1; replace p249 := eq_true p249; replace q249 := eq_true q249))
                      repeat (go_quiet (first | (go_at_call 59; (with_reducible refine (pelicanref14_Fit.calls k2 _ _ ((rd_T39 l0 x3_2).f0) _ _ ((rd_T39 l0 x3_2).f1) ((rd_T39 l0 x3_2).f2) ((rd_T39 l0 x3_2).f3) ((rd_T39 l0 x3_2).f4) true _ ?side1 ?side2 ?side3 ?side4 A7.out).mono ?_); (case side1 => repeat (first | exact (Kd.C_below HR246_0.out HB.out) | (with_reducible refine Kd.C_alloc ?_ _) | (with_reducible refine Kd.C_drewN ?_ _) | (with_reducible refine Kd.C_drew ?_))); (case side2 => exact HC246_0.out); (case side3 => repeat (first | exact (Kd.C_below HR246_1.out HB.out) | (with_reducible refine Kd.C_alloc ?_ _) | (with_reducible refine Kd.C_drewN ?_ _) | (with_reducible refine Kd.C_drew ?_))); (case side4 => exact HC246_1.out); rintro e w12 ⟨rfl, hb⟩; have n0_ := Aside0.mk (below_step (by repeat (first | (with_reducible first | exact HB.out | apply below_alloc | apply pw_below_drewN | apply below_drew1) | exact HB.out)) hb); clear HB; have HB := n0_; clear n0_; (try clear hb); (try clear hb2); (try clear hk); (try clear hi); have p248 : 0 ≤ (x3_2 : Int) := of_decide_eq_true (by first | (with_reducible assumption) | assumption); have q248 : x3_2 < (l0.length : Int) := of_decide_eq_true (by first | (with_reducible assumption) | assumption); obtain ⟨ad248, A248_0, c248_0, A248_1, c248_1, e248, hx248_0, hx248_1, hx248_2, hx248_3, hx248_4, hl248_0, hi248_0, hl248_1, hi248_1⟩ := at_T39 HR0.out x3_2 p248 q248; obtain rfl : ad246 = ad248 := (by injection e248); replace hx248_0 := (HB.out.cell (World.block_lt_of_cell? w _ hx248_0)).trans hx248_0; replace hx248_1 := (HB.out.cell (World.block_lt_of_cell? w _ hx248_1)).trans hx248_1; replace hx248_2 := (HB.out.cell (World.block_lt_of_cell? w _ hx248_2)).trans hx248_2; replace hx248_3 := (HB.out.cell (World.block_lt_of_cell? w _ hx248_3)).trans hx248_3; replace hx248_4 := (HB.out.cell (World.block_lt_of_cell? w _ hx248_4)).trans hx248_4; have HR248_0 := Aside0.mk hi248_0; have HC248_0 := Aside0.mk hl248_0; clear hi248_0 hl248_0; have HR248_1 := Aside0.mk hi248_1; have HC248_1 := Aside0.mk hl248_1; clear hi248_1 hl248_1; replace p248 := eq_true p248; replace q248 := eq_true q248; have p249 : 0 ≤ (0 : Int) := (by omega); have q249 : 0 < (l0.length : Int) := of_decide_eq_true (by first | (with_reducible assumption) | assumption); obtain ⟨ad249, A249_0, c249_0, A249_1, c249_1, e249, hx249_0, hx249_1, hx249_2, hx249_3, hx249_4, hl249_0, hi249_0, hl249_1, hi249_1⟩ := at_T39 HR0.out 0 p249 q249; obtain rfl : ad246 = ad249 := (by injection e249); have qi249 : (0 < l0.length) = True := eq_true (by omega); (try rw [show ((0 : Int)).toNat = 0 from rfl] at hx249_0); (try rw [show 0 * 5 = 0 from rfl] at hx249_0); (try rw [Addr.add_zero'] at hx249_0); (try rw [show ((0 : Int)).toNat = 0 from rfl] at hx249_1); (try rw [show 0 * 5 = 0 from rfl] at hx249_1); (try rw [Addr.add_zero'] at hx249_1); (try rw [show ((0 : Int)).toNat = 0 from rfl] at hx249_2); (try rw [show 0 * 5 = 0 from rfl] at hx249_2); (try rw [Addr.add_zero'] at hx249_2); (try rw [show ((0 : Int)).toNat = 0 from rfl] at hx249_3); (try rw [show 0 * 5 = 0 from rfl] at hx249_3); (try rw [Addr.add_zero'] at hx249_3); (try rw [show ((0 : Int)).toNat = 0 from rfl] at hx249_4); (try rw [show 0 * 5 = 0 from rfl] at hx249_4); (try rw [Addr.add_zero'] at hx249_4); replace hx249_0 := (HB.out.cell (World.block_lt_of_cell? w _ hx249_0)).trans hx249_0; replace hx249_1 := (HB.out.cell (World.block_lt_of_cell? w _ hx249_1)).trans hx249_1; replace hx249_2 := (HB.out.cell (World.block_lt_of_cell? w _ hx249_2)).trans hx249_2; replace hx249_3 := (HB.out.cell (World.block_lt_of_cell? w _ hx249_3)).trans hx249_3; replace hx249_4 := (HB.out.cell (World.block_lt_of_cell? w _ hx249_4)).trans hx249_4; have HR249_0 := Aside0.mk hi249_0; have HC249_0 := Aside0.mk hl249_0; clear hi249_0 hl249_0; have HR249_1 := Aside0.mk hi249_1; have HC249_1 := Aside0.mk hl249_1; clear hi249_1 hl249_1; replace p249 := eq_true p249; replace q249 := eq_true q249)); try go_wp2_with (first | (go_at_call 59; (with_reducible refine (pelicanref14_Fit.calls k2 _ _ ((rd_T39 l0 x3_2).f0) _ _ ((rd_T39 l0 x3_2).f1) ((rd_T39 l0 x3_2).f2) ((rd_T39 l0 x3_2).f3) ((rd_T39 l0 x3_2).f4) true _ ?side1 ?side2 ?side3 ?side4 A7.out).mono ?_); (case side1 => repeat (first | exact (Kd.C_below HR246_0.out HB.out) | (with_reducible refine Kd.C_alloc ?_ _) | (with_reducible refine Kd.C_drewN ?_ _) | (with_reducible refine Kd.C_drew ?_))); (case side2 => exact HC246_0.out); (case side3 => repeat (first | exact (Kd.C_below HR246_1.out HB.out) | (with_reducible refine Kd.C_alloc ?_ _) | (with_reducible refine Kd.C_drewN ?_ _) | (with_reducible refine Kd.C_drew ?_))); (case side4 => exact HC246_1.out); rintro e w12 ⟨rfl, hb⟩; have n0_ := Aside0.mk (below_step (by repeat (first | (with_reducible first | exact HB.out | apply below_alloc | apply pw_below_drewN | apply below_drew1) | exact HB.out)) hb); clear HB; have HB := n0_; clear n0_; (try clear hb); (try clear hb2); (try clear hk); (try clear hi); have p248 : 0 ≤ (x3_2 : Int) := of_decide_eq_true (by first | (with_reducible assumption) | assumption); have q248 : x3_2 < (l0.length : Int) := of_decide_eq_true (by first | (with_reducible assumption) | assumption); obtain ⟨ad248, A248_0, c248_0, A248_1, c248_1, e248, hx248_0, hx248_1, hx248_2, hx248_3, hx248_4, hl248_0, hi248_0, hl248_1, hi248_1⟩ := at_T39 HR0.out x3_2 p248 q248; obtain rfl : ad246 = ad248 := (by injection e248); replace hx248_0 := (HB.out.cell (World.block_lt_of_cell? w _ hx248_0)).trans hx248_0; replace hx248_1 := (HB.out.cell (World.block_lt_of_cell? w _ hx248_1)).trans hx248_1; replace hx248_2 := (HB.out.cell (World.block_lt_of_cell? w _ hx248_2)).trans hx248_2; replace hx248_3 := (HB.out.cell (World.block_lt_of_cell? w _ hx248_3)).trans hx248_3; replace hx248_4 := (HB.out.cell (World.block_lt_of_cell? w _ hx248_4)).trans hx248_4; have HR248_0 := Aside0.mk hi248_0; have HC248_0 := Aside0.mk hl248_0; clear hi248_0 hl248_0; have HR248_1 := Aside0.mk hi248_1; have HC248_1 := Aside0.mk hl248_1; clear hi248_1 hl248_1; replace p248 := eq_true p248; replace q248 := eq_true q248; have p249 : 0 ≤ (0 : Int) := (by omega); have q249 : 0 < (l0.length : Int) := of_decide_eq_true (by first | (with_reducible assumption) | assumption); obtain ⟨ad249, A249_0, c249_0, A249_1, c249_1, e249, hx249_0, hx249_1, hx249_2, hx249_3, hx249_4, hl249_0, hi249_0, hl249_1, hi249_1⟩ := at_T39 HR0.out 0 p249 q249; obtain rfl : ad246 = ad249 := (by injection e249); have qi249 : (0 < l0.length) = True := eq_true (by omega); (try rw [show ((0 : Int)).toNat = 0 from rfl] at hx249_0); (try rw [show 0 * 5 = 0 from rfl] at hx249_0); (try rw [Addr.add_zero'] at hx249_0); (try rw [show ((0 : Int)).toNat = 0 from rfl] at hx249_1); (try rw [show 0 * 5 = 0 from rfl] at hx249_1); (try rw [Addr.add_zero'] at hx249_1); (try rw [show ((0 : Int)).toNat = 0 from rfl] at hx249_2); (try rw [show 0 * 5 = 0 from rfl] at hx249_2); (try rw [Addr.add_zero'] at hx249_2); (try rw [show ((0 : Int)).toNat = 0 from rfl] at hx249_3); (try rw [show 0 * 5 = 0 from rfl] at hx249_3); (try rw [Addr.add_zero'] at hx249_3); (try rw [show ((0 : Int)).toNat = 0 from rfl] at hx249_4); (try rw [show 0 * 5 = 0 from rfl] at hx249_4); (try rw [Addr.add_zero'] at hx249_4); replace hx249_0 := (HB.out.cell (World.block_lt_of_cell? w _ hx249_0)).trans hx249_0; replace hx249_1 := (HB.out.cell (World.block_lt_of_cell? w _ hx249_1)).trans hx249_1; replace hx249_2 := (HB.out.cell (World.block_lt_of_cell? w _ hx249_2)).trans hx249_2; replace hx249_3 := (HB.out.cell (World.block_lt_of_cell? w _ hx249_3)).trans hx249_3; replace hx249_4 := (HB.out.cell (World.block_lt_of_cell? w _ hx249_4)).trans hx249_4; have HR249_0 := Aside0.mk hi249_0; have HC249_0 := Aside0.mk hl249_0; clear hi249_0 hl249_0; have HR249_1 := Aside0.mk hi249_1; have HC249_1 := Aside0.mk hl249_1; clear hi249_1 hl249_1; replace p249 := eq_true p249; replace q249 := eq_true q249)))
                      go_ret
                      exact ⟨by first | rfl | (simp [errW_none, errW_some] <;> rfl) | (simp [*, errW_none, errW_some] <;> rfl), by repeat (first | (with_reducible first | exact HB.out | apply below_alloc | apply pw_below_drewN | apply below_drew1) | exact HB.out)⟩
                  · rw [if_neg c9] at H
                    exact absurd H (by simp)
                · replace c8 := Bool.eq_false_iff.mpr c8
                  subst c8
                  have H1 : (some false) = some r := by rw [if_neg (show ¬ (false = true) by decide)] at H; exact H
                  clear H
                  have H := H1
                  clear H1
                  obtain rfl := Option.some.inj H
                  have p246 : 0 ≤ (x3_2 : Int) := of_decide_eq_true (by first | (with_reducible assumption) | assumption)
                  have q246 : x3_2 < (l0.length : Int) := of_decide_eq_true (by first | (with_reducible assumption) | assumption)
                  obtain ⟨ad246, A246_0, c246_0, A246_1, c246_1, e246, hx246_0, hx246_1, hx246_2, hx246_3, hx246_4, hl246_0, hi246_0, hl246_1, hi246_1⟩ := at_T39 HR0.out x3_2 p246 q246
                  cases e246
                  replace hx246_0 := (HB.out.cell (World.block_lt_of_cell? w _ hx246_0)).trans hx246_0
                  replace hx246_1 := (HB.out.cell (World.block_lt_of_cell? w _ hx246_1)).trans hx246_1
                  replace hx246_2 := (HB.out.cell (World.block_lt_of_cell? w _ hx246_2)).trans hx246_2
                  replace hx246_3 := (HB.out.cell (World.block_lt_of_cell? w _ hx246_3)).trans hx246_3
                  replace hx246_4 := (HB.out.cell (World.block_lt_of_cell? w _ hx246_4)).trans hx246_4
                  have HR246_0 := Aside0.mk hi246_0
                  have HC246_0 := Aside0.mk hl246_0
                  clear hi246_0 hl246_0
                  have HR246_1 := Aside0.mk hi246_1
                  have HC246_1 := Aside0.mk hl246_1
                  clear hi246_1 hl246_1
                  replace p246 := eq_true p246
                  replace q246 := eq_true q246
                  go_wp2_with (first | (go_at_call 59; (with_reducible refine (pelicanref14_Fit.calls k2 _ _ ((rd_T39 l0 x3_2).f0) _ _ ((rd_T39 l0 x3_2).f1) ((rd_T39 l0 x3_2).f2) ((rd_T39 l0 x3_2).f3) ((rd_T39 l0 x3_2).f4) false _ ?side1 ?side2 ?side3 ?side4 A7.out).mono ?_); (case side1 => repeat (first | exact (Kd.C_below HR246_0.out HB.out) | (with_reducible refine Kd.C_alloc ?_ _) | (with_reducible refine Kd.C_drewN ?_ _) | (with_reducible refine Kd.C_drew ?_))); (case side2 => exact HC246_0.out); (case side3 => repeat (first | exact (Kd.C_below HR246_1.out HB.out) | (with_reducible refine Kd.C_alloc ?_ _) | (with_reducible refine Kd.C_drewN ?_ _) | (with_reducible refine Kd.C_drew ?_))); (case side4 => exact HC246_1.out); rintro e w13 ⟨rfl, hb⟩; have n0_ := Aside0.mk (below_step (by repeat (first | (with_reducible first | exact HB.out | apply below_alloc | apply pw_below_drewN | apply below_drew1) | exact HB.out)) hb); clear HB; have HB := n0_; clear n0_; (try clear hb); (try clear hb2); (try clear hk); (try clear hi)))
                  repeat (go_quiet (first | (go_at_call 59; (with_reducible refine (pelicanref14_Fit.calls k2 _ _ ((rd_T39 l0 x3_2).f0) _ _ ((rd_T39 l0 x3_2).f1) ((rd_T39 l0 x3_2).f2) ((rd_T39 l0 x3_2).f3) ((rd_T39 l0 x3_2).f4) false _ ?side1 ?side2 ?side3 ?side4 A7.out).mono ?_); (case side1 => repeat (first | exact (Kd.C_below HR246_0.out HB.out) | (with_reducible refine Kd.C_alloc ?_ _) | (with_reducible refine Kd.C_drewN ?_ _) | (with_reducible refine Kd.C_drew ?_))); (case side2 => exact HC246_0.out); (case side3 => repeat (first | exact (Kd.C_below HR246_1.out HB.out) | (with_reducible refine Kd.C_alloc ?_ _) | (with_reducible refine Kd.C_drewN ?_ _) | (with_reducible refine Kd.C_drew ?_))); (case side4 => exact HC246_1.out); rintro e w13 ⟨rfl, hb⟩; have n0_ := Aside0.mk (below_step (by repeat (first | (with_reducible first | exact HB.out | apply below_alloc | apply pw_below_drewN | apply below_drew1) | exact HB.out)) hb); clear HB; have HB := n0_; clear n0_; (try clear hb); (try clear hb2); (try clear hk); (try clear hi))); try go_wp2_with (first | (go_at_call 59; (with_reducible refine (pelicanref14_Fit.calls k2 _ _ ((rd_T39 l0 x3_2).f0) _ _ ((rd_T39 l0 x3_2).f1) ((rd_T39 l0 x3_2).f2) ((rd_T39 l0 x3_2).f3) ((rd_T39 l0 x3_2).f4) false _ ?side1 ?side2 ?side3 ?side4 A7.out).mono ?_); (case side1 => repeat (first | exact (Kd.C_below HR246_0.out HB.out) | (with_reducible refine Kd.C_alloc ?_ _) | (with_reducible refine Kd.C_drewN ?_ _) | (with_reducible refine Kd.C_drew ?_))); (case side2 => exact HC246_0.out); (case side3 => repeat (first | exact (Kd.C_below HR246_1.out HB.out) | (with_reducible refine Kd.C_alloc ?_ _) | (with_reducible refine Kd.C_drewN ?_ _) | (with_reducible refine Kd.C_drew ?_))); (case side4 => exact HC246_1.out); rintro e w13 ⟨rfl, hb⟩; have n0_ := Aside0.mk (below_step (by repeat (first | (with_reducible first | exact HB.out | apply below_alloc | apply pw_below_drewN | apply below_drew1) | exact HB.out)) hb); clear HB; have HB := n0_; clear n0_; (try clear hb); (try clear hb2); (try clear hk); (try clear hi))))
                  go_ret
                  exact ⟨by first | rfl | (simp [errW_none, errW_some] <;> rfl) | (simp [*, errW_none, errW_some] <;> rfl), by repeat (first | (with_reducible first | exact HB.out | apply below_alloc | apply pw_below_drewN | apply below_drew1) | exact HB.out)⟩
              · rw [if_neg c6] at H
                exact absurd H (by simp)
            · rw [if_neg c5] at H
              have c5b0 : decide (x3_2 < (l0.length : Int)) = false := decide_eq_false c5
              clear c5
              obtain rfl := Option.some.inj H
              go_wp2
              repeat (go_quiet (fail); try go_wp2)
              go_ret
              exact ⟨by first | rfl | (simp [errW_none, errW_some] <;> rfl) | (simp [*, errW_none, errW_some] <;> rfl), by repeat (first | (with_reducible first | exact HB.out | apply below_alloc | apply pw_below_drewN | apply below_drew1) | exact HB.out)⟩
end Go.Proofs.YtechgjbhgeddjaaDoor.F
