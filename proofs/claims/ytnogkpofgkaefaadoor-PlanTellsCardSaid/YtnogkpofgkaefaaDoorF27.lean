/- Woven by wip/weave/weave.py of this repo (own tool) out of the translation: the contracts of some functions. Lean checks it. -/
import Derived.Test.YtnogkpofgkaefaaDoorD
import Derived.Test.YtnogkpofgkaefaaDoorDR14
import Derived.Test.YtnogkpofgkaefaaDoorF0
import Derived.Test.YtnogkpofgkaefaaDoorF26
namespace Go.Proofs.YtnogkpofgkaefaaDoor.F
open Go.RowKit Go.Proofs.YtnogkpofgkaefaaDoorW.PrintWords Go.Proofs.YtnogkpofgkaefaaDoorW.PrintLast Go.Proofs.YtnogkpofgkaefaaDoorW.PrintMore
attribute [local go_sem] max2_int min2_int max_two min_two max_three min_three max_four min_four   -- for this text's walks alone
set_option linter.unusedVariables false
set_option linter.unusedSimpArgs false

/-! ### pelicanref14_All: function 32 -/
set_option maxHeartbeats 8000000 in
set_option maxRecDepth 100000 in
theorem pelicanref14_All.calls (k : Nat) (A0 : Option Addr) (c0 : Nat) (l0 : List (S37)) (r : Bool) (w : World) (hr0 : Kd.C k37 w A0 l0.length l0) (hc0 : l0.length ≤ c0) (h : pelicanref14_All.f k l0 = some r) :
    Calls Tryd.prog 32 #[.slice A0 l0.length c0] w fun e w' => e = .returned (.bool r) ∧ Below w.heap.size w w' := by
  have hu37 := Tryd.underlying37
  have HR0 := Aside0.mk hr0
  have HC0 := Aside0.mk hc0
  clear hr0 hc0
  have HB := Aside0.mk (Below.refl w.heap.size w)
  have H : (if (l0.length : Int) < 1 then (pelicanref14_All.j0 k l0 true) else (pelicanref14_All.j0 k l0 (decide ((l0.length : Int) > 3)))) = some r := h
  clear h
  have HC2 := Aside0.mk H
  clear H
  go_enter Tryd.func32, Tryd.ntmps32
  go_upto_region 1 with (fail)
  repeat (go_quiet (fail); go_upto_region 1 with (fail))
  go_cut [12] (fun v12 wc => ∃ (kq : Nat) (x12_1 : Bool), v12 = .bool x12_1 ∧ Aside0 (pelicanref14_All.j0 kq l0 x12_1 = some r) ∧ Aside0 (kq ≤ k) ∧ Aside0 (Below w.heap.size w wc))
  case first =>
    have H := HC2.out
    clear HC2
    by_cases c3 : (l0.length : Int) < 1
    · rw [if_pos c3] at H
      have c3b0 : decide ((l0.length : Int) < 1) = true := decide_eq_true c3
      have c3b1 : decide (l0.length < 1) = true := decide_eq_true (by omega)
      clear c3
      (first | rw [c3b0] | (simp only [i64_w, i32_w]; rw [c3b0]) | skip)
      have H' := Aside0.mk H
      clear H
      go_wp2
      repeat (go_quiet (fail); try go_wp2)
      go_meet
      case rel => exact ⟨_, (true), (by first | rfl | (simp; done) | (simp [*]; done)), H', ⟨by first | omega | exact Nat.le_refl _⟩, ⟨by repeat (first | (with_reducible first | exact HB.out | apply below_alloc | apply pw_below_drewN | apply below_drew1) | exact HB.out)⟩⟩
    · rw [if_neg c3] at H
      have c3b0 : decide ((l0.length : Int) < 1) = false := decide_eq_false c3
      have c3b1 : decide (l0.length < 1) = false := decide_eq_false (by omega)
      clear c3
      (first | rw [c3b0] | (simp only [i64_w, i32_w]; rw [c3b0]) | skip)
      have H' := Aside0.mk H
      clear H
      go_wp2
      repeat (go_quiet (fail); try go_wp2)
      go_meet
      case rel => exact ⟨_, (decide ((l0.length : Int) > 3)), (by first | rfl | (simp; done) | (simp [*]; done)), H', ⟨by first | omega | exact Nat.le_refl _⟩, ⟨by repeat (first | (with_reducible first | exact HB.out | apply below_alloc | apply pw_below_drewN | apply below_drew1) | exact HB.out)⟩⟩
  case rest =>
    clear HC2
    try clear p2
    try clear c3
    try clear c3b0
    try clear c3b1
    obtain ⟨kq, x12_1, rfl, HA, HJ1, HB⟩ := hcut
    cases kq with
    | zero => exact absurd HA.out (by simp [pelicanref14_All.j0])
    | succ kj1 =>
      have H := HA.out
      clear HA
      simp only [pelicanref14_All.j0] at H
      by_cases c4 : x12_1 = true
      · subst c4
        have H1 : (some false) = some r := by rw [if_pos rfl] at H; exact H
        clear H
        have H := H1
        clear H1
        obtain rfl := Option.some.inj H
        go_wp2
        repeat (go_quiet (fail); try go_wp2)
        go_ret
        exact ⟨by first | rfl | (simp [errW_none, errW_some] <;> rfl) | (simp [*, errW_none, errW_some] <;> rfl), by repeat (first | (with_reducible first | exact HB.out | apply below_alloc | apply pw_below_drewN | apply below_drew1) | exact HB.out)⟩
      · replace c4 := Bool.eq_false_iff.mpr c4
        subst c4
        have H1 : (pelicanref14_All.l0 kj1 l0 0) = some r := by rw [if_neg (show ¬ (false = true) by decide)] at H; exact H
        clear H
        have H := H1
        clear H1
        have H' := Aside0.mk H
        clear H
        go_wp2
        repeat (go_quiet (fail); try go_wp2)
        go_loopg [3] kj1 (fun kq v3 w' => ∃ (x3_2 : Int), v3 = .int .i64 x3_2 ∧ Aside0 (pelicanref14_All.l0 kq l0 x3_2 = some r) ∧ Aside0 (kq ≤ kj1) ∧ Aside0 (Below w.heap.size w w'))
        case atStart => exact ⟨(0), (by first | rfl | (simp; done) | (simp [*]; done)), H', ⟨Nat.le_refl _⟩, ⟨by repeat (first | (with_reducible first | exact HB.out | apply below_alloc | apply pw_below_drewN | apply below_drew1) | exact HB.out)⟩⟩
        case round =>
          clear H'
          try clear p2
          try clear c3
          try clear c3b0
          try clear c3b1
          try clear c4
          try clear p2
          obtain ⟨x3_2, rfl, HA, HK2, HB⟩ := hrel
          cases gk with
          | zero => exact absurd HA.out (by simp [pelicanref14_All.l0])
          | succ k2 =>
            have H := HA.out
            clear HA
            simp only [pelicanref14_All.l0] at H
            by_cases c5 : x3_2 < (l0.length : Int)
            · rw [if_pos c5] at H
              have c5b0 : decide (x3_2 < (l0.length : Int)) = true := decide_eq_true c5
              clear c5
              by_cases c6 : 0 ≤ x3_2
              · rw [if_pos c6] at H
                have c6b0 : decide (0 ≤ x3_2) = true := decide_eq_true c6
                clear c6
                replace H := Option.bind_eq_some_iff.mp H
                obtain ⟨t310, A70, H⟩ := H
                replace H : (if t310 = true then (if 0 < (l0.length : Int) then (if (((rd_T37 l0 x3_2).f0).length : Int) = (((rd_T37 l0 0).f0).length : Int) then (pelicanref14_All.l0 k2 l0 (wrap64 (x3_2 + 1))) else (some false)) else (none)) else (some false)) = some r := H
                have A7 := Aside0.mk A70
                clear A70
                by_cases c8 : t310 = true
                · subst c8
                  have H1 : (if 0 < (l0.length : Int) then (if (((rd_T37 l0 x3_2).f0).length : Int) = (((rd_T37 l0 0).f0).length : Int) then (pelicanref14_All.l0 k2 l0 (wrap64 (x3_2 + 1))) else (some false)) else (none)) = some r := by rw [if_pos rfl] at H; exact H
                  clear H
                  have H := H1
                  clear H1
                  by_cases c9 : 0 < (l0.length : Int)
                  · rw [if_pos c9] at H
                    have c9b0 : decide (0 < (l0.length : Int)) = true := decide_eq_true c9
                    have c9b1 : decide (0 < l0.length) = true := decide_eq_true (by omega)
                    clear c9
                    by_cases c10 : (((rd_T37 l0 x3_2).f0).length : Int) = (((rd_T37 l0 0).f0).length : Int)
                    · rw [if_pos c10] at H
                      have c10b0 : ((((rd_T37 l0 x3_2).f0).length : Int) == (((rd_T37 l0 0).f0).length : Int)) = true := beq_iff_eq.mpr c10
                      have c10b1 : ((((rd_T37 l0 x3_2).f0).length : Int) != (((rd_T37 l0 0).f0).length : Int)) = false := bne_eq_false_iff_eq.mpr c10
                      have c10b2 : (((rd_T37 l0 x3_2).f0).length == ((rd_T37 l0 0).f0).length) = true := by first | simpa using c10 | (simp at c10 ⊢; omega)
                      clear c10
                      have H' := Aside0.mk H
                      clear H
                      have p309 : 0 ≤ (x3_2 : Int) := of_decide_eq_true (by first | (with_reducible assumption) | assumption)
                      have q309 : x3_2 < (l0.length : Int) := of_decide_eq_true (by first | (with_reducible assumption) | assumption)
                      obtain ⟨ad309, A309_0, c309_0, A309_1, c309_1, e309, hx309_0, hx309_1, hx309_2, hx309_3, hx309_4, hl309_0, hi309_0, hl309_1, hi309_1⟩ := at_T37 HR0.out x3_2 p309 q309
                      cases e309
                      replace hx309_0 := (HB.out.cell (World.block_lt_of_cell? w _ hx309_0)).trans hx309_0
                      replace hx309_1 := (HB.out.cell (World.block_lt_of_cell? w _ hx309_1)).trans hx309_1
                      replace hx309_2 := (HB.out.cell (World.block_lt_of_cell? w _ hx309_2)).trans hx309_2
                      replace hx309_3 := (HB.out.cell (World.block_lt_of_cell? w _ hx309_3)).trans hx309_3
                      replace hx309_4 := (HB.out.cell (World.block_lt_of_cell? w _ hx309_4)).trans hx309_4
                      have HR309_0 := Aside0.mk hi309_0
                      have HC309_0 := Aside0.mk hl309_0
                      clear hi309_0 hl309_0
                      have HR309_1 := Aside0.mk hi309_1
                      have HC309_1 := Aside0.mk hl309_1
                      clear hi309_1 hl309_1
                      replace p309 := eq_true p309
                      replace q309 := eq_true q309
                      go_wp2_with (first | (go_at_call 31; (with_reducible refine (pelicanref14_Fit.calls k2 _ _ ((rd_T37 l0 x3_2).f0) _ _ ((rd_T37 l0 x3_2).f1) ((rd_T37 l0 x3_2).f2) ((rd_T37 l0 x3_2).f3) ((rd_T37 l0 x3_2).f4) true _ ?side1 ?side2 ?side3 ?side4 A7.out).mono ?_); (case side1 => repeat (first | exact (Kd.C_below HR309_0.out HB.out) | (with_reducible refine Kd.C_alloc ?_ _) | (with_reducible refine Kd.C_drewN ?_ _) | (with_reducible refine Kd.C_drew ?_))); (case side2 => exact HC309_0.out); (case side3 => repeat (first | exact (Kd.C_below HR309_1.out HB.out) | (with_reducible refine Kd.C_alloc ?_ _) | (with_reducible refine Kd.C_drewN ?_ _) | (with_reducible refine Kd.C_drew ?_))); (case side4 => exact HC309_1.out); rintro e w11 ⟨rfl, hb⟩; have n0_ := Aside0.mk (below_step (by repeat (first | (with_reducible first | exact HB.out | apply below_alloc | apply pw_below_drewN | apply below_drew1) | exact HB.out)) hb); clear HB; have HB := n0_; clear n0_; (try clear hb); (try clear hb2); (try clear hk); (try clear hi); have p311 : 0 ≤ (x3_2 : Int) := of_decide_eq_true (by first | (with_reducible assumption) | assumption); have q311 : x3_2 < (l0.length : Int) := of_decide_eq_true (by first | (with_reducible assumption) | assumption); obtain ⟨ad311, A311_0, c311_0, A311_1, c311_1, e311, hx311_0, hx311_1, hx311_2, hx311_3, hx311_4, hl311_0, hi311_0, hl311_1, hi311_1⟩ := at_T37 HR0.out x3_2 p311 q311; obtain rfl : ad309 = ad311 := (by injection e311); replace hx311_0 := (HB.out.cell (World.block_lt_of_cell? w _ hx311_0)).trans hx311_0; replace hx311_1 := (HB.out.cell (World.block_lt_of_cell? w _ hx311_1)).trans hx311_1; replace hx311_2 := (HB.out.cell (World.block_lt_of_cell? w _ hx311_2)).trans hx311_2; replace hx311_3 := (HB.out.cell (World.block_lt_of_cell? w _ hx311_3)).trans hx311_3; replace hx311_4 := (HB.out.cell (World.block_lt_of_cell? w _ hx311_4)).trans hx311_4; have HR311_0 := Aside0.mk hi311_0; have HC311_0 := Aside0.mk hl311_0; clear hi311_0 hl311_0; have HR311_1 := Aside0.mk hi311_1; have HC311_1 := Aside0.mk hl311_1; clear hi311_1 hl311_1; replace p311 := eq_true p311; replace q311 := eq_true q311; have p312 : 0 ≤ (0 : Int) := (by omega); have q312 : 0 < (l0.length : Int) := of_decide_eq_true (by first | (with_reducible assumption) | assumption); obtain ⟨ad312, A312_0, c312_0, A312_1, c312_1, e312, hx312_0, hx312_1, hx312_2, hx312_3, hx312_4, hl312_0, hi312_0, hl312_1, hi312_1⟩ := at_T37 HR0.out 0 p312 q312; obtain rfl : ad309 = ad312 := (by injection e312); have qi312 : (0 < l0.length) = True := eq_true (by omega); (try rw [show ((0 : Int)).toNat = 0 from rfl] at hx312_0); (try rw [show 0 * 5 = 0 from rfl] at hx312_0); (try rw [Addr.add_zero'] at hx312_0); (try rw [show ((0 : Int)).toNat = 0 from rfl] at hx312_1); (try rw [show 0 * 5 = 0 from rfl] at hx312_1); (try rw [Addr.add_zero'] at hx312_1); (try rw [show ((0 : Int)).toNat = 0 from rfl] at hx312_2); (try rw [show 0 * 5 = 0 from rfl] at hx312_2); (try rw [Addr.add_zero'] at hx312_2); (try rw [show ((0 : Int)).toNat = 0 from rfl] at hx312_3); (try rw [show 0 * 5 = 0 from rfl] at hx312_3); (try rw [Addr.add_zero'] at hx312_3); (try rw [show ((0 : Int)).toNat = 0 from rfl] at hx312_4); (try rw [show 0 * 5 = 0 from rfl] at hx312_4); (try rw [Addr.add_zero'] at hx312_4); replace hx312_0 := (HB.out.cell (World.block_lt_of_cell? w _ hx312_0)).trans hx312_0; replace hx312_1 := (HB.out.cell (World.block_lt_of_cell? w _ hx312_1)).trans hx312_1; replace hx312_2 := (HB.out.cell (World.block_lt_of_cell? w _ hx312_2)).trans hx312_2; replace hx312_3 := (HB.out.cell (World.block_lt_of_cell? w _ hx312_3)).trans hx312_3; replace hx312_4 := (HB.out.cell (World.block_lt_of_cell? w _ hx312_4)).trans hx312_4; have HR312_0 := Aside0.mk hi312_0; have HC312_0 := Aside0.mk hl312_0; clear hi312_0 hl312_0; have HR312_1 := Aside0.mk hi312_1; have HC312_1 := Aside0.mk hl312_1; clear hi312_1 hl312_1; replace p312 := eq_true p312; replace q312 := eq_true q312))
                      repeat (go_quiet (first | (go_at_call 31; (with_reducible refine (pelicanref14_Fit.calls k2 _ _ ((rd_T37 l0 x3_2).f0) _ _ ((rd_T37 l0 x3_2).f1) ((rd_T37 l0 x3_2).f2) ((rd_T37 l0 x3_2).f3) ((rd_T37 l0 x3_2).f4) true _ ?side1 ?side2 ?side3 ?side4 A7.out).mono ?_); (case side1 => repeat (first | exact (Kd.C_below HR309_0.out HB.out) | (with_reducible refine Kd.C_alloc ?_ _) | (with_reducible refine Kd.C_drewN ?_ _) | (with_reducible refine Kd.C_drew ?_))); (case side2 => exact HC309_0.out); (case side3 => repeat (first | exact (Kd.C_below HR309_1.out HB.out) | (with_reducible refine Kd.C_alloc ?_ _) | (with_reducible refine Kd.C_drewN ?_ _) | (with_reducible refine Kd.C_drew ?_))); (case side4 => exact HC309_1.out); rintro e w11 ⟨rfl, hb⟩; have n0_ := Aside0.mk (below_step (by repeat (first | (with_reducible first | exact HB.out | apply below_alloc | apply pw_below_drewN | apply below_drew1) | exact HB.out)) hb); clear HB; have HB := n0_; clear n0_; (try clear hb); (try clear hb2); (try clear hk); (try clear hi); have p311 : 0 ≤ (x3_2 : Int) := of_decide_eq_true (by first | (with_reducible assumption) | assumption); have q311 : x3_2 < (l0.length : Int) := of_decide_eq_true (by first | (with_reducible assumption) | assumption); obtain ⟨ad311, A311_0, c311_0, A311_1, c311_1, e311, hx311_0, hx311_1, hx311_2, hx311_3, hx311_4, hl311_0, hi311_0, hl311_1, hi311_1⟩ := at_T37 HR0.out x3_2 p311 q311; obtain rfl : ad309 = ad311 := (by injection e311); replace hx311_0 := (HB.out.cell (World.block_lt_of_cell? w _ hx311_0)).trans hx311_0; replace hx311_1 := (HB.out.cell (World.block_lt_of_cell? w _ hx311_1)).trans hx311_1; replace hx311_2 := (HB.out.cell (World.block_lt_of_cell? w _ hx311_2)).trans hx311_2; replace hx311_3 := (HB.out.cell (World.block_lt_of_cell? w _ hx311_3)).trans hx311_3; replace hx311_4 := (HB.out.cell (World.block_lt_of_cell? w _ hx311_4)).trans hx311_4; have HR311_0 := Aside0.mk hi311_0; have HC311_0 := Aside0.mk hl311_0; clear hi311_0 hl311_0; have HR311_1 := Aside0.mk hi311_1; have HC311_1 := Aside0.mk hl311_1; clear hi311_1 hl311_1; replace p311 := eq_true p311; replace q311 := eq_true q311; have p312 : 0 ≤ (0 : Int) := (by omega); have q312 : 0 < (l0.length : Int) := of_decide_eq_true (by first | (with_reducible assumption) | assumption); obtain ⟨ad312, A312_0, c312_0, A312_1, c312_1, e312, hx312_0, hx312_1, hx312_2, hx312_3, hx312_4, hl312_0, hi312_0, hl312_1, hi312_1⟩ := at_T37 HR0.out 0 p312 q312; obtain rfl : ad309 = ad312 := (by injection e312); have qi312 : (0 < l0.length) = True := eq_true (by omega); (try rw [show ((0 : Int)).toNat = 0 from rfl] at hx312_0); (try rw [show 0 * 5 = 0 from rfl] at hx312_0); (try rw [Addr.add_zero'] at hx312_0); (try rw [show ((0 : Int)).toNat = 0 from rfl] at hx312_1); (try rw [show 0 * 5 = 0 from rfl] at hx312_1); (try rw [Addr.add_zero'] at hx312_1); (try rw [show ((0 : Int)).toNat = 0 from rfl] at hx312_2); (try rw [show 0 * 5 = 0 from rfl] at hx312_2); (try rw [Addr.add_zero'] at hx312_2); (try rw [show ((0 : Int)).toNat = 0 from rfl] at hx312_3); (try rw [show 0 * 5 = 0 from rfl] at hx312_3); (try rw [Addr.add_zero'] at hx312_3); (try rw [show ((0 : Int)).toNat = 0 from rfl] at hx312_4); (try rw [show 0 * 5 = 0 from rfl] at hx312_4); (try rw [Addr.add_zero'] at hx312_4); replace hx312_0 := (HB.out.cell (World.block_lt_of_cell? w _ hx312_0)).trans hx312_0; replace hx312_1 := (HB.out.cell (World.block_lt_of_cell? w _ hx312_1)).trans hx312_1; replace hx312_2 := (HB.out.cell (World.block_lt_of_cell? w _ hx312_2)).trans hx312_2; replace hx312_3 := (HB.out.cell (World.block_lt_of_cell? w _ hx312_3)).trans hx312_3; replace hx312_4 := (HB.out.cell (World.block_lt_of_cell? w _ hx312_4)).trans hx312_4; have HR312_0 := Aside0.mk hi312_0; have HC312_0 := Aside0.mk hl312_0; clear hi312_0 hl312_0; have HR312_1 := Aside0.mk hi312_1; have HC312_1 := Aside0.mk hl312_1; clear hi312_1 hl312_1; replace p312 := eq_true p312; replace q312 := eq_true q312)); try go_wp2_with (first | (go_at_call 31; (with_reducible refine (pelicanref14_Fit.calls k2 _ _ ((rd_T37 l0 x3_2).f0) _ _ ((rd_T37 l0 x3_2).f1) ((rd_T37 l0 x3_2).f2) ((rd_T37 l0 x3_2).f3) ((rd_T37 l0 x3_2).f4) true _ ?side1 ?side2 ?side3 ?side4 A7.out).mono ?_); (case side1 => repeat (first | exact (Kd.C_below HR309_0.out HB.out) | (with_reducible refine Kd.C_alloc ?_ _) | (with_reducible refine Kd.C_drewN ?_ _) | (with_reducible refine Kd.C_drew ?_))); (case side2 => exact HC309_0.out); (case side3 => repeat (first | exact (Kd.C_below HR309_1.out HB.out) | (with_reducible refine Kd.C_alloc ?_ _) | (with_reducible refine Kd.C_drewN ?_ _) | (with_reducible refine Kd.C_drew ?_))); (case side4 => exact HC309_1.out); rintro e w11 ⟨rfl, hb⟩; have n0_ := Aside0.mk (below_step (by repeat (first | (with_reducible first | exact HB.out | apply below_alloc | apply pw_below_drewN | apply below_drew1) | exact HB.out)) hb); clear HB; have HB := n0_; clear n0_; (try clear hb); (try clear hb2); (try clear hk); (try clear hi); have p311 : 0 ≤ (x3_2 : Int) := of_decide_eq_true (by first | (with_reducible assumption) | assumption); have q311 : x3_2 < (l0.length : Int) := of_decide_eq_true (by first | (with_reducible assumption) | assumption); obtain ⟨ad311, A311_0, c311_0, A311_1, c311_1, e311, hx311_0, hx311_1, hx311_2, hx311_3, hx311_4, hl311_0, hi311_0, hl311_1, hi311_1⟩ := at_T37 HR0.out x3_2 p311 q311; obtain rfl : ad309 = ad311 := (by injection e311); replace hx311_0 := (HB.out.cell (World.block_lt_of_cell? w _ hx311_0)).trans hx311_0; replace hx311_1 := (HB.out.cell (World.block_lt_of_cell? w _ hx311_1)).trans hx311_1; replace hx311_2 := (HB.out.cell (World.block_lt_of_cell? w _ hx311_2)).trans hx311_2; replace hx311_3 := (HB.out.cell (World.block_lt_of_cell? w _ hx311_3)).trans hx311_3; replace hx311_4 := (HB.out.cell (World.block_lt_of_cell? w _ hx311_4)).trans hx311_4; have HR311_0 := Aside0.mk hi311_0; have HC311_0 := Aside0.mk hl311_0; clear hi311_0 hl311_0; have HR311_1 := Aside0.mk hi311_1; have HC311_1 := Aside0.mk hl311_1; clear hi311_1 hl311_1; replace p311 := eq_true p311; replace q311 := eq_true q311; have p312 : 0 ≤ (0 : Int) := (by omega); have q312 : 0 < (l0.length : Int) := of_decide_eq_true (by first | (with_reducible assumption) | assumption); obtain ⟨ad312, A312_0, c312_0, A312_1, c312_1, e312, hx312_0, hx312_1, hx312_2, hx312_3, hx312_4, hl312_0, hi312_0, hl312_1, hi312_1⟩ := at_T37 HR0.out 0 p312 q312; obtain rfl : ad309 = ad312 := (by injection e312); have qi312 : (0 < l0.length) = True := eq_true (by omega); (try rw [show ((0 : Int)).toNat = 0 from rfl] at hx312_0); (try rw [show 0 * 5 = 0 from rfl] at hx312_0); (try rw [Addr.add_zero'] at hx312_0); (try rw [show ((0 : Int)).toNat = 0 from rfl] at hx312_1); (try rw [show 0 * 5 = 0 from rfl] at hx312_1); (try rw [Addr.add_zero'] at hx312_1); (try rw [show ((0 : Int)).toNat = 0 from rfl] at hx312_2); (try rw [show 0 * 5 = 0 from rfl] at hx312_2); (try rw [Addr.add_zero'] at hx312_2); (try rw [show ((0 : Int)).toNat = 0 from rfl] at hx312_3); (try rw [show 0 * 5 = 0 from rfl] at hx312_3); (try rw [Addr.add_zero'] at hx312_3); (try rw [show ((0 : Int)).toNat = 0 from rfl] at hx312_4); (try rw [show 0 * 5 = 0 from rfl] at hx312_4); (try rw [Addr.add_zero'] at hx312_4); replace hx312_0 := (HB.out.cell (World.block_lt_of_cell? w _ hx312_0)).trans hx312_0; replace hx312_1 := (HB.out.cell (World.block_lt_of_cell? w _ hx312_1)).trans hx312_1; replace hx312_2 := (HB.out.cell (World.block_lt_of_cell? w _ hx312_2)).trans hx312_2; replace hx312_3 := (HB.out.cell (World.block_lt_of_cell? w _ hx312_3)).trans hx312_3; replace hx312_4 := (HB.out.cell (World.block_lt_of_cell? w _ hx312_4)).trans hx312_4; have HR312_0 := Aside0.mk hi312_0; have HC312_0 := Aside0.mk hl312_0; clear hi312_0 hl312_0; have HR312_1 := Aside0.mk hi312_1; have HC312_1 := Aside0.mk hl312_1; clear hi312_1 hl312_1; replace p312 := eq_true p312; replace q312 := eq_true q312)))
                      go_roundg k2
                      case measure => have := HJ1.out; have := HK2.out; omega
                      case rel => exact ⟨(wrap64 (x3_2 + 1)), (by first | rfl | (simp; done) | (simp [*]; done)), H', ⟨by have := HJ1.out; have := HK2.out; omega⟩, ⟨by repeat (first | (with_reducible first | exact HB.out | apply below_alloc | apply pw_below_drewN | apply below_drew1) | exact HB.out)⟩⟩
                    · rw [if_neg c10] at H
                      have c10b0 : ((((rd_T37 l0 x3_2).f0).length : Int) == (((rd_T37 l0 0).f0).length : Int)) = false := beq_eq_false_iff_ne.mpr c10
                      have c10b1 : ((((rd_T37 l0 x3_2).f0).length : Int) != (((rd_T37 l0 0).f0).length : Int)) = true := bne_iff_ne.mpr c10
                      have c10b2 : (((rd_T37 l0 x3_2).f0).length == ((rd_T37 l0 0).f0).length) = false := by first | simpa using c10 | (simp at c10 ⊢; omega)
                      obtain rfl := Option.some.inj H
                      have p309 : 0 ≤ (x3_2 : Int) := of_decide_eq_true (by first | (with_reducible assumption) | assumption)
                      have q309 : x3_2 < (l0.length : Int) := of_decide_eq_true (by first | (with_reducible assumption) | assumption)
                      obtain ⟨ad309, A309_0, c309_0, A309_1, c309_1, e309, hx309_0, hx309_1, hx309_2, hx309_3, hx309_4, hl309_0, hi309_0, hl309_1, hi309_1⟩ := at_T37 HR0.out x3_2 p309 q309
                      cases e309
                      replace hx309_0 := (HB.out.cell (World.block_lt_of_cell? w _ hx309_0)).trans hx309_0
                      replace hx309_1 := (HB.out.cell (World.block_lt_of_cell? w _ hx309_1)).trans hx309_1
                      replace hx309_2 := (HB.out.cell (World.block_lt_of_cell? w _ hx309_2)).trans hx309_2
                      replace hx309_3 := (HB.out.cell (World.block_lt_of_cell? w _ hx309_3)).trans hx309_3
                      replace hx309_4 := (HB.out.cell (World.block_lt_of_cell? w _ hx309_4)).trans hx309_4
                      have HR309_0 := Aside0.mk hi309_0
                      have HC309_0 := Aside0.mk hl309_0
                      clear hi309_0 hl309_0
                      have HR309_1 := Aside0.mk hi309_1
                      have HC309_1 := Aside0.mk hl309_1
                      clear hi309_1 hl309_1
                      replace p309 := eq_true p309
                      replace q309 := eq_true q309
                      go_wp2_with (first | (go_at_call 31; (with_reducible refine (pelicanref14_Fit.calls k2 _ _ ((rd_T37 l0 x3_2).f0) _ _ ((rd_T37 l0 x3_2).f1) ((rd_T37 l0 x3_2).f2) ((rd_T37 l0 x3_2).f3) ((rd_T37 l0 x3_2).f4) true _ ?side1 ?side2 ?side3 ?side4 A7.out).mono ?_); (case side1 => repeat (first | exact (Kd.C_below HR309_0.out HB.out) | (with_reducible refine Kd.C_alloc ?_ _) | (with_reducible refine Kd.C_drewN ?_ _) | (with_reducible refine Kd.C_drew ?_))); (case side2 => exact HC309_0.out); (case side3 => repeat (first | exact (Kd.C_below HR309_1.out HB.out) | (with_reducible refine Kd.C_alloc ?_ _) | (with_reducible refine Kd.C_drewN ?_ _) | (with_reducible refine Kd.C_drew ?_))); (case side4 => exact HC309_1.out); rintro e w12 ⟨rfl, hb⟩; have n0_ := Aside0.mk (below_step (by repeat (first | (with_reducible first | exact HB.out | apply below_alloc | apply pw_below_drewN | apply below_drew1) | exact HB.out)) hb); clear HB; have HB := n0_; clear n0_; (try clear hb); (try clear hb2); (try clear hk); (try clear hi); have p311 : 0 ≤ (x3_2 : Int) := of_decide_eq_true (by first | (with_reducible assumption) | assumption); have q311 : x3_2 < (l0.length : Int) := of_decide_eq_true (by first | (with_reducible assumption) | assumption); obtain ⟨ad311, A311_0, c311_0, A311_1, c311_1, e311, hx311_0, hx311_1, hx311_2, hx311_3, hx311_4, hl311_0, hi311_0, hl311_1, hi311_1⟩ := at_T37 HR0.out x3_2 p311 q311; obtain rfl : ad309 = ad311 := (by injection e311); replace hx311_0 := (HB.out.cell (World.block_lt_of_cell? w _ hx311_0)).trans hx311_0; replace hx311_1 := (HB.out.cell (World.block_lt_of_cell? w _ hx311_1)).trans hx311_1; replace hx311_2 := (HB.out.cell (World.block_lt_of_cell? w _ hx311_2)).trans hx311_2; replace hx311_3 := (HB.out.cell (World.block_lt_of_cell? w _ hx311_3)).trans hx311_3; replace hx311_4 := (HB.out.cell (World.block_lt_of_cell? w _ hx311_4)).trans hx311_4; have HR311_0 := Aside0.mk hi311_0; have HC311_0 := Aside0.mk hl311_0; clear hi311_0 hl311_0; have HR311_1 := Aside0.mk hi311_1; have HC311_1 := Aside0.mk hl311_1; clear hi311_1 hl311_1; replace p311 := eq_true p311; replace q311 := eq_true q311; have p312 : 0 ≤ (0 : Int) := (by omega); have q312 : 0 < (l0.length : Int) := of_decide_eq_true (by first | (with_reducible assumption) | assumption); obtain ⟨ad312, A312_0, c312_0, A312_1, c312_1, e312, hx312_0, hx312_1, hx312_2, hx312_3, hx312_4, hl312_0, hi312_0, hl312_1, hi312_1⟩ := at_T37 HR0.out 0 p312 q312; obtain rfl : ad309 = ad312 := (by injection e312); have qi312 : (0 < l0.length) = True := eq_true (by omega); (try rw [show ((0 : Int)).toNat = 0 from rfl] at hx312_0); (try rw [show 0 * 5 = 0 from rfl] at hx312_0); (try rw [Addr.add_zero'] at hx312_0); (try rw [show ((0 : Int)).toNat = 0 from rfl] at hx312_1); (try rw [show 0 * 5 = 0 from rfl] at hx312_1); (try rw [Addr.add_zero'] at hx312_1); (try rw [show ((0 : Int)).toNat = 0 from rfl] at hx312_2); (try rw [show 0 * 5 = 0 from rfl] at hx312_2); (try rw [Addr.add_zero'] at hx312_2); (try rw [show ((0 : Int)).toNat = 0 from rfl] at hx312_3); (try rw [show 0 * 5 = 0 from rfl] at hx312_3); (try rw [Addr.add_zero'] at hx312_3); (try rw [show ((0 : Int)).toNat = 0 from rfl] at hx312_4); (try rw [show 0 * 5 = 0 from rfl] at hx312_4); (try rw [Addr.add_zero'] at hx312_4); replace hx312_0 := (HB.out.cell (World.block_lt_of_cell? w _ hx312_0)).trans hx312_0; replace hx312_1 := (HB.out.cell (World.block_lt_of_cell? w _ hx312_1)).trans hx312_1; replace hx312_2 := (HB.out.cell (World.block_lt_of_cell? w _ hx312_2)).trans hx312_2; replace hx312_3 := (HB.out.cell (World.block_lt_of_cell? w _ hx312_3)).trans hx312_3; replace hx312_4 := (HB.out.cell (World.block_lt_of_cell? w _ hx312_4)).trans hx312_4; have HR312_0 := Aside0.mk hi312_0; have HC312_0 := Aside0.mk hl312_0; clear hi312_0 hl312_0; have HR312_1 := Aside0.mk hi312_1; have HC312_1 := Aside0.mk hl312_1; clear hi312_1 hl312_1; replace p312 := eq_true p312; replace q312 := eq_true q312))
                      repeat (go_quiet (first | (go_at_call 31; (with_reducible refine (pelicanref14_Fit.calls k2 _ _ ((rd_T37 l0 x3_2).f0) _ _ ((rd_T37 l0 x3_2).f1) ((rd_T37 l0 x3_2).f2) ((rd_T37 l0 x3_2).f3) ((rd_T37 l0 x3_2).f4) true _ ?side1 ?side2 ?side3 ?side4 A7.out).mono ?_); (case side1 => repeat (first | exact (Kd.C_below HR309_0.out HB.out) | (with_reducible refine Kd.C_alloc ?_ _) | (with_reducible refine Kd.C_drewN ?_ _) | (with_reducible refine Kd.C_drew ?_))); (case side2 => exact HC309_0.out); (case side3 => repeat (first | exact (Kd.C_below HR309_1.out HB.out) | (with_reducible refine Kd.C_alloc ?_ _) | (with_reducible refine Kd.C_drewN ?_ _) | (with_reducible refine Kd.C_drew ?_))); (case side4 => exact HC309_1.out); rintro e w12 ⟨rfl, hb⟩; have n0_ := Aside0.mk (below_step (by repeat (first | (with_reducible first | exact HB.out | apply below_alloc | apply pw_below_drewN | apply below_drew1) | exact HB.out)) hb); clear HB; have HB := n0_; clear n0_; (try clear hb); (try clear hb2); (try clear hk); (try clear hi); have p311 : 0 ≤ (x3_2 : Int) := of_decide_eq_true (by first | (with_reducible assumption) | assumption); have q311 : x3_2 < (l0.length : Int) := of_decide_eq_true (by first | (with_reducible assumption) | assumption); obtain ⟨ad311, A311_0, c311_0, A311_1, c311_1, e311, hx311_0, hx311_1, hx311_2, hx311_3, hx311_4, hl311_0, hi311_0, hl311_1, hi311_1⟩ := at_T37 HR0.out x3_2 p311 q311; obtain rfl : ad309 = ad311 := (by injection e311); replace hx311_0 := (HB.out.cell (World.block_lt_of_cell? w _ hx311_0)).trans hx311_0; replace hx311_1 := (HB.out.cell (World.block_lt_of_cell? w _ hx311_1)).trans hx311_1; replace hx311_2 := (HB.out.cell (World.block_lt_of_cell? w _ hx311_2)).trans hx311_2; replace hx311_3 := (HB.out.cell (World.block_lt_of_cell? w _ hx311_3)).trans hx311_3; replace hx311_4 := (HB.out.cell (World.block_lt_of_cell? w _ hx311_4)).trans hx311_4; have HR311_0 := Aside0.mk hi311_0; have HC311_0 := Aside0.mk hl311_0; clear hi311_0 hl311_0; have HR311_1 := Aside0.mk hi311_1; have HC311_1 := Aside0.mk hl311_1; clear hi311_1 hl311_1; replace p311 := eq_true p311; replace q311 := eq_true q311; have p312 : 0 ≤ (0 : Int) := (by omega); have q312 : 0 < (l0.length : Int) := of_decide_eq_true (by first | (with_reducible assumption) | assumption); obtain ⟨ad312, A312_0, c312_0, A312_1, c312_1, e312, hx312_0, hx312_1, hx312_2, hx312_3, hx312_4, hl312_0, hi312_0, hl312_1, hi312_1⟩ := at_T37 HR0.out 0 p312 q312; obtain rfl : ad309 = ad312 := (by injection e312); have qi312 : (0 < l0.length) = True := eq_true (by omega); (try rw [show ((0 : Int)).toNat = 0 from rfl] at hx312_0); (try rw [show 0 * 5 = 0 from rfl] at hx312_0); (try rw [Addr.add_zero'] at hx312_0); (try rw [show ((0 : Int)).toNat = 0 from rfl] at hx312_1); (try rw [show 0 * 5 = 0 from rfl] at hx312_1); (try rw [Addr.add_zero'] at hx312_1); (try rw [show ((0 : Int)).toNat = 0 from rfl] at hx312_2); (try rw [show 0 * 5 = 0 from rfl] at hx312_2); (try rw [Addr.add_zero'] at hx312_2); (try rw [show ((0 : Int)).toNat = 0 from rfl] at hx312_3); (try rw [show 0 * 5 = 0 from rfl] at hx312_3); (try rw [Addr.add_zero'] at hx312_3); (try rw [show ((0 : Int)).toNat = 0 from rfl] at hx312_4); (try rw [show 0 * 5 = 0 from rfl] at hx312_4); (try rw [Addr.add_zero'] at hx312_4); replace hx312_0 := (HB.out.cell (World.block_lt_of_cell? w _ hx312_0)).trans hx312_0; replace hx312_1 := (HB.out.cell (World.block_lt_of_cell? w _ hx312_1)).trans hx312_1; replace hx312_2 := (HB.out.cell (World.block_lt_of_cell? w _ hx312_2)).trans hx312_2; replace hx312_3 := (HB.out.cell (World.block_lt_of_cell? w _ hx312_3)).trans hx312_3; replace hx312_4 := (HB.out.cell (World.block_lt_of_cell? w _ hx312_4)).trans hx312_4; have HR312_0 := Aside0.mk hi312_0; have HC312_0 := Aside0.mk hl312_0; clear hi312_0 hl312_0; have HR312_1 := Aside0.mk hi312_1; have HC312_1 := Aside0.mk hl312_1; clear hi312_1 hl312_1; replace p312 := eq_true p312; replace q312 := eq_true q312)); try go_wp2_with (first | (go_at_call 31; (with_reducible refine (pelicanref14_Fit.calls k2 _ _ ((rd_T37 l0 x3_2).f0) _ _ ((rd_T37 l0 x3_2).f1) ((rd_T37 l0 x3_2).f2) ((rd_T37 l0 x3_2).f3) ((rd_T37 l0 x3_2).f4) true _ ?side1 ?side2 ?side3 ?side4 A7.out).mono ?_); (case side1 => repeat (first | exact (Kd.C_below HR309_0.out HB.out) | (with_reducible refine Kd.C_alloc ?_ _) | (with_reducible refine Kd.C_drewN ?_ _) | (with_reducible refine Kd.C_drew ?_))); (case side2 => exact HC309_0.out); (case side3 => repeat (first | exact (Kd.C_below HR309_1.out HB.out) | (with_reducible refine Kd.C_alloc ?_ _) | (with_reducible refine Kd.C_drewN ?_ _) | (with_reducible refine Kd.C_drew ?_))); (case side4 => exact HC309_1.out); rintro e w12 ⟨rfl, hb⟩; have n0_ := Aside0.mk (below_step (by repeat (first | (with_reducible first | exact HB.out | apply below_alloc | apply pw_below_drewN | apply below_drew1) | exact HB.out)) hb); clear HB; have HB := n0_; clear n0_; (try clear hb); (try clear hb2); (try clear hk); (try clear hi); have p311 : 0 ≤ (x3_2 : Int) := of_decide_eq_true (by first | (with_reducible assumption) | assumption); have q311 : x3_2 < (l0.length : Int) := of_decide_eq_true (by first | (with_reducible assumption) | assumption); obtain ⟨ad311, A311_0, c311_0, A311_1, c311_1, e311, hx311_0, hx311_1, hx311_2, hx311_3, hx311_4, hl311_0, hi311_0, hl311_1, hi311_1⟩ := at_T37 HR0.out x3_2 p311 q311; obtain rfl : ad309 = ad311 := (by injection e311); replace hx311_0 := (HB.out.cell (World.block_lt_of_cell? w _ hx311_0)).trans hx311_0; replace hx311_1 := (HB.out.cell (World.block_lt_of_cell? w _ hx311_1)).trans hx311_1; replace hx311_2 := (HB.out.cell (World.block_lt_of_cell? w _ hx311_2)).trans hx311_2; replace hx311_3 := (HB.out.cell (World.block_lt_of_cell? w _ hx311_3)).trans hx311_3; replace hx311_4 := (HB.out.cell (World.block_lt_of_cell? w _ hx311_4)).trans hx311_4; have HR311_0 := Aside0.mk hi311_0; have HC311_0 := Aside0.mk hl311_0; clear hi311_0 hl311_0; have HR311_1 := Aside0.mk hi311_1; have HC311_1 := Aside0.mk hl311_1; clear hi311_1 hl311_1; replace p311 := eq_true p311; replace q311 := eq_true q311; have p312 : 0 ≤ (0 : Int) := (by omega); have q312 : 0 < (l0.length : Int) := of_decide_eq_true (by first | (with_reducible assumption) | assumption); obtain ⟨ad312, A312_0, c312_0, A312_1, c312_1, e312, hx312_0, hx312_1, hx312_2, hx312_3, hx312_4, hl312_0, hi312_0, hl312_1, hi312_1⟩ := at_T37 HR0.out 0 p312 q312; obtain rfl : ad309 = ad312 := (by injection e312); have qi312 : (0 < l0.length) = True := eq_true (by omega); (try rw [show ((0 : Int)).toNat = 0 from rfl] at hx312_0); (try rw [show 0 * 5 = 0 from rfl] at hx312_0); (try rw [Addr.add_zero'] at hx312_0); (try rw [show ((0 : Int)).toNat = 0 from rfl] at hx312_1); (try rw [show 0 * 5 = 0 from rfl] at hx312_1); (try rw [Addr.add_zero'] at hx312_1); (try rw [show ((0 : Int)).toNat = 0 from rfl] at hx312_2); (try rw [show 0 * 5 = 0 from rfl] at hx312_2); (try rw [Addr.add_zero'] at hx312_2); (try rw [show ((0 : Int)).toNat = 0 from rfl] at hx312_3); (try rw [show 0 * 5 = 0 from rfl] at hx312_3); (try rw [Addr.add_zero'] at hx312_3); (try rw [show ((0 : Int)).toNat = 0 from rfl] at hx312_4); (try rw [show 0 * 5 = 0 from rfl] at hx312_4); (try rw [Addr.add_zero'] at hx312_4); replace hx312_0 := (HB.out.cell (World.block_lt_of_cell? w _ hx312_0)).trans hx312_0; replace hx312_1 := (HB.out.cell (World.block_lt_of_cell? w _ hx312_1)).trans hx312_1; replace hx312_2 := (HB.out.cell (World.block_lt_of_cell? w _ hx312_2)).trans hx312_2; replace hx312_3 := (HB.out.cell (World.block_lt_of_cell? w _ hx312_3)).trans hx312_3; replace hx312_4 := (HB.out.cell (World.block_lt_of_cell? w _ hx312_4)).trans hx312_4; have HR312_0 := Aside0.mk hi312_0; have HC312_0 := Aside0.mk hl312_0; clear hi312_0 hl312_0; have HR312_1 := Aside0.mk hi312_1; have HC312_1 := Aside0.mk hl312_1; clear hi312_1 hl312_1; replace p312 := eq_true p312; replace q312 := eq_true q312)))
                      go_ret
                      exact ⟨by first | rfl | (simp [errW_none, errW_some] <;> rfl) | (simp [*, errW_none, errW_some] <;> rfl), by repeat (first | (with_reducible first | exact HB.out | apply below_alloc | apply pw_below_drewN | apply below_drew1) | exact HB.out)⟩
                  · rw [if_neg c9] at H
                    exact absurd H (by simp)
                · replace c8 := Bool.eq_false_iff.mpr c8
                  subst c8
                  have H1 : (some false) = some r := by rw [if_neg (show ¬ (false = true) by decide)] at H; exact H
                  clear H
                  have H := H1
                  clear H1
                  obtain rfl := Option.some.inj H
                  have p309 : 0 ≤ (x3_2 : Int) := of_decide_eq_true (by first | (with_reducible assumption) | assumption)
                  have q309 : x3_2 < (l0.length : Int) := of_decide_eq_true (by first | (with_reducible assumption) | assumption)
                  obtain ⟨ad309, A309_0, c309_0, A309_1, c309_1, e309, hx309_0, hx309_1, hx309_2, hx309_3, hx309_4, hl309_0, hi309_0, hl309_1, hi309_1⟩ := at_T37 HR0.out x3_2 p309 q309
                  cases e309
                  replace hx309_0 := (HB.out.cell (World.block_lt_of_cell? w _ hx309_0)).trans hx309_0
                  replace hx309_1 := (HB.out.cell (World.block_lt_of_cell? w _ hx309_1)).trans hx309_1
                  replace hx309_2 := (HB.out.cell (World.block_lt_of_cell? w _ hx309_2)).trans hx309_2
                  replace hx309_3 := (HB.out.cell (World.block_lt_of_cell? w _ hx309_3)).trans hx309_3
                  replace hx309_4 := (HB.out.cell (World.block_lt_of_cell? w _ hx309_4)).trans hx309_4
                  have HR309_0 := Aside0.mk hi309_0
                  have HC309_0 := Aside0.mk hl309_0
                  clear hi309_0 hl309_0
                  have HR309_1 := Aside0.mk hi309_1
                  have HC309_1 := Aside0.mk hl309_1
                  clear hi309_1 hl309_1
                  replace p309 := eq_true p309
                  replace q309 := eq_true q309
                  go_wp2_with (first | (go_at_call 31; (with_reducible refine (pelicanref14_Fit.calls k2 _ _ ((rd_T37 l0 x3_2).f0) _ _ ((rd_T37 l0 x3_2).f1) ((rd_T37 l0 x3_2).f2) ((rd_T37 l0 x3_2).f3) ((rd_T37 l0 x3_2).f4) false _ ?side1 ?side2 ?side3 ?side4 A7.out).mono ?_); (case side1 => repeat (first | exact (Kd.C_below HR309_0.out HB.out) | (with_reducible refine Kd.C_alloc ?_ _) | (with_reducible refine Kd.C_drewN ?_ _) | (with_reducible refine Kd.C_drew ?_))); (case side2 => exact HC309_0.out); (case side3 => repeat (first | exact (Kd.C_below HR309_1.out HB.out) | (with_reducible refine Kd.C_alloc ?_ _) | (with_reducible refine Kd.C_drewN ?_ _) | (with_reducible refine Kd.C_drew ?_))); (case side4 => exact HC309_1.out); rintro e w13 ⟨rfl, hb⟩; have n0_ := Aside0.mk (below_step (by repeat (first | (with_reducible first | exact HB.out | apply below_alloc | apply pw_below_drewN | apply below_drew1) | exact HB.out)) hb); clear HB; have HB := n0_; clear n0_; (try clear hb); (try clear hb2); (try clear hk); (try clear hi)))
                  repeat (go_quiet (first | (go_at_call 31; (with_reducible refine (pelicanref14_Fit.calls k2 _ _ ((rd_T37 l0 x3_2).f0) _ _ ((rd_T37 l0 x3_2).f1) ((rd_T37 l0 x3_2).f2) ((rd_T37 l0 x3_2).f3) ((rd_T37 l0 x3_2).f4) false _ ?side1 ?side2 ?side3 ?side4 A7.out).mono ?_); (case side1 => repeat (first | exact (Kd.C_below HR309_0.out HB.out) | (with_reducible refine Kd.C_alloc ?_ _) | (with_reducible refine Kd.C_drewN ?_ _) | (with_reducible refine Kd.C_drew ?_))); (case side2 => exact HC309_0.out); (case side3 => repeat (first | exact (Kd.C_below HR309_1.out HB.out) | (with_reducible refine Kd.C_alloc ?_ _) | (with_reducible refine Kd.C_drewN ?_ _) | (with_reducible refine Kd.C_drew ?_))); (case side4 => exact HC309_1.out); rintro e w13 ⟨rfl, hb⟩; have n0_ := Aside0.mk (below_step (by repeat (first | (with_reducible first | exact HB.out | apply below_alloc | apply pw_below_drewN | apply below_drew1) | exact HB.out)) hb); clear HB; have HB := n0_; clear n0_; (try clear hb); (try clear hb2); (try clear hk); (try clear hi))); try go_wp2_with (first | (go_at_call 31; (with_reducible refine (pelicanref14_Fit.calls k2 _ _ ((rd_T37 l0 x3_2).f0) _ _ ((rd_T37 l0 x3_2).f1) ((rd_T37 l0 x3_2).f2) ((rd_T37 l0 x3_2).f3) ((rd_T37 l0 x3_2).f4) false _ ?side1 ?side2 ?side3 ?side4 A7.out).mono ?_); (case side1 => repeat (first | exact (Kd.C_below HR309_0.out HB.out) | (with_reducible refine Kd.C_alloc ?_ _) | (with_reducible refine Kd.C_drewN ?_ _) | (with_reducible refine Kd.C_drew ?_))); (case side2 => exact HC309_0.out); (case side3 => repeat (first | exact (Kd.C_below HR309_1.out HB.out) | (with_reducible refine Kd.C_alloc ?_ _) | (with_reducible refine Kd.C_drewN ?_ _) | (with_reducible refine Kd.C_drew ?_))); (case side4 => exact HC309_1.out); rintro e w13 ⟨rfl, hb⟩; have n0_ := Aside0.mk (below_step (by repeat (first | (with_reducible first | exact HB.out | apply below_alloc | apply pw_below_drewN | apply below_drew1) | exact HB.out)) hb); clear HB; have HB := n0_; clear n0_; (try clear hb); (try clear hb2); (try clear hk); (try clear hi))))
                  go_ret
                  exact ⟨by first | rfl | (simp [errW_none, errW_some] <;> rfl) | (simp [*, errW_none, errW_some] <;> rfl), by repeat (first | (with_reducible first | exact HB.out | apply below_alloc | apply pw_below_drewN | apply below_drew1) | exact HB.out)⟩
              · rw [if_neg c6] at H
                exact absurd H (by simp)
            · rw [if_neg c5] at H
              have c5b0 : decide (x3_2 < (l0.length : Int)) = false := decide_eq_false c5
              clear c5
              obtain rfl := Option.some.inj H
              go_wp2
              repeat (go_quiet (fail); try go_wp2)
              go_ret
              exact ⟨by first | rfl | (simp [errW_none, errW_some] <;> rfl) | (simp [*, errW_none, errW_some] <;> rfl), by repeat (first | (with_reducible first | exact HB.out | apply below_alloc | apply pw_below_drewN | apply below_drew1) | exact HB.out)⟩

end Go.Proofs.YtnogkpofgkaefaaDoor.F
