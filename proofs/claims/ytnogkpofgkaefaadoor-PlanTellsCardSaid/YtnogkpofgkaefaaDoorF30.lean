/- Woven by wip/weave/weave.py of this repo (own tool) out of the translation: the contracts of some functions. Lean checks it. -/
import Derived.Test.YtnogkpofgkaefaaDoorD
import Derived.Test.YtnogkpofgkaefaaDoorDR14
import Derived.Test.YtnogkpofgkaefaaDoorF0
import Derived.Test.YtnogkpofgkaefaaDoorF26
namespace Go.Proofs.YtnogkpofgkaefaaDoor.F
open Go.RowKit Go.Proofs.YtnogkpofgkaefaaDoorW.PrintWords Go.Proofs.YtnogkpofgkaefaaDoorW.PrintLast Go.Proofs.YtnogkpofgkaefaaDoorW.PrintMore
attribute [local go_sem] max2_int min2_int max_two min_two max_three min_three max_four min_four   -- for this text's walks alone
set_option linter.unusedVariables false
set_option linter.unusedSimpArgs false

/-! ### pelicanref14_Cycle: function 42 -/
set_option maxHeartbeats 8000000 in
set_option maxRecDepth 100000 in
theorem pelicanref14_Cycle.calls (k : Nat) (A0_0 : Option Addr) (c0_0 : Nat) (l0_0 : List Int) (A0_1 : Option Addr) (c0_1 : Nat) (l0_1 : List (S47)) (a0_2 : Int) (a0_3 : Int) (a0_4 : Int) (r : Int) (w : World) (hr0_0 : Kd.C (Kd.int .i64) w A0_0 l0_0.length l0_0) (hc0_0 : l0_0.length ≤ c0_0) (hr0_1 : Kd.C k47 w A0_1 l0_1.length l0_1) (hc0_1 : l0_1.length ≤ c0_1) (h : pelicanref14_Cycle.f k l0_0 l0_1 a0_2 a0_3 a0_4 = some r) :
    Calls Tryd.prog 42 #[.agg #[.slice A0_0 l0_0.length c0_0, .slice A0_1 l0_1.length c0_1, .int .i64 a0_2, .int .i64 a0_3, .int .i64 a0_4]] w fun e w' => e = .returned (.int .i64 r) ∧ Below w.heap.size w w' := by
  have hu37 := Tryd.underlying37
  have HR0_0 := Aside0.mk hr0_0
  have HC0_0 := Aside0.mk hc0_0
  clear hr0_0 hc0_0
  have HR0_1 := Aside0.mk hr0_1
  have HC0_1 := Aside0.mk hc0_1
  clear hr0_1 hc0_1
  have HB := Aside0.mk (Below.refl w.heap.size w)
  have H : ((pelicanref14_Fit.f k l0_0 l0_1 a0_2 a0_3 a0_4).bind fun t327 => (pelicanref14_Cycle.l0 k t327 0 0 l0_0 l0_1 a0_2 a0_3 a0_4)) = some r := h
  clear h
  replace H := Option.bind_eq_some_iff.mp H
  obtain ⟨t327, A20, H⟩ := H
  replace H : (pelicanref14_Cycle.l0 k t327 0 0 l0_0 l0_1 a0_2 a0_3 a0_4) = some r := H
  have A2 := Aside0.mk A20
  clear A20
  have H' := Aside0.mk H
  clear H
  go_enter Tryd.func42, Tryd.ntmps42
  go_wp2_with (first | ((with_reducible refine gate_dst (N := 1) rfl ?_); refine box_event ?hg (N := 1) ?hd (cs := #[.slice A0_0 l0_0.length c0_0, .slice A0_1 l0_1.length c0_1, .int .i64 a0_2, .int .i64 a0_3, .int .i64 a0_4]) (t := 37) ?hr ?_; (case hd => rfl); (case hg => rfl); (case hr => first | (go_simp; done) | (go_simp; rfl)); intro gb326 hg w3 hbox hb; have n0_ := Aside0.mk (below_step (by repeat (first | (with_reducible first | exact HB.out | apply below_alloc | apply pw_below_drewN | apply below_drew1) | exact HB.out)) hb); have n1_ := Aside0.mk (hbox); have n2_ := Aside0.mk ((by rw [hg]; exact (below_size (by repeat (first | (with_reducible first | exact HB.out | apply below_alloc | apply pw_below_drewN | apply below_drew1) | exact HB.out))) : w.heap.size ≤ gb326)); have n3_ := Aside0.mk ((by rw [hg]; exact (below_size (by repeat (first | (with_reducible first | exact HB.out | apply below_alloc | apply pw_below_drewN | apply below_drew1) | exact HB.out))) : w.heap.size ≤ gb326)); clear HB; have HB := n0_; have BK326 := n1_; have GW326 := n2_; have GE326 := n3_; clear n0_ n1_ n2_ n3_; clear hb hbox hg; have hcz4_0 : w3.cell? ⟨gb326, 0, none⟩ = some (.slice A0_0 l0_0.length c0_0) := (blk_cell BK326.out 0).trans rfl; have hcz4_1 : w3.cell? ⟨gb326, 1, none⟩ = some (.slice A0_1 l0_1.length c0_1) := (blk_cell BK326.out 1).trans rfl; have hcz4_2 : w3.cell? ⟨gb326, 2, none⟩ = some (.int .i64 a0_2) := (blk_cell BK326.out 2).trans rfl; have hcz4_3 : w3.cell? ⟨gb326, 3, none⟩ = some (.int .i64 a0_3) := (blk_cell BK326.out 3).trans rfl; have hcz4_4 : w3.cell? ⟨gb326, 4, none⟩ = some (.int .i64 a0_4) := (blk_cell BK326.out 4).trans rfl; have hfz4_0 := blk_frozen BK326.out 0; have hfz4_1 := blk_frozen BK326.out 1; have hfz4_2 := blk_frozen BK326.out 2; have hfz4_3 := blk_frozen BK326.out 3; have hfz4_4 := blk_frozen BK326.out 4) | (go_at_call 31; (with_reducible refine (pelicanref14_Fit.calls k _ _ l0_0 _ _ l0_1 a0_2 a0_3 a0_4 t327 _ ?side1 ?side2 ?side3 ?side4 A2.out).mono ?_); (case side1 => repeat (first | exact (Kd.C_below HR0_0.out HB.out) | (with_reducible refine Kd.C_alloc ?_ _) | (with_reducible refine Kd.C_drewN ?_ _) | (with_reducible refine Kd.C_drew ?_))); (case side2 => exact HC0_0.out); (case side3 => repeat (first | exact (Kd.C_below HR0_1.out HB.out) | (with_reducible refine Kd.C_alloc ?_ _) | (with_reducible refine Kd.C_drewN ?_ _) | (with_reducible refine Kd.C_drew ?_))); (case side4 => exact HC0_1.out); rintro e w5 ⟨rfl, hb⟩; have n0_ := Aside0.mk (blk_below (g := gb326) (o := .cells #[.slice A0_0 l0_0.length c0_0, .slice A0_1 l0_1.length c0_1, .int .i64 a0_2, .int .i64 a0_3, .int .i64 a0_4] 37 (0, 0)) (by (with_reducible repeat (first | refine blk_drewN ?_ _ | refine blk_drew ?_ | refine blk_alloc ?_ _)); exact BK326.out) hb); have n1_ := Aside0.mk (below_step (by repeat (first | (with_reducible first | exact HB.out | apply below_alloc | apply pw_below_drewN | apply below_drew1 | refine below_set ?_ GE326.out) | exact HB.out)) hb); clear BK326; clear HB; have BK326 := n0_; have HB := n1_; clear n0_ n1_; (try clear hb); (try clear hb2); (try clear hk); (try clear hi)))
  repeat (go_quiet (first | ((with_reducible refine gate_dst (N := 1) rfl ?_); refine box_event ?hg (N := 1) ?hd (cs := #[.slice A0_0 l0_0.length c0_0, .slice A0_1 l0_1.length c0_1, .int .i64 a0_2, .int .i64 a0_3, .int .i64 a0_4]) (t := 37) ?hr ?_; (case hd => rfl); (case hg => rfl); (case hr => first | (go_simp; done) | (go_simp; rfl)); intro gb326 hg w3 hbox hb; have n0_ := Aside0.mk (below_step (by repeat (first | (with_reducible first | exact HB.out | apply below_alloc | apply pw_below_drewN | apply below_drew1) | exact HB.out)) hb); have n1_ := Aside0.mk (hbox); have n2_ := Aside0.mk ((by rw [hg]; exact (below_size (by repeat (first | (with_reducible first | exact HB.out | apply below_alloc | apply pw_below_drewN | apply below_drew1) | exact HB.out))) : w.heap.size ≤ gb326)); have n3_ := Aside0.mk ((by rw [hg]; exact (below_size (by repeat (first | (with_reducible first | exact HB.out | apply below_alloc | apply pw_below_drewN | apply below_drew1) | exact HB.out))) : w.heap.size ≤ gb326)); clear HB; have HB := n0_; have BK326 := n1_; have GW326 := n2_; have GE326 := n3_; clear n0_ n1_ n2_ n3_; clear hb hbox hg; have hcz4_0 : w3.cell? ⟨gb326, 0, none⟩ = some (.slice A0_0 l0_0.length c0_0) := (blk_cell BK326.out 0).trans rfl; have hcz4_1 : w3.cell? ⟨gb326, 1, none⟩ = some (.slice A0_1 l0_1.length c0_1) := (blk_cell BK326.out 1).trans rfl; have hcz4_2 : w3.cell? ⟨gb326, 2, none⟩ = some (.int .i64 a0_2) := (blk_cell BK326.out 2).trans rfl; have hcz4_3 : w3.cell? ⟨gb326, 3, none⟩ = some (.int .i64 a0_3) := (blk_cell BK326.out 3).trans rfl; have hcz4_4 : w3.cell? ⟨gb326, 4, none⟩ = some (.int .i64 a0_4) := (blk_cell BK326.out 4).trans rfl; have hfz4_0 := blk_frozen BK326.out 0; have hfz4_1 := blk_frozen BK326.out 1; have hfz4_2 := blk_frozen BK326.out 2; have hfz4_3 := blk_frozen BK326.out 3; have hfz4_4 := blk_frozen BK326.out 4) | (go_at_call 31; (with_reducible refine (pelicanref14_Fit.calls k _ _ l0_0 _ _ l0_1 a0_2 a0_3 a0_4 t327 _ ?side1 ?side2 ?side3 ?side4 A2.out).mono ?_); (case side1 => repeat (first | exact (Kd.C_below HR0_0.out HB.out) | (with_reducible refine Kd.C_alloc ?_ _) | (with_reducible refine Kd.C_drewN ?_ _) | (with_reducible refine Kd.C_drew ?_))); (case side2 => exact HC0_0.out); (case side3 => repeat (first | exact (Kd.C_below HR0_1.out HB.out) | (with_reducible refine Kd.C_alloc ?_ _) | (with_reducible refine Kd.C_drewN ?_ _) | (with_reducible refine Kd.C_drew ?_))); (case side4 => exact HC0_1.out); rintro e w5 ⟨rfl, hb⟩; have n0_ := Aside0.mk (blk_below (g := gb326) (o := .cells #[.slice A0_0 l0_0.length c0_0, .slice A0_1 l0_1.length c0_1, .int .i64 a0_2, .int .i64 a0_3, .int .i64 a0_4] 37 (0, 0)) (by (with_reducible repeat (first | refine blk_drewN ?_ _ | refine blk_drew ?_ | refine blk_alloc ?_ _)); exact BK326.out) hb); have n1_ := Aside0.mk (below_step (by repeat (first | (with_reducible first | exact HB.out | apply below_alloc | apply pw_below_drewN | apply below_drew1 | refine below_set ?_ GE326.out) | exact HB.out)) hb); clear BK326; clear HB; have BK326 := n0_; have HB := n1_; clear n0_ n1_; (try clear hb); (try clear hb2); (try clear hk); (try clear hi))); try go_wp2_with (first | ((with_reducible refine gate_dst (N := 1) rfl ?_); refine box_event ?hg (N := 1) ?hd (cs := #[.slice A0_0 l0_0.length c0_0, .slice A0_1 l0_1.length c0_1, .int .i64 a0_2, .int .i64 a0_3, .int .i64 a0_4]) (t := 37) ?hr ?_; (case hd => rfl); (case hg => rfl); (case hr => first | (go_simp; done) | (go_simp; rfl)); intro gb326 hg w3 hbox hb; have n0_ := Aside0.mk (below_step (by repeat (first | (with_reducible first | exact HB.out | apply below_alloc | apply pw_below_drewN | apply below_drew1) | exact HB.out)) hb); have n1_ := Aside0.mk (hbox); have n2_ := Aside0.mk ((by rw [hg]; exact (below_size (by repeat (first | (with_reducible first | exact HB.out | apply below_alloc | apply pw_below_drewN | apply below_drew1) | exact HB.out))) : w.heap.size ≤ gb326)); have n3_ := Aside0.mk ((by rw [hg]; exact (below_size (by repeat (first | (with_reducible first | exact HB.out | apply below_alloc | apply pw_below_drewN | apply below_drew1) | exact HB.out))) : w.heap.size ≤ gb326)); clear HB; have HB := n0_; have BK326 := n1_; have GW326 := n2_; have GE326 := n3_; clear n0_ n1_ n2_ n3_; clear hb hbox hg; have hcz4_0 : w3.cell? ⟨gb326, 0, none⟩ = some (.slice A0_0 l0_0.length c0_0) := (blk_cell BK326.out 0).trans rfl; have hcz4_1 : w3.cell? ⟨gb326, 1, none⟩ = some (.slice A0_1 l0_1.length c0_1) := (blk_cell BK326.out 1).trans rfl; have hcz4_2 : w3.cell? ⟨gb326, 2, none⟩ = some (.int .i64 a0_2) := (blk_cell BK326.out 2).trans rfl; have hcz4_3 : w3.cell? ⟨gb326, 3, none⟩ = some (.int .i64 a0_3) := (blk_cell BK326.out 3).trans rfl; have hcz4_4 : w3.cell? ⟨gb326, 4, none⟩ = some (.int .i64 a0_4) := (blk_cell BK326.out 4).trans rfl; have hfz4_0 := blk_frozen BK326.out 0; have hfz4_1 := blk_frozen BK326.out 1; have hfz4_2 := blk_frozen BK326.out 2; have hfz4_3 := blk_frozen BK326.out 3; have hfz4_4 := blk_frozen BK326.out 4) | (go_at_call 31; (with_reducible refine (pelicanref14_Fit.calls k _ _ l0_0 _ _ l0_1 a0_2 a0_3 a0_4 t327 _ ?side1 ?side2 ?side3 ?side4 A2.out).mono ?_); (case side1 => repeat (first | exact (Kd.C_below HR0_0.out HB.out) | (with_reducible refine Kd.C_alloc ?_ _) | (with_reducible refine Kd.C_drewN ?_ _) | (with_reducible refine Kd.C_drew ?_))); (case side2 => exact HC0_0.out); (case side3 => repeat (first | exact (Kd.C_below HR0_1.out HB.out) | (with_reducible refine Kd.C_alloc ?_ _) | (with_reducible refine Kd.C_drewN ?_ _) | (with_reducible refine Kd.C_drew ?_))); (case side4 => exact HC0_1.out); rintro e w5 ⟨rfl, hb⟩; have n0_ := Aside0.mk (blk_below (g := gb326) (o := .cells #[.slice A0_0 l0_0.length c0_0, .slice A0_1 l0_1.length c0_1, .int .i64 a0_2, .int .i64 a0_3, .int .i64 a0_4] 37 (0, 0)) (by (with_reducible repeat (first | refine blk_drewN ?_ _ | refine blk_drew ?_ | refine blk_alloc ?_ _)); exact BK326.out) hb); have n1_ := Aside0.mk (below_step (by repeat (first | (with_reducible first | exact HB.out | apply below_alloc | apply pw_below_drewN | apply below_drew1 | refine below_set ?_ GE326.out) | exact HB.out)) hb); clear BK326; clear HB; have BK326 := n0_; have HB := n1_; clear n0_ n1_; (try clear hb); (try clear hb2); (try clear hk); (try clear hi))))
  go_loopg [4, 5] k (fun kq v4 v5 w' => ∃ (x4_1 : Int) (x5_1 : Int), v4 = .int .i64 x4_1 ∧ v5 = .int .i64 x5_1 ∧ Aside0 (pelicanref14_Cycle.l0 kq t327 x4_1 x5_1 l0_0 l0_1 a0_2 a0_3 a0_4 = some r) ∧ Aside0 (kq ≤ k) ∧ Aside0 (w'.heap[gb326]? = some (.cells #[(.slice A0_0 l0_0.length c0_0), (.slice A0_1 l0_1.length c0_1), .int .i64 a0_2, .int .i64 a0_3, .int .i64 a0_4] 37 (0, 0))) ∧ Aside0 (Below w.heap.size w w'))
  case atStart => exact ⟨(0), (0), (by first | rfl | (simp; done) | (simp [*]; done)), (by first | rfl | (simp; done) | (simp [*]; done)), H', ⟨Nat.le_refl _⟩, ⟨by (with_reducible repeat (first | refine blk_drewN ?_ _ | refine blk_drew ?_ | refine blk_alloc ?_ _)); exact BK326.out⟩, ⟨by repeat (first | (with_reducible first | exact HB.out | apply below_alloc | apply pw_below_drewN | apply below_drew1 | refine below_set ?_ GE326.out) | exact HB.out)⟩⟩
  case round =>
    clear H'
    try clear p2
    try clear c4
    try clear hcz4_0
    try clear hcz4_1
    try clear hcz4_2
    try clear hcz4_3
    try clear hcz4_4
    try clear hfz4_0
    try clear hfz4_1
    try clear hfz4_2
    try clear hfz4_3
    try clear hfz4_4
    obtain ⟨x4_1, x5_1, rfl, rfl, HA, HK1, BK326, HB⟩ := hrel
    cases gk with
    | zero => exact absurd HA.out (by simp [pelicanref14_Cycle.l0])
    | succ k1 =>
      have H := HA.out
      clear HA
      simp only [pelicanref14_Cycle.l0] at H
      by_cases c6 : x5_1 < (l0_1.length : Int)
      · rw [if_pos c6] at H
        have c6b0 : decide (x5_1 < (l0_1.length : Int)) = true := decide_eq_true c6
        clear c6
        by_cases c7 : t327 = true
        · subst c7
          have H1 : (if 0 ≤ x5_1 then (pelicanref14_Cycle.l0 k1 true (wrap64 ((wrap64 ((wrap64 (x4_1 + ((rd_T47 l0_1 x5_1).f1))) + a0_2)) + a0_3)) (wrap64 (x5_1 + 1)) l0_0 l0_1 a0_2 a0_3 a0_4) else (none)) = some r := by rw [if_pos rfl] at H; exact H
          clear H
          have H := H1
          clear H1
          by_cases c8 : 0 ≤ x5_1
          · rw [if_pos c8] at H
            have c8b0 : decide (0 ≤ x5_1) = true := decide_eq_true c8
            clear c8
            have H' := Aside0.mk H
            clear H
            have hcz9_0 : wr.cell? ⟨gb326, 0, none⟩ = some (.slice A0_0 l0_0.length c0_0) := (blk_cell BK326.out 0).trans rfl
            have hcz9_1 : wr.cell? ⟨gb326, 1, none⟩ = some (.slice A0_1 l0_1.length c0_1) := (blk_cell BK326.out 1).trans rfl
            have hcz9_2 : wr.cell? ⟨gb326, 2, none⟩ = some (.int .i64 a0_2) := (blk_cell BK326.out 2).trans rfl
            have hcz9_3 : wr.cell? ⟨gb326, 3, none⟩ = some (.int .i64 a0_3) := (blk_cell BK326.out 3).trans rfl
            have hcz9_4 : wr.cell? ⟨gb326, 4, none⟩ = some (.int .i64 a0_4) := (blk_cell BK326.out 4).trans rfl
            have hfz9_0 := blk_frozen BK326.out 0
            have hfz9_1 := blk_frozen BK326.out 1
            have hfz9_2 := blk_frozen BK326.out 2
            have hfz9_3 := blk_frozen BK326.out 3
            have hfz9_4 := blk_frozen BK326.out 4
            have p328 : 0 ≤ (x5_1 : Int) := of_decide_eq_true (by first | (with_reducible assumption) | assumption)
            have q328 : x5_1 < (l0_1.length : Int) := of_decide_eq_true (by first | (with_reducible assumption) | assumption)
            obtain ⟨ad328, e328, hx328_0, hx328_1, hx328_2⟩ := at_T47 HR0_1.out x5_1 p328 q328
            cases e328
            replace hx328_0 := (HB.out.cell (World.block_lt_of_cell? w _ hx328_0)).trans hx328_0
            replace hx328_1 := (HB.out.cell (World.block_lt_of_cell? w _ hx328_1)).trans hx328_1
            replace hx328_2 := (HB.out.cell (World.block_lt_of_cell? w _ hx328_2)).trans hx328_2
            replace p328 := eq_true p328
            replace q328 := eq_true q328
            go_wp2
            repeat (go_quiet (fail); try go_wp2)
            go_roundg k1
            case measure => have := HK1.out; omega
            case rel => exact ⟨(wrap64 ((wrap64 ((wrap64 (x4_1 + ((rd_T47 l0_1 x5_1).f1))) + a0_2)) + a0_3)), (wrap64 (x5_1 + 1)), (by first | rfl | (simp; done) | (simp [*]; done)), (by first | rfl | (simp; done) | (simp [*]; done)), H', ⟨by have := HK1.out; omega⟩, ⟨by (with_reducible repeat (first | refine blk_drewN ?_ _ | refine blk_drew ?_ | refine blk_alloc ?_ _)); exact BK326.out⟩, ⟨by repeat (first | (with_reducible first | exact HB.out | apply below_alloc | apply pw_below_drewN | apply below_drew1 | refine below_set ?_ GE326.out) | exact HB.out)⟩⟩
          · rw [if_neg c8] at H
            exact absurd H (by simp)
        · replace c7 := Bool.eq_false_iff.mpr c7
          subst c7
          have H1 : (some x4_1) = some r := by rw [if_neg (show ¬ (false = true) by decide)] at H; exact H
          clear H
          have H := H1
          clear H1
          obtain rfl := Option.some.inj H
          have hcz10_0 : wr.cell? ⟨gb326, 0, none⟩ = some (.slice A0_0 l0_0.length c0_0) := (blk_cell BK326.out 0).trans rfl
          have hcz10_1 : wr.cell? ⟨gb326, 1, none⟩ = some (.slice A0_1 l0_1.length c0_1) := (blk_cell BK326.out 1).trans rfl
          have hcz10_2 : wr.cell? ⟨gb326, 2, none⟩ = some (.int .i64 a0_2) := (blk_cell BK326.out 2).trans rfl
          have hcz10_3 : wr.cell? ⟨gb326, 3, none⟩ = some (.int .i64 a0_3) := (blk_cell BK326.out 3).trans rfl
          have hcz10_4 : wr.cell? ⟨gb326, 4, none⟩ = some (.int .i64 a0_4) := (blk_cell BK326.out 4).trans rfl
          have hfz10_0 := blk_frozen BK326.out 0
          have hfz10_1 := blk_frozen BK326.out 1
          have hfz10_2 := blk_frozen BK326.out 2
          have hfz10_3 := blk_frozen BK326.out 3
          have hfz10_4 := blk_frozen BK326.out 4
          go_wp2
          repeat (go_quiet (fail); try go_wp2)
          go_ret
          exact ⟨by first | rfl | (simp [errW_none, errW_some] <;> rfl) | (simp [*, errW_none, errW_some] <;> rfl), by repeat (first | (with_reducible first | exact HB.out | apply below_alloc | apply pw_below_drewN | apply below_drew1 | refine below_set ?_ GE326.out) | exact HB.out)⟩
      · rw [if_neg c6] at H
        have c6b0 : decide (x5_1 < (l0_1.length : Int)) = false := decide_eq_false c6
        clear c6
        obtain rfl := Option.some.inj H
        have hcz11_0 : wr.cell? ⟨gb326, 0, none⟩ = some (.slice A0_0 l0_0.length c0_0) := (blk_cell BK326.out 0).trans rfl
        have hcz11_1 : wr.cell? ⟨gb326, 1, none⟩ = some (.slice A0_1 l0_1.length c0_1) := (blk_cell BK326.out 1).trans rfl
        have hcz11_2 : wr.cell? ⟨gb326, 2, none⟩ = some (.int .i64 a0_2) := (blk_cell BK326.out 2).trans rfl
        have hcz11_3 : wr.cell? ⟨gb326, 3, none⟩ = some (.int .i64 a0_3) := (blk_cell BK326.out 3).trans rfl
        have hcz11_4 : wr.cell? ⟨gb326, 4, none⟩ = some (.int .i64 a0_4) := (blk_cell BK326.out 4).trans rfl
        have hfz11_0 := blk_frozen BK326.out 0
        have hfz11_1 := blk_frozen BK326.out 1
        have hfz11_2 := blk_frozen BK326.out 2
        have hfz11_3 := blk_frozen BK326.out 3
        have hfz11_4 := blk_frozen BK326.out 4
        go_wp2
        repeat (go_quiet (fail); try go_wp2)
        go_ret
        exact ⟨by first | rfl | (simp [errW_none, errW_some] <;> rfl) | (simp [*, errW_none, errW_some] <;> rfl), by repeat (first | (with_reducible first | exact HB.out | apply below_alloc | apply pw_below_drewN | apply below_drew1 | refine below_set ?_ GE326.out) | exact HB.out)⟩

end Go.Proofs.YtnogkpofgkaefaaDoor.F
