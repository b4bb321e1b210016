/- Woven by wip/weave/weave.py of this repo (own tool) out of the translation: the contracts of some functions. Lean checks it. -/
import Derived.Test.YtnogkpofgkaefaaDoorD
import Derived.Test.YtnogkpofgkaefaaDoorDR14
import Derived.Test.YtnogkpofgkaefaaDoorF0
import Derived.Test.YtnogkpofgkaefaaDoorF1
import Derived.Test.YtnogkpofgkaefaaDoorF12
namespace Go.Proofs.YtnogkpofgkaefaaDoor.F
open Go.RowKit Go.Proofs.YtnogkpofgkaefaaDoorW.PrintWords Go.Proofs.YtnogkpofgkaefaaDoorW.PrintLast Go.Proofs.YtnogkpofgkaefaaDoorW.PrintMore
attribute [local go_sem] max2_int min2_int max_two min_two max_three min_three max_four min_four   -- for this text's walks alone
set_option linter.unusedVariables false
set_option linter.unusedSimpArgs false

attribute [local go_sem high] eqA47
/-! ### pelicanref14_Same: function 33 -/
set_option maxHeartbeats 8000000 in
set_option maxRecDepth 100000 in
theorem pelicanref14_Same.calls (k : Nat) (A0_0 : Option Addr) (c0_0 : Nat) (l0_0 : List Int) (A0_1 : Option Addr) (c0_1 : Nat) (l0_1 : List (S47)) (a0_2 : Int) (a0_3 : Int) (a0_4 : Int) (A1_0 : Option Addr) (c1_0 : Nat) (l1_0 : List Int) (A1_1 : Option Addr) (c1_1 : Nat) (l1_1 : List (S47)) (a1_2 : Int) (a1_3 : Int) (a1_4 : Int) (r : Bool) (w : World) (hr0_0 : Kd.C (Kd.int .i64) w A0_0 l0_0.length l0_0) (hc0_0 : l0_0.length ≤ c0_0) (hr0_1 : Kd.C k47 w A0_1 l0_1.length l0_1) (hc0_1 : l0_1.length ≤ c0_1) (hr1_0 : Kd.C (Kd.int .i64) w A1_0 l1_0.length l1_0) (hc1_0 : l1_0.length ≤ c1_0) (hr1_1 : Kd.C k47 w A1_1 l1_1.length l1_1) (hc1_1 : l1_1.length ≤ c1_1) (h : pelicanref14_Same.f k l0_0 l0_1 a0_2 a0_3 a0_4 l1_0 l1_1 a1_2 a1_3 a1_4 = some r) :
    Calls Tryd.prog 33 #[.agg #[.slice A0_0 l0_0.length c0_0, .slice A0_1 l0_1.length c0_1, .int .i64 a0_2, .int .i64 a0_3, .int .i64 a0_4], .agg #[.slice A1_0 l1_0.length c1_0, .slice A1_1 l1_1.length c1_1, .int .i64 a1_2, .int .i64 a1_3, .int .i64 a1_4]] w fun e w' => e = .returned (.bool r) ∧ Below w.heap.size w w' := by
  have hu37 := Tryd.underlying37
  have hu47 := Tryd.underlying47
  have HR0_0 := Aside0.mk hr0_0
  have HC0_0 := Aside0.mk hc0_0
  clear hr0_0 hc0_0
  have HR0_1 := Aside0.mk hr0_1
  have HC0_1 := Aside0.mk hc0_1
  clear hr0_1 hc0_1
  have HR1_0 := Aside0.mk hr1_0
  have HC1_0 := Aside0.mk hc1_0
  clear hr1_0 hc1_0
  have HR1_1 := Aside0.mk hr1_1
  have HC1_1 := Aside0.mk hc1_1
  clear hr1_1 hc1_1
  have HB := Aside0.mk (Below.refl w.heap.size w)
  have H : ((pelicanref05_Ints.f k l0_0 l1_0).bind fun t315 => (if t315 = true then (if (l0_1.length : Int) = (l1_1.length : Int) then (if a0_2 = a1_2 then (if a0_3 = a1_3 then (pelicanref14_Same.j0 k (a0_4 != a1_4) l0_0 l0_1 a0_2 a0_3 a0_4 l1_0 l1_1 a1_2 a1_3 a1_4) else (pelicanref14_Same.j0 k true l0_0 l0_1 a0_2 a0_3 a0_4 l1_0 l1_1 a1_2 a1_3 a1_4)) else (pelicanref14_Same.j0 k true l0_0 l0_1 a0_2 a0_3 a0_4 l1_0 l1_1 a1_2 a1_3 a1_4)) else (pelicanref14_Same.j0 k true l0_0 l0_1 a0_2 a0_3 a0_4 l1_0 l1_1 a1_2 a1_3 a1_4)) else (pelicanref14_Same.j0 k true l0_0 l0_1 a0_2 a0_3 a0_4 l1_0 l1_1 a1_2 a1_3 a1_4))) = some r := h
  clear h
  replace H := Option.bind_eq_some_iff.mp H
  obtain ⟨t315, A30, H⟩ := H
  replace H : (if t315 = true then (if (l0_1.length : Int) = (l1_1.length : Int) then (if a0_2 = a1_2 then (if a0_3 = a1_3 then (pelicanref14_Same.j0 k (a0_4 != a1_4) l0_0 l0_1 a0_2 a0_3 a0_4 l1_0 l1_1 a1_2 a1_3 a1_4) else (pelicanref14_Same.j0 k true l0_0 l0_1 a0_2 a0_3 a0_4 l1_0 l1_1 a1_2 a1_3 a1_4)) else (pelicanref14_Same.j0 k true l0_0 l0_1 a0_2 a0_3 a0_4 l1_0 l1_1 a1_2 a1_3 a1_4)) else (pelicanref14_Same.j0 k true l0_0 l0_1 a0_2 a0_3 a0_4 l1_0 l1_1 a1_2 a1_3 a1_4)) else (pelicanref14_Same.j0 k true l0_0 l0_1 a0_2 a0_3 a0_4 l1_0 l1_1 a1_2 a1_3 a1_4)) = some r := H
  have A3 := Aside0.mk A30
  clear A30
  have HC4 := Aside0.mk H
  clear H
  go_enter Tryd.func33, Tryd.ntmps33
  go_upto_region 2 with (first | ((with_reducible refine gate_dst (N := 2) rfl ?_); (try (refine gate_guard (by rfl) ?_; dsimp only)); refine box_event ?hg (N := 2) ?hd (cs := #[.slice A0_0 l0_0.length c0_0, .slice A0_1 l0_1.length c0_1, .int .i64 a0_2, .int .i64 a0_3, .int .i64 a0_4]) (t := 37) ?hr ?_; (case hd => rfl); (case hg => rfl); (case hr => first | (go_simp; done) | (go_simp; rfl)); intro gb313 hg w5 hbox hb; have n0_ := Aside0.mk (below_step (by repeat (first | (with_reducible first | exact HB.out | apply below_alloc | apply pw_below_drewN | apply below_drew1) | exact HB.out)) hb); have n1_ := Aside0.mk (hbox); have n2_ := Aside0.mk ((by rw [hg]; exact (below_size (by repeat (first | (with_reducible first | exact HB.out | apply below_alloc | apply pw_below_drewN | apply below_drew1) | exact HB.out))) : w.heap.size ≤ gb313)); have n3_ := Aside0.mk ((by rw [hg]; exact (below_size (by repeat (first | (with_reducible first | exact HB.out | apply below_alloc | apply pw_below_drewN | apply below_drew1) | exact HB.out))) : w.heap.size ≤ gb313)); clear HB; have HB := n0_; have BK313 := n1_; have GW313 := n2_; have GE313 := n3_; clear n0_ n1_ n2_ n3_; clear hb hbox hg) | ((with_reducible refine gate_dst (N := 3) rfl ?_); (try (refine gate_guard (by rfl) ?_; dsimp only)); refine box_event ?hg (N := 3) ?hd (cs := #[.slice A1_0 l1_0.length c1_0, .slice A1_1 l1_1.length c1_1, .int .i64 a1_2, .int .i64 a1_3, .int .i64 a1_4]) (t := 37) ?hr ?_; (case hd => rfl); (case hg => rfl); (case hr => first | (go_simp; done) | (go_simp; rfl)); intro gb314 hg w6 hbox hb; have n0_ := Aside0.mk (blk_below (g := gb313) (o := .cells #[.slice A0_0 l0_0.length c0_0, .slice A0_1 l0_1.length c0_1, .int .i64 a0_2, .int .i64 a0_3, .int .i64 a0_4] 37 (0, 0)) (by (with_reducible repeat (first | refine blk_drewN ?_ _ | refine blk_drew ?_ | refine blk_alloc ?_ _)); exact BK313.out) hb); have n1_ := Aside0.mk (below_step (by repeat (first | (with_reducible first | exact HB.out | apply below_alloc | apply pw_below_drewN | apply below_drew1 | refine below_set ?_ GE313.out) | exact HB.out)) hb); have n2_ := Aside0.mk (hbox); have n3_ := Aside0.mk ((by rw [hg]; exact (below_size (by repeat (first | (with_reducible first | exact HB.out | apply below_alloc | apply pw_below_drewN | apply below_drew1 | refine below_set ?_ GE313.out) | exact HB.out))) : w.heap.size ≤ gb314)); have n4_ := Aside0.mk ((by rw [hg]; exact (below_size (by repeat (first | (with_reducible first | exact HB.out | apply below_alloc | apply pw_below_drewN | apply below_drew1 | refine below_set ?_ GE313.out) | exact HB.out))) : w.heap.size ≤ gb314)); have n5_ := Aside0.mk ((by rw [hg]; exact Nat.ne_of_lt (blk_lt (g := gb313) (o := .cells #[.slice A0_0 l0_0.length c0_0, .slice A0_1 l0_1.length c0_1, .int .i64 a0_2, .int .i64 a0_3, .int .i64 a0_4] 37 (0, 0)) (by (with_reducible repeat (first | refine blk_drewN ?_ _ | refine blk_drew ?_ | refine blk_alloc ?_ _)); exact BK313.out)) : gb313 ≠ gb314)); have n6_ := Aside0.mk ((by rw [hg]; exact Nat.ne_of_gt (blk_lt (g := gb313) (o := .cells #[.slice A0_0 l0_0.length c0_0, .slice A0_1 l0_1.length c0_1, .int .i64 a0_2, .int .i64 a0_3, .int .i64 a0_4] 37 (0, 0)) (by (with_reducible repeat (first | refine blk_drewN ?_ _ | refine blk_drew ?_ | refine blk_alloc ?_ _)); exact BK313.out)) : gb314 ≠ gb313)); clear BK313; clear HB; have BK313 := n0_; have HB := n1_; have BK314 := n2_; have GW314 := n3_; have GE314 := n4_; have NB313_314 := n5_; have NB314_313 := n6_; clear n0_ n1_ n2_ n3_ n4_ n5_ n6_; clear hb hbox hg; have hnb7 := NB313_314.out; have hnc7 := NB314_313.out; have hcz8_0 : w6.cell? ⟨gb313, 0, none⟩ = some (.slice A0_0 l0_0.length c0_0) := (blk_cell BK313.out 0).trans rfl; have hcz8_1 : w6.cell? ⟨gb313, 1, none⟩ = some (.slice A0_1 l0_1.length c0_1) := (blk_cell BK313.out 1).trans rfl; have hcz8_2 : w6.cell? ⟨gb313, 2, none⟩ = some (.int .i64 a0_2) := (blk_cell BK313.out 2).trans rfl; have hcz8_3 : w6.cell? ⟨gb313, 3, none⟩ = some (.int .i64 a0_3) := (blk_cell BK313.out 3).trans rfl; have hcz8_4 : w6.cell? ⟨gb313, 4, none⟩ = some (.int .i64 a0_4) := (blk_cell BK313.out 4).trans rfl; have hfz8_0 := blk_frozen BK313.out 0; have hfz8_1 := blk_frozen BK313.out 1; have hfz8_2 := blk_frozen BK313.out 2; have hfz8_3 := blk_frozen BK313.out 3; have hfz8_4 := blk_frozen BK313.out 4; have hcz9_0 : w6.cell? ⟨gb314, 0, none⟩ = some (.slice A1_0 l1_0.length c1_0) := (blk_cell BK314.out 0).trans rfl; have hcz9_1 : w6.cell? ⟨gb314, 1, none⟩ = some (.slice A1_1 l1_1.length c1_1) := (blk_cell BK314.out 1).trans rfl; have hcz9_2 : w6.cell? ⟨gb314, 2, none⟩ = some (.int .i64 a1_2) := (blk_cell BK314.out 2).trans rfl; have hcz9_3 : w6.cell? ⟨gb314, 3, none⟩ = some (.int .i64 a1_3) := (blk_cell BK314.out 3).trans rfl; have hcz9_4 : w6.cell? ⟨gb314, 4, none⟩ = some (.int .i64 a1_4) := (blk_cell BK314.out 4).trans rfl; have hfz9_0 := blk_frozen BK314.out 0; have hfz9_1 := blk_frozen BK314.out 1; have hfz9_2 := blk_frozen BK314.out 2; have hfz9_3 := blk_frozen BK314.out 3; have hfz9_4 := blk_frozen BK314.out 4) | (go_at_call 17; (with_reducible refine (pelicanref05_Ints.calls k _ _ l0_0 _ _ l1_0 t315 _ ?side1 ?side2 ?side3 ?side4 A3.out).mono ?_); (case side1 => repeat (first | exact (Kd.C_below HR0_0.out HB.out) | (with_reducible refine Kd.C_alloc ?_ _) | (with_reducible refine Kd.C_drewN ?_ _) | (with_reducible refine Kd.C_drew ?_))); (case side2 => exact HC0_0.out); (case side3 => repeat (first | exact (Kd.C_below HR1_0.out HB.out) | (with_reducible refine Kd.C_alloc ?_ _) | (with_reducible refine Kd.C_drewN ?_ _) | (with_reducible refine Kd.C_drew ?_))); (case side4 => exact HC1_0.out); rintro e w' ⟨rfl, ⟨nd, rfl⟩⟩; (try first | exact ⟨rfl, _, World.drewN_drewN _ _ _⟩ | exact ⟨rfl, _, Eq.trans (World.drewN_drewN _ _ _) (congrArg (World.drewN _) (Nat.add_assoc _ _ _))⟩)))
  repeat (go_quiet (first | ((with_reducible refine gate_dst (N := 2) rfl ?_); (try (refine gate_guard (by rfl) ?_; dsimp only)); refine box_event ?hg (N := 2) ?hd (cs := #[.slice A0_0 l0_0.length c0_0, .slice A0_1 l0_1.length c0_1, .int .i64 a0_2, .int .i64 a0_3, .int .i64 a0_4]) (t := 37) ?hr ?_; (case hd => rfl); (case hg => rfl); (case hr => first | (go_simp; done) | (go_simp; rfl)); intro gb313 hg w5 hbox hb; have n0_ := Aside0.mk (below_step (by repeat (first | (with_reducible first | exact HB.out | apply below_alloc | apply pw_below_drewN | apply below_drew1) | exact HB.out)) hb); have n1_ := Aside0.mk (hbox); have n2_ := Aside0.mk ((by rw [hg]; exact (below_size (by repeat (first | (with_reducible first | exact HB.out | apply below_alloc | apply pw_below_drewN | apply below_drew1) | exact HB.out))) : w.heap.size ≤ gb313)); have n3_ := Aside0.mk ((by rw [hg]; exact (below_size (by repeat (first | (with_reducible first | exact HB.out | apply below_alloc | apply pw_below_drewN | apply below_drew1) | exact HB.out))) : w.heap.size ≤ gb313)); clear HB; have HB := n0_; have BK313 := n1_; have GW313 := n2_; have GE313 := n3_; clear n0_ n1_ n2_ n3_; clear hb hbox hg) | ((with_reducible refine gate_dst (N := 3) rfl ?_); (try (refine gate_guard (by rfl) ?_; dsimp only)); refine box_event ?hg (N := 3) ?hd (cs := #[.slice A1_0 l1_0.length c1_0, .slice A1_1 l1_1.length c1_1, .int .i64 a1_2, .int .i64 a1_3, .int .i64 a1_4]) (t := 37) ?hr ?_; (case hd => rfl); (case hg => rfl); (case hr => first | (go_simp; done) | (go_simp; rfl)); intro gb314 hg w6 hbox hb; have n0_ := Aside0.mk (blk_below (g := gb313) (o := .cells #[.slice A0_0 l0_0.length c0_0, .slice A0_1 l0_1.length c0_1, .int .i64 a0_2, .int .i64 a0_3, .int .i64 a0_4] 37 (0, 0)) (by (with_reducible repeat (first | refine blk_drewN ?_ _ | refine blk_drew ?_ | refine blk_alloc ?_ _)); exact BK313.out) hb); have n1_ := Aside0.mk (below_step (by repeat (first | (with_reducible first | exact HB.out | apply below_alloc | apply pw_below_drewN | apply below_drew1 | refine below_set ?_ GE313.out) | exact HB.out)) hb); have n2_ := Aside0.mk (hbox); have n3_ := Aside0.mk ((by rw [hg]; exact (below_size (by repeat (first | (with_reducible first | exact HB.out | apply below_alloc | apply pw_below_drewN | apply below_drew1 | refine below_set ?_ GE313.out) | exact HB.out))) : w.heap.size ≤ gb314)); have n4_ := Aside0.mk ((by rw [hg]; exact (below_size (by repeat (first | (with_reducible first | exact HB.out | apply below_alloc | apply pw_below_drewN | apply below_drew1 | refine below_set ?_ GE313.out) | exact HB.out))) : w.heap.size ≤ gb314)); have n5_ := Aside0.mk ((by rw [hg]; exact Nat.ne_of_lt (blk_lt (g := gb313) (o := .cells #[.slice A0_0 l0_0.length c0_0, .slice A0_1 l0_1.length c0_1, .int .i64 a0_2, .int .i64 a0_3, .int .i64 a0_4] 37 (0, 0)) (by (with_reducible repeat (first | refine blk_drewN ?_ _ | refine blk_drew ?_ | refine blk_alloc ?_ _)); exact BK313.out)) : gb313 ≠ gb314)); have n6_ := Aside0.mk ((by rw [hg]; exact Nat.ne_of_gt (blk_lt (g := gb313) (o := .cells #[.slice A0_0 l0_0.length c0_0, .slice A0_1 l0_1.length c0_1, .int .i64 a0_2, .int .i64 a0_3, .int .i64 a0_4] 37 (0, 0)) (by (with_reducible repeat (first | refine blk_drewN ?_ _ | refine blk_drew ?_ | refine blk_alloc ?_ _)); exact BK313.out)) : gb314 ≠ gb313)); clear BK313; clear HB; have BK313 := n0_; have HB := n1_; have BK314 := n2_; have GW314 := n3_; have GE314 := n4_; have NB313_314 := n5_; have NB314_313 := n6_; clear n0_ n1_ n2_ n3_ n4_ n5_ n6_; clear hb hbox hg; have hnb7 := NB313_314.out; have hnc7 := NB314_313.out; have hcz8_0 : w6.cell? ⟨gb313, 0, none⟩ = some (.slice A0_0 l0_0.length c0_0) := (blk_cell BK313.out 0).trans rfl; have hcz8_1 : w6.cell? ⟨gb313, 1, none⟩ = some (.slice A0_1 l0_1.length c0_1) := (blk_cell BK313.out 1).trans rfl; have hcz8_2 : w6.cell? ⟨gb313, 2, none⟩ = some (.int .i64 a0_2) := (blk_cell BK313.out 2).trans rfl; have hcz8_3 : w6.cell? ⟨gb313, 3, none⟩ = some (.int .i64 a0_3) := (blk_cell BK313.out 3).trans rfl; have hcz8_4 : w6.cell? ⟨gb313, 4, none⟩ = some (.int .i64 a0_4) := (blk_cell BK313.out 4).trans rfl; have hfz8_0 := blk_frozen BK313.out 0; have hfz8_1 := blk_frozen BK313.out 1; have hfz8_2 := blk_frozen BK313.out 2; have hfz8_3 := blk_frozen BK313.out 3; have hfz8_4 := blk_frozen BK313.out 4; have hcz9_0 : w6.cell? ⟨gb314, 0, none⟩ = some (.slice A1_0 l1_0.length c1_0) := (blk_cell BK314.out 0).trans rfl; have hcz9_1 : w6.cell? ⟨gb314, 1, none⟩ = some (.slice A1_1 l1_1.length c1_1) := (blk_cell BK314.out 1).trans rfl; have hcz9_2 : w6.cell? ⟨gb314, 2, none⟩ = some (.int .i64 a1_2) := (blk_cell BK314.out 2).trans rfl; have hcz9_3 : w6.cell? ⟨gb314, 3, none⟩ = some (.int .i64 a1_3) := (blk_cell BK314.out 3).trans rfl; have hcz9_4 : w6.cell? ⟨gb314, 4, none⟩ = some (.int .i64 a1_4) := (blk_cell BK314.out 4).trans rfl; have hfz9_0 := blk_frozen BK314.out 0; have hfz9_1 := blk_frozen BK314.out 1; have hfz9_2 := blk_frozen BK314.out 2; have hfz9_3 := blk_frozen BK314.out 3; have hfz9_4 := blk_frozen BK314.out 4) | (go_at_call 17; (with_reducible refine (pelicanref05_Ints.calls k _ _ l0_0 _ _ l1_0 t315 _ ?side1 ?side2 ?side3 ?side4 A3.out).mono ?_); (case side1 => repeat (first | exact (Kd.C_below HR0_0.out HB.out) | (with_reducible refine Kd.C_alloc ?_ _) | (with_reducible refine Kd.C_drewN ?_ _) | (with_reducible refine Kd.C_drew ?_))); (case side2 => exact HC0_0.out); (case side3 => repeat (first | exact (Kd.C_below HR1_0.out HB.out) | (with_reducible refine Kd.C_alloc ?_ _) | (with_reducible refine Kd.C_drewN ?_ _) | (with_reducible refine Kd.C_drew ?_))); (case side4 => exact HC1_0.out); rintro e w' ⟨rfl, ⟨nd, rfl⟩⟩; (try first | exact ⟨rfl, _, World.drewN_drewN _ _ _⟩ | exact ⟨rfl, _, Eq.trans (World.drewN_drewN _ _ _) (congrArg (World.drewN _) (Nat.add_assoc _ _ _))⟩))); go_upto_region 2 with (first | ((with_reducible refine gate_dst (N := 2) rfl ?_); (try (refine gate_guard (by rfl) ?_; dsimp only)); refine box_event ?hg (N := 2) ?hd (cs := #[.slice A0_0 l0_0.length c0_0, .slice A0_1 l0_1.length c0_1, .int .i64 a0_2, .int .i64 a0_3, .int .i64 a0_4]) (t := 37) ?hr ?_; (case hd => rfl); (case hg => rfl); (case hr => first | (go_simp; done) | (go_simp; rfl)); intro gb313 hg w5 hbox hb; have n0_ := Aside0.mk (below_step (by repeat (first | (with_reducible first | exact HB.out | apply below_alloc | apply pw_below_drewN | apply below_drew1) | exact HB.out)) hb); have n1_ := Aside0.mk (hbox); have n2_ := Aside0.mk ((by rw [hg]; exact (below_size (by repeat (first | (with_reducible first | exact HB.out | apply below_alloc | apply pw_below_drewN | apply below_drew1) | exact HB.out))) : w.heap.size ≤ gb313)); have n3_ := Aside0.mk ((by rw [hg]; exact (below_size (by repeat (first | (with_reducible first | exact HB.out | apply below_alloc | apply pw_below_drewN | apply below_drew1) | exact HB.out))) : w.heap.size ≤ gb313)); clear HB; have HB := n0_; have BK313 := n1_; have GW313 := n2_; have GE313 := n3_; clear n0_ n1_ n2_ n3_; clear hb hbox hg) | ((with_reducible refine gate_dst (N := 3) rfl ?_); (try (refine gate_guard (by rfl) ?_; dsimp only)); refine box_event ?hg (N := 3) ?hd (cs := #[.slice A1_0 l1_0.length c1_0, .slice A1_1 l1_1.length c1_1, .int .i64 a1_2, .int .i64 a1_3, .int .i64 a1_4]) (t := 37) ?hr ?_; (case hd => rfl); (case hg => rfl); (case hr => first | (go_simp; done) | (go_simp; rfl)); intro gb314 hg w6 hbox hb; have n0_ := Aside0.mk (blk_below (g := gb313) (o := .cells #[.slice A0_0 l0_0.length c0_0, .slice A0_1 l0_1.length c0_1, .int .i64 a0_2, .int .i64 a0_3, .int .i64 a0_4] 37 (0, 0)) (by (with_reducible repeat (first | refine blk_drewN ?_ _ | refine blk_drew ?_ | refine blk_alloc ?_ _)); exact BK313.out) hb); have n1_ := Aside0.mk (below_step (by repeat (first | (with_reducible first | exact HB.out | apply below_alloc | apply pw_below_drewN | apply below_drew1 | refine below_set ?_ GE313.out) | exact HB.out)) hb); have n2_ := Aside0.mk (hbox); have n3_ := Aside0.mk ((by rw [hg]; exact (below_size (by repeat (first | (with_reducible first | exact HB.out | apply below_alloc | apply pw_below_drewN | apply below_drew1 | refine below_set ?_ GE313.out) | exact HB.out))) : w.heap.size ≤ gb314)); have n4_ := Aside0.mk ((by rw [hg]; exact (below_size (by repeat (first | (with_reducible first | exact HB.out | apply below_alloc | apply pw_below_drewN | apply below_drew1 | refine below_set ?_ GE313.out) | exact HB.out))) : w.heap.size ≤ gb314)); have n5_ := Aside0.mk ((by rw [hg]; exact Nat.ne_of_lt (blk_lt (g := gb313) (o := .cells #[.slice A0_0 l0_0.length c0_0, .slice A0_1 l0_1.length c0_1, .int .i64 a0_2, .int .i64 a0_3, .int .i64 a0_4] 37 (0, 0)) (by (with_reducible repeat (first | refine blk_drewN ?_ _ | refine blk_drew ?_ | refine blk_alloc ?_ _)); exact BK313.out)) : gb313 ≠ gb314)); have n6_ := Aside0.mk ((by rw [hg]; exact Nat.ne_of_gt (blk_lt (g := gb313) (o := .cells #[.slice A0_0 l0_0.length c0_0, .slice A0_1 l0_1.length c0_1, .int .i64 a0_2, .int .i64 a0_3, .int .i64 a0_4] 37 (0, 0)) (by (with_reducible repeat (first | refine blk_drewN ?_ _ | refine blk_drew ?_ | refine blk_alloc ?_ _)); exact BK313.out)) : gb314 ≠ gb313)); clear BK313; clear HB; have BK313 := n0_; have HB := n1_; have BK314 := n2_; have GW314 := n3_; have GE314 := n4_; have NB313_314 := n5_; have NB314_313 := n6_; clear n0_ n1_ n2_ n3_ n4_ n5_ n6_; clear hb hbox hg; have hnb7 := NB313_314.out; have hnc7 := NB314_313.out; have hcz8_0 : w6.cell? ⟨gb313, 0, none⟩ = some (.slice A0_0 l0_0.length c0_0) := (blk_cell BK313.out 0).trans rfl; have hcz8_1 : w6.cell? ⟨gb313, 1, none⟩ = some (.slice A0_1 l0_1.length c0_1) := (blk_cell BK313.out 1).trans rfl; have hcz8_2 : w6.cell? ⟨gb313, 2, none⟩ = some (.int .i64 a0_2) := (blk_cell BK313.out 2).trans rfl; have hcz8_3 : w6.cell? ⟨gb313, 3, none⟩ = some (.int .i64 a0_3) := (blk_cell BK313.out 3).trans rfl; have hcz8_4 : w6.cell? ⟨gb313, 4, none⟩ = some (.int .i64 a0_4) := (blk_cell BK313.out 4).trans rfl; have hfz8_0 := blk_frozen BK313.out 0; have hfz8_1 := blk_frozen BK313.out 1; have hfz8_2 := blk_frozen BK313.out 2; have hfz8_3 := blk_frozen BK313.out 3; have hfz8_4 := blk_frozen BK313.out 4; have hcz9_0 : w6.cell? ⟨gb314, 0, none⟩ = some (.slice A1_0 l1_0.length c1_0) := (blk_cell BK314.out 0).trans rfl; have hcz9_1 : w6.cell? ⟨gb314, 1, none⟩ = some (.slice A1_1 l1_1.length c1_1) := (blk_cell BK314.out 1).trans rfl; have hcz9_2 : w6.cell? ⟨gb314, 2, none⟩ = some (.int .i64 a1_2) := (blk_cell BK314.out 2).trans rfl; have hcz9_3 : w6.cell? ⟨gb314, 3, none⟩ = some (.int .i64 a1_3) := (blk_cell BK314.out 3).trans rfl; have hcz9_4 : w6.cell? ⟨gb314, 4, none⟩ = some (.int .i64 a1_4) := (blk_cell BK314.out 4).trans rfl; have hfz9_0 := blk_frozen BK314.out 0; have hfz9_1 := blk_frozen BK314.out 1; have hfz9_2 := blk_frozen BK314.out 2; have hfz9_3 := blk_frozen BK314.out 3; have hfz9_4 := blk_frozen BK314.out 4) | (go_at_call 17; (with_reducible refine (pelicanref05_Ints.calls k _ _ l0_0 _ _ l1_0 t315 _ ?side1 ?side2 ?side3 ?side4 A3.out).mono ?_); (case side1 => repeat (first | exact (Kd.C_below HR0_0.out HB.out) | (with_reducible refine Kd.C_alloc ?_ _) | (with_reducible refine Kd.C_drewN ?_ _) | (with_reducible refine Kd.C_drew ?_))); (case side2 => exact HC0_0.out); (case side3 => repeat (first | exact (Kd.C_below HR1_0.out HB.out) | (with_reducible refine Kd.C_alloc ?_ _) | (with_reducible refine Kd.C_drewN ?_ _) | (with_reducible refine Kd.C_drew ?_))); (case side4 => exact HC1_0.out); rintro e w' ⟨rfl, ⟨nd, rfl⟩⟩; (try first | exact ⟨rfl, _, World.drewN_drewN _ _ _⟩ | exact ⟨rfl, _, Eq.trans (World.drewN_drewN _ _ _) (congrArg (World.drewN _) (Nat.add_assoc _ _ _))⟩))))
  (try simp only [Act.put, List.setIfInBounds_toArray, List.set_cons_zero, List.set_cons_succ])
  go_cut [43] (fun v43 wc => ∃ (kq : Nat) (x43_3 : Bool), v43 = .bool x43_3 ∧ Aside0 (pelicanref14_Same.j0 kq x43_3 l0_0 l0_1 a0_2 a0_3 a0_4 l1_0 l1_1 a1_2 a1_3 a1_4 = some r) ∧ Aside0 (kq ≤ k) ∧ Aside0 (wc.heap[gb313]? = some (.cells #[(.slice A0_0 l0_0.length c0_0), (.slice A0_1 l0_1.length c0_1), .int .i64 a0_2, .int .i64 a0_3, .int .i64 a0_4] 37 (0, 0))) ∧ Aside0 (wc.heap[gb314]? = some (.cells #[(.slice A1_0 l1_0.length c1_0), (.slice A1_1 l1_1.length c1_1), .int .i64 a1_2, .int .i64 a1_3, .int .i64 a1_4] 37 (0, 0))) ∧ Aside0 (Below w.heap.size w wc))
  case first =>
    have H := HC4.out
    clear HC4
    by_cases c10 : t315 = true
    · subst c10
      have H1 : (if (l0_1.length : Int) = (l1_1.length : Int) then (if a0_2 = a1_2 then (if a0_3 = a1_3 then (pelicanref14_Same.j0 k (a0_4 != a1_4) l0_0 l0_1 a0_2 a0_3 a0_4 l1_0 l1_1 a1_2 a1_3 a1_4) else (pelicanref14_Same.j0 k true l0_0 l0_1 a0_2 a0_3 a0_4 l1_0 l1_1 a1_2 a1_3 a1_4)) else (pelicanref14_Same.j0 k true l0_0 l0_1 a0_2 a0_3 a0_4 l1_0 l1_1 a1_2 a1_3 a1_4)) else (pelicanref14_Same.j0 k true l0_0 l0_1 a0_2 a0_3 a0_4 l1_0 l1_1 a1_2 a1_3 a1_4)) = some r := by rw [if_pos rfl] at H; exact H
      clear H
      have H := H1
      clear H1
      by_cases c11 : (l0_1.length : Int) = (l1_1.length : Int)
      · rw [if_pos c11] at H
        have c11b0 : ((l0_1.length : Int) == (l1_1.length : Int)) = true := beq_iff_eq.mpr c11
        have c11b1 : ((l0_1.length : Int) != (l1_1.length : Int)) = false := bne_eq_false_iff_eq.mpr c11
        have c11b2 : (l0_1.length == l1_1.length) = true := by first | simpa using c11 | (simp at c11 ⊢; omega)
        clear c11
        (first | rw [c11b0] | (simp only [i64_w, i32_w]; rw [c11b0]) | skip)
        by_cases c12 : a0_2 = a1_2
        · rw [if_pos c12] at H
          have c12b0 : (a0_2 == a1_2) = true := beq_iff_eq.mpr c12
          have c12b1 : (a0_2 != a1_2) = false := bne_eq_false_iff_eq.mpr c12
          clear c12
          by_cases c13 : a0_3 = a1_3
          · rw [if_pos c13] at H
            have c13b0 : (a0_3 == a1_3) = true := beq_iff_eq.mpr c13
            have c13b1 : (a0_3 != a1_3) = false := bne_eq_false_iff_eq.mpr c13
            clear c13
            have H' := Aside0.mk H
            clear H
            have hnb14 := NB313_314.out
            have hnc14 := NB314_313.out
            have hcz15_0 : w6.cell? ⟨gb313, 0, none⟩ = some (.slice A0_0 l0_0.length c0_0) := (blk_cell BK313.out 0).trans rfl
            have hcz15_1 : w6.cell? ⟨gb313, 1, none⟩ = some (.slice A0_1 l0_1.length c0_1) := (blk_cell BK313.out 1).trans rfl
            have hcz15_2 : w6.cell? ⟨gb313, 2, none⟩ = some (.int .i64 a0_2) := (blk_cell BK313.out 2).trans rfl
            have hcz15_3 : w6.cell? ⟨gb313, 3, none⟩ = some (.int .i64 a0_3) := (blk_cell BK313.out 3).trans rfl
            have hcz15_4 : w6.cell? ⟨gb313, 4, none⟩ = some (.int .i64 a0_4) := (blk_cell BK313.out 4).trans rfl
            have hfz15_0 := blk_frozen BK313.out 0
            have hfz15_1 := blk_frozen BK313.out 1
            have hfz15_2 := blk_frozen BK313.out 2
            have hfz15_3 := blk_frozen BK313.out 3
            have hfz15_4 := blk_frozen BK313.out 4
            have hcz16_0 : w6.cell? ⟨gb314, 0, none⟩ = some (.slice A1_0 l1_0.length c1_0) := (blk_cell BK314.out 0).trans rfl
            have hcz16_1 : w6.cell? ⟨gb314, 1, none⟩ = some (.slice A1_1 l1_1.length c1_1) := (blk_cell BK314.out 1).trans rfl
            have hcz16_2 : w6.cell? ⟨gb314, 2, none⟩ = some (.int .i64 a1_2) := (blk_cell BK314.out 2).trans rfl
            have hcz16_3 : w6.cell? ⟨gb314, 3, none⟩ = some (.int .i64 a1_3) := (blk_cell BK314.out 3).trans rfl
            have hcz16_4 : w6.cell? ⟨gb314, 4, none⟩ = some (.int .i64 a1_4) := (blk_cell BK314.out 4).trans rfl
            have hfz16_0 := blk_frozen BK314.out 0
            have hfz16_1 := blk_frozen BK314.out 1
            have hfz16_2 := blk_frozen BK314.out 2
            have hfz16_3 := blk_frozen BK314.out 3
            have hfz16_4 := blk_frozen BK314.out 4
            go_wp2
            repeat (go_quiet (fail); try go_wp2)
            go_meet
            case rel => exact ⟨_, ((a0_4 != a1_4)), (by first | rfl | (simp; done) | (simp [*]; done)), H', ⟨by first | omega | exact Nat.le_refl _⟩, ⟨by (with_reducible repeat (first | refine blk_drewN ?_ _ | refine blk_drew ?_ | refine blk_alloc ?_ _)); exact BK313.out⟩, ⟨by (with_reducible repeat (first | refine blk_drewN ?_ _ | refine blk_drew ?_ | refine blk_alloc ?_ _)); exact BK314.out⟩, ⟨by repeat (first | (with_reducible first | exact HB.out | apply below_alloc | apply pw_below_drewN | apply below_drew1 | refine below_set ?_ GE313.out | refine below_set ?_ GE314.out) | exact HB.out)⟩⟩
          · rw [if_neg c13] at H
            have c13b0 : (a0_3 == a1_3) = false := beq_eq_false_iff_ne.mpr c13
            have c13b1 : (a0_3 != a1_3) = true := bne_iff_ne.mpr c13
            have H' := Aside0.mk H
            clear H
            have hnb17 := NB313_314.out
            have hnc17 := NB314_313.out
            have hcz18_0 : w6.cell? ⟨gb313, 0, none⟩ = some (.slice A0_0 l0_0.length c0_0) := (blk_cell BK313.out 0).trans rfl
            have hcz18_1 : w6.cell? ⟨gb313, 1, none⟩ = some (.slice A0_1 l0_1.length c0_1) := (blk_cell BK313.out 1).trans rfl
            have hcz18_2 : w6.cell? ⟨gb313, 2, none⟩ = some (.int .i64 a0_2) := (blk_cell BK313.out 2).trans rfl
            have hcz18_3 : w6.cell? ⟨gb313, 3, none⟩ = some (.int .i64 a0_3) := (blk_cell BK313.out 3).trans rfl
            have hcz18_4 : w6.cell? ⟨gb313, 4, none⟩ = some (.int .i64 a0_4) := (blk_cell BK313.out 4).trans rfl
            have hfz18_0 := blk_frozen BK313.out 0
            have hfz18_1 := blk_frozen BK313.out 1
            have hfz18_2 := blk_frozen BK313.out 2
            have hfz18_3 := blk_frozen BK313.out 3
            have hfz18_4 := blk_frozen BK313.out 4
            have hcz19_0 : w6.cell? ⟨gb314, 0, none⟩ = some (.slice A1_0 l1_0.length c1_0) := (blk_cell BK314.out 0).trans rfl
            have hcz19_1 : w6.cell? ⟨gb314, 1, none⟩ = some (.slice A1_1 l1_1.length c1_1) := (blk_cell BK314.out 1).trans rfl
            have hcz19_2 : w6.cell? ⟨gb314, 2, none⟩ = some (.int .i64 a1_2) := (blk_cell BK314.out 2).trans rfl
            have hcz19_3 : w6.cell? ⟨gb314, 3, none⟩ = some (.int .i64 a1_3) := (blk_cell BK314.out 3).trans rfl
            have hcz19_4 : w6.cell? ⟨gb314, 4, none⟩ = some (.int .i64 a1_4) := (blk_cell BK314.out 4).trans rfl
            have hfz19_0 := blk_frozen BK314.out 0
            have hfz19_1 := blk_frozen BK314.out 1
            have hfz19_2 := blk_frozen BK314.out 2
            have hfz19_3 := blk_frozen BK314.out 3
            have hfz19_4 := blk_frozen BK314.out 4
            go_wp2
            repeat (go_quiet (fail); try go_wp2)
            go_meet
            case rel => exact ⟨_, (true), (by first | rfl | (simp; done) | (simp [*]; done)), H', ⟨by first | omega | exact Nat.le_refl _⟩, ⟨by (with_reducible repeat (first | refine blk_drewN ?_ _ | refine blk_drew ?_ | refine blk_alloc ?_ _)); exact BK313.out⟩, ⟨by (with_reducible repeat (first | refine blk_drewN ?_ _ | refine blk_drew ?_ | refine blk_alloc ?_ _)); exact BK314.out⟩, ⟨by repeat (first | (with_reducible first | exact HB.out | apply below_alloc | apply pw_below_drewN | apply below_drew1 | refine below_set ?_ GE313.out | refine below_set ?_ GE314.out) | exact HB.out)⟩⟩
        · rw [if_neg c12] at H
          have c12b0 : (a0_2 == a1_2) = false := beq_eq_false_iff_ne.mpr c12
          have c12b1 : (a0_2 != a1_2) = true := bne_iff_ne.mpr c12
          have H' := Aside0.mk H
          clear H
          have hnb20 := NB313_314.out
          have hnc20 := NB314_313.out
          have hcz21_0 : w6.cell? ⟨gb313, 0, none⟩ = some (.slice A0_0 l0_0.length c0_0) := (blk_cell BK313.out 0).trans rfl
          have hcz21_1 : w6.cell? ⟨gb313, 1, none⟩ = some (.slice A0_1 l0_1.length c0_1) := (blk_cell BK313.out 1).trans rfl
          have hcz21_2 : w6.cell? ⟨gb313, 2, none⟩ = some (.int .i64 a0_2) := (blk_cell BK313.out 2).trans rfl
          have hcz21_3 : w6.cell? ⟨gb313, 3, none⟩ = some (.int .i64 a0_3) := (blk_cell BK313.out 3).trans rfl
          have hcz21_4 : w6.cell? ⟨gb313, 4, none⟩ = some (.int .i64 a0_4) := (blk_cell BK313.out 4).trans rfl
          have hfz21_0 := blk_frozen BK313.out 0
          have hfz21_1 := blk_frozen BK313.out 1
          have hfz21_2 := blk_frozen BK313.out 2
          have hfz21_3 := blk_frozen BK313.out 3
          have hfz21_4 := blk_frozen BK313.out 4
          have hcz22_0 : w6.cell? ⟨gb314, 0, none⟩ = some (.slice A1_0 l1_0.length c1_0) := (blk_cell BK314.out 0).trans rfl
          have hcz22_1 : w6.cell? ⟨gb314, 1, none⟩ = some (.slice A1_1 l1_1.length c1_1) := (blk_cell BK314.out 1).trans rfl
          have hcz22_2 : w6.cell? ⟨gb314, 2, none⟩ = some (.int .i64 a1_2) := (blk_cell BK314.out 2).trans rfl
          have hcz22_3 : w6.cell? ⟨gb314, 3, none⟩ = some (.int .i64 a1_3) := (blk_cell BK314.out 3).trans rfl
          have hcz22_4 : w6.cell? ⟨gb314, 4, none⟩ = some (.int .i64 a1_4) := (blk_cell BK314.out 4).trans rfl
          have hfz22_0 := blk_frozen BK314.out 0
          have hfz22_1 := blk_frozen BK314.out 1
          have hfz22_2 := blk_frozen BK314.out 2
          have hfz22_3 := blk_frozen BK314.out 3
          have hfz22_4 := blk_frozen BK314.out 4
          go_wp2
          repeat (go_quiet (fail); try go_wp2)
          go_meet
          case rel => exact ⟨_, (true), (by first | rfl | (simp; done) | (simp [*]; done)), H', ⟨by first | omega | exact Nat.le_refl _⟩, ⟨by (with_reducible repeat (first | refine blk_drewN ?_ _ | refine blk_drew ?_ | refine blk_alloc ?_ _)); exact BK313.out⟩, ⟨by (with_reducible repeat (first | refine blk_drewN ?_ _ | refine blk_drew ?_ | refine blk_alloc ?_ _)); exact BK314.out⟩, ⟨by repeat (first | (with_reducible first | exact HB.out | apply below_alloc | apply pw_below_drewN | apply below_drew1 | refine below_set ?_ GE313.out | refine below_set ?_ GE314.out) | exact HB.out)⟩⟩
      · rw [if_neg c11] at H
        have c11b0 : ((l0_1.length : Int) == (l1_1.length : Int)) = false := beq_eq_false_iff_ne.mpr c11
        have c11b1 : ((l0_1.length : Int) != (l1_1.length : Int)) = true := bne_iff_ne.mpr c11
        have c11b2 : (l0_1.length == l1_1.length) = false := by first | simpa using c11 | (simp at c11 ⊢; omega)
        (first | rw [c11b0] | (simp only [i64_w, i32_w]; rw [c11b0]) | skip)
        have H' := Aside0.mk H
        clear H
        have hnb23 := NB313_314.out
        have hnc23 := NB314_313.out
        have hcz24_0 : w6.cell? ⟨gb313, 0, none⟩ = some (.slice A0_0 l0_0.length c0_0) := (blk_cell BK313.out 0).trans rfl
        have hcz24_1 : w6.cell? ⟨gb313, 1, none⟩ = some (.slice A0_1 l0_1.length c0_1) := (blk_cell BK313.out 1).trans rfl
        have hcz24_2 : w6.cell? ⟨gb313, 2, none⟩ = some (.int .i64 a0_2) := (blk_cell BK313.out 2).trans rfl
        have hcz24_3 : w6.cell? ⟨gb313, 3, none⟩ = some (.int .i64 a0_3) := (blk_cell BK313.out 3).trans rfl
        have hcz24_4 : w6.cell? ⟨gb313, 4, none⟩ = some (.int .i64 a0_4) := (blk_cell BK313.out 4).trans rfl
        have hfz24_0 := blk_frozen BK313.out 0
        have hfz24_1 := blk_frozen BK313.out 1
        have hfz24_2 := blk_frozen BK313.out 2
        have hfz24_3 := blk_frozen BK313.out 3
        have hfz24_4 := blk_frozen BK313.out 4
        have hcz25_0 : w6.cell? ⟨gb314, 0, none⟩ = some (.slice A1_0 l1_0.length c1_0) := (blk_cell BK314.out 0).trans rfl
        have hcz25_1 : w6.cell? ⟨gb314, 1, none⟩ = some (.slice A1_1 l1_1.length c1_1) := (blk_cell BK314.out 1).trans rfl
        have hcz25_2 : w6.cell? ⟨gb314, 2, none⟩ = some (.int .i64 a1_2) := (blk_cell BK314.out 2).trans rfl
        have hcz25_3 : w6.cell? ⟨gb314, 3, none⟩ = some (.int .i64 a1_3) := (blk_cell BK314.out 3).trans rfl
        have hcz25_4 : w6.cell? ⟨gb314, 4, none⟩ = some (.int .i64 a1_4) := (blk_cell BK314.out 4).trans rfl
        have hfz25_0 := blk_frozen BK314.out 0
        have hfz25_1 := blk_frozen BK314.out 1
        have hfz25_2 := blk_frozen BK314.out 2
        have hfz25_3 := blk_frozen BK314.out 3
        have hfz25_4 := blk_frozen BK314.out 4
        go_wp2
        repeat (go_quiet (fail); try go_wp2)
        go_meet
        case rel => exact ⟨_, (true), (by first | rfl | (simp; done) | (simp [*]; done)), H', ⟨by first | omega | exact Nat.le_refl _⟩, ⟨by (with_reducible repeat (first | refine blk_drewN ?_ _ | refine blk_drew ?_ | refine blk_alloc ?_ _)); exact BK313.out⟩, ⟨by (with_reducible repeat (first | refine blk_drewN ?_ _ | refine blk_drew ?_ | refine blk_alloc ?_ _)); exact BK314.out⟩, ⟨by repeat (first | (with_reducible first | exact HB.out | apply below_alloc | apply pw_below_drewN | apply below_drew1 | refine below_set ?_ GE313.out | refine below_set ?_ GE314.out) | exact HB.out)⟩⟩
    · replace c10 := Bool.eq_false_iff.mpr c10
      subst c10
      have H1 : (pelicanref14_Same.j0 k true l0_0 l0_1 a0_2 a0_3 a0_4 l1_0 l1_1 a1_2 a1_3 a1_4) = some r := by rw [if_neg (show ¬ (false = true) by decide)] at H; exact H
      clear H
      have H := H1
      clear H1
      have H' := Aside0.mk H
      clear H
      go_wp2
      repeat (go_quiet (fail); try go_wp2)
      go_meet
      case rel => exact ⟨_, (true), (by first | rfl | (simp; done) | (simp [*]; done)), H', ⟨by first | omega | exact Nat.le_refl _⟩, ⟨by (with_reducible repeat (first | refine blk_drewN ?_ _ | refine blk_drew ?_ | refine blk_alloc ?_ _)); exact BK313.out⟩, ⟨by (with_reducible repeat (first | refine blk_drewN ?_ _ | refine blk_drew ?_ | refine blk_alloc ?_ _)); exact BK314.out⟩, ⟨by repeat (first | (with_reducible first | exact HB.out | apply below_alloc | apply pw_below_drewN | apply below_drew1 | refine below_set ?_ GE313.out | refine below_set ?_ GE314.out) | exact HB.out)⟩⟩
  case rest =>
    clear HC4
    try clear c1
    try clear c2
    try clear p2
    try clear c3
    try clear c7
    try clear c10
    try clear c11
    try clear c11b0
    try clear c11b1
    try clear c11b2
    try clear c12
    try clear c12b0
    try clear c12b1
    try clear c13
    try clear c13b0
    try clear c13b1
    try clear c14
    try clear c17
    try clear c20
    try clear c23
    try clear hcz15_0
    try clear hcz15_1
    try clear hcz15_2
    try clear hcz15_3
    try clear hcz15_4
    try clear hcz16_0
    try clear hcz16_1
    try clear hcz16_2
    try clear hcz16_3
    try clear hcz16_4
    try clear hcz18_0
    try clear hcz18_1
    try clear hcz18_2
    try clear hcz18_3
    try clear hcz18_4
    try clear hcz19_0
    try clear hcz19_1
    try clear hcz19_2
    try clear hcz19_3
    try clear hcz19_4
    try clear hcz21_0
    try clear hcz21_1
    try clear hcz21_2
    try clear hcz21_3
    try clear hcz21_4
    try clear hcz22_0
    try clear hcz22_1
    try clear hcz22_2
    try clear hcz22_3
    try clear hcz22_4
    try clear hcz24_0
    try clear hcz24_1
    try clear hcz24_2
    try clear hcz24_3
    try clear hcz24_4
    try clear hcz25_0
    try clear hcz25_1
    try clear hcz25_2
    try clear hcz25_3
    try clear hcz25_4
    try clear hcz8_0
    try clear hcz8_1
    try clear hcz8_2
    try clear hcz8_3
    try clear hcz8_4
    try clear hcz9_0
    try clear hcz9_1
    try clear hcz9_2
    try clear hcz9_3
    try clear hcz9_4
    try clear hfz15_0
    try clear hfz15_1
    try clear hfz15_2
    try clear hfz15_3
    try clear hfz15_4
    try clear hfz16_0
    try clear hfz16_1
    try clear hfz16_2
    try clear hfz16_3
    try clear hfz16_4
    try clear hfz18_0
    try clear hfz18_1
    try clear hfz18_2
    try clear hfz18_3
    try clear hfz18_4
    try clear hfz19_0
    try clear hfz19_1
    try clear hfz19_2
    try clear hfz19_3
    try clear hfz19_4
    try clear hfz21_0
    try clear hfz21_1
    try clear hfz21_2
    try clear hfz21_3
    try clear hfz21_4
    try clear hfz22_0
    try clear hfz22_1
    try clear hfz22_2
    try clear hfz22_3
    try clear hfz22_4
    try clear hfz24_0
    try clear hfz24_1
    try clear hfz24_2
    try clear hfz24_3
    try clear hfz24_4
    try clear hfz25_0
    try clear hfz25_1
    try clear hfz25_2
    try clear hfz25_3
    try clear hfz25_4
    try clear hfz8_0
    try clear hfz8_1
    try clear hfz8_2
    try clear hfz8_3
    try clear hfz8_4
    try clear hfz9_0
    try clear hfz9_1
    try clear hfz9_2
    try clear hfz9_3
    try clear hfz9_4
    obtain ⟨kq, x43_3, rfl, HA, HJ3, BK313, BK314, HB⟩ := hcut
    cases kq with
    | zero => exact absurd HA.out (by simp [pelicanref14_Same.j0])
    | succ kj3 =>
      have H := HA.out
      clear HA
      simp only [pelicanref14_Same.j0] at H
      by_cases c26 : x43_3 = true
      · subst c26
        have H1 : (some false) = some r := by rw [if_pos rfl] at H; exact H
        clear H
        have H := H1
        clear H1
        obtain rfl := Option.some.inj H
        go_wp2
        repeat (go_quiet (fail); try go_wp2)
        go_ret
        exact ⟨by first | rfl | (simp [errW_none, errW_some] <;> rfl) | (simp [*, errW_none, errW_some] <;> rfl), by repeat (first | (with_reducible first | exact HB.out | apply below_alloc | apply pw_below_drewN | apply below_drew1 | refine below_set ?_ GE313.out | refine below_set ?_ GE314.out) | exact HB.out)⟩
      · replace c26 := Bool.eq_false_iff.mpr c26
        subst c26
        have H1 : (pelicanref14_Same.l0 kj3 0 l0_0 l0_1 a0_2 a0_3 a0_4 l1_0 l1_1 a1_2 a1_3 a1_4) = some r := by rw [if_neg (show ¬ (false = true) by decide)] at H; exact H
        clear H
        have H := H1
        clear H1
        have H' := Aside0.mk H
        clear H
        go_wp2
        repeat (go_quiet (fail); try go_wp2)
        go_loopg [6] kj3 (fun kq v6 w' => ∃ (x6_2 : Int), v6 = .int .i64 x6_2 ∧ Aside0 (pelicanref14_Same.l0 kq x6_2 l0_0 l0_1 a0_2 a0_3 a0_4 l1_0 l1_1 a1_2 a1_3 a1_4 = some r) ∧ Aside0 (kq ≤ kj3) ∧ Aside0 (w'.heap[gb313]? = some (.cells #[(.slice A0_0 l0_0.length c0_0), (.slice A0_1 l0_1.length c0_1), .int .i64 a0_2, .int .i64 a0_3, .int .i64 a0_4] 37 (0, 0))) ∧ Aside0 (w'.heap[gb314]? = some (.cells #[(.slice A1_0 l1_0.length c1_0), (.slice A1_1 l1_1.length c1_1), .int .i64 a1_2, .int .i64 a1_3, .int .i64 a1_4] 37 (0, 0))) ∧ Aside0 (Below w.heap.size w w'))
        case atStart => exact ⟨(0), (by first | rfl | (simp; done) | (simp [*]; done)), H', ⟨Nat.le_refl _⟩, ⟨by (with_reducible repeat (first | refine blk_drewN ?_ _ | refine blk_drew ?_ | refine blk_alloc ?_ _)); exact BK313.out⟩, ⟨by (with_reducible repeat (first | refine blk_drewN ?_ _ | refine blk_drew ?_ | refine blk_alloc ?_ _)); exact BK314.out⟩, ⟨by repeat (first | (with_reducible first | exact HB.out | apply below_alloc | apply pw_below_drewN | apply below_drew1 | refine below_set ?_ GE313.out | refine below_set ?_ GE314.out) | exact HB.out)⟩⟩
        case round =>
          clear H'
          try clear c1
          try clear c2
          try clear p2
          try clear c3
          try clear c7
          try clear c10
          try clear c11
          try clear c11b0
          try clear c11b1
          try clear c11b2
          try clear c12
          try clear c12b0
          try clear c12b1
          try clear c13
          try clear c13b0
          try clear c13b1
          try clear c14
          try clear c17
          try clear c20
          try clear c23
          try clear c26
          try clear hcz15_0
          try clear hcz15_1
          try clear hcz15_2
          try clear hcz15_3
          try clear hcz15_4
          try clear hcz16_0
          try clear hcz16_1
          try clear hcz16_2
          try clear hcz16_3
          try clear hcz16_4
          try clear hcz18_0
          try clear hcz18_1
          try clear hcz18_2
          try clear hcz18_3
          try clear hcz18_4
          try clear hcz19_0
          try clear hcz19_1
          try clear hcz19_2
          try clear hcz19_3
          try clear hcz19_4
          try clear hcz21_0
          try clear hcz21_1
          try clear hcz21_2
          try clear hcz21_3
          try clear hcz21_4
          try clear hcz22_0
          try clear hcz22_1
          try clear hcz22_2
          try clear hcz22_3
          try clear hcz22_4
          try clear hcz24_0
          try clear hcz24_1
          try clear hcz24_2
          try clear hcz24_3
          try clear hcz24_4
          try clear hcz25_0
          try clear hcz25_1
          try clear hcz25_2
          try clear hcz25_3
          try clear hcz25_4
          try clear hcz8_0
          try clear hcz8_1
          try clear hcz8_2
          try clear hcz8_3
          try clear hcz8_4
          try clear hcz9_0
          try clear hcz9_1
          try clear hcz9_2
          try clear hcz9_3
          try clear hcz9_4
          try clear hfz15_0
          try clear hfz15_1
          try clear hfz15_2
          try clear hfz15_3
          try clear hfz15_4
          try clear hfz16_0
          try clear hfz16_1
          try clear hfz16_2
          try clear hfz16_3
          try clear hfz16_4
          try clear hfz18_0
          try clear hfz18_1
          try clear hfz18_2
          try clear hfz18_3
          try clear hfz18_4
          try clear hfz19_0
          try clear hfz19_1
          try clear hfz19_2
          try clear hfz19_3
          try clear hfz19_4
          try clear hfz21_0
          try clear hfz21_1
          try clear hfz21_2
          try clear hfz21_3
          try clear hfz21_4
          try clear hfz22_0
          try clear hfz22_1
          try clear hfz22_2
          try clear hfz22_3
          try clear hfz22_4
          try clear hfz24_0
          try clear hfz24_1
          try clear hfz24_2
          try clear hfz24_3
          try clear hfz24_4
          try clear hfz25_0
          try clear hfz25_1
          try clear hfz25_2
          try clear hfz25_3
          try clear hfz25_4
          try clear hfz8_0
          try clear hfz8_1
          try clear hfz8_2
          try clear hfz8_3
          try clear hfz8_4
          try clear hfz9_0
          try clear hfz9_1
          try clear hfz9_2
          try clear hfz9_3
          try clear hfz9_4
          try clear p2
          obtain ⟨x6_2, rfl, HA, HK2, BK313, BK314, HB⟩ := hrel
          cases gk with
          | zero => exact absurd HA.out (by simp [pelicanref14_Same.l0])
          | succ k2 =>
            have H := HA.out
            clear HA
            simp only [pelicanref14_Same.l0] at H
            by_cases c27 : x6_2 < (l0_1.length : Int)
            · rw [if_pos c27] at H
              have c27b0 : decide (x6_2 < (l0_1.length : Int)) = true := decide_eq_true c27
              clear c27
              by_cases c28 : 0 ≤ x6_2
              · rw [if_pos c28] at H
                have c28b0 : decide (0 ≤ x6_2) = true := decide_eq_true c28
                clear c28
                by_cases c29 : x6_2 < (l1_1.length : Int)
                · rw [if_pos c29] at H
                  have c29b0 : decide (x6_2 < (l1_1.length : Int)) = true := decide_eq_true c29
                  clear c29
                  by_cases c30 : (!(((rd_T47 l0_1 x6_2).f0) == ((rd_T47 l1_1 x6_2).f0)) || (!(((rd_T47 l0_1 x6_2).f1) == ((rd_T47 l1_1 x6_2).f1)) || (!(((rd_T47 l0_1 x6_2).f2) == ((rd_T47 l1_1 x6_2).f2))))) = true
                  · rw [if_pos c30] at H
                    have c30b0 : (!(((rd_T47 l0_1 x6_2).f0) == ((rd_T47 l1_1 x6_2).f0)) || (!(((rd_T47 l0_1 x6_2).f1) == ((rd_T47 l1_1 x6_2).f1)) || (!(((rd_T47 l0_1 x6_2).f2) == ((rd_T47 l1_1 x6_2).f2))))) = true := c30
                    clear c30
                    obtain rfl := Option.some.inj H
                    have hnb31 := NB313_314.out
                    have hnc31 := NB314_313.out
                    have hcz32_0 : wr.cell? ⟨gb313, 0, none⟩ = some (.slice A0_0 l0_0.length c0_0) := (blk_cell BK313.out 0).trans rfl
                    have hcz32_1 : wr.cell? ⟨gb313, 1, none⟩ = some (.slice A0_1 l0_1.length c0_1) := (blk_cell BK313.out 1).trans rfl
                    have hcz32_2 : wr.cell? ⟨gb313, 2, none⟩ = some (.int .i64 a0_2) := (blk_cell BK313.out 2).trans rfl
                    have hcz32_3 : wr.cell? ⟨gb313, 3, none⟩ = some (.int .i64 a0_3) := (blk_cell BK313.out 3).trans rfl
                    have hcz32_4 : wr.cell? ⟨gb313, 4, none⟩ = some (.int .i64 a0_4) := (blk_cell BK313.out 4).trans rfl
                    have hfz32_0 := blk_frozen BK313.out 0
                    have hfz32_1 := blk_frozen BK313.out 1
                    have hfz32_2 := blk_frozen BK313.out 2
                    have hfz32_3 := blk_frozen BK313.out 3
                    have hfz32_4 := blk_frozen BK313.out 4
                    have p316 : 0 ≤ (x6_2 : Int) := of_decide_eq_true (by first | (with_reducible assumption) | assumption)
                    have q316 : x6_2 < (l0_1.length : Int) := of_decide_eq_true (by first | (with_reducible assumption) | assumption)
                    obtain ⟨ad316, e316, hx316_0, hx316_1, hx316_2⟩ := at_T47 HR0_1.out x6_2 p316 q316
                    cases e316
                    replace hx316_0 := (HB.out.cell (World.block_lt_of_cell? w _ hx316_0)).trans hx316_0
                    replace hx316_1 := (HB.out.cell (World.block_lt_of_cell? w _ hx316_1)).trans hx316_1
                    replace hx316_2 := (HB.out.cell (World.block_lt_of_cell? w _ hx316_2)).trans hx316_2
                    replace p316 := eq_true p316
                    replace q316 := eq_true q316
                    have hcz33_0 : wr.cell? ⟨gb314, 0, none⟩ = some (.slice A1_0 l1_0.length c1_0) := (blk_cell BK314.out 0).trans rfl
                    have hcz33_1 : wr.cell? ⟨gb314, 1, none⟩ = some (.slice A1_1 l1_1.length c1_1) := (blk_cell BK314.out 1).trans rfl
                    have hcz33_2 : wr.cell? ⟨gb314, 2, none⟩ = some (.int .i64 a1_2) := (blk_cell BK314.out 2).trans rfl
                    have hcz33_3 : wr.cell? ⟨gb314, 3, none⟩ = some (.int .i64 a1_3) := (blk_cell BK314.out 3).trans rfl
                    have hcz33_4 : wr.cell? ⟨gb314, 4, none⟩ = some (.int .i64 a1_4) := (blk_cell BK314.out 4).trans rfl
                    have hfz33_0 := blk_frozen BK314.out 0
                    have hfz33_1 := blk_frozen BK314.out 1
                    have hfz33_2 := blk_frozen BK314.out 2
                    have hfz33_3 := blk_frozen BK314.out 3
                    have hfz33_4 := blk_frozen BK314.out 4
                    have p317 : 0 ≤ (x6_2 : Int) := of_decide_eq_true (by first | (with_reducible assumption) | assumption)
                    have q317 : x6_2 < (l1_1.length : Int) := of_decide_eq_true (by first | (with_reducible assumption) | assumption)
                    obtain ⟨ad317, e317, hx317_0, hx317_1, hx317_2⟩ := at_T47 HR1_1.out x6_2 p317 q317
                    cases e317
                    replace hx317_0 := (HB.out.cell (World.block_lt_of_cell? w _ hx317_0)).trans hx317_0
                    replace hx317_1 := (HB.out.cell (World.block_lt_of_cell? w _ hx317_1)).trans hx317_1
                    replace hx317_2 := (HB.out.cell (World.block_lt_of_cell? w _ hx317_2)).trans hx317_2
                    replace p317 := eq_true p317
                    replace q317 := eq_true q317
                    go_wp2
                    repeat (go_quiet (fail); try go_wp2)
                    go_ret
                    exact ⟨by first | rfl | (simp [errW_none, errW_some] <;> rfl) | (simp [*, errW_none, errW_some] <;> rfl), by repeat (first | (with_reducible first | exact HB.out | apply below_alloc | apply pw_below_drewN | apply below_drew1 | refine below_set ?_ GE313.out | refine below_set ?_ GE314.out) | exact HB.out)⟩
                  · rw [if_neg c30] at H
                    have c30b0 : (!(((rd_T47 l0_1 x6_2).f0) == ((rd_T47 l1_1 x6_2).f0)) || (!(((rd_T47 l0_1 x6_2).f1) == ((rd_T47 l1_1 x6_2).f1)) || (!(((rd_T47 l0_1 x6_2).f2) == ((rd_T47 l1_1 x6_2).f2))))) = false := by simpa using c30
                    clear c30
                    have H' := Aside0.mk H
                    clear H
                    have hnb34 := NB313_314.out
                    have hnc34 := NB314_313.out
                    have hcz35_0 : wr.cell? ⟨gb313, 0, none⟩ = some (.slice A0_0 l0_0.length c0_0) := (blk_cell BK313.out 0).trans rfl
                    have hcz35_1 : wr.cell? ⟨gb313, 1, none⟩ = some (.slice A0_1 l0_1.length c0_1) := (blk_cell BK313.out 1).trans rfl
                    have hcz35_2 : wr.cell? ⟨gb313, 2, none⟩ = some (.int .i64 a0_2) := (blk_cell BK313.out 2).trans rfl
                    have hcz35_3 : wr.cell? ⟨gb313, 3, none⟩ = some (.int .i64 a0_3) := (blk_cell BK313.out 3).trans rfl
                    have hcz35_4 : wr.cell? ⟨gb313, 4, none⟩ = some (.int .i64 a0_4) := (blk_cell BK313.out 4).trans rfl
                    have hfz35_0 := blk_frozen BK313.out 0
                    have hfz35_1 := blk_frozen BK313.out 1
                    have hfz35_2 := blk_frozen BK313.out 2
                    have hfz35_3 := blk_frozen BK313.out 3
                    have hfz35_4 := blk_frozen BK313.out 4
                    have p316 : 0 ≤ (x6_2 : Int) := of_decide_eq_true (by first | (with_reducible assumption) | assumption)
                    have q316 : x6_2 < (l0_1.length : Int) := of_decide_eq_true (by first | (with_reducible assumption) | assumption)
                    obtain ⟨ad316, e316, hx316_0, hx316_1, hx316_2⟩ := at_T47 HR0_1.out x6_2 p316 q316
                    cases e316
                    replace hx316_0 := (HB.out.cell (World.block_lt_of_cell? w _ hx316_0)).trans hx316_0
                    replace hx316_1 := (HB.out.cell (World.block_lt_of_cell? w _ hx316_1)).trans hx316_1
                    replace hx316_2 := (HB.out.cell (World.block_lt_of_cell? w _ hx316_2)).trans hx316_2
                    replace p316 := eq_true p316
                    replace q316 := eq_true q316
                    have hcz36_0 : wr.cell? ⟨gb314, 0, none⟩ = some (.slice A1_0 l1_0.length c1_0) := (blk_cell BK314.out 0).trans rfl
                    have hcz36_1 : wr.cell? ⟨gb314, 1, none⟩ = some (.slice A1_1 l1_1.length c1_1) := (blk_cell BK314.out 1).trans rfl
                    have hcz36_2 : wr.cell? ⟨gb314, 2, none⟩ = some (.int .i64 a1_2) := (blk_cell BK314.out 2).trans rfl
                    have hcz36_3 : wr.cell? ⟨gb314, 3, none⟩ = some (.int .i64 a1_3) := (blk_cell BK314.out 3).trans rfl
                    have hcz36_4 : wr.cell? ⟨gb314, 4, none⟩ = some (.int .i64 a1_4) := (blk_cell BK314.out 4).trans rfl
                    have hfz36_0 := blk_frozen BK314.out 0
                    have hfz36_1 := blk_frozen BK314.out 1
                    have hfz36_2 := blk_frozen BK314.out 2
                    have hfz36_3 := blk_frozen BK314.out 3
                    have hfz36_4 := blk_frozen BK314.out 4
                    have p317 : 0 ≤ (x6_2 : Int) := of_decide_eq_true (by first | (with_reducible assumption) | assumption)
                    have q317 : x6_2 < (l1_1.length : Int) := of_decide_eq_true (by first | (with_reducible assumption) | assumption)
                    obtain ⟨ad317, e317, hx317_0, hx317_1, hx317_2⟩ := at_T47 HR1_1.out x6_2 p317 q317
                    cases e317
                    replace hx317_0 := (HB.out.cell (World.block_lt_of_cell? w _ hx317_0)).trans hx317_0
                    replace hx317_1 := (HB.out.cell (World.block_lt_of_cell? w _ hx317_1)).trans hx317_1
                    replace hx317_2 := (HB.out.cell (World.block_lt_of_cell? w _ hx317_2)).trans hx317_2
                    replace p317 := eq_true p317
                    replace q317 := eq_true q317
                    go_wp2
                    repeat (go_quiet (fail); try go_wp2)
                    go_roundg k2
                    case measure => have := HJ3.out; have := HK2.out; omega
                    case rel => exact ⟨(wrap64 (x6_2 + 1)), (by first | rfl | (simp; done) | (simp [*]; done)), H', ⟨by have := HJ3.out; have := HK2.out; omega⟩, ⟨by (with_reducible repeat (first | refine blk_drewN ?_ _ | refine blk_drew ?_ | refine blk_alloc ?_ _)); exact BK313.out⟩, ⟨by (with_reducible repeat (first | refine blk_drewN ?_ _ | refine blk_drew ?_ | refine blk_alloc ?_ _)); exact BK314.out⟩, ⟨by repeat (first | (with_reducible first | exact HB.out | apply below_alloc | apply pw_below_drewN | apply below_drew1 | refine below_set ?_ GE313.out | refine below_set ?_ GE314.out) | exact HB.out)⟩⟩
                · rw [if_neg c29] at H
                  exact absurd H (by simp)
              · rw [if_neg c28] at H
                exact absurd H (by simp)
            · rw [if_neg c27] at H
              have c27b0 : decide (x6_2 < (l0_1.length : Int)) = false := decide_eq_false c27
              clear c27
              obtain rfl := Option.some.inj H
              have hnb37 := NB313_314.out
              have hnc37 := NB314_313.out
              have hcz38_0 : wr.cell? ⟨gb313, 0, none⟩ = some (.slice A0_0 l0_0.length c0_0) := (blk_cell BK313.out 0).trans rfl
              have hcz38_1 : wr.cell? ⟨gb313, 1, none⟩ = some (.slice A0_1 l0_1.length c0_1) := (blk_cell BK313.out 1).trans rfl
              have hcz38_2 : wr.cell? ⟨gb313, 2, none⟩ = some (.int .i64 a0_2) := (blk_cell BK313.out 2).trans rfl
              have hcz38_3 : wr.cell? ⟨gb313, 3, none⟩ = some (.int .i64 a0_3) := (blk_cell BK313.out 3).trans rfl
              have hcz38_4 : wr.cell? ⟨gb313, 4, none⟩ = some (.int .i64 a0_4) := (blk_cell BK313.out 4).trans rfl
              have hfz38_0 := blk_frozen BK313.out 0
              have hfz38_1 := blk_frozen BK313.out 1
              have hfz38_2 := blk_frozen BK313.out 2
              have hfz38_3 := blk_frozen BK313.out 3
              have hfz38_4 := blk_frozen BK313.out 4
              go_wp2
              repeat (go_quiet (fail); try go_wp2)
              go_ret
              exact ⟨by first | rfl | (simp [errW_none, errW_some] <;> rfl) | (simp [*, errW_none, errW_some] <;> rfl), by repeat (first | (with_reducible first | exact HB.out | apply below_alloc | apply pw_below_drewN | apply below_drew1 | refine below_set ?_ GE313.out | refine below_set ?_ GE314.out) | exact HB.out)⟩

end Go.Proofs.YtnogkpofgkaefaaDoor.F
