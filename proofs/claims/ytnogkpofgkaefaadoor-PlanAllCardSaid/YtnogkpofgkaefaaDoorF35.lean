/- Woven by wip/weave/weave.py of this repo (own tool) out of the translation: the contracts of some functions. Lean checks it. -/
import Derived.Test.YtnogkpofgkaefaaDoorD
import Derived.Test.YtnogkpofgkaefaaDoorDPlanAll
import Derived.Test.YtnogkpofgkaefaaDoorF0
import Derived.Test.YtnogkpofgkaefaaDoorF20
import Derived.Test.YtnogkpofgkaefaaDoorF21
import Derived.Test.YtnogkpofgkaefaaDoorF23
import Derived.Test.YtnogkpofgkaefaaDoorF24
namespace Go.Proofs.YtnogkpofgkaefaaDoor.F
open Go.RowKit Go.Proofs.YtnogkpofgkaefaaDoorW.PrintWords Go.Proofs.YtnogkpofgkaefaaDoorW.PrintLast Go.Proofs.YtnogkpofgkaefaaDoorW.PrintMore
attribute [local go_sem] max2_int min2_int max_two min_two max_three min_three max_four min_four   -- for this text's walks alone
set_option linter.unusedVariables false
set_option linter.unusedSimpArgs false

/-- What stands is carried up; what is asked is seen from it (for texts that would be too long). -/
theorem upV {P Q : Prop} (h : P) (f : P → Q := by intro h_; (with_reducible repeat (first | apply Kd.V_alloc | apply Kd.V_drewN | apply Kd.V_drew)); exact h_) : Q := f h
theorem upN {P Q : Prop} (h : P) (f : P → Q := by intro h_; (with_reducible repeat (first | apply Kd.N_alloc | apply Kd.N_drewN | apply Kd.N_drew)); exact h_) : Q := f h
theorem upB {P Q : Prop} (h : P) (f : P → Q := by intro h_; (with_reducible repeat (first | refine blk_drewN ?_ _ | refine blk_drew ?_ | refine blk_alloc ?_ _)); exact h_) : Q := f h
theorem upH {P Q : Prop} (h : P) (f : P → Q := by intro h_; repeat (first | (with_reducible first | exact h_ | apply below_alloc | apply pw_below_drewN | apply below_drew1 | refine below_set ?_ (Aside0.out (by assumption))) | exact h_)) : Q := f h
/-! ### pelicanlaw14_PlanAll: function 12 -/
def pelicanlaw14_PlanAll.T9 : Bool × List (List Nat × List Nat) := (true, [([], []), ([], []), ([], []), ([0, 1, 2], [0, 1, 2]), ([3], [3]), ([], []), ([5, 4], [5]), ([6], [6]), ([6, 7], [6, 7]), ([4, 8], [4, 8]), ([9, 6], [9]), ([10], [10]), ([10], [10]), ([10], [10]), ([11, 12, 13, 10], [10, 11, 12, 13]), ([14, 10, 10], [10, 14]), ([10], [10]), ([16, 15, 10], [10, 16]), ([17], [17]), ([17, 18, 10], [10, 17, 18]), ([15, 19, 10], [10, 15, 19]), ([10, 20], [10, 20]), ([21, 17], [21]), ([22], [22]), ([23, 22], [22, 23]), ([24, 22, 22], [22, 24]), ([22], [22]), ([26, 25, 22], [22, 26]), ([25, 27, 22], [22, 25, 27]), ([22, 28], [22, 28]), ([29, 27], [29]), ([30], [30]), ([30], [30]), ([30], [30]), ([30], [30]), ([31, 32, 33, 34, 30], [30, 31, 32, 33, 34]), ([35, 30, 30], [30, 35]), ([36, 30], [30, 36]), ([30, 37], [30, 37]), ([38, 36, 0, 1, 2, 3, 4, 5, 6, 7, 8, 9, 10, 11, 12, 13, 14, 15, 16, 17, 18, 19, 20, 21, 22, 23, 24, 25, 26, 27, 28, 29, 30, 31, 32, 33, 34, 35, 36, 37, 38], [38])])
def pelicanlaw14_PlanAll.B9 : List Nat := [0, 0, 0, 7, 15, 0, 63, 127, 255, 511, 1023, 2047, 2047, 2047, 16383, 32767, 2047, 131071, 262143, 524287, 1048575, 2097151, 4194303, 8388607, 16777215, 33554431, 8388607, 134217727, 268435455, 536870911, 1073741823, 2147483647, 2147483647, 2147483647, 2147483647, 34359738367, 68719476735, 137438953471, 274877906943, 549755813887]
theorem pelicanlaw14_PlanAll.tab9 : rtab .any (opsOf Tryd.f12 9) = pelicanlaw14_PlanAll.T9 := by kernel_rfl
theorem pelicanlaw14_PlanAll.bits9 : waitsOk pelicanlaw14_PlanAll.T9.2 pelicanlaw14_PlanAll.B9 = true := by kernel_rfl
set_option maxHeartbeats 8000000 in
set_option maxRecDepth 100000 in
theorem pelicanlaw14_PlanAll.calls (k : Nat) (P0_0_ : Nat → Prop) (A0_0 : Option Addr) (c0_0 : Nat) (l0_0 : List Int) (P0_1_ : Nat → Prop) (A0_1 : Option Addr) (c0_1 : Nat) (l0_1 : List (S47)) (a0_2 : Int) (a0_3 : Int) (a0_4 : Int) (P1_0_ : Nat → Prop) (A1_0 : Option Addr) (c1_0 : Nat) (l1_0 : List Int) (P1_1_ : Nat → Prop) (A1_1 : Option Addr) (c1_1 : Nat) (l1_1 : List (S47)) (a1_2 : Int) (a1_3 : Int) (a1_4 : Int) (P2_0_ : Nat → Prop) (A2_0 : Option Addr) (c2_0 : Nat) (l2_0 : List Int) (P2_1_ : Nat → Prop) (A2_1 : Option Addr) (c2_1 : Nat) (l2_1 : List (S47)) (a2_2 : Int) (a2_3 : Int) (a2_4 : Int) (r : Bool) (HRR0 : r = true) (w : World) (hs0_0 : Kd.V (Kd.int .i64) 3 w w.heap.size (fun k_ => P0_0_ k_) (.slice A0_0 l0_0.length c0_0) l0_0) (hs0_1 : Kd.V k47 47 w w.heap.size (fun k_ => P0_1_ k_) (.slice A0_1 l0_1.length c0_1) l0_1) (hs1_0 : Kd.V (Kd.int .i64) 3 w w.heap.size (fun k_ => P1_0_ k_) (.slice A1_0 l1_0.length c1_0) l1_0) (hs1_1 : Kd.V k47 47 w w.heap.size (fun k_ => P1_1_ k_) (.slice A1_1 l1_1.length c1_1) l1_1) (hs2_0 : Kd.V (Kd.int .i64) 3 w w.heap.size (fun k_ => P2_0_ k_) (.slice A2_0 l2_0.length c2_0) l2_0) (hs2_1 : Kd.V k47 47 w w.heap.size (fun k_ => P2_1_ k_) (.slice A2_1 l2_1.length c2_1) l2_1) (hG : GlobOk w) (h : pelicanlaw14_PlanAll.f k l0_0 l0_1 a0_2 a0_3 a0_4 l1_0 l1_1 a1_2 a1_3 a1_4 l2_0 l2_1 a2_2 a2_3 a2_4 = some r) :
  Calls Tryd.prog 12 #[.agg #[.slice A0_0 l0_0.length c0_0, .slice A0_1 l0_1.length c0_1, .int .i64 a0_2, .int .i64 a0_3, .int .i64 a0_4], .agg #[.slice A1_0 l1_0.length c1_0, .slice A1_1 l1_1.length c1_1, .int .i64 a1_2, .int .i64 a1_3, .int .i64 a1_4], .agg #[.slice A2_0 l2_0.length c2_0, .slice A2_1 l2_1.length c2_1, .int .i64 a2_2, .int .i64 a2_3, .int .i64 a2_4]] w fun e w' => e = .returned (.bool r) ∧ Below w.heap.size w w' := by
 have hu37 := Tryd.underlying37
 have HO0_0 := Aside0.mk (show Kd.V (Kd.int .i64) 3 w w.heap.size (fun k_ => ((P0_0_ k_ ∨ P0_1_ k_ ∨ P1_0_ k_ ∨ P1_1_ k_ ∨ P2_0_ k_ ∨ P2_1_ k_) ∨ w.heap.size ≤ k_)) (.slice A0_0 l0_0.length c0_0) l0_0 from Kd.V_mono hs0_0 (fun k_ hk => .inl (.inl hk)))
 have HO0_1 := Aside0.mk (show Kd.V k47 47 w w.heap.size (fun k_ => ((P0_0_ k_ ∨ P0_1_ k_ ∨ P1_0_ k_ ∨ P1_1_ k_ ∨ P2_0_ k_ ∨ P2_1_ k_) ∨ w.heap.size ≤ k_)) (.slice A0_1 l0_1.length c0_1) l0_1 from Kd.V_mono hs0_1 (fun k_ hk => .inl (.inr (.inl hk))))
 have HO1_0 := Aside0.mk (show Kd.V (Kd.int .i64) 3 w w.heap.size (fun k_ => ((P0_0_ k_ ∨ P0_1_ k_ ∨ P1_0_ k_ ∨ P1_1_ k_ ∨ P2_0_ k_ ∨ P2_1_ k_) ∨ w.heap.size ≤ k_)) (.slice A1_0 l1_0.length c1_0) l1_0 from Kd.V_mono hs1_0 (fun k_ hk => .inl (.inr (.inr (.inl hk)))))
 have HO1_1 := Aside0.mk (show Kd.V k47 47 w w.heap.size (fun k_ => ((P0_0_ k_ ∨ P0_1_ k_ ∨ P1_0_ k_ ∨ P1_1_ k_ ∨ P2_0_ k_ ∨ P2_1_ k_) ∨ w.heap.size ≤ k_)) (.slice A1_1 l1_1.length c1_1) l1_1 from Kd.V_mono hs1_1 (fun k_ hk => .inl (.inr (.inr (.inr (.inl hk))))))
 have HO2_0 := Aside0.mk (show Kd.V (Kd.int .i64) 3 w w.heap.size (fun k_ => ((P0_0_ k_ ∨ P0_1_ k_ ∨ P1_0_ k_ ∨ P1_1_ k_ ∨ P2_0_ k_ ∨ P2_1_ k_) ∨ w.heap.size ≤ k_)) (.slice A2_0 l2_0.length c2_0) l2_0 from Kd.V_mono hs2_0 (fun k_ hk => .inl (.inr (.inr (.inr (.inr (.inl hk)))))))
 have HO2_1 := Aside0.mk (show Kd.V k47 47 w w.heap.size (fun k_ => ((P0_0_ k_ ∨ P0_1_ k_ ∨ P1_0_ k_ ∨ P1_1_ k_ ∨ P2_0_ k_ ∨ P2_1_ k_) ∨ w.heap.size ≤ k_)) (.slice A2_1 l2_1.length c2_1) l2_1 from Kd.V_mono hs2_1 (fun k_ hk => .inl (.inr (.inr (.inr (.inr (.inr hk)))))))
 have HG := Aside0.mk hG
 clear hG
 have HB := Aside0.mk (Below.refl w.heap.size w)
 have H : ((pelicanlaw14_awake.f k).bind fun t374 => ((pelicanlaw14_Few.f l0_0 l0_1 a0_2 a0_3 a0_4).bind fun t375 => ((pelicanlaw14_Few.f l1_0 l1_1 a1_2 a1_3 a1_4).bind fun t376 => ((pelicanlaw14_Few.f l2_0 l2_1 a2_2 a2_3 a2_4).bind fun t377 => (if t374 = true then (if t375 = true then (if t376 = true then (if t377 = true then ((plan_All.f ([] : List (S37))).bind fun t378 => (pelicanlaw14_PlanAll.j0 k t374 t378 l0_0 l0_1 a0_2 a0_3 a0_4 l1_0 l1_1 a1_2 a1_3 a1_4 l2_0 l2_1 a2_2 a2_3 a2_4)) else (pelicanlaw14_PlanAll.j0 k t374 true l0_0 l0_1 a0_2 a0_3 a0_4 l1_0 l1_1 a1_2 a1_3 a1_4 l2_0 l2_1 a2_2 a2_3 a2_4)) else (pelicanlaw14_PlanAll.j0 k t374 true l0_0 l0_1 a0_2 a0_3 a0_4 l1_0 l1_1 a1_2 a1_3 a1_4 l2_0 l2_1 a2_2 a2_3 a2_4)) else (pelicanlaw14_PlanAll.j0 k t374 true l0_0 l0_1 a0_2 a0_3 a0_4 l1_0 l1_1 a1_2 a1_3 a1_4 l2_0 l2_1 a2_2 a2_3 a2_4)) else (pelicanlaw14_PlanAll.j0 k t374 true l0_0 l0_1 a0_2 a0_3 a0_4 l1_0 l1_1 a1_2 a1_3 a1_4 l2_0 l2_1 a2_2 a2_3 a2_4)))))) = some r := h
 clear h
 have HRR := Aside0.mk HRR0
 clear HRR0
 replace H := Option.bind_eq_some_iff.mp H
 obtain ⟨t374, A40, H⟩ := H
 replace H : ((pelicanlaw14_Few.f l0_0 l0_1 a0_2 a0_3 a0_4).bind fun t375 => ((pelicanlaw14_Few.f l1_0 l1_1 a1_2 a1_3 a1_4).bind fun t376 => ((pelicanlaw14_Few.f l2_0 l2_1 a2_2 a2_3 a2_4).bind fun t377 => (if t374 = true then (if t375 = true then (if t376 = true then (if t377 = true then ((plan_All.f ([] : List (S37))).bind fun t378 => (pelicanlaw14_PlanAll.j0 k t374 t378 l0_0 l0_1 a0_2 a0_3 a0_4 l1_0 l1_1 a1_2 a1_3 a1_4 l2_0 l2_1 a2_2 a2_3 a2_4)) else (pelicanlaw14_PlanAll.j0 k t374 true l0_0 l0_1 a0_2 a0_3 a0_4 l1_0 l1_1 a1_2 a1_3 a1_4 l2_0 l2_1 a2_2 a2_3 a2_4)) else (pelicanlaw14_PlanAll.j0 k t374 true l0_0 l0_1 a0_2 a0_3 a0_4 l1_0 l1_1 a1_2 a1_3 a1_4 l2_0 l2_1 a2_2 a2_3 a2_4)) else (pelicanlaw14_PlanAll.j0 k t374 true l0_0 l0_1 a0_2 a0_3 a0_4 l1_0 l1_1 a1_2 a1_3 a1_4 l2_0 l2_1 a2_2 a2_3 a2_4)) else (pelicanlaw14_PlanAll.j0 k t374 true l0_0 l0_1 a0_2 a0_3 a0_4 l1_0 l1_1 a1_2 a1_3 a1_4 l2_0 l2_1 a2_2 a2_3 a2_4))))) = some r := H
 have A4 := Aside0.mk A40
 clear A40
 replace H := Option.bind_eq_some_iff.mp H
 obtain ⟨t375, A50, H⟩ := H
 replace H : ((pelicanlaw14_Few.f l1_0 l1_1 a1_2 a1_3 a1_4).bind fun t376 => ((pelicanlaw14_Few.f l2_0 l2_1 a2_2 a2_3 a2_4).bind fun t377 => (if t374 = true then (if t375 = true then (if t376 = true then (if t377 = true then ((plan_All.f ([] : List (S37))).bind fun t378 => (pelicanlaw14_PlanAll.j0 k t374 t378 l0_0 l0_1 a0_2 a0_3 a0_4 l1_0 l1_1 a1_2 a1_3 a1_4 l2_0 l2_1 a2_2 a2_3 a2_4)) else (pelicanlaw14_PlanAll.j0 k t374 true l0_0 l0_1 a0_2 a0_3 a0_4 l1_0 l1_1 a1_2 a1_3 a1_4 l2_0 l2_1 a2_2 a2_3 a2_4)) else (pelicanlaw14_PlanAll.j0 k t374 true l0_0 l0_1 a0_2 a0_3 a0_4 l1_0 l1_1 a1_2 a1_3 a1_4 l2_0 l2_1 a2_2 a2_3 a2_4)) else (pelicanlaw14_PlanAll.j0 k t374 true l0_0 l0_1 a0_2 a0_3 a0_4 l1_0 l1_1 a1_2 a1_3 a1_4 l2_0 l2_1 a2_2 a2_3 a2_4)) else (pelicanlaw14_PlanAll.j0 k t374 true l0_0 l0_1 a0_2 a0_3 a0_4 l1_0 l1_1 a1_2 a1_3 a1_4 l2_0 l2_1 a2_2 a2_3 a2_4)))) = some r := H
 have A5 := Aside0.mk A50
 clear A50
 replace H := Option.bind_eq_some_iff.mp H
 obtain ⟨t376, A60, H⟩ := H
 replace H : ((pelicanlaw14_Few.f l2_0 l2_1 a2_2 a2_3 a2_4).bind fun t377 => (if t374 = true then (if t375 = true then (if t376 = true then (if t377 = true then ((plan_All.f ([] : List (S37))).bind fun t378 => (pelicanlaw14_PlanAll.j0 k t374 t378 l0_0 l0_1 a0_2 a0_3 a0_4 l1_0 l1_1 a1_2 a1_3 a1_4 l2_0 l2_1 a2_2 a2_3 a2_4)) else (pelicanlaw14_PlanAll.j0 k t374 true l0_0 l0_1 a0_2 a0_3 a0_4 l1_0 l1_1 a1_2 a1_3 a1_4 l2_0 l2_1 a2_2 a2_3 a2_4)) else (pelicanlaw14_PlanAll.j0 k t374 true l0_0 l0_1 a0_2 a0_3 a0_4 l1_0 l1_1 a1_2 a1_3 a1_4 l2_0 l2_1 a2_2 a2_3 a2_4)) else (pelicanlaw14_PlanAll.j0 k t374 true l0_0 l0_1 a0_2 a0_3 a0_4 l1_0 l1_1 a1_2 a1_3 a1_4 l2_0 l2_1 a2_2 a2_3 a2_4)) else (pelicanlaw14_PlanAll.j0 k t374 true l0_0 l0_1 a0_2 a0_3 a0_4 l1_0 l1_1 a1_2 a1_3 a1_4 l2_0 l2_1 a2_2 a2_3 a2_4))) = some r := H
 have A6 := Aside0.mk A60
 clear A60
 replace H := Option.bind_eq_some_iff.mp H
 obtain ⟨t377, A70, H⟩ := H
 replace H : (if t374 = true then (if t375 = true then (if t376 = true then (if t377 = true then ((plan_All.f ([] : List (S37))).bind fun t378 => (pelicanlaw14_PlanAll.j0 k t374 t378 l0_0 l0_1 a0_2 a0_3 a0_4 l1_0 l1_1 a1_2 a1_3 a1_4 l2_0 l2_1 a2_2 a2_3 a2_4)) else (pelicanlaw14_PlanAll.j0 k t374 true l0_0 l0_1 a0_2 a0_3 a0_4 l1_0 l1_1 a1_2 a1_3 a1_4 l2_0 l2_1 a2_2 a2_3 a2_4)) else (pelicanlaw14_PlanAll.j0 k t374 true l0_0 l0_1 a0_2 a0_3 a0_4 l1_0 l1_1 a1_2 a1_3 a1_4 l2_0 l2_1 a2_2 a2_3 a2_4)) else (pelicanlaw14_PlanAll.j0 k t374 true l0_0 l0_1 a0_2 a0_3 a0_4 l1_0 l1_1 a1_2 a1_3 a1_4 l2_0 l2_1 a2_2 a2_3 a2_4)) else (pelicanlaw14_PlanAll.j0 k t374 true l0_0 l0_1 a0_2 a0_3 a0_4 l1_0 l1_1 a1_2 a1_3 a1_4 l2_0 l2_1 a2_2 a2_3 a2_4)) = some r := H
 have A7 := Aside0.mk A70
 clear A70
 have HC8 := Aside0.mk H
 clear H
 go_enter Tryd.func12, Tryd.ntmps12
 go_upto_region 5 with (first | ((with_reducible refine gate_dst (N := 3) rfl ?_); (try (refine gate_guard (by rfl) ?_; dsimp only)); refine box_event ?hg (N := 3) ?hd (cs := #[.slice A0_0 l0_0.length c0_0, .slice A0_1 l0_1.length c0_1, .int .i64 a0_2, .int .i64 a0_3, .int .i64 a0_4]) (t := 37) ?hr ?_; (case hd => rfl); (case hg => rfl); (case hr => first | (go_simp; done) | (go_simp; rfl)); intro gb371 hg w9 hbox hb; have n0_ := Aside0.mk (Kd.V_below (Kd.V_elderB (upV HO0_0.out) gb371 (Nat.le_of_eq hg.symm)) hb); have n1_ := Aside0.mk (Kd.V_below (Kd.V_elderB (upV HO0_1.out) gb371 (Nat.le_of_eq hg.symm)) hb); have n2_ := Aside0.mk (Kd.V_below (Kd.V_elderB (upV HO1_0.out) gb371 (Nat.le_of_eq hg.symm)) hb); have n3_ := Aside0.mk (Kd.V_below (Kd.V_elderB (upV HO1_1.out) gb371 (Nat.le_of_eq hg.symm)) hb); have n4_ := Aside0.mk (Kd.V_below (Kd.V_elderB (upV HO2_0.out) gb371 (Nat.le_of_eq hg.symm)) hb); have n5_ := Aside0.mk (Kd.V_below (Kd.V_elderB (upV HO2_1.out) gb371 (Nat.le_of_eq hg.symm)) hb); have n6_ := Aside0.mk (below_step (upH HB.out) hb); have n7_ := Aside0.mk (hbox); have n8_ := Aside0.mk ((by rw [hg]; exact (below_size (upH HB.out)) : w.heap.size ≤ gb371)); have n9_ := Aside0.mk ((by rw [hg]; exact (below_size (upH HB.out)) : w.heap.size ≤ gb371)); clear HO0_0; clear HO0_1; clear HO1_0; clear HO1_1; clear HO2_0; clear HO2_1; clear HB; have HO0_0 := n0_; have HO0_1 := n1_; have HO1_0 := n2_; have HO1_1 := n3_; have HO2_0 := n4_; have HO2_1 := n5_; have HB := n6_; have BK371 := n7_; have GW371 := n8_; have GE371 := n9_; clear n0_ n1_ n2_ n3_ n4_ n5_ n6_ n7_ n8_ n9_; clear hb hbox hg) | ((with_reducible refine gate_dst (N := 4) rfl ?_); (try (refine gate_guard (by rfl) ?_; dsimp only)); refine box_event ?hg (N := 4) ?hd (cs := #[.slice A1_0 l1_0.length c1_0, .slice A1_1 l1_1.length c1_1, .int .i64 a1_2, .int .i64 a1_3, .int .i64 a1_4]) (t := 37) ?hr ?_; (case hd => rfl); (case hg => rfl); (case hr => first | (go_simp; done) | (go_simp; rfl)); intro gb372 hg w10 hbox hb; have n0_ := Aside0.mk (Kd.V_below (Kd.V_elderB (upV HO0_0.out) gb372 (Nat.le_of_eq hg.symm)) hb); have n1_ := Aside0.mk (Kd.V_below (Kd.V_elderB (upV HO0_1.out) gb372 (Nat.le_of_eq hg.symm)) hb); have n2_ := Aside0.mk (Kd.V_below (Kd.V_elderB (upV HO1_0.out) gb372 (Nat.le_of_eq hg.symm)) hb); have n3_ := Aside0.mk (Kd.V_below (Kd.V_elderB (upV HO1_1.out) gb372 (Nat.le_of_eq hg.symm)) hb); have n4_ := Aside0.mk (Kd.V_below (Kd.V_elderB (upV HO2_0.out) gb372 (Nat.le_of_eq hg.symm)) hb); have n5_ := Aside0.mk (Kd.V_below (Kd.V_elderB (upV HO2_1.out) gb372 (Nat.le_of_eq hg.symm)) hb); have n6_ := Aside0.mk (blk_below (g := gb371) (o := .cells #[.slice A0_0 l0_0.length c0_0, .slice A0_1 l0_1.length c0_1, .int .i64 a0_2, .int .i64 a0_3, .int .i64 a0_4] 37 (0, 0)) (upB BK371.out) hb); have n7_ := Aside0.mk (below_step (upH HB.out) hb); have n8_ := Aside0.mk (hbox); have n9_ := Aside0.mk ((by rw [hg]; exact (below_size (upH HB.out)) : w.heap.size ≤ gb372)); have n10_ := Aside0.mk ((by rw [hg]; exact (below_size (upH HB.out)) : w.heap.size ≤ gb372)); have n11_ := Aside0.mk ((by rw [hg]; exact Nat.ne_of_lt (blk_lt (g := gb371) (o := .cells #[.slice A0_0 l0_0.length c0_0, .slice A0_1 l0_1.length c0_1, .int .i64 a0_2, .int .i64 a0_3, .int .i64 a0_4] 37 (0, 0)) (upB BK371.out)) : gb371 ≠ gb372)); have n12_ := Aside0.mk ((by rw [hg]; exact Nat.ne_of_gt (blk_lt (g := gb371) (o := .cells #[.slice A0_0 l0_0.length c0_0, .slice A0_1 l0_1.length c0_1, .int .i64 a0_2, .int .i64 a0_3, .int .i64 a0_4] 37 (0, 0)) (upB BK371.out)) : gb372 ≠ gb371)); clear HO0_0; clear HO0_1; clear HO1_0; clear HO1_1; clear HO2_0; clear HO2_1; clear BK371; clear HB; have HO0_0 := n0_; have HO0_1 := n1_; have HO1_0 := n2_; have HO1_1 := n3_; have HO2_0 := n4_; have HO2_1 := n5_; have BK371 := n6_; have HB := n7_; have BK372 := n8_; have GW372 := n9_; have GE372 := n10_; have NB371_372 := n11_; have NB372_371 := n12_; clear n0_ n1_ n2_ n3_ n4_ n5_ n6_ n7_ n8_ n9_ n10_ n11_ n12_; clear hb hbox hg) | ((with_reducible refine gate_dst (N := 5) rfl ?_); (try (refine gate_guard (by rfl) ?_; dsimp only)); refine box_event ?hg (N := 5) ?hd (cs := #[.slice A2_0 l2_0.length c2_0, .slice A2_1 l2_1.length c2_1, .int .i64 a2_2, .int .i64 a2_3, .int .i64 a2_4]) (t := 37) ?hr ?_; (case hd => rfl); (case hg => rfl); (case hr => first | (go_simp; done) | (go_simp; rfl)); intro gb373 hg w11 hbox hb; have n0_ := Aside0.mk (Kd.V_below (Kd.V_elderB (upV HO0_0.out) gb373 (Nat.le_of_eq hg.symm)) hb); have n1_ := Aside0.mk (Kd.V_below (Kd.V_elderB (upV HO0_1.out) gb373 (Nat.le_of_eq hg.symm)) hb); have n2_ := Aside0.mk (Kd.V_below (Kd.V_elderB (upV HO1_0.out) gb373 (Nat.le_of_eq hg.symm)) hb); have n3_ := Aside0.mk (Kd.V_below (Kd.V_elderB (upV HO1_1.out) gb373 (Nat.le_of_eq hg.symm)) hb); have n4_ := Aside0.mk (Kd.V_below (Kd.V_elderB (upV HO2_0.out) gb373 (Nat.le_of_eq hg.symm)) hb); have n5_ := Aside0.mk (Kd.V_below (Kd.V_elderB (upV HO2_1.out) gb373 (Nat.le_of_eq hg.symm)) hb); have n6_ := Aside0.mk (blk_below (g := gb371) (o := .cells #[.slice A0_0 l0_0.length c0_0, .slice A0_1 l0_1.length c0_1, .int .i64 a0_2, .int .i64 a0_3, .int .i64 a0_4] 37 (0, 0)) (upB BK371.out) hb); have n7_ := Aside0.mk (blk_below (g := gb372) (o := .cells #[.slice A1_0 l1_0.length c1_0, .slice A1_1 l1_1.length c1_1, .int .i64 a1_2, .int .i64 a1_3, .int .i64 a1_4] 37 (0, 0)) (upB BK372.out) hb); have n8_ := Aside0.mk (below_step (upH HB.out) hb); have n9_ := Aside0.mk (hbox); have n10_ := Aside0.mk ((by rw [hg]; exact (below_size (upH HB.out)) : w.heap.size ≤ gb373)); have n11_ := Aside0.mk ((by rw [hg]; exact (below_size (upH HB.out)) : w.heap.size ≤ gb373)); have n12_ := Aside0.mk ((by rw [hg]; exact Nat.ne_of_lt (blk_lt (g := gb371) (o := .cells #[.slice A0_0 l0_0.length c0_0, .slice A0_1 l0_1.length c0_1, .int .i64 a0_2, .int .i64 a0_3, .int .i64 a0_4] 37 (0, 0)) (upB BK371.out)) : gb371 ≠ gb373)); have n13_ := Aside0.mk ((by rw [hg]; exact Nat.ne_of_gt (blk_lt (g := gb371) (o := .cells #[.slice A0_0 l0_0.length c0_0, .slice A0_1 l0_1.length c0_1, .int .i64 a0_2, .int .i64 a0_3, .int .i64 a0_4] 37 (0, 0)) (upB BK371.out)) : gb373 ≠ gb371)); have n14_ := Aside0.mk ((by rw [hg]; exact Nat.ne_of_lt (blk_lt (g := gb372) (o := .cells #[.slice A1_0 l1_0.length c1_0, .slice A1_1 l1_1.length c1_1, .int .i64 a1_2, .int .i64 a1_3, .int .i64 a1_4] 37 (0, 0)) (upB BK372.out)) : gb372 ≠ gb373)); have n15_ := Aside0.mk ((by rw [hg]; exact Nat.ne_of_gt (blk_lt (g := gb372) (o := .cells #[.slice A1_0 l1_0.length c1_0, .slice A1_1 l1_1.length c1_1, .int .i64 a1_2, .int .i64 a1_3, .int .i64 a1_4] 37 (0, 0)) (upB BK372.out)) : gb373 ≠ gb372)); clear HO0_0; clear HO0_1; clear HO1_0; clear HO1_1; clear HO2_0; clear HO2_1; clear BK371; clear BK372; clear HB; have HO0_0 := n0_; have HO0_1 := n1_; have HO1_0 := n2_; have HO1_1 := n3_; have HO2_0 := n4_; have HO2_1 := n5_; have BK371 := n6_; have BK372 := n7_; have HB := n8_; have BK373 := n9_; have GW373 := n10_; have GE373 := n11_; have NB371_373 := n12_; have NB373_371 := n13_; have NB372_373 := n14_; have NB373_372 := n15_; clear n0_ n1_ n2_ n3_ n4_ n5_ n6_ n7_ n8_ n9_ n10_ n11_ n12_ n13_ n14_ n15_; clear hb hbox hg) | ((with_reducible refine gate_callee (f := 28) rfl ?_); refine goesL_ (some 13) rfl rfl Tryd.func28 (by kernel_rfl) rfl #[] rfl (by (try simp only [List.map_toArray, List.map_cons, List.map_nil]); first | done | rfl | (simp only [List.length_drop, List.length_take]; rfl)) ?_; (with_reducible refine (pelicanlaw14_awake.calls k  t374 _ ?side1 A4.out).mono ?_); (case side1 => first | (with_reducible exact HG.out) | (refine GlobOk.below HG.out ?_; repeat (first | (with_reducible first | exact HB.out | apply below_alloc | apply pw_below_drewN | apply below_drew1 | refine below_set ?_ GE371.out | refine below_set ?_ GE372.out | refine below_set ?_ GE373.out) | exact HB.out))); rintro e w12 ⟨rfl, hb⟩; refine ⟨_, rfl, ?_⟩; have n0_ := Aside0.mk (Kd.V_below (upV HO0_0.out) hb); have n1_ := Aside0.mk (Kd.V_below (upV HO0_1.out) hb); have n2_ := Aside0.mk (Kd.V_below (upV HO1_0.out) hb); have n3_ := Aside0.mk (Kd.V_below (upV HO1_1.out) hb); have n4_ := Aside0.mk (Kd.V_below (upV HO2_0.out) hb); have n5_ := Aside0.mk (Kd.V_below (upV HO2_1.out) hb); have n6_ := Aside0.mk (blk_below (g := gb371) (o := .cells #[.slice A0_0 l0_0.length c0_0, .slice A0_1 l0_1.length c0_1, .int .i64 a0_2, .int .i64 a0_3, .int .i64 a0_4] 37 (0, 0)) (upB BK371.out) hb); have n7_ := Aside0.mk (blk_below (g := gb372) (o := .cells #[.slice A1_0 l1_0.length c1_0, .slice A1_1 l1_1.length c1_1, .int .i64 a1_2, .int .i64 a1_3, .int .i64 a1_4] 37 (0, 0)) (upB BK372.out) hb); have n8_ := Aside0.mk (blk_below (g := gb373) (o := .cells #[.slice A2_0 l2_0.length c2_0, .slice A2_1 l2_1.length c2_1, .int .i64 a2_2, .int .i64 a2_3, .int .i64 a2_4] 37 (0, 0)) (upB BK373.out) hb); have n9_ := Aside0.mk (below_step (upH HB.out) hb); clear HO0_0; clear HO0_1; clear HO1_0; clear HO1_1; clear HO2_0; clear HO2_1; clear BK371; clear BK372; clear BK373; clear HB; have HO0_0 := n0_; have HO0_1 := n1_; have HO1_0 := n2_; have HO1_1 := n3_; have HO2_0 := n4_; have HO2_1 := n5_; have BK371 := n6_; have BK372 := n7_; have BK373 := n8_; have HB := n9_; clear n0_ n1_ n2_ n3_ n4_ n5_ n6_ n7_ n8_ n9_; (try clear hb); (try clear hb2); (try clear hk); (try clear hi); have hnb13 := NB371_372.out; have hnc13 := NB372_371.out; have hnb14 := NB371_373.out; have hnc14 := NB373_371.out; have hcz15_0 : w12.cell? ⟨gb371, 0, none⟩ = some (.slice A0_0 l0_0.length c0_0) := (blk_cell BK371.out 0).trans rfl; have hcz15_1 : w12.cell? ⟨gb371, 1, none⟩ = some (.slice A0_1 l0_1.length c0_1) := (blk_cell BK371.out 1).trans rfl; have hcz15_2 : w12.cell? ⟨gb371, 2, none⟩ = some (.int .i64 a0_2) := (blk_cell BK371.out 2).trans rfl; have hcz15_3 : w12.cell? ⟨gb371, 3, none⟩ = some (.int .i64 a0_3) := (blk_cell BK371.out 3).trans rfl; have hcz15_4 : w12.cell? ⟨gb371, 4, none⟩ = some (.int .i64 a0_4) := (blk_cell BK371.out 4).trans rfl; have hfz15_0 := blk_frozen BK371.out 0; have hfz15_1 := blk_frozen BK371.out 1; have hfz15_2 := blk_frozen BK371.out 2; have hfz15_3 := blk_frozen BK371.out 3; have hfz15_4 := blk_frozen BK371.out 4) | ((with_reducible refine gate_callee (f := 29) rfl ?_); refine goesL_ (some 15) rfl rfl Tryd.func29 (by kernel_rfl) rfl #[.agg #[.slice A0_0 l0_0.length c0_0, .slice A0_1 l0_1.length c0_1, .int .i64 a0_2, .int .i64 a0_3, .int .i64 a0_4]] rfl (by (try simp only [List.map_toArray, List.map_cons, List.map_nil]); first | done | rfl | (simp only [List.length_drop, List.length_take]; rfl)) ?_; (with_reducible refine (pelicanlaw14_Few.calls _ _ l0_0 _ _ l0_1 a0_2 a0_3 a0_4 t375 _ ?side1 ?side2 ?side3 ?side4 A5.out).mono ?_); (case side1 => repeat (first | exact (Kd.V_reads' HO0_0.out).2.2 | (with_reducible refine Kd.C_alloc ?_ _) | (with_reducible refine Kd.C_drewN ?_ _) | (with_reducible refine Kd.C_drew ?_))); (case side2 => exact (Kd.V_reads' HO0_0.out).2.1); (case side3 => repeat (first | exact (Kd.V_reads' HO0_1.out).2.2 | (with_reducible refine Kd.C_alloc ?_ _) | (with_reducible refine Kd.C_drewN ?_ _) | (with_reducible refine Kd.C_drew ?_))); (case side4 => exact (Kd.V_reads' HO0_1.out).2.1); rintro e w16 ⟨rfl, hb⟩; refine ⟨_, rfl, ?_⟩; have n0_ := Aside0.mk (Kd.V_below (upV HO0_0.out) hb); have n1_ := Aside0.mk (Kd.V_below (upV HO0_1.out) hb); have n2_ := Aside0.mk (Kd.V_below (upV HO1_0.out) hb); have n3_ := Aside0.mk (Kd.V_below (upV HO1_1.out) hb); have n4_ := Aside0.mk (Kd.V_below (upV HO2_0.out) hb); have n5_ := Aside0.mk (Kd.V_below (upV HO2_1.out) hb); have n6_ := Aside0.mk (blk_below (g := gb371) (o := .cells #[.slice A0_0 l0_0.length c0_0, .slice A0_1 l0_1.length c0_1, .int .i64 a0_2, .int .i64 a0_3, .int .i64 a0_4] 37 (0, 0)) (upB BK371.out) hb); have n7_ := Aside0.mk (blk_below (g := gb372) (o := .cells #[.slice A1_0 l1_0.length c1_0, .slice A1_1 l1_1.length c1_1, .int .i64 a1_2, .int .i64 a1_3, .int .i64 a1_4] 37 (0, 0)) (upB BK372.out) hb); have n8_ := Aside0.mk (blk_below (g := gb373) (o := .cells #[.slice A2_0 l2_0.length c2_0, .slice A2_1 l2_1.length c2_1, .int .i64 a2_2, .int .i64 a2_3, .int .i64 a2_4] 37 (0, 0)) (upB BK373.out) hb); have n9_ := Aside0.mk (below_step (upH HB.out) hb); clear HO0_0; clear HO0_1; clear HO1_0; clear HO1_1; clear HO2_0; clear HO2_1; clear BK371; clear BK372; clear BK373; clear HB; have HO0_0 := n0_; have HO0_1 := n1_; have HO1_0 := n2_; have HO1_1 := n3_; have HO2_0 := n4_; have HO2_1 := n5_; have BK371 := n6_; have BK372 := n7_; have BK373 := n8_; have HB := n9_; clear n0_ n1_ n2_ n3_ n4_ n5_ n6_ n7_ n8_ n9_; (try clear hb); (try clear hb2); (try clear hk); (try clear hi); have hnb17 := NB372_373.out; have hnc17 := NB373_372.out; have hcz18_0 : w16.cell? ⟨gb372, 0, none⟩ = some (.slice A1_0 l1_0.length c1_0) := (blk_cell BK372.out 0).trans rfl; have hcz18_1 : w16.cell? ⟨gb372, 1, none⟩ = some (.slice A1_1 l1_1.length c1_1) := (blk_cell BK372.out 1).trans rfl; have hcz18_2 : w16.cell? ⟨gb372, 2, none⟩ = some (.int .i64 a1_2) := (blk_cell BK372.out 2).trans rfl; have hcz18_3 : w16.cell? ⟨gb372, 3, none⟩ = some (.int .i64 a1_3) := (blk_cell BK372.out 3).trans rfl; have hcz18_4 : w16.cell? ⟨gb372, 4, none⟩ = some (.int .i64 a1_4) := (blk_cell BK372.out 4).trans rfl; have hfz18_0 := blk_frozen BK372.out 0; have hfz18_1 := blk_frozen BK372.out 1; have hfz18_2 := blk_frozen BK372.out 2; have hfz18_3 := blk_frozen BK372.out 3; have hfz18_4 := blk_frozen BK372.out 4) | ((with_reducible refine gate_callee (f := 29) rfl ?_); refine goesL_ (some 17) rfl rfl Tryd.func29 (by kernel_rfl) rfl #[.agg #[.slice A1_0 l1_0.length c1_0, .slice A1_1 l1_1.length c1_1, .int .i64 a1_2, .int .i64 a1_3, .int .i64 a1_4]] rfl (by (try simp only [List.map_toArray, List.map_cons, List.map_nil]); first | done | rfl | (simp only [List.length_drop, List.length_take]; rfl)) ?_; (with_reducible refine (pelicanlaw14_Few.calls _ _ l1_0 _ _ l1_1 a1_2 a1_3 a1_4 t376 _ ?side1 ?side2 ?side3 ?side4 A6.out).mono ?_); (case side1 => repeat (first | exact (Kd.V_reads' HO1_0.out).2.2 | (with_reducible refine Kd.C_alloc ?_ _) | (with_reducible refine Kd.C_drewN ?_ _) | (with_reducible refine Kd.C_drew ?_))); (case side2 => exact (Kd.V_reads' HO1_0.out).2.1); (case side3 => repeat (first | exact (Kd.V_reads' HO1_1.out).2.2 | (with_reducible refine Kd.C_alloc ?_ _) | (with_reducible refine Kd.C_drewN ?_ _) | (with_reducible refine Kd.C_drew ?_))); (case side4 => exact (Kd.V_reads' HO1_1.out).2.1); rintro e w19 ⟨rfl, hb⟩; refine ⟨_, rfl, ?_⟩; have n0_ := Aside0.mk (Kd.V_below (upV HO0_0.out) hb); have n1_ := Aside0.mk (Kd.V_below (upV HO0_1.out) hb); have n2_ := Aside0.mk (Kd.V_below (upV HO1_0.out) hb); have n3_ := Aside0.mk (Kd.V_below (upV HO1_1.out) hb); have n4_ := Aside0.mk (Kd.V_below (upV HO2_0.out) hb); have n5_ := Aside0.mk (Kd.V_below (upV HO2_1.out) hb); have n6_ := Aside0.mk (blk_below (g := gb371) (o := .cells #[.slice A0_0 l0_0.length c0_0, .slice A0_1 l0_1.length c0_1, .int .i64 a0_2, .int .i64 a0_3, .int .i64 a0_4] 37 (0, 0)) (upB BK371.out) hb); have n7_ := Aside0.mk (blk_below (g := gb372) (o := .cells #[.slice A1_0 l1_0.length c1_0, .slice A1_1 l1_1.length c1_1, .int .i64 a1_2, .int .i64 a1_3, .int .i64 a1_4] 37 (0, 0)) (upB BK372.out) hb); have n8_ := Aside0.mk (blk_below (g := gb373) (o := .cells #[.slice A2_0 l2_0.length c2_0, .slice A2_1 l2_1.length c2_1, .int .i64 a2_2, .int .i64 a2_3, .int .i64 a2_4] 37 (0, 0)) (upB BK373.out) hb); have n9_ := Aside0.mk (below_step (upH HB.out) hb); clear HO0_0; clear HO0_1; clear HO1_0; clear HO1_1; clear HO2_0; clear HO2_1; clear BK371; clear BK372; clear BK373; clear HB; have HO0_0 := n0_; have HO0_1 := n1_; have HO1_0 := n2_; have HO1_1 := n3_; have HO2_0 := n4_; have HO2_1 := n5_; have BK371 := n6_; have BK372 := n7_; have BK373 := n8_; have HB := n9_; clear n0_ n1_ n2_ n3_ n4_ n5_ n6_ n7_ n8_ n9_; (try clear hb); (try clear hb2); (try clear hk); (try clear hi); have hcz20_0 : w19.cell? ⟨gb373, 0, none⟩ = some (.slice A2_0 l2_0.length c2_0) := (blk_cell BK373.out 0).trans rfl; have hcz20_1 : w19.cell? ⟨gb373, 1, none⟩ = some (.slice A2_1 l2_1.length c2_1) := (blk_cell BK373.out 1).trans rfl; have hcz20_2 : w19.cell? ⟨gb373, 2, none⟩ = some (.int .i64 a2_2) := (blk_cell BK373.out 2).trans rfl; have hcz20_3 : w19.cell? ⟨gb373, 3, none⟩ = some (.int .i64 a2_3) := (blk_cell BK373.out 3).trans rfl; have hcz20_4 : w19.cell? ⟨gb373, 4, none⟩ = some (.int .i64 a2_4) := (blk_cell BK373.out 4).trans rfl; have hfz20_0 := blk_frozen BK373.out 0; have hfz20_1 := blk_frozen BK373.out 1; have hfz20_2 := blk_frozen BK373.out 2; have hfz20_3 := blk_frozen BK373.out 3; have hfz20_4 := blk_frozen BK373.out 4) | ((with_reducible refine gate_callee (f := 29) rfl ?_); refine goesL_ (some 19) rfl rfl Tryd.func29 (by kernel_rfl) rfl #[.agg #[.slice A2_0 l2_0.length c2_0, .slice A2_1 l2_1.length c2_1, .int .i64 a2_2, .int .i64 a2_3, .int .i64 a2_4]] rfl (by (try simp only [List.map_toArray, List.map_cons, List.map_nil]); first | done | rfl | (simp only [List.length_drop, List.length_take]; rfl)) ?_; (with_reducible refine (pelicanlaw14_Few.calls _ _ l2_0 _ _ l2_1 a2_2 a2_3 a2_4 t377 _ ?side1 ?side2 ?side3 ?side4 A7.out).mono ?_); (case side1 => repeat (first | exact (Kd.V_reads' HO2_0.out).2.2 | (with_reducible refine Kd.C_alloc ?_ _) | (with_reducible refine Kd.C_drewN ?_ _) | (with_reducible refine Kd.C_drew ?_))); (case side2 => exact (Kd.V_reads' HO2_0.out).2.1); (case side3 => repeat (first | exact (Kd.V_reads' HO2_1.out).2.2 | (with_reducible refine Kd.C_alloc ?_ _) | (with_reducible refine Kd.C_drewN ?_ _) | (with_reducible refine Kd.C_drew ?_))); (case side4 => exact (Kd.V_reads' HO2_1.out).2.1); rintro e w21 ⟨rfl, hb⟩; refine ⟨_, rfl, ?_⟩; have n0_ := Aside0.mk (Kd.V_below (upV HO0_0.out) hb); have n1_ := Aside0.mk (Kd.V_below (upV HO0_1.out) hb); have n2_ := Aside0.mk (Kd.V_below (upV HO1_0.out) hb); have n3_ := Aside0.mk (Kd.V_below (upV HO1_1.out) hb); have n4_ := Aside0.mk (Kd.V_below (upV HO2_0.out) hb); have n5_ := Aside0.mk (Kd.V_below (upV HO2_1.out) hb); have n6_ := Aside0.mk (blk_below (g := gb371) (o := .cells #[.slice A0_0 l0_0.length c0_0, .slice A0_1 l0_1.length c0_1, .int .i64 a0_2, .int .i64 a0_3, .int .i64 a0_4] 37 (0, 0)) (upB BK371.out) hb); have n7_ := Aside0.mk (blk_below (g := gb372) (o := .cells #[.slice A1_0 l1_0.length c1_0, .slice A1_1 l1_1.length c1_1, .int .i64 a1_2, .int .i64 a1_3, .int .i64 a1_4] 37 (0, 0)) (upB BK372.out) hb); have n8_ := Aside0.mk (blk_below (g := gb373) (o := .cells #[.slice A2_0 l2_0.length c2_0, .slice A2_1 l2_1.length c2_1, .int .i64 a2_2, .int .i64 a2_3, .int .i64 a2_4] 37 (0, 0)) (upB BK373.out) hb); have n9_ := Aside0.mk (below_step (upH HB.out) hb); clear HO0_0; clear HO0_1; clear HO1_0; clear HO1_1; clear HO2_0; clear HO2_1; clear BK371; clear BK372; clear BK373; clear HB; have HO0_0 := n0_; have HO0_1 := n1_; have HO1_0 := n2_; have HO1_1 := n3_; have HO2_0 := n4_; have HO2_1 := n5_; have BK371 := n6_; have BK372 := n7_; have BK373 := n8_; have HB := n9_; clear n0_ n1_ n2_ n3_ n4_ n5_ n6_ n7_ n8_ n9_; (try clear hb); (try clear hb2); (try clear hk); (try clear hi)))
 (try simp only [Act.put, List.setIfInBounds_toArray, List.set_cons_zero, List.set_cons_succ])
 go_cut [36] (fun v36 wc => ∃ (kq : Nat) (x36_7 : Bool), v36 = .bool x36_7 ∧ Aside0 (pelicanlaw14_PlanAll.j0 kq t374 x36_7 l0_0 l0_1 a0_2 a0_3 a0_4 l1_0 l1_1 a1_2 a1_3 a1_4 l2_0 l2_1 a2_2 a2_3 a2_4 = some r) ∧ Aside0 (kq ≤ k) ∧ Aside0 (Kd.V (Kd.int .i64) 3 wc w.heap.size (fun k_ => ((P0_0_ k_ ∨ P0_1_ k_ ∨ P1_0_ k_ ∨ P1_1_ k_ ∨ P2_0_ k_ ∨ P2_1_ k_) ∨ w.heap.size ≤ k_) ∧ k_ ≠ gb371 ∧ k_ ≠ gb372 ∧ k_ ≠ gb373) (.slice A0_0 l0_0.length c0_0) l0_0) ∧ Aside0 (Kd.V k47 47 wc w.heap.size (fun k_ => ((P0_0_ k_ ∨ P0_1_ k_ ∨ P1_0_ k_ ∨ P1_1_ k_ ∨ P2_0_ k_ ∨ P2_1_ k_) ∨ w.heap.size ≤ k_) ∧ k_ ≠ gb371 ∧ k_ ≠ gb372 ∧ k_ ≠ gb373) (.slice A0_1 l0_1.length c0_1) l0_1) ∧ Aside0 (Kd.V (Kd.int .i64) 3 wc w.heap.size (fun k_ => ((P0_0_ k_ ∨ P0_1_ k_ ∨ P1_0_ k_ ∨ P1_1_ k_ ∨ P2_0_ k_ ∨ P2_1_ k_) ∨ w.heap.size ≤ k_) ∧ k_ ≠ gb371 ∧ k_ ≠ gb372 ∧ k_ ≠ gb373) (.slice A1_0 l1_0.length c1_0) l1_0) ∧ Aside0 (Kd.V k47 47 wc w.heap.size (fun k_ => ((P0_0_ k_ ∨ P0_1_ k_ ∨ P1_0_ k_ ∨ P1_1_ k_ ∨ P2_0_ k_ ∨ P2_1_ k_) ∨ w.heap.size ≤ k_) ∧ k_ ≠ gb371 ∧ k_ ≠ gb372 ∧ k_ ≠ gb373) (.slice A1_1 l1_1.length c1_1) l1_1) ∧ Aside0 (Kd.V (Kd.int .i64) 3 wc w.heap.size (fun k_ => ((P0_0_ k_ ∨ P0_1_ k_ ∨ P1_0_ k_ ∨ P1_1_ k_ ∨ P2_0_ k_ ∨ P2_1_ k_) ∨ w.heap.size ≤ k_) ∧ k_ ≠ gb371 ∧ k_ ≠ gb372 ∧ k_ ≠ gb373) (.slice A2_0 l2_0.length c2_0) l2_0) ∧ Aside0 (Kd.V k47 47 wc w.heap.size (fun k_ => ((P0_0_ k_ ∨ P0_1_ k_ ∨ P1_0_ k_ ∨ P1_1_ k_ ∨ P2_0_ k_ ∨ P2_1_ k_) ∨ w.heap.size ≤ k_) ∧ k_ ≠ gb371 ∧ k_ ≠ gb372 ∧ k_ ≠ gb373) (.slice A2_1 l2_1.length c2_1) l2_1) ∧ Aside0 (wc.heap[gb371]? = some (.cells #[(.slice A0_0 l0_0.length c0_0), (.slice A0_1 l0_1.length c0_1), .int .i64 a0_2, .int .i64 a0_3, .int .i64 a0_4] 37 (0, 0))) ∧ Aside0 (wc.heap[gb372]? = some (.cells #[(.slice A1_0 l1_0.length c1_0), (.slice A1_1 l1_1.length c1_1), .int .i64 a1_2, .int .i64 a1_3, .int .i64 a1_4] 37 (0, 0))) ∧ Aside0 (wc.heap[gb373]? = some (.cells #[(.slice A2_0 l2_0.length c2_0), (.slice A2_1 l2_1.length c2_1), .int .i64 a2_2, .int .i64 a2_3, .int .i64 a2_4] 37 (0, 0))) ∧ Aside0 (Below w.heap.size w wc))
 case first =>
  have H := HC8.out
  clear HC8
  by_cases c22 : t374 = true
  ·
   subst c22
   have H1 : (if t375 = true then (if t376 = true then (if t377 = true then ((plan_All.f ([] : List (S37))).bind fun t378 => (pelicanlaw14_PlanAll.j0 k true t378 l0_0 l0_1 a0_2 a0_3 a0_4 l1_0 l1_1 a1_2 a1_3 a1_4 l2_0 l2_1 a2_2 a2_3 a2_4)) else (pelicanlaw14_PlanAll.j0 k true true l0_0 l0_1 a0_2 a0_3 a0_4 l1_0 l1_1 a1_2 a1_3 a1_4 l2_0 l2_1 a2_2 a2_3 a2_4)) else (pelicanlaw14_PlanAll.j0 k true true l0_0 l0_1 a0_2 a0_3 a0_4 l1_0 l1_1 a1_2 a1_3 a1_4 l2_0 l2_1 a2_2 a2_3 a2_4)) else (pelicanlaw14_PlanAll.j0 k true true l0_0 l0_1 a0_2 a0_3 a0_4 l1_0 l1_1 a1_2 a1_3 a1_4 l2_0 l2_1 a2_2 a2_3 a2_4)) = some r := by rw [if_pos rfl] at H; exact H
   clear H
   have H := H1
   clear H1
   by_cases c23 : t375 = true
   ·
    subst c23
    have H1 : (if t376 = true then (if t377 = true then ((plan_All.f ([] : List (S37))).bind fun t378 => (pelicanlaw14_PlanAll.j0 k true t378 l0_0 l0_1 a0_2 a0_3 a0_4 l1_0 l1_1 a1_2 a1_3 a1_4 l2_0 l2_1 a2_2 a2_3 a2_4)) else (pelicanlaw14_PlanAll.j0 k true true l0_0 l0_1 a0_2 a0_3 a0_4 l1_0 l1_1 a1_2 a1_3 a1_4 l2_0 l2_1 a2_2 a2_3 a2_4)) else (pelicanlaw14_PlanAll.j0 k true true l0_0 l0_1 a0_2 a0_3 a0_4 l1_0 l1_1 a1_2 a1_3 a1_4 l2_0 l2_1 a2_2 a2_3 a2_4)) = some r := by rw [if_pos rfl] at H; exact H
    clear H
    have H := H1
    clear H1
    by_cases c24 : t376 = true
    ·
     subst c24
     have H1 : (if t377 = true then ((plan_All.f ([] : List (S37))).bind fun t378 => (pelicanlaw14_PlanAll.j0 k true t378 l0_0 l0_1 a0_2 a0_3 a0_4 l1_0 l1_1 a1_2 a1_3 a1_4 l2_0 l2_1 a2_2 a2_3 a2_4)) else (pelicanlaw14_PlanAll.j0 k true true l0_0 l0_1 a0_2 a0_3 a0_4 l1_0 l1_1 a1_2 a1_3 a1_4 l2_0 l2_1 a2_2 a2_3 a2_4)) = some r := by rw [if_pos rfl] at H; exact H
     clear H
     have H := H1
     clear H1
     by_cases c25 : t377 = true
     ·
      subst c25
      have H1 : ((plan_All.f ([] : List (S37))).bind fun t378 => (pelicanlaw14_PlanAll.j0 k true t378 l0_0 l0_1 a0_2 a0_3 a0_4 l1_0 l1_1 a1_2 a1_3 a1_4 l2_0 l2_1 a2_2 a2_3 a2_4)) = some r := by rw [if_pos rfl] at H; exact H
      clear H
      have H := H1
      clear H1
      replace H := Option.bind_eq_some_iff.mp H
      obtain ⟨t378, A260, H⟩ := H
      replace H : (pelicanlaw14_PlanAll.j0 k true t378 l0_0 l0_1 a0_2 a0_3 a0_4 l1_0 l1_1 a1_2 a1_3 a1_4 l2_0 l2_1 a2_2 a2_3 a2_4) = some r := H
      have A26 := Aside0.mk A260
      clear A260
      have H' := Aside0.mk H
      clear H
      go_wp2_with (first | (go_at_call 35; (refine (plan_All.calls _ _ ([] : List (S37)) t378 _ ?side1 ?side2 ?side3 A26.out).mono ?_); (case side1 => exact Kd.C_nil _ _); (case side2 => exact Nat.le_refl _); (case side3 => first | (with_reducible exact HG.out) | (refine GlobOk.below HG.out ?_; repeat (first | (with_reducible first | exact HB.out | apply below_alloc | apply pw_below_drewN | apply below_drew1 | refine below_set ?_ GE371.out | refine below_set ?_ GE372.out | refine below_set ?_ GE373.out) | exact HB.out))); rintro e w27 ⟨rfl, hb⟩; have n0_ := Aside0.mk (Kd.V_below (upV HO0_0.out) hb); have n1_ := Aside0.mk (Kd.V_below (upV HO0_1.out) hb); have n2_ := Aside0.mk (Kd.V_below (upV HO1_0.out) hb); have n3_ := Aside0.mk (Kd.V_below (upV HO1_1.out) hb); have n4_ := Aside0.mk (Kd.V_below (upV HO2_0.out) hb); have n5_ := Aside0.mk (Kd.V_below (upV HO2_1.out) hb); have n6_ := Aside0.mk (blk_below (g := gb371) (o := .cells #[.slice A0_0 l0_0.length c0_0, .slice A0_1 l0_1.length c0_1, .int .i64 a0_2, .int .i64 a0_3, .int .i64 a0_4] 37 (0, 0)) (upB BK371.out) hb); have n7_ := Aside0.mk (blk_below (g := gb372) (o := .cells #[.slice A1_0 l1_0.length c1_0, .slice A1_1 l1_1.length c1_1, .int .i64 a1_2, .int .i64 a1_3, .int .i64 a1_4] 37 (0, 0)) (upB BK372.out) hb); have n8_ := Aside0.mk (blk_below (g := gb373) (o := .cells #[.slice A2_0 l2_0.length c2_0, .slice A2_1 l2_1.length c2_1, .int .i64 a2_2, .int .i64 a2_3, .int .i64 a2_4] 37 (0, 0)) (upB BK373.out) hb); have n9_ := Aside0.mk (below_step (upH HB.out) hb); clear HO0_0; clear HO0_1; clear HO1_0; clear HO1_1; clear HO2_0; clear HO2_1; clear BK371; clear BK372; clear BK373; clear HB; have HO0_0 := n0_; have HO0_1 := n1_; have HO1_0 := n2_; have HO1_1 := n3_; have HO2_0 := n4_; have HO2_1 := n5_; have BK371 := n6_; have BK372 := n7_; have BK373 := n8_; have HB := n9_; clear n0_ n1_ n2_ n3_ n4_ n5_ n6_ n7_ n8_ n9_; (try clear hb); (try clear hb2); (try clear hk); (try clear hi)))
      go_meet
      case rel => exact ⟨_, (t378), (by first | rfl | (simp; done) | (simp [*]; done)), H', ⟨by first | omega | exact Nat.le_refl _⟩, ⟨by (with_reducible repeat (first | apply Kd.V_alloc | apply Kd.V_drewN | apply Kd.V_drew)); exact Kd.V_mono HO0_0.out (fun _ hk => ⟨hk.1.1.1, ⟨hk.1.1.2, ⟨hk.1.2, hk.2⟩⟩⟩)⟩, ⟨by (with_reducible repeat (first | apply Kd.V_alloc | apply Kd.V_drewN | apply Kd.V_drew)); exact Kd.V_mono HO0_1.out (fun _ hk => ⟨hk.1.1.1, ⟨hk.1.1.2, ⟨hk.1.2, hk.2⟩⟩⟩)⟩, ⟨by (with_reducible repeat (first | apply Kd.V_alloc | apply Kd.V_drewN | apply Kd.V_drew)); exact Kd.V_mono HO1_0.out (fun _ hk => ⟨hk.1.1.1, ⟨hk.1.1.2, ⟨hk.1.2, hk.2⟩⟩⟩)⟩, ⟨by (with_reducible repeat (first | apply Kd.V_alloc | apply Kd.V_drewN | apply Kd.V_drew)); exact Kd.V_mono HO1_1.out (fun _ hk => ⟨hk.1.1.1, ⟨hk.1.1.2, ⟨hk.1.2, hk.2⟩⟩⟩)⟩, ⟨by (with_reducible repeat (first | apply Kd.V_alloc | apply Kd.V_drewN | apply Kd.V_drew)); exact Kd.V_mono HO2_0.out (fun _ hk => ⟨hk.1.1.1, ⟨hk.1.1.2, ⟨hk.1.2, hk.2⟩⟩⟩)⟩, ⟨by (with_reducible repeat (first | apply Kd.V_alloc | apply Kd.V_drewN | apply Kd.V_drew)); exact Kd.V_mono HO2_1.out (fun _ hk => ⟨hk.1.1.1, ⟨hk.1.1.2, ⟨hk.1.2, hk.2⟩⟩⟩)⟩, ⟨by (with_reducible repeat (first | refine blk_drewN ?_ _ | refine blk_drew ?_ | refine blk_alloc ?_ _)); exact BK371.out⟩, ⟨by (with_reducible repeat (first | refine blk_drewN ?_ _ | refine blk_drew ?_ | refine blk_alloc ?_ _)); exact BK372.out⟩, ⟨by (with_reducible repeat (first | refine blk_drewN ?_ _ | refine blk_drew ?_ | refine blk_alloc ?_ _)); exact BK373.out⟩, ⟨by repeat (first | (with_reducible first | exact HB.out | apply below_alloc | apply pw_below_drewN | apply below_drew1 | refine below_set ?_ GE371.out | refine below_set ?_ GE372.out | refine below_set ?_ GE373.out) | exact HB.out)⟩⟩
     ·
      replace c25 := Bool.eq_false_iff.mpr c25
      subst c25
      have H1 : (pelicanlaw14_PlanAll.j0 k true true l0_0 l0_1 a0_2 a0_3 a0_4 l1_0 l1_1 a1_2 a1_3 a1_4 l2_0 l2_1 a2_2 a2_3 a2_4) = some r := by rw [if_neg (show ¬ (false = true) by decide)] at H; exact H
      clear H
      have H := H1
      clear H1
      have H' := Aside0.mk H
      clear H
      go_wp2
      go_meet
      case rel => exact ⟨_, (true), (by first | rfl | (simp; done) | (simp [*]; done)), H', ⟨by first | omega | exact Nat.le_refl _⟩, ⟨by (with_reducible repeat (first | apply Kd.V_alloc | apply Kd.V_drewN | apply Kd.V_drew)); exact Kd.V_mono HO0_0.out (fun _ hk => ⟨hk.1.1.1, ⟨hk.1.1.2, ⟨hk.1.2, hk.2⟩⟩⟩)⟩, ⟨by (with_reducible repeat (first | apply Kd.V_alloc | apply Kd.V_drewN | apply Kd.V_drew)); exact Kd.V_mono HO0_1.out (fun _ hk => ⟨hk.1.1.1, ⟨hk.1.1.2, ⟨hk.1.2, hk.2⟩⟩⟩)⟩, ⟨by (with_reducible repeat (first | apply Kd.V_alloc | apply Kd.V_drewN | apply Kd.V_drew)); exact Kd.V_mono HO1_0.out (fun _ hk => ⟨hk.1.1.1, ⟨hk.1.1.2, ⟨hk.1.2, hk.2⟩⟩⟩)⟩, ⟨by (with_reducible repeat (first | apply Kd.V_alloc | apply Kd.V_drewN | apply Kd.V_drew)); exact Kd.V_mono HO1_1.out (fun _ hk => ⟨hk.1.1.1, ⟨hk.1.1.2, ⟨hk.1.2, hk.2⟩⟩⟩)⟩, ⟨by (with_reducible repeat (first | apply Kd.V_alloc | apply Kd.V_drewN | apply Kd.V_drew)); exact Kd.V_mono HO2_0.out (fun _ hk => ⟨hk.1.1.1, ⟨hk.1.1.2, ⟨hk.1.2, hk.2⟩⟩⟩)⟩, ⟨by (with_reducible repeat (first | apply Kd.V_alloc | apply Kd.V_drewN | apply Kd.V_drew)); exact Kd.V_mono HO2_1.out (fun _ hk => ⟨hk.1.1.1, ⟨hk.1.1.2, ⟨hk.1.2, hk.2⟩⟩⟩)⟩, ⟨by (with_reducible repeat (first | refine blk_drewN ?_ _ | refine blk_drew ?_ | refine blk_alloc ?_ _)); exact BK371.out⟩, ⟨by (with_reducible repeat (first | refine blk_drewN ?_ _ | refine blk_drew ?_ | refine blk_alloc ?_ _)); exact BK372.out⟩, ⟨by (with_reducible repeat (first | refine blk_drewN ?_ _ | refine blk_drew ?_ | refine blk_alloc ?_ _)); exact BK373.out⟩, ⟨by repeat (first | (with_reducible first | exact HB.out | apply below_alloc | apply pw_below_drewN | apply below_drew1 | refine below_set ?_ GE371.out | refine below_set ?_ GE372.out | refine below_set ?_ GE373.out) | exact HB.out)⟩⟩
    ·
     replace c24 := Bool.eq_false_iff.mpr c24
     subst c24
     have H1 : (pelicanlaw14_PlanAll.j0 k true true l0_0 l0_1 a0_2 a0_3 a0_4 l1_0 l1_1 a1_2 a1_3 a1_4 l2_0 l2_1 a2_2 a2_3 a2_4) = some r := by rw [if_neg (show ¬ (false = true) by decide)] at H; exact H
     clear H
     have H := H1
     clear H1
     have H' := Aside0.mk H
     clear H
     go_wp2
     go_meet
     case rel => exact ⟨_, (true), (by first | rfl | (simp; done) | (simp [*]; done)), H', ⟨by first | omega | exact Nat.le_refl _⟩, ⟨by (with_reducible repeat (first | apply Kd.V_alloc | apply Kd.V_drewN | apply Kd.V_drew)); exact Kd.V_mono HO0_0.out (fun _ hk => ⟨hk.1.1.1, ⟨hk.1.1.2, ⟨hk.1.2, hk.2⟩⟩⟩)⟩, ⟨by (with_reducible repeat (first | apply Kd.V_alloc | apply Kd.V_drewN | apply Kd.V_drew)); exact Kd.V_mono HO0_1.out (fun _ hk => ⟨hk.1.1.1, ⟨hk.1.1.2, ⟨hk.1.2, hk.2⟩⟩⟩)⟩, ⟨by (with_reducible repeat (first | apply Kd.V_alloc | apply Kd.V_drewN | apply Kd.V_drew)); exact Kd.V_mono HO1_0.out (fun _ hk => ⟨hk.1.1.1, ⟨hk.1.1.2, ⟨hk.1.2, hk.2⟩⟩⟩)⟩, ⟨by (with_reducible repeat (first | apply Kd.V_alloc | apply Kd.V_drewN | apply Kd.V_drew)); exact Kd.V_mono HO1_1.out (fun _ hk => ⟨hk.1.1.1, ⟨hk.1.1.2, ⟨hk.1.2, hk.2⟩⟩⟩)⟩, ⟨by (with_reducible repeat (first | apply Kd.V_alloc | apply Kd.V_drewN | apply Kd.V_drew)); exact Kd.V_mono HO2_0.out (fun _ hk => ⟨hk.1.1.1, ⟨hk.1.1.2, ⟨hk.1.2, hk.2⟩⟩⟩)⟩, ⟨by (with_reducible repeat (first | apply Kd.V_alloc | apply Kd.V_drewN | apply Kd.V_drew)); exact Kd.V_mono HO2_1.out (fun _ hk => ⟨hk.1.1.1, ⟨hk.1.1.2, ⟨hk.1.2, hk.2⟩⟩⟩)⟩, ⟨by (with_reducible repeat (first | refine blk_drewN ?_ _ | refine blk_drew ?_ | refine blk_alloc ?_ _)); exact BK371.out⟩, ⟨by (with_reducible repeat (first | refine blk_drewN ?_ _ | refine blk_drew ?_ | refine blk_alloc ?_ _)); exact BK372.out⟩, ⟨by (with_reducible repeat (first | refine blk_drewN ?_ _ | refine blk_drew ?_ | refine blk_alloc ?_ _)); exact BK373.out⟩, ⟨by repeat (first | (with_reducible first | exact HB.out | apply below_alloc | apply pw_below_drewN | apply below_drew1 | refine below_set ?_ GE371.out | refine below_set ?_ GE372.out | refine below_set ?_ GE373.out) | exact HB.out)⟩⟩
   ·
    replace c23 := Bool.eq_false_iff.mpr c23
    subst c23
    have H1 : (pelicanlaw14_PlanAll.j0 k true true l0_0 l0_1 a0_2 a0_3 a0_4 l1_0 l1_1 a1_2 a1_3 a1_4 l2_0 l2_1 a2_2 a2_3 a2_4) = some r := by rw [if_neg (show ¬ (false = true) by decide)] at H; exact H
    clear H
    have H := H1
    clear H1
    have H' := Aside0.mk H
    clear H
    go_wp2
    go_meet
    case rel => exact ⟨_, (true), (by first | rfl | (simp; done) | (simp [*]; done)), H', ⟨by first | omega | exact Nat.le_refl _⟩, ⟨by (with_reducible repeat (first | apply Kd.V_alloc | apply Kd.V_drewN | apply Kd.V_drew)); exact Kd.V_mono HO0_0.out (fun _ hk => ⟨hk.1.1.1, ⟨hk.1.1.2, ⟨hk.1.2, hk.2⟩⟩⟩)⟩, ⟨by (with_reducible repeat (first | apply Kd.V_alloc | apply Kd.V_drewN | apply Kd.V_drew)); exact Kd.V_mono HO0_1.out (fun _ hk => ⟨hk.1.1.1, ⟨hk.1.1.2, ⟨hk.1.2, hk.2⟩⟩⟩)⟩, ⟨by (with_reducible repeat (first | apply Kd.V_alloc | apply Kd.V_drewN | apply Kd.V_drew)); exact Kd.V_mono HO1_0.out (fun _ hk => ⟨hk.1.1.1, ⟨hk.1.1.2, ⟨hk.1.2, hk.2⟩⟩⟩)⟩, ⟨by (with_reducible repeat (first | apply Kd.V_alloc | apply Kd.V_drewN | apply Kd.V_drew)); exact Kd.V_mono HO1_1.out (fun _ hk => ⟨hk.1.1.1, ⟨hk.1.1.2, ⟨hk.1.2, hk.2⟩⟩⟩)⟩, ⟨by (with_reducible repeat (first | apply Kd.V_alloc | apply Kd.V_drewN | apply Kd.V_drew)); exact Kd.V_mono HO2_0.out (fun _ hk => ⟨hk.1.1.1, ⟨hk.1.1.2, ⟨hk.1.2, hk.2⟩⟩⟩)⟩, ⟨by (with_reducible repeat (first | apply Kd.V_alloc | apply Kd.V_drewN | apply Kd.V_drew)); exact Kd.V_mono HO2_1.out (fun _ hk => ⟨hk.1.1.1, ⟨hk.1.1.2, ⟨hk.1.2, hk.2⟩⟩⟩)⟩, ⟨by (with_reducible repeat (first | refine blk_drewN ?_ _ | refine blk_drew ?_ | refine blk_alloc ?_ _)); exact BK371.out⟩, ⟨by (with_reducible repeat (first | refine blk_drewN ?_ _ | refine blk_drew ?_ | refine blk_alloc ?_ _)); exact BK372.out⟩, ⟨by (with_reducible repeat (first | refine blk_drewN ?_ _ | refine blk_drew ?_ | refine blk_alloc ?_ _)); exact BK373.out⟩, ⟨by repeat (first | (with_reducible first | exact HB.out | apply below_alloc | apply pw_below_drewN | apply below_drew1 | refine below_set ?_ GE371.out | refine below_set ?_ GE372.out | refine below_set ?_ GE373.out) | exact HB.out)⟩⟩
  ·
   replace c22 := Bool.eq_false_iff.mpr c22
   subst c22
   have H1 : (pelicanlaw14_PlanAll.j0 k false true l0_0 l0_1 a0_2 a0_3 a0_4 l1_0 l1_1 a1_2 a1_3 a1_4 l2_0 l2_1 a2_2 a2_3 a2_4) = some r := by rw [if_neg (show ¬ (false = true) by decide)] at H; exact H
   clear H
   have H := H1
   clear H1
   have H' := Aside0.mk H
   clear H
   go_wp2
   go_meet
   case rel => exact ⟨_, (true), (by first | rfl | (simp; done) | (simp [*]; done)), H', ⟨by first | omega | exact Nat.le_refl _⟩, ⟨by (with_reducible repeat (first | apply Kd.V_alloc | apply Kd.V_drewN | apply Kd.V_drew)); exact Kd.V_mono HO0_0.out (fun _ hk => ⟨hk.1.1.1, ⟨hk.1.1.2, ⟨hk.1.2, hk.2⟩⟩⟩)⟩, ⟨by (with_reducible repeat (first | apply Kd.V_alloc | apply Kd.V_drewN | apply Kd.V_drew)); exact Kd.V_mono HO0_1.out (fun _ hk => ⟨hk.1.1.1, ⟨hk.1.1.2, ⟨hk.1.2, hk.2⟩⟩⟩)⟩, ⟨by (with_reducible repeat (first | apply Kd.V_alloc | apply Kd.V_drewN | apply Kd.V_drew)); exact Kd.V_mono HO1_0.out (fun _ hk => ⟨hk.1.1.1, ⟨hk.1.1.2, ⟨hk.1.2, hk.2⟩⟩⟩)⟩, ⟨by (with_reducible repeat (first | apply Kd.V_alloc | apply Kd.V_drewN | apply Kd.V_drew)); exact Kd.V_mono HO1_1.out (fun _ hk => ⟨hk.1.1.1, ⟨hk.1.1.2, ⟨hk.1.2, hk.2⟩⟩⟩)⟩, ⟨by (with_reducible repeat (first | apply Kd.V_alloc | apply Kd.V_drewN | apply Kd.V_drew)); exact Kd.V_mono HO2_0.out (fun _ hk => ⟨hk.1.1.1, ⟨hk.1.1.2, ⟨hk.1.2, hk.2⟩⟩⟩)⟩, ⟨by (with_reducible repeat (first | apply Kd.V_alloc | apply Kd.V_drewN | apply Kd.V_drew)); exact Kd.V_mono HO2_1.out (fun _ hk => ⟨hk.1.1.1, ⟨hk.1.1.2, ⟨hk.1.2, hk.2⟩⟩⟩)⟩, ⟨by (with_reducible repeat (first | refine blk_drewN ?_ _ | refine blk_drew ?_ | refine blk_alloc ?_ _)); exact BK371.out⟩, ⟨by (with_reducible repeat (first | refine blk_drewN ?_ _ | refine blk_drew ?_ | refine blk_alloc ?_ _)); exact BK372.out⟩, ⟨by (with_reducible repeat (first | refine blk_drewN ?_ _ | refine blk_drew ?_ | refine blk_alloc ?_ _)); exact BK373.out⟩, ⟨by repeat (first | (with_reducible first | exact HB.out | apply below_alloc | apply pw_below_drewN | apply below_drew1 | refine below_set ?_ GE371.out | refine below_set ?_ GE372.out | refine below_set ?_ GE373.out) | exact HB.out)⟩⟩
 case rest =>
  clear HC8
  try clear c1
  try clear c2
  try clear p2
  try clear c12
  try clear c13
  try clear c14
  try clear c17
  try clear c22
  try clear c23
  try clear c24
  try clear c25
  try clear hcz15_0
  try clear hcz15_1
  try clear hcz15_2
  try clear hcz15_3
  try clear hcz15_4
  try clear hcz18_0
  try clear hcz18_1
  try clear hcz18_2
  try clear hcz18_3
  try clear hcz18_4
  try clear hcz20_0
  try clear hcz20_1
  try clear hcz20_2
  try clear hcz20_3
  try clear hcz20_4
  try clear hfz15_0
  try clear hfz15_1
  try clear hfz15_2
  try clear hfz15_3
  try clear hfz15_4
  try clear hfz18_0
  try clear hfz18_1
  try clear hfz18_2
  try clear hfz18_3
  try clear hfz18_4
  try clear hfz20_0
  try clear hfz20_1
  try clear hfz20_2
  try clear hfz20_3
  try clear hfz20_4
  obtain ⟨kq, x36_7, rfl, HA, HJ7, HO_372000, HO_372001, HO_373000, HO_373001, HO_374000, HO_374001, BK371, BK372, BK373, HB⟩ := hcut
  cases kq with
  | zero => exact absurd HA.out (by simp [pelicanlaw14_PlanAll.j0])
  | succ kj7 =>
   have H := HA.out
   clear HA
   simp only [pelicanlaw14_PlanAll.j0] at H
   by_cases c28 : x36_7 = true
   ·
    subst c28
    have H1 : (if t374 = true then ((plan_All.f ([] : List (S37))).bind fun t379 => (some (!t379))) else (some false)) = some r := by rw [if_pos rfl] at H; exact H
    clear H
    have H := H1
    clear H1
    by_cases c29 : t374 = true
    ·
     subst c29
     have H1 : ((plan_All.f ([] : List (S37))).bind fun t379 => (some (!t379))) = some r := by rw [if_pos rfl] at H; exact H
     clear H
     have H := H1
     clear H1
     replace H := Option.bind_eq_some_iff.mp H
     obtain ⟨t379, A300, H⟩ := H
     replace H : (some (!t379)) = some r := H
     have A30 := Aside0.mk A300
     clear A300
     obtain rfl := Option.some.inj H
     go_wp2_with (first | (go_at_call 35; (refine (plan_All.calls _ _ ([] : List (S37)) t379 _ ?side1 ?side2 ?side3 A30.out).mono ?_); (case side1 => exact Kd.C_nil _ _); (case side2 => exact Nat.le_refl _); (case side3 => first | (with_reducible exact HG.out) | (refine GlobOk.below HG.out ?_; repeat (first | (with_reducible first | exact HB.out | apply below_alloc | apply pw_below_drewN | apply below_drew1 | refine below_set ?_ GE371.out | refine below_set ?_ GE372.out | refine below_set ?_ GE373.out) | exact HB.out))); rintro e w31 ⟨rfl, hb⟩; have n0_ := Aside0.mk (Kd.V_below (upV HO_372000.out) hb); have n1_ := Aside0.mk (Kd.V_below (upV HO_372001.out) hb); have n2_ := Aside0.mk (Kd.V_below (upV HO_373000.out) hb); have n3_ := Aside0.mk (Kd.V_below (upV HO_373001.out) hb); have n4_ := Aside0.mk (Kd.V_below (upV HO_374000.out) hb); have n5_ := Aside0.mk (Kd.V_below (upV HO_374001.out) hb); have n6_ := Aside0.mk (blk_below (g := gb371) (o := .cells #[.slice A0_0 l0_0.length c0_0, .slice A0_1 l0_1.length c0_1, .int .i64 a0_2, .int .i64 a0_3, .int .i64 a0_4] 37 (0, 0)) (upB BK371.out) hb); have n7_ := Aside0.mk (blk_below (g := gb372) (o := .cells #[.slice A1_0 l1_0.length c1_0, .slice A1_1 l1_1.length c1_1, .int .i64 a1_2, .int .i64 a1_3, .int .i64 a1_4] 37 (0, 0)) (upB BK372.out) hb); have n8_ := Aside0.mk (blk_below (g := gb373) (o := .cells #[.slice A2_0 l2_0.length c2_0, .slice A2_1 l2_1.length c2_1, .int .i64 a2_2, .int .i64 a2_3, .int .i64 a2_4] 37 (0, 0)) (upB BK373.out) hb); have n9_ := Aside0.mk (below_step (upH HB.out) hb); clear HO_372000; clear HO_372001; clear HO_373000; clear HO_373001; clear HO_374000; clear HO_374001; clear BK371; clear BK372; clear BK373; clear HB; have HO_372000 := n0_; have HO_372001 := n1_; have HO_373000 := n2_; have HO_373001 := n3_; have HO_374000 := n4_; have HO_374001 := n5_; have BK371 := n6_; have BK372 := n7_; have BK373 := n8_; have HB := n9_; clear n0_ n1_ n2_ n3_ n4_ n5_ n6_ n7_ n8_ n9_; (try clear hb); (try clear hb2); (try clear hk); (try clear hi)))
     go_ret
     exact ⟨by first | rfl | (simp [errW_none, errW_some] <;> rfl) | (simp [*, errW_none, errW_some] <;> rfl), by repeat (first | (with_reducible first | exact HB.out | apply below_alloc | apply pw_below_drewN | apply below_drew1 | refine below_set ?_ GE371.out | refine below_set ?_ GE372.out | refine below_set ?_ GE373.out) | exact HB.out)⟩
    ·
     replace c29 := Bool.eq_false_iff.mpr c29
     subst c29
     have H1 : (some false) = some r := by rw [if_neg (show ¬ (false = true) by decide)] at H; exact H
     clear H
     have H := H1
     clear H1
     exact absurd (Option.some.inj H) (by rw [HRR.out]; decide)
   ·
    replace c28 := Bool.eq_false_iff.mpr c28
    subst c28
    have H1 : ((plan_Fit.f kj7 l0_0 l0_1 a0_2 a0_3 a0_4).bind fun t380 => (if t380 = true then ((plan_Fit.f kj7 l1_0 l1_1 a1_2 a1_3 a1_4).bind fun t381 => (if t381 = true then ((plan_Fit.f kj7 l2_0 l2_1 a2_2 a2_3 a2_4).bind fun t382 => (pelicanlaw14_PlanAll.j1 kj7 t382 l0_0 l0_1 a0_2 a0_3 a0_4 l1_0 l1_1 a1_2 a1_3 a1_4 l2_0 l2_1 a2_2 a2_3 a2_4)) else (pelicanlaw14_PlanAll.j1 kj7 false l0_0 l0_1 a0_2 a0_3 a0_4 l1_0 l1_1 a1_2 a1_3 a1_4 l2_0 l2_1 a2_2 a2_3 a2_4))) else (pelicanlaw14_PlanAll.j1 kj7 false l0_0 l0_1 a0_2 a0_3 a0_4 l1_0 l1_1 a1_2 a1_3 a1_4 l2_0 l2_1 a2_2 a2_3 a2_4))) = some r := by rw [if_neg (show ¬ (false = true) by decide)] at H; exact H
    clear H
    have H := H1
    clear H1
    have HC32 := Aside0.mk H
    clear H
    go_upto_region 7 with (fail)
    go_cut [11] (fun v11 wc => ∃ (kq : Nat) (x11_31 : Bool), v11 = .bool x11_31 ∧ Aside0 (pelicanlaw14_PlanAll.j1 kq x11_31 l0_0 l0_1 a0_2 a0_3 a0_4 l1_0 l1_1 a1_2 a1_3 a1_4 l2_0 l2_1 a2_2 a2_3 a2_4 = some r) ∧ Aside0 (kq ≤ kj7) ∧ Aside0 (Kd.V (Kd.int .i64) 3 wc w.heap.size (fun k_ => ((P0_0_ k_ ∨ P0_1_ k_ ∨ P1_0_ k_ ∨ P1_1_ k_ ∨ P2_0_ k_ ∨ P2_1_ k_) ∨ w.heap.size ≤ k_) ∧ k_ ≠ gb371 ∧ k_ ≠ gb372 ∧ k_ ≠ gb373) (.slice A0_0 l0_0.length c0_0) l0_0) ∧ Aside0 (Kd.V k47 47 wc w.heap.size (fun k_ => ((P0_0_ k_ ∨ P0_1_ k_ ∨ P1_0_ k_ ∨ P1_1_ k_ ∨ P2_0_ k_ ∨ P2_1_ k_) ∨ w.heap.size ≤ k_) ∧ k_ ≠ gb371 ∧ k_ ≠ gb372 ∧ k_ ≠ gb373) (.slice A0_1 l0_1.length c0_1) l0_1) ∧ Aside0 (Kd.V (Kd.int .i64) 3 wc w.heap.size (fun k_ => ((P0_0_ k_ ∨ P0_1_ k_ ∨ P1_0_ k_ ∨ P1_1_ k_ ∨ P2_0_ k_ ∨ P2_1_ k_) ∨ w.heap.size ≤ k_) ∧ k_ ≠ gb371 ∧ k_ ≠ gb372 ∧ k_ ≠ gb373) (.slice A1_0 l1_0.length c1_0) l1_0) ∧ Aside0 (Kd.V k47 47 wc w.heap.size (fun k_ => ((P0_0_ k_ ∨ P0_1_ k_ ∨ P1_0_ k_ ∨ P1_1_ k_ ∨ P2_0_ k_ ∨ P2_1_ k_) ∨ w.heap.size ≤ k_) ∧ k_ ≠ gb371 ∧ k_ ≠ gb372 ∧ k_ ≠ gb373) (.slice A1_1 l1_1.length c1_1) l1_1) ∧ Aside0 (Kd.V (Kd.int .i64) 3 wc w.heap.size (fun k_ => ((P0_0_ k_ ∨ P0_1_ k_ ∨ P1_0_ k_ ∨ P1_1_ k_ ∨ P2_0_ k_ ∨ P2_1_ k_) ∨ w.heap.size ≤ k_) ∧ k_ ≠ gb371 ∧ k_ ≠ gb372 ∧ k_ ≠ gb373) (.slice A2_0 l2_0.length c2_0) l2_0) ∧ Aside0 (Kd.V k47 47 wc w.heap.size (fun k_ => ((P0_0_ k_ ∨ P0_1_ k_ ∨ P1_0_ k_ ∨ P1_1_ k_ ∨ P2_0_ k_ ∨ P2_1_ k_) ∨ w.heap.size ≤ k_) ∧ k_ ≠ gb371 ∧ k_ ≠ gb372 ∧ k_ ≠ gb373) (.slice A2_1 l2_1.length c2_1) l2_1) ∧ Aside0 (wc.heap[gb371]? = some (.cells #[(.slice A0_0 l0_0.length c0_0), (.slice A0_1 l0_1.length c0_1), .int .i64 a0_2, .int .i64 a0_3, .int .i64 a0_4] 37 (0, 0))) ∧ Aside0 (wc.heap[gb372]? = some (.cells #[(.slice A1_0 l1_0.length c1_0), (.slice A1_1 l1_1.length c1_1), .int .i64 a1_2, .int .i64 a1_3, .int .i64 a1_4] 37 (0, 0))) ∧ Aside0 (wc.heap[gb373]? = some (.cells #[(.slice A2_0 l2_0.length c2_0), (.slice A2_1 l2_1.length c2_1), .int .i64 a2_2, .int .i64 a2_3, .int .i64 a2_4] 37 (0, 0))) ∧ Aside0 (Below w.heap.size w wc))
    case first =>
     have H := HC32.out
     clear HC32
     replace H := Option.bind_eq_some_iff.mp H
     obtain ⟨t380, A330, H⟩ := H
     replace H : (if t380 = true then ((plan_Fit.f kj7 l1_0 l1_1 a1_2 a1_3 a1_4).bind fun t381 => (if t381 = true then ((plan_Fit.f kj7 l2_0 l2_1 a2_2 a2_3 a2_4).bind fun t382 => (pelicanlaw14_PlanAll.j1 kj7 t382 l0_0 l0_1 a0_2 a0_3 a0_4 l1_0 l1_1 a1_2 a1_3 a1_4 l2_0 l2_1 a2_2 a2_3 a2_4)) else (pelicanlaw14_PlanAll.j1 kj7 false l0_0 l0_1 a0_2 a0_3 a0_4 l1_0 l1_1 a1_2 a1_3 a1_4 l2_0 l2_1 a2_2 a2_3 a2_4))) else (pelicanlaw14_PlanAll.j1 kj7 false l0_0 l0_1 a0_2 a0_3 a0_4 l1_0 l1_1 a1_2 a1_3 a1_4 l2_0 l2_1 a2_2 a2_3 a2_4)) = some r := H
     have A33 := Aside0.mk A330
     clear A330
     by_cases c34 : t380 = true
     ·
      subst c34
      have H1 : ((plan_Fit.f kj7 l1_0 l1_1 a1_2 a1_3 a1_4).bind fun t381 => (if t381 = true then ((plan_Fit.f kj7 l2_0 l2_1 a2_2 a2_3 a2_4).bind fun t382 => (pelicanlaw14_PlanAll.j1 kj7 t382 l0_0 l0_1 a0_2 a0_3 a0_4 l1_0 l1_1 a1_2 a1_3 a1_4 l2_0 l2_1 a2_2 a2_3 a2_4)) else (pelicanlaw14_PlanAll.j1 kj7 false l0_0 l0_1 a0_2 a0_3 a0_4 l1_0 l1_1 a1_2 a1_3 a1_4 l2_0 l2_1 a2_2 a2_3 a2_4))) = some r := by rw [if_pos rfl] at H; exact H
      clear H
      have H := H1
      clear H1
      replace H := Option.bind_eq_some_iff.mp H
      obtain ⟨t381, A350, H⟩ := H
      replace H : (if t381 = true then ((plan_Fit.f kj7 l2_0 l2_1 a2_2 a2_3 a2_4).bind fun t382 => (pelicanlaw14_PlanAll.j1 kj7 t382 l0_0 l0_1 a0_2 a0_3 a0_4 l1_0 l1_1 a1_2 a1_3 a1_4 l2_0 l2_1 a2_2 a2_3 a2_4)) else (pelicanlaw14_PlanAll.j1 kj7 false l0_0 l0_1 a0_2 a0_3 a0_4 l1_0 l1_1 a1_2 a1_3 a1_4 l2_0 l2_1 a2_2 a2_3 a2_4)) = some r := H
      have A35 := Aside0.mk A350
      clear A350
      by_cases c36 : t381 = true
      ·
       subst c36
       have H1 : ((plan_Fit.f kj7 l2_0 l2_1 a2_2 a2_3 a2_4).bind fun t382 => (pelicanlaw14_PlanAll.j1 kj7 t382 l0_0 l0_1 a0_2 a0_3 a0_4 l1_0 l1_1 a1_2 a1_3 a1_4 l2_0 l2_1 a2_2 a2_3 a2_4)) = some r := by rw [if_pos rfl] at H; exact H
       clear H
       have H := H1
       clear H1
       replace H := Option.bind_eq_some_iff.mp H
       obtain ⟨t382, A370, H⟩ := H
       replace H : (pelicanlaw14_PlanAll.j1 kj7 t382 l0_0 l0_1 a0_2 a0_3 a0_4 l1_0 l1_1 a1_2 a1_3 a1_4 l2_0 l2_1 a2_2 a2_3 a2_4) = some r := H
       have A37 := Aside0.mk A370
       clear A370
       have H' := Aside0.mk H
       clear H
       have hnb38 := NB371_372.out
       have hnc38 := NB372_371.out
       have hnb39 := NB371_373.out
       have hnc39 := NB373_371.out
       have hcz40_0 : wc.cell? ⟨gb371, 0, none⟩ = some (.slice A0_0 l0_0.length c0_0) := (blk_cell BK371.out 0).trans rfl
       have hcz40_1 : wc.cell? ⟨gb371, 1, none⟩ = some (.slice A0_1 l0_1.length c0_1) := (blk_cell BK371.out 1).trans rfl
       have hcz40_2 : wc.cell? ⟨gb371, 2, none⟩ = some (.int .i64 a0_2) := (blk_cell BK371.out 2).trans rfl
       have hcz40_3 : wc.cell? ⟨gb371, 3, none⟩ = some (.int .i64 a0_3) := (blk_cell BK371.out 3).trans rfl
       have hcz40_4 : wc.cell? ⟨gb371, 4, none⟩ = some (.int .i64 a0_4) := (blk_cell BK371.out 4).trans rfl
       have hfz40_0 := blk_frozen BK371.out 0
       have hfz40_1 := blk_frozen BK371.out 1
       have hfz40_2 := blk_frozen BK371.out 2
       have hfz40_3 := blk_frozen BK371.out 3
       have hfz40_4 := blk_frozen BK371.out 4
       go_wp2_with (first | ((with_reducible refine gate_callee (f := 34) rfl ?_); refine goesL_ (some 43) rfl rfl Tryd.func34 (by kernel_rfl) rfl #[.agg #[.slice A0_0 l0_0.length c0_0, .slice A0_1 l0_1.length c0_1, .int .i64 a0_2, .int .i64 a0_3, .int .i64 a0_4]] rfl (by (try simp only [List.map_toArray, List.map_cons, List.map_nil]); first | done | rfl | (simp only [List.length_drop, List.length_take]; rfl)) ?_; (with_reducible refine (plan_Fit.calls kj7 _ _ l0_0 _ _ l0_1 a0_2 a0_3 a0_4 true _ ?side1 ?side2 ?side3 ?side4 ?side5 A33.out).mono ?_); (case side1 => repeat (first | exact (Kd.V_reads' HO_372000.out).2.2 | (with_reducible refine Kd.C_alloc ?_ _) | (with_reducible refine Kd.C_drewN ?_ _) | (with_reducible refine Kd.C_drew ?_))); (case side2 => exact (Kd.V_reads' HO_372000.out).2.1); (case side3 => repeat (first | exact (Kd.V_reads' HO_372001.out).2.2 | (with_reducible refine Kd.C_alloc ?_ _) | (with_reducible refine Kd.C_drewN ?_ _) | (with_reducible refine Kd.C_drew ?_))); (case side4 => exact (Kd.V_reads' HO_372001.out).2.1); (case side5 => first | (with_reducible exact HG.out) | (refine GlobOk.below HG.out ?_; repeat (first | (with_reducible first | exact HB.out | apply below_alloc | apply pw_below_drewN | apply below_drew1 | refine below_set ?_ GE371.out | refine below_set ?_ GE372.out | refine below_set ?_ GE373.out) | exact HB.out))); rintro e w41 ⟨rfl, hb⟩; refine ⟨_, rfl, ?_⟩; have n0_ := Aside0.mk (Kd.V_below (upV HO_372000.out) hb); have n1_ := Aside0.mk (Kd.V_below (upV HO_372001.out) hb); have n2_ := Aside0.mk (Kd.V_below (upV HO_373000.out) hb); have n3_ := Aside0.mk (Kd.V_below (upV HO_373001.out) hb); have n4_ := Aside0.mk (Kd.V_below (upV HO_374000.out) hb); have n5_ := Aside0.mk (Kd.V_below (upV HO_374001.out) hb); have n6_ := Aside0.mk (blk_below (g := gb371) (o := .cells #[.slice A0_0 l0_0.length c0_0, .slice A0_1 l0_1.length c0_1, .int .i64 a0_2, .int .i64 a0_3, .int .i64 a0_4] 37 (0, 0)) (upB BK371.out) hb); have n7_ := Aside0.mk (blk_below (g := gb372) (o := .cells #[.slice A1_0 l1_0.length c1_0, .slice A1_1 l1_1.length c1_1, .int .i64 a1_2, .int .i64 a1_3, .int .i64 a1_4] 37 (0, 0)) (upB BK372.out) hb); have n8_ := Aside0.mk (blk_below (g := gb373) (o := .cells #[.slice A2_0 l2_0.length c2_0, .slice A2_1 l2_1.length c2_1, .int .i64 a2_2, .int .i64 a2_3, .int .i64 a2_4] 37 (0, 0)) (upB BK373.out) hb); have n9_ := Aside0.mk (below_step (upH HB.out) hb); clear HO_372000; clear HO_372001; clear HO_373000; clear HO_373001; clear HO_374000; clear HO_374001; clear BK371; clear BK372; clear BK373; clear HB; have HO_372000 := n0_; have HO_372001 := n1_; have HO_373000 := n2_; have HO_373001 := n3_; have HO_374000 := n4_; have HO_374001 := n5_; have BK371 := n6_; have BK372 := n7_; have BK373 := n8_; have HB := n9_; clear n0_ n1_ n2_ n3_ n4_ n5_ n6_ n7_ n8_ n9_; (try clear hb); (try clear hb2); (try clear hk); (try clear hi); have hnb42 := NB372_373.out; have hnc42 := NB373_372.out; have hcz43_0 : w41.cell? ⟨gb372, 0, none⟩ = some (.slice A1_0 l1_0.length c1_0) := (blk_cell BK372.out 0).trans rfl; have hcz43_1 : w41.cell? ⟨gb372, 1, none⟩ = some (.slice A1_1 l1_1.length c1_1) := (blk_cell BK372.out 1).trans rfl; have hcz43_2 : w41.cell? ⟨gb372, 2, none⟩ = some (.int .i64 a1_2) := (blk_cell BK372.out 2).trans rfl; have hcz43_3 : w41.cell? ⟨gb372, 3, none⟩ = some (.int .i64 a1_3) := (blk_cell BK372.out 3).trans rfl; have hcz43_4 : w41.cell? ⟨gb372, 4, none⟩ = some (.int .i64 a1_4) := (blk_cell BK372.out 4).trans rfl; have hfz43_0 := blk_frozen BK372.out 0; have hfz43_1 := blk_frozen BK372.out 1; have hfz43_2 := blk_frozen BK372.out 2; have hfz43_3 := blk_frozen BK372.out 3; have hfz43_4 := blk_frozen BK372.out 4) | (go_at_call 34; (with_reducible refine (plan_Fit.calls kj7 _ _ l1_0 _ _ l1_1 a1_2 a1_3 a1_4 true _ ?side1 ?side2 ?side3 ?side4 ?side5 A35.out).mono ?_); (case side1 => repeat (first | exact (Kd.V_reads' HO_373000.out).2.2 | (with_reducible refine Kd.C_alloc ?_ _) | (with_reducible refine Kd.C_drewN ?_ _) | (with_reducible refine Kd.C_drew ?_))); (case side2 => exact (Kd.V_reads' HO_373000.out).2.1); (case side3 => repeat (first | exact (Kd.V_reads' HO_373001.out).2.2 | (with_reducible refine Kd.C_alloc ?_ _) | (with_reducible refine Kd.C_drewN ?_ _) | (with_reducible refine Kd.C_drew ?_))); (case side4 => exact (Kd.V_reads' HO_373001.out).2.1); (case side5 => first | (with_reducible exact HG.out) | (refine GlobOk.below HG.out ?_; repeat (first | (with_reducible first | exact HB.out | apply below_alloc | apply pw_below_drewN | apply below_drew1 | refine below_set ?_ GE371.out | refine below_set ?_ GE372.out | refine below_set ?_ GE373.out) | exact HB.out))); rintro e w44 ⟨rfl, hb⟩; have n0_ := Aside0.mk (Kd.V_below (upV HO_372000.out) hb); have n1_ := Aside0.mk (Kd.V_below (upV HO_372001.out) hb); have n2_ := Aside0.mk (Kd.V_below (upV HO_373000.out) hb); have n3_ := Aside0.mk (Kd.V_below (upV HO_373001.out) hb); have n4_ := Aside0.mk (Kd.V_below (upV HO_374000.out) hb); have n5_ := Aside0.mk (Kd.V_below (upV HO_374001.out) hb); have n6_ := Aside0.mk (blk_below (g := gb371) (o := .cells #[.slice A0_0 l0_0.length c0_0, .slice A0_1 l0_1.length c0_1, .int .i64 a0_2, .int .i64 a0_3, .int .i64 a0_4] 37 (0, 0)) (upB BK371.out) hb); have n7_ := Aside0.mk (blk_below (g := gb372) (o := .cells #[.slice A1_0 l1_0.length c1_0, .slice A1_1 l1_1.length c1_1, .int .i64 a1_2, .int .i64 a1_3, .int .i64 a1_4] 37 (0, 0)) (upB BK372.out) hb); have n8_ := Aside0.mk (blk_below (g := gb373) (o := .cells #[.slice A2_0 l2_0.length c2_0, .slice A2_1 l2_1.length c2_1, .int .i64 a2_2, .int .i64 a2_3, .int .i64 a2_4] 37 (0, 0)) (upB BK373.out) hb); have n9_ := Aside0.mk (below_step (upH HB.out) hb); clear HO_372000; clear HO_372001; clear HO_373000; clear HO_373001; clear HO_374000; clear HO_374001; clear BK371; clear BK372; clear BK373; clear HB; have HO_372000 := n0_; have HO_372001 := n1_; have HO_373000 := n2_; have HO_373001 := n3_; have HO_374000 := n4_; have HO_374001 := n5_; have BK371 := n6_; have BK372 := n7_; have BK373 := n8_; have HB := n9_; clear n0_ n1_ n2_ n3_ n4_ n5_ n6_ n7_ n8_ n9_; (try clear hb); (try clear hb2); (try clear hk); (try clear hi); have hcz45_0 : w44.cell? ⟨gb373, 0, none⟩ = some (.slice A2_0 l2_0.length c2_0) := (blk_cell BK373.out 0).trans rfl; have hcz45_1 : w44.cell? ⟨gb373, 1, none⟩ = some (.slice A2_1 l2_1.length c2_1) := (blk_cell BK373.out 1).trans rfl; have hcz45_2 : w44.cell? ⟨gb373, 2, none⟩ = some (.int .i64 a2_2) := (blk_cell BK373.out 2).trans rfl; have hcz45_3 : w44.cell? ⟨gb373, 3, none⟩ = some (.int .i64 a2_3) := (blk_cell BK373.out 3).trans rfl; have hcz45_4 : w44.cell? ⟨gb373, 4, none⟩ = some (.int .i64 a2_4) := (blk_cell BK373.out 4).trans rfl; have hfz45_0 := blk_frozen BK373.out 0; have hfz45_1 := blk_frozen BK373.out 1; have hfz45_2 := blk_frozen BK373.out 2; have hfz45_3 := blk_frozen BK373.out 3; have hfz45_4 := blk_frozen BK373.out 4) | (go_at_call 34; (with_reducible refine (plan_Fit.calls kj7 _ _ l2_0 _ _ l2_1 a2_2 a2_3 a2_4 t382 _ ?side1 ?side2 ?side3 ?side4 ?side5 A37.out).mono ?_); (case side1 => repeat (first | exact (Kd.V_reads' HO_374000.out).2.2 | (with_reducible refine Kd.C_alloc ?_ _) | (with_reducible refine Kd.C_drewN ?_ _) | (with_reducible refine Kd.C_drew ?_))); (case side2 => exact (Kd.V_reads' HO_374000.out).2.1); (case side3 => repeat (first | exact (Kd.V_reads' HO_374001.out).2.2 | (with_reducible refine Kd.C_alloc ?_ _) | (with_reducible refine Kd.C_drewN ?_ _) | (with_reducible refine Kd.C_drew ?_))); (case side4 => exact (Kd.V_reads' HO_374001.out).2.1); (case side5 => first | (with_reducible exact HG.out) | (refine GlobOk.below HG.out ?_; repeat (first | (with_reducible first | exact HB.out | apply below_alloc | apply pw_below_drewN | apply below_drew1 | refine below_set ?_ GE371.out | refine below_set ?_ GE372.out | refine below_set ?_ GE373.out) | exact HB.out))); rintro e w46 ⟨rfl, hb⟩; have n0_ := Aside0.mk (Kd.V_below (upV HO_372000.out) hb); have n1_ := Aside0.mk (Kd.V_below (upV HO_372001.out) hb); have n2_ := Aside0.mk (Kd.V_below (upV HO_373000.out) hb); have n3_ := Aside0.mk (Kd.V_below (upV HO_373001.out) hb); have n4_ := Aside0.mk (Kd.V_below (upV HO_374000.out) hb); have n5_ := Aside0.mk (Kd.V_below (upV HO_374001.out) hb); have n6_ := Aside0.mk (blk_below (g := gb371) (o := .cells #[.slice A0_0 l0_0.length c0_0, .slice A0_1 l0_1.length c0_1, .int .i64 a0_2, .int .i64 a0_3, .int .i64 a0_4] 37 (0, 0)) (upB BK371.out) hb); have n7_ := Aside0.mk (blk_below (g := gb372) (o := .cells #[.slice A1_0 l1_0.length c1_0, .slice A1_1 l1_1.length c1_1, .int .i64 a1_2, .int .i64 a1_3, .int .i64 a1_4] 37 (0, 0)) (upB BK372.out) hb); have n8_ := Aside0.mk (blk_below (g := gb373) (o := .cells #[.slice A2_0 l2_0.length c2_0, .slice A2_1 l2_1.length c2_1, .int .i64 a2_2, .int .i64 a2_3, .int .i64 a2_4] 37 (0, 0)) (upB BK373.out) hb); have n9_ := Aside0.mk (below_step (upH HB.out) hb); clear HO_372000; clear HO_372001; clear HO_373000; clear HO_373001; clear HO_374000; clear HO_374001; clear BK371; clear BK372; clear BK373; clear HB; have HO_372000 := n0_; have HO_372001 := n1_; have HO_373000 := n2_; have HO_373001 := n3_; have HO_374000 := n4_; have HO_374001 := n5_; have BK371 := n6_; have BK372 := n7_; have BK373 := n8_; have HB := n9_; clear n0_ n1_ n2_ n3_ n4_ n5_ n6_ n7_ n8_ n9_; (try clear hb); (try clear hb2); (try clear hk); (try clear hi)))
       go_meet
       case rel => exact ⟨_, (t382), (by first | rfl | (simp; done) | (simp [*]; done)), H', ⟨by have := HJ7.out; first | omega | exact Nat.le_refl _⟩, ⟨by (with_reducible repeat (first | apply Kd.V_alloc | apply Kd.V_drewN | apply Kd.V_drew)); exact HO_372000.out⟩, ⟨by (with_reducible repeat (first | apply Kd.V_alloc | apply Kd.V_drewN | apply Kd.V_drew)); exact HO_372001.out⟩, ⟨by (with_reducible repeat (first | apply Kd.V_alloc | apply Kd.V_drewN | apply Kd.V_drew)); exact HO_373000.out⟩, ⟨by (with_reducible repeat (first | apply Kd.V_alloc | apply Kd.V_drewN | apply Kd.V_drew)); exact HO_373001.out⟩, ⟨by (with_reducible repeat (first | apply Kd.V_alloc | apply Kd.V_drewN | apply Kd.V_drew)); exact HO_374000.out⟩, ⟨by (with_reducible repeat (first | apply Kd.V_alloc | apply Kd.V_drewN | apply Kd.V_drew)); exact HO_374001.out⟩, ⟨by (with_reducible repeat (first | refine blk_drewN ?_ _ | refine blk_drew ?_ | refine blk_alloc ?_ _)); exact BK371.out⟩, ⟨by (with_reducible repeat (first | refine blk_drewN ?_ _ | refine blk_drew ?_ | refine blk_alloc ?_ _)); exact BK372.out⟩, ⟨by (with_reducible repeat (first | refine blk_drewN ?_ _ | refine blk_drew ?_ | refine blk_alloc ?_ _)); exact BK373.out⟩, ⟨by repeat (first | (with_reducible first | exact HB.out | apply below_alloc | apply pw_below_drewN | apply below_drew1 | refine below_set ?_ GE371.out | refine below_set ?_ GE372.out | refine below_set ?_ GE373.out) | exact HB.out)⟩⟩
      ·
       replace c36 := Bool.eq_false_iff.mpr c36
       subst c36
       have H1 : (pelicanlaw14_PlanAll.j1 kj7 false l0_0 l0_1 a0_2 a0_3 a0_4 l1_0 l1_1 a1_2 a1_3 a1_4 l2_0 l2_1 a2_2 a2_3 a2_4) = some r := by rw [if_neg (show ¬ (false = true) by decide)] at H; exact H
       clear H
       have H := H1
       clear H1
       have H' := Aside0.mk H
       clear H
       have hnb47 := NB371_372.out
       have hnc47 := NB372_371.out
       have hnb48 := NB371_373.out
       have hnc48 := NB373_371.out
       have hcz49_0 : wc.cell? ⟨gb371, 0, none⟩ = some (.slice A0_0 l0_0.length c0_0) := (blk_cell BK371.out 0).trans rfl
       have hcz49_1 : wc.cell? ⟨gb371, 1, none⟩ = some (.slice A0_1 l0_1.length c0_1) := (blk_cell BK371.out 1).trans rfl
       have hcz49_2 : wc.cell? ⟨gb371, 2, none⟩ = some (.int .i64 a0_2) := (blk_cell BK371.out 2).trans rfl
       have hcz49_3 : wc.cell? ⟨gb371, 3, none⟩ = some (.int .i64 a0_3) := (blk_cell BK371.out 3).trans rfl
       have hcz49_4 : wc.cell? ⟨gb371, 4, none⟩ = some (.int .i64 a0_4) := (blk_cell BK371.out 4).trans rfl
       have hfz49_0 := blk_frozen BK371.out 0
       have hfz49_1 := blk_frozen BK371.out 1
       have hfz49_2 := blk_frozen BK371.out 2
       have hfz49_3 := blk_frozen BK371.out 3
       have hfz49_4 := blk_frozen BK371.out 4
       go_wp2_with (first | ((with_reducible refine gate_callee (f := 34) rfl ?_); refine goesL_ (some 43) rfl rfl Tryd.func34 (by kernel_rfl) rfl #[.agg #[.slice A0_0 l0_0.length c0_0, .slice A0_1 l0_1.length c0_1, .int .i64 a0_2, .int .i64 a0_3, .int .i64 a0_4]] rfl (by (try simp only [List.map_toArray, List.map_cons, List.map_nil]); first | done | rfl | (simp only [List.length_drop, List.length_take]; rfl)) ?_; (with_reducible refine (plan_Fit.calls kj7 _ _ l0_0 _ _ l0_1 a0_2 a0_3 a0_4 true _ ?side1 ?side2 ?side3 ?side4 ?side5 A33.out).mono ?_); (case side1 => repeat (first | exact (Kd.V_reads' HO_372000.out).2.2 | (with_reducible refine Kd.C_alloc ?_ _) | (with_reducible refine Kd.C_drewN ?_ _) | (with_reducible refine Kd.C_drew ?_))); (case side2 => exact (Kd.V_reads' HO_372000.out).2.1); (case side3 => repeat (first | exact (Kd.V_reads' HO_372001.out).2.2 | (with_reducible refine Kd.C_alloc ?_ _) | (with_reducible refine Kd.C_drewN ?_ _) | (with_reducible refine Kd.C_drew ?_))); (case side4 => exact (Kd.V_reads' HO_372001.out).2.1); (case side5 => first | (with_reducible exact HG.out) | (refine GlobOk.below HG.out ?_; repeat (first | (with_reducible first | exact HB.out | apply below_alloc | apply pw_below_drewN | apply below_drew1 | refine below_set ?_ GE371.out | refine below_set ?_ GE372.out | refine below_set ?_ GE373.out) | exact HB.out))); rintro e w50 ⟨rfl, hb⟩; refine ⟨_, rfl, ?_⟩; have n0_ := Aside0.mk (Kd.V_below (upV HO_372000.out) hb); have n1_ := Aside0.mk (Kd.V_below (upV HO_372001.out) hb); have n2_ := Aside0.mk (Kd.V_below (upV HO_373000.out) hb); have n3_ := Aside0.mk (Kd.V_below (upV HO_373001.out) hb); have n4_ := Aside0.mk (Kd.V_below (upV HO_374000.out) hb); have n5_ := Aside0.mk (Kd.V_below (upV HO_374001.out) hb); have n6_ := Aside0.mk (blk_below (g := gb371) (o := .cells #[.slice A0_0 l0_0.length c0_0, .slice A0_1 l0_1.length c0_1, .int .i64 a0_2, .int .i64 a0_3, .int .i64 a0_4] 37 (0, 0)) (upB BK371.out) hb); have n7_ := Aside0.mk (blk_below (g := gb372) (o := .cells #[.slice A1_0 l1_0.length c1_0, .slice A1_1 l1_1.length c1_1, .int .i64 a1_2, .int .i64 a1_3, .int .i64 a1_4] 37 (0, 0)) (upB BK372.out) hb); have n8_ := Aside0.mk (blk_below (g := gb373) (o := .cells #[.slice A2_0 l2_0.length c2_0, .slice A2_1 l2_1.length c2_1, .int .i64 a2_2, .int .i64 a2_3, .int .i64 a2_4] 37 (0, 0)) (upB BK373.out) hb); have n9_ := Aside0.mk (below_step (upH HB.out) hb); clear HO_372000; clear HO_372001; clear HO_373000; clear HO_373001; clear HO_374000; clear HO_374001; clear BK371; clear BK372; clear BK373; clear HB; have HO_372000 := n0_; have HO_372001 := n1_; have HO_373000 := n2_; have HO_373001 := n3_; have HO_374000 := n4_; have HO_374001 := n5_; have BK371 := n6_; have BK372 := n7_; have BK373 := n8_; have HB := n9_; clear n0_ n1_ n2_ n3_ n4_ n5_ n6_ n7_ n8_ n9_; (try clear hb); (try clear hb2); (try clear hk); (try clear hi); have hnb51 := NB372_373.out; have hnc51 := NB373_372.out; have hcz52_0 : w50.cell? ⟨gb372, 0, none⟩ = some (.slice A1_0 l1_0.length c1_0) := (blk_cell BK372.out 0).trans rfl; have hcz52_1 : w50.cell? ⟨gb372, 1, none⟩ = some (.slice A1_1 l1_1.length c1_1) := (blk_cell BK372.out 1).trans rfl; have hcz52_2 : w50.cell? ⟨gb372, 2, none⟩ = some (.int .i64 a1_2) := (blk_cell BK372.out 2).trans rfl; have hcz52_3 : w50.cell? ⟨gb372, 3, none⟩ = some (.int .i64 a1_3) := (blk_cell BK372.out 3).trans rfl; have hcz52_4 : w50.cell? ⟨gb372, 4, none⟩ = some (.int .i64 a1_4) := (blk_cell BK372.out 4).trans rfl; have hfz52_0 := blk_frozen BK372.out 0; have hfz52_1 := blk_frozen BK372.out 1; have hfz52_2 := blk_frozen BK372.out 2; have hfz52_3 := blk_frozen BK372.out 3; have hfz52_4 := blk_frozen BK372.out 4) | (go_at_call 34; (with_reducible refine (plan_Fit.calls kj7 _ _ l1_0 _ _ l1_1 a1_2 a1_3 a1_4 false _ ?side1 ?side2 ?side3 ?side4 ?side5 A35.out).mono ?_); (case side1 => repeat (first | exact (Kd.V_reads' HO_373000.out).2.2 | (with_reducible refine Kd.C_alloc ?_ _) | (with_reducible refine Kd.C_drewN ?_ _) | (with_reducible refine Kd.C_drew ?_))); (case side2 => exact (Kd.V_reads' HO_373000.out).2.1); (case side3 => repeat (first | exact (Kd.V_reads' HO_373001.out).2.2 | (with_reducible refine Kd.C_alloc ?_ _) | (with_reducible refine Kd.C_drewN ?_ _) | (with_reducible refine Kd.C_drew ?_))); (case side4 => exact (Kd.V_reads' HO_373001.out).2.1); (case side5 => first | (with_reducible exact HG.out) | (refine GlobOk.below HG.out ?_; repeat (first | (with_reducible first | exact HB.out | apply below_alloc | apply pw_below_drewN | apply below_drew1 | refine below_set ?_ GE371.out | refine below_set ?_ GE372.out | refine below_set ?_ GE373.out) | exact HB.out))); rintro e w53 ⟨rfl, hb⟩; have n0_ := Aside0.mk (Kd.V_below (upV HO_372000.out) hb); have n1_ := Aside0.mk (Kd.V_below (upV HO_372001.out) hb); have n2_ := Aside0.mk (Kd.V_below (upV HO_373000.out) hb); have n3_ := Aside0.mk (Kd.V_below (upV HO_373001.out) hb); have n4_ := Aside0.mk (Kd.V_below (upV HO_374000.out) hb); have n5_ := Aside0.mk (Kd.V_below (upV HO_374001.out) hb); have n6_ := Aside0.mk (blk_below (g := gb371) (o := .cells #[.slice A0_0 l0_0.length c0_0, .slice A0_1 l0_1.length c0_1, .int .i64 a0_2, .int .i64 a0_3, .int .i64 a0_4] 37 (0, 0)) (upB BK371.out) hb); have n7_ := Aside0.mk (blk_below (g := gb372) (o := .cells #[.slice A1_0 l1_0.length c1_0, .slice A1_1 l1_1.length c1_1, .int .i64 a1_2, .int .i64 a1_3, .int .i64 a1_4] 37 (0, 0)) (upB BK372.out) hb); have n8_ := Aside0.mk (blk_below (g := gb373) (o := .cells #[.slice A2_0 l2_0.length c2_0, .slice A2_1 l2_1.length c2_1, .int .i64 a2_2, .int .i64 a2_3, .int .i64 a2_4] 37 (0, 0)) (upB BK373.out) hb); have n9_ := Aside0.mk (below_step (upH HB.out) hb); clear HO_372000; clear HO_372001; clear HO_373000; clear HO_373001; clear HO_374000; clear HO_374001; clear BK371; clear BK372; clear BK373; clear HB; have HO_372000 := n0_; have HO_372001 := n1_; have HO_373000 := n2_; have HO_373001 := n3_; have HO_374000 := n4_; have HO_374001 := n5_; have BK371 := n6_; have BK372 := n7_; have BK373 := n8_; have HB := n9_; clear n0_ n1_ n2_ n3_ n4_ n5_ n6_ n7_ n8_ n9_; (try clear hb); (try clear hb2); (try clear hk); (try clear hi)))
       go_meet
       case rel => exact ⟨_, (false), (by first | rfl | (simp; done) | (simp [*]; done)), H', ⟨by have := HJ7.out; first | omega | exact Nat.le_refl _⟩, ⟨by (with_reducible repeat (first | apply Kd.V_alloc | apply Kd.V_drewN | apply Kd.V_drew)); exact HO_372000.out⟩, ⟨by (with_reducible repeat (first | apply Kd.V_alloc | apply Kd.V_drewN | apply Kd.V_drew)); exact HO_372001.out⟩, ⟨by (with_reducible repeat (first | apply Kd.V_alloc | apply Kd.V_drewN | apply Kd.V_drew)); exact HO_373000.out⟩, ⟨by (with_reducible repeat (first | apply Kd.V_alloc | apply Kd.V_drewN | apply Kd.V_drew)); exact HO_373001.out⟩, ⟨by (with_reducible repeat (first | apply Kd.V_alloc | apply Kd.V_drewN | apply Kd.V_drew)); exact HO_374000.out⟩, ⟨by (with_reducible repeat (first | apply Kd.V_alloc | apply Kd.V_drewN | apply Kd.V_drew)); exact HO_374001.out⟩, ⟨by (with_reducible repeat (first | refine blk_drewN ?_ _ | refine blk_drew ?_ | refine blk_alloc ?_ _)); exact BK371.out⟩, ⟨by (with_reducible repeat (first | refine blk_drewN ?_ _ | refine blk_drew ?_ | refine blk_alloc ?_ _)); exact BK372.out⟩, ⟨by (with_reducible repeat (first | refine blk_drewN ?_ _ | refine blk_drew ?_ | refine blk_alloc ?_ _)); exact BK373.out⟩, ⟨by repeat (first | (with_reducible first | exact HB.out | apply below_alloc | apply pw_below_drewN | apply below_drew1 | refine below_set ?_ GE371.out | refine below_set ?_ GE372.out | refine below_set ?_ GE373.out) | exact HB.out)⟩⟩
     ·
      replace c34 := Bool.eq_false_iff.mpr c34
      subst c34
      have H1 : (pelicanlaw14_PlanAll.j1 kj7 false l0_0 l0_1 a0_2 a0_3 a0_4 l1_0 l1_1 a1_2 a1_3 a1_4 l2_0 l2_1 a2_2 a2_3 a2_4) = some r := by rw [if_neg (show ¬ (false = true) by decide)] at H; exact H
      clear H
      have H := H1
      clear H1
      have H' := Aside0.mk H
      clear H
      have hnb54 := NB371_372.out
      have hnc54 := NB372_371.out
      have hnb55 := NB371_373.out
      have hnc55 := NB373_371.out
      have hcz56_0 : wc.cell? ⟨gb371, 0, none⟩ = some (.slice A0_0 l0_0.length c0_0) := (blk_cell BK371.out 0).trans rfl
      have hcz56_1 : wc.cell? ⟨gb371, 1, none⟩ = some (.slice A0_1 l0_1.length c0_1) := (blk_cell BK371.out 1).trans rfl
      have hcz56_2 : wc.cell? ⟨gb371, 2, none⟩ = some (.int .i64 a0_2) := (blk_cell BK371.out 2).trans rfl
      have hcz56_3 : wc.cell? ⟨gb371, 3, none⟩ = some (.int .i64 a0_3) := (blk_cell BK371.out 3).trans rfl
      have hcz56_4 : wc.cell? ⟨gb371, 4, none⟩ = some (.int .i64 a0_4) := (blk_cell BK371.out 4).trans rfl
      have hfz56_0 := blk_frozen BK371.out 0
      have hfz56_1 := blk_frozen BK371.out 1
      have hfz56_2 := blk_frozen BK371.out 2
      have hfz56_3 := blk_frozen BK371.out 3
      have hfz56_4 := blk_frozen BK371.out 4
      go_wp2_with (first | ((with_reducible refine gate_callee (f := 34) rfl ?_); refine goesL_ (some 43) rfl rfl Tryd.func34 (by kernel_rfl) rfl #[.agg #[.slice A0_0 l0_0.length c0_0, .slice A0_1 l0_1.length c0_1, .int .i64 a0_2, .int .i64 a0_3, .int .i64 a0_4]] rfl (by (try simp only [List.map_toArray, List.map_cons, List.map_nil]); first | done | rfl | (simp only [List.length_drop, List.length_take]; rfl)) ?_; (with_reducible refine (plan_Fit.calls kj7 _ _ l0_0 _ _ l0_1 a0_2 a0_3 a0_4 false _ ?side1 ?side2 ?side3 ?side4 ?side5 A33.out).mono ?_); (case side1 => repeat (first | exact (Kd.V_reads' HO_372000.out).2.2 | (with_reducible refine Kd.C_alloc ?_ _) | (with_reducible refine Kd.C_drewN ?_ _) | (with_reducible refine Kd.C_drew ?_))); (case side2 => exact (Kd.V_reads' HO_372000.out).2.1); (case side3 => repeat (first | exact (Kd.V_reads' HO_372001.out).2.2 | (with_reducible refine Kd.C_alloc ?_ _) | (with_reducible refine Kd.C_drewN ?_ _) | (with_reducible refine Kd.C_drew ?_))); (case side4 => exact (Kd.V_reads' HO_372001.out).2.1); (case side5 => first | (with_reducible exact HG.out) | (refine GlobOk.below HG.out ?_; repeat (first | (with_reducible first | exact HB.out | apply below_alloc | apply pw_below_drewN | apply below_drew1 | refine below_set ?_ GE371.out | refine below_set ?_ GE372.out | refine below_set ?_ GE373.out) | exact HB.out))); rintro e w57 ⟨rfl, hb⟩; refine ⟨_, rfl, ?_⟩; have n0_ := Aside0.mk (Kd.V_below (upV HO_372000.out) hb); have n1_ := Aside0.mk (Kd.V_below (upV HO_372001.out) hb); have n2_ := Aside0.mk (Kd.V_below (upV HO_373000.out) hb); have n3_ := Aside0.mk (Kd.V_below (upV HO_373001.out) hb); have n4_ := Aside0.mk (Kd.V_below (upV HO_374000.out) hb); have n5_ := Aside0.mk (Kd.V_below (upV HO_374001.out) hb); have n6_ := Aside0.mk (blk_below (g := gb371) (o := .cells #[.slice A0_0 l0_0.length c0_0, .slice A0_1 l0_1.length c0_1, .int .i64 a0_2, .int .i64 a0_3, .int .i64 a0_4] 37 (0, 0)) (upB BK371.out) hb); have n7_ := Aside0.mk (blk_below (g := gb372) (o := .cells #[.slice A1_0 l1_0.length c1_0, .slice A1_1 l1_1.length c1_1, .int .i64 a1_2, .int .i64 a1_3, .int .i64 a1_4] 37 (0, 0)) (upB BK372.out) hb); have n8_ := Aside0.mk (blk_below (g := gb373) (o := .cells #[.slice A2_0 l2_0.length c2_0, .slice A2_1 l2_1.length c2_1, .int .i64 a2_2, .int .i64 a2_3, .int .i64 a2_4] 37 (0, 0)) (upB BK373.out) hb); have n9_ := Aside0.mk (below_step (upH HB.out) hb); clear HO_372000; clear HO_372001; clear HO_373000; clear HO_373001; clear HO_374000; clear HO_374001; clear BK371; clear BK372; clear BK373; clear HB; have HO_372000 := n0_; have HO_372001 := n1_; have HO_373000 := n2_; have HO_373001 := n3_; have HO_374000 := n4_; have HO_374001 := n5_; have BK371 := n6_; have BK372 := n7_; have BK373 := n8_; have HB := n9_; clear n0_ n1_ n2_ n3_ n4_ n5_ n6_ n7_ n8_ n9_; (try clear hb); (try clear hb2); (try clear hk); (try clear hi)))
      go_meet
      case rel => exact ⟨_, (false), (by first | rfl | (simp; done) | (simp [*]; done)), H', ⟨by have := HJ7.out; first | omega | exact Nat.le_refl _⟩, ⟨by (with_reducible repeat (first | apply Kd.V_alloc | apply Kd.V_drewN | apply Kd.V_drew)); exact HO_372000.out⟩, ⟨by (with_reducible repeat (first | apply Kd.V_alloc | apply Kd.V_drewN | apply Kd.V_drew)); exact HO_372001.out⟩, ⟨by (with_reducible repeat (first | apply Kd.V_alloc | apply Kd.V_drewN | apply Kd.V_drew)); exact HO_373000.out⟩, ⟨by (with_reducible repeat (first | apply Kd.V_alloc | apply Kd.V_drewN | apply Kd.V_drew)); exact HO_373001.out⟩, ⟨by (with_reducible repeat (first | apply Kd.V_alloc | apply Kd.V_drewN | apply Kd.V_drew)); exact HO_374000.out⟩, ⟨by (with_reducible repeat (first | apply Kd.V_alloc | apply Kd.V_drewN | apply Kd.V_drew)); exact HO_374001.out⟩, ⟨by (with_reducible repeat (first | refine blk_drewN ?_ _ | refine blk_drew ?_ | refine blk_alloc ?_ _)); exact BK371.out⟩, ⟨by (with_reducible repeat (first | refine blk_drewN ?_ _ | refine blk_drew ?_ | refine blk_alloc ?_ _)); exact BK372.out⟩, ⟨by (with_reducible repeat (first | refine blk_drewN ?_ _ | refine blk_drew ?_ | refine blk_alloc ?_ _)); exact BK373.out⟩, ⟨by repeat (first | (with_reducible first | exact HB.out | apply below_alloc | apply pw_below_drewN | apply below_drew1 | refine below_set ?_ GE371.out | refine below_set ?_ GE372.out | refine below_set ?_ GE373.out) | exact HB.out)⟩⟩
    case rest =>
     clear HC32
     try clear c1
     try clear c2
     try clear p2
     try clear c3
     try clear c4
     try clear c5
     try clear c12
     try clear c13
     try clear c14
     try clear c17
     try clear c22
     try clear c23
     try clear c24
     try clear c25
     try clear c28
     try clear c29
     try clear c34
     try clear c36
     try clear c38
     try clear c39
     try clear c42
     try clear c47
     try clear c48
     try clear c51
     try clear c54
     try clear c55
     try clear hcz15_0
     try clear hcz15_1
     try clear hcz15_2
     try clear hcz15_3
     try clear hcz15_4
     try clear hcz18_0
     try clear hcz18_1
     try clear hcz18_2
     try clear hcz18_3
     try clear hcz18_4
     try clear hcz20_0
     try clear hcz20_1
     try clear hcz20_2
     try clear hcz20_3
     try clear hcz20_4
     try clear hcz40_0
     try clear hcz40_1
     try clear hcz40_2
     try clear hcz40_3
     try clear hcz40_4
     try clear hcz43_0
     try clear hcz43_1
     try clear hcz43_2
     try clear hcz43_3
     try clear hcz43_4
     try clear hcz45_0
     try clear hcz45_1
     try clear hcz45_2
     try clear hcz45_3
     try clear hcz45_4
     try clear hcz49_0
     try clear hcz49_1
     try clear hcz49_2
     try clear hcz49_3
     try clear hcz49_4
     try clear hcz52_0
     try clear hcz52_1
     try clear hcz52_2
     try clear hcz52_3
     try clear hcz52_4
     try clear hcz56_0
     try clear hcz56_1
     try clear hcz56_2
     try clear hcz56_3
     try clear hcz56_4
     try clear hfz15_0
     try clear hfz15_1
     try clear hfz15_2
     try clear hfz15_3
     try clear hfz15_4
     try clear hfz18_0
     try clear hfz18_1
     try clear hfz18_2
     try clear hfz18_3
     try clear hfz18_4
     try clear hfz20_0
     try clear hfz20_1
     try clear hfz20_2
     try clear hfz20_3
     try clear hfz20_4
     try clear hfz40_0
     try clear hfz40_1
     try clear hfz40_2
     try clear hfz40_3
     try clear hfz40_4
     try clear hfz43_0
     try clear hfz43_1
     try clear hfz43_2
     try clear hfz43_3
     try clear hfz43_4
     try clear hfz45_0
     try clear hfz45_1
     try clear hfz45_2
     try clear hfz45_3
     try clear hfz45_4
     try clear hfz49_0
     try clear hfz49_1
     try clear hfz49_2
     try clear hfz49_3
     try clear hfz49_4
     try clear hfz52_0
     try clear hfz52_1
     try clear hfz52_2
     try clear hfz52_3
     try clear hfz52_4
     try clear hfz56_0
     try clear hfz56_1
     try clear hfz56_2
     try clear hfz56_3
     try clear hfz56_4
     try clear p2
     obtain ⟨kq, x11_31, rfl, HA, HJ31, HO_372000, HO_372001, HO_373000, HO_373001, HO_374000, HO_374001, BK371, BK372, BK373, HB⟩ := hcut
     cases kq with
     | zero => exact absurd HA.out (by simp [pelicanlaw14_PlanAll.j1])
     | succ kj31 =>
      have H := HA.out
      clear HA
      simp only [pelicanlaw14_PlanAll.j1] at H
      have HC58 := Aside0.mk H
      clear H
      go_upto_region 8 with (fail)
      go_cut [12] (fun v12 wc => ∃ (kq : Nat) (x12_57 : Bool), v12 = .bool x12_57 ∧ Aside0 (pelicanlaw14_PlanAll.j2 kq x11_31 x12_57 l0_0 l0_1 a0_2 a0_3 a0_4 l1_0 l1_1 a1_2 a1_3 a1_4 l2_0 l2_1 a2_2 a2_3 a2_4 = some r) ∧ Aside0 (kq ≤ kj31) ∧ Aside0 (Kd.V (Kd.int .i64) 3 wc w.heap.size (fun k_ => ((P0_0_ k_ ∨ P0_1_ k_ ∨ P1_0_ k_ ∨ P1_1_ k_ ∨ P2_0_ k_ ∨ P2_1_ k_) ∨ w.heap.size ≤ k_) ∧ k_ ≠ gb371 ∧ k_ ≠ gb372 ∧ k_ ≠ gb373) (.slice A0_0 l0_0.length c0_0) l0_0) ∧ Aside0 (Kd.V k47 47 wc w.heap.size (fun k_ => ((P0_0_ k_ ∨ P0_1_ k_ ∨ P1_0_ k_ ∨ P1_1_ k_ ∨ P2_0_ k_ ∨ P2_1_ k_) ∨ w.heap.size ≤ k_) ∧ k_ ≠ gb371 ∧ k_ ≠ gb372 ∧ k_ ≠ gb373) (.slice A0_1 l0_1.length c0_1) l0_1) ∧ Aside0 (Kd.V (Kd.int .i64) 3 wc w.heap.size (fun k_ => ((P0_0_ k_ ∨ P0_1_ k_ ∨ P1_0_ k_ ∨ P1_1_ k_ ∨ P2_0_ k_ ∨ P2_1_ k_) ∨ w.heap.size ≤ k_) ∧ k_ ≠ gb371 ∧ k_ ≠ gb372 ∧ k_ ≠ gb373) (.slice A1_0 l1_0.length c1_0) l1_0) ∧ Aside0 (Kd.V k47 47 wc w.heap.size (fun k_ => ((P0_0_ k_ ∨ P0_1_ k_ ∨ P1_0_ k_ ∨ P1_1_ k_ ∨ P2_0_ k_ ∨ P2_1_ k_) ∨ w.heap.size ≤ k_) ∧ k_ ≠ gb371 ∧ k_ ≠ gb372 ∧ k_ ≠ gb373) (.slice A1_1 l1_1.length c1_1) l1_1) ∧ Aside0 (Kd.V (Kd.int .i64) 3 wc w.heap.size (fun k_ => ((P0_0_ k_ ∨ P0_1_ k_ ∨ P1_0_ k_ ∨ P1_1_ k_ ∨ P2_0_ k_ ∨ P2_1_ k_) ∨ w.heap.size ≤ k_) ∧ k_ ≠ gb371 ∧ k_ ≠ gb372 ∧ k_ ≠ gb373) (.slice A2_0 l2_0.length c2_0) l2_0) ∧ Aside0 (Kd.V k47 47 wc w.heap.size (fun k_ => ((P0_0_ k_ ∨ P0_1_ k_ ∨ P1_0_ k_ ∨ P1_1_ k_ ∨ P2_0_ k_ ∨ P2_1_ k_) ∨ w.heap.size ≤ k_) ∧ k_ ≠ gb371 ∧ k_ ≠ gb372 ∧ k_ ≠ gb373) (.slice A2_1 l2_1.length c2_1) l2_1) ∧ Aside0 (wc.heap[gb371]? = some (.cells #[(.slice A0_0 l0_0.length c0_0), (.slice A0_1 l0_1.length c0_1), .int .i64 a0_2, .int .i64 a0_3, .int .i64 a0_4] 37 (0, 0))) ∧ Aside0 (wc.heap[gb372]? = some (.cells #[(.slice A1_0 l1_0.length c1_0), (.slice A1_1 l1_1.length c1_1), .int .i64 a1_2, .int .i64 a1_3, .int .i64 a1_4] 37 (0, 0))) ∧ Aside0 (wc.heap[gb373]? = some (.cells #[(.slice A2_0 l2_0.length c2_0), (.slice A2_1 l2_1.length c2_1), .int .i64 a2_2, .int .i64 a2_3, .int .i64 a2_4] 37 (0, 0))) ∧ Aside0 (Below w.heap.size w wc))
      case first =>
       have H := HC58.out
       clear HC58
       by_cases c59 : (l0_0.length : Int) = (l1_0.length : Int)
       ·
        rw [if_pos c59] at H
        have c59b0 : ((l0_0.length : Int) == (l1_0.length : Int)) = true := beq_iff_eq.mpr c59
        have c59b1 : ((l0_0.length : Int) != (l1_0.length : Int)) = false := bne_eq_false_iff_eq.mpr c59
        have c59b2 : (l0_0.length == l1_0.length) = true := by first | simpa using c59 | (simp at c59 ⊢; omega)
        clear c59
        (first | rw [c59b0] | (simp only [i64_w, i32_w]; rw [c59b0]) | skip)
        have H' := Aside0.mk H
        clear H
        have hnb60 := NB371_372.out
        have hnc60 := NB372_371.out
        have hnb61 := NB371_373.out
        have hnc61 := NB373_371.out
        have hcz62_0 : wc.cell? ⟨gb371, 0, none⟩ = some (.slice A0_0 l0_0.length c0_0) := (blk_cell BK371.out 0).trans rfl
        have hcz62_1 : wc.cell? ⟨gb371, 1, none⟩ = some (.slice A0_1 l0_1.length c0_1) := (blk_cell BK371.out 1).trans rfl
        have hcz62_2 : wc.cell? ⟨gb371, 2, none⟩ = some (.int .i64 a0_2) := (blk_cell BK371.out 2).trans rfl
        have hcz62_3 : wc.cell? ⟨gb371, 3, none⟩ = some (.int .i64 a0_3) := (blk_cell BK371.out 3).trans rfl
        have hcz62_4 : wc.cell? ⟨gb371, 4, none⟩ = some (.int .i64 a0_4) := (blk_cell BK371.out 4).trans rfl
        have hfz62_0 := blk_frozen BK371.out 0
        have hfz62_1 := blk_frozen BK371.out 1
        have hfz62_2 := blk_frozen BK371.out 2
        have hfz62_3 := blk_frozen BK371.out 3
        have hfz62_4 := blk_frozen BK371.out 4
        have hnb63 := NB372_373.out
        have hnc63 := NB373_372.out
        have hcz64_0 : wc.cell? ⟨gb372, 0, none⟩ = some (.slice A1_0 l1_0.length c1_0) := (blk_cell BK372.out 0).trans rfl
        have hcz64_1 : wc.cell? ⟨gb372, 1, none⟩ = some (.slice A1_1 l1_1.length c1_1) := (blk_cell BK372.out 1).trans rfl
        have hcz64_2 : wc.cell? ⟨gb372, 2, none⟩ = some (.int .i64 a1_2) := (blk_cell BK372.out 2).trans rfl
        have hcz64_3 : wc.cell? ⟨gb372, 3, none⟩ = some (.int .i64 a1_3) := (blk_cell BK372.out 3).trans rfl
        have hcz64_4 : wc.cell? ⟨gb372, 4, none⟩ = some (.int .i64 a1_4) := (blk_cell BK372.out 4).trans rfl
        have hfz64_0 := blk_frozen BK372.out 0
        have hfz64_1 := blk_frozen BK372.out 1
        have hfz64_2 := blk_frozen BK372.out 2
        have hfz64_3 := blk_frozen BK372.out 3
        have hfz64_4 := blk_frozen BK372.out 4
        have hcz65_0 : wc.cell? ⟨gb373, 0, none⟩ = some (.slice A2_0 l2_0.length c2_0) := (blk_cell BK373.out 0).trans rfl
        have hcz65_1 : wc.cell? ⟨gb373, 1, none⟩ = some (.slice A2_1 l2_1.length c2_1) := (blk_cell BK373.out 1).trans rfl
        have hcz65_2 : wc.cell? ⟨gb373, 2, none⟩ = some (.int .i64 a2_2) := (blk_cell BK373.out 2).trans rfl
        have hcz65_3 : wc.cell? ⟨gb373, 3, none⟩ = some (.int .i64 a2_3) := (blk_cell BK373.out 3).trans rfl
        have hcz65_4 : wc.cell? ⟨gb373, 4, none⟩ = some (.int .i64 a2_4) := (blk_cell BK373.out 4).trans rfl
        have hfz65_0 := blk_frozen BK373.out 0
        have hfz65_1 := blk_frozen BK373.out 1
        have hfz65_2 := blk_frozen BK373.out 2
        have hfz65_3 := blk_frozen BK373.out 3
        have hfz65_4 := blk_frozen BK373.out 4
        go_wp2
        go_meet
        case rel => exact ⟨_, (((l1_0.length : Int) == (l2_0.length : Int))), (by first | rfl | (simp; done) | (simp [*]; done)), H', ⟨by have := HJ7.out; have := HJ31.out; first | omega | exact Nat.le_refl _⟩, ⟨by (with_reducible repeat (first | apply Kd.V_alloc | apply Kd.V_drewN | apply Kd.V_drew)); exact HO_372000.out⟩, ⟨by (with_reducible repeat (first | apply Kd.V_alloc | apply Kd.V_drewN | apply Kd.V_drew)); exact HO_372001.out⟩, ⟨by (with_reducible repeat (first | apply Kd.V_alloc | apply Kd.V_drewN | apply Kd.V_drew)); exact HO_373000.out⟩, ⟨by (with_reducible repeat (first | apply Kd.V_alloc | apply Kd.V_drewN | apply Kd.V_drew)); exact HO_373001.out⟩, ⟨by (with_reducible repeat (first | apply Kd.V_alloc | apply Kd.V_drewN | apply Kd.V_drew)); exact HO_374000.out⟩, ⟨by (with_reducible repeat (first | apply Kd.V_alloc | apply Kd.V_drewN | apply Kd.V_drew)); exact HO_374001.out⟩, ⟨by (with_reducible repeat (first | refine blk_drewN ?_ _ | refine blk_drew ?_ | refine blk_alloc ?_ _)); exact BK371.out⟩, ⟨by (with_reducible repeat (first | refine blk_drewN ?_ _ | refine blk_drew ?_ | refine blk_alloc ?_ _)); exact BK372.out⟩, ⟨by (with_reducible repeat (first | refine blk_drewN ?_ _ | refine blk_drew ?_ | refine blk_alloc ?_ _)); exact BK373.out⟩, ⟨by repeat (first | (with_reducible first | exact HB.out | apply below_alloc | apply pw_below_drewN | apply below_drew1 | refine below_set ?_ GE371.out | refine below_set ?_ GE372.out | refine below_set ?_ GE373.out) | exact HB.out)⟩⟩
       ·
        rw [if_neg c59] at H
        have c59b0 : ((l0_0.length : Int) == (l1_0.length : Int)) = false := beq_eq_false_iff_ne.mpr c59
        have c59b1 : ((l0_0.length : Int) != (l1_0.length : Int)) = true := bne_iff_ne.mpr c59
        have c59b2 : (l0_0.length == l1_0.length) = false := by first | simpa using c59 | (simp at c59 ⊢; omega)
        (first | rw [c59b0] | (simp only [i64_w, i32_w]; rw [c59b0]) | skip)
        have H' := Aside0.mk H
        clear H
        have hnb66 := NB371_372.out
        have hnc66 := NB372_371.out
        have hnb67 := NB371_373.out
        have hnc67 := NB373_371.out
        have hcz68_0 : wc.cell? ⟨gb371, 0, none⟩ = some (.slice A0_0 l0_0.length c0_0) := (blk_cell BK371.out 0).trans rfl
        have hcz68_1 : wc.cell? ⟨gb371, 1, none⟩ = some (.slice A0_1 l0_1.length c0_1) := (blk_cell BK371.out 1).trans rfl
        have hcz68_2 : wc.cell? ⟨gb371, 2, none⟩ = some (.int .i64 a0_2) := (blk_cell BK371.out 2).trans rfl
        have hcz68_3 : wc.cell? ⟨gb371, 3, none⟩ = some (.int .i64 a0_3) := (blk_cell BK371.out 3).trans rfl
        have hcz68_4 : wc.cell? ⟨gb371, 4, none⟩ = some (.int .i64 a0_4) := (blk_cell BK371.out 4).trans rfl
        have hfz68_0 := blk_frozen BK371.out 0
        have hfz68_1 := blk_frozen BK371.out 1
        have hfz68_2 := blk_frozen BK371.out 2
        have hfz68_3 := blk_frozen BK371.out 3
        have hfz68_4 := blk_frozen BK371.out 4
        have hnb69 := NB372_373.out
        have hnc69 := NB373_372.out
        have hcz70_0 : wc.cell? ⟨gb372, 0, none⟩ = some (.slice A1_0 l1_0.length c1_0) := (blk_cell BK372.out 0).trans rfl
        have hcz70_1 : wc.cell? ⟨gb372, 1, none⟩ = some (.slice A1_1 l1_1.length c1_1) := (blk_cell BK372.out 1).trans rfl
        have hcz70_2 : wc.cell? ⟨gb372, 2, none⟩ = some (.int .i64 a1_2) := (blk_cell BK372.out 2).trans rfl
        have hcz70_3 : wc.cell? ⟨gb372, 3, none⟩ = some (.int .i64 a1_3) := (blk_cell BK372.out 3).trans rfl
        have hcz70_4 : wc.cell? ⟨gb372, 4, none⟩ = some (.int .i64 a1_4) := (blk_cell BK372.out 4).trans rfl
        have hfz70_0 := blk_frozen BK372.out 0
        have hfz70_1 := blk_frozen BK372.out 1
        have hfz70_2 := blk_frozen BK372.out 2
        have hfz70_3 := blk_frozen BK372.out 3
        have hfz70_4 := blk_frozen BK372.out 4
        go_wp2
        go_meet
        case rel => exact ⟨_, (false), (by first | rfl | (simp; done) | (simp [*]; done)), H', ⟨by have := HJ7.out; have := HJ31.out; first | omega | exact Nat.le_refl _⟩, ⟨by (with_reducible repeat (first | apply Kd.V_alloc | apply Kd.V_drewN | apply Kd.V_drew)); exact HO_372000.out⟩, ⟨by (with_reducible repeat (first | apply Kd.V_alloc | apply Kd.V_drewN | apply Kd.V_drew)); exact HO_372001.out⟩, ⟨by (with_reducible repeat (first | apply Kd.V_alloc | apply Kd.V_drewN | apply Kd.V_drew)); exact HO_373000.out⟩, ⟨by (with_reducible repeat (first | apply Kd.V_alloc | apply Kd.V_drewN | apply Kd.V_drew)); exact HO_373001.out⟩, ⟨by (with_reducible repeat (first | apply Kd.V_alloc | apply Kd.V_drewN | apply Kd.V_drew)); exact HO_374000.out⟩, ⟨by (with_reducible repeat (first | apply Kd.V_alloc | apply Kd.V_drewN | apply Kd.V_drew)); exact HO_374001.out⟩, ⟨by (with_reducible repeat (first | refine blk_drewN ?_ _ | refine blk_drew ?_ | refine blk_alloc ?_ _)); exact BK371.out⟩, ⟨by (with_reducible repeat (first | refine blk_drewN ?_ _ | refine blk_drew ?_ | refine blk_alloc ?_ _)); exact BK372.out⟩, ⟨by (with_reducible repeat (first | refine blk_drewN ?_ _ | refine blk_drew ?_ | refine blk_alloc ?_ _)); exact BK373.out⟩, ⟨by repeat (first | (with_reducible first | exact HB.out | apply below_alloc | apply pw_below_drewN | apply below_drew1 | refine below_set ?_ GE371.out | refine below_set ?_ GE372.out | refine below_set ?_ GE373.out) | exact HB.out)⟩⟩
      case rest =>
       clear HC58
       try clear c1
       try clear c2
       try clear p2
       try clear c3
       try clear c4
       try clear c5
       try clear c6
       try clear c12
       try clear c13
       try clear c14
       try clear c17
       try clear c22
       try clear c23
       try clear c24
       try clear c25
       try clear c28
       try clear c29
       try clear c34
       try clear c36
       try clear c38
       try clear c39
       try clear c42
       try clear c47
       try clear c48
       try clear c51
       try clear c54
       try clear c55
       try clear c59
       try clear c59b0
       try clear c59b1
       try clear c59b2
       try clear c60
       try clear c61
       try clear c63
       try clear c66
       try clear c67
       try clear c69
       try clear hcz15_0
       try clear hcz15_1
       try clear hcz15_2
       try clear hcz15_3
       try clear hcz15_4
       try clear hcz18_0
       try clear hcz18_1
       try clear hcz18_2
       try clear hcz18_3
       try clear hcz18_4
       try clear hcz20_0
       try clear hcz20_1
       try clear hcz20_2
       try clear hcz20_3
       try clear hcz20_4
       try clear hcz40_0
       try clear hcz40_1
       try clear hcz40_2
       try clear hcz40_3
       try clear hcz40_4
       try clear hcz43_0
       try clear hcz43_1
       try clear hcz43_2
       try clear hcz43_3
       try clear hcz43_4
       try clear hcz45_0
       try clear hcz45_1
       try clear hcz45_2
       try clear hcz45_3
       try clear hcz45_4
       try clear hcz49_0
       try clear hcz49_1
       try clear hcz49_2
       try clear hcz49_3
       try clear hcz49_4
       try clear hcz52_0
       try clear hcz52_1
       try clear hcz52_2
       try clear hcz52_3
       try clear hcz52_4
       try clear hcz56_0
       try clear hcz56_1
       try clear hcz56_2
       try clear hcz56_3
       try clear hcz56_4
       try clear hcz62_0
       try clear hcz62_1
       try clear hcz62_2
       try clear hcz62_3
       try clear hcz62_4
       try clear hcz64_0
       try clear hcz64_1
       try clear hcz64_2
       try clear hcz64_3
       try clear hcz64_4
       try clear hcz65_0
       try clear hcz65_1
       try clear hcz65_2
       try clear hcz65_3
       try clear hcz65_4
       try clear hcz68_0
       try clear hcz68_1
       try clear hcz68_2
       try clear hcz68_3
       try clear hcz68_4
       try clear hcz70_0
       try clear hcz70_1
       try clear hcz70_2
       try clear hcz70_3
       try clear hcz70_4
       try clear hfz15_0
       try clear hfz15_1
       try clear hfz15_2
       try clear hfz15_3
       try clear hfz15_4
       try clear hfz18_0
       try clear hfz18_1
       try clear hfz18_2
       try clear hfz18_3
       try clear hfz18_4
       try clear hfz20_0
       try clear hfz20_1
       try clear hfz20_2
       try clear hfz20_3
       try clear hfz20_4
       try clear hfz40_0
       try clear hfz40_1
       try clear hfz40_2
       try clear hfz40_3
       try clear hfz40_4
       try clear hfz43_0
       try clear hfz43_1
       try clear hfz43_2
       try clear hfz43_3
       try clear hfz43_4
       try clear hfz45_0
       try clear hfz45_1
       try clear hfz45_2
       try clear hfz45_3
       try clear hfz45_4
       try clear hfz49_0
       try clear hfz49_1
       try clear hfz49_2
       try clear hfz49_3
       try clear hfz49_4
       try clear hfz52_0
       try clear hfz52_1
       try clear hfz52_2
       try clear hfz52_3
       try clear hfz52_4
       try clear hfz56_0
       try clear hfz56_1
       try clear hfz56_2
       try clear hfz56_3
       try clear hfz56_4
       try clear hfz62_0
       try clear hfz62_1
       try clear hfz62_2
       try clear hfz62_3
       try clear hfz62_4
       try clear hfz64_0
       try clear hfz64_1
       try clear hfz64_2
       try clear hfz64_3
       try clear hfz64_4
       try clear hfz65_0
       try clear hfz65_1
       try clear hfz65_2
       try clear hfz65_3
       try clear hfz65_4
       try clear hfz68_0
       try clear hfz68_1
       try clear hfz68_2
       try clear hfz68_3
       try clear hfz68_4
       try clear hfz70_0
       try clear hfz70_1
       try clear hfz70_2
       try clear hfz70_3
       try clear hfz70_4
       try clear p2
       obtain ⟨kq, x12_57, rfl, HA, HJ57, HO_372000, HO_372001, HO_373000, HO_373001, HO_374000, HO_374001, BK371, BK372, BK373, HB⟩ := hcut
       cases kq with
       | zero => exact absurd HA.out (by simp [pelicanlaw14_PlanAll.j2])
       | succ kj57 =>
        have H := HA.out
        clear HA
        simp only [pelicanlaw14_PlanAll.j2] at H
        obtain ⟨y383, hy383⟩ : ∃ y_ : List (S37), y_ = (([(⟨l0_0, l0_1, a0_2, a0_3, a0_4⟩ : S37), (⟨l1_0, l1_1, a1_2, a1_3, a1_4⟩ : S37), (⟨l2_0, l2_1, a2_2, a2_3, a2_4⟩ : S37)] : List (S37))) := ⟨_, rfl⟩
        replace H : ((plan_All.f y383).bind fun t386 => (if x11_31 = true then (if (t386 == x12_57) = true then ((plan_All.f (([(⟨l2_0, l2_1, a2_2, a2_3, a2_4⟩ : S37), (⟨l0_0, l0_1, a0_2, a0_3, a0_4⟩ : S37), (⟨l1_0, l1_1, a1_2, a1_3, a1_4⟩ : S37)] : List (S37)))).bind fun t390 => (if (t390 == x12_57) = true then ((plan_All.f (([(⟨l0_0, l0_1, a0_2, a0_3, a0_4⟩ : S37)] : List (S37)))).bind fun t394 => ((plan_Fit.f kj57 l0_0 l0_1 a0_2 a0_3 a0_4).bind fun t395 => (if (t394 == t395) = true then ((plan_All.f (([(⟨l0_0, l0_1, a0_2, a0_3, a0_4⟩ : S37), (⟨l1_0, l1_1, a1_2, a1_3, a1_4⟩ : S37), (⟨l2_0, l2_1, a2_2, a2_3, a2_4⟩ : S37), (⟨l0_0, l0_1, a0_2, a0_3, a0_4⟩ : S37)] : List (S37)))).bind fun t399 => (some (!t399))) else (some false)))) else (some false))) else (some false)) else (if (t386 == false) = true then ((plan_All.f (([(⟨l2_0, l2_1, a2_2, a2_3, a2_4⟩ : S37), (⟨l0_0, l0_1, a0_2, a0_3, a0_4⟩ : S37), (⟨l1_0, l1_1, a1_2, a1_3, a1_4⟩ : S37)] : List (S37)))).bind fun t403 => (if (t403 == false) = true then ((plan_All.f (([(⟨l0_0, l0_1, a0_2, a0_3, a0_4⟩ : S37)] : List (S37)))).bind fun t407 => ((plan_Fit.f kj57 l0_0 l0_1 a0_2 a0_3 a0_4).bind fun t408 => (if (t407 == t408) = true then ((plan_All.f (([(⟨l0_0, l0_1, a0_2, a0_3, a0_4⟩ : S37), (⟨l1_0, l1_1, a1_2, a1_3, a1_4⟩ : S37), (⟨l2_0, l2_1, a2_2, a2_3, a2_4⟩ : S37), (⟨l0_0, l0_1, a0_2, a0_3, a0_4⟩ : S37)] : List (S37)))).bind fun t412 => (some (!t412))) else (some false)))) else (some false))) else (some false)))) = some r := by first | (rw [hy383]; with_reducible exact H) | (have H2_ := (Option.bind_some _ _).symm.trans H; rw [hy383]; with_reducible exact H2_) | (have H2_ := (Option.bind_some _ _).symm.trans H; with_reducible exact H2_) | with_reducible exact H | (rw [hy383]; exact H) | exact H
        have Ny383 := Aside0.mk hy383
        clear hy383
        replace H := Option.bind_eq_some_iff.mp H
        obtain ⟨t386, A710, H⟩ := H
        replace H : (if x11_31 = true then (if (t386 == x12_57) = true then ((plan_All.f (([(⟨l2_0, l2_1, a2_2, a2_3, a2_4⟩ : S37), (⟨l0_0, l0_1, a0_2, a0_3, a0_4⟩ : S37), (⟨l1_0, l1_1, a1_2, a1_3, a1_4⟩ : S37)] : List (S37)))).bind fun t390 => (if (t390 == x12_57) = true then ((plan_All.f (([(⟨l0_0, l0_1, a0_2, a0_3, a0_4⟩ : S37)] : List (S37)))).bind fun t394 => ((plan_Fit.f kj57 l0_0 l0_1 a0_2 a0_3 a0_4).bind fun t395 => (if (t394 == t395) = true then ((plan_All.f (([(⟨l0_0, l0_1, a0_2, a0_3, a0_4⟩ : S37), (⟨l1_0, l1_1, a1_2, a1_3, a1_4⟩ : S37), (⟨l2_0, l2_1, a2_2, a2_3, a2_4⟩ : S37), (⟨l0_0, l0_1, a0_2, a0_3, a0_4⟩ : S37)] : List (S37)))).bind fun t399 => (some (!t399))) else (some false)))) else (some false))) else (some false)) else (if (t386 == false) = true then ((plan_All.f (([(⟨l2_0, l2_1, a2_2, a2_3, a2_4⟩ : S37), (⟨l0_0, l0_1, a0_2, a0_3, a0_4⟩ : S37), (⟨l1_0, l1_1, a1_2, a1_3, a1_4⟩ : S37)] : List (S37)))).bind fun t403 => (if (t403 == false) = true then ((plan_All.f (([(⟨l0_0, l0_1, a0_2, a0_3, a0_4⟩ : S37)] : List (S37)))).bind fun t407 => ((plan_Fit.f kj57 l0_0 l0_1 a0_2 a0_3 a0_4).bind fun t408 => (if (t407 == t408) = true then ((plan_All.f (([(⟨l0_0, l0_1, a0_2, a0_3, a0_4⟩ : S37), (⟨l1_0, l1_1, a1_2, a1_3, a1_4⟩ : S37), (⟨l2_0, l2_1, a2_2, a2_3, a2_4⟩ : S37), (⟨l0_0, l0_1, a0_2, a0_3, a0_4⟩ : S37)] : List (S37)))).bind fun t412 => (some (!t412))) else (some false)))) else (some false))) else (some false))) = some r := H
        have A71 := Aside0.mk A710
        clear A710
        by_cases c72 : x11_31 = true
        ·
         subst c72
         have H1 : (if (t386 == x12_57) = true then ((plan_All.f (([(⟨l2_0, l2_1, a2_2, a2_3, a2_4⟩ : S37), (⟨l0_0, l0_1, a0_2, a0_3, a0_4⟩ : S37), (⟨l1_0, l1_1, a1_2, a1_3, a1_4⟩ : S37)] : List (S37)))).bind fun t390 => (if (t390 == x12_57) = true then ((plan_All.f (([(⟨l0_0, l0_1, a0_2, a0_3, a0_4⟩ : S37)] : List (S37)))).bind fun t394 => ((plan_Fit.f kj57 l0_0 l0_1 a0_2 a0_3 a0_4).bind fun t395 => (if (t394 == t395) = true then ((plan_All.f (([(⟨l0_0, l0_1, a0_2, a0_3, a0_4⟩ : S37), (⟨l1_0, l1_1, a1_2, a1_3, a1_4⟩ : S37), (⟨l2_0, l2_1, a2_2, a2_3, a2_4⟩ : S37), (⟨l0_0, l0_1, a0_2, a0_3, a0_4⟩ : S37)] : List (S37)))).bind fun t399 => (some (!t399))) else (some false)))) else (some false))) else (some false)) = some r := by rw [if_pos rfl] at H; exact H
         clear H
         have H := H1
         clear H1
         by_cases c73 : (t386 == x12_57) = true
         ·
          rw [if_pos c73] at H
          have c73b0 : (t386 == x12_57) = true := c73
          (try (have c73b1 : decide (t386 = x12_57) = true := by simpa using c73))
          (try (have c73b2 : (t386 == x12_57) = true := by simpa using c73))
          clear c73
          obtain ⟨y387, hy387⟩ : ∃ y_ : List (S37), y_ = (([(⟨l2_0, l2_1, a2_2, a2_3, a2_4⟩ : S37), (⟨l0_0, l0_1, a0_2, a0_3, a0_4⟩ : S37), (⟨l1_0, l1_1, a1_2, a1_3, a1_4⟩ : S37)] : List (S37))) := ⟨_, rfl⟩
          replace H : ((plan_All.f y387).bind fun t390 => (if (t390 == x12_57) = true then ((plan_All.f (([(⟨l0_0, l0_1, a0_2, a0_3, a0_4⟩ : S37)] : List (S37)))).bind fun t394 => ((plan_Fit.f kj57 l0_0 l0_1 a0_2 a0_3 a0_4).bind fun t395 => (if (t394 == t395) = true then ((plan_All.f (([(⟨l0_0, l0_1, a0_2, a0_3, a0_4⟩ : S37), (⟨l1_0, l1_1, a1_2, a1_3, a1_4⟩ : S37), (⟨l2_0, l2_1, a2_2, a2_3, a2_4⟩ : S37), (⟨l0_0, l0_1, a0_2, a0_3, a0_4⟩ : S37)] : List (S37)))).bind fun t399 => (some (!t399))) else (some false)))) else (some false))) = some r := by first | (rw [hy387]; with_reducible exact H) | (have H2_ := (Option.bind_some _ _).symm.trans H; rw [hy387]; with_reducible exact H2_) | (have H2_ := (Option.bind_some _ _).symm.trans H; with_reducible exact H2_) | with_reducible exact H | (rw [hy387]; exact H) | exact H
          have Ny387 := Aside0.mk hy387
          clear hy387
          replace H := Option.bind_eq_some_iff.mp H
          obtain ⟨t390, A740, H⟩ := H
          replace H : (if (t390 == x12_57) = true then ((plan_All.f (([(⟨l0_0, l0_1, a0_2, a0_3, a0_4⟩ : S37)] : List (S37)))).bind fun t394 => ((plan_Fit.f kj57 l0_0 l0_1 a0_2 a0_3 a0_4).bind fun t395 => (if (t394 == t395) = true then ((plan_All.f (([(⟨l0_0, l0_1, a0_2, a0_3, a0_4⟩ : S37), (⟨l1_0, l1_1, a1_2, a1_3, a1_4⟩ : S37), (⟨l2_0, l2_1, a2_2, a2_3, a2_4⟩ : S37), (⟨l0_0, l0_1, a0_2, a0_3, a0_4⟩ : S37)] : List (S37)))).bind fun t399 => (some (!t399))) else (some false)))) else (some false)) = some r := H
          have A74 := Aside0.mk A740
          clear A740
          by_cases c75 : (t390 == x12_57) = true
          ·
           rw [if_pos c75] at H
           have c75b0 : (t390 == x12_57) = true := c75
           (try (have c75b1 : decide (t390 = x12_57) = true := by simpa using c75))
           (try (have c75b2 : (t390 == x12_57) = true := by simpa using c75))
           clear c75
           obtain ⟨y391, hy391⟩ : ∃ y_ : List (S37), y_ = (([(⟨l0_0, l0_1, a0_2, a0_3, a0_4⟩ : S37)] : List (S37))) := ⟨_, rfl⟩
           replace H : ((plan_All.f y391).bind fun t394 => ((plan_Fit.f kj57 l0_0 l0_1 a0_2 a0_3 a0_4).bind fun t395 => (if (t394 == t395) = true then ((plan_All.f (([(⟨l0_0, l0_1, a0_2, a0_3, a0_4⟩ : S37), (⟨l1_0, l1_1, a1_2, a1_3, a1_4⟩ : S37), (⟨l2_0, l2_1, a2_2, a2_3, a2_4⟩ : S37), (⟨l0_0, l0_1, a0_2, a0_3, a0_4⟩ : S37)] : List (S37)))).bind fun t399 => (some (!t399))) else (some false)))) = some r := by first | (rw [hy391]; with_reducible exact H) | (have H2_ := (Option.bind_some _ _).symm.trans H; rw [hy391]; with_reducible exact H2_) | (have H2_ := (Option.bind_some _ _).symm.trans H; with_reducible exact H2_) | with_reducible exact H | (rw [hy391]; exact H) | exact H
           have Ny391 := Aside0.mk hy391
           clear hy391
           replace H := Option.bind_eq_some_iff.mp H
           obtain ⟨t394, A760, H⟩ := H
           replace H : ((plan_Fit.f kj57 l0_0 l0_1 a0_2 a0_3 a0_4).bind fun t395 => (if (t394 == t395) = true then ((plan_All.f (([(⟨l0_0, l0_1, a0_2, a0_3, a0_4⟩ : S37), (⟨l1_0, l1_1, a1_2, a1_3, a1_4⟩ : S37), (⟨l2_0, l2_1, a2_2, a2_3, a2_4⟩ : S37), (⟨l0_0, l0_1, a0_2, a0_3, a0_4⟩ : S37)] : List (S37)))).bind fun t399 => (some (!t399))) else (some false))) = some r := H
           have A76 := Aside0.mk A760
           clear A760
           replace H := Option.bind_eq_some_iff.mp H
           obtain ⟨t395, A770, H⟩ := H
           replace H : (if (t394 == t395) = true then ((plan_All.f (([(⟨l0_0, l0_1, a0_2, a0_3, a0_4⟩ : S37), (⟨l1_0, l1_1, a1_2, a1_3, a1_4⟩ : S37), (⟨l2_0, l2_1, a2_2, a2_3, a2_4⟩ : S37), (⟨l0_0, l0_1, a0_2, a0_3, a0_4⟩ : S37)] : List (S37)))).bind fun t399 => (some (!t399))) else (some false)) = some r := H
           have A77 := Aside0.mk A770
           clear A770
           by_cases c78 : (t394 == t395) = true
           ·
            rw [if_pos c78] at H
            have c78b0 : (t394 == t395) = true := c78
            (try (have c78b1 : decide (t394 = t395) = true := by simpa using c78))
            (try (have c78b2 : (t394 == t395) = true := by simpa using c78))
            clear c78
            obtain ⟨y396, hy396⟩ : ∃ y_ : List (S37), y_ = (([(⟨l0_0, l0_1, a0_2, a0_3, a0_4⟩ : S37), (⟨l1_0, l1_1, a1_2, a1_3, a1_4⟩ : S37), (⟨l2_0, l2_1, a2_2, a2_3, a2_4⟩ : S37), (⟨l0_0, l0_1, a0_2, a0_3, a0_4⟩ : S37)] : List (S37))) := ⟨_, rfl⟩
            replace H : ((plan_All.f y396).bind fun t399 => (some (!t399))) = some r := by first | (rw [hy396]; with_reducible exact H) | (have H2_ := (Option.bind_some _ _).symm.trans H; rw [hy396]; with_reducible exact H2_) | (have H2_ := (Option.bind_some _ _).symm.trans H; with_reducible exact H2_) | with_reducible exact H | (rw [hy396]; exact H) | exact H
            have Ny396 := Aside0.mk hy396
            clear hy396
            replace H := Option.bind_eq_some_iff.mp H
            obtain ⟨t399, A790, H⟩ := H
            replace H : (some (!t399)) = some r := H
            have A79 := Aside0.mk A790
            clear A790
            obtain rfl := Option.some.inj H
            try go_wp2
            have n0_ := Aside0.mk (Kd.V_drew HO_372000.out)
            have n1_ := Aside0.mk (Kd.V_drew HO_372001.out)
            have n2_ := Aside0.mk (Kd.V_drew HO_373000.out)
            have n3_ := Aside0.mk (Kd.V_drew HO_373001.out)
            have n4_ := Aside0.mk (Kd.V_drew HO_374000.out)
            have n5_ := Aside0.mk (Kd.V_drew HO_374001.out)
            have n6_ := Aside0.mk (blk_drew BK371.out)
            have n7_ := Aside0.mk (blk_drew BK372.out)
            have n8_ := Aside0.mk (blk_drew BK373.out)
            have n9_ := Aside0.mk (below_drew1 HB.out)
            clear HO_372000 HO_372001 HO_373000 HO_373001 HO_374000 HO_374001 BK371 BK372 BK373 HB
            have HO_372000 := n0_
            have HO_372001 := n1_
            have HO_373000 := n2_
            have HO_373001 := n3_
            have HO_374000 := n4_
            have HO_374001 := n5_
            have BK371 := n6_
            have BK372 := n7_
            have BK373 := n8_
            have HB := n9_
            clear n0_ n1_ n2_ n3_ n4_ n5_ n6_ n7_ n8_ n9_
            refine start_ (n := 40) (S := fun w' => w'.cell? ⟨gb371, 0, none⟩ = some (.slice A0_0 l0_0.length c0_0) ∧ w'.cell? ⟨gb371, 1, none⟩ = some (.slice A0_1 l0_1.length c0_1) ∧ w'.cell? ⟨gb371, 2, none⟩ = some (.int .i64 a0_2) ∧ w'.cell? ⟨gb371, 3, none⟩ = some (.int .i64 a0_3) ∧ w'.cell? ⟨gb371, 4, none⟩ = some (.int .i64 a0_4) ∧ w'.cell? ⟨gb372, 0, none⟩ = some (.slice A1_0 l1_0.length c1_0) ∧ w'.cell? ⟨gb372, 1, none⟩ = some (.slice A1_1 l1_1.length c1_1) ∧ w'.cell? ⟨gb372, 2, none⟩ = some (.int .i64 a1_2) ∧ w'.cell? ⟨gb372, 3, none⟩ = some (.int .i64 a1_3) ∧ w'.cell? ⟨gb372, 4, none⟩ = some (.int .i64 a1_4) ∧ w'.cell? ⟨gb373, 0, none⟩ = some (.slice A2_0 l2_0.length c2_0) ∧ w'.cell? ⟨gb373, 1, none⟩ = some (.slice A2_1 l2_1.length c2_1) ∧ w'.cell? ⟨gb373, 2, none⟩ = some (.int .i64 a2_2) ∧ w'.cell? ⟨gb373, 3, none⟩ = some (.int .i64 a2_3) ∧ w'.cell? ⟨gb373, 4, none⟩ = some (.int .i64 a2_4)) (ds := []) #[false, false, false, false, false, false, false, false, false, false, false, false, false, false, false, false, false, false, false, false, false, false, false, false, false, false, false, false, false, false, false, false, false, false, false, false, false, false, false, false] (by kernel_rfl) rfl rfl ⟨(blk_cell BK371.out 0).trans rfl, (blk_cell BK371.out 1).trans rfl, (blk_cell BK371.out 2).trans rfl, (blk_cell BK371.out 3).trans rfl, (blk_cell BK371.out 4).trans rfl, (blk_cell BK372.out 0).trans rfl, (blk_cell BK372.out 1).trans rfl, (blk_cell BK372.out 2).trans rfl, (blk_cell BK372.out 3).trans rfl, (blk_cell BK372.out 4).trans rfl, (blk_cell BK373.out 0).trans rfl, (blk_cell BK373.out 1).trans rfl, (blk_cell BK373.out 2).trans rfl, (blk_cell BK373.out 3).trans rfl, (blk_cell BK373.out 4).trans rfl⟩ (fun hHeld => ?_); refine with_tabW pelicanlaw14_PlanAll.tab9 pelicanlaw14_PlanAll.bits9 (fun HT_ HW_ => ?_)
            generalize wc.drew = w80 at HO_372000 HO_372001 HO_373000 HO_373001 HO_374000 HO_374001 BK371 BK372 BK373 HB hHeld ⊢
            refine pure_ (i := 5) (N := some 73) (v := ?_) (a' := ?_) #[false, false, false, false, false, true, false, false, false, false, false, false, false, false, false, false, false, false, false, false, false, false, false, false, false, false, false, false, false, false, false, false, false, false, false, false, false, false, false, false] rfl rfl (any_of HT_.out (by kernel_rfl)) (fun _ _ _ h => h) (Or.inl ⟨by rfl, ?_⟩) ?_ ?_
            rotate_left
            ·
             intro w'
             go_simp
             with_reducible rfl
            rotate_left
            ·
             simp only [Act.put, List.setIfInBounds_toArray, List.set_cons_zero, List.set_cons_succ, i64_w, i32_w]
             rfl
            refine take_ (i := 0) (N := some 68) (v := ?_) (a' := ?_) #[true, false, false, false, false, true, false, false, false, false, false, false, false, false, false, false, false, false, false, false, false, false, false, false, false, false, false, false, false, false, false, false, false, false, false, false, false, false, false, false] rfl rfl (take_ofW HT_.out HW_.out (by kernel_rfl)) (fun _ _ _ h => h) (Or.inl ⟨by rfl, ?_⟩) hHeld ?_ ?_
            rotate_left
            ·
             rintro w' ⟨s0, s1, s2, s3, s4, s5, s6, s7, s8, s9, s10, s11, s12, s13, s14⟩
             go_simp
             with_reducible rfl
            rotate_left
            ·
             simp only [Act.put, List.setIfInBounds_toArray, List.set_cons_zero, List.set_cons_succ, i64_w, i32_w]
             rfl
            refine take_ (i := 1) (N := some 69) (v := ?_) (a' := ?_) #[true, true, false, false, false, true, false, false, false, false, false, false, false, false, false, false, false, false, false, false, false, false, false, false, false, false, false, false, false, false, false, false, false, false, false, false, false, false, false, false] rfl rfl (take_ofW HT_.out HW_.out (by kernel_rfl)) (fun _ _ _ h => h) (Or.inl ⟨by rfl, ?_⟩) hHeld ?_ ?_
            rotate_left
            ·
             rintro w' ⟨s0, s1, s2, s3, s4, s5, s6, s7, s8, s9, s10, s11, s12, s13, s14⟩
             go_simp
             with_reducible rfl
            rotate_left
            ·
             simp only [Act.put, List.setIfInBounds_toArray, List.set_cons_zero, List.set_cons_succ, i64_w, i32_w]
             rfl
            refine take_ (i := 2) (N := some 70) (v := ?_) (a' := ?_) #[true, true, true, false, false, true, false, false, false, false, false, false, false, false, false, false, false, false, false, false, false, false, false, false, false, false, false, false, false, false, false, false, false, false, false, false, false, false, false, false] rfl rfl (take_ofW HT_.out HW_.out (by kernel_rfl)) (fun _ _ _ h => h) (Or.inl ⟨by rfl, ?_⟩) hHeld ?_ ?_
            rotate_left
            ·
             rintro w' ⟨s0, s1, s2, s3, s4, s5, s6, s7, s8, s9, s10, s11, s12, s13, s14⟩
             go_simp
             with_reducible rfl
            rotate_left
            ·
             simp only [Act.put, List.setIfInBounds_toArray, List.set_cons_zero, List.set_cons_succ, i64_w, i32_w]
             rfl
            refine one_ (i := 3) (N := some 71) #[true, true, true, true, false, true, false, false, false, false, false, false, false, false, false, false, false, false, false, false, false, false, false, false, false, false, false, false, false, false, false, false, false, false, false, false, false, false, false, false] rfl rfl (one_of HT_.out (by kernel_rfl)) (by decide) (fun K hK => ?_)
            refine Kd.N_lit_step k37 _ 37 ?hg (N' := 71) ?hd (xs := ([(⟨l0_0, l0_1, a0_2, a0_3, a0_4⟩ : S37), (⟨l1_0, l1_1, a1_2, a1_3, a1_4⟩ : S37), (⟨l2_0, l2_1, a2_2, a2_3, a2_4⟩ : S37)] : List (S37))) (inner := [.slice A0_0 l0_0.length c0_0, .slice A0_1 l0_1.length c0_1, .int .i64 a0_2, .int .i64 a0_3, .int .i64 a0_4, .slice A1_0 l1_0.length c1_0, .slice A1_1 l1_1.length c1_1, .int .i64 a1_2, .int .i64 a1_3, .int .i64 a1_4, .slice A2_0 l2_0.length c2_0, .slice A2_1 l2_1.length c2_1, .int .i64 a2_2, .int .i64 a2_3, .int .i64 a2_4]) (ok := (fun k_ => ((P0_0_ k_ ∨ P0_1_ k_ ∨ P1_0_ k_ ∨ P1_1_ k_ ∨ P2_0_ k_ ∨ P2_1_ k_) ∨ w.heap.size ≤ k_) ∧ k_ ≠ gb371 ∧ k_ ≠ gb372 ∧ k_ ≠ gb373)) (okp := (fun k_ => ((P0_0_ k_ ∨ P0_1_ k_ ∨ P1_0_ k_ ∨ P1_1_ k_ ∨ P2_0_ k_ ∨ P2_1_ k_) ∨ w.heap.size ≤ k_) ∧ k_ ≠ gb371 ∧ k_ ≠ gb372 ∧ k_ ≠ gb373)) ?hr ?hp (fun _ hk => hk) ((show ∀ k_, w80.heap.size ≤ k_ → (fun k_ => ((P0_0_ k_ ∨ P0_1_ k_ ∨ P1_0_ k_ ∨ P1_1_ k_ ∨ P2_0_ k_ ∨ P2_1_ k_) ∨ w.heap.size ≤ k_) ∧ k_ ≠ gb371 ∧ k_ ≠ gb372 ∧ k_ ≠ gb373) k_ from fun k_ hk => ⟨(.inr (Nat.le_trans (below_size (upH HB.out)) hk)), Kd.freshB (g := gb371) (o := .cells #[.slice A0_0 l0_0.length c0_0, .slice A0_1 l0_1.length c0_1, .int .i64 a0_2, .int .i64 a0_3, .int .i64 a0_4] 37 (0, 0)) (upB BK371.out) k_ hk, Kd.freshB (g := gb372) (o := .cells #[.slice A1_0 l1_0.length c1_0, .slice A1_1 l1_1.length c1_1, .int .i64 a1_2, .int .i64 a1_3, .int .i64 a1_4] 37 (0, 0)) (upB BK372.out) k_ hk, Kd.freshB (g := gb373) (o := .cells #[.slice A2_0 l2_0.length c2_0, .slice A2_1 l2_1.length c2_1, .int .i64 a2_2, .int .i64 a2_3, .int .i64 a2_4] 37 (0, 0)) (upB BK373.out) k_ hk⟩) _ (Nat.le_refl _)) (Below.refl _ _) (Nat.le_refl _) (by simp) ?_; (case hd => rfl); (case hg => rfl); (case hr => first | (go_simp; done) | (go_simp; rfl)); (case hp => exact (Reps.c5 (show Kd.FK k37 _ _ (⟨l0_0, l0_1, a0_2, a0_3, a0_4⟩ : S37) [.slice A0_0 l0_0.length c0_0, .slice A0_1 l0_1.length c0_1, .int .i64 a0_2, .int .i64 a0_3, .int .i64 a0_4] from (k37_mkF _ _ (⟨l0_0, l0_1, a0_2, a0_3, a0_4⟩ : S37) (Kd.V_reads' HO_372000.out).2.1 (Kd.V_F HO_372000.out) (Kd.V_reads' HO_372001.out).2.1 (Kd.V_F HO_372001.out))) (Reps.c5 (show Kd.FK k37 _ _ (⟨l1_0, l1_1, a1_2, a1_3, a1_4⟩ : S37) [.slice A1_0 l1_0.length c1_0, .slice A1_1 l1_1.length c1_1, .int .i64 a1_2, .int .i64 a1_3, .int .i64 a1_4] from (k37_mkF _ _ (⟨l1_0, l1_1, a1_2, a1_3, a1_4⟩ : S37) (Kd.V_reads' HO_373000.out).2.1 (Kd.V_F HO_373000.out) (Kd.V_reads' HO_373001.out).2.1 (Kd.V_F HO_373001.out))) (Reps.c5 (show Kd.FK k37 _ _ (⟨l2_0, l2_1, a2_2, a2_3, a2_4⟩ : S37) [.slice A2_0 l2_0.length c2_0, .slice A2_1 l2_1.length c2_1, .int .i64 a2_2, .int .i64 a2_3, .int .i64 a2_4] from (k37_mkF _ _ (⟨l2_0, l2_1, a2_2, a2_3, a2_4⟩ : S37) (Kd.V_reads' HO_374000.out).2.1 (Kd.V_F HO_374000.out) (Kd.V_reads' HO_374001.out).2.1 (Kd.V_F HO_374001.out))) (Reps.none _ _)))))
            intro v384 w81 ho82 hb hg_ hnew_
            clear hg_ hnew_
            (first | rw [← Ny383.out] at ho82 | (simp only [Int.reduceToNat] at ho82; rw [← Ny383.out] at ho82))
            have n0_ := Aside0.mk (Kd.V_elder' (upV HO_372000.out) (Kd.N_base ho82) hb)
            have n1_ := Aside0.mk (Kd.V_elder' (upV HO_372001.out) (Kd.N_base ho82) hb)
            have n2_ := Aside0.mk (Kd.V_elder' (upV HO_373000.out) (Kd.N_base ho82) hb)
            have n3_ := Aside0.mk (Kd.V_elder' (upV HO_373001.out) (Kd.N_base ho82) hb)
            have n4_ := Aside0.mk (Kd.V_elder' (upV HO_374000.out) (Kd.N_base ho82) hb)
            have n5_ := Aside0.mk (Kd.V_elder' (upV HO_374001.out) (Kd.N_base ho82) hb)
            have n6_ := Aside0.mk (Kd.N_lower ho82 (below_size (upH HB.out)))
            have n7_ := Aside0.mk (blk_below (g := gb371) (o := .cells #[.slice A0_0 l0_0.length c0_0, .slice A0_1 l0_1.length c0_1, .int .i64 a0_2, .int .i64 a0_3, .int .i64 a0_4] 37 (0, 0)) (upB BK371.out) hb)
            have n8_ := Aside0.mk (blk_below (g := gb372) (o := .cells #[.slice A1_0 l1_0.length c1_0, .slice A1_1 l1_1.length c1_1, .int .i64 a1_2, .int .i64 a1_3, .int .i64 a1_4] 37 (0, 0)) (upB BK372.out) hb)
            have n9_ := Aside0.mk (blk_below (g := gb373) (o := .cells #[.slice A2_0 l2_0.length c2_0, .slice A2_1 l2_1.length c2_1, .int .i64 a2_2, .int .i64 a2_3, .int .i64 a2_4] 37 (0, 0)) (upB BK373.out) hb)
            have n10_ := Aside0.mk (below_step (upH HB.out) hb)
            clear HO_372000 HO_372001 HO_373000 HO_373001 HO_374000 HO_374001 BK371 BK372 BK373 HB
            have HO_372000 := n0_
            have HO_372001 := n1_
            have HO_373000 := n2_
            have HO_373001 := n3_
            have HO_374000 := n4_
            have HO_374001 := n5_
            have HO385 := n6_
            have BK371 := n7_
            have BK372 := n8_
            have BK373 := n9_
            have HB := n10_
            clear n0_ n1_ n2_ n3_ n4_ n5_ n6_ n7_ n8_ n9_ n10_
            clear hb ho82
            obtain ⟨Ao83, co83, eo83⟩ := Kd.N_slice HO385.out
            (first | subst eo83 | (injection eo83 with f1_ f2_ f3_; have f4_ := f1_.symm; have f5_ := f3_.symm; clear f1_ f2_ f3_; subst f4_; subst f5_))
            refine hK.out _ _ ⟨(blk_cell BK371.out 0).trans rfl, (blk_cell BK371.out 1).trans rfl, (blk_cell BK371.out 2).trans rfl, (blk_cell BK371.out 3).trans rfl, (blk_cell BK371.out 4).trans rfl, (blk_cell BK372.out 0).trans rfl, (blk_cell BK372.out 1).trans rfl, (blk_cell BK372.out 2).trans rfl, (blk_cell BK372.out 3).trans rfl, (blk_cell BK372.out 4).trans rfl, (blk_cell BK373.out 0).trans rfl, (blk_cell BK373.out 1).trans rfl, (blk_cell BK373.out 2).trans rfl, (blk_cell BK373.out 3).trans rfl, (blk_cell BK373.out 4).trans rfl⟩ (fun hHeld => ?_)
            clear hK K
            refine norm_ (a' := ?_) ?_ ?_
            rotate_left
            ·
             show Act.put _ (some 71) _ = _
             simp only [Act.put, List.setIfInBounds_toArray, List.set_cons_zero, List.set_cons_succ, i64_w, i32_w]
             rfl
            refine one_ (i := 4) (N := some 72) #[true, true, true, true, true, true, false, false, false, false, false, false, false, false, false, false, false, false, false, false, false, false, false, false, false, false, false, false, false, false, false, false, false, false, false, false, false, false, false, false] rfl rfl (one_of HT_.out (by kernel_rfl)) (by decide) (fun K hK => ?_)
            refine goes_ Tryd.func35 (by kernel_rfl) rfl #[.slice Ao83 y383.length co83] (by rfl) rfl rfl (by (try simp only [List.map_toArray, List.map_cons, List.map_nil]); first | done | rfl | (simp only [List.length_drop, List.length_take]; rfl)) ?_
            with_reducible refine (plan_All.calls _ _ y383 t386 _ ?side1 ?side2 ?side3 A71.out).mono ?_
            (case side1 => repeat (first | exact (Kd.N_reads' HO385.out).2.2 | (with_reducible refine Kd.C_alloc ?_ _) | (with_reducible refine Kd.C_drewN ?_ _) | (with_reducible refine Kd.C_drew ?_)))
            (case side2 => exact (Kd.N_reads' HO385.out).2.1)
            (case side3 => first | (with_reducible exact HG.out) | (refine GlobOk.below HG.out ?_; repeat (first | (with_reducible first | exact HB.out | apply below_alloc | apply pw_below_drewN | apply below_drew1 | refine below_set ?_ GE371.out | refine below_set ?_ GE372.out | refine below_set ?_ GE373.out) | exact HB.out)))
            rintro e w84 ⟨rfl, hb⟩
            refine ⟨_, rfl, ?_⟩
            have n0_ := Aside0.mk (Kd.V_below (upV HO_372000.out) hb)
            have n1_ := Aside0.mk (Kd.V_below (upV HO_372001.out) hb)
            have n2_ := Aside0.mk (Kd.V_below (upV HO_373000.out) hb)
            have n3_ := Aside0.mk (Kd.V_below (upV HO_373001.out) hb)
            have n4_ := Aside0.mk (Kd.V_below (upV HO_374000.out) hb)
            have n5_ := Aside0.mk (Kd.V_below (upV HO_374001.out) hb)
            have n6_ := Aside0.mk (Kd.N_below (upN HO385.out) hb)
            have n7_ := Aside0.mk (blk_below (g := gb371) (o := .cells #[.slice A0_0 l0_0.length c0_0, .slice A0_1 l0_1.length c0_1, .int .i64 a0_2, .int .i64 a0_3, .int .i64 a0_4] 37 (0, 0)) (upB BK371.out) hb)
            have n8_ := Aside0.mk (blk_below (g := gb372) (o := .cells #[.slice A1_0 l1_0.length c1_0, .slice A1_1 l1_1.length c1_1, .int .i64 a1_2, .int .i64 a1_3, .int .i64 a1_4] 37 (0, 0)) (upB BK372.out) hb)
            have n9_ := Aside0.mk (blk_below (g := gb373) (o := .cells #[.slice A2_0 l2_0.length c2_0, .slice A2_1 l2_1.length c2_1, .int .i64 a2_2, .int .i64 a2_3, .int .i64 a2_4] 37 (0, 0)) (upB BK373.out) hb)
            have n10_ := Aside0.mk (below_step (upH HB.out) hb)
            clear HO_372000 HO_372001 HO_373000 HO_373001 HO_374000 HO_374001 HO385 BK371 BK372 BK373 HB
            have HO_372000 := n0_
            have HO_372001 := n1_
            have HO_373000 := n2_
            have HO_373001 := n3_
            have HO_374000 := n4_
            have HO_374001 := n5_
            have HO385 := n6_
            have BK371 := n7_
            have BK372 := n8_
            have BK373 := n9_
            have HB := n10_
            clear n0_ n1_ n2_ n3_ n4_ n5_ n6_ n7_ n8_ n9_ n10_
            (try clear hb)
            (try clear hb2)
            (try clear hk)
            (try clear hi)
            refine hK.out _ _ ⟨(blk_cell BK371.out 0).trans rfl, (blk_cell BK371.out 1).trans rfl, (blk_cell BK371.out 2).trans rfl, (blk_cell BK371.out 3).trans rfl, (blk_cell BK371.out 4).trans rfl, (blk_cell BK372.out 0).trans rfl, (blk_cell BK372.out 1).trans rfl, (blk_cell BK372.out 2).trans rfl, (blk_cell BK372.out 3).trans rfl, (blk_cell BK372.out 4).trans rfl, (blk_cell BK373.out 0).trans rfl, (blk_cell BK373.out 1).trans rfl, (blk_cell BK373.out 2).trans rfl, (blk_cell BK373.out 3).trans rfl, (blk_cell BK373.out 4).trans rfl⟩ (fun hHeld => ?_)
            clear hK K
            refine norm_ (a' := ?_) ?_ ?_
            rotate_left
            ·
             show Act.put _ (some 72) _ = _
             simp only [Act.put, List.setIfInBounds_toArray, List.set_cons_zero, List.set_cons_succ, i64_w, i32_w]
             rfl
            refine pure_ (i := 6) (N := some 74) (v := ?_) (a' := ?_) #[true, true, true, true, true, true, true, false, false, false, false, false, false, false, false, false, false, false, false, false, false, false, false, false, false, false, false, false, false, false, false, false, false, false, false, false, false, false, false, false] rfl rfl (any_of HT_.out (by kernel_rfl)) (fun _ _ _ h => h) (Or.inl ⟨by rfl, ?_⟩) ?_ ?_
            rotate_left
            ·
             intro w'
             go_simp
             with_reducible rfl
            rotate_left
            ·
             simp only [Act.put, List.setIfInBounds_toArray, List.set_cons_zero, List.set_cons_succ, i64_w, i32_w]
             rfl
            refine pure_ (i := 7) (N := some 75) (v := ?_) (a' := ?_) #[true, true, true, true, true, true, true, true, false, false, false, false, false, false, false, false, false, false, false, false, false, false, false, false, false, false, false, false, false, false, false, false, false, false, false, false, false, false, false, false] rfl rfl (any_of HT_.out (by kernel_rfl)) (fun _ _ _ h => h) (Or.inl ⟨by rfl, ?_⟩) ?_ ?_
            rotate_left
            ·
             intro w'
             go_simp
             with_reducible rfl
            rotate_left
            ·
             simp only [Act.put, List.setIfInBounds_toArray, List.set_cons_zero, List.set_cons_succ, i64_w, i32_w]
             rfl
            refine pure_ (i := 8) (N := some 76) (v := ?_) (a' := ?_) #[true, true, true, true, true, true, true, true, true, false, false, false, false, false, false, false, false, false, false, false, false, false, false, false, false, false, false, false, false, false, false, false, false, false, false, false, false, false, false, false] rfl rfl (any_of HT_.out (by kernel_rfl)) (fun _ _ _ h => h) (Or.inl ⟨by rfl, ?_⟩) ?_ ?_
            rotate_left
            ·
             intro w'
             go_simp
             with_reducible rfl
            rotate_left
            ·
             simp only [Act.put, List.setIfInBounds_toArray, List.set_cons_zero, List.set_cons_succ, i64_w, i32_w]
             rfl
            refine pure_ (i := 9) (N := some 77) (v := ?_) (a' := ?_) #[true, true, true, true, true, true, true, true, true, true, false, false, false, false, false, false, false, false, false, false, false, false, false, false, false, false, false, false, false, false, false, false, false, false, false, false, false, false, false, false] rfl rfl (any_of HT_.out (by kernel_rfl)) (fun _ _ _ h => h) (Or.inl ⟨by rfl, ?_⟩) ?_ ?_
            rotate_left
            ·
             intro w'
             go_simp
             with_reducible rfl
            rotate_left
            ·
             simp only [Act.put, List.setIfInBounds_toArray, List.set_cons_zero, List.set_cons_succ, i64_w, i32_w]
             rfl
            refine pure_ (i := 10) (N := some 78) (v := ?_) (a' := ?_) #[true, true, true, true, true, true, true, true, true, true, true, false, false, false, false, false, false, false, false, false, false, false, false, false, false, false, false, false, false, false, false, false, false, false, false, false, false, false, false, false] rfl rfl (any_of HT_.out (by kernel_rfl)) (fun _ _ _ h => h) (Or.inl ⟨by rfl, ?_⟩) ?_ ?_
            rotate_left
            ·
             intro w'
             go_simp
             with_reducible rfl
            rotate_left
            ·
             simp only [Act.put, List.setIfInBounds_toArray, List.set_cons_zero, List.set_cons_succ, i64_w, i32_w]
             rfl
            refine pure_ (i := 16) (N := some 84) (v := ?_) (a' := ?_) #[true, true, true, true, true, true, true, true, true, true, true, false, false, false, false, false, true, false, false, false, false, false, false, false, false, false, false, false, false, false, false, false, false, false, false, false, false, false, false, false] rfl rfl (any_of HT_.out (by kernel_rfl)) (fun _ _ _ h => h) (Or.inl ⟨by rfl, ?_⟩) ?_ ?_
            rotate_left
            ·
             intro w'
             go_simp
             with_reducible rfl
            rotate_left
            ·
             simp only [Act.put, List.setIfInBounds_toArray, List.set_cons_zero, List.set_cons_succ, i64_w, i32_w]
             rfl
            refine take_ (i := 11) (N := some 79) (v := ?_) (a' := ?_) #[true, true, true, true, true, true, true, true, true, true, true, true, false, false, false, false, true, false, false, false, false, false, false, false, false, false, false, false, false, false, false, false, false, false, false, false, false, false, false, false] rfl rfl (take_ofW HT_.out HW_.out (by kernel_rfl)) (fun _ _ _ h => h) (Or.inl ⟨by rfl, ?_⟩) hHeld ?_ ?_
            rotate_left
            ·
             rintro w' ⟨s0, s1, s2, s3, s4, s5, s6, s7, s8, s9, s10, s11, s12, s13, s14⟩
             go_simp
             with_reducible rfl
            rotate_left
            ·
             simp only [Act.put, List.setIfInBounds_toArray, List.set_cons_zero, List.set_cons_succ, i64_w, i32_w]
             rfl
            refine take_ (i := 12) (N := some 80) (v := ?_) (a' := ?_) #[true, true, true, true, true, true, true, true, true, true, true, true, true, false, false, false, true, false, false, false, false, false, false, false, false, false, false, false, false, false, false, false, false, false, false, false, false, false, false, false] rfl rfl (take_ofW HT_.out HW_.out (by kernel_rfl)) (fun _ _ _ h => h) (Or.inl ⟨by rfl, ?_⟩) hHeld ?_ ?_
            rotate_left
            ·
             rintro w' ⟨s0, s1, s2, s3, s4, s5, s6, s7, s8, s9, s10, s11, s12, s13, s14⟩
             go_simp
             with_reducible rfl
            rotate_left
            ·
             simp only [Act.put, List.setIfInBounds_toArray, List.set_cons_zero, List.set_cons_succ, i64_w, i32_w]
             rfl
            refine take_ (i := 13) (N := some 81) (v := ?_) (a' := ?_) #[true, true, true, true, true, true, true, true, true, true, true, true, true, true, false, false, true, false, false, false, false, false, false, false, false, false, false, false, false, false, false, false, false, false, false, false, false, false, false, false] rfl rfl (take_ofW HT_.out HW_.out (by kernel_rfl)) (fun _ _ _ h => h) (Or.inl ⟨by rfl, ?_⟩) hHeld ?_ ?_
            rotate_left
            ·
             rintro w' ⟨s0, s1, s2, s3, s4, s5, s6, s7, s8, s9, s10, s11, s12, s13, s14⟩
             go_simp
             with_reducible rfl
            rotate_left
            ·
             simp only [Act.put, List.setIfInBounds_toArray, List.set_cons_zero, List.set_cons_succ, i64_w, i32_w]
             rfl
            refine one_ (i := 14) (N := some 82) #[true, true, true, true, true, true, true, true, true, true, true, true, true, true, true, false, true, false, false, false, false, false, false, false, false, false, false, false, false, false, false, false, false, false, false, false, false, false, false, false] rfl rfl (one_of HT_.out (by kernel_rfl)) (by decide) (fun K hK => ?_)
            refine Kd.N_lit_step k37 _ 37 ?hg (N' := 82) ?hd (xs := ([(⟨l2_0, l2_1, a2_2, a2_3, a2_4⟩ : S37), (⟨l0_0, l0_1, a0_2, a0_3, a0_4⟩ : S37), (⟨l1_0, l1_1, a1_2, a1_3, a1_4⟩ : S37)] : List (S37))) (inner := [.slice A2_0 l2_0.length c2_0, .slice A2_1 l2_1.length c2_1, .int .i64 a2_2, .int .i64 a2_3, .int .i64 a2_4, .slice A0_0 l0_0.length c0_0, .slice A0_1 l0_1.length c0_1, .int .i64 a0_2, .int .i64 a0_3, .int .i64 a0_4, .slice A1_0 l1_0.length c1_0, .slice A1_1 l1_1.length c1_1, .int .i64 a1_2, .int .i64 a1_3, .int .i64 a1_4]) (ok := (fun k_ => ((P0_0_ k_ ∨ P0_1_ k_ ∨ P1_0_ k_ ∨ P1_1_ k_ ∨ P2_0_ k_ ∨ P2_1_ k_) ∨ w.heap.size ≤ k_) ∧ some k_ ≠ (.slice Ao83 y383.length co83 : Value).ownBlock ∧ k_ ≠ gb371 ∧ k_ ≠ gb372 ∧ k_ ≠ gb373)) (okp := (fun k_ => ((P0_0_ k_ ∨ P0_1_ k_ ∨ P1_0_ k_ ∨ P1_1_ k_ ∨ P2_0_ k_ ∨ P2_1_ k_) ∨ w.heap.size ≤ k_) ∧ some k_ ≠ (.slice Ao83 y383.length co83 : Value).ownBlock ∧ k_ ≠ gb371 ∧ k_ ≠ gb372 ∧ k_ ≠ gb373)) ?hr ?hp (fun _ hk => hk) ((show ∀ k_, w84.heap.size ≤ k_ → (fun k_ => ((P0_0_ k_ ∨ P0_1_ k_ ∨ P1_0_ k_ ∨ P1_1_ k_ ∨ P2_0_ k_ ∨ P2_1_ k_) ∨ w.heap.size ≤ k_) ∧ some k_ ≠ (.slice Ao83 y383.length co83 : Value).ownBlock ∧ k_ ≠ gb371 ∧ k_ ≠ gb372 ∧ k_ ≠ gb373) k_ from fun k_ hk => ⟨(.inr (Nat.le_trans (below_size (upH HB.out)) hk)), Kd.fresh' (Kd.N_lt (upN HO385.out)) k_ hk, Kd.freshB (g := gb371) (o := .cells #[.slice A0_0 l0_0.length c0_0, .slice A0_1 l0_1.length c0_1, .int .i64 a0_2, .int .i64 a0_3, .int .i64 a0_4] 37 (0, 0)) (upB BK371.out) k_ hk, Kd.freshB (g := gb372) (o := .cells #[.slice A1_0 l1_0.length c1_0, .slice A1_1 l1_1.length c1_1, .int .i64 a1_2, .int .i64 a1_3, .int .i64 a1_4] 37 (0, 0)) (upB BK372.out) k_ hk, Kd.freshB (g := gb373) (o := .cells #[.slice A2_0 l2_0.length c2_0, .slice A2_1 l2_1.length c2_1, .int .i64 a2_2, .int .i64 a2_3, .int .i64 a2_4] 37 (0, 0)) (upB BK373.out) k_ hk⟩) _ (Nat.le_refl _)) (Below.refl _ _) (Nat.le_refl _) (by simp) ?_; (case hd => rfl); (case hg => rfl); (case hr => first | (go_simp; done) | (go_simp; rfl)); (case hp => exact (Reps.c5 (show Kd.FK k37 _ _ (⟨l2_0, l2_1, a2_2, a2_3, a2_4⟩ : S37) [.slice A2_0 l2_0.length c2_0, .slice A2_1 l2_1.length c2_1, .int .i64 a2_2, .int .i64 a2_3, .int .i64 a2_4] from (k37_mkF _ _ (⟨l2_0, l2_1, a2_2, a2_3, a2_4⟩ : S37) (Kd.V_reads' HO_374000.out).2.1 (Kd.V_F (Kd.V_mono (ok' := (fun k_ => ((P0_0_ k_ ∨ P0_1_ k_ ∨ P1_0_ k_ ∨ P1_1_ k_ ∨ P2_0_ k_ ∨ P2_1_ k_) ∨ w.heap.size ≤ k_) ∧ some k_ ≠ (.slice Ao83 y383.length co83 : Value).ownBlock ∧ k_ ≠ gb371 ∧ k_ ≠ gb372 ∧ k_ ≠ gb373)) (HO_374000.out) (fun k_ hk => ⟨hk.1.1, ⟨hk.2, ⟨hk.1.2.1, ⟨hk.1.2.2.1, hk.1.2.2.2⟩⟩⟩⟩))) (Kd.V_reads' HO_374001.out).2.1 (Kd.V_F (Kd.V_mono (ok' := (fun k_ => ((P0_0_ k_ ∨ P0_1_ k_ ∨ P1_0_ k_ ∨ P1_1_ k_ ∨ P2_0_ k_ ∨ P2_1_ k_) ∨ w.heap.size ≤ k_) ∧ some k_ ≠ (.slice Ao83 y383.length co83 : Value).ownBlock ∧ k_ ≠ gb371 ∧ k_ ≠ gb372 ∧ k_ ≠ gb373)) (HO_374001.out) (fun k_ hk => ⟨hk.1.1, ⟨hk.2, ⟨hk.1.2.1, ⟨hk.1.2.2.1, hk.1.2.2.2⟩⟩⟩⟩))))) (Reps.c5 (show Kd.FK k37 _ _ (⟨l0_0, l0_1, a0_2, a0_3, a0_4⟩ : S37) [.slice A0_0 l0_0.length c0_0, .slice A0_1 l0_1.length c0_1, .int .i64 a0_2, .int .i64 a0_3, .int .i64 a0_4] from (k37_mkF _ _ (⟨l0_0, l0_1, a0_2, a0_3, a0_4⟩ : S37) (Kd.V_reads' HO_372000.out).2.1 (Kd.V_F (Kd.V_mono (ok' := (fun k_ => ((P0_0_ k_ ∨ P0_1_ k_ ∨ P1_0_ k_ ∨ P1_1_ k_ ∨ P2_0_ k_ ∨ P2_1_ k_) ∨ w.heap.size ≤ k_) ∧ some k_ ≠ (.slice Ao83 y383.length co83 : Value).ownBlock ∧ k_ ≠ gb371 ∧ k_ ≠ gb372 ∧ k_ ≠ gb373)) (HO_372000.out) (fun k_ hk => ⟨hk.1.1, ⟨hk.2, ⟨hk.1.2.1, ⟨hk.1.2.2.1, hk.1.2.2.2⟩⟩⟩⟩))) (Kd.V_reads' HO_372001.out).2.1 (Kd.V_F (Kd.V_mono (ok' := (fun k_ => ((P0_0_ k_ ∨ P0_1_ k_ ∨ P1_0_ k_ ∨ P1_1_ k_ ∨ P2_0_ k_ ∨ P2_1_ k_) ∨ w.heap.size ≤ k_) ∧ some k_ ≠ (.slice Ao83 y383.length co83 : Value).ownBlock ∧ k_ ≠ gb371 ∧ k_ ≠ gb372 ∧ k_ ≠ gb373)) (HO_372001.out) (fun k_ hk => ⟨hk.1.1, ⟨hk.2, ⟨hk.1.2.1, ⟨hk.1.2.2.1, hk.1.2.2.2⟩⟩⟩⟩))))) (Reps.c5 (show Kd.FK k37 _ _ (⟨l1_0, l1_1, a1_2, a1_3, a1_4⟩ : S37) [.slice A1_0 l1_0.length c1_0, .slice A1_1 l1_1.length c1_1, .int .i64 a1_2, .int .i64 a1_3, .int .i64 a1_4] from (k37_mkF _ _ (⟨l1_0, l1_1, a1_2, a1_3, a1_4⟩ : S37) (Kd.V_reads' HO_373000.out).2.1 (Kd.V_F (Kd.V_mono (ok' := (fun k_ => ((P0_0_ k_ ∨ P0_1_ k_ ∨ P1_0_ k_ ∨ P1_1_ k_ ∨ P2_0_ k_ ∨ P2_1_ k_) ∨ w.heap.size ≤ k_) ∧ some k_ ≠ (.slice Ao83 y383.length co83 : Value).ownBlock ∧ k_ ≠ gb371 ∧ k_ ≠ gb372 ∧ k_ ≠ gb373)) (HO_373000.out) (fun k_ hk => ⟨hk.1.1, ⟨hk.2, ⟨hk.1.2.1, ⟨hk.1.2.2.1, hk.1.2.2.2⟩⟩⟩⟩))) (Kd.V_reads' HO_373001.out).2.1 (Kd.V_F (Kd.V_mono (ok' := (fun k_ => ((P0_0_ k_ ∨ P0_1_ k_ ∨ P1_0_ k_ ∨ P1_1_ k_ ∨ P2_0_ k_ ∨ P2_1_ k_) ∨ w.heap.size ≤ k_) ∧ some k_ ≠ (.slice Ao83 y383.length co83 : Value).ownBlock ∧ k_ ≠ gb371 ∧ k_ ≠ gb372 ∧ k_ ≠ gb373)) (HO_373001.out) (fun k_ hk => ⟨hk.1.1, ⟨hk.2, ⟨hk.1.2.1, ⟨hk.1.2.2.1, hk.1.2.2.2⟩⟩⟩⟩))))) (Reps.none _ _)))))
            intro v388 w85 ho86 hb hg_ hnew_
            clear hg_ hnew_
            (first | rw [← Ny387.out] at ho86 | (simp only [Int.reduceToNat] at ho86; rw [← Ny387.out] at ho86))
            have n0_ := Aside0.mk (Kd.V_elder' (upV HO_372000.out) (Kd.N_base ho86) hb)
            have n1_ := Aside0.mk (Kd.V_elder' (upV HO_372001.out) (Kd.N_base ho86) hb)
            have n2_ := Aside0.mk (Kd.V_elder' (upV HO_373000.out) (Kd.N_base ho86) hb)
            have n3_ := Aside0.mk (Kd.V_elder' (upV HO_373001.out) (Kd.N_base ho86) hb)
            have n4_ := Aside0.mk (Kd.V_elder' (upV HO_374000.out) (Kd.N_base ho86) hb)
            have n5_ := Aside0.mk (Kd.V_elder' (upV HO_374001.out) (Kd.N_base ho86) hb)
            have n6_ := Aside0.mk (Kd.N_elder' (upN HO385.out) (Kd.N_base ho86) hb)
            have n7_ := Aside0.mk (Kd.N_lower ho86 (below_size (upH HB.out)))
            have n8_ := Aside0.mk (blk_below (g := gb371) (o := .cells #[.slice A0_0 l0_0.length c0_0, .slice A0_1 l0_1.length c0_1, .int .i64 a0_2, .int .i64 a0_3, .int .i64 a0_4] 37 (0, 0)) (upB BK371.out) hb)
            have n9_ := Aside0.mk (blk_below (g := gb372) (o := .cells #[.slice A1_0 l1_0.length c1_0, .slice A1_1 l1_1.length c1_1, .int .i64 a1_2, .int .i64 a1_3, .int .i64 a1_4] 37 (0, 0)) (upB BK372.out) hb)
            have n10_ := Aside0.mk (blk_below (g := gb373) (o := .cells #[.slice A2_0 l2_0.length c2_0, .slice A2_1 l2_1.length c2_1, .int .i64 a2_2, .int .i64 a2_3, .int .i64 a2_4] 37 (0, 0)) (upB BK373.out) hb)
            have n11_ := Aside0.mk (below_step (upH HB.out) hb)
            clear HO_372000 HO_372001 HO_373000 HO_373001 HO_374000 HO_374001 HO385 BK371 BK372 BK373 HB
            have HO_372000 := n0_
            have HO_372001 := n1_
            have HO_373000 := n2_
            have HO_373001 := n3_
            have HO_374000 := n4_
            have HO_374001 := n5_
            have HO385 := n6_
            have HO389 := n7_
            have BK371 := n8_
            have BK372 := n9_
            have BK373 := n10_
            have HB := n11_
            clear n0_ n1_ n2_ n3_ n4_ n5_ n6_ n7_ n8_ n9_ n10_ n11_
            clear hb ho86
            obtain ⟨Ao87, co87, eo87⟩ := Kd.N_slice HO389.out
            (first | subst eo87 | (injection eo87 with f1_ f2_ f3_; have f4_ := f1_.symm; have f5_ := f3_.symm; clear f1_ f2_ f3_; subst f4_; subst f5_))
            refine hK.out _ _ ⟨(blk_cell BK371.out 0).trans rfl, (blk_cell BK371.out 1).trans rfl, (blk_cell BK371.out 2).trans rfl, (blk_cell BK371.out 3).trans rfl, (blk_cell BK371.out 4).trans rfl, (blk_cell BK372.out 0).trans rfl, (blk_cell BK372.out 1).trans rfl, (blk_cell BK372.out 2).trans rfl, (blk_cell BK372.out 3).trans rfl, (blk_cell BK372.out 4).trans rfl, (blk_cell BK373.out 0).trans rfl, (blk_cell BK373.out 1).trans rfl, (blk_cell BK373.out 2).trans rfl, (blk_cell BK373.out 3).trans rfl, (blk_cell BK373.out 4).trans rfl⟩ (fun hHeld => ?_)
            clear hK K
            refine norm_ (a' := ?_) ?_ ?_
            rotate_left
            ·
             show Act.put _ (some 82) _ = _
             simp only [Act.put, List.setIfInBounds_toArray, List.set_cons_zero, List.set_cons_succ, i64_w, i32_w]
             rfl
            refine one_ (i := 15) (N := some 83) #[true, true, true, true, true, true, true, true, true, true, true, true, true, true, true, true, true, false, false, false, false, false, false, false, false, false, false, false, false, false, false, false, false, false, false, false, false, false, false, false] rfl rfl (one_of HT_.out (by kernel_rfl)) (by decide) (fun K hK => ?_)
            refine goes_ Tryd.func35 (by kernel_rfl) rfl #[.slice Ao87 y387.length co87] (by rfl) rfl rfl (by (try simp only [List.map_toArray, List.map_cons, List.map_nil]); first | done | rfl | (simp only [List.length_drop, List.length_take]; rfl)) ?_
            with_reducible refine (plan_All.calls _ _ y387 t390 _ ?side1 ?side2 ?side3 A74.out).mono ?_
            (case side1 => repeat (first | exact (Kd.N_reads' HO389.out).2.2 | (with_reducible refine Kd.C_alloc ?_ _) | (with_reducible refine Kd.C_drewN ?_ _) | (with_reducible refine Kd.C_drew ?_)))
            (case side2 => exact (Kd.N_reads' HO389.out).2.1)
            (case side3 => first | (with_reducible exact HG.out) | (refine GlobOk.below HG.out ?_; repeat (first | (with_reducible first | exact HB.out | apply below_alloc | apply pw_below_drewN | apply below_drew1 | refine below_set ?_ GE371.out | refine below_set ?_ GE372.out | refine below_set ?_ GE373.out) | exact HB.out)))
            rintro e w88 ⟨rfl, hb⟩
            refine ⟨_, rfl, ?_⟩
            have n0_ := Aside0.mk (Kd.V_below (upV HO_372000.out) hb)
            have n1_ := Aside0.mk (Kd.V_below (upV HO_372001.out) hb)
            have n2_ := Aside0.mk (Kd.V_below (upV HO_373000.out) hb)
            have n3_ := Aside0.mk (Kd.V_below (upV HO_373001.out) hb)
            have n4_ := Aside0.mk (Kd.V_below (upV HO_374000.out) hb)
            have n5_ := Aside0.mk (Kd.V_below (upV HO_374001.out) hb)
            have n6_ := Aside0.mk (Kd.N_below (upN HO385.out) hb)
            have n7_ := Aside0.mk (Kd.N_below (upN HO389.out) hb)
            have n8_ := Aside0.mk (blk_below (g := gb371) (o := .cells #[.slice A0_0 l0_0.length c0_0, .slice A0_1 l0_1.length c0_1, .int .i64 a0_2, .int .i64 a0_3, .int .i64 a0_4] 37 (0, 0)) (upB BK371.out) hb)
            have n9_ := Aside0.mk (blk_below (g := gb372) (o := .cells #[.slice A1_0 l1_0.length c1_0, .slice A1_1 l1_1.length c1_1, .int .i64 a1_2, .int .i64 a1_3, .int .i64 a1_4] 37 (0, 0)) (upB BK372.out) hb)
            have n10_ := Aside0.mk (blk_below (g := gb373) (o := .cells #[.slice A2_0 l2_0.length c2_0, .slice A2_1 l2_1.length c2_1, .int .i64 a2_2, .int .i64 a2_3, .int .i64 a2_4] 37 (0, 0)) (upB BK373.out) hb)
            have n11_ := Aside0.mk (below_step (upH HB.out) hb)
            clear HO_372000 HO_372001 HO_373000 HO_373001 HO_374000 HO_374001 HO385 HO389 BK371 BK372 BK373 HB
            have HO_372000 := n0_
            have HO_372001 := n1_
            have HO_373000 := n2_
            have HO_373001 := n3_
            have HO_374000 := n4_
            have HO_374001 := n5_
            have HO385 := n6_
            have HO389 := n7_
            have BK371 := n8_
            have BK372 := n9_
            have BK373 := n10_
            have HB := n11_
            clear n0_ n1_ n2_ n3_ n4_ n5_ n6_ n7_ n8_ n9_ n10_ n11_
            (try clear hb)
            (try clear hb2)
            (try clear hk)
            (try clear hi)
            refine hK.out _ _ ⟨(blk_cell BK371.out 0).trans rfl, (blk_cell BK371.out 1).trans rfl, (blk_cell BK371.out 2).trans rfl, (blk_cell BK371.out 3).trans rfl, (blk_cell BK371.out 4).trans rfl, (blk_cell BK372.out 0).trans rfl, (blk_cell BK372.out 1).trans rfl, (blk_cell BK372.out 2).trans rfl, (blk_cell BK372.out 3).trans rfl, (blk_cell BK372.out 4).trans rfl, (blk_cell BK373.out 0).trans rfl, (blk_cell BK373.out 1).trans rfl, (blk_cell BK373.out 2).trans rfl, (blk_cell BK373.out 3).trans rfl, (blk_cell BK373.out 4).trans rfl⟩ (fun hHeld => ?_)
            clear hK K
            refine norm_ (a' := ?_) ?_ ?_
            rotate_left
            ·
             show Act.put _ (some 83) _ = _
             simp only [Act.put, List.setIfInBounds_toArray, List.set_cons_zero, List.set_cons_succ, i64_w, i32_w]
             rfl
            refine pure_ (i := 17) (N := some 85) (v := ?_) (a' := ?_) #[true, true, true, true, true, true, true, true, true, true, true, true, true, true, true, true, true, true, false, false, false, false, false, false, false, false, false, false, false, false, false, false, false, false, false, false, false, false, false, false] rfl rfl (any_of HT_.out (by kernel_rfl)) (fun _ _ _ h => h) (Or.inl ⟨by rfl, ?_⟩) ?_ ?_
            rotate_left
            ·
             intro w'
             go_simp
             with_reducible rfl
            rotate_left
            ·
             simp only [Act.put, List.setIfInBounds_toArray, List.set_cons_zero, List.set_cons_succ, i64_w, i32_w]
             rfl
            refine pure_ (i := 18) (N := some 86) (v := ?_) (a' := ?_) #[true, true, true, true, true, true, true, true, true, true, true, true, true, true, true, true, true, true, true, false, false, false, false, false, false, false, false, false, false, false, false, false, false, false, false, false, false, false, false, false] rfl rfl (any_of HT_.out (by kernel_rfl)) (fun _ _ _ h => h) (Or.inl ⟨by rfl, ?_⟩) ?_ ?_
            rotate_left
            ·
             intro w'
             go_simp
             with_reducible rfl
            rotate_left
            ·
             simp only [Act.put, List.setIfInBounds_toArray, List.set_cons_zero, List.set_cons_succ, i64_w, i32_w]
             rfl
            refine pure_ (i := 19) (N := some 87) (v := ?_) (a' := ?_) #[true, true, true, true, true, true, true, true, true, true, true, true, true, true, true, true, true, true, true, true, false, false, false, false, false, false, false, false, false, false, false, false, false, false, false, false, false, false, false, false] rfl rfl (any_of HT_.out (by kernel_rfl)) (fun _ _ _ h => h) (Or.inl ⟨by rfl, ?_⟩) ?_ ?_
            rotate_left
            ·
             intro w'
             go_simp
             with_reducible rfl
            rotate_left
            ·
             simp only [Act.put, List.setIfInBounds_toArray, List.set_cons_zero, List.set_cons_succ, i64_w, i32_w]
             rfl
            refine pure_ (i := 20) (N := some 88) (v := ?_) (a' := ?_) #[true, true, true, true, true, true, true, true, true, true, true, true, true, true, true, true, true, true, true, true, true, false, false, false, false, false, false, false, false, false, false, false, false, false, false, false, false, false, false, false] rfl rfl (any_of HT_.out (by kernel_rfl)) (fun _ _ _ h => h) (Or.inl ⟨by rfl, ?_⟩) ?_ ?_
            rotate_left
            ·
             intro w'
             go_simp
             with_reducible rfl
            rotate_left
            ·
             simp only [Act.put, List.setIfInBounds_toArray, List.set_cons_zero, List.set_cons_succ, i64_w, i32_w]
             rfl
            refine pure_ (i := 21) (N := some 89) (v := ?_) (a' := ?_) #[true, true, true, true, true, true, true, true, true, true, true, true, true, true, true, true, true, true, true, true, true, true, false, false, false, false, false, false, false, false, false, false, false, false, false, false, false, false, false, false] rfl rfl (any_of HT_.out (by kernel_rfl)) (fun _ _ _ h => h) (Or.inl ⟨by rfl, ?_⟩) ?_ ?_
            rotate_left
            ·
             intro w'
             go_simp
             with_reducible rfl
            rotate_left
            ·
             simp only [Act.put, List.setIfInBounds_toArray, List.set_cons_zero, List.set_cons_succ, i64_w, i32_w]
             rfl
            refine pure_ (i := 22) (N := some 90) (v := ?_) (a' := ?_) #[true, true, true, true, true, true, true, true, true, true, true, true, true, true, true, true, true, true, true, true, true, true, true, false, false, false, false, false, false, false, false, false, false, false, false, false, false, false, false, false] rfl rfl (any_of HT_.out (by kernel_rfl)) (fun _ _ _ h => h) (Or.inl ⟨by rfl, ?_⟩) ?_ ?_
            rotate_left
            ·
             intro w'
             go_simp
             with_reducible rfl
            rotate_left
            ·
             simp only [Act.put, List.setIfInBounds_toArray, List.set_cons_zero, List.set_cons_succ, i64_w, i32_w]
             rfl
            refine take_ (i := 23) (N := some 91) (v := ?_) (a' := ?_) #[true, true, true, true, true, true, true, true, true, true, true, true, true, true, true, true, true, true, true, true, true, true, true, true, false, false, false, false, false, false, false, false, false, false, false, false, false, false, false, false] rfl rfl (take_ofW HT_.out HW_.out (by kernel_rfl)) (fun _ _ _ h => h) (Or.inl ⟨by rfl, ?_⟩) hHeld ?_ ?_
            rotate_left
            ·
             rintro w' ⟨s0, s1, s2, s3, s4, s5, s6, s7, s8, s9, s10, s11, s12, s13, s14⟩
             go_simp
             with_reducible rfl
            rotate_left
            ·
             simp only [Act.put, List.setIfInBounds_toArray, List.set_cons_zero, List.set_cons_succ, i64_w, i32_w]
             rfl
            refine take_ (i := 26) (N := some 94) (v := ?_) (a' := ?_) #[true, true, true, true, true, true, true, true, true, true, true, true, true, true, true, true, true, true, true, true, true, true, true, true, false, false, true, false, false, false, false, false, false, false, false, false, false, false, false, false] rfl rfl (take_ofW HT_.out HW_.out (by kernel_rfl)) (fun _ _ _ h => h) (Or.inl ⟨by rfl, ?_⟩) hHeld ?_ ?_
            rotate_left
            ·
             rintro w' ⟨s0, s1, s2, s3, s4, s5, s6, s7, s8, s9, s10, s11, s12, s13, s14⟩
             go_simp
             with_reducible rfl
            rotate_left
            ·
             simp only [Act.put, List.setIfInBounds_toArray, List.set_cons_zero, List.set_cons_succ, i64_w, i32_w]
             rfl
            refine one_ (i := 24) (N := some 92) #[true, true, true, true, true, true, true, true, true, true, true, true, true, true, true, true, true, true, true, true, true, true, true, true, true, false, true, false, false, false, false, false, false, false, false, false, false, false, false, false] rfl rfl (one_of HT_.out (by kernel_rfl)) (by decide) (fun K hK => ?_)
            refine Kd.N_lit_step k37 _ 37 ?hg (N' := 92) ?hd (xs := ([(⟨l0_0, l0_1, a0_2, a0_3, a0_4⟩ : S37)] : List (S37))) (inner := [.slice A0_0 l0_0.length c0_0, .slice A0_1 l0_1.length c0_1, .int .i64 a0_2, .int .i64 a0_3, .int .i64 a0_4]) (ok := (fun k_ => ((P0_0_ k_ ∨ P0_1_ k_ ∨ P1_0_ k_ ∨ P1_1_ k_ ∨ P2_0_ k_ ∨ P2_1_ k_) ∨ w.heap.size ≤ k_) ∧ some k_ ≠ (.slice Ao83 y383.length co83 : Value).ownBlock ∧ some k_ ≠ (.slice Ao87 y387.length co87 : Value).ownBlock ∧ k_ ≠ gb371 ∧ k_ ≠ gb372 ∧ k_ ≠ gb373)) (okp := (fun k_ => ((P0_0_ k_ ∨ P0_1_ k_ ∨ P1_0_ k_ ∨ P1_1_ k_ ∨ P2_0_ k_ ∨ P2_1_ k_) ∨ w.heap.size ≤ k_) ∧ some k_ ≠ (.slice Ao83 y383.length co83 : Value).ownBlock ∧ some k_ ≠ (.slice Ao87 y387.length co87 : Value).ownBlock ∧ k_ ≠ gb371 ∧ k_ ≠ gb372 ∧ k_ ≠ gb373)) ?hr ?hp (fun _ hk => hk) ((show ∀ k_, w88.heap.size ≤ k_ → (fun k_ => ((P0_0_ k_ ∨ P0_1_ k_ ∨ P1_0_ k_ ∨ P1_1_ k_ ∨ P2_0_ k_ ∨ P2_1_ k_) ∨ w.heap.size ≤ k_) ∧ some k_ ≠ (.slice Ao83 y383.length co83 : Value).ownBlock ∧ some k_ ≠ (.slice Ao87 y387.length co87 : Value).ownBlock ∧ k_ ≠ gb371 ∧ k_ ≠ gb372 ∧ k_ ≠ gb373) k_ from fun k_ hk => ⟨(.inr (Nat.le_trans (below_size (upH HB.out)) hk)), Kd.fresh' (Kd.N_lt (upN HO385.out)) k_ hk, Kd.fresh' (Kd.N_lt (upN HO389.out)) k_ hk, Kd.freshB (g := gb371) (o := .cells #[.slice A0_0 l0_0.length c0_0, .slice A0_1 l0_1.length c0_1, .int .i64 a0_2, .int .i64 a0_3, .int .i64 a0_4] 37 (0, 0)) (upB BK371.out) k_ hk, Kd.freshB (g := gb372) (o := .cells #[.slice A1_0 l1_0.length c1_0, .slice A1_1 l1_1.length c1_1, .int .i64 a1_2, .int .i64 a1_3, .int .i64 a1_4] 37 (0, 0)) (upB BK372.out) k_ hk, Kd.freshB (g := gb373) (o := .cells #[.slice A2_0 l2_0.length c2_0, .slice A2_1 l2_1.length c2_1, .int .i64 a2_2, .int .i64 a2_3, .int .i64 a2_4] 37 (0, 0)) (upB BK373.out) k_ hk⟩) _ (Nat.le_refl _)) (Below.refl _ _) (Nat.le_refl _) (by simp) ?_; (case hd => rfl); (case hg => rfl); (case hr => first | (go_simp; done) | (go_simp; rfl)); (case hp => exact (Reps.c5 (show Kd.FK k37 _ _ (⟨l0_0, l0_1, a0_2, a0_3, a0_4⟩ : S37) [.slice A0_0 l0_0.length c0_0, .slice A0_1 l0_1.length c0_1, .int .i64 a0_2, .int .i64 a0_3, .int .i64 a0_4] from (k37_mkF _ _ (⟨l0_0, l0_1, a0_2, a0_3, a0_4⟩ : S37) (Kd.V_reads' HO_372000.out).2.1 (Kd.V_F (Kd.V_mono (ok' := (fun k_ => ((P0_0_ k_ ∨ P0_1_ k_ ∨ P1_0_ k_ ∨ P1_1_ k_ ∨ P2_0_ k_ ∨ P2_1_ k_) ∨ w.heap.size ≤ k_) ∧ some k_ ≠ (.slice Ao83 y383.length co83 : Value).ownBlock ∧ some k_ ≠ (.slice Ao87 y387.length co87 : Value).ownBlock ∧ k_ ≠ gb371 ∧ k_ ≠ gb372 ∧ k_ ≠ gb373)) (HO_372000.out) (fun k_ hk => ⟨hk.1.1.1, ⟨hk.1.2, ⟨hk.2, ⟨hk.1.1.2.1, ⟨hk.1.1.2.2.1, hk.1.1.2.2.2⟩⟩⟩⟩⟩))) (Kd.V_reads' HO_372001.out).2.1 (Kd.V_F (Kd.V_mono (ok' := (fun k_ => ((P0_0_ k_ ∨ P0_1_ k_ ∨ P1_0_ k_ ∨ P1_1_ k_ ∨ P2_0_ k_ ∨ P2_1_ k_) ∨ w.heap.size ≤ k_) ∧ some k_ ≠ (.slice Ao83 y383.length co83 : Value).ownBlock ∧ some k_ ≠ (.slice Ao87 y387.length co87 : Value).ownBlock ∧ k_ ≠ gb371 ∧ k_ ≠ gb372 ∧ k_ ≠ gb373)) (HO_372001.out) (fun k_ hk => ⟨hk.1.1.1, ⟨hk.1.2, ⟨hk.2, ⟨hk.1.1.2.1, ⟨hk.1.1.2.2.1, hk.1.1.2.2.2⟩⟩⟩⟩⟩))))) (Reps.none _ _)))
            intro v392 w89 ho90 hb hg_ hnew_
            clear hg_ hnew_
            (first | rw [← Ny391.out] at ho90 | (simp only [Int.reduceToNat] at ho90; rw [← Ny391.out] at ho90))
            have n0_ := Aside0.mk (Kd.V_elder' (upV HO_372000.out) (Kd.N_base ho90) hb)
            have n1_ := Aside0.mk (Kd.V_elder' (upV HO_372001.out) (Kd.N_base ho90) hb)
            have n2_ := Aside0.mk (Kd.V_elder' (upV HO_373000.out) (Kd.N_base ho90) hb)
            have n3_ := Aside0.mk (Kd.V_elder' (upV HO_373001.out) (Kd.N_base ho90) hb)
            have n4_ := Aside0.mk (Kd.V_elder' (upV HO_374000.out) (Kd.N_base ho90) hb)
            have n5_ := Aside0.mk (Kd.V_elder' (upV HO_374001.out) (Kd.N_base ho90) hb)
            have n6_ := Aside0.mk (Kd.N_elder' (upN HO385.out) (Kd.N_base ho90) hb)
            have n7_ := Aside0.mk (Kd.N_elder' (upN HO389.out) (Kd.N_base ho90) hb)
            have n8_ := Aside0.mk (Kd.N_lower ho90 (below_size (upH HB.out)))
            have n9_ := Aside0.mk (blk_below (g := gb371) (o := .cells #[.slice A0_0 l0_0.length c0_0, .slice A0_1 l0_1.length c0_1, .int .i64 a0_2, .int .i64 a0_3, .int .i64 a0_4] 37 (0, 0)) (upB BK371.out) hb)
            have n10_ := Aside0.mk (blk_below (g := gb372) (o := .cells #[.slice A1_0 l1_0.length c1_0, .slice A1_1 l1_1.length c1_1, .int .i64 a1_2, .int .i64 a1_3, .int .i64 a1_4] 37 (0, 0)) (upB BK372.out) hb)
            have n11_ := Aside0.mk (blk_below (g := gb373) (o := .cells #[.slice A2_0 l2_0.length c2_0, .slice A2_1 l2_1.length c2_1, .int .i64 a2_2, .int .i64 a2_3, .int .i64 a2_4] 37 (0, 0)) (upB BK373.out) hb)
            have n12_ := Aside0.mk (below_step (upH HB.out) hb)
            clear HO_372000 HO_372001 HO_373000 HO_373001 HO_374000 HO_374001 HO385 HO389 BK371 BK372 BK373 HB
            have HO_372000 := n0_
            have HO_372001 := n1_
            have HO_373000 := n2_
            have HO_373001 := n3_
            have HO_374000 := n4_
            have HO_374001 := n5_
            have HO385 := n6_
            have HO389 := n7_
            have HO393 := n8_
            have BK371 := n9_
            have BK372 := n10_
            have BK373 := n11_
            have HB := n12_
            clear n0_ n1_ n2_ n3_ n4_ n5_ n6_ n7_ n8_ n9_ n10_ n11_ n12_
            clear hb ho90
            obtain ⟨Ao91, co91, eo91⟩ := Kd.N_slice HO393.out
            (first | subst eo91 | (injection eo91 with f1_ f2_ f3_; have f4_ := f1_.symm; have f5_ := f3_.symm; clear f1_ f2_ f3_; subst f4_; subst f5_))
            refine hK.out _ _ ⟨(blk_cell BK371.out 0).trans rfl, (blk_cell BK371.out 1).trans rfl, (blk_cell BK371.out 2).trans rfl, (blk_cell BK371.out 3).trans rfl, (blk_cell BK371.out 4).trans rfl, (blk_cell BK372.out 0).trans rfl, (blk_cell BK372.out 1).trans rfl, (blk_cell BK372.out 2).trans rfl, (blk_cell BK372.out 3).trans rfl, (blk_cell BK372.out 4).trans rfl, (blk_cell BK373.out 0).trans rfl, (blk_cell BK373.out 1).trans rfl, (blk_cell BK373.out 2).trans rfl, (blk_cell BK373.out 3).trans rfl, (blk_cell BK373.out 4).trans rfl⟩ (fun hHeld => ?_)
            clear hK K
            refine norm_ (a' := ?_) ?_ ?_
            rotate_left
            ·
             show Act.put _ (some 92) _ = _
             simp only [Act.put, List.setIfInBounds_toArray, List.set_cons_zero, List.set_cons_succ, i64_w, i32_w]
             rfl
            refine one_ (i := 25) (N := some 93) #[true, true, true, true, true, true, true, true, true, true, true, true, true, true, true, true, true, true, true, true, true, true, true, true, true, true, true, false, false, false, false, false, false, false, false, false, false, false, false, false] rfl rfl (one_of HT_.out (by kernel_rfl)) (by decide) (fun K hK => ?_)
            refine goes_ Tryd.func35 (by kernel_rfl) rfl #[.slice Ao91 y391.length co91] (by rfl) rfl rfl (by (try simp only [List.map_toArray, List.map_cons, List.map_nil]); first | done | rfl | (simp only [List.length_drop, List.length_take]; rfl)) ?_
            with_reducible refine (plan_All.calls _ _ y391 t394 _ ?side1 ?side2 ?side3 A76.out).mono ?_
            (case side1 => repeat (first | exact (Kd.N_reads' HO393.out).2.2 | (with_reducible refine Kd.C_alloc ?_ _) | (with_reducible refine Kd.C_drewN ?_ _) | (with_reducible refine Kd.C_drew ?_)))
            (case side2 => exact (Kd.N_reads' HO393.out).2.1)
            (case side3 => first | (with_reducible exact HG.out) | (refine GlobOk.below HG.out ?_; repeat (first | (with_reducible first | exact HB.out | apply below_alloc | apply pw_below_drewN | apply below_drew1 | refine below_set ?_ GE371.out | refine below_set ?_ GE372.out | refine below_set ?_ GE373.out) | exact HB.out)))
            rintro e w92 ⟨rfl, hb⟩
            refine ⟨_, rfl, ?_⟩
            have n0_ := Aside0.mk (Kd.V_below (upV HO_372000.out) hb)
            have n1_ := Aside0.mk (Kd.V_below (upV HO_372001.out) hb)
            have n2_ := Aside0.mk (Kd.V_below (upV HO_373000.out) hb)
            have n3_ := Aside0.mk (Kd.V_below (upV HO_373001.out) hb)
            have n4_ := Aside0.mk (Kd.V_below (upV HO_374000.out) hb)
            have n5_ := Aside0.mk (Kd.V_below (upV HO_374001.out) hb)
            have n6_ := Aside0.mk (Kd.N_below (upN HO385.out) hb)
            have n7_ := Aside0.mk (Kd.N_below (upN HO389.out) hb)
            have n8_ := Aside0.mk (Kd.N_below (upN HO393.out) hb)
            have n9_ := Aside0.mk (blk_below (g := gb371) (o := .cells #[.slice A0_0 l0_0.length c0_0, .slice A0_1 l0_1.length c0_1, .int .i64 a0_2, .int .i64 a0_3, .int .i64 a0_4] 37 (0, 0)) (upB BK371.out) hb)
            have n10_ := Aside0.mk (blk_below (g := gb372) (o := .cells #[.slice A1_0 l1_0.length c1_0, .slice A1_1 l1_1.length c1_1, .int .i64 a1_2, .int .i64 a1_3, .int .i64 a1_4] 37 (0, 0)) (upB BK372.out) hb)
            have n11_ := Aside0.mk (blk_below (g := gb373) (o := .cells #[.slice A2_0 l2_0.length c2_0, .slice A2_1 l2_1.length c2_1, .int .i64 a2_2, .int .i64 a2_3, .int .i64 a2_4] 37 (0, 0)) (upB BK373.out) hb)
            have n12_ := Aside0.mk (below_step (upH HB.out) hb)
            clear HO_372000 HO_372001 HO_373000 HO_373001 HO_374000 HO_374001 HO385 HO389 HO393 BK371 BK372 BK373 HB
            have HO_372000 := n0_
            have HO_372001 := n1_
            have HO_373000 := n2_
            have HO_373001 := n3_
            have HO_374000 := n4_
            have HO_374001 := n5_
            have HO385 := n6_
            have HO389 := n7_
            have HO393 := n8_
            have BK371 := n9_
            have BK372 := n10_
            have BK373 := n11_
            have HB := n12_
            clear n0_ n1_ n2_ n3_ n4_ n5_ n6_ n7_ n8_ n9_ n10_ n11_ n12_
            (try clear hb)
            (try clear hb2)
            (try clear hk)
            (try clear hi)
            refine hK.out _ _ ⟨(blk_cell BK371.out 0).trans rfl, (blk_cell BK371.out 1).trans rfl, (blk_cell BK371.out 2).trans rfl, (blk_cell BK371.out 3).trans rfl, (blk_cell BK371.out 4).trans rfl, (blk_cell BK372.out 0).trans rfl, (blk_cell BK372.out 1).trans rfl, (blk_cell BK372.out 2).trans rfl, (blk_cell BK372.out 3).trans rfl, (blk_cell BK372.out 4).trans rfl, (blk_cell BK373.out 0).trans rfl, (blk_cell BK373.out 1).trans rfl, (blk_cell BK373.out 2).trans rfl, (blk_cell BK373.out 3).trans rfl, (blk_cell BK373.out 4).trans rfl⟩ (fun hHeld => ?_)
            clear hK K
            refine norm_ (a' := ?_) ?_ ?_
            rotate_left
            ·
             show Act.put _ (some 93) _ = _
             simp only [Act.put, List.setIfInBounds_toArray, List.set_cons_zero, List.set_cons_succ, i64_w, i32_w]
             rfl
            refine one_ (i := 27) (N := some 95) #[true, true, true, true, true, true, true, true, true, true, true, true, true, true, true, true, true, true, true, true, true, true, true, true, true, true, true, true, false, false, false, false, false, false, false, false, false, false, false, false] rfl rfl (one_of HT_.out (by kernel_rfl)) (by decide) (fun K hK => ?_)
            refine goes_ Tryd.func34 (by kernel_rfl) rfl #[.agg #[.slice A0_0 l0_0.length c0_0, .slice A0_1 l0_1.length c0_1, .int .i64 a0_2, .int .i64 a0_3, .int .i64 a0_4]] (by rfl) rfl rfl (by (try simp only [List.map_toArray, List.map_cons, List.map_nil]); first | done | rfl | (simp only [List.length_drop, List.length_take]; rfl)) ?_
            with_reducible refine (plan_Fit.calls kj57 _ _ l0_0 _ _ l0_1 a0_2 a0_3 a0_4 t395 _ ?side1 ?side2 ?side3 ?side4 ?side5 A77.out).mono ?_
            (case side1 => repeat (first | exact (Kd.V_reads' HO_372000.out).2.2 | (with_reducible refine Kd.C_alloc ?_ _) | (with_reducible refine Kd.C_drewN ?_ _) | (with_reducible refine Kd.C_drew ?_)))
            (case side2 => exact (Kd.V_reads' HO_372000.out).2.1)
            (case side3 => repeat (first | exact (Kd.V_reads' HO_372001.out).2.2 | (with_reducible refine Kd.C_alloc ?_ _) | (with_reducible refine Kd.C_drewN ?_ _) | (with_reducible refine Kd.C_drew ?_)))
            (case side4 => exact (Kd.V_reads' HO_372001.out).2.1)
            (case side5 => first | (with_reducible exact HG.out) | (refine GlobOk.below HG.out ?_; repeat (first | (with_reducible first | exact HB.out | apply below_alloc | apply pw_below_drewN | apply below_drew1 | refine below_set ?_ GE371.out | refine below_set ?_ GE372.out | refine below_set ?_ GE373.out) | exact HB.out)))
            rintro e w93 ⟨rfl, hb⟩
            refine ⟨_, rfl, ?_⟩
            have n0_ := Aside0.mk (Kd.V_below (upV HO_372000.out) hb)
            have n1_ := Aside0.mk (Kd.V_below (upV HO_372001.out) hb)
            have n2_ := Aside0.mk (Kd.V_below (upV HO_373000.out) hb)
            have n3_ := Aside0.mk (Kd.V_below (upV HO_373001.out) hb)
            have n4_ := Aside0.mk (Kd.V_below (upV HO_374000.out) hb)
            have n5_ := Aside0.mk (Kd.V_below (upV HO_374001.out) hb)
            have n6_ := Aside0.mk (Kd.N_below (upN HO385.out) hb)
            have n7_ := Aside0.mk (Kd.N_below (upN HO389.out) hb)
            have n8_ := Aside0.mk (Kd.N_below (upN HO393.out) hb)
            have n9_ := Aside0.mk (blk_below (g := gb371) (o := .cells #[.slice A0_0 l0_0.length c0_0, .slice A0_1 l0_1.length c0_1, .int .i64 a0_2, .int .i64 a0_3, .int .i64 a0_4] 37 (0, 0)) (upB BK371.out) hb)
            have n10_ := Aside0.mk (blk_below (g := gb372) (o := .cells #[.slice A1_0 l1_0.length c1_0, .slice A1_1 l1_1.length c1_1, .int .i64 a1_2, .int .i64 a1_3, .int .i64 a1_4] 37 (0, 0)) (upB BK372.out) hb)
            have n11_ := Aside0.mk (blk_below (g := gb373) (o := .cells #[.slice A2_0 l2_0.length c2_0, .slice A2_1 l2_1.length c2_1, .int .i64 a2_2, .int .i64 a2_3, .int .i64 a2_4] 37 (0, 0)) (upB BK373.out) hb)
            have n12_ := Aside0.mk (below_step (upH HB.out) hb)
            clear HO_372000 HO_372001 HO_373000 HO_373001 HO_374000 HO_374001 HO385 HO389 HO393 BK371 BK372 BK373 HB
            have HO_372000 := n0_
            have HO_372001 := n1_
            have HO_373000 := n2_
            have HO_373001 := n3_
            have HO_374000 := n4_
            have HO_374001 := n5_
            have HO385 := n6_
            have HO389 := n7_
            have HO393 := n8_
            have BK371 := n9_
            have BK372 := n10_
            have BK373 := n11_
            have HB := n12_
            clear n0_ n1_ n2_ n3_ n4_ n5_ n6_ n7_ n8_ n9_ n10_ n11_ n12_
            (try clear hb)
            (try clear hb2)
            (try clear hk)
            (try clear hi)
            refine hK.out _ _ ⟨(blk_cell BK371.out 0).trans rfl, (blk_cell BK371.out 1).trans rfl, (blk_cell BK371.out 2).trans rfl, (blk_cell BK371.out 3).trans rfl, (blk_cell BK371.out 4).trans rfl, (blk_cell BK372.out 0).trans rfl, (blk_cell BK372.out 1).trans rfl, (blk_cell BK372.out 2).trans rfl, (blk_cell BK372.out 3).trans rfl, (blk_cell BK372.out 4).trans rfl, (blk_cell BK373.out 0).trans rfl, (blk_cell BK373.out 1).trans rfl, (blk_cell BK373.out 2).trans rfl, (blk_cell BK373.out 3).trans rfl, (blk_cell BK373.out 4).trans rfl⟩ (fun hHeld => ?_)
            clear hK K
            refine norm_ (a' := ?_) ?_ ?_
            rotate_left
            ·
             show Act.put _ (some 95) _ = _
             simp only [Act.put, List.setIfInBounds_toArray, List.set_cons_zero, List.set_cons_succ, i64_w, i32_w]
             rfl
            refine pure_ (i := 28) (N := some 96) (v := ?_) (a' := ?_) #[true, true, true, true, true, true, true, true, true, true, true, true, true, true, true, true, true, true, true, true, true, true, true, true, true, true, true, true, true, false, false, false, false, false, false, false, false, false, false, false] rfl rfl (any_of HT_.out (by kernel_rfl)) (fun _ _ _ h => h) (Or.inl ⟨by rfl, ?_⟩) ?_ ?_
            rotate_left
            ·
             intro w'
             go_simp
             with_reducible rfl
            rotate_left
            ·
             simp only [Act.put, List.setIfInBounds_toArray, List.set_cons_zero, List.set_cons_succ, i64_w, i32_w]
             rfl
            refine pure_ (i := 29) (N := some 97) (v := ?_) (a' := ?_) #[true, true, true, true, true, true, true, true, true, true, true, true, true, true, true, true, true, true, true, true, true, true, true, true, true, true, true, true, true, true, false, false, false, false, false, false, false, false, false, false] rfl rfl (any_of HT_.out (by kernel_rfl)) (fun _ _ _ h => h) (Or.inl ⟨by rfl, ?_⟩) ?_ ?_
            rotate_left
            ·
             intro w'
             go_simp
             with_reducible rfl
            rotate_left
            ·
             simp only [Act.put, List.setIfInBounds_toArray, List.set_cons_zero, List.set_cons_succ, i64_w, i32_w]
             rfl
            refine pure_ (i := 30) (N := some 98) (v := ?_) (a' := ?_) #[true, true, true, true, true, true, true, true, true, true, true, true, true, true, true, true, true, true, true, true, true, true, true, true, true, true, true, true, true, true, true, false, false, false, false, false, false, false, false, false] rfl rfl (any_of HT_.out (by kernel_rfl)) (fun _ _ _ h => h) (Or.inl ⟨by rfl, ?_⟩) ?_ ?_
            rotate_left
            ·
             intro w'
             go_simp
             with_reducible rfl
            rotate_left
            ·
             simp only [Act.put, List.setIfInBounds_toArray, List.set_cons_zero, List.set_cons_succ, i64_w, i32_w]
             rfl
            refine take_ (i := 31) (N := some 99) (v := ?_) (a' := ?_) #[true, true, true, true, true, true, true, true, true, true, true, true, true, true, true, true, true, true, true, true, true, true, true, true, true, true, true, true, true, true, true, true, false, false, false, false, false, false, false, false] rfl rfl (take_ofW HT_.out HW_.out (by kernel_rfl)) (fun _ _ _ h => h) (Or.inl ⟨by rfl, ?_⟩) hHeld ?_ ?_
            rotate_left
            ·
             rintro w' ⟨s0, s1, s2, s3, s4, s5, s6, s7, s8, s9, s10, s11, s12, s13, s14⟩
             go_simp
             with_reducible rfl
            rotate_left
            ·
             simp only [Act.put, List.setIfInBounds_toArray, List.set_cons_zero, List.set_cons_succ, i64_w, i32_w]
             rfl
            refine take_ (i := 32) (N := some 100) (v := ?_) (a' := ?_) #[true, true, true, true, true, true, true, true, true, true, true, true, true, true, true, true, true, true, true, true, true, true, true, true, true, true, true, true, true, true, true, true, true, false, false, false, false, false, false, false] rfl rfl (take_ofW HT_.out HW_.out (by kernel_rfl)) (fun _ _ _ h => h) (Or.inl ⟨by rfl, ?_⟩) hHeld ?_ ?_
            rotate_left
            ·
             rintro w' ⟨s0, s1, s2, s3, s4, s5, s6, s7, s8, s9, s10, s11, s12, s13, s14⟩
             go_simp
             with_reducible rfl
            rotate_left
            ·
             simp only [Act.put, List.setIfInBounds_toArray, List.set_cons_zero, List.set_cons_succ, i64_w, i32_w]
             rfl
            refine take_ (i := 33) (N := some 101) (v := ?_) (a' := ?_) #[true, true, true, true, true, true, true, true, true, true, true, true, true, true, true, true, true, true, true, true, true, true, true, true, true, true, true, true, true, true, true, true, true, true, false, false, false, false, false, false] rfl rfl (take_ofW HT_.out HW_.out (by kernel_rfl)) (fun _ _ _ h => h) (Or.inl ⟨by rfl, ?_⟩) hHeld ?_ ?_
            rotate_left
            ·
             rintro w' ⟨s0, s1, s2, s3, s4, s5, s6, s7, s8, s9, s10, s11, s12, s13, s14⟩
             go_simp
             with_reducible rfl
            rotate_left
            ·
             simp only [Act.put, List.setIfInBounds_toArray, List.set_cons_zero, List.set_cons_succ, i64_w, i32_w]
             rfl
            refine take_ (i := 34) (N := some 102) (v := ?_) (a' := ?_) #[true, true, true, true, true, true, true, true, true, true, true, true, true, true, true, true, true, true, true, true, true, true, true, true, true, true, true, true, true, true, true, true, true, true, true, false, false, false, false, false] rfl rfl (take_ofW HT_.out HW_.out (by kernel_rfl)) (fun _ _ _ h => h) (Or.inl ⟨by rfl, ?_⟩) hHeld ?_ ?_
            rotate_left
            ·
             rintro w' ⟨s0, s1, s2, s3, s4, s5, s6, s7, s8, s9, s10, s11, s12, s13, s14⟩
             go_simp
             with_reducible rfl
            rotate_left
            ·
             simp only [Act.put, List.setIfInBounds_toArray, List.set_cons_zero, List.set_cons_succ, i64_w, i32_w]
             rfl
            refine one_ (i := 35) (N := some 103) #[true, true, true, true, true, true, true, true, true, true, true, true, true, true, true, true, true, true, true, true, true, true, true, true, true, true, true, true, true, true, true, true, true, true, true, true, false, false, false, false] rfl rfl (one_of HT_.out (by kernel_rfl)) (by decide) (fun K hK => ?_)
            refine Kd.N_lit_step k37 _ 37 ?hg (N' := 103) ?hd (xs := ([(⟨l0_0, l0_1, a0_2, a0_3, a0_4⟩ : S37), (⟨l1_0, l1_1, a1_2, a1_3, a1_4⟩ : S37), (⟨l2_0, l2_1, a2_2, a2_3, a2_4⟩ : S37), (⟨l0_0, l0_1, a0_2, a0_3, a0_4⟩ : S37)] : List (S37))) (inner := [.slice A0_0 l0_0.length c0_0, .slice A0_1 l0_1.length c0_1, .int .i64 a0_2, .int .i64 a0_3, .int .i64 a0_4, .slice A1_0 l1_0.length c1_0, .slice A1_1 l1_1.length c1_1, .int .i64 a1_2, .int .i64 a1_3, .int .i64 a1_4, .slice A2_0 l2_0.length c2_0, .slice A2_1 l2_1.length c2_1, .int .i64 a2_2, .int .i64 a2_3, .int .i64 a2_4, .slice A0_0 l0_0.length c0_0, .slice A0_1 l0_1.length c0_1, .int .i64 a0_2, .int .i64 a0_3, .int .i64 a0_4]) (ok := (fun k_ => ((P0_0_ k_ ∨ P0_1_ k_ ∨ P1_0_ k_ ∨ P1_1_ k_ ∨ P2_0_ k_ ∨ P2_1_ k_) ∨ w.heap.size ≤ k_) ∧ some k_ ≠ (.slice Ao83 y383.length co83 : Value).ownBlock ∧ some k_ ≠ (.slice Ao87 y387.length co87 : Value).ownBlock ∧ some k_ ≠ (.slice Ao91 y391.length co91 : Value).ownBlock ∧ k_ ≠ gb371 ∧ k_ ≠ gb372 ∧ k_ ≠ gb373)) (okp := (fun k_ => ((P0_0_ k_ ∨ P0_1_ k_ ∨ P1_0_ k_ ∨ P1_1_ k_ ∨ P2_0_ k_ ∨ P2_1_ k_) ∨ w.heap.size ≤ k_) ∧ some k_ ≠ (.slice Ao83 y383.length co83 : Value).ownBlock ∧ some k_ ≠ (.slice Ao87 y387.length co87 : Value).ownBlock ∧ some k_ ≠ (.slice Ao91 y391.length co91 : Value).ownBlock ∧ k_ ≠ gb371 ∧ k_ ≠ gb372 ∧ k_ ≠ gb373)) ?hr ?hp (fun _ hk => hk) ((show ∀ k_, w93.heap.size ≤ k_ → (fun k_ => ((P0_0_ k_ ∨ P0_1_ k_ ∨ P1_0_ k_ ∨ P1_1_ k_ ∨ P2_0_ k_ ∨ P2_1_ k_) ∨ w.heap.size ≤ k_) ∧ some k_ ≠ (.slice Ao83 y383.length co83 : Value).ownBlock ∧ some k_ ≠ (.slice Ao87 y387.length co87 : Value).ownBlock ∧ some k_ ≠ (.slice Ao91 y391.length co91 : Value).ownBlock ∧ k_ ≠ gb371 ∧ k_ ≠ gb372 ∧ k_ ≠ gb373) k_ from fun k_ hk => ⟨(.inr (Nat.le_trans (below_size (upH HB.out)) hk)), Kd.fresh' (Kd.N_lt (upN HO385.out)) k_ hk, Kd.fresh' (Kd.N_lt (upN HO389.out)) k_ hk, Kd.fresh' (Kd.N_lt (upN HO393.out)) k_ hk, Kd.freshB (g := gb371) (o := .cells #[.slice A0_0 l0_0.length c0_0, .slice A0_1 l0_1.length c0_1, .int .i64 a0_2, .int .i64 a0_3, .int .i64 a0_4] 37 (0, 0)) (upB BK371.out) k_ hk, Kd.freshB (g := gb372) (o := .cells #[.slice A1_0 l1_0.length c1_0, .slice A1_1 l1_1.length c1_1, .int .i64 a1_2, .int .i64 a1_3, .int .i64 a1_4] 37 (0, 0)) (upB BK372.out) k_ hk, Kd.freshB (g := gb373) (o := .cells #[.slice A2_0 l2_0.length c2_0, .slice A2_1 l2_1.length c2_1, .int .i64 a2_2, .int .i64 a2_3, .int .i64 a2_4] 37 (0, 0)) (upB BK373.out) k_ hk⟩) _ (Nat.le_refl _)) (Below.refl _ _) (Nat.le_refl _) (by simp) ?_; (case hd => rfl); (case hg => rfl); (case hr => first | (go_simp; done) | (go_simp; rfl)); (case hp => exact (Reps.c5 (show Kd.FK k37 _ _ (⟨l0_0, l0_1, a0_2, a0_3, a0_4⟩ : S37) [.slice A0_0 l0_0.length c0_0, .slice A0_1 l0_1.length c0_1, .int .i64 a0_2, .int .i64 a0_3, .int .i64 a0_4] from (k37_mkF _ _ (⟨l0_0, l0_1, a0_2, a0_3, a0_4⟩ : S37) (Kd.V_reads' HO_372000.out).2.1 (Kd.V_F (Kd.V_mono (ok' := (fun k_ => ((P0_0_ k_ ∨ P0_1_ k_ ∨ P1_0_ k_ ∨ P1_1_ k_ ∨ P2_0_ k_ ∨ P2_1_ k_) ∨ w.heap.size ≤ k_) ∧ some k_ ≠ (.slice Ao83 y383.length co83 : Value).ownBlock ∧ some k_ ≠ (.slice Ao87 y387.length co87 : Value).ownBlock ∧ some k_ ≠ (.slice Ao91 y391.length co91 : Value).ownBlock ∧ k_ ≠ gb371 ∧ k_ ≠ gb372 ∧ k_ ≠ gb373)) (HO_372000.out) (fun k_ hk => ⟨hk.1.1.1.1, ⟨hk.1.1.2, ⟨hk.1.2, ⟨hk.2, ⟨hk.1.1.1.2.1, ⟨hk.1.1.1.2.2.1, hk.1.1.1.2.2.2⟩⟩⟩⟩⟩⟩))) (Kd.V_reads' HO_372001.out).2.1 (Kd.V_F (Kd.V_mono (ok' := (fun k_ => ((P0_0_ k_ ∨ P0_1_ k_ ∨ P1_0_ k_ ∨ P1_1_ k_ ∨ P2_0_ k_ ∨ P2_1_ k_) ∨ w.heap.size ≤ k_) ∧ some k_ ≠ (.slice Ao83 y383.length co83 : Value).ownBlock ∧ some k_ ≠ (.slice Ao87 y387.length co87 : Value).ownBlock ∧ some k_ ≠ (.slice Ao91 y391.length co91 : Value).ownBlock ∧ k_ ≠ gb371 ∧ k_ ≠ gb372 ∧ k_ ≠ gb373)) (HO_372001.out) (fun k_ hk => ⟨hk.1.1.1.1, ⟨hk.1.1.2, ⟨hk.1.2, ⟨hk.2, ⟨hk.1.1.1.2.1, ⟨hk.1.1.1.2.2.1, hk.1.1.1.2.2.2⟩⟩⟩⟩⟩⟩))))) (Reps.c5 (show Kd.FK k37 _ _ (⟨l1_0, l1_1, a1_2, a1_3, a1_4⟩ : S37) [.slice A1_0 l1_0.length c1_0, .slice A1_1 l1_1.length c1_1, .int .i64 a1_2, .int .i64 a1_3, .int .i64 a1_4] from (k37_mkF _ _ (⟨l1_0, l1_1, a1_2, a1_3, a1_4⟩ : S37) (Kd.V_reads' HO_373000.out).2.1 (Kd.V_F (Kd.V_mono (ok' := (fun k_ => ((P0_0_ k_ ∨ P0_1_ k_ ∨ P1_0_ k_ ∨ P1_1_ k_ ∨ P2_0_ k_ ∨ P2_1_ k_) ∨ w.heap.size ≤ k_) ∧ some k_ ≠ (.slice Ao83 y383.length co83 : Value).ownBlock ∧ some k_ ≠ (.slice Ao87 y387.length co87 : Value).ownBlock ∧ some k_ ≠ (.slice Ao91 y391.length co91 : Value).ownBlock ∧ k_ ≠ gb371 ∧ k_ ≠ gb372 ∧ k_ ≠ gb373)) (HO_373000.out) (fun k_ hk => ⟨hk.1.1.1.1, ⟨hk.1.1.2, ⟨hk.1.2, ⟨hk.2, ⟨hk.1.1.1.2.1, ⟨hk.1.1.1.2.2.1, hk.1.1.1.2.2.2⟩⟩⟩⟩⟩⟩))) (Kd.V_reads' HO_373001.out).2.1 (Kd.V_F (Kd.V_mono (ok' := (fun k_ => ((P0_0_ k_ ∨ P0_1_ k_ ∨ P1_0_ k_ ∨ P1_1_ k_ ∨ P2_0_ k_ ∨ P2_1_ k_) ∨ w.heap.size ≤ k_) ∧ some k_ ≠ (.slice Ao83 y383.length co83 : Value).ownBlock ∧ some k_ ≠ (.slice Ao87 y387.length co87 : Value).ownBlock ∧ some k_ ≠ (.slice Ao91 y391.length co91 : Value).ownBlock ∧ k_ ≠ gb371 ∧ k_ ≠ gb372 ∧ k_ ≠ gb373)) (HO_373001.out) (fun k_ hk => ⟨hk.1.1.1.1, ⟨hk.1.1.2, ⟨hk.1.2, ⟨hk.2, ⟨hk.1.1.1.2.1, ⟨hk.1.1.1.2.2.1, hk.1.1.1.2.2.2⟩⟩⟩⟩⟩⟩))))) (Reps.c5 (show Kd.FK k37 _ _ (⟨l2_0, l2_1, a2_2, a2_3, a2_4⟩ : S37) [.slice A2_0 l2_0.length c2_0, .slice A2_1 l2_1.length c2_1, .int .i64 a2_2, .int .i64 a2_3, .int .i64 a2_4] from (k37_mkF _ _ (⟨l2_0, l2_1, a2_2, a2_3, a2_4⟩ : S37) (Kd.V_reads' HO_374000.out).2.1 (Kd.V_F (Kd.V_mono (ok' := (fun k_ => ((P0_0_ k_ ∨ P0_1_ k_ ∨ P1_0_ k_ ∨ P1_1_ k_ ∨ P2_0_ k_ ∨ P2_1_ k_) ∨ w.heap.size ≤ k_) ∧ some k_ ≠ (.slice Ao83 y383.length co83 : Value).ownBlock ∧ some k_ ≠ (.slice Ao87 y387.length co87 : Value).ownBlock ∧ some k_ ≠ (.slice Ao91 y391.length co91 : Value).ownBlock ∧ k_ ≠ gb371 ∧ k_ ≠ gb372 ∧ k_ ≠ gb373)) (HO_374000.out) (fun k_ hk => ⟨hk.1.1.1.1, ⟨hk.1.1.2, ⟨hk.1.2, ⟨hk.2, ⟨hk.1.1.1.2.1, ⟨hk.1.1.1.2.2.1, hk.1.1.1.2.2.2⟩⟩⟩⟩⟩⟩))) (Kd.V_reads' HO_374001.out).2.1 (Kd.V_F (Kd.V_mono (ok' := (fun k_ => ((P0_0_ k_ ∨ P0_1_ k_ ∨ P1_0_ k_ ∨ P1_1_ k_ ∨ P2_0_ k_ ∨ P2_1_ k_) ∨ w.heap.size ≤ k_) ∧ some k_ ≠ (.slice Ao83 y383.length co83 : Value).ownBlock ∧ some k_ ≠ (.slice Ao87 y387.length co87 : Value).ownBlock ∧ some k_ ≠ (.slice Ao91 y391.length co91 : Value).ownBlock ∧ k_ ≠ gb371 ∧ k_ ≠ gb372 ∧ k_ ≠ gb373)) (HO_374001.out) (fun k_ hk => ⟨hk.1.1.1.1, ⟨hk.1.1.2, ⟨hk.1.2, ⟨hk.2, ⟨hk.1.1.1.2.1, ⟨hk.1.1.1.2.2.1, hk.1.1.1.2.2.2⟩⟩⟩⟩⟩⟩))))) (Reps.c5 (show Kd.FK k37 _ _ (⟨l0_0, l0_1, a0_2, a0_3, a0_4⟩ : S37) [.slice A0_0 l0_0.length c0_0, .slice A0_1 l0_1.length c0_1, .int .i64 a0_2, .int .i64 a0_3, .int .i64 a0_4] from (k37_mkF _ _ (⟨l0_0, l0_1, a0_2, a0_3, a0_4⟩ : S37) (Kd.V_reads' HO_372000.out).2.1 (Kd.V_F (Kd.V_mono (ok' := (fun k_ => ((P0_0_ k_ ∨ P0_1_ k_ ∨ P1_0_ k_ ∨ P1_1_ k_ ∨ P2_0_ k_ ∨ P2_1_ k_) ∨ w.heap.size ≤ k_) ∧ some k_ ≠ (.slice Ao83 y383.length co83 : Value).ownBlock ∧ some k_ ≠ (.slice Ao87 y387.length co87 : Value).ownBlock ∧ some k_ ≠ (.slice Ao91 y391.length co91 : Value).ownBlock ∧ k_ ≠ gb371 ∧ k_ ≠ gb372 ∧ k_ ≠ gb373)) (HO_372000.out) (fun k_ hk => ⟨hk.1.1.1.1, ⟨hk.1.1.2, ⟨hk.1.2, ⟨hk.2, ⟨hk.1.1.1.2.1, ⟨hk.1.1.1.2.2.1, hk.1.1.1.2.2.2⟩⟩⟩⟩⟩⟩))) (Kd.V_reads' HO_372001.out).2.1 (Kd.V_F (Kd.V_mono (ok' := (fun k_ => ((P0_0_ k_ ∨ P0_1_ k_ ∨ P1_0_ k_ ∨ P1_1_ k_ ∨ P2_0_ k_ ∨ P2_1_ k_) ∨ w.heap.size ≤ k_) ∧ some k_ ≠ (.slice Ao83 y383.length co83 : Value).ownBlock ∧ some k_ ≠ (.slice Ao87 y387.length co87 : Value).ownBlock ∧ some k_ ≠ (.slice Ao91 y391.length co91 : Value).ownBlock ∧ k_ ≠ gb371 ∧ k_ ≠ gb372 ∧ k_ ≠ gb373)) (HO_372001.out) (fun k_ hk => ⟨hk.1.1.1.1, ⟨hk.1.1.2, ⟨hk.1.2, ⟨hk.2, ⟨hk.1.1.1.2.1, ⟨hk.1.1.1.2.2.1, hk.1.1.1.2.2.2⟩⟩⟩⟩⟩⟩))))) (Reps.none _ _))))))
            intro v397 w94 ho95 hb hg_ hnew_
            clear hg_ hnew_
            (first | rw [← Ny396.out] at ho95 | (simp only [Int.reduceToNat] at ho95; rw [← Ny396.out] at ho95))
            have n0_ := Aside0.mk (Kd.V_elder' (upV HO_372000.out) (Kd.N_base ho95) hb)
            have n1_ := Aside0.mk (Kd.V_elder' (upV HO_372001.out) (Kd.N_base ho95) hb)
            have n2_ := Aside0.mk (Kd.V_elder' (upV HO_373000.out) (Kd.N_base ho95) hb)
            have n3_ := Aside0.mk (Kd.V_elder' (upV HO_373001.out) (Kd.N_base ho95) hb)
            have n4_ := Aside0.mk (Kd.V_elder' (upV HO_374000.out) (Kd.N_base ho95) hb)
            have n5_ := Aside0.mk (Kd.V_elder' (upV HO_374001.out) (Kd.N_base ho95) hb)
            have n6_ := Aside0.mk (Kd.N_elder' (upN HO385.out) (Kd.N_base ho95) hb)
            have n7_ := Aside0.mk (Kd.N_elder' (upN HO389.out) (Kd.N_base ho95) hb)
            have n8_ := Aside0.mk (Kd.N_elder' (upN HO393.out) (Kd.N_base ho95) hb)
            have n9_ := Aside0.mk (Kd.N_lower ho95 (below_size (upH HB.out)))
            have n10_ := Aside0.mk (blk_below (g := gb371) (o := .cells #[.slice A0_0 l0_0.length c0_0, .slice A0_1 l0_1.length c0_1, .int .i64 a0_2, .int .i64 a0_3, .int .i64 a0_4] 37 (0, 0)) (upB BK371.out) hb)
            have n11_ := Aside0.mk (blk_below (g := gb372) (o := .cells #[.slice A1_0 l1_0.length c1_0, .slice A1_1 l1_1.length c1_1, .int .i64 a1_2, .int .i64 a1_3, .int .i64 a1_4] 37 (0, 0)) (upB BK372.out) hb)
            have n12_ := Aside0.mk (blk_below (g := gb373) (o := .cells #[.slice A2_0 l2_0.length c2_0, .slice A2_1 l2_1.length c2_1, .int .i64 a2_2, .int .i64 a2_3, .int .i64 a2_4] 37 (0, 0)) (upB BK373.out) hb)
            have n13_ := Aside0.mk (below_step (upH HB.out) hb)
            clear HO_372000 HO_372001 HO_373000 HO_373001 HO_374000 HO_374001 HO385 HO389 HO393 BK371 BK372 BK373 HB
            have HO_372000 := n0_
            have HO_372001 := n1_
            have HO_373000 := n2_
            have HO_373001 := n3_
            have HO_374000 := n4_
            have HO_374001 := n5_
            have HO385 := n6_
            have HO389 := n7_
            have HO393 := n8_
            have HO398 := n9_
            have BK371 := n10_
            have BK372 := n11_
            have BK373 := n12_
            have HB := n13_
            clear n0_ n1_ n2_ n3_ n4_ n5_ n6_ n7_ n8_ n9_ n10_ n11_ n12_ n13_
            clear hb ho95
            obtain ⟨Ao96, co96, eo96⟩ := Kd.N_slice HO398.out
            (first | subst eo96 | (injection eo96 with f1_ f2_ f3_; have f4_ := f1_.symm; have f5_ := f3_.symm; clear f1_ f2_ f3_; subst f4_; subst f5_))
            refine hK.out _ _ ⟨(blk_cell BK371.out 0).trans rfl, (blk_cell BK371.out 1).trans rfl, (blk_cell BK371.out 2).trans rfl, (blk_cell BK371.out 3).trans rfl, (blk_cell BK371.out 4).trans rfl, (blk_cell BK372.out 0).trans rfl, (blk_cell BK372.out 1).trans rfl, (blk_cell BK372.out 2).trans rfl, (blk_cell BK372.out 3).trans rfl, (blk_cell BK372.out 4).trans rfl, (blk_cell BK373.out 0).trans rfl, (blk_cell BK373.out 1).trans rfl, (blk_cell BK373.out 2).trans rfl, (blk_cell BK373.out 3).trans rfl, (blk_cell BK373.out 4).trans rfl⟩ (fun hHeld => ?_)
            clear hK K
            refine norm_ (a' := ?_) ?_ ?_
            rotate_left
            ·
             show Act.put _ (some 103) _ = _
             simp only [Act.put, List.setIfInBounds_toArray, List.set_cons_zero, List.set_cons_succ, i64_w, i32_w]
             rfl
            refine one_ (i := 36) (N := some 104) #[true, true, true, true, true, true, true, true, true, true, true, true, true, true, true, true, true, true, true, true, true, true, true, true, true, true, true, true, true, true, true, true, true, true, true, true, true, false, false, false] rfl rfl (one_of HT_.out (by kernel_rfl)) (by decide) (fun K hK => ?_)
            refine goes_ Tryd.func35 (by kernel_rfl) rfl #[.slice Ao96 y396.length co96] (by rfl) rfl rfl (by (try simp only [List.map_toArray, List.map_cons, List.map_nil]); first | done | rfl | (simp only [List.length_drop, List.length_take]; rfl)) ?_
            with_reducible refine (plan_All.calls _ _ y396 t399 _ ?side1 ?side2 ?side3 A79.out).mono ?_
            (case side1 => repeat (first | exact (Kd.N_reads' HO398.out).2.2 | (with_reducible refine Kd.C_alloc ?_ _) | (with_reducible refine Kd.C_drewN ?_ _) | (with_reducible refine Kd.C_drew ?_)))
            (case side2 => exact (Kd.N_reads' HO398.out).2.1)
            (case side3 => first | (with_reducible exact HG.out) | (refine GlobOk.below HG.out ?_; repeat (first | (with_reducible first | exact HB.out | apply below_alloc | apply pw_below_drewN | apply below_drew1 | refine below_set ?_ GE371.out | refine below_set ?_ GE372.out | refine below_set ?_ GE373.out) | exact HB.out)))
            rintro e w97 ⟨rfl, hb⟩
            refine ⟨_, rfl, ?_⟩
            have n0_ := Aside0.mk (Kd.V_below (upV HO_372000.out) hb)
            have n1_ := Aside0.mk (Kd.V_below (upV HO_372001.out) hb)
            have n2_ := Aside0.mk (Kd.V_below (upV HO_373000.out) hb)
            have n3_ := Aside0.mk (Kd.V_below (upV HO_373001.out) hb)
            have n4_ := Aside0.mk (Kd.V_below (upV HO_374000.out) hb)
            have n5_ := Aside0.mk (Kd.V_below (upV HO_374001.out) hb)
            have n6_ := Aside0.mk (Kd.N_below (upN HO385.out) hb)
            have n7_ := Aside0.mk (Kd.N_below (upN HO389.out) hb)
            have n8_ := Aside0.mk (Kd.N_below (upN HO393.out) hb)
            have n9_ := Aside0.mk (Kd.N_below (upN HO398.out) hb)
            have n10_ := Aside0.mk (blk_below (g := gb371) (o := .cells #[.slice A0_0 l0_0.length c0_0, .slice A0_1 l0_1.length c0_1, .int .i64 a0_2, .int .i64 a0_3, .int .i64 a0_4] 37 (0, 0)) (upB BK371.out) hb)
            have n11_ := Aside0.mk (blk_below (g := gb372) (o := .cells #[.slice A1_0 l1_0.length c1_0, .slice A1_1 l1_1.length c1_1, .int .i64 a1_2, .int .i64 a1_3, .int .i64 a1_4] 37 (0, 0)) (upB BK372.out) hb)
            have n12_ := Aside0.mk (blk_below (g := gb373) (o := .cells #[.slice A2_0 l2_0.length c2_0, .slice A2_1 l2_1.length c2_1, .int .i64 a2_2, .int .i64 a2_3, .int .i64 a2_4] 37 (0, 0)) (upB BK373.out) hb)
            have n13_ := Aside0.mk (below_step (upH HB.out) hb)
            clear HO_372000 HO_372001 HO_373000 HO_373001 HO_374000 HO_374001 HO385 HO389 HO393 HO398 BK371 BK372 BK373 HB
            have HO_372000 := n0_
            have HO_372001 := n1_
            have HO_373000 := n2_
            have HO_373001 := n3_
            have HO_374000 := n4_
            have HO_374001 := n5_
            have HO385 := n6_
            have HO389 := n7_
            have HO393 := n8_
            have HO398 := n9_
            have BK371 := n10_
            have BK372 := n11_
            have BK373 := n12_
            have HB := n13_
            clear n0_ n1_ n2_ n3_ n4_ n5_ n6_ n7_ n8_ n9_ n10_ n11_ n12_ n13_
            (try clear hb)
            (try clear hb2)
            (try clear hk)
            (try clear hi)
            refine hK.out _ _ ⟨(blk_cell BK371.out 0).trans rfl, (blk_cell BK371.out 1).trans rfl, (blk_cell BK371.out 2).trans rfl, (blk_cell BK371.out 3).trans rfl, (blk_cell BK371.out 4).trans rfl, (blk_cell BK372.out 0).trans rfl, (blk_cell BK372.out 1).trans rfl, (blk_cell BK372.out 2).trans rfl, (blk_cell BK372.out 3).trans rfl, (blk_cell BK372.out 4).trans rfl, (blk_cell BK373.out 0).trans rfl, (blk_cell BK373.out 1).trans rfl, (blk_cell BK373.out 2).trans rfl, (blk_cell BK373.out 3).trans rfl, (blk_cell BK373.out 4).trans rfl⟩ (fun hHeld => ?_)
            clear hK K
            refine norm_ (a' := ?_) ?_ ?_
            rotate_left
            ·
             show Act.put _ (some 104) _ = _
             simp only [Act.put, List.setIfInBounds_toArray, List.set_cons_zero, List.set_cons_succ, i64_w, i32_w]
             rfl
            refine pure_ (i := 37) (N := some 105) (v := ?_) (a' := ?_) #[true, true, true, true, true, true, true, true, true, true, true, true, true, true, true, true, true, true, true, true, true, true, true, true, true, true, true, true, true, true, true, true, true, true, true, true, true, true, false, false] rfl rfl (any_of HT_.out (by kernel_rfl)) (fun _ _ _ h => h) (Or.inl ⟨by rfl, ?_⟩) ?_ ?_
            rotate_left
            ·
             intro w'
             go_simp
             with_reducible rfl
            rotate_left
            ·
             simp only [Act.put, List.setIfInBounds_toArray, List.set_cons_zero, List.set_cons_succ, i64_w, i32_w]
             rfl
            refine pure_ (i := 38) (N := some 106) (v := ?_) (a' := ?_) #[true, true, true, true, true, true, true, true, true, true, true, true, true, true, true, true, true, true, true, true, true, true, true, true, true, true, true, true, true, true, true, true, true, true, true, true, true, true, true, false] rfl rfl (any_of HT_.out (by kernel_rfl)) (fun _ _ _ h => h) (Or.inl ⟨by rfl, ?_⟩) ?_ ?_
            rotate_left
            ·
             intro w'
             go_simp
             with_reducible rfl
            rotate_left
            ·
             simp only [Act.put, List.setIfInBounds_toArray, List.set_cons_zero, List.set_cons_succ, i64_w, i32_w]
             rfl
            refine pure_ (i := 39) (N := some 6) (v := ?_) (a' := ?_) #[true, true, true, true, true, true, true, true, true, true, true, true, true, true, true, true, true, true, true, true, true, true, true, true, true, true, true, true, true, true, true, true, true, true, true, true, true, true, true, true] rfl rfl (any_of HT_.out (by kernel_rfl)) (fun _ _ _ h => h) (Or.inl ⟨by rfl, ?_⟩) ?_ ?_
            rotate_left
            ·
             intro w'
             go_simp
             with_reducible rfl
            rotate_left
            ·
             simp only [Act.put, List.setIfInBounds_toArray, List.set_cons_zero, List.set_cons_succ, i64_w, i32_w]
             rfl
            refine done_ (done_of HT_.out (by kernel_rfl)) ?_
            try go_wp2
            go_ret
            exact ⟨by first | rfl | (simp [errW_none, errW_some] <;> rfl) | (simp [*, errW_none, errW_some] <;> rfl), by repeat (first | (with_reducible first | exact HB.out | apply below_alloc | apply pw_below_drewN | apply below_drew1 | refine below_set ?_ GE371.out | refine below_set ?_ GE372.out | refine below_set ?_ GE373.out) | exact HB.out)⟩
           ·
            rw [if_neg c78] at H
            have c78b0 : (t394 == t395) = false := by simpa using c78
            (try (have c78b1 : decide (t394 = t395) = false := by simpa using c78))
            (try (have c78b2 : (t394 == t395) = false := by simpa using c78))
            (try (have c78b3 : ¬ (t394 = t395) := by simpa using c78))
            clear c78
            exact absurd (Option.some.inj H) (by rw [HRR.out]; decide)
          ·
           rw [if_neg c75] at H
           have c75b0 : (t390 == x12_57) = false := by simpa using c75
           (try (have c75b1 : decide (t390 = x12_57) = false := by simpa using c75))
           (try (have c75b2 : (t390 == x12_57) = false := by simpa using c75))
           (try (have c75b3 : ¬ (t390 = x12_57) := by simpa using c75))
           clear c75
           exact absurd (Option.some.inj H) (by rw [HRR.out]; decide)
         ·
          rw [if_neg c73] at H
          have c73b0 : (t386 == x12_57) = false := by simpa using c73
          (try (have c73b1 : decide (t386 = x12_57) = false := by simpa using c73))
          (try (have c73b2 : (t386 == x12_57) = false := by simpa using c73))
          (try (have c73b3 : ¬ (t386 = x12_57) := by simpa using c73))
          clear c73
          exact absurd (Option.some.inj H) (by rw [HRR.out]; decide)
        ·
         replace c72 := Bool.eq_false_iff.mpr c72
         subst c72
         have H1 : (if (t386 == false) = true then ((plan_All.f (([(⟨l2_0, l2_1, a2_2, a2_3, a2_4⟩ : S37), (⟨l0_0, l0_1, a0_2, a0_3, a0_4⟩ : S37), (⟨l1_0, l1_1, a1_2, a1_3, a1_4⟩ : S37)] : List (S37)))).bind fun t403 => (if (t403 == false) = true then ((plan_All.f (([(⟨l0_0, l0_1, a0_2, a0_3, a0_4⟩ : S37)] : List (S37)))).bind fun t407 => ((plan_Fit.f kj57 l0_0 l0_1 a0_2 a0_3 a0_4).bind fun t408 => (if (t407 == t408) = true then ((plan_All.f (([(⟨l0_0, l0_1, a0_2, a0_3, a0_4⟩ : S37), (⟨l1_0, l1_1, a1_2, a1_3, a1_4⟩ : S37), (⟨l2_0, l2_1, a2_2, a2_3, a2_4⟩ : S37), (⟨l0_0, l0_1, a0_2, a0_3, a0_4⟩ : S37)] : List (S37)))).bind fun t412 => (some (!t412))) else (some false)))) else (some false))) else (some false)) = some r := by rw [if_neg (show ¬ (false = true) by decide)] at H; exact H
         clear H
         have H := H1
         clear H1
         by_cases c126 : (t386 == false) = true
         ·
          rw [if_pos c126] at H
          have c126b0 : (t386 == false) = true := c126
          (try (have c126b1 : decide (t386 = false) = true := by simpa using c126))
          (try (have c126b2 : (t386 == false) = true := by simpa using c126))
          clear c126
          obtain ⟨y400, hy400⟩ : ∃ y_ : List (S37), y_ = (([(⟨l2_0, l2_1, a2_2, a2_3, a2_4⟩ : S37), (⟨l0_0, l0_1, a0_2, a0_3, a0_4⟩ : S37), (⟨l1_0, l1_1, a1_2, a1_3, a1_4⟩ : S37)] : List (S37))) := ⟨_, rfl⟩
          replace H : ((plan_All.f y400).bind fun t403 => (if (t403 == false) = true then ((plan_All.f (([(⟨l0_0, l0_1, a0_2, a0_3, a0_4⟩ : S37)] : List (S37)))).bind fun t407 => ((plan_Fit.f kj57 l0_0 l0_1 a0_2 a0_3 a0_4).bind fun t408 => (if (t407 == t408) = true then ((plan_All.f (([(⟨l0_0, l0_1, a0_2, a0_3, a0_4⟩ : S37), (⟨l1_0, l1_1, a1_2, a1_3, a1_4⟩ : S37), (⟨l2_0, l2_1, a2_2, a2_3, a2_4⟩ : S37), (⟨l0_0, l0_1, a0_2, a0_3, a0_4⟩ : S37)] : List (S37)))).bind fun t412 => (some (!t412))) else (some false)))) else (some false))) = some r := by first | (rw [hy400]; with_reducible exact H) | (have H2_ := (Option.bind_some _ _).symm.trans H; rw [hy400]; with_reducible exact H2_) | (have H2_ := (Option.bind_some _ _).symm.trans H; with_reducible exact H2_) | with_reducible exact H | (rw [hy400]; exact H) | exact H
          have Ny400 := Aside0.mk hy400
          clear hy400
          replace H := Option.bind_eq_some_iff.mp H
          obtain ⟨t403, A1270, H⟩ := H
          replace H : (if (t403 == false) = true then ((plan_All.f (([(⟨l0_0, l0_1, a0_2, a0_3, a0_4⟩ : S37)] : List (S37)))).bind fun t407 => ((plan_Fit.f kj57 l0_0 l0_1 a0_2 a0_3 a0_4).bind fun t408 => (if (t407 == t408) = true then ((plan_All.f (([(⟨l0_0, l0_1, a0_2, a0_3, a0_4⟩ : S37), (⟨l1_0, l1_1, a1_2, a1_3, a1_4⟩ : S37), (⟨l2_0, l2_1, a2_2, a2_3, a2_4⟩ : S37), (⟨l0_0, l0_1, a0_2, a0_3, a0_4⟩ : S37)] : List (S37)))).bind fun t412 => (some (!t412))) else (some false)))) else (some false)) = some r := H
          have A127 := Aside0.mk A1270
          clear A1270
          by_cases c128 : (t403 == false) = true
          ·
           rw [if_pos c128] at H
           have c128b0 : (t403 == false) = true := c128
           (try (have c128b1 : decide (t403 = false) = true := by simpa using c128))
           (try (have c128b2 : (t403 == false) = true := by simpa using c128))
           clear c128
           obtain ⟨y404, hy404⟩ : ∃ y_ : List (S37), y_ = (([(⟨l0_0, l0_1, a0_2, a0_3, a0_4⟩ : S37)] : List (S37))) := ⟨_, rfl⟩
           replace H : ((plan_All.f y404).bind fun t407 => ((plan_Fit.f kj57 l0_0 l0_1 a0_2 a0_3 a0_4).bind fun t408 => (if (t407 == t408) = true then ((plan_All.f (([(⟨l0_0, l0_1, a0_2, a0_3, a0_4⟩ : S37), (⟨l1_0, l1_1, a1_2, a1_3, a1_4⟩ : S37), (⟨l2_0, l2_1, a2_2, a2_3, a2_4⟩ : S37), (⟨l0_0, l0_1, a0_2, a0_3, a0_4⟩ : S37)] : List (S37)))).bind fun t412 => (some (!t412))) else (some false)))) = some r := by first | (rw [hy404]; with_reducible exact H) | (have H2_ := (Option.bind_some _ _).symm.trans H; rw [hy404]; with_reducible exact H2_) | (have H2_ := (Option.bind_some _ _).symm.trans H; with_reducible exact H2_) | with_reducible exact H | (rw [hy404]; exact H) | exact H
           have Ny404 := Aside0.mk hy404
           clear hy404
           replace H := Option.bind_eq_some_iff.mp H
           obtain ⟨t407, A1290, H⟩ := H
           replace H : ((plan_Fit.f kj57 l0_0 l0_1 a0_2 a0_3 a0_4).bind fun t408 => (if (t407 == t408) = true then ((plan_All.f (([(⟨l0_0, l0_1, a0_2, a0_3, a0_4⟩ : S37), (⟨l1_0, l1_1, a1_2, a1_3, a1_4⟩ : S37), (⟨l2_0, l2_1, a2_2, a2_3, a2_4⟩ : S37), (⟨l0_0, l0_1, a0_2, a0_3, a0_4⟩ : S37)] : List (S37)))).bind fun t412 => (some (!t412))) else (some false))) = some r := H
           have A129 := Aside0.mk A1290
           clear A1290
           replace H := Option.bind_eq_some_iff.mp H
           obtain ⟨t408, A1300, H⟩ := H
           replace H : (if (t407 == t408) = true then ((plan_All.f (([(⟨l0_0, l0_1, a0_2, a0_3, a0_4⟩ : S37), (⟨l1_0, l1_1, a1_2, a1_3, a1_4⟩ : S37), (⟨l2_0, l2_1, a2_2, a2_3, a2_4⟩ : S37), (⟨l0_0, l0_1, a0_2, a0_3, a0_4⟩ : S37)] : List (S37)))).bind fun t412 => (some (!t412))) else (some false)) = some r := H
           have A130 := Aside0.mk A1300
           clear A1300
           by_cases c131 : (t407 == t408) = true
           ·
            rw [if_pos c131] at H
            have c131b0 : (t407 == t408) = true := c131
            (try (have c131b1 : decide (t407 = t408) = true := by simpa using c131))
            (try (have c131b2 : (t407 == t408) = true := by simpa using c131))
            clear c131
            obtain ⟨y409, hy409⟩ : ∃ y_ : List (S37), y_ = (([(⟨l0_0, l0_1, a0_2, a0_3, a0_4⟩ : S37), (⟨l1_0, l1_1, a1_2, a1_3, a1_4⟩ : S37), (⟨l2_0, l2_1, a2_2, a2_3, a2_4⟩ : S37), (⟨l0_0, l0_1, a0_2, a0_3, a0_4⟩ : S37)] : List (S37))) := ⟨_, rfl⟩
            replace H : ((plan_All.f y409).bind fun t412 => (some (!t412))) = some r := by first | (rw [hy409]; with_reducible exact H) | (have H2_ := (Option.bind_some _ _).symm.trans H; rw [hy409]; with_reducible exact H2_) | (have H2_ := (Option.bind_some _ _).symm.trans H; with_reducible exact H2_) | with_reducible exact H | (rw [hy409]; exact H) | exact H
            have Ny409 := Aside0.mk hy409
            clear hy409
            replace H := Option.bind_eq_some_iff.mp H
            obtain ⟨t412, A1320, H⟩ := H
            replace H : (some (!t412)) = some r := H
            have A132 := Aside0.mk A1320
            clear A1320
            obtain rfl := Option.some.inj H
            try go_wp2
            have n0_ := Aside0.mk (Kd.V_drew HO_372000.out)
            have n1_ := Aside0.mk (Kd.V_drew HO_372001.out)
            have n2_ := Aside0.mk (Kd.V_drew HO_373000.out)
            have n3_ := Aside0.mk (Kd.V_drew HO_373001.out)
            have n4_ := Aside0.mk (Kd.V_drew HO_374000.out)
            have n5_ := Aside0.mk (Kd.V_drew HO_374001.out)
            have n6_ := Aside0.mk (blk_drew BK371.out)
            have n7_ := Aside0.mk (blk_drew BK372.out)
            have n8_ := Aside0.mk (blk_drew BK373.out)
            have n9_ := Aside0.mk (below_drew1 HB.out)
            clear HO_372000 HO_372001 HO_373000 HO_373001 HO_374000 HO_374001 BK371 BK372 BK373 HB
            have HO_372000 := n0_
            have HO_372001 := n1_
            have HO_373000 := n2_
            have HO_373001 := n3_
            have HO_374000 := n4_
            have HO_374001 := n5_
            have BK371 := n6_
            have BK372 := n7_
            have BK373 := n8_
            have HB := n9_
            clear n0_ n1_ n2_ n3_ n4_ n5_ n6_ n7_ n8_ n9_
            refine start_ (n := 40) (S := fun w' => w'.cell? ⟨gb371, 0, none⟩ = some (.slice A0_0 l0_0.length c0_0) ∧ w'.cell? ⟨gb371, 1, none⟩ = some (.slice A0_1 l0_1.length c0_1) ∧ w'.cell? ⟨gb371, 2, none⟩ = some (.int .i64 a0_2) ∧ w'.cell? ⟨gb371, 3, none⟩ = some (.int .i64 a0_3) ∧ w'.cell? ⟨gb371, 4, none⟩ = some (.int .i64 a0_4) ∧ w'.cell? ⟨gb372, 0, none⟩ = some (.slice A1_0 l1_0.length c1_0) ∧ w'.cell? ⟨gb372, 1, none⟩ = some (.slice A1_1 l1_1.length c1_1) ∧ w'.cell? ⟨gb372, 2, none⟩ = some (.int .i64 a1_2) ∧ w'.cell? ⟨gb372, 3, none⟩ = some (.int .i64 a1_3) ∧ w'.cell? ⟨gb372, 4, none⟩ = some (.int .i64 a1_4) ∧ w'.cell? ⟨gb373, 0, none⟩ = some (.slice A2_0 l2_0.length c2_0) ∧ w'.cell? ⟨gb373, 1, none⟩ = some (.slice A2_1 l2_1.length c2_1) ∧ w'.cell? ⟨gb373, 2, none⟩ = some (.int .i64 a2_2) ∧ w'.cell? ⟨gb373, 3, none⟩ = some (.int .i64 a2_3) ∧ w'.cell? ⟨gb373, 4, none⟩ = some (.int .i64 a2_4)) (ds := []) #[false, false, false, false, false, false, false, false, false, false, false, false, false, false, false, false, false, false, false, false, false, false, false, false, false, false, false, false, false, false, false, false, false, false, false, false, false, false, false, false] (by kernel_rfl) rfl rfl ⟨(blk_cell BK371.out 0).trans rfl, (blk_cell BK371.out 1).trans rfl, (blk_cell BK371.out 2).trans rfl, (blk_cell BK371.out 3).trans rfl, (blk_cell BK371.out 4).trans rfl, (blk_cell BK372.out 0).trans rfl, (blk_cell BK372.out 1).trans rfl, (blk_cell BK372.out 2).trans rfl, (blk_cell BK372.out 3).trans rfl, (blk_cell BK372.out 4).trans rfl, (blk_cell BK373.out 0).trans rfl, (blk_cell BK373.out 1).trans rfl, (blk_cell BK373.out 2).trans rfl, (blk_cell BK373.out 3).trans rfl, (blk_cell BK373.out 4).trans rfl⟩ (fun hHeld => ?_); refine with_tabW pelicanlaw14_PlanAll.tab9 pelicanlaw14_PlanAll.bits9 (fun HT_ HW_ => ?_)
            generalize wc.drew = w133 at HO_372000 HO_372001 HO_373000 HO_373001 HO_374000 HO_374001 BK371 BK372 BK373 HB hHeld ⊢
            refine pure_ (i := 5) (N := some 73) (v := ?_) (a' := ?_) #[false, false, false, false, false, true, false, false, false, false, false, false, false, false, false, false, false, false, false, false, false, false, false, false, false, false, false, false, false, false, false, false, false, false, false, false, false, false, false, false] rfl rfl (any_of HT_.out (by kernel_rfl)) (fun _ _ _ h => h) (Or.inl ⟨by rfl, ?_⟩) ?_ ?_
            rotate_left
            ·
             intro w'
             go_simp
             with_reducible rfl
            rotate_left
            ·
             simp only [Act.put, List.setIfInBounds_toArray, List.set_cons_zero, List.set_cons_succ, i64_w, i32_w]
             rfl
            refine take_ (i := 0) (N := some 68) (v := ?_) (a' := ?_) #[true, false, false, false, false, true, false, false, false, false, false, false, false, false, false, false, false, false, false, false, false, false, false, false, false, false, false, false, false, false, false, false, false, false, false, false, false, false, false, false] rfl rfl (take_ofW HT_.out HW_.out (by kernel_rfl)) (fun _ _ _ h => h) (Or.inl ⟨by rfl, ?_⟩) hHeld ?_ ?_
            rotate_left
            ·
             rintro w' ⟨s0, s1, s2, s3, s4, s5, s6, s7, s8, s9, s10, s11, s12, s13, s14⟩
             go_simp
             with_reducible rfl
            rotate_left
            ·
             simp only [Act.put, List.setIfInBounds_toArray, List.set_cons_zero, List.set_cons_succ, i64_w, i32_w]
             rfl
            refine take_ (i := 1) (N := some 69) (v := ?_) (a' := ?_) #[true, true, false, false, false, true, false, false, false, false, false, false, false, false, false, false, false, false, false, false, false, false, false, false, false, false, false, false, false, false, false, false, false, false, false, false, false, false, false, false] rfl rfl (take_ofW HT_.out HW_.out (by kernel_rfl)) (fun _ _ _ h => h) (Or.inl ⟨by rfl, ?_⟩) hHeld ?_ ?_
            rotate_left
            ·
             rintro w' ⟨s0, s1, s2, s3, s4, s5, s6, s7, s8, s9, s10, s11, s12, s13, s14⟩
             go_simp
             with_reducible rfl
            rotate_left
            ·
             simp only [Act.put, List.setIfInBounds_toArray, List.set_cons_zero, List.set_cons_succ, i64_w, i32_w]
             rfl
            refine take_ (i := 2) (N := some 70) (v := ?_) (a' := ?_) #[true, true, true, false, false, true, false, false, false, false, false, false, false, false, false, false, false, false, false, false, false, false, false, false, false, false, false, false, false, false, false, false, false, false, false, false, false, false, false, false] rfl rfl (take_ofW HT_.out HW_.out (by kernel_rfl)) (fun _ _ _ h => h) (Or.inl ⟨by rfl, ?_⟩) hHeld ?_ ?_
            rotate_left
            ·
             rintro w' ⟨s0, s1, s2, s3, s4, s5, s6, s7, s8, s9, s10, s11, s12, s13, s14⟩
             go_simp
             with_reducible rfl
            rotate_left
            ·
             simp only [Act.put, List.setIfInBounds_toArray, List.set_cons_zero, List.set_cons_succ, i64_w, i32_w]
             rfl
            refine one_ (i := 3) (N := some 71) #[true, true, true, true, false, true, false, false, false, false, false, false, false, false, false, false, false, false, false, false, false, false, false, false, false, false, false, false, false, false, false, false, false, false, false, false, false, false, false, false] rfl rfl (one_of HT_.out (by kernel_rfl)) (by decide) (fun K hK => ?_)
            refine Kd.N_lit_step k37 _ 37 ?hg (N' := 71) ?hd (xs := ([(⟨l0_0, l0_1, a0_2, a0_3, a0_4⟩ : S37), (⟨l1_0, l1_1, a1_2, a1_3, a1_4⟩ : S37), (⟨l2_0, l2_1, a2_2, a2_3, a2_4⟩ : S37)] : List (S37))) (inner := [.slice A0_0 l0_0.length c0_0, .slice A0_1 l0_1.length c0_1, .int .i64 a0_2, .int .i64 a0_3, .int .i64 a0_4, .slice A1_0 l1_0.length c1_0, .slice A1_1 l1_1.length c1_1, .int .i64 a1_2, .int .i64 a1_3, .int .i64 a1_4, .slice A2_0 l2_0.length c2_0, .slice A2_1 l2_1.length c2_1, .int .i64 a2_2, .int .i64 a2_3, .int .i64 a2_4]) (ok := (fun k_ => ((P0_0_ k_ ∨ P0_1_ k_ ∨ P1_0_ k_ ∨ P1_1_ k_ ∨ P2_0_ k_ ∨ P2_1_ k_) ∨ w.heap.size ≤ k_) ∧ k_ ≠ gb371 ∧ k_ ≠ gb372 ∧ k_ ≠ gb373)) (okp := (fun k_ => ((P0_0_ k_ ∨ P0_1_ k_ ∨ P1_0_ k_ ∨ P1_1_ k_ ∨ P2_0_ k_ ∨ P2_1_ k_) ∨ w.heap.size ≤ k_) ∧ k_ ≠ gb371 ∧ k_ ≠ gb372 ∧ k_ ≠ gb373)) ?hr ?hp (fun _ hk => hk) ((show ∀ k_, w133.heap.size ≤ k_ → (fun k_ => ((P0_0_ k_ ∨ P0_1_ k_ ∨ P1_0_ k_ ∨ P1_1_ k_ ∨ P2_0_ k_ ∨ P2_1_ k_) ∨ w.heap.size ≤ k_) ∧ k_ ≠ gb371 ∧ k_ ≠ gb372 ∧ k_ ≠ gb373) k_ from fun k_ hk => ⟨(.inr (Nat.le_trans (below_size (upH HB.out)) hk)), Kd.freshB (g := gb371) (o := .cells #[.slice A0_0 l0_0.length c0_0, .slice A0_1 l0_1.length c0_1, .int .i64 a0_2, .int .i64 a0_3, .int .i64 a0_4] 37 (0, 0)) (upB BK371.out) k_ hk, Kd.freshB (g := gb372) (o := .cells #[.slice A1_0 l1_0.length c1_0, .slice A1_1 l1_1.length c1_1, .int .i64 a1_2, .int .i64 a1_3, .int .i64 a1_4] 37 (0, 0)) (upB BK372.out) k_ hk, Kd.freshB (g := gb373) (o := .cells #[.slice A2_0 l2_0.length c2_0, .slice A2_1 l2_1.length c2_1, .int .i64 a2_2, .int .i64 a2_3, .int .i64 a2_4] 37 (0, 0)) (upB BK373.out) k_ hk⟩) _ (Nat.le_refl _)) (Below.refl _ _) (Nat.le_refl _) (by simp) ?_; (case hd => rfl); (case hg => rfl); (case hr => first | (go_simp; done) | (go_simp; rfl)); (case hp => exact (Reps.c5 (show Kd.FK k37 _ _ (⟨l0_0, l0_1, a0_2, a0_3, a0_4⟩ : S37) [.slice A0_0 l0_0.length c0_0, .slice A0_1 l0_1.length c0_1, .int .i64 a0_2, .int .i64 a0_3, .int .i64 a0_4] from (k37_mkF _ _ (⟨l0_0, l0_1, a0_2, a0_3, a0_4⟩ : S37) (Kd.V_reads' HO_372000.out).2.1 (Kd.V_F HO_372000.out) (Kd.V_reads' HO_372001.out).2.1 (Kd.V_F HO_372001.out))) (Reps.c5 (show Kd.FK k37 _ _ (⟨l1_0, l1_1, a1_2, a1_3, a1_4⟩ : S37) [.slice A1_0 l1_0.length c1_0, .slice A1_1 l1_1.length c1_1, .int .i64 a1_2, .int .i64 a1_3, .int .i64 a1_4] from (k37_mkF _ _ (⟨l1_0, l1_1, a1_2, a1_3, a1_4⟩ : S37) (Kd.V_reads' HO_373000.out).2.1 (Kd.V_F HO_373000.out) (Kd.V_reads' HO_373001.out).2.1 (Kd.V_F HO_373001.out))) (Reps.c5 (show Kd.FK k37 _ _ (⟨l2_0, l2_1, a2_2, a2_3, a2_4⟩ : S37) [.slice A2_0 l2_0.length c2_0, .slice A2_1 l2_1.length c2_1, .int .i64 a2_2, .int .i64 a2_3, .int .i64 a2_4] from (k37_mkF _ _ (⟨l2_0, l2_1, a2_2, a2_3, a2_4⟩ : S37) (Kd.V_reads' HO_374000.out).2.1 (Kd.V_F HO_374000.out) (Kd.V_reads' HO_374001.out).2.1 (Kd.V_F HO_374001.out))) (Reps.none _ _)))))
            intro v384 w134 ho135 hb hg_ hnew_
            clear hg_ hnew_
            (first | rw [← Ny383.out] at ho135 | (simp only [Int.reduceToNat] at ho135; rw [← Ny383.out] at ho135))
            have n0_ := Aside0.mk (Kd.V_elder' (upV HO_372000.out) (Kd.N_base ho135) hb)
            have n1_ := Aside0.mk (Kd.V_elder' (upV HO_372001.out) (Kd.N_base ho135) hb)
            have n2_ := Aside0.mk (Kd.V_elder' (upV HO_373000.out) (Kd.N_base ho135) hb)
            have n3_ := Aside0.mk (Kd.V_elder' (upV HO_373001.out) (Kd.N_base ho135) hb)
            have n4_ := Aside0.mk (Kd.V_elder' (upV HO_374000.out) (Kd.N_base ho135) hb)
            have n5_ := Aside0.mk (Kd.V_elder' (upV HO_374001.out) (Kd.N_base ho135) hb)
            have n6_ := Aside0.mk (Kd.N_lower ho135 (below_size (upH HB.out)))
            have n7_ := Aside0.mk (blk_below (g := gb371) (o := .cells #[.slice A0_0 l0_0.length c0_0, .slice A0_1 l0_1.length c0_1, .int .i64 a0_2, .int .i64 a0_3, .int .i64 a0_4] 37 (0, 0)) (upB BK371.out) hb)
            have n8_ := Aside0.mk (blk_below (g := gb372) (o := .cells #[.slice A1_0 l1_0.length c1_0, .slice A1_1 l1_1.length c1_1, .int .i64 a1_2, .int .i64 a1_3, .int .i64 a1_4] 37 (0, 0)) (upB BK372.out) hb)
            have n9_ := Aside0.mk (blk_below (g := gb373) (o := .cells #[.slice A2_0 l2_0.length c2_0, .slice A2_1 l2_1.length c2_1, .int .i64 a2_2, .int .i64 a2_3, .int .i64 a2_4] 37 (0, 0)) (upB BK373.out) hb)
            have n10_ := Aside0.mk (below_step (upH HB.out) hb)
            clear HO_372000 HO_372001 HO_373000 HO_373001 HO_374000 HO_374001 BK371 BK372 BK373 HB
            have HO_372000 := n0_
            have HO_372001 := n1_
            have HO_373000 := n2_
            have HO_373001 := n3_
            have HO_374000 := n4_
            have HO_374001 := n5_
            have HO385 := n6_
            have BK371 := n7_
            have BK372 := n8_
            have BK373 := n9_
            have HB := n10_
            clear n0_ n1_ n2_ n3_ n4_ n5_ n6_ n7_ n8_ n9_ n10_
            clear hb ho135
            obtain ⟨Ao136, co136, eo136⟩ := Kd.N_slice HO385.out
            (first | subst eo136 | (injection eo136 with f1_ f2_ f3_; have f4_ := f1_.symm; have f5_ := f3_.symm; clear f1_ f2_ f3_; subst f4_; subst f5_))
            refine hK.out _ _ ⟨(blk_cell BK371.out 0).trans rfl, (blk_cell BK371.out 1).trans rfl, (blk_cell BK371.out 2).trans rfl, (blk_cell BK371.out 3).trans rfl, (blk_cell BK371.out 4).trans rfl, (blk_cell BK372.out 0).trans rfl, (blk_cell BK372.out 1).trans rfl, (blk_cell BK372.out 2).trans rfl, (blk_cell BK372.out 3).trans rfl, (blk_cell BK372.out 4).trans rfl, (blk_cell BK373.out 0).trans rfl, (blk_cell BK373.out 1).trans rfl, (blk_cell BK373.out 2).trans rfl, (blk_cell BK373.out 3).trans rfl, (blk_cell BK373.out 4).trans rfl⟩ (fun hHeld => ?_)
            clear hK K
            refine norm_ (a' := ?_) ?_ ?_
            rotate_left
            ·
             show Act.put _ (some 71) _ = _
             simp only [Act.put, List.setIfInBounds_toArray, List.set_cons_zero, List.set_cons_succ, i64_w, i32_w]
             rfl
            refine one_ (i := 4) (N := some 72) #[true, true, true, true, true, true, false, false, false, false, false, false, false, false, false, false, false, false, false, false, false, false, false, false, false, false, false, false, false, false, false, false, false, false, false, false, false, false, false, false] rfl rfl (one_of HT_.out (by kernel_rfl)) (by decide) (fun K hK => ?_)
            refine goes_ Tryd.func35 (by kernel_rfl) rfl #[.slice Ao136 y383.length co136] (by rfl) rfl rfl (by (try simp only [List.map_toArray, List.map_cons, List.map_nil]); first | done | rfl | (simp only [List.length_drop, List.length_take]; rfl)) ?_
            with_reducible refine (plan_All.calls _ _ y383 t386 _ ?side1 ?side2 ?side3 A71.out).mono ?_
            (case side1 => repeat (first | exact (Kd.N_reads' HO385.out).2.2 | (with_reducible refine Kd.C_alloc ?_ _) | (with_reducible refine Kd.C_drewN ?_ _) | (with_reducible refine Kd.C_drew ?_)))
            (case side2 => exact (Kd.N_reads' HO385.out).2.1)
            (case side3 => first | (with_reducible exact HG.out) | (refine GlobOk.below HG.out ?_; repeat (first | (with_reducible first | exact HB.out | apply below_alloc | apply pw_below_drewN | apply below_drew1 | refine below_set ?_ GE371.out | refine below_set ?_ GE372.out | refine below_set ?_ GE373.out) | exact HB.out)))
            rintro e w137 ⟨rfl, hb⟩
            refine ⟨_, rfl, ?_⟩
            have n0_ := Aside0.mk (Kd.V_below (upV HO_372000.out) hb)
            have n1_ := Aside0.mk (Kd.V_below (upV HO_372001.out) hb)
            have n2_ := Aside0.mk (Kd.V_below (upV HO_373000.out) hb)
            have n3_ := Aside0.mk (Kd.V_below (upV HO_373001.out) hb)
            have n4_ := Aside0.mk (Kd.V_below (upV HO_374000.out) hb)
            have n5_ := Aside0.mk (Kd.V_below (upV HO_374001.out) hb)
            have n6_ := Aside0.mk (Kd.N_below (upN HO385.out) hb)
            have n7_ := Aside0.mk (blk_below (g := gb371) (o := .cells #[.slice A0_0 l0_0.length c0_0, .slice A0_1 l0_1.length c0_1, .int .i64 a0_2, .int .i64 a0_3, .int .i64 a0_4] 37 (0, 0)) (upB BK371.out) hb)
            have n8_ := Aside0.mk (blk_below (g := gb372) (o := .cells #[.slice A1_0 l1_0.length c1_0, .slice A1_1 l1_1.length c1_1, .int .i64 a1_2, .int .i64 a1_3, .int .i64 a1_4] 37 (0, 0)) (upB BK372.out) hb)
            have n9_ := Aside0.mk (blk_below (g := gb373) (o := .cells #[.slice A2_0 l2_0.length c2_0, .slice A2_1 l2_1.length c2_1, .int .i64 a2_2, .int .i64 a2_3, .int .i64 a2_4] 37 (0, 0)) (upB BK373.out) hb)
            have n10_ := Aside0.mk (below_step (upH HB.out) hb)
            clear HO_372000 HO_372001 HO_373000 HO_373001 HO_374000 HO_374001 HO385 BK371 BK372 BK373 HB
            have HO_372000 := n0_
            have HO_372001 := n1_
            have HO_373000 := n2_
            have HO_373001 := n3_
            have HO_374000 := n4_
            have HO_374001 := n5_
            have HO385 := n6_
            have BK371 := n7_
            have BK372 := n8_
            have BK373 := n9_
            have HB := n10_
            clear n0_ n1_ n2_ n3_ n4_ n5_ n6_ n7_ n8_ n9_ n10_
            (try clear hb)
            (try clear hb2)
            (try clear hk)
            (try clear hi)
            refine hK.out _ _ ⟨(blk_cell BK371.out 0).trans rfl, (blk_cell BK371.out 1).trans rfl, (blk_cell BK371.out 2).trans rfl, (blk_cell BK371.out 3).trans rfl, (blk_cell BK371.out 4).trans rfl, (blk_cell BK372.out 0).trans rfl, (blk_cell BK372.out 1).trans rfl, (blk_cell BK372.out 2).trans rfl, (blk_cell BK372.out 3).trans rfl, (blk_cell BK372.out 4).trans rfl, (blk_cell BK373.out 0).trans rfl, (blk_cell BK373.out 1).trans rfl, (blk_cell BK373.out 2).trans rfl, (blk_cell BK373.out 3).trans rfl, (blk_cell BK373.out 4).trans rfl⟩ (fun hHeld => ?_)
            clear hK K
            refine norm_ (a' := ?_) ?_ ?_
            rotate_left
            ·
             show Act.put _ (some 72) _ = _
             simp only [Act.put, List.setIfInBounds_toArray, List.set_cons_zero, List.set_cons_succ, i64_w, i32_w]
             rfl
            refine pure_ (i := 6) (N := some 74) (v := ?_) (a' := ?_) #[true, true, true, true, true, true, true, false, false, false, false, false, false, false, false, false, false, false, false, false, false, false, false, false, false, false, false, false, false, false, false, false, false, false, false, false, false, false, false, false] rfl rfl (any_of HT_.out (by kernel_rfl)) (fun _ _ _ h => h) (Or.inl ⟨by rfl, ?_⟩) ?_ ?_
            rotate_left
            ·
             intro w'
             go_simp
             with_reducible rfl
            rotate_left
            ·
             simp only [Act.put, List.setIfInBounds_toArray, List.set_cons_zero, List.set_cons_succ, i64_w, i32_w]
             rfl
            refine pure_ (i := 7) (N := some 75) (v := undef) (a' := ?_) #[true, true, true, true, true, true, true, true, false, false, false, false, false, false, false, false, false, false, false, false, false, false, false, false, false, false, false, false, false, false, false, false, false, false, false, false, false, false, false, false] rfl rfl (any_of HT_.out (by kernel_rfl)) (fun _ _ _ h => h) (Or.inr ⟨by rfl, rfl⟩) ?_ ?_
            rotate_left
            ·
             simp only [Act.put, List.setIfInBounds_toArray, List.set_cons_zero, List.set_cons_succ, i64_w, i32_w]
             rfl
            refine pure_ (i := 8) (N := some 76) (v := ?_) (a' := ?_) #[true, true, true, true, true, true, true, true, true, false, false, false, false, false, false, false, false, false, false, false, false, false, false, false, false, false, false, false, false, false, false, false, false, false, false, false, false, false, false, false] rfl rfl (any_of HT_.out (by kernel_rfl)) (fun _ _ _ h => h) (Or.inl ⟨by rfl, ?_⟩) ?_ ?_
            rotate_left
            ·
             intro w'
             go_simp
             with_reducible rfl
            rotate_left
            ·
             simp only [Act.put, List.setIfInBounds_toArray, List.set_cons_zero, List.set_cons_succ, i64_w, i32_w]
             rfl
            refine pure_ (i := 9) (N := some 77) (v := ?_) (a' := ?_) #[true, true, true, true, true, true, true, true, true, true, false, false, false, false, false, false, false, false, false, false, false, false, false, false, false, false, false, false, false, false, false, false, false, false, false, false, false, false, false, false] rfl rfl (any_of HT_.out (by kernel_rfl)) (fun _ _ _ h => h) (Or.inl ⟨by rfl, ?_⟩) ?_ ?_
            rotate_left
            ·
             intro w'
             go_simp
             with_reducible rfl
            rotate_left
            ·
             simp only [Act.put, List.setIfInBounds_toArray, List.set_cons_zero, List.set_cons_succ, i64_w, i32_w]
             rfl
            refine pure_ (i := 10) (N := some 78) (v := ?_) (a' := ?_) #[true, true, true, true, true, true, true, true, true, true, true, false, false, false, false, false, false, false, false, false, false, false, false, false, false, false, false, false, false, false, false, false, false, false, false, false, false, false, false, false] rfl rfl (any_of HT_.out (by kernel_rfl)) (fun _ _ _ h => h) (Or.inl ⟨by rfl, ?_⟩) ?_ ?_
            rotate_left
            ·
             intro w'
             go_simp
             with_reducible rfl
            rotate_left
            ·
             simp only [Act.put, List.setIfInBounds_toArray, List.set_cons_zero, List.set_cons_succ, i64_w, i32_w]
             rfl
            refine pure_ (i := 16) (N := some 84) (v := ?_) (a' := ?_) #[true, true, true, true, true, true, true, true, true, true, true, false, false, false, false, false, true, false, false, false, false, false, false, false, false, false, false, false, false, false, false, false, false, false, false, false, false, false, false, false] rfl rfl (any_of HT_.out (by kernel_rfl)) (fun _ _ _ h => h) (Or.inl ⟨by rfl, ?_⟩) ?_ ?_
            rotate_left
            ·
             intro w'
             go_simp
             with_reducible rfl
            rotate_left
            ·
             simp only [Act.put, List.setIfInBounds_toArray, List.set_cons_zero, List.set_cons_succ, i64_w, i32_w]
             rfl
            refine take_ (i := 11) (N := some 79) (v := ?_) (a' := ?_) #[true, true, true, true, true, true, true, true, true, true, true, true, false, false, false, false, true, false, false, false, false, false, false, false, false, false, false, false, false, false, false, false, false, false, false, false, false, false, false, false] rfl rfl (take_ofW HT_.out HW_.out (by kernel_rfl)) (fun _ _ _ h => h) (Or.inl ⟨by rfl, ?_⟩) hHeld ?_ ?_
            rotate_left
            ·
             rintro w' ⟨s0, s1, s2, s3, s4, s5, s6, s7, s8, s9, s10, s11, s12, s13, s14⟩
             go_simp
             with_reducible rfl
            rotate_left
            ·
             simp only [Act.put, List.setIfInBounds_toArray, List.set_cons_zero, List.set_cons_succ, i64_w, i32_w]
             rfl
            refine take_ (i := 12) (N := some 80) (v := ?_) (a' := ?_) #[true, true, true, true, true, true, true, true, true, true, true, true, true, false, false, false, true, false, false, false, false, false, false, false, false, false, false, false, false, false, false, false, false, false, false, false, false, false, false, false] rfl rfl (take_ofW HT_.out HW_.out (by kernel_rfl)) (fun _ _ _ h => h) (Or.inl ⟨by rfl, ?_⟩) hHeld ?_ ?_
            rotate_left
            ·
             rintro w' ⟨s0, s1, s2, s3, s4, s5, s6, s7, s8, s9, s10, s11, s12, s13, s14⟩
             go_simp
             with_reducible rfl
            rotate_left
            ·
             simp only [Act.put, List.setIfInBounds_toArray, List.set_cons_zero, List.set_cons_succ, i64_w, i32_w]
             rfl
            refine take_ (i := 13) (N := some 81) (v := ?_) (a' := ?_) #[true, true, true, true, true, true, true, true, true, true, true, true, true, true, false, false, true, false, false, false, false, false, false, false, false, false, false, false, false, false, false, false, false, false, false, false, false, false, false, false] rfl rfl (take_ofW HT_.out HW_.out (by kernel_rfl)) (fun _ _ _ h => h) (Or.inl ⟨by rfl, ?_⟩) hHeld ?_ ?_
            rotate_left
            ·
             rintro w' ⟨s0, s1, s2, s3, s4, s5, s6, s7, s8, s9, s10, s11, s12, s13, s14⟩
             go_simp
             with_reducible rfl
            rotate_left
            ·
             simp only [Act.put, List.setIfInBounds_toArray, List.set_cons_zero, List.set_cons_succ, i64_w, i32_w]
             rfl
            refine one_ (i := 14) (N := some 82) #[true, true, true, true, true, true, true, true, true, true, true, true, true, true, true, false, true, false, false, false, false, false, false, false, false, false, false, false, false, false, false, false, false, false, false, false, false, false, false, false] rfl rfl (one_of HT_.out (by kernel_rfl)) (by decide) (fun K hK => ?_)
            refine Kd.N_lit_step k37 _ 37 ?hg (N' := 82) ?hd (xs := ([(⟨l2_0, l2_1, a2_2, a2_3, a2_4⟩ : S37), (⟨l0_0, l0_1, a0_2, a0_3, a0_4⟩ : S37), (⟨l1_0, l1_1, a1_2, a1_3, a1_4⟩ : S37)] : List (S37))) (inner := [.slice A2_0 l2_0.length c2_0, .slice A2_1 l2_1.length c2_1, .int .i64 a2_2, .int .i64 a2_3, .int .i64 a2_4, .slice A0_0 l0_0.length c0_0, .slice A0_1 l0_1.length c0_1, .int .i64 a0_2, .int .i64 a0_3, .int .i64 a0_4, .slice A1_0 l1_0.length c1_0, .slice A1_1 l1_1.length c1_1, .int .i64 a1_2, .int .i64 a1_3, .int .i64 a1_4]) (ok := (fun k_ => ((P0_0_ k_ ∨ P0_1_ k_ ∨ P1_0_ k_ ∨ P1_1_ k_ ∨ P2_0_ k_ ∨ P2_1_ k_) ∨ w.heap.size ≤ k_) ∧ some k_ ≠ (.slice Ao136 y383.length co136 : Value).ownBlock ∧ k_ ≠ gb371 ∧ k_ ≠ gb372 ∧ k_ ≠ gb373)) (okp := (fun k_ => ((P0_0_ k_ ∨ P0_1_ k_ ∨ P1_0_ k_ ∨ P1_1_ k_ ∨ P2_0_ k_ ∨ P2_1_ k_) ∨ w.heap.size ≤ k_) ∧ some k_ ≠ (.slice Ao136 y383.length co136 : Value).ownBlock ∧ k_ ≠ gb371 ∧ k_ ≠ gb372 ∧ k_ ≠ gb373)) ?hr ?hp (fun _ hk => hk) ((show ∀ k_, w137.heap.size ≤ k_ → (fun k_ => ((P0_0_ k_ ∨ P0_1_ k_ ∨ P1_0_ k_ ∨ P1_1_ k_ ∨ P2_0_ k_ ∨ P2_1_ k_) ∨ w.heap.size ≤ k_) ∧ some k_ ≠ (.slice Ao136 y383.length co136 : Value).ownBlock ∧ k_ ≠ gb371 ∧ k_ ≠ gb372 ∧ k_ ≠ gb373) k_ from fun k_ hk => ⟨(.inr (Nat.le_trans (below_size (upH HB.out)) hk)), Kd.fresh' (Kd.N_lt (upN HO385.out)) k_ hk, Kd.freshB (g := gb371) (o := .cells #[.slice A0_0 l0_0.length c0_0, .slice A0_1 l0_1.length c0_1, .int .i64 a0_2, .int .i64 a0_3, .int .i64 a0_4] 37 (0, 0)) (upB BK371.out) k_ hk, Kd.freshB (g := gb372) (o := .cells #[.slice A1_0 l1_0.length c1_0, .slice A1_1 l1_1.length c1_1, .int .i64 a1_2, .int .i64 a1_3, .int .i64 a1_4] 37 (0, 0)) (upB BK372.out) k_ hk, Kd.freshB (g := gb373) (o := .cells #[.slice A2_0 l2_0.length c2_0, .slice A2_1 l2_1.length c2_1, .int .i64 a2_2, .int .i64 a2_3, .int .i64 a2_4] 37 (0, 0)) (upB BK373.out) k_ hk⟩) _ (Nat.le_refl _)) (Below.refl _ _) (Nat.le_refl _) (by simp) ?_; (case hd => rfl); (case hg => rfl); (case hr => first | (go_simp; done) | (go_simp; rfl)); (case hp => exact (Reps.c5 (show Kd.FK k37 _ _ (⟨l2_0, l2_1, a2_2, a2_3, a2_4⟩ : S37) [.slice A2_0 l2_0.length c2_0, .slice A2_1 l2_1.length c2_1, .int .i64 a2_2, .int .i64 a2_3, .int .i64 a2_4] from (k37_mkF _ _ (⟨l2_0, l2_1, a2_2, a2_3, a2_4⟩ : S37) (Kd.V_reads' HO_374000.out).2.1 (Kd.V_F (Kd.V_mono (ok' := (fun k_ => ((P0_0_ k_ ∨ P0_1_ k_ ∨ P1_0_ k_ ∨ P1_1_ k_ ∨ P2_0_ k_ ∨ P2_1_ k_) ∨ w.heap.size ≤ k_) ∧ some k_ ≠ (.slice Ao136 y383.length co136 : Value).ownBlock ∧ k_ ≠ gb371 ∧ k_ ≠ gb372 ∧ k_ ≠ gb373)) (HO_374000.out) (fun k_ hk => ⟨hk.1.1, ⟨hk.2, ⟨hk.1.2.1, ⟨hk.1.2.2.1, hk.1.2.2.2⟩⟩⟩⟩))) (Kd.V_reads' HO_374001.out).2.1 (Kd.V_F (Kd.V_mono (ok' := (fun k_ => ((P0_0_ k_ ∨ P0_1_ k_ ∨ P1_0_ k_ ∨ P1_1_ k_ ∨ P2_0_ k_ ∨ P2_1_ k_) ∨ w.heap.size ≤ k_) ∧ some k_ ≠ (.slice Ao136 y383.length co136 : Value).ownBlock ∧ k_ ≠ gb371 ∧ k_ ≠ gb372 ∧ k_ ≠ gb373)) (HO_374001.out) (fun k_ hk => ⟨hk.1.1, ⟨hk.2, ⟨hk.1.2.1, ⟨hk.1.2.2.1, hk.1.2.2.2⟩⟩⟩⟩))))) (Reps.c5 (show Kd.FK k37 _ _ (⟨l0_0, l0_1, a0_2, a0_3, a0_4⟩ : S37) [.slice A0_0 l0_0.length c0_0, .slice A0_1 l0_1.length c0_1, .int .i64 a0_2, .int .i64 a0_3, .int .i64 a0_4] from (k37_mkF _ _ (⟨l0_0, l0_1, a0_2, a0_3, a0_4⟩ : S37) (Kd.V_reads' HO_372000.out).2.1 (Kd.V_F (Kd.V_mono (ok' := (fun k_ => ((P0_0_ k_ ∨ P0_1_ k_ ∨ P1_0_ k_ ∨ P1_1_ k_ ∨ P2_0_ k_ ∨ P2_1_ k_) ∨ w.heap.size ≤ k_) ∧ some k_ ≠ (.slice Ao136 y383.length co136 : Value).ownBlock ∧ k_ ≠ gb371 ∧ k_ ≠ gb372 ∧ k_ ≠ gb373)) (HO_372000.out) (fun k_ hk => ⟨hk.1.1, ⟨hk.2, ⟨hk.1.2.1, ⟨hk.1.2.2.1, hk.1.2.2.2⟩⟩⟩⟩))) (Kd.V_reads' HO_372001.out).2.1 (Kd.V_F (Kd.V_mono (ok' := (fun k_ => ((P0_0_ k_ ∨ P0_1_ k_ ∨ P1_0_ k_ ∨ P1_1_ k_ ∨ P2_0_ k_ ∨ P2_1_ k_) ∨ w.heap.size ≤ k_) ∧ some k_ ≠ (.slice Ao136 y383.length co136 : Value).ownBlock ∧ k_ ≠ gb371 ∧ k_ ≠ gb372 ∧ k_ ≠ gb373)) (HO_372001.out) (fun k_ hk => ⟨hk.1.1, ⟨hk.2, ⟨hk.1.2.1, ⟨hk.1.2.2.1, hk.1.2.2.2⟩⟩⟩⟩))))) (Reps.c5 (show Kd.FK k37 _ _ (⟨l1_0, l1_1, a1_2, a1_3, a1_4⟩ : S37) [.slice A1_0 l1_0.length c1_0, .slice A1_1 l1_1.length c1_1, .int .i64 a1_2, .int .i64 a1_3, .int .i64 a1_4] from (k37_mkF _ _ (⟨l1_0, l1_1, a1_2, a1_3, a1_4⟩ : S37) (Kd.V_reads' HO_373000.out).2.1 (Kd.V_F (Kd.V_mono (ok' := (fun k_ => ((P0_0_ k_ ∨ P0_1_ k_ ∨ P1_0_ k_ ∨ P1_1_ k_ ∨ P2_0_ k_ ∨ P2_1_ k_) ∨ w.heap.size ≤ k_) ∧ some k_ ≠ (.slice Ao136 y383.length co136 : Value).ownBlock ∧ k_ ≠ gb371 ∧ k_ ≠ gb372 ∧ k_ ≠ gb373)) (HO_373000.out) (fun k_ hk => ⟨hk.1.1, ⟨hk.2, ⟨hk.1.2.1, ⟨hk.1.2.2.1, hk.1.2.2.2⟩⟩⟩⟩))) (Kd.V_reads' HO_373001.out).2.1 (Kd.V_F (Kd.V_mono (ok' := (fun k_ => ((P0_0_ k_ ∨ P0_1_ k_ ∨ P1_0_ k_ ∨ P1_1_ k_ ∨ P2_0_ k_ ∨ P2_1_ k_) ∨ w.heap.size ≤ k_) ∧ some k_ ≠ (.slice Ao136 y383.length co136 : Value).ownBlock ∧ k_ ≠ gb371 ∧ k_ ≠ gb372 ∧ k_ ≠ gb373)) (HO_373001.out) (fun k_ hk => ⟨hk.1.1, ⟨hk.2, ⟨hk.1.2.1, ⟨hk.1.2.2.1, hk.1.2.2.2⟩⟩⟩⟩))))) (Reps.none _ _)))))
            intro v401 w138 ho139 hb hg_ hnew_
            clear hg_ hnew_
            (first | rw [← Ny400.out] at ho139 | (simp only [Int.reduceToNat] at ho139; rw [← Ny400.out] at ho139))
            have n0_ := Aside0.mk (Kd.V_elder' (upV HO_372000.out) (Kd.N_base ho139) hb)
            have n1_ := Aside0.mk (Kd.V_elder' (upV HO_372001.out) (Kd.N_base ho139) hb)
            have n2_ := Aside0.mk (Kd.V_elder' (upV HO_373000.out) (Kd.N_base ho139) hb)
            have n3_ := Aside0.mk (Kd.V_elder' (upV HO_373001.out) (Kd.N_base ho139) hb)
            have n4_ := Aside0.mk (Kd.V_elder' (upV HO_374000.out) (Kd.N_base ho139) hb)
            have n5_ := Aside0.mk (Kd.V_elder' (upV HO_374001.out) (Kd.N_base ho139) hb)
            have n6_ := Aside0.mk (Kd.N_elder' (upN HO385.out) (Kd.N_base ho139) hb)
            have n7_ := Aside0.mk (Kd.N_lower ho139 (below_size (upH HB.out)))
            have n8_ := Aside0.mk (blk_below (g := gb371) (o := .cells #[.slice A0_0 l0_0.length c0_0, .slice A0_1 l0_1.length c0_1, .int .i64 a0_2, .int .i64 a0_3, .int .i64 a0_4] 37 (0, 0)) (upB BK371.out) hb)
            have n9_ := Aside0.mk (blk_below (g := gb372) (o := .cells #[.slice A1_0 l1_0.length c1_0, .slice A1_1 l1_1.length c1_1, .int .i64 a1_2, .int .i64 a1_3, .int .i64 a1_4] 37 (0, 0)) (upB BK372.out) hb)
            have n10_ := Aside0.mk (blk_below (g := gb373) (o := .cells #[.slice A2_0 l2_0.length c2_0, .slice A2_1 l2_1.length c2_1, .int .i64 a2_2, .int .i64 a2_3, .int .i64 a2_4] 37 (0, 0)) (upB BK373.out) hb)
            have n11_ := Aside0.mk (below_step (upH HB.out) hb)
            clear HO_372000 HO_372001 HO_373000 HO_373001 HO_374000 HO_374001 HO385 BK371 BK372 BK373 HB
            have HO_372000 := n0_
            have HO_372001 := n1_
            have HO_373000 := n2_
            have HO_373001 := n3_
            have HO_374000 := n4_
            have HO_374001 := n5_
            have HO385 := n6_
            have HO402 := n7_
            have BK371 := n8_
            have BK372 := n9_
            have BK373 := n10_
            have HB := n11_
            clear n0_ n1_ n2_ n3_ n4_ n5_ n6_ n7_ n8_ n9_ n10_ n11_
            clear hb ho139
            obtain ⟨Ao140, co140, eo140⟩ := Kd.N_slice HO402.out
            (first | subst eo140 | (injection eo140 with f1_ f2_ f3_; have f4_ := f1_.symm; have f5_ := f3_.symm; clear f1_ f2_ f3_; subst f4_; subst f5_))
            refine hK.out _ _ ⟨(blk_cell BK371.out 0).trans rfl, (blk_cell BK371.out 1).trans rfl, (blk_cell BK371.out 2).trans rfl, (blk_cell BK371.out 3).trans rfl, (blk_cell BK371.out 4).trans rfl, (blk_cell BK372.out 0).trans rfl, (blk_cell BK372.out 1).trans rfl, (blk_cell BK372.out 2).trans rfl, (blk_cell BK372.out 3).trans rfl, (blk_cell BK372.out 4).trans rfl, (blk_cell BK373.out 0).trans rfl, (blk_cell BK373.out 1).trans rfl, (blk_cell BK373.out 2).trans rfl, (blk_cell BK373.out 3).trans rfl, (blk_cell BK373.out 4).trans rfl⟩ (fun hHeld => ?_)
            clear hK K
            refine norm_ (a' := ?_) ?_ ?_
            rotate_left
            ·
             show Act.put _ (some 82) _ = _
             simp only [Act.put, List.setIfInBounds_toArray, List.set_cons_zero, List.set_cons_succ, i64_w, i32_w]
             rfl
            refine one_ (i := 15) (N := some 83) #[true, true, true, true, true, true, true, true, true, true, true, true, true, true, true, true, true, false, false, false, false, false, false, false, false, false, false, false, false, false, false, false, false, false, false, false, false, false, false, false] rfl rfl (one_of HT_.out (by kernel_rfl)) (by decide) (fun K hK => ?_)
            refine goes_ Tryd.func35 (by kernel_rfl) rfl #[.slice Ao140 y400.length co140] (by rfl) rfl rfl (by (try simp only [List.map_toArray, List.map_cons, List.map_nil]); first | done | rfl | (simp only [List.length_drop, List.length_take]; rfl)) ?_
            with_reducible refine (plan_All.calls _ _ y400 t403 _ ?side1 ?side2 ?side3 A127.out).mono ?_
            (case side1 => repeat (first | exact (Kd.N_reads' HO402.out).2.2 | (with_reducible refine Kd.C_alloc ?_ _) | (with_reducible refine Kd.C_drewN ?_ _) | (with_reducible refine Kd.C_drew ?_)))
            (case side2 => exact (Kd.N_reads' HO402.out).2.1)
            (case side3 => first | (with_reducible exact HG.out) | (refine GlobOk.below HG.out ?_; repeat (first | (with_reducible first | exact HB.out | apply below_alloc | apply pw_below_drewN | apply below_drew1 | refine below_set ?_ GE371.out | refine below_set ?_ GE372.out | refine below_set ?_ GE373.out) | exact HB.out)))
            rintro e w141 ⟨rfl, hb⟩
            refine ⟨_, rfl, ?_⟩
            have n0_ := Aside0.mk (Kd.V_below (upV HO_372000.out) hb)
            have n1_ := Aside0.mk (Kd.V_below (upV HO_372001.out) hb)
            have n2_ := Aside0.mk (Kd.V_below (upV HO_373000.out) hb)
            have n3_ := Aside0.mk (Kd.V_below (upV HO_373001.out) hb)
            have n4_ := Aside0.mk (Kd.V_below (upV HO_374000.out) hb)
            have n5_ := Aside0.mk (Kd.V_below (upV HO_374001.out) hb)
            have n6_ := Aside0.mk (Kd.N_below (upN HO385.out) hb)
            have n7_ := Aside0.mk (Kd.N_below (upN HO402.out) hb)
            have n8_ := Aside0.mk (blk_below (g := gb371) (o := .cells #[.slice A0_0 l0_0.length c0_0, .slice A0_1 l0_1.length c0_1, .int .i64 a0_2, .int .i64 a0_3, .int .i64 a0_4] 37 (0, 0)) (upB BK371.out) hb)
            have n9_ := Aside0.mk (blk_below (g := gb372) (o := .cells #[.slice A1_0 l1_0.length c1_0, .slice A1_1 l1_1.length c1_1, .int .i64 a1_2, .int .i64 a1_3, .int .i64 a1_4] 37 (0, 0)) (upB BK372.out) hb)
            have n10_ := Aside0.mk (blk_below (g := gb373) (o := .cells #[.slice A2_0 l2_0.length c2_0, .slice A2_1 l2_1.length c2_1, .int .i64 a2_2, .int .i64 a2_3, .int .i64 a2_4] 37 (0, 0)) (upB BK373.out) hb)
            have n11_ := Aside0.mk (below_step (upH HB.out) hb)
            clear HO_372000 HO_372001 HO_373000 HO_373001 HO_374000 HO_374001 HO385 HO402 BK371 BK372 BK373 HB
            have HO_372000 := n0_
            have HO_372001 := n1_
            have HO_373000 := n2_
            have HO_373001 := n3_
            have HO_374000 := n4_
            have HO_374001 := n5_
            have HO385 := n6_
            have HO402 := n7_
            have BK371 := n8_
            have BK372 := n9_
            have BK373 := n10_
            have HB := n11_
            clear n0_ n1_ n2_ n3_ n4_ n5_ n6_ n7_ n8_ n9_ n10_ n11_
            (try clear hb)
            (try clear hb2)
            (try clear hk)
            (try clear hi)
            refine hK.out _ _ ⟨(blk_cell BK371.out 0).trans rfl, (blk_cell BK371.out 1).trans rfl, (blk_cell BK371.out 2).trans rfl, (blk_cell BK371.out 3).trans rfl, (blk_cell BK371.out 4).trans rfl, (blk_cell BK372.out 0).trans rfl, (blk_cell BK372.out 1).trans rfl, (blk_cell BK372.out 2).trans rfl, (blk_cell BK372.out 3).trans rfl, (blk_cell BK372.out 4).trans rfl, (blk_cell BK373.out 0).trans rfl, (blk_cell BK373.out 1).trans rfl, (blk_cell BK373.out 2).trans rfl, (blk_cell BK373.out 3).trans rfl, (blk_cell BK373.out 4).trans rfl⟩ (fun hHeld => ?_)
            clear hK K
            refine norm_ (a' := ?_) ?_ ?_
            rotate_left
            ·
             show Act.put _ (some 83) _ = _
             simp only [Act.put, List.setIfInBounds_toArray, List.set_cons_zero, List.set_cons_succ, i64_w, i32_w]
             rfl
            refine pure_ (i := 17) (N := some 85) (v := ?_) (a' := ?_) #[true, true, true, true, true, true, true, true, true, true, true, true, true, true, true, true, true, true, false, false, false, false, false, false, false, false, false, false, false, false, false, false, false, false, false, false, false, false, false, false] rfl rfl (any_of HT_.out (by kernel_rfl)) (fun _ _ _ h => h) (Or.inl ⟨by rfl, ?_⟩) ?_ ?_
            rotate_left
            ·
             intro w'
             go_simp
             with_reducible rfl
            rotate_left
            ·
             simp only [Act.put, List.setIfInBounds_toArray, List.set_cons_zero, List.set_cons_succ, i64_w, i32_w]
             rfl
            refine pure_ (i := 18) (N := some 86) (v := undef) (a' := ?_) #[true, true, true, true, true, true, true, true, true, true, true, true, true, true, true, true, true, true, true, false, false, false, false, false, false, false, false, false, false, false, false, false, false, false, false, false, false, false, false, false] rfl rfl (any_of HT_.out (by kernel_rfl)) (fun _ _ _ h => h) (Or.inr ⟨by rfl, rfl⟩) ?_ ?_
            rotate_left
            ·
             simp only [Act.put, List.setIfInBounds_toArray, List.set_cons_zero, List.set_cons_succ, i64_w, i32_w]
             rfl
            refine pure_ (i := 19) (N := some 87) (v := ?_) (a' := ?_) #[true, true, true, true, true, true, true, true, true, true, true, true, true, true, true, true, true, true, true, true, false, false, false, false, false, false, false, false, false, false, false, false, false, false, false, false, false, false, false, false] rfl rfl (any_of HT_.out (by kernel_rfl)) (fun _ _ _ h => h) (Or.inl ⟨by rfl, ?_⟩) ?_ ?_
            rotate_left
            ·
             intro w'
             go_simp
             with_reducible rfl
            rotate_left
            ·
             simp only [Act.put, List.setIfInBounds_toArray, List.set_cons_zero, List.set_cons_succ, i64_w, i32_w]
             rfl
            refine pure_ (i := 20) (N := some 88) (v := ?_) (a' := ?_) #[true, true, true, true, true, true, true, true, true, true, true, true, true, true, true, true, true, true, true, true, true, false, false, false, false, false, false, false, false, false, false, false, false, false, false, false, false, false, false, false] rfl rfl (any_of HT_.out (by kernel_rfl)) (fun _ _ _ h => h) (Or.inl ⟨by rfl, ?_⟩) ?_ ?_
            rotate_left
            ·
             intro w'
             go_simp
             with_reducible rfl
            rotate_left
            ·
             simp only [Act.put, List.setIfInBounds_toArray, List.set_cons_zero, List.set_cons_succ, i64_w, i32_w]
             rfl
            refine pure_ (i := 21) (N := some 89) (v := ?_) (a' := ?_) #[true, true, true, true, true, true, true, true, true, true, true, true, true, true, true, true, true, true, true, true, true, true, false, false, false, false, false, false, false, false, false, false, false, false, false, false, false, false, false, false] rfl rfl (any_of HT_.out (by kernel_rfl)) (fun _ _ _ h => h) (Or.inl ⟨by rfl, ?_⟩) ?_ ?_
            rotate_left
            ·
             intro w'
             go_simp
             with_reducible rfl
            rotate_left
            ·
             simp only [Act.put, List.setIfInBounds_toArray, List.set_cons_zero, List.set_cons_succ, i64_w, i32_w]
             rfl
            refine pure_ (i := 22) (N := some 90) (v := ?_) (a' := ?_) #[true, true, true, true, true, true, true, true, true, true, true, true, true, true, true, true, true, true, true, true, true, true, true, false, false, false, false, false, false, false, false, false, false, false, false, false, false, false, false, false] rfl rfl (any_of HT_.out (by kernel_rfl)) (fun _ _ _ h => h) (Or.inl ⟨by rfl, ?_⟩) ?_ ?_
            rotate_left
            ·
             intro w'
             go_simp
             with_reducible rfl
            rotate_left
            ·
             simp only [Act.put, List.setIfInBounds_toArray, List.set_cons_zero, List.set_cons_succ, i64_w, i32_w]
             rfl
            refine take_ (i := 23) (N := some 91) (v := ?_) (a' := ?_) #[true, true, true, true, true, true, true, true, true, true, true, true, true, true, true, true, true, true, true, true, true, true, true, true, false, false, false, false, false, false, false, false, false, false, false, false, false, false, false, false] rfl rfl (take_ofW HT_.out HW_.out (by kernel_rfl)) (fun _ _ _ h => h) (Or.inl ⟨by rfl, ?_⟩) hHeld ?_ ?_
            rotate_left
            ·
             rintro w' ⟨s0, s1, s2, s3, s4, s5, s6, s7, s8, s9, s10, s11, s12, s13, s14⟩
             go_simp
             with_reducible rfl
            rotate_left
            ·
             simp only [Act.put, List.setIfInBounds_toArray, List.set_cons_zero, List.set_cons_succ, i64_w, i32_w]
             rfl
            refine take_ (i := 26) (N := some 94) (v := ?_) (a' := ?_) #[true, true, true, true, true, true, true, true, true, true, true, true, true, true, true, true, true, true, true, true, true, true, true, true, false, false, true, false, false, false, false, false, false, false, false, false, false, false, false, false] rfl rfl (take_ofW HT_.out HW_.out (by kernel_rfl)) (fun _ _ _ h => h) (Or.inl ⟨by rfl, ?_⟩) hHeld ?_ ?_
            rotate_left
            ·
             rintro w' ⟨s0, s1, s2, s3, s4, s5, s6, s7, s8, s9, s10, s11, s12, s13, s14⟩
             go_simp
             with_reducible rfl
            rotate_left
            ·
             simp only [Act.put, List.setIfInBounds_toArray, List.set_cons_zero, List.set_cons_succ, i64_w, i32_w]
             rfl
            refine one_ (i := 24) (N := some 92) #[true, true, true, true, true, true, true, true, true, true, true, true, true, true, true, true, true, true, true, true, true, true, true, true, true, false, true, false, false, false, false, false, false, false, false, false, false, false, false, false] rfl rfl (one_of HT_.out (by kernel_rfl)) (by decide) (fun K hK => ?_)
            refine Kd.N_lit_step k37 _ 37 ?hg (N' := 92) ?hd (xs := ([(⟨l0_0, l0_1, a0_2, a0_3, a0_4⟩ : S37)] : List (S37))) (inner := [.slice A0_0 l0_0.length c0_0, .slice A0_1 l0_1.length c0_1, .int .i64 a0_2, .int .i64 a0_3, .int .i64 a0_4]) (ok := (fun k_ => ((P0_0_ k_ ∨ P0_1_ k_ ∨ P1_0_ k_ ∨ P1_1_ k_ ∨ P2_0_ k_ ∨ P2_1_ k_) ∨ w.heap.size ≤ k_) ∧ some k_ ≠ (.slice Ao136 y383.length co136 : Value).ownBlock ∧ some k_ ≠ (.slice Ao140 y400.length co140 : Value).ownBlock ∧ k_ ≠ gb371 ∧ k_ ≠ gb372 ∧ k_ ≠ gb373)) (okp := (fun k_ => ((P0_0_ k_ ∨ P0_1_ k_ ∨ P1_0_ k_ ∨ P1_1_ k_ ∨ P2_0_ k_ ∨ P2_1_ k_) ∨ w.heap.size ≤ k_) ∧ some k_ ≠ (.slice Ao136 y383.length co136 : Value).ownBlock ∧ some k_ ≠ (.slice Ao140 y400.length co140 : Value).ownBlock ∧ k_ ≠ gb371 ∧ k_ ≠ gb372 ∧ k_ ≠ gb373)) ?hr ?hp (fun _ hk => hk) ((show ∀ k_, w141.heap.size ≤ k_ → (fun k_ => ((P0_0_ k_ ∨ P0_1_ k_ ∨ P1_0_ k_ ∨ P1_1_ k_ ∨ P2_0_ k_ ∨ P2_1_ k_) ∨ w.heap.size ≤ k_) ∧ some k_ ≠ (.slice Ao136 y383.length co136 : Value).ownBlock ∧ some k_ ≠ (.slice Ao140 y400.length co140 : Value).ownBlock ∧ k_ ≠ gb371 ∧ k_ ≠ gb372 ∧ k_ ≠ gb373) k_ from fun k_ hk => ⟨(.inr (Nat.le_trans (below_size (upH HB.out)) hk)), Kd.fresh' (Kd.N_lt (upN HO385.out)) k_ hk, Kd.fresh' (Kd.N_lt (upN HO402.out)) k_ hk, Kd.freshB (g := gb371) (o := .cells #[.slice A0_0 l0_0.length c0_0, .slice A0_1 l0_1.length c0_1, .int .i64 a0_2, .int .i64 a0_3, .int .i64 a0_4] 37 (0, 0)) (upB BK371.out) k_ hk, Kd.freshB (g := gb372) (o := .cells #[.slice A1_0 l1_0.length c1_0, .slice A1_1 l1_1.length c1_1, .int .i64 a1_2, .int .i64 a1_3, .int .i64 a1_4] 37 (0, 0)) (upB BK372.out) k_ hk, Kd.freshB (g := gb373) (o := .cells #[.slice A2_0 l2_0.length c2_0, .slice A2_1 l2_1.length c2_1, .int .i64 a2_2, .int .i64 a2_3, .int .i64 a2_4] 37 (0, 0)) (upB BK373.out) k_ hk⟩) _ (Nat.le_refl _)) (Below.refl _ _) (Nat.le_refl _) (by simp) ?_; (case hd => rfl); (case hg => rfl); (case hr => first | (go_simp; done) | (go_simp; rfl)); (case hp => exact (Reps.c5 (show Kd.FK k37 _ _ (⟨l0_0, l0_1, a0_2, a0_3, a0_4⟩ : S37) [.slice A0_0 l0_0.length c0_0, .slice A0_1 l0_1.length c0_1, .int .i64 a0_2, .int .i64 a0_3, .int .i64 a0_4] from (k37_mkF _ _ (⟨l0_0, l0_1, a0_2, a0_3, a0_4⟩ : S37) (Kd.V_reads' HO_372000.out).2.1 (Kd.V_F (Kd.V_mono (ok' := (fun k_ => ((P0_0_ k_ ∨ P0_1_ k_ ∨ P1_0_ k_ ∨ P1_1_ k_ ∨ P2_0_ k_ ∨ P2_1_ k_) ∨ w.heap.size ≤ k_) ∧ some k_ ≠ (.slice Ao136 y383.length co136 : Value).ownBlock ∧ some k_ ≠ (.slice Ao140 y400.length co140 : Value).ownBlock ∧ k_ ≠ gb371 ∧ k_ ≠ gb372 ∧ k_ ≠ gb373)) (HO_372000.out) (fun k_ hk => ⟨hk.1.1.1, ⟨hk.1.2, ⟨hk.2, ⟨hk.1.1.2.1, ⟨hk.1.1.2.2.1, hk.1.1.2.2.2⟩⟩⟩⟩⟩))) (Kd.V_reads' HO_372001.out).2.1 (Kd.V_F (Kd.V_mono (ok' := (fun k_ => ((P0_0_ k_ ∨ P0_1_ k_ ∨ P1_0_ k_ ∨ P1_1_ k_ ∨ P2_0_ k_ ∨ P2_1_ k_) ∨ w.heap.size ≤ k_) ∧ some k_ ≠ (.slice Ao136 y383.length co136 : Value).ownBlock ∧ some k_ ≠ (.slice Ao140 y400.length co140 : Value).ownBlock ∧ k_ ≠ gb371 ∧ k_ ≠ gb372 ∧ k_ ≠ gb373)) (HO_372001.out) (fun k_ hk => ⟨hk.1.1.1, ⟨hk.1.2, ⟨hk.2, ⟨hk.1.1.2.1, ⟨hk.1.1.2.2.1, hk.1.1.2.2.2⟩⟩⟩⟩⟩))))) (Reps.none _ _)))
            intro v405 w142 ho143 hb hg_ hnew_
            clear hg_ hnew_
            (first | rw [← Ny404.out] at ho143 | (simp only [Int.reduceToNat] at ho143; rw [← Ny404.out] at ho143))
            have n0_ := Aside0.mk (Kd.V_elder' (upV HO_372000.out) (Kd.N_base ho143) hb)
            have n1_ := Aside0.mk (Kd.V_elder' (upV HO_372001.out) (Kd.N_base ho143) hb)
            have n2_ := Aside0.mk (Kd.V_elder' (upV HO_373000.out) (Kd.N_base ho143) hb)
            have n3_ := Aside0.mk (Kd.V_elder' (upV HO_373001.out) (Kd.N_base ho143) hb)
            have n4_ := Aside0.mk (Kd.V_elder' (upV HO_374000.out) (Kd.N_base ho143) hb)
            have n5_ := Aside0.mk (Kd.V_elder' (upV HO_374001.out) (Kd.N_base ho143) hb)
            have n6_ := Aside0.mk (Kd.N_elder' (upN HO385.out) (Kd.N_base ho143) hb)
            have n7_ := Aside0.mk (Kd.N_elder' (upN HO402.out) (Kd.N_base ho143) hb)
            have n8_ := Aside0.mk (Kd.N_lower ho143 (below_size (upH HB.out)))
            have n9_ := Aside0.mk (blk_below (g := gb371) (o := .cells #[.slice A0_0 l0_0.length c0_0, .slice A0_1 l0_1.length c0_1, .int .i64 a0_2, .int .i64 a0_3, .int .i64 a0_4] 37 (0, 0)) (upB BK371.out) hb)
            have n10_ := Aside0.mk (blk_below (g := gb372) (o := .cells #[.slice A1_0 l1_0.length c1_0, .slice A1_1 l1_1.length c1_1, .int .i64 a1_2, .int .i64 a1_3, .int .i64 a1_4] 37 (0, 0)) (upB BK372.out) hb)
            have n11_ := Aside0.mk (blk_below (g := gb373) (o := .cells #[.slice A2_0 l2_0.length c2_0, .slice A2_1 l2_1.length c2_1, .int .i64 a2_2, .int .i64 a2_3, .int .i64 a2_4] 37 (0, 0)) (upB BK373.out) hb)
            have n12_ := Aside0.mk (below_step (upH HB.out) hb)
            clear HO_372000 HO_372001 HO_373000 HO_373001 HO_374000 HO_374001 HO385 HO402 BK371 BK372 BK373 HB
            have HO_372000 := n0_
            have HO_372001 := n1_
            have HO_373000 := n2_
            have HO_373001 := n3_
            have HO_374000 := n4_
            have HO_374001 := n5_
            have HO385 := n6_
            have HO402 := n7_
            have HO406 := n8_
            have BK371 := n9_
            have BK372 := n10_
            have BK373 := n11_
            have HB := n12_
            clear n0_ n1_ n2_ n3_ n4_ n5_ n6_ n7_ n8_ n9_ n10_ n11_ n12_
            clear hb ho143
            obtain ⟨Ao144, co144, eo144⟩ := Kd.N_slice HO406.out
            (first | subst eo144 | (injection eo144 with f1_ f2_ f3_; have f4_ := f1_.symm; have f5_ := f3_.symm; clear f1_ f2_ f3_; subst f4_; subst f5_))
            refine hK.out _ _ ⟨(blk_cell BK371.out 0).trans rfl, (blk_cell BK371.out 1).trans rfl, (blk_cell BK371.out 2).trans rfl, (blk_cell BK371.out 3).trans rfl, (blk_cell BK371.out 4).trans rfl, (blk_cell BK372.out 0).trans rfl, (blk_cell BK372.out 1).trans rfl, (blk_cell BK372.out 2).trans rfl, (blk_cell BK372.out 3).trans rfl, (blk_cell BK372.out 4).trans rfl, (blk_cell BK373.out 0).trans rfl, (blk_cell BK373.out 1).trans rfl, (blk_cell BK373.out 2).trans rfl, (blk_cell BK373.out 3).trans rfl, (blk_cell BK373.out 4).trans rfl⟩ (fun hHeld => ?_)
            clear hK K
            refine norm_ (a' := ?_) ?_ ?_
            rotate_left
            ·
             show Act.put _ (some 92) _ = _
             simp only [Act.put, List.setIfInBounds_toArray, List.set_cons_zero, List.set_cons_succ, i64_w, i32_w]
             rfl
            refine one_ (i := 25) (N := some 93) #[true, true, true, true, true, true, true, true, true, true, true, true, true, true, true, true, true, true, true, true, true, true, true, true, true, true, true, false, false, false, false, false, false, false, false, false, false, false, false, false] rfl rfl (one_of HT_.out (by kernel_rfl)) (by decide) (fun K hK => ?_)
            refine goes_ Tryd.func35 (by kernel_rfl) rfl #[.slice Ao144 y404.length co144] (by rfl) rfl rfl (by (try simp only [List.map_toArray, List.map_cons, List.map_nil]); first | done | rfl | (simp only [List.length_drop, List.length_take]; rfl)) ?_
            with_reducible refine (plan_All.calls _ _ y404 t407 _ ?side1 ?side2 ?side3 A129.out).mono ?_
            (case side1 => repeat (first | exact (Kd.N_reads' HO406.out).2.2 | (with_reducible refine Kd.C_alloc ?_ _) | (with_reducible refine Kd.C_drewN ?_ _) | (with_reducible refine Kd.C_drew ?_)))
            (case side2 => exact (Kd.N_reads' HO406.out).2.1)
            (case side3 => first | (with_reducible exact HG.out) | (refine GlobOk.below HG.out ?_; repeat (first | (with_reducible first | exact HB.out | apply below_alloc | apply pw_below_drewN | apply below_drew1 | refine below_set ?_ GE371.out | refine below_set ?_ GE372.out | refine below_set ?_ GE373.out) | exact HB.out)))
            rintro e w145 ⟨rfl, hb⟩
            refine ⟨_, rfl, ?_⟩
            have n0_ := Aside0.mk (Kd.V_below (upV HO_372000.out) hb)
            have n1_ := Aside0.mk (Kd.V_below (upV HO_372001.out) hb)
            have n2_ := Aside0.mk (Kd.V_below (upV HO_373000.out) hb)
            have n3_ := Aside0.mk (Kd.V_below (upV HO_373001.out) hb)
            have n4_ := Aside0.mk (Kd.V_below (upV HO_374000.out) hb)
            have n5_ := Aside0.mk (Kd.V_below (upV HO_374001.out) hb)
            have n6_ := Aside0.mk (Kd.N_below (upN HO385.out) hb)
            have n7_ := Aside0.mk (Kd.N_below (upN HO402.out) hb)
            have n8_ := Aside0.mk (Kd.N_below (upN HO406.out) hb)
            have n9_ := Aside0.mk (blk_below (g := gb371) (o := .cells #[.slice A0_0 l0_0.length c0_0, .slice A0_1 l0_1.length c0_1, .int .i64 a0_2, .int .i64 a0_3, .int .i64 a0_4] 37 (0, 0)) (upB BK371.out) hb)
            have n10_ := Aside0.mk (blk_below (g := gb372) (o := .cells #[.slice A1_0 l1_0.length c1_0, .slice A1_1 l1_1.length c1_1, .int .i64 a1_2, .int .i64 a1_3, .int .i64 a1_4] 37 (0, 0)) (upB BK372.out) hb)
            have n11_ := Aside0.mk (blk_below (g := gb373) (o := .cells #[.slice A2_0 l2_0.length c2_0, .slice A2_1 l2_1.length c2_1, .int .i64 a2_2, .int .i64 a2_3, .int .i64 a2_4] 37 (0, 0)) (upB BK373.out) hb)
            have n12_ := Aside0.mk (below_step (upH HB.out) hb)
            clear HO_372000 HO_372001 HO_373000 HO_373001 HO_374000 HO_374001 HO385 HO402 HO406 BK371 BK372 BK373 HB
            have HO_372000 := n0_
            have HO_372001 := n1_
            have HO_373000 := n2_
            have HO_373001 := n3_
            have HO_374000 := n4_
            have HO_374001 := n5_
            have HO385 := n6_
            have HO402 := n7_
            have HO406 := n8_
            have BK371 := n9_
            have BK372 := n10_
            have BK373 := n11_
            have HB := n12_
            clear n0_ n1_ n2_ n3_ n4_ n5_ n6_ n7_ n8_ n9_ n10_ n11_ n12_
            (try clear hb)
            (try clear hb2)
            (try clear hk)
            (try clear hi)
            refine hK.out _ _ ⟨(blk_cell BK371.out 0).trans rfl, (blk_cell BK371.out 1).trans rfl, (blk_cell BK371.out 2).trans rfl, (blk_cell BK371.out 3).trans rfl, (blk_cell BK371.out 4).trans rfl, (blk_cell BK372.out 0).trans rfl, (blk_cell BK372.out 1).trans rfl, (blk_cell BK372.out 2).trans rfl, (blk_cell BK372.out 3).trans rfl, (blk_cell BK372.out 4).trans rfl, (blk_cell BK373.out 0).trans rfl, (blk_cell BK373.out 1).trans rfl, (blk_cell BK373.out 2).trans rfl, (blk_cell BK373.out 3).trans rfl, (blk_cell BK373.out 4).trans rfl⟩ (fun hHeld => ?_)
            clear hK K
            refine norm_ (a' := ?_) ?_ ?_
            rotate_left
            ·
             show Act.put _ (some 93) _ = _
             simp only [Act.put, List.setIfInBounds_toArray, List.set_cons_zero, List.set_cons_succ, i64_w, i32_w]
             rfl
            refine one_ (i := 27) (N := some 95) #[true, true, true, true, true, true, true, true, true, true, true, true, true, true, true, true, true, true, true, true, true, true, true, true, true, true, true, true, false, false, false, false, false, false, false, false, false, false, false, false] rfl rfl (one_of HT_.out (by kernel_rfl)) (by decide) (fun K hK => ?_)
            refine goes_ Tryd.func34 (by kernel_rfl) rfl #[.agg #[.slice A0_0 l0_0.length c0_0, .slice A0_1 l0_1.length c0_1, .int .i64 a0_2, .int .i64 a0_3, .int .i64 a0_4]] (by rfl) rfl rfl (by (try simp only [List.map_toArray, List.map_cons, List.map_nil]); first | done | rfl | (simp only [List.length_drop, List.length_take]; rfl)) ?_
            with_reducible refine (plan_Fit.calls kj57 _ _ l0_0 _ _ l0_1 a0_2 a0_3 a0_4 t408 _ ?side1 ?side2 ?side3 ?side4 ?side5 A130.out).mono ?_
            (case side1 => repeat (first | exact (Kd.V_reads' HO_372000.out).2.2 | (with_reducible refine Kd.C_alloc ?_ _) | (with_reducible refine Kd.C_drewN ?_ _) | (with_reducible refine Kd.C_drew ?_)))
            (case side2 => exact (Kd.V_reads' HO_372000.out).2.1)
            (case side3 => repeat (first | exact (Kd.V_reads' HO_372001.out).2.2 | (with_reducible refine Kd.C_alloc ?_ _) | (with_reducible refine Kd.C_drewN ?_ _) | (with_reducible refine Kd.C_drew ?_)))
            (case side4 => exact (Kd.V_reads' HO_372001.out).2.1)
            (case side5 => first | (with_reducible exact HG.out) | (refine GlobOk.below HG.out ?_; repeat (first | (with_reducible first | exact HB.out | apply below_alloc | apply pw_below_drewN | apply below_drew1 | refine below_set ?_ GE371.out | refine below_set ?_ GE372.out | refine below_set ?_ GE373.out) | exact HB.out)))
            rintro e w146 ⟨rfl, hb⟩
            refine ⟨_, rfl, ?_⟩
            have n0_ := Aside0.mk (Kd.V_below (upV HO_372000.out) hb)
            have n1_ := Aside0.mk (Kd.V_below (upV HO_372001.out) hb)
            have n2_ := Aside0.mk (Kd.V_below (upV HO_373000.out) hb)
            have n3_ := Aside0.mk (Kd.V_below (upV HO_373001.out) hb)
            have n4_ := Aside0.mk (Kd.V_below (upV HO_374000.out) hb)
            have n5_ := Aside0.mk (Kd.V_below (upV HO_374001.out) hb)
            have n6_ := Aside0.mk (Kd.N_below (upN HO385.out) hb)
            have n7_ := Aside0.mk (Kd.N_below (upN HO402.out) hb)
            have n8_ := Aside0.mk (Kd.N_below (upN HO406.out) hb)
            have n9_ := Aside0.mk (blk_below (g := gb371) (o := .cells #[.slice A0_0 l0_0.length c0_0, .slice A0_1 l0_1.length c0_1, .int .i64 a0_2, .int .i64 a0_3, .int .i64 a0_4] 37 (0, 0)) (upB BK371.out) hb)
            have n10_ := Aside0.mk (blk_below (g := gb372) (o := .cells #[.slice A1_0 l1_0.length c1_0, .slice A1_1 l1_1.length c1_1, .int .i64 a1_2, .int .i64 a1_3, .int .i64 a1_4] 37 (0, 0)) (upB BK372.out) hb)
            have n11_ := Aside0.mk (blk_below (g := gb373) (o := .cells #[.slice A2_0 l2_0.length c2_0, .slice A2_1 l2_1.length c2_1, .int .i64 a2_2, .int .i64 a2_3, .int .i64 a2_4] 37 (0, 0)) (upB BK373.out) hb)
            have n12_ := Aside0.mk (below_step (upH HB.out) hb)
            clear HO_372000 HO_372001 HO_373000 HO_373001 HO_374000 HO_374001 HO385 HO402 HO406 BK371 BK372 BK373 HB
            have HO_372000 := n0_
            have HO_372001 := n1_
            have HO_373000 := n2_
            have HO_373001 := n3_
            have HO_374000 := n4_
            have HO_374001 := n5_
            have HO385 := n6_
            have HO402 := n7_
            have HO406 := n8_
            have BK371 := n9_
            have BK372 := n10_
            have BK373 := n11_
            have HB := n12_
            clear n0_ n1_ n2_ n3_ n4_ n5_ n6_ n7_ n8_ n9_ n10_ n11_ n12_
            (try clear hb)
            (try clear hb2)
            (try clear hk)
            (try clear hi)
            refine hK.out _ _ ⟨(blk_cell BK371.out 0).trans rfl, (blk_cell BK371.out 1).trans rfl, (blk_cell BK371.out 2).trans rfl, (blk_cell BK371.out 3).trans rfl, (blk_cell BK371.out 4).trans rfl, (blk_cell BK372.out 0).trans rfl, (blk_cell BK372.out 1).trans rfl, (blk_cell BK372.out 2).trans rfl, (blk_cell BK372.out 3).trans rfl, (blk_cell BK372.out 4).trans rfl, (blk_cell BK373.out 0).trans rfl, (blk_cell BK373.out 1).trans rfl, (blk_cell BK373.out 2).trans rfl, (blk_cell BK373.out 3).trans rfl, (blk_cell BK373.out 4).trans rfl⟩ (fun hHeld => ?_)
            clear hK K
            refine norm_ (a' := ?_) ?_ ?_
            rotate_left
            ·
             show Act.put _ (some 95) _ = _
             simp only [Act.put, List.setIfInBounds_toArray, List.set_cons_zero, List.set_cons_succ, i64_w, i32_w]
             rfl
            refine pure_ (i := 28) (N := some 96) (v := ?_) (a' := ?_) #[true, true, true, true, true, true, true, true, true, true, true, true, true, true, true, true, true, true, true, true, true, true, true, true, true, true, true, true, true, false, false, false, false, false, false, false, false, false, false, false] rfl rfl (any_of HT_.out (by kernel_rfl)) (fun _ _ _ h => h) (Or.inl ⟨by rfl, ?_⟩) ?_ ?_
            rotate_left
            ·
             intro w'
             go_simp
             with_reducible rfl
            rotate_left
            ·
             simp only [Act.put, List.setIfInBounds_toArray, List.set_cons_zero, List.set_cons_succ, i64_w, i32_w]
             rfl
            refine pure_ (i := 29) (N := some 97) (v := ?_) (a' := ?_) #[true, true, true, true, true, true, true, true, true, true, true, true, true, true, true, true, true, true, true, true, true, true, true, true, true, true, true, true, true, true, false, false, false, false, false, false, false, false, false, false] rfl rfl (any_of HT_.out (by kernel_rfl)) (fun _ _ _ h => h) (Or.inl ⟨by rfl, ?_⟩) ?_ ?_
            rotate_left
            ·
             intro w'
             go_simp
             with_reducible rfl
            rotate_left
            ·
             simp only [Act.put, List.setIfInBounds_toArray, List.set_cons_zero, List.set_cons_succ, i64_w, i32_w]
             rfl
            refine pure_ (i := 30) (N := some 98) (v := ?_) (a' := ?_) #[true, true, true, true, true, true, true, true, true, true, true, true, true, true, true, true, true, true, true, true, true, true, true, true, true, true, true, true, true, true, true, false, false, false, false, false, false, false, false, false] rfl rfl (any_of HT_.out (by kernel_rfl)) (fun _ _ _ h => h) (Or.inl ⟨by rfl, ?_⟩) ?_ ?_
            rotate_left
            ·
             intro w'
             go_simp
             with_reducible rfl
            rotate_left
            ·
             simp only [Act.put, List.setIfInBounds_toArray, List.set_cons_zero, List.set_cons_succ, i64_w, i32_w]
             rfl
            refine take_ (i := 31) (N := some 99) (v := ?_) (a' := ?_) #[true, true, true, true, true, true, true, true, true, true, true, true, true, true, true, true, true, true, true, true, true, true, true, true, true, true, true, true, true, true, true, true, false, false, false, false, false, false, false, false] rfl rfl (take_ofW HT_.out HW_.out (by kernel_rfl)) (fun _ _ _ h => h) (Or.inl ⟨by rfl, ?_⟩) hHeld ?_ ?_
            rotate_left
            ·
             rintro w' ⟨s0, s1, s2, s3, s4, s5, s6, s7, s8, s9, s10, s11, s12, s13, s14⟩
             go_simp
             with_reducible rfl
            rotate_left
            ·
             simp only [Act.put, List.setIfInBounds_toArray, List.set_cons_zero, List.set_cons_succ, i64_w, i32_w]
             rfl
            refine take_ (i := 32) (N := some 100) (v := ?_) (a' := ?_) #[true, true, true, true, true, true, true, true, true, true, true, true, true, true, true, true, true, true, true, true, true, true, true, true, true, true, true, true, true, true, true, true, true, false, false, false, false, false, false, false] rfl rfl (take_ofW HT_.out HW_.out (by kernel_rfl)) (fun _ _ _ h => h) (Or.inl ⟨by rfl, ?_⟩) hHeld ?_ ?_
            rotate_left
            ·
             rintro w' ⟨s0, s1, s2, s3, s4, s5, s6, s7, s8, s9, s10, s11, s12, s13, s14⟩
             go_simp
             with_reducible rfl
            rotate_left
            ·
             simp only [Act.put, List.setIfInBounds_toArray, List.set_cons_zero, List.set_cons_succ, i64_w, i32_w]
             rfl
            refine take_ (i := 33) (N := some 101) (v := ?_) (a' := ?_) #[true, true, true, true, true, true, true, true, true, true, true, true, true, true, true, true, true, true, true, true, true, true, true, true, true, true, true, true, true, true, true, true, true, true, false, false, false, false, false, false] rfl rfl (take_ofW HT_.out HW_.out (by kernel_rfl)) (fun _ _ _ h => h) (Or.inl ⟨by rfl, ?_⟩) hHeld ?_ ?_
            rotate_left
            ·
             rintro w' ⟨s0, s1, s2, s3, s4, s5, s6, s7, s8, s9, s10, s11, s12, s13, s14⟩
             go_simp
             with_reducible rfl
            rotate_left
            ·
             simp only [Act.put, List.setIfInBounds_toArray, List.set_cons_zero, List.set_cons_succ, i64_w, i32_w]
             rfl
            refine take_ (i := 34) (N := some 102) (v := ?_) (a' := ?_) #[true, true, true, true, true, true, true, true, true, true, true, true, true, true, true, true, true, true, true, true, true, true, true, true, true, true, true, true, true, true, true, true, true, true, true, false, false, false, false, false] rfl rfl (take_ofW HT_.out HW_.out (by kernel_rfl)) (fun _ _ _ h => h) (Or.inl ⟨by rfl, ?_⟩) hHeld ?_ ?_
            rotate_left
            ·
             rintro w' ⟨s0, s1, s2, s3, s4, s5, s6, s7, s8, s9, s10, s11, s12, s13, s14⟩
             go_simp
             with_reducible rfl
            rotate_left
            ·
             simp only [Act.put, List.setIfInBounds_toArray, List.set_cons_zero, List.set_cons_succ, i64_w, i32_w]
             rfl
            refine one_ (i := 35) (N := some 103) #[true, true, true, true, true, true, true, true, true, true, true, true, true, true, true, true, true, true, true, true, true, true, true, true, true, true, true, true, true, true, true, true, true, true, true, true, false, false, false, false] rfl rfl (one_of HT_.out (by kernel_rfl)) (by decide) (fun K hK => ?_)
            refine Kd.N_lit_step k37 _ 37 ?hg (N' := 103) ?hd (xs := ([(⟨l0_0, l0_1, a0_2, a0_3, a0_4⟩ : S37), (⟨l1_0, l1_1, a1_2, a1_3, a1_4⟩ : S37), (⟨l2_0, l2_1, a2_2, a2_3, a2_4⟩ : S37), (⟨l0_0, l0_1, a0_2, a0_3, a0_4⟩ : S37)] : List (S37))) (inner := [.slice A0_0 l0_0.length c0_0, .slice A0_1 l0_1.length c0_1, .int .i64 a0_2, .int .i64 a0_3, .int .i64 a0_4, .slice A1_0 l1_0.length c1_0, .slice A1_1 l1_1.length c1_1, .int .i64 a1_2, .int .i64 a1_3, .int .i64 a1_4, .slice A2_0 l2_0.length c2_0, .slice A2_1 l2_1.length c2_1, .int .i64 a2_2, .int .i64 a2_3, .int .i64 a2_4, .slice A0_0 l0_0.length c0_0, .slice A0_1 l0_1.length c0_1, .int .i64 a0_2, .int .i64 a0_3, .int .i64 a0_4]) (ok := (fun k_ => ((P0_0_ k_ ∨ P0_1_ k_ ∨ P1_0_ k_ ∨ P1_1_ k_ ∨ P2_0_ k_ ∨ P2_1_ k_) ∨ w.heap.size ≤ k_) ∧ some k_ ≠ (.slice Ao136 y383.length co136 : Value).ownBlock ∧ some k_ ≠ (.slice Ao140 y400.length co140 : Value).ownBlock ∧ some k_ ≠ (.slice Ao144 y404.length co144 : Value).ownBlock ∧ k_ ≠ gb371 ∧ k_ ≠ gb372 ∧ k_ ≠ gb373)) (okp := (fun k_ => ((P0_0_ k_ ∨ P0_1_ k_ ∨ P1_0_ k_ ∨ P1_1_ k_ ∨ P2_0_ k_ ∨ P2_1_ k_) ∨ w.heap.size ≤ k_) ∧ some k_ ≠ (.slice Ao136 y383.length co136 : Value).ownBlock ∧ some k_ ≠ (.slice Ao140 y400.length co140 : Value).ownBlock ∧ some k_ ≠ (.slice Ao144 y404.length co144 : Value).ownBlock ∧ k_ ≠ gb371 ∧ k_ ≠ gb372 ∧ k_ ≠ gb373)) ?hr ?hp (fun _ hk => hk) ((show ∀ k_, w146.heap.size ≤ k_ → (fun k_ => ((P0_0_ k_ ∨ P0_1_ k_ ∨ P1_0_ k_ ∨ P1_1_ k_ ∨ P2_0_ k_ ∨ P2_1_ k_) ∨ w.heap.size ≤ k_) ∧ some k_ ≠ (.slice Ao136 y383.length co136 : Value).ownBlock ∧ some k_ ≠ (.slice Ao140 y400.length co140 : Value).ownBlock ∧ some k_ ≠ (.slice Ao144 y404.length co144 : Value).ownBlock ∧ k_ ≠ gb371 ∧ k_ ≠ gb372 ∧ k_ ≠ gb373) k_ from fun k_ hk => ⟨(.inr (Nat.le_trans (below_size (upH HB.out)) hk)), Kd.fresh' (Kd.N_lt (upN HO385.out)) k_ hk, Kd.fresh' (Kd.N_lt (upN HO402.out)) k_ hk, Kd.fresh' (Kd.N_lt (upN HO406.out)) k_ hk, Kd.freshB (g := gb371) (o := .cells #[.slice A0_0 l0_0.length c0_0, .slice A0_1 l0_1.length c0_1, .int .i64 a0_2, .int .i64 a0_3, .int .i64 a0_4] 37 (0, 0)) (upB BK371.out) k_ hk, Kd.freshB (g := gb372) (o := .cells #[.slice A1_0 l1_0.length c1_0, .slice A1_1 l1_1.length c1_1, .int .i64 a1_2, .int .i64 a1_3, .int .i64 a1_4] 37 (0, 0)) (upB BK372.out) k_ hk, Kd.freshB (g := gb373) (o := .cells #[.slice A2_0 l2_0.length c2_0, .slice A2_1 l2_1.length c2_1, .int .i64 a2_2, .int .i64 a2_3, .int .i64 a2_4] 37 (0, 0)) (upB BK373.out) k_ hk⟩) _ (Nat.le_refl _)) (Below.refl _ _) (Nat.le_refl _) (by simp) ?_; (case hd => rfl); (case hg => rfl); (case hr => first | (go_simp; done) | (go_simp; rfl)); (case hp => exact (Reps.c5 (show Kd.FK k37 _ _ (⟨l0_0, l0_1, a0_2, a0_3, a0_4⟩ : S37) [.slice A0_0 l0_0.length c0_0, .slice A0_1 l0_1.length c0_1, .int .i64 a0_2, .int .i64 a0_3, .int .i64 a0_4] from (k37_mkF _ _ (⟨l0_0, l0_1, a0_2, a0_3, a0_4⟩ : S37) (Kd.V_reads' HO_372000.out).2.1 (Kd.V_F (Kd.V_mono (ok' := (fun k_ => ((P0_0_ k_ ∨ P0_1_ k_ ∨ P1_0_ k_ ∨ P1_1_ k_ ∨ P2_0_ k_ ∨ P2_1_ k_) ∨ w.heap.size ≤ k_) ∧ some k_ ≠ (.slice Ao136 y383.length co136 : Value).ownBlock ∧ some k_ ≠ (.slice Ao140 y400.length co140 : Value).ownBlock ∧ some k_ ≠ (.slice Ao144 y404.length co144 : Value).ownBlock ∧ k_ ≠ gb371 ∧ k_ ≠ gb372 ∧ k_ ≠ gb373)) (HO_372000.out) (fun k_ hk => ⟨hk.1.1.1.1, ⟨hk.1.1.2, ⟨hk.1.2, ⟨hk.2, ⟨hk.1.1.1.2.1, ⟨hk.1.1.1.2.2.1, hk.1.1.1.2.2.2⟩⟩⟩⟩⟩⟩))) (Kd.V_reads' HO_372001.out).2.1 (Kd.V_F (Kd.V_mono (ok' := (fun k_ => ((P0_0_ k_ ∨ P0_1_ k_ ∨ P1_0_ k_ ∨ P1_1_ k_ ∨ P2_0_ k_ ∨ P2_1_ k_) ∨ w.heap.size ≤ k_) ∧ some k_ ≠ (.slice Ao136 y383.length co136 : Value).ownBlock ∧ some k_ ≠ (.slice Ao140 y400.length co140 : Value).ownBlock ∧ some k_ ≠ (.slice Ao144 y404.length co144 : Value).ownBlock ∧ k_ ≠ gb371 ∧ k_ ≠ gb372 ∧ k_ ≠ gb373)) (HO_372001.out) (fun k_ hk => ⟨hk.1.1.1.1, ⟨hk.1.1.2, ⟨hk.1.2, ⟨hk.2, ⟨hk.1.1.1.2.1, ⟨hk.1.1.1.2.2.1, hk.1.1.1.2.2.2⟩⟩⟩⟩⟩⟩))))) (Reps.c5 (show Kd.FK k37 _ _ (⟨l1_0, l1_1, a1_2, a1_3, a1_4⟩ : S37) [.slice A1_0 l1_0.length c1_0, .slice A1_1 l1_1.length c1_1, .int .i64 a1_2, .int .i64 a1_3, .int .i64 a1_4] from (k37_mkF _ _ (⟨l1_0, l1_1, a1_2, a1_3, a1_4⟩ : S37) (Kd.V_reads' HO_373000.out).2.1 (Kd.V_F (Kd.V_mono (ok' := (fun k_ => ((P0_0_ k_ ∨ P0_1_ k_ ∨ P1_0_ k_ ∨ P1_1_ k_ ∨ P2_0_ k_ ∨ P2_1_ k_) ∨ w.heap.size ≤ k_) ∧ some k_ ≠ (.slice Ao136 y383.length co136 : Value).ownBlock ∧ some k_ ≠ (.slice Ao140 y400.length co140 : Value).ownBlock ∧ some k_ ≠ (.slice Ao144 y404.length co144 : Value).ownBlock ∧ k_ ≠ gb371 ∧ k_ ≠ gb372 ∧ k_ ≠ gb373)) (HO_373000.out) (fun k_ hk => ⟨hk.1.1.1.1, ⟨hk.1.1.2, ⟨hk.1.2, ⟨hk.2, ⟨hk.1.1.1.2.1, ⟨hk.1.1.1.2.2.1, hk.1.1.1.2.2.2⟩⟩⟩⟩⟩⟩))) (Kd.V_reads' HO_373001.out).2.1 (Kd.V_F (Kd.V_mono (ok' := (fun k_ => ((P0_0_ k_ ∨ P0_1_ k_ ∨ P1_0_ k_ ∨ P1_1_ k_ ∨ P2_0_ k_ ∨ P2_1_ k_) ∨ w.heap.size ≤ k_) ∧ some k_ ≠ (.slice Ao136 y383.length co136 : Value).ownBlock ∧ some k_ ≠ (.slice Ao140 y400.length co140 : Value).ownBlock ∧ some k_ ≠ (.slice Ao144 y404.length co144 : Value).ownBlock ∧ k_ ≠ gb371 ∧ k_ ≠ gb372 ∧ k_ ≠ gb373)) (HO_373001.out) (fun k_ hk => ⟨hk.1.1.1.1, ⟨hk.1.1.2, ⟨hk.1.2, ⟨hk.2, ⟨hk.1.1.1.2.1, ⟨hk.1.1.1.2.2.1, hk.1.1.1.2.2.2⟩⟩⟩⟩⟩⟩))))) (Reps.c5 (show Kd.FK k37 _ _ (⟨l2_0, l2_1, a2_2, a2_3, a2_4⟩ : S37) [.slice A2_0 l2_0.length c2_0, .slice A2_1 l2_1.length c2_1, .int .i64 a2_2, .int .i64 a2_3, .int .i64 a2_4] from (k37_mkF _ _ (⟨l2_0, l2_1, a2_2, a2_3, a2_4⟩ : S37) (Kd.V_reads' HO_374000.out).2.1 (Kd.V_F (Kd.V_mono (ok' := (fun k_ => ((P0_0_ k_ ∨ P0_1_ k_ ∨ P1_0_ k_ ∨ P1_1_ k_ ∨ P2_0_ k_ ∨ P2_1_ k_) ∨ w.heap.size ≤ k_) ∧ some k_ ≠ (.slice Ao136 y383.length co136 : Value).ownBlock ∧ some k_ ≠ (.slice Ao140 y400.length co140 : Value).ownBlock ∧ some k_ ≠ (.slice Ao144 y404.length co144 : Value).ownBlock ∧ k_ ≠ gb371 ∧ k_ ≠ gb372 ∧ k_ ≠ gb373)) (HO_374000.out) (fun k_ hk => ⟨hk.1.1.1.1, ⟨hk.1.1.2, ⟨hk.1.2, ⟨hk.2, ⟨hk.1.1.1.2.1, ⟨hk.1.1.1.2.2.1, hk.1.1.1.2.2.2⟩⟩⟩⟩⟩⟩))) (Kd.V_reads' HO_374001.out).2.1 (Kd.V_F (Kd.V_mono (ok' := (fun k_ => ((P0_0_ k_ ∨ P0_1_ k_ ∨ P1_0_ k_ ∨ P1_1_ k_ ∨ P2_0_ k_ ∨ P2_1_ k_) ∨ w.heap.size ≤ k_) ∧ some k_ ≠ (.slice Ao136 y383.length co136 : Value).ownBlock ∧ some k_ ≠ (.slice Ao140 y400.length co140 : Value).ownBlock ∧ some k_ ≠ (.slice Ao144 y404.length co144 : Value).ownBlock ∧ k_ ≠ gb371 ∧ k_ ≠ gb372 ∧ k_ ≠ gb373)) (HO_374001.out) (fun k_ hk => ⟨hk.1.1.1.1, ⟨hk.1.1.2, ⟨hk.1.2, ⟨hk.2, ⟨hk.1.1.1.2.1, ⟨hk.1.1.1.2.2.1, hk.1.1.1.2.2.2⟩⟩⟩⟩⟩⟩))))) (Reps.c5 (show Kd.FK k37 _ _ (⟨l0_0, l0_1, a0_2, a0_3, a0_4⟩ : S37) [.slice A0_0 l0_0.length c0_0, .slice A0_1 l0_1.length c0_1, .int .i64 a0_2, .int .i64 a0_3, .int .i64 a0_4] from (k37_mkF _ _ (⟨l0_0, l0_1, a0_2, a0_3, a0_4⟩ : S37) (Kd.V_reads' HO_372000.out).2.1 (Kd.V_F (Kd.V_mono (ok' := (fun k_ => ((P0_0_ k_ ∨ P0_1_ k_ ∨ P1_0_ k_ ∨ P1_1_ k_ ∨ P2_0_ k_ ∨ P2_1_ k_) ∨ w.heap.size ≤ k_) ∧ some k_ ≠ (.slice Ao136 y383.length co136 : Value).ownBlock ∧ some k_ ≠ (.slice Ao140 y400.length co140 : Value).ownBlock ∧ some k_ ≠ (.slice Ao144 y404.length co144 : Value).ownBlock ∧ k_ ≠ gb371 ∧ k_ ≠ gb372 ∧ k_ ≠ gb373)) (HO_372000.out) (fun k_ hk => ⟨hk.1.1.1.1, ⟨hk.1.1.2, ⟨hk.1.2, ⟨hk.2, ⟨hk.1.1.1.2.1, ⟨hk.1.1.1.2.2.1, hk.1.1.1.2.2.2⟩⟩⟩⟩⟩⟩))) (Kd.V_reads' HO_372001.out).2.1 (Kd.V_F (Kd.V_mono (ok' := (fun k_ => ((P0_0_ k_ ∨ P0_1_ k_ ∨ P1_0_ k_ ∨ P1_1_ k_ ∨ P2_0_ k_ ∨ P2_1_ k_) ∨ w.heap.size ≤ k_) ∧ some k_ ≠ (.slice Ao136 y383.length co136 : Value).ownBlock ∧ some k_ ≠ (.slice Ao140 y400.length co140 : Value).ownBlock ∧ some k_ ≠ (.slice Ao144 y404.length co144 : Value).ownBlock ∧ k_ ≠ gb371 ∧ k_ ≠ gb372 ∧ k_ ≠ gb373)) (HO_372001.out) (fun k_ hk => ⟨hk.1.1.1.1, ⟨hk.1.1.2, ⟨hk.1.2, ⟨hk.2, ⟨hk.1.1.1.2.1, ⟨hk.1.1.1.2.2.1, hk.1.1.1.2.2.2⟩⟩⟩⟩⟩⟩))))) (Reps.none _ _))))))
            intro v410 w147 ho148 hb hg_ hnew_
            clear hg_ hnew_
            (first | rw [← Ny409.out] at ho148 | (simp only [Int.reduceToNat] at ho148; rw [← Ny409.out] at ho148))
            have n0_ := Aside0.mk (Kd.V_elder' (upV HO_372000.out) (Kd.N_base ho148) hb)
            have n1_ := Aside0.mk (Kd.V_elder' (upV HO_372001.out) (Kd.N_base ho148) hb)
            have n2_ := Aside0.mk (Kd.V_elder' (upV HO_373000.out) (Kd.N_base ho148) hb)
            have n3_ := Aside0.mk (Kd.V_elder' (upV HO_373001.out) (Kd.N_base ho148) hb)
            have n4_ := Aside0.mk (Kd.V_elder' (upV HO_374000.out) (Kd.N_base ho148) hb)
            have n5_ := Aside0.mk (Kd.V_elder' (upV HO_374001.out) (Kd.N_base ho148) hb)
            have n6_ := Aside0.mk (Kd.N_elder' (upN HO385.out) (Kd.N_base ho148) hb)
            have n7_ := Aside0.mk (Kd.N_elder' (upN HO402.out) (Kd.N_base ho148) hb)
            have n8_ := Aside0.mk (Kd.N_elder' (upN HO406.out) (Kd.N_base ho148) hb)
            have n9_ := Aside0.mk (Kd.N_lower ho148 (below_size (upH HB.out)))
            have n10_ := Aside0.mk (blk_below (g := gb371) (o := .cells #[.slice A0_0 l0_0.length c0_0, .slice A0_1 l0_1.length c0_1, .int .i64 a0_2, .int .i64 a0_3, .int .i64 a0_4] 37 (0, 0)) (upB BK371.out) hb)
            have n11_ := Aside0.mk (blk_below (g := gb372) (o := .cells #[.slice A1_0 l1_0.length c1_0, .slice A1_1 l1_1.length c1_1, .int .i64 a1_2, .int .i64 a1_3, .int .i64 a1_4] 37 (0, 0)) (upB BK372.out) hb)
            have n12_ := Aside0.mk (blk_below (g := gb373) (o := .cells #[.slice A2_0 l2_0.length c2_0, .slice A2_1 l2_1.length c2_1, .int .i64 a2_2, .int .i64 a2_3, .int .i64 a2_4] 37 (0, 0)) (upB BK373.out) hb)
            have n13_ := Aside0.mk (below_step (upH HB.out) hb)
            clear HO_372000 HO_372001 HO_373000 HO_373001 HO_374000 HO_374001 HO385 HO402 HO406 BK371 BK372 BK373 HB
            have HO_372000 := n0_
            have HO_372001 := n1_
            have HO_373000 := n2_
            have HO_373001 := n3_
            have HO_374000 := n4_
            have HO_374001 := n5_
            have HO385 := n6_
            have HO402 := n7_
            have HO406 := n8_
            have HO411 := n9_
            have BK371 := n10_
            have BK372 := n11_
            have BK373 := n12_
            have HB := n13_
            clear n0_ n1_ n2_ n3_ n4_ n5_ n6_ n7_ n8_ n9_ n10_ n11_ n12_ n13_
            clear hb ho148
            obtain ⟨Ao149, co149, eo149⟩ := Kd.N_slice HO411.out
            (first | subst eo149 | (injection eo149 with f1_ f2_ f3_; have f4_ := f1_.symm; have f5_ := f3_.symm; clear f1_ f2_ f3_; subst f4_; subst f5_))
            refine hK.out _ _ ⟨(blk_cell BK371.out 0).trans rfl, (blk_cell BK371.out 1).trans rfl, (blk_cell BK371.out 2).trans rfl, (blk_cell BK371.out 3).trans rfl, (blk_cell BK371.out 4).trans rfl, (blk_cell BK372.out 0).trans rfl, (blk_cell BK372.out 1).trans rfl, (blk_cell BK372.out 2).trans rfl, (blk_cell BK372.out 3).trans rfl, (blk_cell BK372.out 4).trans rfl, (blk_cell BK373.out 0).trans rfl, (blk_cell BK373.out 1).trans rfl, (blk_cell BK373.out 2).trans rfl, (blk_cell BK373.out 3).trans rfl, (blk_cell BK373.out 4).trans rfl⟩ (fun hHeld => ?_)
            clear hK K
            refine norm_ (a' := ?_) ?_ ?_
            rotate_left
            ·
             show Act.put _ (some 103) _ = _
             simp only [Act.put, List.setIfInBounds_toArray, List.set_cons_zero, List.set_cons_succ, i64_w, i32_w]
             rfl
            refine one_ (i := 36) (N := some 104) #[true, true, true, true, true, true, true, true, true, true, true, true, true, true, true, true, true, true, true, true, true, true, true, true, true, true, true, true, true, true, true, true, true, true, true, true, true, false, false, false] rfl rfl (one_of HT_.out (by kernel_rfl)) (by decide) (fun K hK => ?_)
            refine goes_ Tryd.func35 (by kernel_rfl) rfl #[.slice Ao149 y409.length co149] (by rfl) rfl rfl (by (try simp only [List.map_toArray, List.map_cons, List.map_nil]); first | done | rfl | (simp only [List.length_drop, List.length_take]; rfl)) ?_
            with_reducible refine (plan_All.calls _ _ y409 t412 _ ?side1 ?side2 ?side3 A132.out).mono ?_
            (case side1 => repeat (first | exact (Kd.N_reads' HO411.out).2.2 | (with_reducible refine Kd.C_alloc ?_ _) | (with_reducible refine Kd.C_drewN ?_ _) | (with_reducible refine Kd.C_drew ?_)))
            (case side2 => exact (Kd.N_reads' HO411.out).2.1)
            (case side3 => first | (with_reducible exact HG.out) | (refine GlobOk.below HG.out ?_; repeat (first | (with_reducible first | exact HB.out | apply below_alloc | apply pw_below_drewN | apply below_drew1 | refine below_set ?_ GE371.out | refine below_set ?_ GE372.out | refine below_set ?_ GE373.out) | exact HB.out)))
            rintro e w150 ⟨rfl, hb⟩
            refine ⟨_, rfl, ?_⟩
            have n0_ := Aside0.mk (Kd.V_below (upV HO_372000.out) hb)
            have n1_ := Aside0.mk (Kd.V_below (upV HO_372001.out) hb)
            have n2_ := Aside0.mk (Kd.V_below (upV HO_373000.out) hb)
            have n3_ := Aside0.mk (Kd.V_below (upV HO_373001.out) hb)
            have n4_ := Aside0.mk (Kd.V_below (upV HO_374000.out) hb)
            have n5_ := Aside0.mk (Kd.V_below (upV HO_374001.out) hb)
            have n6_ := Aside0.mk (Kd.N_below (upN HO385.out) hb)
            have n7_ := Aside0.mk (Kd.N_below (upN HO402.out) hb)
            have n8_ := Aside0.mk (Kd.N_below (upN HO406.out) hb)
            have n9_ := Aside0.mk (Kd.N_below (upN HO411.out) hb)
            have n10_ := Aside0.mk (blk_below (g := gb371) (o := .cells #[.slice A0_0 l0_0.length c0_0, .slice A0_1 l0_1.length c0_1, .int .i64 a0_2, .int .i64 a0_3, .int .i64 a0_4] 37 (0, 0)) (upB BK371.out) hb)
            have n11_ := Aside0.mk (blk_below (g := gb372) (o := .cells #[.slice A1_0 l1_0.length c1_0, .slice A1_1 l1_1.length c1_1, .int .i64 a1_2, .int .i64 a1_3, .int .i64 a1_4] 37 (0, 0)) (upB BK372.out) hb)
            have n12_ := Aside0.mk (blk_below (g := gb373) (o := .cells #[.slice A2_0 l2_0.length c2_0, .slice A2_1 l2_1.length c2_1, .int .i64 a2_2, .int .i64 a2_3, .int .i64 a2_4] 37 (0, 0)) (upB BK373.out) hb)
            have n13_ := Aside0.mk (below_step (upH HB.out) hb)
            clear HO_372000 HO_372001 HO_373000 HO_373001 HO_374000 HO_374001 HO385 HO402 HO406 HO411 BK371 BK372 BK373 HB
            have HO_372000 := n0_
            have HO_372001 := n1_
            have HO_373000 := n2_
            have HO_373001 := n3_
            have HO_374000 := n4_
            have HO_374001 := n5_
            have HO385 := n6_
            have HO402 := n7_
            have HO406 := n8_
            have HO411 := n9_
            have BK371 := n10_
            have BK372 := n11_
            have BK373 := n12_
            have HB := n13_
            clear n0_ n1_ n2_ n3_ n4_ n5_ n6_ n7_ n8_ n9_ n10_ n11_ n12_ n13_
            (try clear hb)
            (try clear hb2)
            (try clear hk)
            (try clear hi)
            refine hK.out _ _ ⟨(blk_cell BK371.out 0).trans rfl, (blk_cell BK371.out 1).trans rfl, (blk_cell BK371.out 2).trans rfl, (blk_cell BK371.out 3).trans rfl, (blk_cell BK371.out 4).trans rfl, (blk_cell BK372.out 0).trans rfl, (blk_cell BK372.out 1).trans rfl, (blk_cell BK372.out 2).trans rfl, (blk_cell BK372.out 3).trans rfl, (blk_cell BK372.out 4).trans rfl, (blk_cell BK373.out 0).trans rfl, (blk_cell BK373.out 1).trans rfl, (blk_cell BK373.out 2).trans rfl, (blk_cell BK373.out 3).trans rfl, (blk_cell BK373.out 4).trans rfl⟩ (fun hHeld => ?_)
            clear hK K
            refine norm_ (a' := ?_) ?_ ?_
            rotate_left
            ·
             show Act.put _ (some 104) _ = _
             simp only [Act.put, List.setIfInBounds_toArray, List.set_cons_zero, List.set_cons_succ, i64_w, i32_w]
             rfl
            refine pure_ (i := 37) (N := some 105) (v := ?_) (a' := ?_) #[true, true, true, true, true, true, true, true, true, true, true, true, true, true, true, true, true, true, true, true, true, true, true, true, true, true, true, true, true, true, true, true, true, true, true, true, true, true, false, false] rfl rfl (any_of HT_.out (by kernel_rfl)) (fun _ _ _ h => h) (Or.inl ⟨by rfl, ?_⟩) ?_ ?_
            rotate_left
            ·
             intro w'
             go_simp
             with_reducible rfl
            rotate_left
            ·
             simp only [Act.put, List.setIfInBounds_toArray, List.set_cons_zero, List.set_cons_succ, i64_w, i32_w]
             rfl
            refine pure_ (i := 38) (N := some 106) (v := ?_) (a' := ?_) #[true, true, true, true, true, true, true, true, true, true, true, true, true, true, true, true, true, true, true, true, true, true, true, true, true, true, true, true, true, true, true, true, true, true, true, true, true, true, true, false] rfl rfl (any_of HT_.out (by kernel_rfl)) (fun _ _ _ h => h) (Or.inl ⟨by rfl, ?_⟩) ?_ ?_
            rotate_left
            ·
             intro w'
             go_simp
             with_reducible rfl
            rotate_left
            ·
             simp only [Act.put, List.setIfInBounds_toArray, List.set_cons_zero, List.set_cons_succ, i64_w, i32_w]
             rfl
            refine pure_ (i := 39) (N := some 6) (v := ?_) (a' := ?_) #[true, true, true, true, true, true, true, true, true, true, true, true, true, true, true, true, true, true, true, true, true, true, true, true, true, true, true, true, true, true, true, true, true, true, true, true, true, true, true, true] rfl rfl (any_of HT_.out (by kernel_rfl)) (fun _ _ _ h => h) (Or.inl ⟨by rfl, ?_⟩) ?_ ?_
            rotate_left
            ·
             intro w'
             go_simp
             with_reducible rfl
            rotate_left
            ·
             simp only [Act.put, List.setIfInBounds_toArray, List.set_cons_zero, List.set_cons_succ, i64_w, i32_w]
             rfl
            refine done_ (done_of HT_.out (by kernel_rfl)) ?_
            try go_wp2
            go_ret
            exact ⟨by first | rfl | (simp [errW_none, errW_some] <;> rfl) | (simp [*, errW_none, errW_some] <;> rfl), by repeat (first | (with_reducible first | exact HB.out | apply below_alloc | apply pw_below_drewN | apply below_drew1 | refine below_set ?_ GE371.out | refine below_set ?_ GE372.out | refine below_set ?_ GE373.out) | exact HB.out)⟩
           ·
            rw [if_neg c131] at H
            have c131b0 : (t407 == t408) = false := by simpa using c131
            (try (have c131b1 : decide (t407 = t408) = false := by simpa using c131))
            (try (have c131b2 : (t407 == t408) = false := by simpa using c131))
            (try (have c131b3 : ¬ (t407 = t408) := by simpa using c131))
            clear c131
            exact absurd (Option.some.inj H) (by rw [HRR.out]; decide)
          ·
           rw [if_neg c128] at H
           have c128b0 : (t403 == false) = false := by simpa using c128
           (try (have c128b1 : decide (t403 = false) = false := by simpa using c128))
           (try (have c128b2 : (t403 == false) = false := by simpa using c128))
           (try (have c128b3 : ¬ (t403 = false) := by simpa using c128))
           clear c128
           exact absurd (Option.some.inj H) (by rw [HRR.out]; decide)
         ·
          rw [if_neg c126] at H
          have c126b0 : (t386 == false) = false := by simpa using c126
          (try (have c126b1 : decide (t386 = false) = false := by simpa using c126))
          (try (have c126b2 : (t386 == false) = false := by simpa using c126))
          (try (have c126b3 : ¬ (t386 = false) := by simpa using c126))
          clear c126
          exact absurd (Option.some.inj H) (by rw [HRR.out]; decide)

end Go.Proofs.YtnogkpofgkaefaaDoor.F
