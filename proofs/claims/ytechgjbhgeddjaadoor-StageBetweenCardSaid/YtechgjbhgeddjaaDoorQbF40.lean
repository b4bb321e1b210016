/- Woven by wip/weave/weave.py of this repo (own tool) out of the translation: the contracts of some functions. Lean checks it. -/
import Derived.Test.YtechgjbhgeddjaaDoorQbD
import Derived.Test.YtechgjbhgeddjaaDoorQbDStageBetween
import Derived.Test.YtechgjbhgeddjaaDoorQbF0
import Derived.Test.YtechgjbhgeddjaaDoorQbF5
import Derived.Test.YtechgjbhgeddjaaDoorQbF15
import Derived.Test.YtechgjbhgeddjaaDoorQbF16
import Derived.Test.YtechgjbhgeddjaaDoorQbF21
import Derived.Test.YtechgjbhgeddjaaDoorQbF22
namespace Go.Proofs.YtechgjbhgeddjaaDoor.F
open Go.RowKit Go.Proofs.YtechgjbhgeddjaaDoorW.PrintWords Go.Proofs.YtechgjbhgeddjaaDoorW.PrintLast Go.Proofs.YtechgjbhgeddjaaDoorW.PrintMore
attribute [local go_sem] max2_int min2_int max_two min_two max_three min_three max_four min_four   -- for this text's walks alone
set_option linter.unusedVariables false
set_option linter.unusedSimpArgs false
theorem upBn {P Q : Prop} (h : P) (f : P → Q := by intro h_; (with_reducible repeat (first | refine blk_drewN ?_ _ | refine blk_drew ?_ | refine blk_alloc ?_ _)); exact h_) : Q := f h
theorem upHn {P Q : Prop} (h : P) (f : P → Q := by intro h_; repeat (first | (with_reducible first | exact h_ | apply below_alloc | apply pw_below_drewN | apply below_drew1 | refine below_set ?_ (Aside0.out (by assumption))) | exact h_)) : Q := f h
/-! ### pelicanlaw16_StageBetween: function 5 -/
set_option maxHeartbeats 8000000 in
set_option maxRecDepth 100000 in
theorem pelicanlaw16_StageBetween.calls (k : Nat) (A0 : Option Addr) (c0 : Nat) (l0 : List (S39)) (a1_0 : Int) (a1_1 : Int) (a1_2 : Int) (a1_3 : Int) (a1_4 : Int) (a1_5 : Int) (a1_6 : Int) (a1_7 : Int) (a1_8 : Int) (a1_9 : Bool) (r : Bool) (HRR0 : r = true) (w : World) (hr0 : Kd.C k39 w A0 l0.length l0) (hc0 : l0.length ≤ c0) (hG : GlobOk w) (h : pelicanlaw16_StageBetween.f k l0 a1_0 a1_1 a1_2 a1_3 a1_4 a1_5 a1_6 a1_7 a1_8 a1_9 = some r) :
  Calls Tryd.prog 5 #[.slice A0 l0.length c0, .agg #[.int .i64 a1_0, .int .i64 a1_1, .int .i64 a1_2, .int .i64 a1_3, .int .i64 a1_4, .int .i64 a1_5, .int .i64 a1_6, .int .i64 a1_7, .int .i64 a1_8, .bool a1_9]] w fun e w' => e = .returned (.bool r) ∧ Below w.heap.size w w' := by
 have hu24 := Tryd.underlying24
 have hu39 := Tryd.underlying39
 have HR0 := Aside0.mk hr0
 have HC0 := Aside0.mk hc0
 clear hr0 hc0
 have HG := Aside0.mk hG
 clear hG
 have HB := Aside0.mk (Below.refl w.heap.size w)
 have H : ((pelicanlaw16_awake.f k).bind fun t457 => ((pelicanlaw14_FewAll.f k l0).bind fun t458 => (if t457 = true then (if t458 = true then ((stage_May.f k l0 a1_0 a1_1 a1_2 a1_3 a1_4 a1_5 a1_6 a1_7 a1_8 a1_9).bind fun t459 => (if t459 = true then (pelicanlaw16_StageBetween.j0 k l0 t457 (a1_3 != 0) a1_0 a1_1 a1_2 a1_3 a1_4 a1_5 a1_6 a1_7 a1_8 a1_9) else (pelicanlaw16_StageBetween.j0 k l0 t457 true a1_0 a1_1 a1_2 a1_3 a1_4 a1_5 a1_6 a1_7 a1_8 a1_9))) else (pelicanlaw16_StageBetween.j0 k l0 t457 true a1_0 a1_1 a1_2 a1_3 a1_4 a1_5 a1_6 a1_7 a1_8 a1_9)) else (pelicanlaw16_StageBetween.j0 k l0 t457 true a1_0 a1_1 a1_2 a1_3 a1_4 a1_5 a1_6 a1_7 a1_8 a1_9)))) = some r := h
 clear h
 have HRR := Aside0.mk HRR0
 clear HRR0
 replace H := Option.bind_eq_some_iff.mp H
 obtain ⟨t457, A30, H⟩ := H
 replace H : ((pelicanlaw14_FewAll.f k l0).bind fun t458 => (if t457 = true then (if t458 = true then ((stage_May.f k l0 a1_0 a1_1 a1_2 a1_3 a1_4 a1_5 a1_6 a1_7 a1_8 a1_9).bind fun t459 => (if t459 = true then (pelicanlaw16_StageBetween.j0 k l0 t457 (a1_3 != 0) a1_0 a1_1 a1_2 a1_3 a1_4 a1_5 a1_6 a1_7 a1_8 a1_9) else (pelicanlaw16_StageBetween.j0 k l0 t457 true a1_0 a1_1 a1_2 a1_3 a1_4 a1_5 a1_6 a1_7 a1_8 a1_9))) else (pelicanlaw16_StageBetween.j0 k l0 t457 true a1_0 a1_1 a1_2 a1_3 a1_4 a1_5 a1_6 a1_7 a1_8 a1_9)) else (pelicanlaw16_StageBetween.j0 k l0 t457 true a1_0 a1_1 a1_2 a1_3 a1_4 a1_5 a1_6 a1_7 a1_8 a1_9))) = some r := H
 have A3 := Aside0.mk A30
 clear A30
 replace H := Option.bind_eq_some_iff.mp H
 obtain ⟨t458, A40, H⟩ := H
 replace H : (if t457 = true then (if t458 = true then ((stage_May.f k l0 a1_0 a1_1 a1_2 a1_3 a1_4 a1_5 a1_6 a1_7 a1_8 a1_9).bind fun t459 => (if t459 = true then (pelicanlaw16_StageBetween.j0 k l0 t457 (a1_3 != 0) a1_0 a1_1 a1_2 a1_3 a1_4 a1_5 a1_6 a1_7 a1_8 a1_9) else (pelicanlaw16_StageBetween.j0 k l0 t457 true a1_0 a1_1 a1_2 a1_3 a1_4 a1_5 a1_6 a1_7 a1_8 a1_9))) else (pelicanlaw16_StageBetween.j0 k l0 t457 true a1_0 a1_1 a1_2 a1_3 a1_4 a1_5 a1_6 a1_7 a1_8 a1_9)) else (pelicanlaw16_StageBetween.j0 k l0 t457 true a1_0 a1_1 a1_2 a1_3 a1_4 a1_5 a1_6 a1_7 a1_8 a1_9)) = some r := H
 have A4 := Aside0.mk A40
 clear A40
 have HC5 := Aside0.mk H
 clear H
 go_enter Tryd.func5, Tryd.ntmps5
 go_upto_region 3 with (first | ((with_reducible refine gate_dst (N := 3) rfl ?_); (try (refine gate_guard (by rfl) ?_; dsimp only)); refine box_event ?hg (N := 3) ?hd (cs := #[.int .i64 a1_0, .int .i64 a1_1, .int .i64 a1_2, .int .i64 a1_3, .int .i64 a1_4, .int .i64 a1_5, .int .i64 a1_6, .int .i64 a1_7, .int .i64 a1_8, .bool a1_9]) (t := 24) ?hr ?_; (case hd => rfl); (case hg => rfl); (case hr => first | (go_simp; done) | (go_simp; rfl)); intro gb456 hg w6 hbox hb; have n0_ := Aside0.mk (below_step (upHn HB.out) hb); have n1_ := Aside0.mk (hbox); have n2_ := Aside0.mk ((by rw [hg]; exact (below_size (upHn HB.out)) : w.heap.size ≤ gb456)); have n3_ := Aside0.mk ((by rw [hg]; exact (below_size (upHn HB.out)) : w.heap.size ≤ gb456)); clear HB; have HB := n0_; have BK456 := n1_; have GW456 := n2_; have GE456 := n3_; clear n0_ n1_ n2_ n3_; clear hb hbox hg) | ((with_reducible refine gate_callee (f := 14) rfl ?_); refine goesL_ (some 16) rfl rfl Tryd.func14 (by kernel_rfl) rfl #[] rfl (by (try simp only [List.map_toArray, List.map_cons, List.map_nil]); first | done | rfl | (simp only [List.length_drop, List.length_take]; rfl)) ?_; (with_reducible refine (pelicanlaw16_awake.calls k  t457 _ ?side1 A3.out).mono ?_); (case side1 => first | (with_reducible exact HG.out) | (refine GlobOk.below HG.out ?_; repeat (first | (with_reducible first | exact HB.out | apply below_alloc | apply pw_below_drewN | apply below_drew1 | refine below_set ?_ GE456.out) | exact HB.out))); rintro e w7 ⟨rfl, hb⟩; refine ⟨_, rfl, ?_⟩; have n0_ := Aside0.mk (blk_below (g := gb456) (o := .cells #[.int .i64 a1_0, .int .i64 a1_1, .int .i64 a1_2, .int .i64 a1_3, .int .i64 a1_4, .int .i64 a1_5, .int .i64 a1_6, .int .i64 a1_7, .int .i64 a1_8, .bool a1_9] 24 (0, 0)) (upBn BK456.out) hb); have n1_ := Aside0.mk (below_step (upHn HB.out) hb); clear BK456; clear HB; have BK456 := n0_; have HB := n1_; clear n0_ n1_; (try clear hb); (try clear hb2); (try clear hk); (try clear hi)) | ((with_reducible refine gate_callee (f := 15) rfl ?_); refine goesL_ (some 18) rfl rfl Tryd.func15 (by kernel_rfl) rfl #[.slice A0 l0.length c0] rfl (by (try simp only [List.map_toArray, List.map_cons, List.map_nil]); first | done | rfl | (simp only [List.length_drop, List.length_take]; rfl)) ?_; (with_reducible refine (pelicanlaw14_FewAll.calls k _ _ l0 t458 _ ?side1 ?side2 A4.out).mono ?_); (case side1 => repeat (first | exact (Kd.C_below HR0.out HB.out) | (with_reducible refine Kd.C_alloc ?_ _) | (with_reducible refine Kd.C_drewN ?_ _) | (with_reducible refine Kd.C_drew ?_))); (case side2 => exact HC0.out); rintro e w8 ⟨rfl, hb⟩; refine ⟨_, rfl, ?_⟩; have n0_ := Aside0.mk (blk_below (g := gb456) (o := .cells #[.int .i64 a1_0, .int .i64 a1_1, .int .i64 a1_2, .int .i64 a1_3, .int .i64 a1_4, .int .i64 a1_5, .int .i64 a1_6, .int .i64 a1_7, .int .i64 a1_8, .bool a1_9] 24 (0, 0)) (upBn BK456.out) hb); have n1_ := Aside0.mk (below_step (upHn HB.out) hb); clear BK456; clear HB; have BK456 := n0_; have HB := n1_; clear n0_ n1_; (try clear hb); (try clear hb2); (try clear hk); (try clear hi)))
 (try simp only [Act.put, List.setIfInBounds_toArray, List.set_cons_zero, List.set_cons_succ])
 go_cut [35] (fun v35 wc => ∃ (kq : Nat) (x35_4 : Bool), v35 = .bool x35_4 ∧ Aside0 (pelicanlaw16_StageBetween.j0 kq l0 t457 x35_4 a1_0 a1_1 a1_2 a1_3 a1_4 a1_5 a1_6 a1_7 a1_8 a1_9 = some r) ∧ Aside0 (kq ≤ k) ∧ Aside0 (wc.heap[gb456]? = some (.cells #[.int .i64 a1_0, .int .i64 a1_1, .int .i64 a1_2, .int .i64 a1_3, .int .i64 a1_4, .int .i64 a1_5, .int .i64 a1_6, .int .i64 a1_7, .int .i64 a1_8, .bool a1_9] 24 (0, 0))) ∧ Aside0 (Below w.heap.size w wc))
 case first =>
  have H := HC5.out
  clear HC5
  by_cases c9 : t457 = true
  ·
   subst c9
   have H1 : (if t458 = true then ((stage_May.f k l0 a1_0 a1_1 a1_2 a1_3 a1_4 a1_5 a1_6 a1_7 a1_8 a1_9).bind fun t459 => (if t459 = true then (pelicanlaw16_StageBetween.j0 k l0 true (a1_3 != 0) a1_0 a1_1 a1_2 a1_3 a1_4 a1_5 a1_6 a1_7 a1_8 a1_9) else (pelicanlaw16_StageBetween.j0 k l0 true true a1_0 a1_1 a1_2 a1_3 a1_4 a1_5 a1_6 a1_7 a1_8 a1_9))) else (pelicanlaw16_StageBetween.j0 k l0 true true a1_0 a1_1 a1_2 a1_3 a1_4 a1_5 a1_6 a1_7 a1_8 a1_9)) = some r := by rw [if_pos rfl] at H; exact H
   clear H
   have H := H1
   clear H1
   by_cases c10 : t458 = true
   ·
    subst c10
    have H1 : ((stage_May.f k l0 a1_0 a1_1 a1_2 a1_3 a1_4 a1_5 a1_6 a1_7 a1_8 a1_9).bind fun t459 => (if t459 = true then (pelicanlaw16_StageBetween.j0 k l0 true (a1_3 != 0) a1_0 a1_1 a1_2 a1_3 a1_4 a1_5 a1_6 a1_7 a1_8 a1_9) else (pelicanlaw16_StageBetween.j0 k l0 true true a1_0 a1_1 a1_2 a1_3 a1_4 a1_5 a1_6 a1_7 a1_8 a1_9))) = some r := by rw [if_pos rfl] at H; exact H
    clear H
    have H := H1
    clear H1
    replace H := Option.bind_eq_some_iff.mp H
    obtain ⟨t459, A110, H⟩ := H
    replace H : (if t459 = true then (pelicanlaw16_StageBetween.j0 k l0 true (a1_3 != 0) a1_0 a1_1 a1_2 a1_3 a1_4 a1_5 a1_6 a1_7 a1_8 a1_9) else (pelicanlaw16_StageBetween.j0 k l0 true true a1_0 a1_1 a1_2 a1_3 a1_4 a1_5 a1_6 a1_7 a1_8 a1_9)) = some r := H
    have A11 := Aside0.mk A110
    clear A110
    by_cases c12 : t459 = true
    ·
     subst c12
     have H1 : (pelicanlaw16_StageBetween.j0 k l0 true (a1_3 != 0) a1_0 a1_1 a1_2 a1_3 a1_4 a1_5 a1_6 a1_7 a1_8 a1_9) = some r := by rw [if_pos rfl] at H; exact H
     clear H
     have H := H1
     clear H1
     have H' := Aside0.mk H
     clear H
     have hcz13_0 : w8.cell? ⟨gb456, 0, none⟩ = some (.int .i64 a1_0) := (blk_cell BK456.out 0).trans rfl
     have hcz13_1 : w8.cell? ⟨gb456, 1, none⟩ = some (.int .i64 a1_1) := (blk_cell BK456.out 1).trans rfl
     have hcz13_2 : w8.cell? ⟨gb456, 2, none⟩ = some (.int .i64 a1_2) := (blk_cell BK456.out 2).trans rfl
     have hcz13_3 : w8.cell? ⟨gb456, 3, none⟩ = some (.int .i64 a1_3) := (blk_cell BK456.out 3).trans rfl
     have hcz13_4 : w8.cell? ⟨gb456, 4, none⟩ = some (.int .i64 a1_4) := (blk_cell BK456.out 4).trans rfl
     have hcz13_5 : w8.cell? ⟨gb456, 5, none⟩ = some (.int .i64 a1_5) := (blk_cell BK456.out 5).trans rfl
     have hcz13_6 : w8.cell? ⟨gb456, 6, none⟩ = some (.int .i64 a1_6) := (blk_cell BK456.out 6).trans rfl
     have hcz13_7 : w8.cell? ⟨gb456, 7, none⟩ = some (.int .i64 a1_7) := (blk_cell BK456.out 7).trans rfl
     have hcz13_8 : w8.cell? ⟨gb456, 8, none⟩ = some (.int .i64 a1_8) := (blk_cell BK456.out 8).trans rfl
     have hcz13_9 : w8.cell? ⟨gb456, 9, none⟩ = some (.bool a1_9) := (blk_cell BK456.out 9).trans rfl
     have hfz13_0 := blk_frozen BK456.out 0
     have hfz13_1 := blk_frozen BK456.out 1
     have hfz13_2 := blk_frozen BK456.out 2
     have hfz13_3 := blk_frozen BK456.out 3
     have hfz13_4 := blk_frozen BK456.out 4
     have hfz13_5 := blk_frozen BK456.out 5
     have hfz13_6 := blk_frozen BK456.out 6
     have hfz13_7 := blk_frozen BK456.out 7
     have hfz13_8 := blk_frozen BK456.out 8
     have hfz13_9 := blk_frozen BK456.out 9
     go_wp2_with (first | (go_at_call 22; (with_reducible refine (stage_May.calls k _ _ l0 a1_0 a1_1 a1_2 a1_3 a1_4 a1_5 a1_6 a1_7 a1_8 a1_9 true _ ?side1 ?side2 ?side3 A11.out).mono ?_); (case side1 => repeat (first | exact (Kd.C_below HR0.out HB.out) | (with_reducible refine Kd.C_alloc ?_ _) | (with_reducible refine Kd.C_drewN ?_ _) | (with_reducible refine Kd.C_drew ?_))); (case side2 => exact HC0.out); (case side3 => first | (with_reducible exact HG.out) | (refine GlobOk.below HG.out ?_; repeat (first | (with_reducible first | exact HB.out | apply below_alloc | apply pw_below_drewN | apply below_drew1 | refine below_set ?_ GE456.out) | exact HB.out))); rintro e w14 ⟨rfl, hb⟩; have n0_ := Aside0.mk (blk_below (g := gb456) (o := .cells #[.int .i64 a1_0, .int .i64 a1_1, .int .i64 a1_2, .int .i64 a1_3, .int .i64 a1_4, .int .i64 a1_5, .int .i64 a1_6, .int .i64 a1_7, .int .i64 a1_8, .bool a1_9] 24 (0, 0)) (upBn BK456.out) hb); have n1_ := Aside0.mk (below_step (upHn HB.out) hb); clear BK456; clear HB; have BK456 := n0_; have HB := n1_; clear n0_ n1_; (try clear hb); (try clear hb2); (try clear hk); (try clear hi); have hcz15_0 : w14.cell? ⟨gb456, 0, none⟩ = some (.int .i64 a1_0) := (blk_cell BK456.out 0).trans rfl; have hcz15_1 : w14.cell? ⟨gb456, 1, none⟩ = some (.int .i64 a1_1) := (blk_cell BK456.out 1).trans rfl; have hcz15_2 : w14.cell? ⟨gb456, 2, none⟩ = some (.int .i64 a1_2) := (blk_cell BK456.out 2).trans rfl; have hcz15_3 : w14.cell? ⟨gb456, 3, none⟩ = some (.int .i64 a1_3) := (blk_cell BK456.out 3).trans rfl; have hcz15_4 : w14.cell? ⟨gb456, 4, none⟩ = some (.int .i64 a1_4) := (blk_cell BK456.out 4).trans rfl; have hcz15_5 : w14.cell? ⟨gb456, 5, none⟩ = some (.int .i64 a1_5) := (blk_cell BK456.out 5).trans rfl; have hcz15_6 : w14.cell? ⟨gb456, 6, none⟩ = some (.int .i64 a1_6) := (blk_cell BK456.out 6).trans rfl; have hcz15_7 : w14.cell? ⟨gb456, 7, none⟩ = some (.int .i64 a1_7) := (blk_cell BK456.out 7).trans rfl; have hcz15_8 : w14.cell? ⟨gb456, 8, none⟩ = some (.int .i64 a1_8) := (blk_cell BK456.out 8).trans rfl; have hcz15_9 : w14.cell? ⟨gb456, 9, none⟩ = some (.bool a1_9) := (blk_cell BK456.out 9).trans rfl; have hfz15_0 := blk_frozen BK456.out 0; have hfz15_1 := blk_frozen BK456.out 1; have hfz15_2 := blk_frozen BK456.out 2; have hfz15_3 := blk_frozen BK456.out 3; have hfz15_4 := blk_frozen BK456.out 4; have hfz15_5 := blk_frozen BK456.out 5; have hfz15_6 := blk_frozen BK456.out 6; have hfz15_7 := blk_frozen BK456.out 7; have hfz15_8 := blk_frozen BK456.out 8; have hfz15_9 := blk_frozen BK456.out 9))
     go_meet
     case rel => exact ⟨_, ((a1_3 != 0)), (by first | rfl | (simp; done) | (simp [*]; done)), H', ⟨by first | omega | exact Nat.le_refl _⟩, ⟨by (with_reducible repeat (first | refine blk_drewN ?_ _ | refine blk_drew ?_ | refine blk_alloc ?_ _)); exact BK456.out⟩, ⟨by repeat (first | (with_reducible first | exact HB.out | apply below_alloc | apply pw_below_drewN | apply below_drew1 | refine below_set ?_ GE456.out) | exact HB.out)⟩⟩
    ·
     replace c12 := Bool.eq_false_iff.mpr c12
     subst c12
     have H1 : (pelicanlaw16_StageBetween.j0 k l0 true true a1_0 a1_1 a1_2 a1_3 a1_4 a1_5 a1_6 a1_7 a1_8 a1_9) = some r := by rw [if_neg (show ¬ (false = true) by decide)] at H; exact H
     clear H
     have H := H1
     clear H1
     have H' := Aside0.mk H
     clear H
     have hcz16_0 : w8.cell? ⟨gb456, 0, none⟩ = some (.int .i64 a1_0) := (blk_cell BK456.out 0).trans rfl
     have hcz16_1 : w8.cell? ⟨gb456, 1, none⟩ = some (.int .i64 a1_1) := (blk_cell BK456.out 1).trans rfl
     have hcz16_2 : w8.cell? ⟨gb456, 2, none⟩ = some (.int .i64 a1_2) := (blk_cell BK456.out 2).trans rfl
     have hcz16_3 : w8.cell? ⟨gb456, 3, none⟩ = some (.int .i64 a1_3) := (blk_cell BK456.out 3).trans rfl
     have hcz16_4 : w8.cell? ⟨gb456, 4, none⟩ = some (.int .i64 a1_4) := (blk_cell BK456.out 4).trans rfl
     have hcz16_5 : w8.cell? ⟨gb456, 5, none⟩ = some (.int .i64 a1_5) := (blk_cell BK456.out 5).trans rfl
     have hcz16_6 : w8.cell? ⟨gb456, 6, none⟩ = some (.int .i64 a1_6) := (blk_cell BK456.out 6).trans rfl
     have hcz16_7 : w8.cell? ⟨gb456, 7, none⟩ = some (.int .i64 a1_7) := (blk_cell BK456.out 7).trans rfl
     have hcz16_8 : w8.cell? ⟨gb456, 8, none⟩ = some (.int .i64 a1_8) := (blk_cell BK456.out 8).trans rfl
     have hcz16_9 : w8.cell? ⟨gb456, 9, none⟩ = some (.bool a1_9) := (blk_cell BK456.out 9).trans rfl
     have hfz16_0 := blk_frozen BK456.out 0
     have hfz16_1 := blk_frozen BK456.out 1
     have hfz16_2 := blk_frozen BK456.out 2
     have hfz16_3 := blk_frozen BK456.out 3
     have hfz16_4 := blk_frozen BK456.out 4
     have hfz16_5 := blk_frozen BK456.out 5
     have hfz16_6 := blk_frozen BK456.out 6
     have hfz16_7 := blk_frozen BK456.out 7
     have hfz16_8 := blk_frozen BK456.out 8
     have hfz16_9 := blk_frozen BK456.out 9
     go_wp2_with (first | (go_at_call 22; (with_reducible refine (stage_May.calls k _ _ l0 a1_0 a1_1 a1_2 a1_3 a1_4 a1_5 a1_6 a1_7 a1_8 a1_9 false _ ?side1 ?side2 ?side3 A11.out).mono ?_); (case side1 => repeat (first | exact (Kd.C_below HR0.out HB.out) | (with_reducible refine Kd.C_alloc ?_ _) | (with_reducible refine Kd.C_drewN ?_ _) | (with_reducible refine Kd.C_drew ?_))); (case side2 => exact HC0.out); (case side3 => first | (with_reducible exact HG.out) | (refine GlobOk.below HG.out ?_; repeat (first | (with_reducible first | exact HB.out | apply below_alloc | apply pw_below_drewN | apply below_drew1 | refine below_set ?_ GE456.out) | exact HB.out))); rintro e w17 ⟨rfl, hb⟩; have n0_ := Aside0.mk (blk_below (g := gb456) (o := .cells #[.int .i64 a1_0, .int .i64 a1_1, .int .i64 a1_2, .int .i64 a1_3, .int .i64 a1_4, .int .i64 a1_5, .int .i64 a1_6, .int .i64 a1_7, .int .i64 a1_8, .bool a1_9] 24 (0, 0)) (upBn BK456.out) hb); have n1_ := Aside0.mk (below_step (upHn HB.out) hb); clear BK456; clear HB; have BK456 := n0_; have HB := n1_; clear n0_ n1_; (try clear hb); (try clear hb2); (try clear hk); (try clear hi)))
     go_meet
     case rel => exact ⟨_, (true), (by first | rfl | (simp; done) | (simp [*]; done)), H', ⟨by first | omega | exact Nat.le_refl _⟩, ⟨by (with_reducible repeat (first | refine blk_drewN ?_ _ | refine blk_drew ?_ | refine blk_alloc ?_ _)); exact BK456.out⟩, ⟨by repeat (first | (with_reducible first | exact HB.out | apply below_alloc | apply pw_below_drewN | apply below_drew1 | refine below_set ?_ GE456.out) | exact HB.out)⟩⟩
   ·
    replace c10 := Bool.eq_false_iff.mpr c10
    subst c10
    have H1 : (pelicanlaw16_StageBetween.j0 k l0 true true a1_0 a1_1 a1_2 a1_3 a1_4 a1_5 a1_6 a1_7 a1_8 a1_9) = some r := by rw [if_neg (show ¬ (false = true) by decide)] at H; exact H
    clear H
    have H := H1
    clear H1
    have H' := Aside0.mk H
    clear H
    go_wp2
    go_meet
    case rel => exact ⟨_, (true), (by first | rfl | (simp; done) | (simp [*]; done)), H', ⟨by first | omega | exact Nat.le_refl _⟩, ⟨by (with_reducible repeat (first | refine blk_drewN ?_ _ | refine blk_drew ?_ | refine blk_alloc ?_ _)); exact BK456.out⟩, ⟨by repeat (first | (with_reducible first | exact HB.out | apply below_alloc | apply pw_below_drewN | apply below_drew1 | refine below_set ?_ GE456.out) | exact HB.out)⟩⟩
  ·
   replace c9 := Bool.eq_false_iff.mpr c9
   subst c9
   have H1 : (pelicanlaw16_StageBetween.j0 k l0 false true a1_0 a1_1 a1_2 a1_3 a1_4 a1_5 a1_6 a1_7 a1_8 a1_9) = some r := by rw [if_neg (show ¬ (false = true) by decide)] at H; exact H
   clear H
   have H := H1
   clear H1
   have H' := Aside0.mk H
   clear H
   go_wp2
   go_meet
   case rel => exact ⟨_, (true), (by first | rfl | (simp; done) | (simp [*]; done)), H', ⟨by first | omega | exact Nat.le_refl _⟩, ⟨by (with_reducible repeat (first | refine blk_drewN ?_ _ | refine blk_drew ?_ | refine blk_alloc ?_ _)); exact BK456.out⟩, ⟨by repeat (first | (with_reducible first | exact HB.out | apply below_alloc | apply pw_below_drewN | apply below_drew1 | refine below_set ?_ GE456.out) | exact HB.out)⟩⟩
 case rest =>
  clear HC5
  try clear c1
  try clear p2
  try clear c5
  try clear c9
  try clear c10
  try clear c12
  try clear c14
  try clear c15
  try clear hcz13_0
  try clear hcz13_1
  try clear hcz13_2
  try clear hcz13_3
  try clear hcz13_4
  try clear hcz13_5
  try clear hcz13_6
  try clear hcz13_7
  try clear hcz13_8
  try clear hcz13_9
  try clear hcz15_0
  try clear hcz15_1
  try clear hcz15_2
  try clear hcz15_3
  try clear hcz15_4
  try clear hcz15_5
  try clear hcz15_6
  try clear hcz15_7
  try clear hcz15_8
  try clear hcz15_9
  try clear hcz16_0
  try clear hcz16_1
  try clear hcz16_2
  try clear hcz16_3
  try clear hcz16_4
  try clear hcz16_5
  try clear hcz16_6
  try clear hcz16_7
  try clear hcz16_8
  try clear hcz16_9
  try clear hfz13_0
  try clear hfz13_1
  try clear hfz13_2
  try clear hfz13_3
  try clear hfz13_4
  try clear hfz13_5
  try clear hfz13_6
  try clear hfz13_7
  try clear hfz13_8
  try clear hfz13_9
  try clear hfz15_0
  try clear hfz15_1
  try clear hfz15_2
  try clear hfz15_3
  try clear hfz15_4
  try clear hfz15_5
  try clear hfz15_6
  try clear hfz15_7
  try clear hfz15_8
  try clear hfz15_9
  try clear hfz16_0
  try clear hfz16_1
  try clear hfz16_2
  try clear hfz16_3
  try clear hfz16_4
  try clear hfz16_5
  try clear hfz16_6
  try clear hfz16_7
  try clear hfz16_8
  try clear hfz16_9
  obtain ⟨kq, x35_4, rfl, HA, HJ4, BK456, HB⟩ := hcut
  cases kq with
  | zero => exact absurd HA.out (by simp [pelicanlaw16_StageBetween.j0])
  | succ kj4 =>
   have H := HA.out
   clear HA
   simp only [pelicanlaw16_StageBetween.j0] at H
   by_cases c18 : x35_4 = true
   ·
    subst c18
    have H1 : (some t457) = some r := by rw [if_pos rfl] at H; exact H
    clear H
    have H := H1
    clear H1
    obtain rfl := Option.some.inj H
    go_wp2
    go_ret
    exact ⟨by first | rfl | (simp [errW_none, errW_some] <;> rfl) | (simp [*, errW_none, errW_some] <;> rfl), by repeat (first | (with_reducible first | exact HB.out | apply below_alloc | apply pw_below_drewN | apply below_drew1 | refine below_set ?_ GE456.out) | exact HB.out)⟩
   ·
    replace c18 := Bool.eq_false_iff.mpr c18
    subst c18
    have H1 : ((stage_Tick.f l0 a1_0 a1_1 a1_2 a1_3 a1_4 a1_5 a1_6 a1_7 a1_8 a1_9).bind fun bt460 => (if bt460.2.2.2.1 = 0 then (pelicanlaw16_StageBetween.j1 kj4 l0 true a1_0 a1_1 a1_2 a1_3 a1_4 a1_5 a1_6 a1_7 a1_8 a1_9 bt460.1 bt460.2.1 bt460.2.2.1 bt460.2.2.2.1 bt460.2.2.2.2.1 bt460.2.2.2.2.2.1 bt460.2.2.2.2.2.2.1 bt460.2.2.2.2.2.2.2.1 bt460.2.2.2.2.2.2.2.2.1 bt460.2.2.2.2.2.2.2.2.2) else (if bt460.1 < 0 then (pelicanlaw16_StageBetween.j1 kj4 l0 true a1_0 a1_1 a1_2 a1_3 a1_4 a1_5 a1_6 a1_7 a1_8 a1_9 bt460.1 bt460.2.1 bt460.2.2.1 bt460.2.2.2.1 bt460.2.2.2.2.1 bt460.2.2.2.2.2.1 bt460.2.2.2.2.2.2.1 bt460.2.2.2.2.2.2.2.1 bt460.2.2.2.2.2.2.2.2.1 bt460.2.2.2.2.2.2.2.2.2) else (pelicanlaw16_StageBetween.j1 kj4 l0 (decide (bt460.1 ≥ (l0.length : Int))) a1_0 a1_1 a1_2 a1_3 a1_4 a1_5 a1_6 a1_7 a1_8 a1_9 bt460.1 bt460.2.1 bt460.2.2.1 bt460.2.2.2.1 bt460.2.2.2.2.1 bt460.2.2.2.2.2.1 bt460.2.2.2.2.2.2.1 bt460.2.2.2.2.2.2.2.1 bt460.2.2.2.2.2.2.2.2.1 bt460.2.2.2.2.2.2.2.2.2)))) = some r := by rw [if_neg (show ¬ (false = true) by decide)] at H; exact H
    clear H
    have H := H1
    clear H1
    replace H := Option.bind_eq_some_iff.mp H
    obtain ⟨⟨t460, t461, t462, t463, t464, t465, t466, t467, t468, t469⟩, A190, H⟩ := H
    replace H : (if t463 = 0 then (pelicanlaw16_StageBetween.j1 kj4 l0 true a1_0 a1_1 a1_2 a1_3 a1_4 a1_5 a1_6 a1_7 a1_8 a1_9 t460 t461 t462 t463 t464 t465 t466 t467 t468 t469) else (if t460 < 0 then (pelicanlaw16_StageBetween.j1 kj4 l0 true a1_0 a1_1 a1_2 a1_3 a1_4 a1_5 a1_6 a1_7 a1_8 a1_9 t460 t461 t462 t463 t464 t465 t466 t467 t468 t469) else (pelicanlaw16_StageBetween.j1 kj4 l0 (decide (t460 ≥ (l0.length : Int))) a1_0 a1_1 a1_2 a1_3 a1_4 a1_5 a1_6 a1_7 a1_8 a1_9 t460 t461 t462 t463 t464 t465 t466 t467 t468 t469))) = some r := H
    have A19 := Aside0.mk A190
    clear A190
    have HC20 := Aside0.mk H
    clear H
    have hcz21_0 : wc.cell? ⟨gb456, 0, none⟩ = some (.int .i64 a1_0) := (blk_cell BK456.out 0).trans rfl
    have hcz21_1 : wc.cell? ⟨gb456, 1, none⟩ = some (.int .i64 a1_1) := (blk_cell BK456.out 1).trans rfl
    have hcz21_2 : wc.cell? ⟨gb456, 2, none⟩ = some (.int .i64 a1_2) := (blk_cell BK456.out 2).trans rfl
    have hcz21_3 : wc.cell? ⟨gb456, 3, none⟩ = some (.int .i64 a1_3) := (blk_cell BK456.out 3).trans rfl
    have hcz21_4 : wc.cell? ⟨gb456, 4, none⟩ = some (.int .i64 a1_4) := (blk_cell BK456.out 4).trans rfl
    have hcz21_5 : wc.cell? ⟨gb456, 5, none⟩ = some (.int .i64 a1_5) := (blk_cell BK456.out 5).trans rfl
    have hcz21_6 : wc.cell? ⟨gb456, 6, none⟩ = some (.int .i64 a1_6) := (blk_cell BK456.out 6).trans rfl
    have hcz21_7 : wc.cell? ⟨gb456, 7, none⟩ = some (.int .i64 a1_7) := (blk_cell BK456.out 7).trans rfl
    have hcz21_8 : wc.cell? ⟨gb456, 8, none⟩ = some (.int .i64 a1_8) := (blk_cell BK456.out 8).trans rfl
    have hcz21_9 : wc.cell? ⟨gb456, 9, none⟩ = some (.bool a1_9) := (blk_cell BK456.out 9).trans rfl
    have hfz21_0 := blk_frozen BK456.out 0
    have hfz21_1 := blk_frozen BK456.out 1
    have hfz21_2 := blk_frozen BK456.out 2
    have hfz21_3 := blk_frozen BK456.out 3
    have hfz21_4 := blk_frozen BK456.out 4
    have hfz21_5 := blk_frozen BK456.out 5
    have hfz21_6 := blk_frozen BK456.out 6
    have hfz21_7 := blk_frozen BK456.out 7
    have hfz21_8 := blk_frozen BK456.out 8
    have hfz21_9 := blk_frozen BK456.out 9
    go_upto_region 6 with (first | ((with_reducible refine gate_callee (f := 23) rfl ?_); refine goesL_ (some 39) rfl rfl Tryd.func23 (by kernel_rfl) rfl #[.slice A0 l0.length c0, .agg #[.int .i64 a1_0, .int .i64 a1_1, .int .i64 a1_2, .int .i64 a1_3, .int .i64 a1_4, .int .i64 a1_5, .int .i64 a1_6, .int .i64 a1_7, .int .i64 a1_8, .bool a1_9]] rfl (by (try simp only [List.map_toArray, List.map_cons, List.map_nil]); first | done | rfl | (simp only [List.length_drop, List.length_take]; rfl)) ?_; (with_reducible refine (stage_Tick.calls _ _ l0 a1_0 a1_1 a1_2 a1_3 a1_4 a1_5 a1_6 a1_7 a1_8 a1_9 t460 t461 t462 t463 t464 t465 t466 t467 t468 t469 _ ?side1 ?side2 ?side3 A19.out).mono ?_); (case side1 => repeat (first | exact (Kd.C_below HR0.out HB.out) | (with_reducible refine Kd.C_alloc ?_ _) | (with_reducible refine Kd.C_drewN ?_ _) | (with_reducible refine Kd.C_drew ?_))); (case side2 => exact HC0.out); (case side3 => first | (with_reducible exact HG.out) | (refine GlobOk.below HG.out ?_; repeat (first | (with_reducible first | exact HB.out | apply below_alloc | apply pw_below_drewN | apply below_drew1 | refine below_set ?_ GE456.out) | exact HB.out))); rintro e w22 ⟨rfl, hb⟩; refine ⟨_, rfl, ?_⟩; have n0_ := Aside0.mk (blk_below (g := gb456) (o := .cells #[.int .i64 a1_0, .int .i64 a1_1, .int .i64 a1_2, .int .i64 a1_3, .int .i64 a1_4, .int .i64 a1_5, .int .i64 a1_6, .int .i64 a1_7, .int .i64 a1_8, .bool a1_9] 24 (0, 0)) (upBn BK456.out) hb); have n1_ := Aside0.mk (below_step (upHn HB.out) hb); clear BK456; clear HB; have BK456 := n0_; have HB := n1_; clear n0_ n1_; (try clear hb); (try clear hb2); (try clear hk); (try clear hi)) | ((with_reducible refine gate_dst (N := 7) rfl ?_); (try (refine gate_guard (by rfl) ?_; dsimp only)); refine box_event ?hg (N := 7) ?hd (cs := #[.int .i64 0, .int .i64 0, .int .i64 0, .int .i64 0, .int .i64 0, .int .i64 0, .int .i64 0, .int .i64 0, .int .i64 0, .bool false]) (t := 24) ?hr ?_; (case hd => rfl); (case hg => rfl); (case hr => first | (go_simp; done) | (go_simp; rfl)); intro gb470 hg w23 hbox hb; have n0_ := Aside0.mk (blk_below (g := gb456) (o := .cells #[.int .i64 a1_0, .int .i64 a1_1, .int .i64 a1_2, .int .i64 a1_3, .int .i64 a1_4, .int .i64 a1_5, .int .i64 a1_6, .int .i64 a1_7, .int .i64 a1_8, .bool a1_9] 24 (0, 0)) (upBn BK456.out) hb); have n1_ := Aside0.mk (below_step (upHn HB.out) hb); have n2_ := Aside0.mk (hbox); have n3_ := Aside0.mk ((by rw [hg]; exact (below_size (upHn HB.out)) : w.heap.size ≤ gb470)); have n4_ := Aside0.mk ((by rw [hg]; exact (below_size (upHn HB.out)) : w.heap.size ≤ gb470)); have n5_ := Aside0.mk ((by rw [hg]; exact Nat.ne_of_lt (blk_lt (g := gb456) (o := .cells #[.int .i64 a1_0, .int .i64 a1_1, .int .i64 a1_2, .int .i64 a1_3, .int .i64 a1_4, .int .i64 a1_5, .int .i64 a1_6, .int .i64 a1_7, .int .i64 a1_8, .bool a1_9] 24 (0, 0)) (upBn BK456.out)) : gb456 ≠ gb470)); have n6_ := Aside0.mk ((by rw [hg]; exact Nat.ne_of_gt (blk_lt (g := gb456) (o := .cells #[.int .i64 a1_0, .int .i64 a1_1, .int .i64 a1_2, .int .i64 a1_3, .int .i64 a1_4, .int .i64 a1_5, .int .i64 a1_6, .int .i64 a1_7, .int .i64 a1_8, .bool a1_9] 24 (0, 0)) (upBn BK456.out)) : gb470 ≠ gb456)); clear BK456; clear HB; have BK456 := n0_; have HB := n1_; have BK470 := n2_; have GW470 := n3_; have GE470 := n4_; have NB456_470 := n5_; have NB470_456 := n6_; clear n0_ n1_ n2_ n3_ n4_ n5_ n6_; clear hb hbox hg; have hnb24 := NB470_456.out; have hnc24 := NB456_470.out; have hcz25_0 : w23.cell? ⟨gb470, 0, none⟩ = some (.int .i64 0) := (blk_cell BK470.out 0).trans rfl; have hcz25_1 : w23.cell? ⟨gb470, 1, none⟩ = some (.int .i64 0) := (blk_cell BK470.out 1).trans rfl; have hcz25_2 : w23.cell? ⟨gb470, 2, none⟩ = some (.int .i64 0) := (blk_cell BK470.out 2).trans rfl; have hcz25_3 : w23.cell? ⟨gb470, 3, none⟩ = some (.int .i64 0) := (blk_cell BK470.out 3).trans rfl; have hcz25_4 : w23.cell? ⟨gb470, 4, none⟩ = some (.int .i64 0) := (blk_cell BK470.out 4).trans rfl; have hcz25_5 : w23.cell? ⟨gb470, 5, none⟩ = some (.int .i64 0) := (blk_cell BK470.out 5).trans rfl; have hcz25_6 : w23.cell? ⟨gb470, 6, none⟩ = some (.int .i64 0) := (blk_cell BK470.out 6).trans rfl; have hcz25_7 : w23.cell? ⟨gb470, 7, none⟩ = some (.int .i64 0) := (blk_cell BK470.out 7).trans rfl; have hcz25_8 : w23.cell? ⟨gb470, 8, none⟩ = some (.int .i64 0) := (blk_cell BK470.out 8).trans rfl; have hcz25_9 : w23.cell? ⟨gb470, 9, none⟩ = some (.bool false) := (blk_cell BK470.out 9).trans rfl; have hfz25_0 := blk_frozen BK470.out 0; have hfz25_1 := blk_frozen BK470.out 1; have hfz25_2 := blk_frozen BK470.out 2; have hfz25_3 := blk_frozen BK470.out 3; have hfz25_4 := blk_frozen BK470.out 4; have hfz25_5 := blk_frozen BK470.out 5; have hfz25_6 := blk_frozen BK470.out 6; have hfz25_7 := blk_frozen BK470.out 7; have hfz25_8 := blk_frozen BK470.out 8; have hfz25_9 := blk_frozen BK470.out 9))
    (try simp only [Act.put, List.setIfInBounds_toArray, List.set_cons_zero, List.set_cons_succ])
    go_cut [54] (fun v54 wc => ∃ (kq : Nat) (x54_19 : Bool), v54 = .bool x54_19 ∧ Aside0 (pelicanlaw16_StageBetween.j1 kq l0 x54_19 a1_0 a1_1 a1_2 a1_3 a1_4 a1_5 a1_6 a1_7 a1_8 a1_9 t460 t461 t462 t463 t464 t465 t466 t467 t468 t469 = some r) ∧ Aside0 (kq ≤ kj4) ∧ Aside0 (wc.heap[gb456]? = some (.cells #[.int .i64 a1_0, .int .i64 a1_1, .int .i64 a1_2, .int .i64 a1_3, .int .i64 a1_4, .int .i64 a1_5, .int .i64 a1_6, .int .i64 a1_7, .int .i64 a1_8, .bool a1_9] 24 (0, 0))) ∧ Aside0 (wc.heap[gb470]? = some (.cells #[.int .i64 t460, .int .i64 t461, .int .i64 t462, .int .i64 t463, .int .i64 t464, .int .i64 t465, .int .i64 t466, .int .i64 t467, .int .i64 t468, .bool t469] 24 (0, 0))) ∧ Aside0 (Below w.heap.size w wc))
    case first =>
     have H := HC20.out
     clear HC20
     by_cases c26 : t463 = 0
     ·
      rw [if_pos c26] at H
      have c26b0 : (t463 == 0) = true := beq_iff_eq.mpr c26
      have c26b1 : (t463 != 0) = false := bne_eq_false_iff_eq.mpr c26
      clear c26
      (first | rw [c26b0] | (simp only [i64_w, i32_w]; rw [c26b0]) | skip)
      have H' := Aside0.mk H
      clear H
      have hnb27 := NB470_456.out
      have hnc27 := NB456_470.out
      have hcz28_0 : w23.cell? ⟨gb470, 0, none⟩ = some (.int .i64 0) := (blk_cell BK470.out 0).trans rfl
      have hcz28_1 : w23.cell? ⟨gb470, 1, none⟩ = some (.int .i64 0) := (blk_cell BK470.out 1).trans rfl
      have hcz28_2 : w23.cell? ⟨gb470, 2, none⟩ = some (.int .i64 0) := (blk_cell BK470.out 2).trans rfl
      have hcz28_3 : w23.cell? ⟨gb470, 3, none⟩ = some (.int .i64 0) := (blk_cell BK470.out 3).trans rfl
      have hcz28_4 : w23.cell? ⟨gb470, 4, none⟩ = some (.int .i64 0) := (blk_cell BK470.out 4).trans rfl
      have hcz28_5 : w23.cell? ⟨gb470, 5, none⟩ = some (.int .i64 0) := (blk_cell BK470.out 5).trans rfl
      have hcz28_6 : w23.cell? ⟨gb470, 6, none⟩ = some (.int .i64 0) := (blk_cell BK470.out 6).trans rfl
      have hcz28_7 : w23.cell? ⟨gb470, 7, none⟩ = some (.int .i64 0) := (blk_cell BK470.out 7).trans rfl
      have hcz28_8 : w23.cell? ⟨gb470, 8, none⟩ = some (.int .i64 0) := (blk_cell BK470.out 8).trans rfl
      have hcz28_9 : w23.cell? ⟨gb470, 9, none⟩ = some (.bool false) := (blk_cell BK470.out 9).trans rfl
      have hfz28_0 := blk_frozen BK470.out 0
      have hfz28_1 := blk_frozen BK470.out 1
      have hfz28_2 := blk_frozen BK470.out 2
      have hfz28_3 := blk_frozen BK470.out 3
      have hfz28_4 := blk_frozen BK470.out 4
      have hfz28_5 := blk_frozen BK470.out 5
      have hfz28_6 := blk_frozen BK470.out 6
      have hfz28_7 := blk_frozen BK470.out 7
      have hfz28_8 := blk_frozen BK470.out 8
      have hfz28_9 := blk_frozen BK470.out 9
      go_wp2
      go_meet
      case rel => exact ⟨_, (true), (by first | rfl | (simp; done) | (simp [*]; done)), H', ⟨by have := HJ4.out; first | omega | exact Nat.le_refl _⟩, ⟨by (with_reducible repeat (first | refine blk_drewN ?_ _ | refine blk_drew ?_ | refine blk_alloc ?_ _)); refine blk_far ?_ NB456_470.out _; (with_reducible repeat (first | refine blk_drewN ?_ _ | refine blk_drew ?_ | refine blk_alloc ?_ _)); refine blk_far ?_ NB456_470.out _; (with_reducible repeat (first | refine blk_drewN ?_ _ | refine blk_drew ?_ | refine blk_alloc ?_ _)); refine blk_far ?_ NB456_470.out _; (with_reducible repeat (first | refine blk_drewN ?_ _ | refine blk_drew ?_ | refine blk_alloc ?_ _)); refine blk_far ?_ NB456_470.out _; (with_reducible repeat (first | refine blk_drewN ?_ _ | refine blk_drew ?_ | refine blk_alloc ?_ _)); refine blk_far ?_ NB456_470.out _; (with_reducible repeat (first | refine blk_drewN ?_ _ | refine blk_drew ?_ | refine blk_alloc ?_ _)); refine blk_far ?_ NB456_470.out _; (with_reducible repeat (first | refine blk_drewN ?_ _ | refine blk_drew ?_ | refine blk_alloc ?_ _)); refine blk_far ?_ NB456_470.out _; (with_reducible repeat (first | refine blk_drewN ?_ _ | refine blk_drew ?_ | refine blk_alloc ?_ _)); refine blk_far ?_ NB456_470.out _; (with_reducible repeat (first | refine blk_drewN ?_ _ | refine blk_drew ?_ | refine blk_alloc ?_ _)); refine blk_far ?_ NB456_470.out _; (with_reducible repeat (first | refine blk_drewN ?_ _ | refine blk_drew ?_ | refine blk_alloc ?_ _)); refine blk_far ?_ NB456_470.out _; (with_reducible repeat (first | refine blk_drewN ?_ _ | refine blk_drew ?_ | refine blk_alloc ?_ _)); exact BK456.out⟩, ⟨by (with_reducible repeat (first | refine blk_drewN ?_ _ | refine blk_drew ?_ | refine blk_alloc ?_ _)); refine blk_put (cs := #[.int .i64 t460, .int .i64 t461, .int .i64 t462, .int .i64 t463, .int .i64 t464, .int .i64 t465, .int .i64 t466, .int .i64 t467, .int .i64 t468, .bool false]) ?_ 9 _ rfl; (with_reducible repeat (first | refine blk_drewN ?_ _ | refine blk_drew ?_ | refine blk_alloc ?_ _)); refine blk_put (cs := #[.int .i64 t460, .int .i64 t461, .int .i64 t462, .int .i64 t463, .int .i64 t464, .int .i64 t465, .int .i64 t466, .int .i64 t467, .int .i64 0, .bool false]) ?_ 8 _ rfl; (with_reducible repeat (first | refine blk_drewN ?_ _ | refine blk_drew ?_ | refine blk_alloc ?_ _)); refine blk_put (cs := #[.int .i64 t460, .int .i64 t461, .int .i64 t462, .int .i64 t463, .int .i64 t464, .int .i64 t465, .int .i64 t466, .int .i64 0, .int .i64 0, .bool false]) ?_ 7 _ rfl; (with_reducible repeat (first | refine blk_drewN ?_ _ | refine blk_drew ?_ | refine blk_alloc ?_ _)); refine blk_put (cs := #[.int .i64 t460, .int .i64 t461, .int .i64 t462, .int .i64 t463, .int .i64 t464, .int .i64 t465, .int .i64 0, .int .i64 0, .int .i64 0, .bool false]) ?_ 6 _ rfl; (with_reducible repeat (first | refine blk_drewN ?_ _ | refine blk_drew ?_ | refine blk_alloc ?_ _)); refine blk_put (cs := #[.int .i64 t460, .int .i64 t461, .int .i64 t462, .int .i64 t463, .int .i64 t464, .int .i64 0, .int .i64 0, .int .i64 0, .int .i64 0, .bool false]) ?_ 5 _ rfl; (with_reducible repeat (first | refine blk_drewN ?_ _ | refine blk_drew ?_ | refine blk_alloc ?_ _)); refine blk_put (cs := #[.int .i64 t460, .int .i64 t461, .int .i64 t462, .int .i64 t463, .int .i64 0, .int .i64 0, .int .i64 0, .int .i64 0, .int .i64 0, .bool false]) ?_ 4 _ rfl; (with_reducible repeat (first | refine blk_drewN ?_ _ | refine blk_drew ?_ | refine blk_alloc ?_ _)); refine blk_put (cs := #[.int .i64 t460, .int .i64 t461, .int .i64 t462, .int .i64 0, .int .i64 0, .int .i64 0, .int .i64 0, .int .i64 0, .int .i64 0, .bool false]) ?_ 3 _ rfl; (with_reducible repeat (first | refine blk_drewN ?_ _ | refine blk_drew ?_ | refine blk_alloc ?_ _)); refine blk_put (cs := #[.int .i64 t460, .int .i64 t461, .int .i64 0, .int .i64 0, .int .i64 0, .int .i64 0, .int .i64 0, .int .i64 0, .int .i64 0, .bool false]) ?_ 2 _ rfl; (with_reducible repeat (first | refine blk_drewN ?_ _ | refine blk_drew ?_ | refine blk_alloc ?_ _)); refine blk_put (cs := #[.int .i64 t460, .int .i64 0, .int .i64 0, .int .i64 0, .int .i64 0, .int .i64 0, .int .i64 0, .int .i64 0, .int .i64 0, .bool false]) ?_ 1 _ rfl; (with_reducible repeat (first | refine blk_drewN ?_ _ | refine blk_drew ?_ | refine blk_alloc ?_ _)); refine blk_put (cs := #[.int .i64 0, .int .i64 0, .int .i64 0, .int .i64 0, .int .i64 0, .int .i64 0, .int .i64 0, .int .i64 0, .int .i64 0, .bool false]) ?_ 0 _ rfl; (with_reducible repeat (first | refine blk_drewN ?_ _ | refine blk_drew ?_ | refine blk_alloc ?_ _)); exact BK470.out⟩, ⟨by repeat (first | (with_reducible first | exact HB.out | apply below_alloc | apply pw_below_drewN | apply below_drew1 | refine below_set ?_ GE456.out | refine below_set ?_ GE470.out) | exact HB.out)⟩⟩
     ·
      rw [if_neg c26] at H
      have c26b0 : (t463 == 0) = false := beq_eq_false_iff_ne.mpr c26
      have c26b1 : (t463 != 0) = true := bne_iff_ne.mpr c26
      (first | rw [c26b0] | (simp only [i64_w, i32_w]; rw [c26b0]) | skip)
      by_cases c29 : t460 < 0
      ·
       rw [if_pos c29] at H
       have c29b0 : decide (t460 < 0) = true := decide_eq_true c29
       clear c29
       have H' := Aside0.mk H
       clear H
       have hnb30 := NB470_456.out
       have hnc30 := NB456_470.out
       have hcz31_0 : w23.cell? ⟨gb470, 0, none⟩ = some (.int .i64 0) := (blk_cell BK470.out 0).trans rfl
       have hcz31_1 : w23.cell? ⟨gb470, 1, none⟩ = some (.int .i64 0) := (blk_cell BK470.out 1).trans rfl
       have hcz31_2 : w23.cell? ⟨gb470, 2, none⟩ = some (.int .i64 0) := (blk_cell BK470.out 2).trans rfl
       have hcz31_3 : w23.cell? ⟨gb470, 3, none⟩ = some (.int .i64 0) := (blk_cell BK470.out 3).trans rfl
       have hcz31_4 : w23.cell? ⟨gb470, 4, none⟩ = some (.int .i64 0) := (blk_cell BK470.out 4).trans rfl
       have hcz31_5 : w23.cell? ⟨gb470, 5, none⟩ = some (.int .i64 0) := (blk_cell BK470.out 5).trans rfl
       have hcz31_6 : w23.cell? ⟨gb470, 6, none⟩ = some (.int .i64 0) := (blk_cell BK470.out 6).trans rfl
       have hcz31_7 : w23.cell? ⟨gb470, 7, none⟩ = some (.int .i64 0) := (blk_cell BK470.out 7).trans rfl
       have hcz31_8 : w23.cell? ⟨gb470, 8, none⟩ = some (.int .i64 0) := (blk_cell BK470.out 8).trans rfl
       have hcz31_9 : w23.cell? ⟨gb470, 9, none⟩ = some (.bool false) := (blk_cell BK470.out 9).trans rfl
       have hfz31_0 := blk_frozen BK470.out 0
       have hfz31_1 := blk_frozen BK470.out 1
       have hfz31_2 := blk_frozen BK470.out 2
       have hfz31_3 := blk_frozen BK470.out 3
       have hfz31_4 := blk_frozen BK470.out 4
       have hfz31_5 := blk_frozen BK470.out 5
       have hfz31_6 := blk_frozen BK470.out 6
       have hfz31_7 := blk_frozen BK470.out 7
       have hfz31_8 := blk_frozen BK470.out 8
       have hfz31_9 := blk_frozen BK470.out 9
       go_wp2
       go_meet
       case rel => exact ⟨_, (true), (by first | rfl | (simp; done) | (simp [*]; done)), H', ⟨by have := HJ4.out; first | omega | exact Nat.le_refl _⟩, ⟨by (with_reducible repeat (first | refine blk_drewN ?_ _ | refine blk_drew ?_ | refine blk_alloc ?_ _)); refine blk_far ?_ NB456_470.out _; (with_reducible repeat (first | refine blk_drewN ?_ _ | refine blk_drew ?_ | refine blk_alloc ?_ _)); refine blk_far ?_ NB456_470.out _; (with_reducible repeat (first | refine blk_drewN ?_ _ | refine blk_drew ?_ | refine blk_alloc ?_ _)); refine blk_far ?_ NB456_470.out _; (with_reducible repeat (first | refine blk_drewN ?_ _ | refine blk_drew ?_ | refine blk_alloc ?_ _)); refine blk_far ?_ NB456_470.out _; (with_reducible repeat (first | refine blk_drewN ?_ _ | refine blk_drew ?_ | refine blk_alloc ?_ _)); refine blk_far ?_ NB456_470.out _; (with_reducible repeat (first | refine blk_drewN ?_ _ | refine blk_drew ?_ | refine blk_alloc ?_ _)); refine blk_far ?_ NB456_470.out _; (with_reducible repeat (first | refine blk_drewN ?_ _ | refine blk_drew ?_ | refine blk_alloc ?_ _)); refine blk_far ?_ NB456_470.out _; (with_reducible repeat (first | refine blk_drewN ?_ _ | refine blk_drew ?_ | refine blk_alloc ?_ _)); refine blk_far ?_ NB456_470.out _; (with_reducible repeat (first | refine blk_drewN ?_ _ | refine blk_drew ?_ | refine blk_alloc ?_ _)); refine blk_far ?_ NB456_470.out _; (with_reducible repeat (first | refine blk_drewN ?_ _ | refine blk_drew ?_ | refine blk_alloc ?_ _)); refine blk_far ?_ NB456_470.out _; (with_reducible repeat (first | refine blk_drewN ?_ _ | refine blk_drew ?_ | refine blk_alloc ?_ _)); exact BK456.out⟩, ⟨by (with_reducible repeat (first | refine blk_drewN ?_ _ | refine blk_drew ?_ | refine blk_alloc ?_ _)); refine blk_put (cs := #[.int .i64 t460, .int .i64 t461, .int .i64 t462, .int .i64 t463, .int .i64 t464, .int .i64 t465, .int .i64 t466, .int .i64 t467, .int .i64 t468, .bool false]) ?_ 9 _ rfl; (with_reducible repeat (first | refine blk_drewN ?_ _ | refine blk_drew ?_ | refine blk_alloc ?_ _)); refine blk_put (cs := #[.int .i64 t460, .int .i64 t461, .int .i64 t462, .int .i64 t463, .int .i64 t464, .int .i64 t465, .int .i64 t466, .int .i64 t467, .int .i64 0, .bool false]) ?_ 8 _ rfl; (with_reducible repeat (first | refine blk_drewN ?_ _ | refine blk_drew ?_ | refine blk_alloc ?_ _)); refine blk_put (cs := #[.int .i64 t460, .int .i64 t461, .int .i64 t462, .int .i64 t463, .int .i64 t464, .int .i64 t465, .int .i64 t466, .int .i64 0, .int .i64 0, .bool false]) ?_ 7 _ rfl; (with_reducible repeat (first | refine blk_drewN ?_ _ | refine blk_drew ?_ | refine blk_alloc ?_ _)); refine blk_put (cs := #[.int .i64 t460, .int .i64 t461, .int .i64 t462, .int .i64 t463, .int .i64 t464, .int .i64 t465, .int .i64 0, .int .i64 0, .int .i64 0, .bool false]) ?_ 6 _ rfl; (with_reducible repeat (first | refine blk_drewN ?_ _ | refine blk_drew ?_ | refine blk_alloc ?_ _)); refine blk_put (cs := #[.int .i64 t460, .int .i64 t461, .int .i64 t462, .int .i64 t463, .int .i64 t464, .int .i64 0, .int .i64 0, .int .i64 0, .int .i64 0, .bool false]) ?_ 5 _ rfl; (with_reducible repeat (first | refine blk_drewN ?_ _ | refine blk_drew ?_ | refine blk_alloc ?_ _)); refine blk_put (cs := #[.int .i64 t460, .int .i64 t461, .int .i64 t462, .int .i64 t463, .int .i64 0, .int .i64 0, .int .i64 0, .int .i64 0, .int .i64 0, .bool false]) ?_ 4 _ rfl; (with_reducible repeat (first | refine blk_drewN ?_ _ | refine blk_drew ?_ | refine blk_alloc ?_ _)); refine blk_put (cs := #[.int .i64 t460, .int .i64 t461, .int .i64 t462, .int .i64 0, .int .i64 0, .int .i64 0, .int .i64 0, .int .i64 0, .int .i64 0, .bool false]) ?_ 3 _ rfl; (with_reducible repeat (first | refine blk_drewN ?_ _ | refine blk_drew ?_ | refine blk_alloc ?_ _)); refine blk_put (cs := #[.int .i64 t460, .int .i64 t461, .int .i64 0, .int .i64 0, .int .i64 0, .int .i64 0, .int .i64 0, .int .i64 0, .int .i64 0, .bool false]) ?_ 2 _ rfl; (with_reducible repeat (first | refine blk_drewN ?_ _ | refine blk_drew ?_ | refine blk_alloc ?_ _)); refine blk_put (cs := #[.int .i64 t460, .int .i64 0, .int .i64 0, .int .i64 0, .int .i64 0, .int .i64 0, .int .i64 0, .int .i64 0, .int .i64 0, .bool false]) ?_ 1 _ rfl; (with_reducible repeat (first | refine blk_drewN ?_ _ | refine blk_drew ?_ | refine blk_alloc ?_ _)); refine blk_put (cs := #[.int .i64 0, .int .i64 0, .int .i64 0, .int .i64 0, .int .i64 0, .int .i64 0, .int .i64 0, .int .i64 0, .int .i64 0, .bool false]) ?_ 0 _ rfl; (with_reducible repeat (first | refine blk_drewN ?_ _ | refine blk_drew ?_ | refine blk_alloc ?_ _)); exact BK470.out⟩, ⟨by repeat (first | (with_reducible first | exact HB.out | apply below_alloc | apply pw_below_drewN | apply below_drew1 | refine below_set ?_ GE456.out | refine below_set ?_ GE470.out) | exact HB.out)⟩⟩
      ·
       rw [if_neg c29] at H
       have c29b0 : decide (t460 < 0) = false := decide_eq_false c29
       clear c29
       have H' := Aside0.mk H
       clear H
       have hnb32 := NB470_456.out
       have hnc32 := NB456_470.out
       have hcz33_0 : w23.cell? ⟨gb470, 0, none⟩ = some (.int .i64 0) := (blk_cell BK470.out 0).trans rfl
       have hcz33_1 : w23.cell? ⟨gb470, 1, none⟩ = some (.int .i64 0) := (blk_cell BK470.out 1).trans rfl
       have hcz33_2 : w23.cell? ⟨gb470, 2, none⟩ = some (.int .i64 0) := (blk_cell BK470.out 2).trans rfl
       have hcz33_3 : w23.cell? ⟨gb470, 3, none⟩ = some (.int .i64 0) := (blk_cell BK470.out 3).trans rfl
       have hcz33_4 : w23.cell? ⟨gb470, 4, none⟩ = some (.int .i64 0) := (blk_cell BK470.out 4).trans rfl
       have hcz33_5 : w23.cell? ⟨gb470, 5, none⟩ = some (.int .i64 0) := (blk_cell BK470.out 5).trans rfl
       have hcz33_6 : w23.cell? ⟨gb470, 6, none⟩ = some (.int .i64 0) := (blk_cell BK470.out 6).trans rfl
       have hcz33_7 : w23.cell? ⟨gb470, 7, none⟩ = some (.int .i64 0) := (blk_cell BK470.out 7).trans rfl
       have hcz33_8 : w23.cell? ⟨gb470, 8, none⟩ = some (.int .i64 0) := (blk_cell BK470.out 8).trans rfl
       have hcz33_9 : w23.cell? ⟨gb470, 9, none⟩ = some (.bool false) := (blk_cell BK470.out 9).trans rfl
       have hfz33_0 := blk_frozen BK470.out 0
       have hfz33_1 := blk_frozen BK470.out 1
       have hfz33_2 := blk_frozen BK470.out 2
       have hfz33_3 := blk_frozen BK470.out 3
       have hfz33_4 := blk_frozen BK470.out 4
       have hfz33_5 := blk_frozen BK470.out 5
       have hfz33_6 := blk_frozen BK470.out 6
       have hfz33_7 := blk_frozen BK470.out 7
       have hfz33_8 := blk_frozen BK470.out 8
       have hfz33_9 := blk_frozen BK470.out 9
       go_wp2
       go_meet
       case rel => exact ⟨_, (decide (t460 ≥ (l0.length : Int))), (by first | rfl | (simp; done) | (simp [*]; done)), H', ⟨by have := HJ4.out; first | omega | exact Nat.le_refl _⟩, ⟨by (with_reducible repeat (first | refine blk_drewN ?_ _ | refine blk_drew ?_ | refine blk_alloc ?_ _)); refine blk_far ?_ NB456_470.out _; (with_reducible repeat (first | refine blk_drewN ?_ _ | refine blk_drew ?_ | refine blk_alloc ?_ _)); refine blk_far ?_ NB456_470.out _; (with_reducible repeat (first | refine blk_drewN ?_ _ | refine blk_drew ?_ | refine blk_alloc ?_ _)); refine blk_far ?_ NB456_470.out _; (with_reducible repeat (first | refine blk_drewN ?_ _ | refine blk_drew ?_ | refine blk_alloc ?_ _)); refine blk_far ?_ NB456_470.out _; (with_reducible repeat (first | refine blk_drewN ?_ _ | refine blk_drew ?_ | refine blk_alloc ?_ _)); refine blk_far ?_ NB456_470.out _; (with_reducible repeat (first | refine blk_drewN ?_ _ | refine blk_drew ?_ | refine blk_alloc ?_ _)); refine blk_far ?_ NB456_470.out _; (with_reducible repeat (first | refine blk_drewN ?_ _ | refine blk_drew ?_ | refine blk_alloc ?_ _)); refine blk_far ?_ NB456_470.out _; (with_reducible repeat (first | refine blk_drewN ?_ _ | refine blk_drew ?_ | refine blk_alloc ?_ _)); refine blk_far ?_ NB456_470.out _; (with_reducible repeat (first | refine blk_drewN ?_ _ | refine blk_drew ?_ | refine blk_alloc ?_ _)); refine blk_far ?_ NB456_470.out _; (with_reducible repeat (first | refine blk_drewN ?_ _ | refine blk_drew ?_ | refine blk_alloc ?_ _)); refine blk_far ?_ NB456_470.out _; (with_reducible repeat (first | refine blk_drewN ?_ _ | refine blk_drew ?_ | refine blk_alloc ?_ _)); exact BK456.out⟩, ⟨by (with_reducible repeat (first | refine blk_drewN ?_ _ | refine blk_drew ?_ | refine blk_alloc ?_ _)); refine blk_put (cs := #[.int .i64 t460, .int .i64 t461, .int .i64 t462, .int .i64 t463, .int .i64 t464, .int .i64 t465, .int .i64 t466, .int .i64 t467, .int .i64 t468, .bool false]) ?_ 9 _ rfl; (with_reducible repeat (first | refine blk_drewN ?_ _ | refine blk_drew ?_ | refine blk_alloc ?_ _)); refine blk_put (cs := #[.int .i64 t460, .int .i64 t461, .int .i64 t462, .int .i64 t463, .int .i64 t464, .int .i64 t465, .int .i64 t466, .int .i64 t467, .int .i64 0, .bool false]) ?_ 8 _ rfl; (with_reducible repeat (first | refine blk_drewN ?_ _ | refine blk_drew ?_ | refine blk_alloc ?_ _)); refine blk_put (cs := #[.int .i64 t460, .int .i64 t461, .int .i64 t462, .int .i64 t463, .int .i64 t464, .int .i64 t465, .int .i64 t466, .int .i64 0, .int .i64 0, .bool false]) ?_ 7 _ rfl; (with_reducible repeat (first | refine blk_drewN ?_ _ | refine blk_drew ?_ | refine blk_alloc ?_ _)); refine blk_put (cs := #[.int .i64 t460, .int .i64 t461, .int .i64 t462, .int .i64 t463, .int .i64 t464, .int .i64 t465, .int .i64 0, .int .i64 0, .int .i64 0, .bool false]) ?_ 6 _ rfl; (with_reducible repeat (first | refine blk_drewN ?_ _ | refine blk_drew ?_ | refine blk_alloc ?_ _)); refine blk_put (cs := #[.int .i64 t460, .int .i64 t461, .int .i64 t462, .int .i64 t463, .int .i64 t464, .int .i64 0, .int .i64 0, .int .i64 0, .int .i64 0, .bool false]) ?_ 5 _ rfl; (with_reducible repeat (first | refine blk_drewN ?_ _ | refine blk_drew ?_ | refine blk_alloc ?_ _)); refine blk_put (cs := #[.int .i64 t460, .int .i64 t461, .int .i64 t462, .int .i64 t463, .int .i64 0, .int .i64 0, .int .i64 0, .int .i64 0, .int .i64 0, .bool false]) ?_ 4 _ rfl; (with_reducible repeat (first | refine blk_drewN ?_ _ | refine blk_drew ?_ | refine blk_alloc ?_ _)); refine blk_put (cs := #[.int .i64 t460, .int .i64 t461, .int .i64 t462, .int .i64 0, .int .i64 0, .int .i64 0, .int .i64 0, .int .i64 0, .int .i64 0, .bool false]) ?_ 3 _ rfl; (with_reducible repeat (first | refine blk_drewN ?_ _ | refine blk_drew ?_ | refine blk_alloc ?_ _)); refine blk_put (cs := #[.int .i64 t460, .int .i64 t461, .int .i64 0, .int .i64 0, .int .i64 0, .int .i64 0, .int .i64 0, .int .i64 0, .int .i64 0, .bool false]) ?_ 2 _ rfl; (with_reducible repeat (first | refine blk_drewN ?_ _ | refine blk_drew ?_ | refine blk_alloc ?_ _)); refine blk_put (cs := #[.int .i64 t460, .int .i64 0, .int .i64 0, .int .i64 0, .int .i64 0, .int .i64 0, .int .i64 0, .int .i64 0, .int .i64 0, .bool false]) ?_ 1 _ rfl; (with_reducible repeat (first | refine blk_drewN ?_ _ | refine blk_drew ?_ | refine blk_alloc ?_ _)); refine blk_put (cs := #[.int .i64 0, .int .i64 0, .int .i64 0, .int .i64 0, .int .i64 0, .int .i64 0, .int .i64 0, .int .i64 0, .int .i64 0, .bool false]) ?_ 0 _ rfl; (with_reducible repeat (first | refine blk_drewN ?_ _ | refine blk_drew ?_ | refine blk_alloc ?_ _)); exact BK470.out⟩, ⟨by repeat (first | (with_reducible first | exact HB.out | apply below_alloc | apply pw_below_drewN | apply below_drew1 | refine below_set ?_ GE456.out | refine below_set ?_ GE470.out) | exact HB.out)⟩⟩
    case rest =>
     clear HC20
     try clear c1
     try clear c2
     try clear p2
     try clear c3
     try clear c5
     try clear c9
     try clear c10
     try clear c12
     try clear c14
     try clear c15
     try clear c18
     try clear c23
     try clear c24
     try clear c26
     try clear c26b0
     try clear c26b1
     try clear c27
     try clear c29
     try clear c29b0
     try clear c30
     try clear c32
     try clear hcz13_0
     try clear hcz13_1
     try clear hcz13_2
     try clear hcz13_3
     try clear hcz13_4
     try clear hcz13_5
     try clear hcz13_6
     try clear hcz13_7
     try clear hcz13_8
     try clear hcz13_9
     try clear hcz15_0
     try clear hcz15_1
     try clear hcz15_2
     try clear hcz15_3
     try clear hcz15_4
     try clear hcz15_5
     try clear hcz15_6
     try clear hcz15_7
     try clear hcz15_8
     try clear hcz15_9
     try clear hcz16_0
     try clear hcz16_1
     try clear hcz16_2
     try clear hcz16_3
     try clear hcz16_4
     try clear hcz16_5
     try clear hcz16_6
     try clear hcz16_7
     try clear hcz16_8
     try clear hcz16_9
     try clear hcz21_0
     try clear hcz21_1
     try clear hcz21_2
     try clear hcz21_3
     try clear hcz21_4
     try clear hcz21_5
     try clear hcz21_6
     try clear hcz21_7
     try clear hcz21_8
     try clear hcz21_9
     try clear hcz25_0
     try clear hcz25_1
     try clear hcz25_2
     try clear hcz25_3
     try clear hcz25_4
     try clear hcz25_5
     try clear hcz25_6
     try clear hcz25_7
     try clear hcz25_8
     try clear hcz25_9
     try clear hcz28_0
     try clear hcz28_1
     try clear hcz28_2
     try clear hcz28_3
     try clear hcz28_4
     try clear hcz28_5
     try clear hcz28_6
     try clear hcz28_7
     try clear hcz28_8
     try clear hcz28_9
     try clear hcz31_0
     try clear hcz31_1
     try clear hcz31_2
     try clear hcz31_3
     try clear hcz31_4
     try clear hcz31_5
     try clear hcz31_6
     try clear hcz31_7
     try clear hcz31_8
     try clear hcz31_9
     try clear hcz33_0
     try clear hcz33_1
     try clear hcz33_2
     try clear hcz33_3
     try clear hcz33_4
     try clear hcz33_5
     try clear hcz33_6
     try clear hcz33_7
     try clear hcz33_8
     try clear hcz33_9
     try clear hfz13_0
     try clear hfz13_1
     try clear hfz13_2
     try clear hfz13_3
     try clear hfz13_4
     try clear hfz13_5
     try clear hfz13_6
     try clear hfz13_7
     try clear hfz13_8
     try clear hfz13_9
     try clear hfz15_0
     try clear hfz15_1
     try clear hfz15_2
     try clear hfz15_3
     try clear hfz15_4
     try clear hfz15_5
     try clear hfz15_6
     try clear hfz15_7
     try clear hfz15_8
     try clear hfz15_9
     try clear hfz16_0
     try clear hfz16_1
     try clear hfz16_2
     try clear hfz16_3
     try clear hfz16_4
     try clear hfz16_5
     try clear hfz16_6
     try clear hfz16_7
     try clear hfz16_8
     try clear hfz16_9
     try clear hfz21_0
     try clear hfz21_1
     try clear hfz21_2
     try clear hfz21_3
     try clear hfz21_4
     try clear hfz21_5
     try clear hfz21_6
     try clear hfz21_7
     try clear hfz21_8
     try clear hfz21_9
     try clear hfz25_0
     try clear hfz25_1
     try clear hfz25_2
     try clear hfz25_3
     try clear hfz25_4
     try clear hfz25_5
     try clear hfz25_6
     try clear hfz25_7
     try clear hfz25_8
     try clear hfz25_9
     try clear hfz28_0
     try clear hfz28_1
     try clear hfz28_2
     try clear hfz28_3
     try clear hfz28_4
     try clear hfz28_5
     try clear hfz28_6
     try clear hfz28_7
     try clear hfz28_8
     try clear hfz28_9
     try clear hfz31_0
     try clear hfz31_1
     try clear hfz31_2
     try clear hfz31_3
     try clear hfz31_4
     try clear hfz31_5
     try clear hfz31_6
     try clear hfz31_7
     try clear hfz31_8
     try clear hfz31_9
     try clear hfz33_0
     try clear hfz33_1
     try clear hfz33_2
     try clear hfz33_3
     try clear hfz33_4
     try clear hfz33_5
     try clear hfz33_6
     try clear hfz33_7
     try clear hfz33_8
     try clear hfz33_9
     try clear p2
     obtain ⟨kq, x54_19, rfl, HA, HJ19, BK456, BK470, HB⟩ := hcut
     cases kq with
     | zero => exact absurd HA.out (by simp [pelicanlaw16_StageBetween.j1])
     | succ kj19 =>
      have H := HA.out
      clear HA
      simp only [pelicanlaw16_StageBetween.j1] at H
      by_cases c34 : x54_19 = true
      ·
       subst c34
       have H1 : (some (t463 == 0)) = some r := by rw [if_pos rfl] at H; exact H
       clear H
       have H := H1
       clear H1
       obtain rfl := Option.some.inj H
       have hnb35 := NB470_456.out
       have hnc35 := NB456_470.out
       have hcz36_0 : wc.cell? ⟨gb470, 0, none⟩ = some (.int .i64 t460) := (blk_cell BK470.out 0).trans rfl
       have hcz36_1 : wc.cell? ⟨gb470, 1, none⟩ = some (.int .i64 t461) := (blk_cell BK470.out 1).trans rfl
       have hcz36_2 : wc.cell? ⟨gb470, 2, none⟩ = some (.int .i64 t462) := (blk_cell BK470.out 2).trans rfl
       have hcz36_3 : wc.cell? ⟨gb470, 3, none⟩ = some (.int .i64 t463) := (blk_cell BK470.out 3).trans rfl
       have hcz36_4 : wc.cell? ⟨gb470, 4, none⟩ = some (.int .i64 t464) := (blk_cell BK470.out 4).trans rfl
       have hcz36_5 : wc.cell? ⟨gb470, 5, none⟩ = some (.int .i64 t465) := (blk_cell BK470.out 5).trans rfl
       have hcz36_6 : wc.cell? ⟨gb470, 6, none⟩ = some (.int .i64 t466) := (blk_cell BK470.out 6).trans rfl
       have hcz36_7 : wc.cell? ⟨gb470, 7, none⟩ = some (.int .i64 t467) := (blk_cell BK470.out 7).trans rfl
       have hcz36_8 : wc.cell? ⟨gb470, 8, none⟩ = some (.int .i64 t468) := (blk_cell BK470.out 8).trans rfl
       have hcz36_9 : wc.cell? ⟨gb470, 9, none⟩ = some (.bool t469) := (blk_cell BK470.out 9).trans rfl
       have hfz36_0 := blk_frozen BK470.out 0
       have hfz36_1 := blk_frozen BK470.out 1
       have hfz36_2 := blk_frozen BK470.out 2
       have hfz36_3 := blk_frozen BK470.out 3
       have hfz36_4 := blk_frozen BK470.out 4
       have hfz36_5 := blk_frozen BK470.out 5
       have hfz36_6 := blk_frozen BK470.out 6
       have hfz36_7 := blk_frozen BK470.out 7
       have hfz36_8 := blk_frozen BK470.out 8
       have hfz36_9 := blk_frozen BK470.out 9
       go_wp2
       go_ret
       exact ⟨by first | rfl | (simp [errW_none, errW_some] <;> rfl) | (simp [*, errW_none, errW_some] <;> rfl), by repeat (first | (with_reducible first | exact HB.out | apply below_alloc | apply pw_below_drewN | apply below_drew1 | refine below_set ?_ GE456.out | refine below_set ?_ GE470.out) | exact HB.out)⟩
      ·
       replace c34 := Bool.eq_false_iff.mpr c34
       subst c34
       have H1 : (if 0 ≤ t460 then (if t460 < (l0.length : Int) then ((stage_Run.f kj19 l0 t460 t461 t462 t463 t464 t465 t466 t467 t468 t469 (wrap64 (((rd_T39 l0 t460).f2) - 1))).bind fun bt473 => ((stage_Run.f kj19 l0 bt473.1 bt473.2.1 bt473.2.2.1 bt473.2.2.2.1 bt473.2.2.2.2.1 bt473.2.2.2.2.2.1 bt473.2.2.2.2.2.2.1 bt473.2.2.2.2.2.2.2.1 bt473.2.2.2.2.2.2.2.2.1 bt473.2.2.2.2.2.2.2.2.2.1 ((rd_T39 l0 t460).f3)).bind fun bt487 => ((stage_Tick.f l0 bt487.1 bt487.2.1 bt487.2.2.1 bt487.2.2.2.1 bt487.2.2.2.2.1 bt487.2.2.2.2.2.1 bt487.2.2.2.2.2.2.1 bt487.2.2.2.2.2.2.2.1 bt487.2.2.2.2.2.2.2.2.1 bt487.2.2.2.2.2.2.2.2.2.1).bind fun bt501 => (if (bt473.2.2.2.2.2.2.2.2.2.2.length : Int) = (wrap64 (((rd_T39 l0 t460).f2) - 1)) then (if (bt487.2.2.2.2.2.2.2.2.2.2.length : Int) = ((rd_T39 l0 t460).f3) then (if bt473.2.2.2.1 = 1 then (pelicanlaw16_StageBetween.j2 kj19 bt487.2.2.2.2.2.2.2.2.2.2 (bt487.2.2.2.1 != 2) a1_0 a1_1 a1_2 a1_3 a1_4 a1_5 a1_6 a1_7 a1_8 a1_9 t460 t461 t462 t463 t464 t465 t466 t467 t468 t469 ((rd_T39 l0 t460).f0) ((rd_T39 l0 t460).f1) ((rd_T39 l0 t460).f2) ((rd_T39 l0 t460).f3) ((rd_T39 l0 t460).f4) bt501.1 bt501.2.1 bt501.2.2.1 bt501.2.2.2.1 bt501.2.2.2.2.1 bt501.2.2.2.2.2.1 bt501.2.2.2.2.2.2.1 bt501.2.2.2.2.2.2.2.1 bt501.2.2.2.2.2.2.2.2.1 bt501.2.2.2.2.2.2.2.2.2) else (pelicanlaw16_StageBetween.j2 kj19 bt487.2.2.2.2.2.2.2.2.2.2 true a1_0 a1_1 a1_2 a1_3 a1_4 a1_5 a1_6 a1_7 a1_8 a1_9 t460 t461 t462 t463 t464 t465 t466 t467 t468 t469 ((rd_T39 l0 t460).f0) ((rd_T39 l0 t460).f1) ((rd_T39 l0 t460).f2) ((rd_T39 l0 t460).f3) ((rd_T39 l0 t460).f4) bt501.1 bt501.2.1 bt501.2.2.1 bt501.2.2.2.1 bt501.2.2.2.2.1 bt501.2.2.2.2.2.1 bt501.2.2.2.2.2.2.1 bt501.2.2.2.2.2.2.2.1 bt501.2.2.2.2.2.2.2.2.1 bt501.2.2.2.2.2.2.2.2.2)) else (pelicanlaw16_StageBetween.j2 kj19 bt487.2.2.2.2.2.2.2.2.2.2 true a1_0 a1_1 a1_2 a1_3 a1_4 a1_5 a1_6 a1_7 a1_8 a1_9 t460 t461 t462 t463 t464 t465 t466 t467 t468 t469 ((rd_T39 l0 t460).f0) ((rd_T39 l0 t460).f1) ((rd_T39 l0 t460).f2) ((rd_T39 l0 t460).f3) ((rd_T39 l0 t460).f4) bt501.1 bt501.2.1 bt501.2.2.1 bt501.2.2.2.1 bt501.2.2.2.2.1 bt501.2.2.2.2.2.1 bt501.2.2.2.2.2.2.1 bt501.2.2.2.2.2.2.2.1 bt501.2.2.2.2.2.2.2.2.1 bt501.2.2.2.2.2.2.2.2.2)) else (pelicanlaw16_StageBetween.j2 kj19 bt487.2.2.2.2.2.2.2.2.2.2 true a1_0 a1_1 a1_2 a1_3 a1_4 a1_5 a1_6 a1_7 a1_8 a1_9 t460 t461 t462 t463 t464 t465 t466 t467 t468 t469 ((rd_T39 l0 t460).f0) ((rd_T39 l0 t460).f1) ((rd_T39 l0 t460).f2) ((rd_T39 l0 t460).f3) ((rd_T39 l0 t460).f4) bt501.1 bt501.2.1 bt501.2.2.1 bt501.2.2.2.1 bt501.2.2.2.2.1 bt501.2.2.2.2.2.1 bt501.2.2.2.2.2.2.1 bt501.2.2.2.2.2.2.2.1 bt501.2.2.2.2.2.2.2.2.1 bt501.2.2.2.2.2.2.2.2.2))))) else (none)) else (none)) = some r := by rw [if_neg (show ¬ (false = true) by decide)] at H; exact H
       clear H
       have H := H1
       clear H1
       by_cases c37 : 0 ≤ t460
       ·
        rw [if_pos c37] at H
        have c37b0 : decide (0 ≤ t460) = true := decide_eq_true c37
        clear c37
        by_cases c38 : t460 < (l0.length : Int)
        ·
         rw [if_pos c38] at H
         have c38b0 : decide (t460 < (l0.length : Int)) = true := decide_eq_true c38
         clear c38
         replace H := Option.bind_eq_some_iff.mp H
         obtain ⟨⟨t473, t474, t475, t476, t477, t478, t479, t480, t481, t482, t483⟩, A390, H⟩ := H
         replace H : ((stage_Run.f kj19 l0 t473 t474 t475 t476 t477 t478 t479 t480 t481 t482 ((rd_T39 l0 t460).f3)).bind fun bt487 => ((stage_Tick.f l0 bt487.1 bt487.2.1 bt487.2.2.1 bt487.2.2.2.1 bt487.2.2.2.2.1 bt487.2.2.2.2.2.1 bt487.2.2.2.2.2.2.1 bt487.2.2.2.2.2.2.2.1 bt487.2.2.2.2.2.2.2.2.1 bt487.2.2.2.2.2.2.2.2.2.1).bind fun bt501 => (if (t483.length : Int) = (wrap64 (((rd_T39 l0 t460).f2) - 1)) then (if (bt487.2.2.2.2.2.2.2.2.2.2.length : Int) = ((rd_T39 l0 t460).f3) then (if t476 = 1 then (pelicanlaw16_StageBetween.j2 kj19 bt487.2.2.2.2.2.2.2.2.2.2 (bt487.2.2.2.1 != 2) a1_0 a1_1 a1_2 a1_3 a1_4 a1_5 a1_6 a1_7 a1_8 a1_9 t460 t461 t462 t463 t464 t465 t466 t467 t468 t469 ((rd_T39 l0 t460).f0) ((rd_T39 l0 t460).f1) ((rd_T39 l0 t460).f2) ((rd_T39 l0 t460).f3) ((rd_T39 l0 t460).f4) bt501.1 bt501.2.1 bt501.2.2.1 bt501.2.2.2.1 bt501.2.2.2.2.1 bt501.2.2.2.2.2.1 bt501.2.2.2.2.2.2.1 bt501.2.2.2.2.2.2.2.1 bt501.2.2.2.2.2.2.2.2.1 bt501.2.2.2.2.2.2.2.2.2) else (pelicanlaw16_StageBetween.j2 kj19 bt487.2.2.2.2.2.2.2.2.2.2 true a1_0 a1_1 a1_2 a1_3 a1_4 a1_5 a1_6 a1_7 a1_8 a1_9 t460 t461 t462 t463 t464 t465 t466 t467 t468 t469 ((rd_T39 l0 t460).f0) ((rd_T39 l0 t460).f1) ((rd_T39 l0 t460).f2) ((rd_T39 l0 t460).f3) ((rd_T39 l0 t460).f4) bt501.1 bt501.2.1 bt501.2.2.1 bt501.2.2.2.1 bt501.2.2.2.2.1 bt501.2.2.2.2.2.1 bt501.2.2.2.2.2.2.1 bt501.2.2.2.2.2.2.2.1 bt501.2.2.2.2.2.2.2.2.1 bt501.2.2.2.2.2.2.2.2.2)) else (pelicanlaw16_StageBetween.j2 kj19 bt487.2.2.2.2.2.2.2.2.2.2 true a1_0 a1_1 a1_2 a1_3 a1_4 a1_5 a1_6 a1_7 a1_8 a1_9 t460 t461 t462 t463 t464 t465 t466 t467 t468 t469 ((rd_T39 l0 t460).f0) ((rd_T39 l0 t460).f1) ((rd_T39 l0 t460).f2) ((rd_T39 l0 t460).f3) ((rd_T39 l0 t460).f4) bt501.1 bt501.2.1 bt501.2.2.1 bt501.2.2.2.1 bt501.2.2.2.2.1 bt501.2.2.2.2.2.1 bt501.2.2.2.2.2.2.1 bt501.2.2.2.2.2.2.2.1 bt501.2.2.2.2.2.2.2.2.1 bt501.2.2.2.2.2.2.2.2.2)) else (pelicanlaw16_StageBetween.j2 kj19 bt487.2.2.2.2.2.2.2.2.2.2 true a1_0 a1_1 a1_2 a1_3 a1_4 a1_5 a1_6 a1_7 a1_8 a1_9 t460 t461 t462 t463 t464 t465 t466 t467 t468 t469 ((rd_T39 l0 t460).f0) ((rd_T39 l0 t460).f1) ((rd_T39 l0 t460).f2) ((rd_T39 l0 t460).f3) ((rd_T39 l0 t460).f4) bt501.1 bt501.2.1 bt501.2.2.1 bt501.2.2.2.1 bt501.2.2.2.2.1 bt501.2.2.2.2.2.1 bt501.2.2.2.2.2.2.1 bt501.2.2.2.2.2.2.2.1 bt501.2.2.2.2.2.2.2.2.1 bt501.2.2.2.2.2.2.2.2.2)))) = some r := H
         have A39 := Aside0.mk A390
         clear A390
         replace H := Option.bind_eq_some_iff.mp H
         obtain ⟨⟨t487, t488, t489, t490, t491, t492, t493, t494, t495, t496, t497⟩, A400, H⟩ := H
         replace H : ((stage_Tick.f l0 t487 t488 t489 t490 t491 t492 t493 t494 t495 t496).bind fun bt501 => (if (t483.length : Int) = (wrap64 (((rd_T39 l0 t460).f2) - 1)) then (if (t497.length : Int) = ((rd_T39 l0 t460).f3) then (if t476 = 1 then (pelicanlaw16_StageBetween.j2 kj19 t497 (t490 != 2) a1_0 a1_1 a1_2 a1_3 a1_4 a1_5 a1_6 a1_7 a1_8 a1_9 t460 t461 t462 t463 t464 t465 t466 t467 t468 t469 ((rd_T39 l0 t460).f0) ((rd_T39 l0 t460).f1) ((rd_T39 l0 t460).f2) ((rd_T39 l0 t460).f3) ((rd_T39 l0 t460).f4) bt501.1 bt501.2.1 bt501.2.2.1 bt501.2.2.2.1 bt501.2.2.2.2.1 bt501.2.2.2.2.2.1 bt501.2.2.2.2.2.2.1 bt501.2.2.2.2.2.2.2.1 bt501.2.2.2.2.2.2.2.2.1 bt501.2.2.2.2.2.2.2.2.2) else (pelicanlaw16_StageBetween.j2 kj19 t497 true a1_0 a1_1 a1_2 a1_3 a1_4 a1_5 a1_6 a1_7 a1_8 a1_9 t460 t461 t462 t463 t464 t465 t466 t467 t468 t469 ((rd_T39 l0 t460).f0) ((rd_T39 l0 t460).f1) ((rd_T39 l0 t460).f2) ((rd_T39 l0 t460).f3) ((rd_T39 l0 t460).f4) bt501.1 bt501.2.1 bt501.2.2.1 bt501.2.2.2.1 bt501.2.2.2.2.1 bt501.2.2.2.2.2.1 bt501.2.2.2.2.2.2.1 bt501.2.2.2.2.2.2.2.1 bt501.2.2.2.2.2.2.2.2.1 bt501.2.2.2.2.2.2.2.2.2)) else (pelicanlaw16_StageBetween.j2 kj19 t497 true a1_0 a1_1 a1_2 a1_3 a1_4 a1_5 a1_6 a1_7 a1_8 a1_9 t460 t461 t462 t463 t464 t465 t466 t467 t468 t469 ((rd_T39 l0 t460).f0) ((rd_T39 l0 t460).f1) ((rd_T39 l0 t460).f2) ((rd_T39 l0 t460).f3) ((rd_T39 l0 t460).f4) bt501.1 bt501.2.1 bt501.2.2.1 bt501.2.2.2.1 bt501.2.2.2.2.1 bt501.2.2.2.2.2.1 bt501.2.2.2.2.2.2.1 bt501.2.2.2.2.2.2.2.1 bt501.2.2.2.2.2.2.2.2.1 bt501.2.2.2.2.2.2.2.2.2)) else (pelicanlaw16_StageBetween.j2 kj19 t497 true a1_0 a1_1 a1_2 a1_3 a1_4 a1_5 a1_6 a1_7 a1_8 a1_9 t460 t461 t462 t463 t464 t465 t466 t467 t468 t469 ((rd_T39 l0 t460).f0) ((rd_T39 l0 t460).f1) ((rd_T39 l0 t460).f2) ((rd_T39 l0 t460).f3) ((rd_T39 l0 t460).f4) bt501.1 bt501.2.1 bt501.2.2.1 bt501.2.2.2.1 bt501.2.2.2.2.1 bt501.2.2.2.2.2.1 bt501.2.2.2.2.2.2.1 bt501.2.2.2.2.2.2.2.1 bt501.2.2.2.2.2.2.2.2.1 bt501.2.2.2.2.2.2.2.2.2))) = some r := H
         have A40 := Aside0.mk A400
         clear A400
         replace H := Option.bind_eq_some_iff.mp H
         obtain ⟨⟨t501, t502, t503, t504, t505, t506, t507, t508, t509, t510⟩, A410, H⟩ := H
         replace H : (if (t483.length : Int) = (wrap64 (((rd_T39 l0 t460).f2) - 1)) then (if (t497.length : Int) = ((rd_T39 l0 t460).f3) then (if t476 = 1 then (pelicanlaw16_StageBetween.j2 kj19 t497 (t490 != 2) a1_0 a1_1 a1_2 a1_3 a1_4 a1_5 a1_6 a1_7 a1_8 a1_9 t460 t461 t462 t463 t464 t465 t466 t467 t468 t469 ((rd_T39 l0 t460).f0) ((rd_T39 l0 t460).f1) ((rd_T39 l0 t460).f2) ((rd_T39 l0 t460).f3) ((rd_T39 l0 t460).f4) t501 t502 t503 t504 t505 t506 t507 t508 t509 t510) else (pelicanlaw16_StageBetween.j2 kj19 t497 true a1_0 a1_1 a1_2 a1_3 a1_4 a1_5 a1_6 a1_7 a1_8 a1_9 t460 t461 t462 t463 t464 t465 t466 t467 t468 t469 ((rd_T39 l0 t460).f0) ((rd_T39 l0 t460).f1) ((rd_T39 l0 t460).f2) ((rd_T39 l0 t460).f3) ((rd_T39 l0 t460).f4) t501 t502 t503 t504 t505 t506 t507 t508 t509 t510)) else (pelicanlaw16_StageBetween.j2 kj19 t497 true a1_0 a1_1 a1_2 a1_3 a1_4 a1_5 a1_6 a1_7 a1_8 a1_9 t460 t461 t462 t463 t464 t465 t466 t467 t468 t469 ((rd_T39 l0 t460).f0) ((rd_T39 l0 t460).f1) ((rd_T39 l0 t460).f2) ((rd_T39 l0 t460).f3) ((rd_T39 l0 t460).f4) t501 t502 t503 t504 t505 t506 t507 t508 t509 t510)) else (pelicanlaw16_StageBetween.j2 kj19 t497 true a1_0 a1_1 a1_2 a1_3 a1_4 a1_5 a1_6 a1_7 a1_8 a1_9 t460 t461 t462 t463 t464 t465 t466 t467 t468 t469 ((rd_T39 l0 t460).f0) ((rd_T39 l0 t460).f1) ((rd_T39 l0 t460).f2) ((rd_T39 l0 t460).f3) ((rd_T39 l0 t460).f4) t501 t502 t503 t504 t505 t506 t507 t508 t509 t510)) = some r := H
         have A41 := Aside0.mk A410
         clear A410
         have HC42 := Aside0.mk H
         clear H
         have hnb43 := NB470_456.out
         have hnc43 := NB456_470.out
         have hcz44_0 : wc.cell? ⟨gb470, 0, none⟩ = some (.int .i64 t460) := (blk_cell BK470.out 0).trans rfl
         have hcz44_1 : wc.cell? ⟨gb470, 1, none⟩ = some (.int .i64 t461) := (blk_cell BK470.out 1).trans rfl
         have hcz44_2 : wc.cell? ⟨gb470, 2, none⟩ = some (.int .i64 t462) := (blk_cell BK470.out 2).trans rfl
         have hcz44_3 : wc.cell? ⟨gb470, 3, none⟩ = some (.int .i64 t463) := (blk_cell BK470.out 3).trans rfl
         have hcz44_4 : wc.cell? ⟨gb470, 4, none⟩ = some (.int .i64 t464) := (blk_cell BK470.out 4).trans rfl
         have hcz44_5 : wc.cell? ⟨gb470, 5, none⟩ = some (.int .i64 t465) := (blk_cell BK470.out 5).trans rfl
         have hcz44_6 : wc.cell? ⟨gb470, 6, none⟩ = some (.int .i64 t466) := (blk_cell BK470.out 6).trans rfl
         have hcz44_7 : wc.cell? ⟨gb470, 7, none⟩ = some (.int .i64 t467) := (blk_cell BK470.out 7).trans rfl
         have hcz44_8 : wc.cell? ⟨gb470, 8, none⟩ = some (.int .i64 t468) := (blk_cell BK470.out 8).trans rfl
         have hcz44_9 : wc.cell? ⟨gb470, 9, none⟩ = some (.bool t469) := (blk_cell BK470.out 9).trans rfl
         have hfz44_0 := blk_frozen BK470.out 0
         have hfz44_1 := blk_frozen BK470.out 1
         have hfz44_2 := blk_frozen BK470.out 2
         have hfz44_3 := blk_frozen BK470.out 3
         have hfz44_4 := blk_frozen BK470.out 4
         have hfz44_5 := blk_frozen BK470.out 5
         have hfz44_6 := blk_frozen BK470.out 6
         have hfz44_7 := blk_frozen BK470.out 7
         have hfz44_8 := blk_frozen BK470.out 8
         have hfz44_9 := blk_frozen BK470.out 9
         have p471 : 0 ≤ (t460 : Int) := of_decide_eq_true (by first | (with_reducible assumption) | assumption)
         have q471 : t460 < (l0.length : Int) := of_decide_eq_true (by first | (with_reducible assumption) | assumption)
         obtain ⟨ad471, A471_0, c471_0, A471_1, c471_1, e471, hx471_0, hx471_1, hx471_2, hx471_3, hx471_4, hl471_0, hi471_0, hl471_1, hi471_1⟩ := at_T39 HR0.out t460 p471 q471
         cases e471
         replace hx471_0 := (HB.out.cell (World.block_lt_of_cell? w _ hx471_0)).trans hx471_0
         replace hx471_1 := (HB.out.cell (World.block_lt_of_cell? w _ hx471_1)).trans hx471_1
         replace hx471_2 := (HB.out.cell (World.block_lt_of_cell? w _ hx471_2)).trans hx471_2
         replace hx471_3 := (HB.out.cell (World.block_lt_of_cell? w _ hx471_3)).trans hx471_3
         replace hx471_4 := (HB.out.cell (World.block_lt_of_cell? w _ hx471_4)).trans hx471_4
         have HR471_0 := Aside0.mk hi471_0
         have HC471_0 := Aside0.mk hl471_0
         clear hi471_0 hl471_0
         have HR471_1 := Aside0.mk hi471_1
         have HC471_1 := Aside0.mk hl471_1
         clear hi471_1 hl471_1
         replace p471 := eq_true p471
         replace q471 := eq_true q471
         go_upto_region 12 with (first | ((with_reducible refine gate_dst (N := 8) rfl ?_); (try (refine gate_guard (by rfl) ?_; dsimp only)); refine box_event ?hg (N := 8) ?hd (cs := #[.slice none 0 0, .slice none 0 0, .int .i64 0, .int .i64 0, .int .i64 0]) (t := 39) ?hr ?_; (case hd => rfl); (case hg => rfl); (case hr => first | (go_simp; done) | (go_simp; rfl)); intro gb472 hg w45 hbox hb; have n0_ := Aside0.mk (blk_below (g := gb456) (o := .cells #[.int .i64 a1_0, .int .i64 a1_1, .int .i64 a1_2, .int .i64 a1_3, .int .i64 a1_4, .int .i64 a1_5, .int .i64 a1_6, .int .i64 a1_7, .int .i64 a1_8, .bool a1_9] 24 (0, 0)) (upBn BK456.out) hb); have n1_ := Aside0.mk (blk_below (g := gb470) (o := .cells #[.int .i64 t460, .int .i64 t461, .int .i64 t462, .int .i64 t463, .int .i64 t464, .int .i64 t465, .int .i64 t466, .int .i64 t467, .int .i64 t468, .bool t469] 24 (0, 0)) (upBn BK470.out) hb); have n2_ := Aside0.mk (below_step (upHn HB.out) hb); have n3_ := Aside0.mk (hbox); have n4_ := Aside0.mk ((by rw [hg]; exact (below_size (upHn HB.out)) : w.heap.size ≤ gb472)); have n5_ := Aside0.mk ((by rw [hg]; exact (below_size (upHn HB.out)) : w.heap.size ≤ gb472)); have n6_ := Aside0.mk ((by rw [hg]; exact Nat.ne_of_lt (blk_lt (g := gb456) (o := .cells #[.int .i64 a1_0, .int .i64 a1_1, .int .i64 a1_2, .int .i64 a1_3, .int .i64 a1_4, .int .i64 a1_5, .int .i64 a1_6, .int .i64 a1_7, .int .i64 a1_8, .bool a1_9] 24 (0, 0)) (upBn BK456.out)) : gb456 ≠ gb472)); have n7_ := Aside0.mk ((by rw [hg]; exact Nat.ne_of_gt (blk_lt (g := gb456) (o := .cells #[.int .i64 a1_0, .int .i64 a1_1, .int .i64 a1_2, .int .i64 a1_3, .int .i64 a1_4, .int .i64 a1_5, .int .i64 a1_6, .int .i64 a1_7, .int .i64 a1_8, .bool a1_9] 24 (0, 0)) (upBn BK456.out)) : gb472 ≠ gb456)); have n8_ := Aside0.mk ((by rw [hg]; exact Nat.ne_of_lt (blk_lt (g := gb470) (o := .cells #[.int .i64 t460, .int .i64 t461, .int .i64 t462, .int .i64 t463, .int .i64 t464, .int .i64 t465, .int .i64 t466, .int .i64 t467, .int .i64 t468, .bool t469] 24 (0, 0)) (upBn BK470.out)) : gb470 ≠ gb472)); have n9_ := Aside0.mk ((by rw [hg]; exact Nat.ne_of_gt (blk_lt (g := gb470) (o := .cells #[.int .i64 t460, .int .i64 t461, .int .i64 t462, .int .i64 t463, .int .i64 t464, .int .i64 t465, .int .i64 t466, .int .i64 t467, .int .i64 t468, .bool t469] 24 (0, 0)) (upBn BK470.out)) : gb472 ≠ gb470)); clear BK456; clear BK470; clear HB; have BK456 := n0_; have BK470 := n1_; have HB := n2_; have BK472 := n3_; have GW472 := n4_; have GE472 := n5_; have NB456_472 := n6_; have NB472_456 := n7_; have NB470_472 := n8_; have NB472_470 := n9_; clear n0_ n1_ n2_ n3_ n4_ n5_ n6_ n7_ n8_ n9_; clear hb hbox hg; have hnb46 := NB472_456.out; have hnc46 := NB456_472.out; have hnb47 := NB472_470.out; have hnc47 := NB470_472.out; have hcz48_0 : w45.cell? ⟨gb472, 0, none⟩ = some (.slice none 0 0) := (blk_cell BK472.out 0).trans rfl; have hcz48_1 : w45.cell? ⟨gb472, 1, none⟩ = some (.slice none 0 0) := (blk_cell BK472.out 1).trans rfl; have hcz48_2 : w45.cell? ⟨gb472, 2, none⟩ = some (.int .i64 0) := (blk_cell BK472.out 2).trans rfl; have hcz48_3 : w45.cell? ⟨gb472, 3, none⟩ = some (.int .i64 0) := (blk_cell BK472.out 3).trans rfl; have hcz48_4 : w45.cell? ⟨gb472, 4, none⟩ = some (.int .i64 0) := (blk_cell BK472.out 4).trans rfl; have hfz48_0 := blk_frozen BK472.out 0; have hfz48_1 := blk_frozen BK472.out 1; have hfz48_2 := blk_frozen BK472.out 2; have hfz48_3 := blk_frozen BK472.out 3; have hfz48_4 := blk_frozen BK472.out 4; have hcz49_0 : w45.cell? ⟨gb470, 0, none⟩ = some (.int .i64 t460) := (blk_cell BK470.out 0).trans rfl; have hcz49_1 : w45.cell? ⟨gb470, 1, none⟩ = some (.int .i64 t461) := (blk_cell BK470.out 1).trans rfl; have hcz49_2 : w45.cell? ⟨gb470, 2, none⟩ = some (.int .i64 t462) := (blk_cell BK470.out 2).trans rfl; have hcz49_3 : w45.cell? ⟨gb470, 3, none⟩ = some (.int .i64 t463) := (blk_cell BK470.out 3).trans rfl; have hcz49_4 : w45.cell? ⟨gb470, 4, none⟩ = some (.int .i64 t464) := (blk_cell BK470.out 4).trans rfl; have hcz49_5 : w45.cell? ⟨gb470, 5, none⟩ = some (.int .i64 t465) := (blk_cell BK470.out 5).trans rfl; have hcz49_6 : w45.cell? ⟨gb470, 6, none⟩ = some (.int .i64 t466) := (blk_cell BK470.out 6).trans rfl; have hcz49_7 : w45.cell? ⟨gb470, 7, none⟩ = some (.int .i64 t467) := (blk_cell BK470.out 7).trans rfl; have hcz49_8 : w45.cell? ⟨gb470, 8, none⟩ = some (.int .i64 t468) := (blk_cell BK470.out 8).trans rfl; have hcz49_9 : w45.cell? ⟨gb470, 9, none⟩ = some (.bool t469) := (blk_cell BK470.out 9).trans rfl; have hfz49_0 := blk_frozen BK470.out 0; have hfz49_1 := blk_frozen BK470.out 1; have hfz49_2 := blk_frozen BK470.out 2; have hfz49_3 := blk_frozen BK470.out 3; have hfz49_4 := blk_frozen BK470.out 4; have hfz49_5 := blk_frozen BK470.out 5; have hfz49_6 := blk_frozen BK470.out 6; have hfz49_7 := blk_frozen BK470.out 7; have hfz49_8 := blk_frozen BK470.out 8; have hfz49_9 := blk_frozen BK470.out 9) | ((with_reducible refine gate_callee (f := 17) rfl ?_); refine goesL_ (some 69) rfl rfl Tryd.func17 (by kernel_rfl) rfl #[.slice (some ad471) l0.length c0, .agg #[.int .i64 t460, .int .i64 t461, .int .i64 t462, .int .i64 t463, .int .i64 t464, .int .i64 t465, .int .i64 t466, .int .i64 t467, .int .i64 t468, .bool t469], .int .i64 (wrap64 (((rd_T39 l0 t460).f2) - 1))] rfl (by (try simp only [List.map_toArray, List.map_cons, List.map_nil]); first | done | rfl | (simp only [List.length_drop, List.length_take]; rfl)) ?_; (with_reducible refine (stage_Run.calls kj19 _ _ l0 t460 t461 t462 t463 t464 t465 t466 t467 t468 t469 (wrap64 (((rd_T39 l0 t460).f2) - 1)) t473 t474 t475 t476 t477 t478 t479 t480 t481 t482 t483 _ ?side1 ?side2 ?side3 A39.out).mono ?_); (case side1 => exact Kd.C_below HR0.out (upHn HB.out)); (case side2 => exact HC0.out); (case side3 => first | (with_reducible exact HG.out) | (refine GlobOk.below HG.out ?_; repeat (first | (with_reducible first | exact HB.out | apply below_alloc | apply pw_below_drewN | apply below_drew1 | refine below_set ?_ GE456.out | refine below_set ?_ GE470.out | refine below_set ?_ GE472.out) | exact HB.out))); rintro e w50 ⟨v484, rfl, ho0, hb⟩; refine ⟨_, rfl, ?_⟩; have n0_ := Aside0.mk (Kd.S_lower ho0 (below_size (upHn HB.out))); have n1_ := Aside0.mk (blk_below (g := gb456) (o := .cells #[.int .i64 a1_0, .int .i64 a1_1, .int .i64 a1_2, .int .i64 a1_3, .int .i64 a1_4, .int .i64 a1_5, .int .i64 a1_6, .int .i64 a1_7, .int .i64 a1_8, .bool a1_9] 24 (0, 0)) (by (with_reducible repeat (first | refine blk_drewN ?_ _ | refine blk_drew ?_ | refine blk_alloc ?_ _)); refine blk_far ?_ NB456_472.out _; (with_reducible repeat (first | refine blk_drewN ?_ _ | refine blk_drew ?_ | refine blk_alloc ?_ _)); refine blk_far ?_ NB456_472.out _; (with_reducible repeat (first | refine blk_drewN ?_ _ | refine blk_drew ?_ | refine blk_alloc ?_ _)); refine blk_far ?_ NB456_472.out _; (with_reducible repeat (first | refine blk_drewN ?_ _ | refine blk_drew ?_ | refine blk_alloc ?_ _)); refine blk_far ?_ NB456_472.out _; (with_reducible repeat (first | refine blk_drewN ?_ _ | refine blk_drew ?_ | refine blk_alloc ?_ _)); refine blk_far ?_ NB456_472.out _; (with_reducible repeat (first | refine blk_drewN ?_ _ | refine blk_drew ?_ | refine blk_alloc ?_ _)); exact BK456.out) hb); have n2_ := Aside0.mk (blk_below (g := gb470) (o := .cells #[.int .i64 t460, .int .i64 t461, .int .i64 t462, .int .i64 t463, .int .i64 t464, .int .i64 t465, .int .i64 t466, .int .i64 t467, .int .i64 t468, .bool t469] 24 (0, 0)) (by (with_reducible repeat (first | refine blk_drewN ?_ _ | refine blk_drew ?_ | refine blk_alloc ?_ _)); refine blk_far ?_ NB470_472.out _; (with_reducible repeat (first | refine blk_drewN ?_ _ | refine blk_drew ?_ | refine blk_alloc ?_ _)); refine blk_far ?_ NB470_472.out _; (with_reducible repeat (first | refine blk_drewN ?_ _ | refine blk_drew ?_ | refine blk_alloc ?_ _)); refine blk_far ?_ NB470_472.out _; (with_reducible repeat (first | refine blk_drewN ?_ _ | refine blk_drew ?_ | refine blk_alloc ?_ _)); refine blk_far ?_ NB470_472.out _; (with_reducible repeat (first | refine blk_drewN ?_ _ | refine blk_drew ?_ | refine blk_alloc ?_ _)); refine blk_far ?_ NB470_472.out _; (with_reducible repeat (first | refine blk_drewN ?_ _ | refine blk_drew ?_ | refine blk_alloc ?_ _)); exact BK470.out) hb); have n3_ := Aside0.mk (blk_below (g := gb472) (o := .cells #[.slice A471_0 ((rd_T39 l0 t460).f0).length c471_0, .slice A471_1 ((rd_T39 l0 t460).f1).length c471_1, .int .i64 ((rd_T39 l0 t460).f2), .int .i64 ((rd_T39 l0 t460).f3), .int .i64 ((rd_T39 l0 t460).f4)] 39 (0, 0)) (by (with_reducible repeat (first | refine blk_drewN ?_ _ | refine blk_drew ?_ | refine blk_alloc ?_ _)); refine blk_put (cs := #[.slice A471_0 ((rd_T39 l0 t460).f0).length c471_0, .slice A471_1 ((rd_T39 l0 t460).f1).length c471_1, .int .i64 ((rd_T39 l0 t460).f2), .int .i64 ((rd_T39 l0 t460).f3), .int .i64 0]) ?_ 4 _ rfl; (with_reducible repeat (first | refine blk_drewN ?_ _ | refine blk_drew ?_ | refine blk_alloc ?_ _)); refine blk_put (cs := #[.slice A471_0 ((rd_T39 l0 t460).f0).length c471_0, .slice A471_1 ((rd_T39 l0 t460).f1).length c471_1, .int .i64 ((rd_T39 l0 t460).f2), .int .i64 0, .int .i64 0]) ?_ 3 _ rfl; (with_reducible repeat (first | refine blk_drewN ?_ _ | refine blk_drew ?_ | refine blk_alloc ?_ _)); refine blk_put (cs := #[.slice A471_0 ((rd_T39 l0 t460).f0).length c471_0, .slice A471_1 ((rd_T39 l0 t460).f1).length c471_1, .int .i64 0, .int .i64 0, .int .i64 0]) ?_ 2 _ rfl; (with_reducible repeat (first | refine blk_drewN ?_ _ | refine blk_drew ?_ | refine blk_alloc ?_ _)); refine blk_put (cs := #[.slice A471_0 ((rd_T39 l0 t460).f0).length c471_0, .slice none 0 0, .int .i64 0, .int .i64 0, .int .i64 0]) ?_ 1 _ rfl; (with_reducible repeat (first | refine blk_drewN ?_ _ | refine blk_drew ?_ | refine blk_alloc ?_ _)); refine blk_put (cs := #[.slice none 0 0, .slice none 0 0, .int .i64 0, .int .i64 0, .int .i64 0]) ?_ 0 _ rfl; (with_reducible repeat (first | refine blk_drewN ?_ _ | refine blk_drew ?_ | refine blk_alloc ?_ _)); exact BK472.out) hb); have n4_ := Aside0.mk (below_step (upHn HB.out) hb); clear BK456; clear BK470; clear BK472; clear HB; have HO485 := n0_; have BK456 := n1_; have BK470 := n2_; have BK472 := n3_; have HB := n4_; clear n0_ n1_ n2_ n3_ n4_; (try clear hb); (try clear hb2); (try clear hk); (try clear hi); (try clear ho0)) | ((with_reducible refine gate_dst (N := 9) rfl ?_); (try (refine gate_guard (by rfl) ?_; dsimp only)); refine box_event ?hg (N := 9) ?hd (cs := #[.int .i64 0, .int .i64 0, .int .i64 0, .int .i64 0, .int .i64 0, .int .i64 0, .int .i64 0, .int .i64 0, .int .i64 0, .bool false]) (t := 24) ?hr ?_; (case hd => rfl); (case hg => rfl); (case hr => first | (go_simp; done) | (go_simp; rfl)); intro gb486 hg w51 hbox hb; have n0_ := Aside0.mk (Kd.S_below (by (with_reducible repeat (first | apply Kd.S_alloc | apply Kd.S_drewN | apply Kd.S_drew)); exact HO485.out) hb); have n1_ := Aside0.mk (blk_below (g := gb456) (o := .cells #[.int .i64 a1_0, .int .i64 a1_1, .int .i64 a1_2, .int .i64 a1_3, .int .i64 a1_4, .int .i64 a1_5, .int .i64 a1_6, .int .i64 a1_7, .int .i64 a1_8, .bool a1_9] 24 (0, 0)) (upBn BK456.out) hb); have n2_ := Aside0.mk (blk_below (g := gb470) (o := .cells #[.int .i64 t460, .int .i64 t461, .int .i64 t462, .int .i64 t463, .int .i64 t464, .int .i64 t465, .int .i64 t466, .int .i64 t467, .int .i64 t468, .bool t469] 24 (0, 0)) (upBn BK470.out) hb); have n3_ := Aside0.mk (blk_below (g := gb472) (o := .cells #[.slice A471_0 ((rd_T39 l0 t460).f0).length c471_0, .slice A471_1 ((rd_T39 l0 t460).f1).length c471_1, .int .i64 ((rd_T39 l0 t460).f2), .int .i64 ((rd_T39 l0 t460).f3), .int .i64 ((rd_T39 l0 t460).f4)] 39 (0, 0)) (upBn BK472.out) hb); have n4_ := Aside0.mk (below_step (upHn HB.out) hb); have n5_ := Aside0.mk (hbox); have n6_ := Aside0.mk ((by rw [hg]; exact (below_size (upHn HB.out)) : w.heap.size ≤ gb486)); have n7_ := Aside0.mk ((by rw [hg]; exact (below_size (upHn HB.out)) : w.heap.size ≤ gb486)); have n8_ := Aside0.mk ((by rw [hg]; exact Nat.ne_of_lt (blk_lt (g := gb456) (o := .cells #[.int .i64 a1_0, .int .i64 a1_1, .int .i64 a1_2, .int .i64 a1_3, .int .i64 a1_4, .int .i64 a1_5, .int .i64 a1_6, .int .i64 a1_7, .int .i64 a1_8, .bool a1_9] 24 (0, 0)) (upBn BK456.out)) : gb456 ≠ gb486)); have n9_ := Aside0.mk ((by rw [hg]; exact Nat.ne_of_gt (blk_lt (g := gb456) (o := .cells #[.int .i64 a1_0, .int .i64 a1_1, .int .i64 a1_2, .int .i64 a1_3, .int .i64 a1_4, .int .i64 a1_5, .int .i64 a1_6, .int .i64 a1_7, .int .i64 a1_8, .bool a1_9] 24 (0, 0)) (upBn BK456.out)) : gb486 ≠ gb456)); have n10_ := Aside0.mk ((by rw [hg]; exact Nat.ne_of_lt (blk_lt (g := gb470) (o := .cells #[.int .i64 t460, .int .i64 t461, .int .i64 t462, .int .i64 t463, .int .i64 t464, .int .i64 t465, .int .i64 t466, .int .i64 t467, .int .i64 t468, .bool t469] 24 (0, 0)) (upBn BK470.out)) : gb470 ≠ gb486)); have n11_ := Aside0.mk ((by rw [hg]; exact Nat.ne_of_gt (blk_lt (g := gb470) (o := .cells #[.int .i64 t460, .int .i64 t461, .int .i64 t462, .int .i64 t463, .int .i64 t464, .int .i64 t465, .int .i64 t466, .int .i64 t467, .int .i64 t468, .bool t469] 24 (0, 0)) (upBn BK470.out)) : gb486 ≠ gb470)); have n12_ := Aside0.mk ((by rw [hg]; exact Nat.ne_of_lt (blk_lt (g := gb472) (o := .cells #[.slice A471_0 ((rd_T39 l0 t460).f0).length c471_0, .slice A471_1 ((rd_T39 l0 t460).f1).length c471_1, .int .i64 ((rd_T39 l0 t460).f2), .int .i64 ((rd_T39 l0 t460).f3), .int .i64 ((rd_T39 l0 t460).f4)] 39 (0, 0)) (upBn BK472.out)) : gb472 ≠ gb486)); have n13_ := Aside0.mk ((by rw [hg]; exact Nat.ne_of_gt (blk_lt (g := gb472) (o := .cells #[.slice A471_0 ((rd_T39 l0 t460).f0).length c471_0, .slice A471_1 ((rd_T39 l0 t460).f1).length c471_1, .int .i64 ((rd_T39 l0 t460).f2), .int .i64 ((rd_T39 l0 t460).f3), .int .i64 ((rd_T39 l0 t460).f4)] 39 (0, 0)) (upBn BK472.out)) : gb486 ≠ gb472)); clear HO485; clear BK456; clear BK470; clear BK472; clear HB; have HO485 := n0_; have BK456 := n1_; have BK470 := n2_; have BK472 := n3_; have HB := n4_; have BK486 := n5_; have GW486 := n6_; have GE486 := n7_; have NB456_486 := n8_; have NB486_456 := n9_; have NB470_486 := n10_; have NB486_470 := n11_; have NB472_486 := n12_; have NB486_472 := n13_; clear n0_ n1_ n2_ n3_ n4_ n5_ n6_ n7_ n8_ n9_ n10_ n11_ n12_ n13_; clear hb hbox hg; have hnb52 := NB486_456.out; have hnc52 := NB456_486.out; have hnb53 := NB486_470.out; have hnc53 := NB470_486.out; have hnb54 := NB486_472.out; have hnc54 := NB472_486.out; have hcz55_0 : w51.cell? ⟨gb486, 0, none⟩ = some (.int .i64 0) := (blk_cell BK486.out 0).trans rfl; have hcz55_1 : w51.cell? ⟨gb486, 1, none⟩ = some (.int .i64 0) := (blk_cell BK486.out 1).trans rfl; have hcz55_2 : w51.cell? ⟨gb486, 2, none⟩ = some (.int .i64 0) := (blk_cell BK486.out 2).trans rfl; have hcz55_3 : w51.cell? ⟨gb486, 3, none⟩ = some (.int .i64 0) := (blk_cell BK486.out 3).trans rfl; have hcz55_4 : w51.cell? ⟨gb486, 4, none⟩ = some (.int .i64 0) := (blk_cell BK486.out 4).trans rfl; have hcz55_5 : w51.cell? ⟨gb486, 5, none⟩ = some (.int .i64 0) := (blk_cell BK486.out 5).trans rfl; have hcz55_6 : w51.cell? ⟨gb486, 6, none⟩ = some (.int .i64 0) := (blk_cell BK486.out 6).trans rfl; have hcz55_7 : w51.cell? ⟨gb486, 7, none⟩ = some (.int .i64 0) := (blk_cell BK486.out 7).trans rfl; have hcz55_8 : w51.cell? ⟨gb486, 8, none⟩ = some (.int .i64 0) := (blk_cell BK486.out 8).trans rfl; have hcz55_9 : w51.cell? ⟨gb486, 9, none⟩ = some (.bool false) := (blk_cell BK486.out 9).trans rfl; have hfz55_0 := blk_frozen BK486.out 0; have hfz55_1 := blk_frozen BK486.out 1; have hfz55_2 := blk_frozen BK486.out 2; have hfz55_3 := blk_frozen BK486.out 3; have hfz55_4 := blk_frozen BK486.out 4; have hfz55_5 := blk_frozen BK486.out 5; have hfz55_6 := blk_frozen BK486.out 6; have hfz55_7 := blk_frozen BK486.out 7; have hfz55_8 := blk_frozen BK486.out 8; have hfz55_9 := blk_frozen BK486.out 9; have hcz56_0 : w51.cell? ⟨gb472, 0, none⟩ = some (.slice A471_0 ((rd_T39 l0 t460).f0).length c471_0) := (blk_cell BK472.out 0).trans rfl; have hcz56_1 : w51.cell? ⟨gb472, 1, none⟩ = some (.slice A471_1 ((rd_T39 l0 t460).f1).length c471_1) := (blk_cell BK472.out 1).trans rfl; have hcz56_2 : w51.cell? ⟨gb472, 2, none⟩ = some (.int .i64 ((rd_T39 l0 t460).f2)) := (blk_cell BK472.out 2).trans rfl; have hcz56_3 : w51.cell? ⟨gb472, 3, none⟩ = some (.int .i64 ((rd_T39 l0 t460).f3)) := (blk_cell BK472.out 3).trans rfl; have hcz56_4 : w51.cell? ⟨gb472, 4, none⟩ = some (.int .i64 ((rd_T39 l0 t460).f4)) := (blk_cell BK472.out 4).trans rfl; have hfz56_0 := blk_frozen BK472.out 0; have hfz56_1 := blk_frozen BK472.out 1; have hfz56_2 := blk_frozen BK472.out 2; have hfz56_3 := blk_frozen BK472.out 3; have hfz56_4 := blk_frozen BK472.out 4) | ((with_reducible refine gate_callee (f := 17) rfl ?_); refine goesL_ (some 77) rfl rfl Tryd.func17 (by kernel_rfl) rfl #[.slice (some ad471) l0.length c0, .agg #[.int .i64 t473, .int .i64 t474, .int .i64 t475, .int .i64 t476, .int .i64 t477, .int .i64 t478, .int .i64 t479, .int .i64 t480, .int .i64 t481, .bool t482], .int .i64 ((rd_T39 l0 t460).f3)] rfl (by (try simp only [List.map_toArray, List.map_cons, List.map_nil]); first | done | rfl | (simp only [List.length_drop, List.length_take]; rfl)) ?_; (with_reducible refine (stage_Run.calls kj19 _ _ l0 t473 t474 t475 t476 t477 t478 t479 t480 t481 t482 ((rd_T39 l0 t460).f3) t487 t488 t489 t490 t491 t492 t493 t494 t495 t496 t497 _ ?side1 ?side2 ?side3 A40.out).mono ?_); (case side1 => exact Kd.C_below HR0.out (upHn HB.out)); (case side2 => exact HC0.out); (case side3 => first | (with_reducible exact HG.out) | (refine GlobOk.below HG.out ?_; repeat (first | (with_reducible first | exact HB.out | apply below_alloc | apply pw_below_drewN | apply below_drew1 | refine below_set ?_ GE456.out | refine below_set ?_ GE470.out | refine below_set ?_ GE472.out | refine below_set ?_ GE486.out) | exact HB.out))); rintro e w57 ⟨v498, rfl, ho0, hb⟩; refine ⟨_, rfl, ?_⟩; have n0_ := Aside0.mk (Kd.S_elder' (by (with_reducible repeat (first | apply Kd.S_alloc | apply Kd.S_drewN | apply Kd.S_drew)); exact (Kd.S_mono (Kd.S_far (p := ⟨gb486, 9, none⟩) (Kd.S_far (p := ⟨gb486, 8, none⟩) (Kd.S_far (p := ⟨gb486, 7, none⟩) (Kd.S_far (p := ⟨gb486, 6, none⟩) (Kd.S_far (p := ⟨gb486, 5, none⟩) (Kd.S_far (p := ⟨gb486, 4, none⟩) (Kd.S_far (p := ⟨gb486, 3, none⟩) (Kd.S_far (p := ⟨gb486, 2, none⟩) (Kd.S_far (p := ⟨gb486, 1, none⟩) (Kd.S_far (p := ⟨gb486, 0, none⟩) (Kd.S_types HO485.out BK486.out (by decide)) (fun _ hk => hk.2) (.int .i64 t473)) (fun _ hk => hk.2) (.int .i64 t474)) (fun _ hk => hk.2) (.int .i64 t475)) (fun _ hk => hk.2) (.int .i64 t476)) (fun _ hk => hk.2) (.int .i64 t477)) (fun _ hk => hk.2) (.int .i64 t478)) (fun _ hk => hk.2) (.int .i64 t479)) (fun _ hk => hk.2) (.int .i64 t480)) (fun _ hk => hk.2) (.int .i64 t481)) (fun _ hk => hk.2) (.bool t482)) (fun _ h_ => h_.1))) (Kd.S_base ho0) hb); have n1_ := Aside0.mk (Kd.S_lower (Kd.S_new' ho0 (Kd.S_lt (by (with_reducible repeat (first | apply Kd.S_alloc | apply Kd.S_drewN | apply Kd.S_drew)); exact (Kd.S_mono (Kd.S_far (p := ⟨gb486, 9, none⟩) (Kd.S_far (p := ⟨gb486, 8, none⟩) (Kd.S_far (p := ⟨gb486, 7, none⟩) (Kd.S_far (p := ⟨gb486, 6, none⟩) (Kd.S_far (p := ⟨gb486, 5, none⟩) (Kd.S_far (p := ⟨gb486, 4, none⟩) (Kd.S_far (p := ⟨gb486, 3, none⟩) (Kd.S_far (p := ⟨gb486, 2, none⟩) (Kd.S_far (p := ⟨gb486, 1, none⟩) (Kd.S_far (p := ⟨gb486, 0, none⟩) (Kd.S_types HO485.out BK486.out (by decide)) (fun _ hk => hk.2) (.int .i64 t473)) (fun _ hk => hk.2) (.int .i64 t474)) (fun _ hk => hk.2) (.int .i64 t475)) (fun _ hk => hk.2) (.int .i64 t476)) (fun _ hk => hk.2) (.int .i64 t477)) (fun _ hk => hk.2) (.int .i64 t478)) (fun _ hk => hk.2) (.int .i64 t479)) (fun _ hk => hk.2) (.int .i64 t480)) (fun _ hk => hk.2) (.int .i64 t481)) (fun _ hk => hk.2) (.bool t482)) (fun _ h_ => h_.1))))) (below_size (upHn HB.out))); have n2_ := Aside0.mk (blk_below (g := gb456) (o := .cells #[.int .i64 a1_0, .int .i64 a1_1, .int .i64 a1_2, .int .i64 a1_3, .int .i64 a1_4, .int .i64 a1_5, .int .i64 a1_6, .int .i64 a1_7, .int .i64 a1_8, .bool a1_9] 24 (0, 0)) (by (with_reducible repeat (first | refine blk_drewN ?_ _ | refine blk_drew ?_ | refine blk_alloc ?_ _)); refine blk_far ?_ NB456_486.out _; (with_reducible repeat (first | refine blk_drewN ?_ _ | refine blk_drew ?_ | refine blk_alloc ?_ _)); refine blk_far ?_ NB456_486.out _; (with_reducible repeat (first | refine blk_drewN ?_ _ | refine blk_drew ?_ | refine blk_alloc ?_ _)); refine blk_far ?_ NB456_486.out _; (with_reducible repeat (first | refine blk_drewN ?_ _ | refine blk_drew ?_ | refine blk_alloc ?_ _)); refine blk_far ?_ NB456_486.out _; (with_reducible repeat (first | refine blk_drewN ?_ _ | refine blk_drew ?_ | refine blk_alloc ?_ _)); refine blk_far ?_ NB456_486.out _; (with_reducible repeat (first | refine blk_drewN ?_ _ | refine blk_drew ?_ | refine blk_alloc ?_ _)); refine blk_far ?_ NB456_486.out _; (with_reducible repeat (first | refine blk_drewN ?_ _ | refine blk_drew ?_ | refine blk_alloc ?_ _)); refine blk_far ?_ NB456_486.out _; (with_reducible repeat (first | refine blk_drewN ?_ _ | refine blk_drew ?_ | refine blk_alloc ?_ _)); refine blk_far ?_ NB456_486.out _; (with_reducible repeat (first | refine blk_drewN ?_ _ | refine blk_drew ?_ | refine blk_alloc ?_ _)); refine blk_far ?_ NB456_486.out _; (with_reducible repeat (first | refine blk_drewN ?_ _ | refine blk_drew ?_ | refine blk_alloc ?_ _)); refine blk_far ?_ NB456_486.out _; (with_reducible repeat (first | refine blk_drewN ?_ _ | refine blk_drew ?_ | refine blk_alloc ?_ _)); exact BK456.out) hb); have n3_ := Aside0.mk (blk_below (g := gb470) (o := .cells #[.int .i64 t460, .int .i64 t461, .int .i64 t462, .int .i64 t463, .int .i64 t464, .int .i64 t465, .int .i64 t466, .int .i64 t467, .int .i64 t468, .bool t469] 24 (0, 0)) (by (with_reducible repeat (first | refine blk_drewN ?_ _ | refine blk_drew ?_ | refine blk_alloc ?_ _)); refine blk_far ?_ NB470_486.out _; (with_reducible repeat (first | refine blk_drewN ?_ _ | refine blk_drew ?_ | refine blk_alloc ?_ _)); refine blk_far ?_ NB470_486.out _; (with_reducible repeat (first | refine blk_drewN ?_ _ | refine blk_drew ?_ | refine blk_alloc ?_ _)); refine blk_far ?_ NB470_486.out _; (with_reducible repeat (first | refine blk_drewN ?_ _ | refine blk_drew ?_ | refine blk_alloc ?_ _)); refine blk_far ?_ NB470_486.out _; (with_reducible repeat (first | refine blk_drewN ?_ _ | refine blk_drew ?_ | refine blk_alloc ?_ _)); refine blk_far ?_ NB470_486.out _; (with_reducible repeat (first | refine blk_drewN ?_ _ | refine blk_drew ?_ | refine blk_alloc ?_ _)); refine blk_far ?_ NB470_486.out _; (with_reducible repeat (first | refine blk_drewN ?_ _ | refine blk_drew ?_ | refine blk_alloc ?_ _)); refine blk_far ?_ NB470_486.out _; (with_reducible repeat (first | refine blk_drewN ?_ _ | refine blk_drew ?_ | refine blk_alloc ?_ _)); refine blk_far ?_ NB470_486.out _; (with_reducible repeat (first | refine blk_drewN ?_ _ | refine blk_drew ?_ | refine blk_alloc ?_ _)); refine blk_far ?_ NB470_486.out _; (with_reducible repeat (first | refine blk_drewN ?_ _ | refine blk_drew ?_ | refine blk_alloc ?_ _)); refine blk_far ?_ NB470_486.out _; (with_reducible repeat (first | refine blk_drewN ?_ _ | refine blk_drew ?_ | refine blk_alloc ?_ _)); exact BK470.out) hb); have n4_ := Aside0.mk (blk_below (g := gb472) (o := .cells #[.slice A471_0 ((rd_T39 l0 t460).f0).length c471_0, .slice A471_1 ((rd_T39 l0 t460).f1).length c471_1, .int .i64 ((rd_T39 l0 t460).f2), .int .i64 ((rd_T39 l0 t460).f3), .int .i64 ((rd_T39 l0 t460).f4)] 39 (0, 0)) (by (with_reducible repeat (first | refine blk_drewN ?_ _ | refine blk_drew ?_ | refine blk_alloc ?_ _)); refine blk_far ?_ NB472_486.out _; (with_reducible repeat (first | refine blk_drewN ?_ _ | refine blk_drew ?_ | refine blk_alloc ?_ _)); refine blk_far ?_ NB472_486.out _; (with_reducible repeat (first | refine blk_drewN ?_ _ | refine blk_drew ?_ | refine blk_alloc ?_ _)); refine blk_far ?_ NB472_486.out _; (with_reducible repeat (first | refine blk_drewN ?_ _ | refine blk_drew ?_ | refine blk_alloc ?_ _)); refine blk_far ?_ NB472_486.out _; (with_reducible repeat (first | refine blk_drewN ?_ _ | refine blk_drew ?_ | refine blk_alloc ?_ _)); refine blk_far ?_ NB472_486.out _; (with_reducible repeat (first | refine blk_drewN ?_ _ | refine blk_drew ?_ | refine blk_alloc ?_ _)); refine blk_far ?_ NB472_486.out _; (with_reducible repeat (first | refine blk_drewN ?_ _ | refine blk_drew ?_ | refine blk_alloc ?_ _)); refine blk_far ?_ NB472_486.out _; (with_reducible repeat (first | refine blk_drewN ?_ _ | refine blk_drew ?_ | refine blk_alloc ?_ _)); refine blk_far ?_ NB472_486.out _; (with_reducible repeat (first | refine blk_drewN ?_ _ | refine blk_drew ?_ | refine blk_alloc ?_ _)); refine blk_far ?_ NB472_486.out _; (with_reducible repeat (first | refine blk_drewN ?_ _ | refine blk_drew ?_ | refine blk_alloc ?_ _)); refine blk_far ?_ NB472_486.out _; (with_reducible repeat (first | refine blk_drewN ?_ _ | refine blk_drew ?_ | refine blk_alloc ?_ _)); exact BK472.out) hb); have n5_ := Aside0.mk (blk_below (g := gb486) (o := .cells #[.int .i64 t473, .int .i64 t474, .int .i64 t475, .int .i64 t476, .int .i64 t477, .int .i64 t478, .int .i64 t479, .int .i64 t480, .int .i64 t481, .bool t482] 24 (0, 0)) (by (with_reducible repeat (first | refine blk_drewN ?_ _ | refine blk_drew ?_ | refine blk_alloc ?_ _)); refine blk_put (cs := #[.int .i64 t473, .int .i64 t474, .int .i64 t475, .int .i64 t476, .int .i64 t477, .int .i64 t478, .int .i64 t479, .int .i64 t480, .int .i64 t481, .bool false]) ?_ 9 _ rfl; (with_reducible repeat (first | refine blk_drewN ?_ _ | refine blk_drew ?_ | refine blk_alloc ?_ _)); refine blk_put (cs := #[.int .i64 t473, .int .i64 t474, .int .i64 t475, .int .i64 t476, .int .i64 t477, .int .i64 t478, .int .i64 t479, .int .i64 t480, .int .i64 0, .bool false]) ?_ 8 _ rfl; (with_reducible repeat (first | refine blk_drewN ?_ _ | refine blk_drew ?_ | refine blk_alloc ?_ _)); refine blk_put (cs := #[.int .i64 t473, .int .i64 t474, .int .i64 t475, .int .i64 t476, .int .i64 t477, .int .i64 t478, .int .i64 t479, .int .i64 0, .int .i64 0, .bool false]) ?_ 7 _ rfl; (with_reducible repeat (first | refine blk_drewN ?_ _ | refine blk_drew ?_ | refine blk_alloc ?_ _)); refine blk_put (cs := #[.int .i64 t473, .int .i64 t474, .int .i64 t475, .int .i64 t476, .int .i64 t477, .int .i64 t478, .int .i64 0, .int .i64 0, .int .i64 0, .bool false]) ?_ 6 _ rfl; (with_reducible repeat (first | refine blk_drewN ?_ _ | refine blk_drew ?_ | refine blk_alloc ?_ _)); refine blk_put (cs := #[.int .i64 t473, .int .i64 t474, .int .i64 t475, .int .i64 t476, .int .i64 t477, .int .i64 0, .int .i64 0, .int .i64 0, .int .i64 0, .bool false]) ?_ 5 _ rfl; (with_reducible repeat (first | refine blk_drewN ?_ _ | refine blk_drew ?_ | refine blk_alloc ?_ _)); refine blk_put (cs := #[.int .i64 t473, .int .i64 t474, .int .i64 t475, .int .i64 t476, .int .i64 0, .int .i64 0, .int .i64 0, .int .i64 0, .int .i64 0, .bool false]) ?_ 4 _ rfl; (with_reducible repeat (first | refine blk_drewN ?_ _ | refine blk_drew ?_ | refine blk_alloc ?_ _)); refine blk_put (cs := #[.int .i64 t473, .int .i64 t474, .int .i64 t475, .int .i64 0, .int .i64 0, .int .i64 0, .int .i64 0, .int .i64 0, .int .i64 0, .bool false]) ?_ 3 _ rfl; (with_reducible repeat (first | refine blk_drewN ?_ _ | refine blk_drew ?_ | refine blk_alloc ?_ _)); refine blk_put (cs := #[.int .i64 t473, .int .i64 t474, .int .i64 0, .int .i64 0, .int .i64 0, .int .i64 0, .int .i64 0, .int .i64 0, .int .i64 0, .bool false]) ?_ 2 _ rfl; (with_reducible repeat (first | refine blk_drewN ?_ _ | refine blk_drew ?_ | refine blk_alloc ?_ _)); refine blk_put (cs := #[.int .i64 t473, .int .i64 0, .int .i64 0, .int .i64 0, .int .i64 0, .int .i64 0, .int .i64 0, .int .i64 0, .int .i64 0, .bool false]) ?_ 1 _ rfl; (with_reducible repeat (first | refine blk_drewN ?_ _ | refine blk_drew ?_ | refine blk_alloc ?_ _)); refine blk_put (cs := #[.int .i64 0, .int .i64 0, .int .i64 0, .int .i64 0, .int .i64 0, .int .i64 0, .int .i64 0, .int .i64 0, .int .i64 0, .bool false]) ?_ 0 _ rfl; (with_reducible repeat (first | refine blk_drewN ?_ _ | refine blk_drew ?_ | refine blk_alloc ?_ _)); exact BK486.out) hb); have n6_ := Aside0.mk (below_step (upHn HB.out) hb); clear HO485; clear BK456; clear BK470; clear BK472; clear BK486; clear HB; have HO485 := n0_; have HO499 := n1_; have BK456 := n2_; have BK470 := n3_; have BK472 := n4_; have BK486 := n5_; have HB := n6_; clear n0_ n1_ n2_ n3_ n4_ n5_ n6_; (try clear hb); (try clear hb2); (try clear hk); (try clear hi); (try clear ho0)) | ((with_reducible refine gate_dst (N := 11) rfl ?_); (try (refine gate_guard (by rfl) ?_; dsimp only)); refine box_event ?hg (N := 11) ?hd (cs := #[.int .i64 0, .int .i64 0, .int .i64 0, .int .i64 0, .int .i64 0, .int .i64 0, .int .i64 0, .int .i64 0, .int .i64 0, .bool false]) (t := 24) ?hr ?_; (case hd => rfl); (case hg => rfl); (case hr => first | (go_simp; done) | (go_simp; rfl)); intro gb500 hg w58 hbox hb; have n0_ := Aside0.mk (Kd.S_below (by (with_reducible repeat (first | apply Kd.S_alloc | apply Kd.S_drewN | apply Kd.S_drew)); exact HO485.out) hb); have n1_ := Aside0.mk (Kd.S_below (by (with_reducible repeat (first | apply Kd.S_alloc | apply Kd.S_drewN | apply Kd.S_drew)); exact HO499.out) hb); have n2_ := Aside0.mk (blk_below (g := gb456) (o := .cells #[.int .i64 a1_0, .int .i64 a1_1, .int .i64 a1_2, .int .i64 a1_3, .int .i64 a1_4, .int .i64 a1_5, .int .i64 a1_6, .int .i64 a1_7, .int .i64 a1_8, .bool a1_9] 24 (0, 0)) (upBn BK456.out) hb); have n3_ := Aside0.mk (blk_below (g := gb470) (o := .cells #[.int .i64 t460, .int .i64 t461, .int .i64 t462, .int .i64 t463, .int .i64 t464, .int .i64 t465, .int .i64 t466, .int .i64 t467, .int .i64 t468, .bool t469] 24 (0, 0)) (upBn BK470.out) hb); have n4_ := Aside0.mk (blk_below (g := gb472) (o := .cells #[.slice A471_0 ((rd_T39 l0 t460).f0).length c471_0, .slice A471_1 ((rd_T39 l0 t460).f1).length c471_1, .int .i64 ((rd_T39 l0 t460).f2), .int .i64 ((rd_T39 l0 t460).f3), .int .i64 ((rd_T39 l0 t460).f4)] 39 (0, 0)) (upBn BK472.out) hb); have n5_ := Aside0.mk (blk_below (g := gb486) (o := .cells #[.int .i64 t473, .int .i64 t474, .int .i64 t475, .int .i64 t476, .int .i64 t477, .int .i64 t478, .int .i64 t479, .int .i64 t480, .int .i64 t481, .bool t482] 24 (0, 0)) (upBn BK486.out) hb); have n6_ := Aside0.mk (below_step (upHn HB.out) hb); have n7_ := Aside0.mk (hbox); have n8_ := Aside0.mk ((by rw [hg]; exact (below_size (upHn HB.out)) : w.heap.size ≤ gb500)); have n9_ := Aside0.mk ((by rw [hg]; exact (below_size (upHn HB.out)) : w.heap.size ≤ gb500)); have n10_ := Aside0.mk ((by rw [hg]; exact Nat.ne_of_lt (blk_lt (g := gb456) (o := .cells #[.int .i64 a1_0, .int .i64 a1_1, .int .i64 a1_2, .int .i64 a1_3, .int .i64 a1_4, .int .i64 a1_5, .int .i64 a1_6, .int .i64 a1_7, .int .i64 a1_8, .bool a1_9] 24 (0, 0)) (upBn BK456.out)) : gb456 ≠ gb500)); have n11_ := Aside0.mk ((by rw [hg]; exact Nat.ne_of_gt (blk_lt (g := gb456) (o := .cells #[.int .i64 a1_0, .int .i64 a1_1, .int .i64 a1_2, .int .i64 a1_3, .int .i64 a1_4, .int .i64 a1_5, .int .i64 a1_6, .int .i64 a1_7, .int .i64 a1_8, .bool a1_9] 24 (0, 0)) (upBn BK456.out)) : gb500 ≠ gb456)); have n12_ := Aside0.mk ((by rw [hg]; exact Nat.ne_of_lt (blk_lt (g := gb470) (o := .cells #[.int .i64 t460, .int .i64 t461, .int .i64 t462, .int .i64 t463, .int .i64 t464, .int .i64 t465, .int .i64 t466, .int .i64 t467, .int .i64 t468, .bool t469] 24 (0, 0)) (upBn BK470.out)) : gb470 ≠ gb500)); have n13_ := Aside0.mk ((by rw [hg]; exact Nat.ne_of_gt (blk_lt (g := gb470) (o := .cells #[.int .i64 t460, .int .i64 t461, .int .i64 t462, .int .i64 t463, .int .i64 t464, .int .i64 t465, .int .i64 t466, .int .i64 t467, .int .i64 t468, .bool t469] 24 (0, 0)) (upBn BK470.out)) : gb500 ≠ gb470)); have n14_ := Aside0.mk ((by rw [hg]; exact Nat.ne_of_lt (blk_lt (g := gb472) (o := .cells #[.slice A471_0 ((rd_T39 l0 t460).f0).length c471_0, .slice A471_1 ((rd_T39 l0 t460).f1).length c471_1, .int .i64 ((rd_T39 l0 t460).f2), .int .i64 ((rd_T39 l0 t460).f3), .int .i64 ((rd_T39 l0 t460).f4)] 39 (0, 0)) (upBn BK472.out)) : gb472 ≠ gb500)); have n15_ := Aside0.mk ((by rw [hg]; exact Nat.ne_of_gt (blk_lt (g := gb472) (o := .cells #[.slice A471_0 ((rd_T39 l0 t460).f0).length c471_0, .slice A471_1 ((rd_T39 l0 t460).f1).length c471_1, .int .i64 ((rd_T39 l0 t460).f2), .int .i64 ((rd_T39 l0 t460).f3), .int .i64 ((rd_T39 l0 t460).f4)] 39 (0, 0)) (upBn BK472.out)) : gb500 ≠ gb472)); have n16_ := Aside0.mk ((by rw [hg]; exact Nat.ne_of_lt (blk_lt (g := gb486) (o := .cells #[.int .i64 t473, .int .i64 t474, .int .i64 t475, .int .i64 t476, .int .i64 t477, .int .i64 t478, .int .i64 t479, .int .i64 t480, .int .i64 t481, .bool t482] 24 (0, 0)) (upBn BK486.out)) : gb486 ≠ gb500)); have n17_ := Aside0.mk ((by rw [hg]; exact Nat.ne_of_gt (blk_lt (g := gb486) (o := .cells #[.int .i64 t473, .int .i64 t474, .int .i64 t475, .int .i64 t476, .int .i64 t477, .int .i64 t478, .int .i64 t479, .int .i64 t480, .int .i64 t481, .bool t482] 24 (0, 0)) (upBn BK486.out)) : gb500 ≠ gb486)); clear HO485; clear HO499; clear BK456; clear BK470; clear BK472; clear BK486; clear HB; have HO485 := n0_; have HO499 := n1_; have BK456 := n2_; have BK470 := n3_; have BK472 := n4_; have BK486 := n5_; have HB := n6_; have BK500 := n7_; have GW500 := n8_; have GE500 := n9_; have NB456_500 := n10_; have NB500_456 := n11_; have NB470_500 := n12_; have NB500_470 := n13_; have NB472_500 := n14_; have NB500_472 := n15_; have NB486_500 := n16_; have NB500_486 := n17_; clear n0_ n1_ n2_ n3_ n4_ n5_ n6_ n7_ n8_ n9_ n10_ n11_ n12_ n13_ n14_ n15_ n16_ n17_; clear hb hbox hg; have hnb59 := NB500_456.out; have hnc59 := NB456_500.out; have hnb60 := NB500_470.out; have hnc60 := NB470_500.out; have hnb61 := NB500_472.out; have hnc61 := NB472_500.out; have hnb62 := NB500_486.out; have hnc62 := NB486_500.out; have hcz63_0 : w58.cell? ⟨gb500, 0, none⟩ = some (.int .i64 0) := (blk_cell BK500.out 0).trans rfl; have hcz63_1 : w58.cell? ⟨gb500, 1, none⟩ = some (.int .i64 0) := (blk_cell BK500.out 1).trans rfl; have hcz63_2 : w58.cell? ⟨gb500, 2, none⟩ = some (.int .i64 0) := (blk_cell BK500.out 2).trans rfl; have hcz63_3 : w58.cell? ⟨gb500, 3, none⟩ = some (.int .i64 0) := (blk_cell BK500.out 3).trans rfl; have hcz63_4 : w58.cell? ⟨gb500, 4, none⟩ = some (.int .i64 0) := (blk_cell BK500.out 4).trans rfl; have hcz63_5 : w58.cell? ⟨gb500, 5, none⟩ = some (.int .i64 0) := (blk_cell BK500.out 5).trans rfl; have hcz63_6 : w58.cell? ⟨gb500, 6, none⟩ = some (.int .i64 0) := (blk_cell BK500.out 6).trans rfl; have hcz63_7 : w58.cell? ⟨gb500, 7, none⟩ = some (.int .i64 0) := (blk_cell BK500.out 7).trans rfl; have hcz63_8 : w58.cell? ⟨gb500, 8, none⟩ = some (.int .i64 0) := (blk_cell BK500.out 8).trans rfl; have hcz63_9 : w58.cell? ⟨gb500, 9, none⟩ = some (.bool false) := (blk_cell BK500.out 9).trans rfl; have hfz63_0 := blk_frozen BK500.out 0; have hfz63_1 := blk_frozen BK500.out 1; have hfz63_2 := blk_frozen BK500.out 2; have hfz63_3 := blk_frozen BK500.out 3; have hfz63_4 := blk_frozen BK500.out 4; have hfz63_5 := blk_frozen BK500.out 5; have hfz63_6 := blk_frozen BK500.out 6; have hfz63_7 := blk_frozen BK500.out 7; have hfz63_8 := blk_frozen BK500.out 8; have hfz63_9 := blk_frozen BK500.out 9) | ((with_reducible refine gate_callee (f := 23) rfl ?_); refine goesL_ (some 82) rfl rfl Tryd.func23 (by kernel_rfl) rfl #[.slice (some ad471) l0.length c0, .agg #[.int .i64 t487, .int .i64 t488, .int .i64 t489, .int .i64 t490, .int .i64 t491, .int .i64 t492, .int .i64 t493, .int .i64 t494, .int .i64 t495, .bool t496]] rfl (by (try simp only [List.map_toArray, List.map_cons, List.map_nil]); first | done | rfl | (simp only [List.length_drop, List.length_take]; rfl)) ?_; (with_reducible refine (stage_Tick.calls _ _ l0 t487 t488 t489 t490 t491 t492 t493 t494 t495 t496 t501 t502 t503 t504 t505 t506 t507 t508 t509 t510 _ ?side1 ?side2 ?side3 A41.out).mono ?_); (case side1 => exact Kd.C_below HR0.out (upHn HB.out)); (case side2 => exact HC0.out); (case side3 => first | (with_reducible exact HG.out) | (refine GlobOk.below HG.out ?_; repeat (first | (with_reducible first | exact HB.out | apply below_alloc | apply pw_below_drewN | apply below_drew1 | refine below_set ?_ GE456.out | refine below_set ?_ GE470.out | refine below_set ?_ GE472.out | refine below_set ?_ GE486.out | refine below_set ?_ GE500.out) | exact HB.out))); rintro e w64 ⟨rfl, hb⟩; refine ⟨_, rfl, ?_⟩; have n0_ := Aside0.mk (Kd.S_below (by (with_reducible repeat (first | apply Kd.S_alloc | apply Kd.S_drewN | apply Kd.S_drew)); exact (Kd.S_mono (Kd.S_far (p := ⟨gb500, 9, none⟩) (Kd.S_far (p := ⟨gb500, 8, none⟩) (Kd.S_far (p := ⟨gb500, 7, none⟩) (Kd.S_far (p := ⟨gb500, 6, none⟩) (Kd.S_far (p := ⟨gb500, 5, none⟩) (Kd.S_far (p := ⟨gb500, 4, none⟩) (Kd.S_far (p := ⟨gb500, 3, none⟩) (Kd.S_far (p := ⟨gb500, 2, none⟩) (Kd.S_far (p := ⟨gb500, 1, none⟩) (Kd.S_far (p := ⟨gb500, 0, none⟩) (Kd.S_types HO485.out BK500.out (by decide)) (fun _ hk => hk.2) (.int .i64 t487)) (fun _ hk => hk.2) (.int .i64 t488)) (fun _ hk => hk.2) (.int .i64 t489)) (fun _ hk => hk.2) (.int .i64 t490)) (fun _ hk => hk.2) (.int .i64 t491)) (fun _ hk => hk.2) (.int .i64 t492)) (fun _ hk => hk.2) (.int .i64 t493)) (fun _ hk => hk.2) (.int .i64 t494)) (fun _ hk => hk.2) (.int .i64 t495)) (fun _ hk => hk.2) (.bool t496)) (fun _ h_ => h_.1))) hb); have n1_ := Aside0.mk (Kd.S_below (by (with_reducible repeat (first | apply Kd.S_alloc | apply Kd.S_drewN | apply Kd.S_drew)); exact (Kd.S_mono (Kd.S_far (p := ⟨gb500, 9, none⟩) (Kd.S_far (p := ⟨gb500, 8, none⟩) (Kd.S_far (p := ⟨gb500, 7, none⟩) (Kd.S_far (p := ⟨gb500, 6, none⟩) (Kd.S_far (p := ⟨gb500, 5, none⟩) (Kd.S_far (p := ⟨gb500, 4, none⟩) (Kd.S_far (p := ⟨gb500, 3, none⟩) (Kd.S_far (p := ⟨gb500, 2, none⟩) (Kd.S_far (p := ⟨gb500, 1, none⟩) (Kd.S_far (p := ⟨gb500, 0, none⟩) (Kd.S_types HO499.out BK500.out (by decide)) (fun _ hk => hk.2) (.int .i64 t487)) (fun _ hk => hk.2) (.int .i64 t488)) (fun _ hk => hk.2) (.int .i64 t489)) (fun _ hk => hk.2) (.int .i64 t490)) (fun _ hk => hk.2) (.int .i64 t491)) (fun _ hk => hk.2) (.int .i64 t492)) (fun _ hk => hk.2) (.int .i64 t493)) (fun _ hk => hk.2) (.int .i64 t494)) (fun _ hk => hk.2) (.int .i64 t495)) (fun _ hk => hk.2) (.bool t496)) (fun _ h_ => h_.1))) hb); have n2_ := Aside0.mk (blk_below (g := gb456) (o := .cells #[.int .i64 a1_0, .int .i64 a1_1, .int .i64 a1_2, .int .i64 a1_3, .int .i64 a1_4, .int .i64 a1_5, .int .i64 a1_6, .int .i64 a1_7, .int .i64 a1_8, .bool a1_9] 24 (0, 0)) (by (with_reducible repeat (first | refine blk_drewN ?_ _ | refine blk_drew ?_ | refine blk_alloc ?_ _)); refine blk_far ?_ NB456_500.out _; (with_reducible repeat (first | refine blk_drewN ?_ _ | refine blk_drew ?_ | refine blk_alloc ?_ _)); refine blk_far ?_ NB456_500.out _; (with_reducible repeat (first | refine blk_drewN ?_ _ | refine blk_drew ?_ | refine blk_alloc ?_ _)); refine blk_far ?_ NB456_500.out _; (with_reducible repeat (first | refine blk_drewN ?_ _ | refine blk_drew ?_ | refine blk_alloc ?_ _)); refine blk_far ?_ NB456_500.out _; (with_reducible repeat (first | refine blk_drewN ?_ _ | refine blk_drew ?_ | refine blk_alloc ?_ _)); refine blk_far ?_ NB456_500.out _; (with_reducible repeat (first | refine blk_drewN ?_ _ | refine blk_drew ?_ | refine blk_alloc ?_ _)); refine blk_far ?_ NB456_500.out _; (with_reducible repeat (first | refine blk_drewN ?_ _ | refine blk_drew ?_ | refine blk_alloc ?_ _)); refine blk_far ?_ NB456_500.out _; (with_reducible repeat (first | refine blk_drewN ?_ _ | refine blk_drew ?_ | refine blk_alloc ?_ _)); refine blk_far ?_ NB456_500.out _; (with_reducible repeat (first | refine blk_drewN ?_ _ | refine blk_drew ?_ | refine blk_alloc ?_ _)); refine blk_far ?_ NB456_500.out _; (with_reducible repeat (first | refine blk_drewN ?_ _ | refine blk_drew ?_ | refine blk_alloc ?_ _)); refine blk_far ?_ NB456_500.out _; (with_reducible repeat (first | refine blk_drewN ?_ _ | refine blk_drew ?_ | refine blk_alloc ?_ _)); exact BK456.out) hb); have n3_ := Aside0.mk (blk_below (g := gb470) (o := .cells #[.int .i64 t460, .int .i64 t461, .int .i64 t462, .int .i64 t463, .int .i64 t464, .int .i64 t465, .int .i64 t466, .int .i64 t467, .int .i64 t468, .bool t469] 24 (0, 0)) (by (with_reducible repeat (first | refine blk_drewN ?_ _ | refine blk_drew ?_ | refine blk_alloc ?_ _)); refine blk_far ?_ NB470_500.out _; (with_reducible repeat (first | refine blk_drewN ?_ _ | refine blk_drew ?_ | refine blk_alloc ?_ _)); refine blk_far ?_ NB470_500.out _; (with_reducible repeat (first | refine blk_drewN ?_ _ | refine blk_drew ?_ | refine blk_alloc ?_ _)); refine blk_far ?_ NB470_500.out _; (with_reducible repeat (first | refine blk_drewN ?_ _ | refine blk_drew ?_ | refine blk_alloc ?_ _)); refine blk_far ?_ NB470_500.out _; (with_reducible repeat (first | refine blk_drewN ?_ _ | refine blk_drew ?_ | refine blk_alloc ?_ _)); refine blk_far ?_ NB470_500.out _; (with_reducible repeat (first | refine blk_drewN ?_ _ | refine blk_drew ?_ | refine blk_alloc ?_ _)); refine blk_far ?_ NB470_500.out _; (with_reducible repeat (first | refine blk_drewN ?_ _ | refine blk_drew ?_ | refine blk_alloc ?_ _)); refine blk_far ?_ NB470_500.out _; (with_reducible repeat (first | refine blk_drewN ?_ _ | refine blk_drew ?_ | refine blk_alloc ?_ _)); refine blk_far ?_ NB470_500.out _; (with_reducible repeat (first | refine blk_drewN ?_ _ | refine blk_drew ?_ | refine blk_alloc ?_ _)); refine blk_far ?_ NB470_500.out _; (with_reducible repeat (first | refine blk_drewN ?_ _ | refine blk_drew ?_ | refine blk_alloc ?_ _)); refine blk_far ?_ NB470_500.out _; (with_reducible repeat (first | refine blk_drewN ?_ _ | refine blk_drew ?_ | refine blk_alloc ?_ _)); exact BK470.out) hb); have n4_ := Aside0.mk (blk_below (g := gb472) (o := .cells #[.slice A471_0 ((rd_T39 l0 t460).f0).length c471_0, .slice A471_1 ((rd_T39 l0 t460).f1).length c471_1, .int .i64 ((rd_T39 l0 t460).f2), .int .i64 ((rd_T39 l0 t460).f3), .int .i64 ((rd_T39 l0 t460).f4)] 39 (0, 0)) (by (with_reducible repeat (first | refine blk_drewN ?_ _ | refine blk_drew ?_ | refine blk_alloc ?_ _)); refine blk_far ?_ NB472_500.out _; (with_reducible repeat (first | refine blk_drewN ?_ _ | refine blk_drew ?_ | refine blk_alloc ?_ _)); refine blk_far ?_ NB472_500.out _; (with_reducible repeat (first | refine blk_drewN ?_ _ | refine blk_drew ?_ | refine blk_alloc ?_ _)); refine blk_far ?_ NB472_500.out _; (with_reducible repeat (first | refine blk_drewN ?_ _ | refine blk_drew ?_ | refine blk_alloc ?_ _)); refine blk_far ?_ NB472_500.out _; (with_reducible repeat (first | refine blk_drewN ?_ _ | refine blk_drew ?_ | refine blk_alloc ?_ _)); refine blk_far ?_ NB472_500.out _; (with_reducible repeat (first | refine blk_drewN ?_ _ | refine blk_drew ?_ | refine blk_alloc ?_ _)); refine blk_far ?_ NB472_500.out _; (with_reducible repeat (first | refine blk_drewN ?_ _ | refine blk_drew ?_ | refine blk_alloc ?_ _)); refine blk_far ?_ NB472_500.out _; (with_reducible repeat (first | refine blk_drewN ?_ _ | refine blk_drew ?_ | refine blk_alloc ?_ _)); refine blk_far ?_ NB472_500.out _; (with_reducible repeat (first | refine blk_drewN ?_ _ | refine blk_drew ?_ | refine blk_alloc ?_ _)); refine blk_far ?_ NB472_500.out _; (with_reducible repeat (first | refine blk_drewN ?_ _ | refine blk_drew ?_ | refine blk_alloc ?_ _)); refine blk_far ?_ NB472_500.out _; (with_reducible repeat (first | refine blk_drewN ?_ _ | refine blk_drew ?_ | refine blk_alloc ?_ _)); exact BK472.out) hb); have n5_ := Aside0.mk (blk_below (g := gb486) (o := .cells #[.int .i64 t473, .int .i64 t474, .int .i64 t475, .int .i64 t476, .int .i64 t477, .int .i64 t478, .int .i64 t479, .int .i64 t480, .int .i64 t481, .bool t482] 24 (0, 0)) (by (with_reducible repeat (first | refine blk_drewN ?_ _ | refine blk_drew ?_ | refine blk_alloc ?_ _)); refine blk_far ?_ NB486_500.out _; (with_reducible repeat (first | refine blk_drewN ?_ _ | refine blk_drew ?_ | refine blk_alloc ?_ _)); refine blk_far ?_ NB486_500.out _; (with_reducible repeat (first | refine blk_drewN ?_ _ | refine blk_drew ?_ | refine blk_alloc ?_ _)); refine blk_far ?_ NB486_500.out _; (with_reducible repeat (first | refine blk_drewN ?_ _ | refine blk_drew ?_ | refine blk_alloc ?_ _)); refine blk_far ?_ NB486_500.out _; (with_reducible repeat (first | refine blk_drewN ?_ _ | refine blk_drew ?_ | refine blk_alloc ?_ _)); refine blk_far ?_ NB486_500.out _; (with_reducible repeat (first | refine blk_drewN ?_ _ | refine blk_drew ?_ | refine blk_alloc ?_ _)); refine blk_far ?_ NB486_500.out _; (with_reducible repeat (first | refine blk_drewN ?_ _ | refine blk_drew ?_ | refine blk_alloc ?_ _)); refine blk_far ?_ NB486_500.out _; (with_reducible repeat (first | refine blk_drewN ?_ _ | refine blk_drew ?_ | refine blk_alloc ?_ _)); refine blk_far ?_ NB486_500.out _; (with_reducible repeat (first | refine blk_drewN ?_ _ | refine blk_drew ?_ | refine blk_alloc ?_ _)); refine blk_far ?_ NB486_500.out _; (with_reducible repeat (first | refine blk_drewN ?_ _ | refine blk_drew ?_ | refine blk_alloc ?_ _)); refine blk_far ?_ NB486_500.out _; (with_reducible repeat (first | refine blk_drewN ?_ _ | refine blk_drew ?_ | refine blk_alloc ?_ _)); exact BK486.out) hb); have n6_ := Aside0.mk (blk_below (g := gb500) (o := .cells #[.int .i64 t487, .int .i64 t488, .int .i64 t489, .int .i64 t490, .int .i64 t491, .int .i64 t492, .int .i64 t493, .int .i64 t494, .int .i64 t495, .bool t496] 24 (0, 0)) (by (with_reducible repeat (first | refine blk_drewN ?_ _ | refine blk_drew ?_ | refine blk_alloc ?_ _)); refine blk_put (cs := #[.int .i64 t487, .int .i64 t488, .int .i64 t489, .int .i64 t490, .int .i64 t491, .int .i64 t492, .int .i64 t493, .int .i64 t494, .int .i64 t495, .bool false]) ?_ 9 _ rfl; (with_reducible repeat (first | refine blk_drewN ?_ _ | refine blk_drew ?_ | refine blk_alloc ?_ _)); refine blk_put (cs := #[.int .i64 t487, .int .i64 t488, .int .i64 t489, .int .i64 t490, .int .i64 t491, .int .i64 t492, .int .i64 t493, .int .i64 t494, .int .i64 0, .bool false]) ?_ 8 _ rfl; (with_reducible repeat (first | refine blk_drewN ?_ _ | refine blk_drew ?_ | refine blk_alloc ?_ _)); refine blk_put (cs := #[.int .i64 t487, .int .i64 t488, .int .i64 t489, .int .i64 t490, .int .i64 t491, .int .i64 t492, .int .i64 t493, .int .i64 0, .int .i64 0, .bool false]) ?_ 7 _ rfl; (with_reducible repeat (first | refine blk_drewN ?_ _ | refine blk_drew ?_ | refine blk_alloc ?_ _)); refine blk_put (cs := #[.int .i64 t487, .int .i64 t488, .int .i64 t489, .int .i64 t490, .int .i64 t491, .int .i64 t492, .int .i64 0, .int .i64 0, .int .i64 0, .bool false]) ?_ 6 _ rfl; (with_reducible repeat (first | refine blk_drewN ?_ _ | refine blk_drew ?_ | refine blk_alloc ?_ _)); refine blk_put (cs := #[.int .i64 t487, .int .i64 t488, .int .i64 t489, .int .i64 t490, .int .i64 t491, .int .i64 0, .int .i64 0, .int .i64 0, .int .i64 0, .bool false]) ?_ 5 _ rfl; (with_reducible repeat (first | refine blk_drewN ?_ _ | refine blk_drew ?_ | refine blk_alloc ?_ _)); refine blk_put (cs := #[.int .i64 t487, .int .i64 t488, .int .i64 t489, .int .i64 t490, .int .i64 0, .int .i64 0, .int .i64 0, .int .i64 0, .int .i64 0, .bool false]) ?_ 4 _ rfl; (with_reducible repeat (first | refine blk_drewN ?_ _ | refine blk_drew ?_ | refine blk_alloc ?_ _)); refine blk_put (cs := #[.int .i64 t487, .int .i64 t488, .int .i64 t489, .int .i64 0, .int .i64 0, .int .i64 0, .int .i64 0, .int .i64 0, .int .i64 0, .bool false]) ?_ 3 _ rfl; (with_reducible repeat (first | refine blk_drewN ?_ _ | refine blk_drew ?_ | refine blk_alloc ?_ _)); refine blk_put (cs := #[.int .i64 t487, .int .i64 t488, .int .i64 0, .int .i64 0, .int .i64 0, .int .i64 0, .int .i64 0, .int .i64 0, .int .i64 0, .bool false]) ?_ 2 _ rfl; (with_reducible repeat (first | refine blk_drewN ?_ _ | refine blk_drew ?_ | refine blk_alloc ?_ _)); refine blk_put (cs := #[.int .i64 t487, .int .i64 0, .int .i64 0, .int .i64 0, .int .i64 0, .int .i64 0, .int .i64 0, .int .i64 0, .int .i64 0, .bool false]) ?_ 1 _ rfl; (with_reducible repeat (first | refine blk_drewN ?_ _ | refine blk_drew ?_ | refine blk_alloc ?_ _)); refine blk_put (cs := #[.int .i64 0, .int .i64 0, .int .i64 0, .int .i64 0, .int .i64 0, .int .i64 0, .int .i64 0, .int .i64 0, .int .i64 0, .bool false]) ?_ 0 _ rfl; (with_reducible repeat (first | refine blk_drewN ?_ _ | refine blk_drew ?_ | refine blk_alloc ?_ _)); exact BK500.out) hb); have n7_ := Aside0.mk (below_step (upHn HB.out) hb); clear HO485; clear HO499; clear BK456; clear BK470; clear BK472; clear BK486; clear BK500; clear HB; have HO485 := n0_; have HO499 := n1_; have BK456 := n2_; have BK470 := n3_; have BK472 := n4_; have BK486 := n5_; have BK500 := n6_; have HB := n7_; clear n0_ n1_ n2_ n3_ n4_ n5_ n6_ n7_; (try clear hb); (try clear hb2); (try clear hk); (try clear hi)) | ((with_reducible refine gate_dst (N := 13) rfl ?_); (try (refine gate_guard (by rfl) ?_; dsimp only)); refine box_event ?hg (N := 13) ?hd (cs := #[.int .i64 0, .int .i64 0, .int .i64 0, .int .i64 0, .int .i64 0, .int .i64 0, .int .i64 0, .int .i64 0, .int .i64 0, .bool false]) (t := 24) ?hr ?_; (case hd => rfl); (case hg => rfl); (case hr => first | (go_simp; done) | (go_simp; rfl)); intro gb511 hg w65 hbox hb; have n0_ := Aside0.mk (Kd.S_below (by (with_reducible repeat (first | apply Kd.S_alloc | apply Kd.S_drewN | apply Kd.S_drew)); exact HO485.out) hb); have n1_ := Aside0.mk (Kd.S_below (by (with_reducible repeat (first | apply Kd.S_alloc | apply Kd.S_drewN | apply Kd.S_drew)); exact HO499.out) hb); have n2_ := Aside0.mk (blk_below (g := gb456) (o := .cells #[.int .i64 a1_0, .int .i64 a1_1, .int .i64 a1_2, .int .i64 a1_3, .int .i64 a1_4, .int .i64 a1_5, .int .i64 a1_6, .int .i64 a1_7, .int .i64 a1_8, .bool a1_9] 24 (0, 0)) (upBn BK456.out) hb); have n3_ := Aside0.mk (blk_below (g := gb470) (o := .cells #[.int .i64 t460, .int .i64 t461, .int .i64 t462, .int .i64 t463, .int .i64 t464, .int .i64 t465, .int .i64 t466, .int .i64 t467, .int .i64 t468, .bool t469] 24 (0, 0)) (upBn BK470.out) hb); have n4_ := Aside0.mk (blk_below (g := gb472) (o := .cells #[.slice A471_0 ((rd_T39 l0 t460).f0).length c471_0, .slice A471_1 ((rd_T39 l0 t460).f1).length c471_1, .int .i64 ((rd_T39 l0 t460).f2), .int .i64 ((rd_T39 l0 t460).f3), .int .i64 ((rd_T39 l0 t460).f4)] 39 (0, 0)) (upBn BK472.out) hb); have n5_ := Aside0.mk (blk_below (g := gb486) (o := .cells #[.int .i64 t473, .int .i64 t474, .int .i64 t475, .int .i64 t476, .int .i64 t477, .int .i64 t478, .int .i64 t479, .int .i64 t480, .int .i64 t481, .bool t482] 24 (0, 0)) (upBn BK486.out) hb); have n6_ := Aside0.mk (blk_below (g := gb500) (o := .cells #[.int .i64 t487, .int .i64 t488, .int .i64 t489, .int .i64 t490, .int .i64 t491, .int .i64 t492, .int .i64 t493, .int .i64 t494, .int .i64 t495, .bool t496] 24 (0, 0)) (upBn BK500.out) hb); have n7_ := Aside0.mk (below_step (upHn HB.out) hb); have n8_ := Aside0.mk (hbox); have n9_ := Aside0.mk ((by rw [hg]; exact (below_size (upHn HB.out)) : w.heap.size ≤ gb511)); have n10_ := Aside0.mk ((by rw [hg]; exact (below_size (upHn HB.out)) : w.heap.size ≤ gb511)); have n11_ := Aside0.mk ((by rw [hg]; exact Nat.ne_of_lt (blk_lt (g := gb456) (o := .cells #[.int .i64 a1_0, .int .i64 a1_1, .int .i64 a1_2, .int .i64 a1_3, .int .i64 a1_4, .int .i64 a1_5, .int .i64 a1_6, .int .i64 a1_7, .int .i64 a1_8, .bool a1_9] 24 (0, 0)) (upBn BK456.out)) : gb456 ≠ gb511)); have n12_ := Aside0.mk ((by rw [hg]; exact Nat.ne_of_gt (blk_lt (g := gb456) (o := .cells #[.int .i64 a1_0, .int .i64 a1_1, .int .i64 a1_2, .int .i64 a1_3, .int .i64 a1_4, .int .i64 a1_5, .int .i64 a1_6, .int .i64 a1_7, .int .i64 a1_8, .bool a1_9] 24 (0, 0)) (upBn BK456.out)) : gb511 ≠ gb456)); have n13_ := Aside0.mk ((by rw [hg]; exact Nat.ne_of_lt (blk_lt (g := gb470) (o := .cells #[.int .i64 t460, .int .i64 t461, .int .i64 t462, .int .i64 t463, .int .i64 t464, .int .i64 t465, .int .i64 t466, .int .i64 t467, .int .i64 t468, .bool t469] 24 (0, 0)) (upBn BK470.out)) : gb470 ≠ gb511)); have n14_ := Aside0.mk ((by rw [hg]; exact Nat.ne_of_gt (blk_lt (g := gb470) (o := .cells #[.int .i64 t460, .int .i64 t461, .int .i64 t462, .int .i64 t463, .int .i64 t464, .int .i64 t465, .int .i64 t466, .int .i64 t467, .int .i64 t468, .bool t469] 24 (0, 0)) (upBn BK470.out)) : gb511 ≠ gb470)); have n15_ := Aside0.mk ((by rw [hg]; exact Nat.ne_of_lt (blk_lt (g := gb472) (o := .cells #[.slice A471_0 ((rd_T39 l0 t460).f0).length c471_0, .slice A471_1 ((rd_T39 l0 t460).f1).length c471_1, .int .i64 ((rd_T39 l0 t460).f2), .int .i64 ((rd_T39 l0 t460).f3), .int .i64 ((rd_T39 l0 t460).f4)] 39 (0, 0)) (upBn BK472.out)) : gb472 ≠ gb511)); have n16_ := Aside0.mk ((by rw [hg]; exact Nat.ne_of_gt (blk_lt (g := gb472) (o := .cells #[.slice A471_0 ((rd_T39 l0 t460).f0).length c471_0, .slice A471_1 ((rd_T39 l0 t460).f1).length c471_1, .int .i64 ((rd_T39 l0 t460).f2), .int .i64 ((rd_T39 l0 t460).f3), .int .i64 ((rd_T39 l0 t460).f4)] 39 (0, 0)) (upBn BK472.out)) : gb511 ≠ gb472)); have n17_ := Aside0.mk ((by rw [hg]; exact Nat.ne_of_lt (blk_lt (g := gb486) (o := .cells #[.int .i64 t473, .int .i64 t474, .int .i64 t475, .int .i64 t476, .int .i64 t477, .int .i64 t478, .int .i64 t479, .int .i64 t480, .int .i64 t481, .bool t482] 24 (0, 0)) (upBn BK486.out)) : gb486 ≠ gb511)); have n18_ := Aside0.mk ((by rw [hg]; exact Nat.ne_of_gt (blk_lt (g := gb486) (o := .cells #[.int .i64 t473, .int .i64 t474, .int .i64 t475, .int .i64 t476, .int .i64 t477, .int .i64 t478, .int .i64 t479, .int .i64 t480, .int .i64 t481, .bool t482] 24 (0, 0)) (upBn BK486.out)) : gb511 ≠ gb486)); have n19_ := Aside0.mk ((by rw [hg]; exact Nat.ne_of_lt (blk_lt (g := gb500) (o := .cells #[.int .i64 t487, .int .i64 t488, .int .i64 t489, .int .i64 t490, .int .i64 t491, .int .i64 t492, .int .i64 t493, .int .i64 t494, .int .i64 t495, .bool t496] 24 (0, 0)) (upBn BK500.out)) : gb500 ≠ gb511)); have n20_ := Aside0.mk ((by rw [hg]; exact Nat.ne_of_gt (blk_lt (g := gb500) (o := .cells #[.int .i64 t487, .int .i64 t488, .int .i64 t489, .int .i64 t490, .int .i64 t491, .int .i64 t492, .int .i64 t493, .int .i64 t494, .int .i64 t495, .bool t496] 24 (0, 0)) (upBn BK500.out)) : gb511 ≠ gb500)); clear HO485; clear HO499; clear BK456; clear BK470; clear BK472; clear BK486; clear BK500; clear HB; have HO485 := n0_; have HO499 := n1_; have BK456 := n2_; have BK470 := n3_; have BK472 := n4_; have BK486 := n5_; have BK500 := n6_; have HB := n7_; have BK511 := n8_; have GW511 := n9_; have GE511 := n10_; have NB456_511 := n11_; have NB511_456 := n12_; have NB470_511 := n13_; have NB511_470 := n14_; have NB472_511 := n15_; have NB511_472 := n16_; have NB486_511 := n17_; have NB511_486 := n18_; have NB500_511 := n19_; have NB511_500 := n20_; clear n0_ n1_ n2_ n3_ n4_ n5_ n6_ n7_ n8_ n9_ n10_ n11_ n12_ n13_ n14_ n15_ n16_ n17_ n18_ n19_ n20_; clear hb hbox hg; have hnb66 := NB511_456.out; have hnc66 := NB456_511.out; have hnb67 := NB511_470.out; have hnc67 := NB470_511.out; have hnb68 := NB511_472.out; have hnc68 := NB472_511.out; have hnb69 := NB511_486.out; have hnc69 := NB486_511.out; have hnb70 := NB511_500.out; have hnc70 := NB500_511.out; have hcz71_0 : w65.cell? ⟨gb511, 0, none⟩ = some (.int .i64 0) := (blk_cell BK511.out 0).trans rfl; have hcz71_1 : w65.cell? ⟨gb511, 1, none⟩ = some (.int .i64 0) := (blk_cell BK511.out 1).trans rfl; have hcz71_2 : w65.cell? ⟨gb511, 2, none⟩ = some (.int .i64 0) := (blk_cell BK511.out 2).trans rfl; have hcz71_3 : w65.cell? ⟨gb511, 3, none⟩ = some (.int .i64 0) := (blk_cell BK511.out 3).trans rfl; have hcz71_4 : w65.cell? ⟨gb511, 4, none⟩ = some (.int .i64 0) := (blk_cell BK511.out 4).trans rfl; have hcz71_5 : w65.cell? ⟨gb511, 5, none⟩ = some (.int .i64 0) := (blk_cell BK511.out 5).trans rfl; have hcz71_6 : w65.cell? ⟨gb511, 6, none⟩ = some (.int .i64 0) := (blk_cell BK511.out 6).trans rfl; have hcz71_7 : w65.cell? ⟨gb511, 7, none⟩ = some (.int .i64 0) := (blk_cell BK511.out 7).trans rfl; have hcz71_8 : w65.cell? ⟨gb511, 8, none⟩ = some (.int .i64 0) := (blk_cell BK511.out 8).trans rfl; have hcz71_9 : w65.cell? ⟨gb511, 9, none⟩ = some (.bool false) := (blk_cell BK511.out 9).trans rfl; have hfz71_0 := blk_frozen BK511.out 0; have hfz71_1 := blk_frozen BK511.out 1; have hfz71_2 := blk_frozen BK511.out 2; have hfz71_3 := blk_frozen BK511.out 3; have hfz71_4 := blk_frozen BK511.out 4; have hfz71_5 := blk_frozen BK511.out 5; have hfz71_6 := blk_frozen BK511.out 6; have hfz71_7 := blk_frozen BK511.out 7; have hfz71_8 := blk_frozen BK511.out 8; have hfz71_9 := blk_frozen BK511.out 9))
         (try simp only [Act.put, List.setIfInBounds_toArray, List.set_cons_zero, List.set_cons_succ])
         go_cut [105] (fun v105 wc => ∃ (kq : Nat) (x105_41 : Bool), v105 = .bool x105_41 ∧ Aside0 (pelicanlaw16_StageBetween.j2 kq t497 x105_41 a1_0 a1_1 a1_2 a1_3 a1_4 a1_5 a1_6 a1_7 a1_8 a1_9 t460 t461 t462 t463 t464 t465 t466 t467 t468 t469 ((rd_T39 l0 t460).f0) ((rd_T39 l0 t460).f1) ((rd_T39 l0 t460).f2) ((rd_T39 l0 t460).f3) ((rd_T39 l0 t460).f4) t501 t502 t503 t504 t505 t506 t507 t508 t509 t510 = some r) ∧ Aside0 (kq ≤ kj19) ∧ Aside0 (Kd.S (Kd.slice 3 (Kd.int .i64)) 32 wc w.heap.size (fun _ => True) v498 t497) ∧ Aside0 (wc.heap[gb456]? = some (.cells #[.int .i64 a1_0, .int .i64 a1_1, .int .i64 a1_2, .int .i64 a1_3, .int .i64 a1_4, .int .i64 a1_5, .int .i64 a1_6, .int .i64 a1_7, .int .i64 a1_8, .bool a1_9] 24 (0, 0))) ∧ Aside0 (wc.heap[gb470]? = some (.cells #[.int .i64 t460, .int .i64 t461, .int .i64 t462, .int .i64 t463, .int .i64 t464, .int .i64 t465, .int .i64 t466, .int .i64 t467, .int .i64 t468, .bool t469] 24 (0, 0))) ∧ Aside0 (wc.heap[gb472]? = some (.cells #[(.slice A471_0 ((rd_T39 l0 t460).f0).length c471_0), (.slice A471_1 ((rd_T39 l0 t460).f1).length c471_1), .int .i64 ((rd_T39 l0 t460).f2), .int .i64 ((rd_T39 l0 t460).f3), .int .i64 ((rd_T39 l0 t460).f4)] 39 (0, 0))) ∧ Aside0 (wc.heap[gb486]? = some (.cells #[.int .i64 t473, .int .i64 t474, .int .i64 t475, .int .i64 t476, .int .i64 t477, .int .i64 t478, .int .i64 t479, .int .i64 t480, .int .i64 t481, .bool t482] 24 (0, 0))) ∧ Aside0 (wc.heap[gb500]? = some (.cells #[.int .i64 t487, .int .i64 t488, .int .i64 t489, .int .i64 t490, .int .i64 t491, .int .i64 t492, .int .i64 t493, .int .i64 t494, .int .i64 t495, .bool t496] 24 (0, 0))) ∧ Aside0 (wc.heap[gb511]? = some (.cells #[.int .i64 t501, .int .i64 t502, .int .i64 t503, .int .i64 t504, .int .i64 t505, .int .i64 t506, .int .i64 t507, .int .i64 t508, .int .i64 t509, .bool t510] 24 (0, 0))) ∧ Aside0 (Below w.heap.size w wc))
         case first =>
          have H := HC42.out
          clear HC42
          by_cases c72 : (t483.length : Int) = (wrap64 (((rd_T39 l0 t460).f2) - 1))
          ·
           rw [if_pos c72] at H
           have c72b0 : ((t483.length : Int) == (wrap64 (((rd_T39 l0 t460).f2) - 1))) = true := beq_iff_eq.mpr c72
           have c72b1 : ((t483.length : Int) != (wrap64 (((rd_T39 l0 t460).f2) - 1))) = false := bne_eq_false_iff_eq.mpr c72
           clear c72
           (first | rw [c72b0] | (simp only [i64_w, i32_w]; rw [c72b0]) | skip)
           by_cases c73 : (t497.length : Int) = ((rd_T39 l0 t460).f3)
           ·
            rw [if_pos c73] at H
            have c73b0 : ((t497.length : Int) == ((rd_T39 l0 t460).f3)) = true := beq_iff_eq.mpr c73
            have c73b1 : ((t497.length : Int) != ((rd_T39 l0 t460).f3)) = false := bne_eq_false_iff_eq.mpr c73
            clear c73
            by_cases c74 : t476 = 1
            ·
             rw [if_pos c74] at H
             have c74b0 : (t476 == 1) = true := beq_iff_eq.mpr c74
             have c74b1 : (t476 != 1) = false := bne_eq_false_iff_eq.mpr c74
             clear c74
             have H' := Aside0.mk H
             clear H
             obtain ⟨Ao75, co75, eo75⟩ := Kd.S_slice HO485.out
             subst eo75
             have hnb76 := NB472_456.out
             have hnc76 := NB456_472.out
             have hnb77 := NB472_470.out
             have hnc77 := NB470_472.out
             have hnb78 := NB472_486.out
             have hnc78 := NB486_472.out
             have hnb79 := NB472_500.out
             have hnc79 := NB500_472.out
             have hnb80 := NB472_511.out
             have hnc80 := NB511_472.out
             have hcz81_0 : w65.cell? ⟨gb472, 0, none⟩ = some (.slice A471_0 ((rd_T39 l0 t460).f0).length c471_0) := (blk_cell BK472.out 0).trans rfl
             have hcz81_1 : w65.cell? ⟨gb472, 1, none⟩ = some (.slice A471_1 ((rd_T39 l0 t460).f1).length c471_1) := (blk_cell BK472.out 1).trans rfl
             have hcz81_2 : w65.cell? ⟨gb472, 2, none⟩ = some (.int .i64 ((rd_T39 l0 t460).f2)) := (blk_cell BK472.out 2).trans rfl
             have hcz81_3 : w65.cell? ⟨gb472, 3, none⟩ = some (.int .i64 ((rd_T39 l0 t460).f3)) := (blk_cell BK472.out 3).trans rfl
             have hcz81_4 : w65.cell? ⟨gb472, 4, none⟩ = some (.int .i64 ((rd_T39 l0 t460).f4)) := (blk_cell BK472.out 4).trans rfl
             have hfz81_0 := blk_frozen BK472.out 0
             have hfz81_1 := blk_frozen BK472.out 1
             have hfz81_2 := blk_frozen BK472.out 2
             have hfz81_3 := blk_frozen BK472.out 3
             have hfz81_4 := blk_frozen BK472.out 4
             obtain ⟨Ao82, co82, eo82⟩ := Kd.S_slice HO499.out
             subst eo82
             have hnb83 := NB486_456.out
             have hnc83 := NB456_486.out
             have hnb84 := NB486_470.out
             have hnc84 := NB470_486.out
             have hnb85 := NB486_500.out
             have hnc85 := NB500_486.out
             have hnb86 := NB486_511.out
             have hnc86 := NB511_486.out
             have hcz87_0 : w65.cell? ⟨gb486, 0, none⟩ = some (.int .i64 t473) := (blk_cell BK486.out 0).trans rfl
             have hcz87_1 : w65.cell? ⟨gb486, 1, none⟩ = some (.int .i64 t474) := (blk_cell BK486.out 1).trans rfl
             have hcz87_2 : w65.cell? ⟨gb486, 2, none⟩ = some (.int .i64 t475) := (blk_cell BK486.out 2).trans rfl
             have hcz87_3 : w65.cell? ⟨gb486, 3, none⟩ = some (.int .i64 t476) := (blk_cell BK486.out 3).trans rfl
             have hcz87_4 : w65.cell? ⟨gb486, 4, none⟩ = some (.int .i64 t477) := (blk_cell BK486.out 4).trans rfl
             have hcz87_5 : w65.cell? ⟨gb486, 5, none⟩ = some (.int .i64 t478) := (blk_cell BK486.out 5).trans rfl
             have hcz87_6 : w65.cell? ⟨gb486, 6, none⟩ = some (.int .i64 t479) := (blk_cell BK486.out 6).trans rfl
             have hcz87_7 : w65.cell? ⟨gb486, 7, none⟩ = some (.int .i64 t480) := (blk_cell BK486.out 7).trans rfl
             have hcz87_8 : w65.cell? ⟨gb486, 8, none⟩ = some (.int .i64 t481) := (blk_cell BK486.out 8).trans rfl
             have hcz87_9 : w65.cell? ⟨gb486, 9, none⟩ = some (.bool t482) := (blk_cell BK486.out 9).trans rfl
             have hfz87_0 := blk_frozen BK486.out 0
             have hfz87_1 := blk_frozen BK486.out 1
             have hfz87_2 := blk_frozen BK486.out 2
             have hfz87_3 := blk_frozen BK486.out 3
             have hfz87_4 := blk_frozen BK486.out 4
             have hfz87_5 := blk_frozen BK486.out 5
             have hfz87_6 := blk_frozen BK486.out 6
             have hfz87_7 := blk_frozen BK486.out 7
             have hfz87_8 := blk_frozen BK486.out 8
             have hfz87_9 := blk_frozen BK486.out 9
             have hnb88 := NB500_456.out
             have hnc88 := NB456_500.out
             have hnb89 := NB500_470.out
             have hnc89 := NB470_500.out
             have hnb90 := NB500_511.out
             have hnc90 := NB511_500.out
             have hcz91_0 : w65.cell? ⟨gb500, 0, none⟩ = some (.int .i64 t487) := (blk_cell BK500.out 0).trans rfl
             have hcz91_1 : w65.cell? ⟨gb500, 1, none⟩ = some (.int .i64 t488) := (blk_cell BK500.out 1).trans rfl
             have hcz91_2 : w65.cell? ⟨gb500, 2, none⟩ = some (.int .i64 t489) := (blk_cell BK500.out 2).trans rfl
             have hcz91_3 : w65.cell? ⟨gb500, 3, none⟩ = some (.int .i64 t490) := (blk_cell BK500.out 3).trans rfl
             have hcz91_4 : w65.cell? ⟨gb500, 4, none⟩ = some (.int .i64 t491) := (blk_cell BK500.out 4).trans rfl
             have hcz91_5 : w65.cell? ⟨gb500, 5, none⟩ = some (.int .i64 t492) := (blk_cell BK500.out 5).trans rfl
             have hcz91_6 : w65.cell? ⟨gb500, 6, none⟩ = some (.int .i64 t493) := (blk_cell BK500.out 6).trans rfl
             have hcz91_7 : w65.cell? ⟨gb500, 7, none⟩ = some (.int .i64 t494) := (blk_cell BK500.out 7).trans rfl
             have hcz91_8 : w65.cell? ⟨gb500, 8, none⟩ = some (.int .i64 t495) := (blk_cell BK500.out 8).trans rfl
             have hcz91_9 : w65.cell? ⟨gb500, 9, none⟩ = some (.bool t496) := (blk_cell BK500.out 9).trans rfl
             have hfz91_0 := blk_frozen BK500.out 0
             have hfz91_1 := blk_frozen BK500.out 1
             have hfz91_2 := blk_frozen BK500.out 2
             have hfz91_3 := blk_frozen BK500.out 3
             have hfz91_4 := blk_frozen BK500.out 4
             have hfz91_5 := blk_frozen BK500.out 5
             have hfz91_6 := blk_frozen BK500.out 6
             have hfz91_7 := blk_frozen BK500.out 7
             have hfz91_8 := blk_frozen BK500.out 8
             have hfz91_9 := blk_frozen BK500.out 9
             go_wp2
             go_meet
             case rel => exact ⟨_, ((t490 != 2)), (by first | rfl | (simp; done) | (simp [*]; done)), H', ⟨by have := HJ4.out; have := HJ19.out; first | omega | exact Nat.le_refl _⟩, ⟨by (with_reducible repeat (first | apply Kd.S_alloc | apply Kd.S_drewN | apply Kd.S_drew)); exact Kd.S_mono (Kd.S_far (p := ⟨gb511, 9, none⟩) (Kd.S_far (p := ⟨gb511, 8, none⟩) (Kd.S_far (p := ⟨gb511, 7, none⟩) (Kd.S_far (p := ⟨gb511, 6, none⟩) (Kd.S_far (p := ⟨gb511, 5, none⟩) (Kd.S_far (p := ⟨gb511, 4, none⟩) (Kd.S_far (p := ⟨gb511, 3, none⟩) (Kd.S_far (p := ⟨gb511, 2, none⟩) (Kd.S_far (p := ⟨gb511, 1, none⟩) (Kd.S_far (p := ⟨gb511, 0, none⟩) (Kd.S_types HO499.out BK511.out (by decide)) (fun _ hk => hk.2) (.int .i64 t501)) (fun _ hk => hk.2) (.int .i64 t502)) (fun _ hk => hk.2) (.int .i64 t503)) (fun _ hk => hk.2) (.int .i64 t504)) (fun _ hk => hk.2) (.int .i64 t505)) (fun _ hk => hk.2) (.int .i64 t506)) (fun _ hk => hk.2) (.int .i64 t507)) (fun _ hk => hk.2) (.int .i64 t508)) (fun _ hk => hk.2) (.int .i64 t509)) (fun _ hk => hk.2) (.bool t510)) (fun _ hk => trivial)⟩, ⟨by (with_reducible repeat (first | refine blk_drewN ?_ _ | refine blk_drew ?_ | refine blk_alloc ?_ _)); refine blk_far ?_ NB456_511.out _; (with_reducible repeat (first | refine blk_drewN ?_ _ | refine blk_drew ?_ | refine blk_alloc ?_ _)); refine blk_far ?_ NB456_511.out _; (with_reducible repeat (first | refine blk_drewN ?_ _ | refine blk_drew ?_ | refine blk_alloc ?_ _)); refine blk_far ?_ NB456_511.out _; (with_reducible repeat (first | refine blk_drewN ?_ _ | refine blk_drew ?_ | refine blk_alloc ?_ _)); refine blk_far ?_ NB456_511.out _; (with_reducible repeat (first | refine blk_drewN ?_ _ | refine blk_drew ?_ | refine blk_alloc ?_ _)); refine blk_far ?_ NB456_511.out _; (with_reducible repeat (first | refine blk_drewN ?_ _ | refine blk_drew ?_ | refine blk_alloc ?_ _)); refine blk_far ?_ NB456_511.out _; (with_reducible repeat (first | refine blk_drewN ?_ _ | refine blk_drew ?_ | refine blk_alloc ?_ _)); refine blk_far ?_ NB456_511.out _; (with_reducible repeat (first | refine blk_drewN ?_ _ | refine blk_drew ?_ | refine blk_alloc ?_ _)); refine blk_far ?_ NB456_511.out _; (with_reducible repeat (first | refine blk_drewN ?_ _ | refine blk_drew ?_ | refine blk_alloc ?_ _)); refine blk_far ?_ NB456_511.out _; (with_reducible repeat (first | refine blk_drewN ?_ _ | refine blk_drew ?_ | refine blk_alloc ?_ _)); refine blk_far ?_ NB456_511.out _; (with_reducible repeat (first | refine blk_drewN ?_ _ | refine blk_drew ?_ | refine blk_alloc ?_ _)); exact BK456.out⟩, ⟨by (with_reducible repeat (first | refine blk_drewN ?_ _ | refine blk_drew ?_ | refine blk_alloc ?_ _)); refine blk_far ?_ NB470_511.out _; (with_reducible repeat (first | refine blk_drewN ?_ _ | refine blk_drew ?_ | refine blk_alloc ?_ _)); refine blk_far ?_ NB470_511.out _; (with_reducible repeat (first | refine blk_drewN ?_ _ | refine blk_drew ?_ | refine blk_alloc ?_ _)); refine blk_far ?_ NB470_511.out _; (with_reducible repeat (first | refine blk_drewN ?_ _ | refine blk_drew ?_ | refine blk_alloc ?_ _)); refine blk_far ?_ NB470_511.out _; (with_reducible repeat (first | refine blk_drewN ?_ _ | refine blk_drew ?_ | refine blk_alloc ?_ _)); refine blk_far ?_ NB470_511.out _; (with_reducible repeat (first | refine blk_drewN ?_ _ | refine blk_drew ?_ | refine blk_alloc ?_ _)); refine blk_far ?_ NB470_511.out _; (with_reducible repeat (first | refine blk_drewN ?_ _ | refine blk_drew ?_ | refine blk_alloc ?_ _)); refine blk_far ?_ NB470_511.out _; (with_reducible repeat (first | refine blk_drewN ?_ _ | refine blk_drew ?_ | refine blk_alloc ?_ _)); refine blk_far ?_ NB470_511.out _; (with_reducible repeat (first | refine blk_drewN ?_ _ | refine blk_drew ?_ | refine blk_alloc ?_ _)); refine blk_far ?_ NB470_511.out _; (with_reducible repeat (first | refine blk_drewN ?_ _ | refine blk_drew ?_ | refine blk_alloc ?_ _)); refine blk_far ?_ NB470_511.out _; (with_reducible repeat (first | refine blk_drewN ?_ _ | refine blk_drew ?_ | refine blk_alloc ?_ _)); exact BK470.out⟩, ⟨by (with_reducible repeat (first | refine blk_drewN ?_ _ | refine blk_drew ?_ | refine blk_alloc ?_ _)); refine blk_far ?_ NB472_511.out _; (with_reducible repeat (first | refine blk_drewN ?_ _ | refine blk_drew ?_ | refine blk_alloc ?_ _)); refine blk_far ?_ NB472_511.out _; (with_reducible repeat (first | refine blk_drewN ?_ _ | refine blk_drew ?_ | refine blk_alloc ?_ _)); refine blk_far ?_ NB472_511.out _; (with_reducible repeat (first | refine blk_drewN ?_ _ | refine blk_drew ?_ | refine blk_alloc ?_ _)); refine blk_far ?_ NB472_511.out _; (with_reducible repeat (first | refine blk_drewN ?_ _ | refine blk_drew ?_ | refine blk_alloc ?_ _)); refine blk_far ?_ NB472_511.out _; (with_reducible repeat (first | refine blk_drewN ?_ _ | refine blk_drew ?_ | refine blk_alloc ?_ _)); refine blk_far ?_ NB472_511.out _; (with_reducible repeat (first | refine blk_drewN ?_ _ | refine blk_drew ?_ | refine blk_alloc ?_ _)); refine blk_far ?_ NB472_511.out _; (with_reducible repeat (first | refine blk_drewN ?_ _ | refine blk_drew ?_ | refine blk_alloc ?_ _)); refine blk_far ?_ NB472_511.out _; (with_reducible repeat (first | refine blk_drewN ?_ _ | refine blk_drew ?_ | refine blk_alloc ?_ _)); refine blk_far ?_ NB472_511.out _; (with_reducible repeat (first | refine blk_drewN ?_ _ | refine blk_drew ?_ | refine blk_alloc ?_ _)); refine blk_far ?_ NB472_511.out _; (with_reducible repeat (first | refine blk_drewN ?_ _ | refine blk_drew ?_ | refine blk_alloc ?_ _)); exact BK472.out⟩, ⟨by (with_reducible repeat (first | refine blk_drewN ?_ _ | refine blk_drew ?_ | refine blk_alloc ?_ _)); refine blk_far ?_ NB486_511.out _; (with_reducible repeat (first | refine blk_drewN ?_ _ | refine blk_drew ?_ | refine blk_alloc ?_ _)); refine blk_far ?_ NB486_511.out _; (with_reducible repeat (first | refine blk_drewN ?_ _ | refine blk_drew ?_ | refine blk_alloc ?_ _)); refine blk_far ?_ NB486_511.out _; (with_reducible repeat (first | refine blk_drewN ?_ _ | refine blk_drew ?_ | refine blk_alloc ?_ _)); refine blk_far ?_ NB486_511.out _; (with_reducible repeat (first | refine blk_drewN ?_ _ | refine blk_drew ?_ | refine blk_alloc ?_ _)); refine blk_far ?_ NB486_511.out _; (with_reducible repeat (first | refine blk_drewN ?_ _ | refine blk_drew ?_ | refine blk_alloc ?_ _)); refine blk_far ?_ NB486_511.out _; (with_reducible repeat (first | refine blk_drewN ?_ _ | refine blk_drew ?_ | refine blk_alloc ?_ _)); refine blk_far ?_ NB486_511.out _; (with_reducible repeat (first | refine blk_drewN ?_ _ | refine blk_drew ?_ | refine blk_alloc ?_ _)); refine blk_far ?_ NB486_511.out _; (with_reducible repeat (first | refine blk_drewN ?_ _ | refine blk_drew ?_ | refine blk_alloc ?_ _)); refine blk_far ?_ NB486_511.out _; (with_reducible repeat (first | refine blk_drewN ?_ _ | refine blk_drew ?_ | refine blk_alloc ?_ _)); refine blk_far ?_ NB486_511.out _; (with_reducible repeat (first | refine blk_drewN ?_ _ | refine blk_drew ?_ | refine blk_alloc ?_ _)); exact BK486.out⟩, ⟨by (with_reducible repeat (first | refine blk_drewN ?_ _ | refine blk_drew ?_ | refine blk_alloc ?_ _)); refine blk_far ?_ NB500_511.out _; (with_reducible repeat (first | refine blk_drewN ?_ _ | refine blk_drew ?_ | refine blk_alloc ?_ _)); refine blk_far ?_ NB500_511.out _; (with_reducible repeat (first | refine blk_drewN ?_ _ | refine blk_drew ?_ | refine blk_alloc ?_ _)); refine blk_far ?_ NB500_511.out _; (with_reducible repeat (first | refine blk_drewN ?_ _ | refine blk_drew ?_ | refine blk_alloc ?_ _)); refine blk_far ?_ NB500_511.out _; (with_reducible repeat (first | refine blk_drewN ?_ _ | refine blk_drew ?_ | refine blk_alloc ?_ _)); refine blk_far ?_ NB500_511.out _; (with_reducible repeat (first | refine blk_drewN ?_ _ | refine blk_drew ?_ | refine blk_alloc ?_ _)); refine blk_far ?_ NB500_511.out _; (with_reducible repeat (first | refine blk_drewN ?_ _ | refine blk_drew ?_ | refine blk_alloc ?_ _)); refine blk_far ?_ NB500_511.out _; (with_reducible repeat (first | refine blk_drewN ?_ _ | refine blk_drew ?_ | refine blk_alloc ?_ _)); refine blk_far ?_ NB500_511.out _; (with_reducible repeat (first | refine blk_drewN ?_ _ | refine blk_drew ?_ | refine blk_alloc ?_ _)); refine blk_far ?_ NB500_511.out _; (with_reducible repeat (first | refine blk_drewN ?_ _ | refine blk_drew ?_ | refine blk_alloc ?_ _)); refine blk_far ?_ NB500_511.out _; (with_reducible repeat (first | refine blk_drewN ?_ _ | refine blk_drew ?_ | refine blk_alloc ?_ _)); exact BK500.out⟩, ⟨by (with_reducible repeat (first | refine blk_drewN ?_ _ | refine blk_drew ?_ | refine blk_alloc ?_ _)); refine blk_put (cs := #[.int .i64 t501, .int .i64 t502, .int .i64 t503, .int .i64 t504, .int .i64 t505, .int .i64 t506, .int .i64 t507, .int .i64 t508, .int .i64 t509, .bool false]) ?_ 9 _ rfl; (with_reducible repeat (first | refine blk_drewN ?_ _ | refine blk_drew ?_ | refine blk_alloc ?_ _)); refine blk_put (cs := #[.int .i64 t501, .int .i64 t502, .int .i64 t503, .int .i64 t504, .int .i64 t505, .int .i64 t506, .int .i64 t507, .int .i64 t508, .int .i64 0, .bool false]) ?_ 8 _ rfl; (with_reducible repeat (first | refine blk_drewN ?_ _ | refine blk_drew ?_ | refine blk_alloc ?_ _)); refine blk_put (cs := #[.int .i64 t501, .int .i64 t502, .int .i64 t503, .int .i64 t504, .int .i64 t505, .int .i64 t506, .int .i64 t507, .int .i64 0, .int .i64 0, .bool false]) ?_ 7 _ rfl; (with_reducible repeat (first | refine blk_drewN ?_ _ | refine blk_drew ?_ | refine blk_alloc ?_ _)); refine blk_put (cs := #[.int .i64 t501, .int .i64 t502, .int .i64 t503, .int .i64 t504, .int .i64 t505, .int .i64 t506, .int .i64 0, .int .i64 0, .int .i64 0, .bool false]) ?_ 6 _ rfl; (with_reducible repeat (first | refine blk_drewN ?_ _ | refine blk_drew ?_ | refine blk_alloc ?_ _)); refine blk_put (cs := #[.int .i64 t501, .int .i64 t502, .int .i64 t503, .int .i64 t504, .int .i64 t505, .int .i64 0, .int .i64 0, .int .i64 0, .int .i64 0, .bool false]) ?_ 5 _ rfl; (with_reducible repeat (first | refine blk_drewN ?_ _ | refine blk_drew ?_ | refine blk_alloc ?_ _)); refine blk_put (cs := #[.int .i64 t501, .int .i64 t502, .int .i64 t503, .int .i64 t504, .int .i64 0, .int .i64 0, .int .i64 0, .int .i64 0, .int .i64 0, .bool false]) ?_ 4 _ rfl; (with_reducible repeat (first | refine blk_drewN ?_ _ | refine blk_drew ?_ | refine blk_alloc ?_ _)); refine blk_put (cs := #[.int .i64 t501, .int .i64 t502, .int .i64 t503, .int .i64 0, .int .i64 0, .int .i64 0, .int .i64 0, .int .i64 0, .int .i64 0, .bool false]) ?_ 3 _ rfl; (with_reducible repeat (first | refine blk_drewN ?_ _ | refine blk_drew ?_ | refine blk_alloc ?_ _)); refine blk_put (cs := #[.int .i64 t501, .int .i64 t502, .int .i64 0, .int .i64 0, .int .i64 0, .int .i64 0, .int .i64 0, .int .i64 0, .int .i64 0, .bool false]) ?_ 2 _ rfl; (with_reducible repeat (first | refine blk_drewN ?_ _ | refine blk_drew ?_ | refine blk_alloc ?_ _)); refine blk_put (cs := #[.int .i64 t501, .int .i64 0, .int .i64 0, .int .i64 0, .int .i64 0, .int .i64 0, .int .i64 0, .int .i64 0, .int .i64 0, .bool false]) ?_ 1 _ rfl; (with_reducible repeat (first | refine blk_drewN ?_ _ | refine blk_drew ?_ | refine blk_alloc ?_ _)); refine blk_put (cs := #[.int .i64 0, .int .i64 0, .int .i64 0, .int .i64 0, .int .i64 0, .int .i64 0, .int .i64 0, .int .i64 0, .int .i64 0, .bool false]) ?_ 0 _ rfl; (with_reducible repeat (first | refine blk_drewN ?_ _ | refine blk_drew ?_ | refine blk_alloc ?_ _)); exact BK511.out⟩, ⟨by repeat (first | (with_reducible first | exact HB.out | apply below_alloc | apply pw_below_drewN | apply below_drew1 | refine below_set ?_ GE456.out | refine below_set ?_ GE470.out | refine below_set ?_ GE472.out | refine below_set ?_ GE486.out | refine below_set ?_ GE500.out | refine below_set ?_ GE511.out) | exact HB.out)⟩⟩
            ·
             rw [if_neg c74] at H
             have c74b0 : (t476 == 1) = false := beq_eq_false_iff_ne.mpr c74
             have c74b1 : (t476 != 1) = true := bne_iff_ne.mpr c74
             have H' := Aside0.mk H
             clear H
             obtain ⟨Ao92, co92, eo92⟩ := Kd.S_slice HO485.out
             subst eo92
             have hnb93 := NB472_456.out
             have hnc93 := NB456_472.out
             have hnb94 := NB472_470.out
             have hnc94 := NB470_472.out
             have hnb95 := NB472_486.out
             have hnc95 := NB486_472.out
             have hnb96 := NB472_500.out
             have hnc96 := NB500_472.out
             have hnb97 := NB472_511.out
             have hnc97 := NB511_472.out
             have hcz98_0 : w65.cell? ⟨gb472, 0, none⟩ = some (.slice A471_0 ((rd_T39 l0 t460).f0).length c471_0) := (blk_cell BK472.out 0).trans rfl
             have hcz98_1 : w65.cell? ⟨gb472, 1, none⟩ = some (.slice A471_1 ((rd_T39 l0 t460).f1).length c471_1) := (blk_cell BK472.out 1).trans rfl
             have hcz98_2 : w65.cell? ⟨gb472, 2, none⟩ = some (.int .i64 ((rd_T39 l0 t460).f2)) := (blk_cell BK472.out 2).trans rfl
             have hcz98_3 : w65.cell? ⟨gb472, 3, none⟩ = some (.int .i64 ((rd_T39 l0 t460).f3)) := (blk_cell BK472.out 3).trans rfl
             have hcz98_4 : w65.cell? ⟨gb472, 4, none⟩ = some (.int .i64 ((rd_T39 l0 t460).f4)) := (blk_cell BK472.out 4).trans rfl
             have hfz98_0 := blk_frozen BK472.out 0
             have hfz98_1 := blk_frozen BK472.out 1
             have hfz98_2 := blk_frozen BK472.out 2
             have hfz98_3 := blk_frozen BK472.out 3
             have hfz98_4 := blk_frozen BK472.out 4
             obtain ⟨Ao99, co99, eo99⟩ := Kd.S_slice HO499.out
             subst eo99
             have hnb100 := NB486_456.out
             have hnc100 := NB456_486.out
             have hnb101 := NB486_470.out
             have hnc101 := NB470_486.out
             have hnb102 := NB486_500.out
             have hnc102 := NB500_486.out
             have hnb103 := NB486_511.out
             have hnc103 := NB511_486.out
             have hcz104_0 : w65.cell? ⟨gb486, 0, none⟩ = some (.int .i64 t473) := (blk_cell BK486.out 0).trans rfl
             have hcz104_1 : w65.cell? ⟨gb486, 1, none⟩ = some (.int .i64 t474) := (blk_cell BK486.out 1).trans rfl
             have hcz104_2 : w65.cell? ⟨gb486, 2, none⟩ = some (.int .i64 t475) := (blk_cell BK486.out 2).trans rfl
             have hcz104_3 : w65.cell? ⟨gb486, 3, none⟩ = some (.int .i64 t476) := (blk_cell BK486.out 3).trans rfl
             have hcz104_4 : w65.cell? ⟨gb486, 4, none⟩ = some (.int .i64 t477) := (blk_cell BK486.out 4).trans rfl
             have hcz104_5 : w65.cell? ⟨gb486, 5, none⟩ = some (.int .i64 t478) := (blk_cell BK486.out 5).trans rfl
             have hcz104_6 : w65.cell? ⟨gb486, 6, none⟩ = some (.int .i64 t479) := (blk_cell BK486.out 6).trans rfl
             have hcz104_7 : w65.cell? ⟨gb486, 7, none⟩ = some (.int .i64 t480) := (blk_cell BK486.out 7).trans rfl
             have hcz104_8 : w65.cell? ⟨gb486, 8, none⟩ = some (.int .i64 t481) := (blk_cell BK486.out 8).trans rfl
             have hcz104_9 : w65.cell? ⟨gb486, 9, none⟩ = some (.bool t482) := (blk_cell BK486.out 9).trans rfl
             have hfz104_0 := blk_frozen BK486.out 0
             have hfz104_1 := blk_frozen BK486.out 1
             have hfz104_2 := blk_frozen BK486.out 2
             have hfz104_3 := blk_frozen BK486.out 3
             have hfz104_4 := blk_frozen BK486.out 4
             have hfz104_5 := blk_frozen BK486.out 5
             have hfz104_6 := blk_frozen BK486.out 6
             have hfz104_7 := blk_frozen BK486.out 7
             have hfz104_8 := blk_frozen BK486.out 8
             have hfz104_9 := blk_frozen BK486.out 9
             go_wp2
             go_meet
             case rel => exact ⟨_, (true), (by first | rfl | (simp; done) | (simp [*]; done)), H', ⟨by have := HJ4.out; have := HJ19.out; first | omega | exact Nat.le_refl _⟩, ⟨by (with_reducible repeat (first | apply Kd.S_alloc | apply Kd.S_drewN | apply Kd.S_drew)); exact Kd.S_mono (Kd.S_far (p := ⟨gb511, 9, none⟩) (Kd.S_far (p := ⟨gb511, 8, none⟩) (Kd.S_far (p := ⟨gb511, 7, none⟩) (Kd.S_far (p := ⟨gb511, 6, none⟩) (Kd.S_far (p := ⟨gb511, 5, none⟩) (Kd.S_far (p := ⟨gb511, 4, none⟩) (Kd.S_far (p := ⟨gb511, 3, none⟩) (Kd.S_far (p := ⟨gb511, 2, none⟩) (Kd.S_far (p := ⟨gb511, 1, none⟩) (Kd.S_far (p := ⟨gb511, 0, none⟩) (Kd.S_types HO499.out BK511.out (by decide)) (fun _ hk => hk.2) (.int .i64 t501)) (fun _ hk => hk.2) (.int .i64 t502)) (fun _ hk => hk.2) (.int .i64 t503)) (fun _ hk => hk.2) (.int .i64 t504)) (fun _ hk => hk.2) (.int .i64 t505)) (fun _ hk => hk.2) (.int .i64 t506)) (fun _ hk => hk.2) (.int .i64 t507)) (fun _ hk => hk.2) (.int .i64 t508)) (fun _ hk => hk.2) (.int .i64 t509)) (fun _ hk => hk.2) (.bool t510)) (fun _ hk => trivial)⟩, ⟨by (with_reducible repeat (first | refine blk_drewN ?_ _ | refine blk_drew ?_ | refine blk_alloc ?_ _)); refine blk_far ?_ NB456_511.out _; (with_reducible repeat (first | refine blk_drewN ?_ _ | refine blk_drew ?_ | refine blk_alloc ?_ _)); refine blk_far ?_ NB456_511.out _; (with_reducible repeat (first | refine blk_drewN ?_ _ | refine blk_drew ?_ | refine blk_alloc ?_ _)); refine blk_far ?_ NB456_511.out _; (with_reducible repeat (first | refine blk_drewN ?_ _ | refine blk_drew ?_ | refine blk_alloc ?_ _)); refine blk_far ?_ NB456_511.out _; (with_reducible repeat (first | refine blk_drewN ?_ _ | refine blk_drew ?_ | refine blk_alloc ?_ _)); refine blk_far ?_ NB456_511.out _; (with_reducible repeat (first | refine blk_drewN ?_ _ | refine blk_drew ?_ | refine blk_alloc ?_ _)); refine blk_far ?_ NB456_511.out _; (with_reducible repeat (first | refine blk_drewN ?_ _ | refine blk_drew ?_ | refine blk_alloc ?_ _)); refine blk_far ?_ NB456_511.out _; (with_reducible repeat (first | refine blk_drewN ?_ _ | refine blk_drew ?_ | refine blk_alloc ?_ _)); refine blk_far ?_ NB456_511.out _; (with_reducible repeat (first | refine blk_drewN ?_ _ | refine blk_drew ?_ | refine blk_alloc ?_ _)); refine blk_far ?_ NB456_511.out _; (with_reducible repeat (first | refine blk_drewN ?_ _ | refine blk_drew ?_ | refine blk_alloc ?_ _)); refine blk_far ?_ NB456_511.out _; (with_reducible repeat (first | refine blk_drewN ?_ _ | refine blk_drew ?_ | refine blk_alloc ?_ _)); exact BK456.out⟩, ⟨by (with_reducible repeat (first | refine blk_drewN ?_ _ | refine blk_drew ?_ | refine blk_alloc ?_ _)); refine blk_far ?_ NB470_511.out _; (with_reducible repeat (first | refine blk_drewN ?_ _ | refine blk_drew ?_ | refine blk_alloc ?_ _)); refine blk_far ?_ NB470_511.out _; (with_reducible repeat (first | refine blk_drewN ?_ _ | refine blk_drew ?_ | refine blk_alloc ?_ _)); refine blk_far ?_ NB470_511.out _; (with_reducible repeat (first | refine blk_drewN ?_ _ | refine blk_drew ?_ | refine blk_alloc ?_ _)); refine blk_far ?_ NB470_511.out _; (with_reducible repeat (first | refine blk_drewN ?_ _ | refine blk_drew ?_ | refine blk_alloc ?_ _)); refine blk_far ?_ NB470_511.out _; (with_reducible repeat (first | refine blk_drewN ?_ _ | refine blk_drew ?_ | refine blk_alloc ?_ _)); refine blk_far ?_ NB470_511.out _; (with_reducible repeat (first | refine blk_drewN ?_ _ | refine blk_drew ?_ | refine blk_alloc ?_ _)); refine blk_far ?_ NB470_511.out _; (with_reducible repeat (first | refine blk_drewN ?_ _ | refine blk_drew ?_ | refine blk_alloc ?_ _)); refine blk_far ?_ NB470_511.out _; (with_reducible repeat (first | refine blk_drewN ?_ _ | refine blk_drew ?_ | refine blk_alloc ?_ _)); refine blk_far ?_ NB470_511.out _; (with_reducible repeat (first | refine blk_drewN ?_ _ | refine blk_drew ?_ | refine blk_alloc ?_ _)); refine blk_far ?_ NB470_511.out _; (with_reducible repeat (first | refine blk_drewN ?_ _ | refine blk_drew ?_ | refine blk_alloc ?_ _)); exact BK470.out⟩, ⟨by (with_reducible repeat (first | refine blk_drewN ?_ _ | refine blk_drew ?_ | refine blk_alloc ?_ _)); refine blk_far ?_ NB472_511.out _; (with_reducible repeat (first | refine blk_drewN ?_ _ | refine blk_drew ?_ | refine blk_alloc ?_ _)); refine blk_far ?_ NB472_511.out _; (with_reducible repeat (first | refine blk_drewN ?_ _ | refine blk_drew ?_ | refine blk_alloc ?_ _)); refine blk_far ?_ NB472_511.out _; (with_reducible repeat (first | refine blk_drewN ?_ _ | refine blk_drew ?_ | refine blk_alloc ?_ _)); refine blk_far ?_ NB472_511.out _; (with_reducible repeat (first | refine blk_drewN ?_ _ | refine blk_drew ?_ | refine blk_alloc ?_ _)); refine blk_far ?_ NB472_511.out _; (with_reducible repeat (first | refine blk_drewN ?_ _ | refine blk_drew ?_ | refine blk_alloc ?_ _)); refine blk_far ?_ NB472_511.out _; (with_reducible repeat (first | refine blk_drewN ?_ _ | refine blk_drew ?_ | refine blk_alloc ?_ _)); refine blk_far ?_ NB472_511.out _; (with_reducible repeat (first | refine blk_drewN ?_ _ | refine blk_drew ?_ | refine blk_alloc ?_ _)); refine blk_far ?_ NB472_511.out _; (with_reducible repeat (first | refine blk_drewN ?_ _ | refine blk_drew ?_ | refine blk_alloc ?_ _)); refine blk_far ?_ NB472_511.out _; (with_reducible repeat (first | refine blk_drewN ?_ _ | refine blk_drew ?_ | refine blk_alloc ?_ _)); refine blk_far ?_ NB472_511.out _; (with_reducible repeat (first | refine blk_drewN ?_ _ | refine blk_drew ?_ | refine blk_alloc ?_ _)); exact BK472.out⟩, ⟨by (with_reducible repeat (first | refine blk_drewN ?_ _ | refine blk_drew ?_ | refine blk_alloc ?_ _)); refine blk_far ?_ NB486_511.out _; (with_reducible repeat (first | refine blk_drewN ?_ _ | refine blk_drew ?_ | refine blk_alloc ?_ _)); refine blk_far ?_ NB486_511.out _; (with_reducible repeat (first | refine blk_drewN ?_ _ | refine blk_drew ?_ | refine blk_alloc ?_ _)); refine blk_far ?_ NB486_511.out _; (with_reducible repeat (first | refine blk_drewN ?_ _ | refine blk_drew ?_ | refine blk_alloc ?_ _)); refine blk_far ?_ NB486_511.out _; (with_reducible repeat (first | refine blk_drewN ?_ _ | refine blk_drew ?_ | refine blk_alloc ?_ _)); refine blk_far ?_ NB486_511.out _; (with_reducible repeat (first | refine blk_drewN ?_ _ | refine blk_drew ?_ | refine blk_alloc ?_ _)); refine blk_far ?_ NB486_511.out _; (with_reducible repeat (first | refine blk_drewN ?_ _ | refine blk_drew ?_ | refine blk_alloc ?_ _)); refine blk_far ?_ NB486_511.out _; (with_reducible repeat (first | refine blk_drewN ?_ _ | refine blk_drew ?_ | refine blk_alloc ?_ _)); refine blk_far ?_ NB486_511.out _; (with_reducible repeat (first | refine blk_drewN ?_ _ | refine blk_drew ?_ | refine blk_alloc ?_ _)); refine blk_far ?_ NB486_511.out _; (with_reducible repeat (first | refine blk_drewN ?_ _ | refine blk_drew ?_ | refine blk_alloc ?_ _)); refine blk_far ?_ NB486_511.out _; (with_reducible repeat (first | refine blk_drewN ?_ _ | refine blk_drew ?_ | refine blk_alloc ?_ _)); exact BK486.out⟩, ⟨by (with_reducible repeat (first | refine blk_drewN ?_ _ | refine blk_drew ?_ | refine blk_alloc ?_ _)); refine blk_far ?_ NB500_511.out _; (with_reducible repeat (first | refine blk_drewN ?_ _ | refine blk_drew ?_ | refine blk_alloc ?_ _)); refine blk_far ?_ NB500_511.out _; (with_reducible repeat (first | refine blk_drewN ?_ _ | refine blk_drew ?_ | refine blk_alloc ?_ _)); refine blk_far ?_ NB500_511.out _; (with_reducible repeat (first | refine blk_drewN ?_ _ | refine blk_drew ?_ | refine blk_alloc ?_ _)); refine blk_far ?_ NB500_511.out _; (with_reducible repeat (first | refine blk_drewN ?_ _ | refine blk_drew ?_ | refine blk_alloc ?_ _)); refine blk_far ?_ NB500_511.out _; (with_reducible repeat (first | refine blk_drewN ?_ _ | refine blk_drew ?_ | refine blk_alloc ?_ _)); refine blk_far ?_ NB500_511.out _; (with_reducible repeat (first | refine blk_drewN ?_ _ | refine blk_drew ?_ | refine blk_alloc ?_ _)); refine blk_far ?_ NB500_511.out _; (with_reducible repeat (first | refine blk_drewN ?_ _ | refine blk_drew ?_ | refine blk_alloc ?_ _)); refine blk_far ?_ NB500_511.out _; (with_reducible repeat (first | refine blk_drewN ?_ _ | refine blk_drew ?_ | refine blk_alloc ?_ _)); refine blk_far ?_ NB500_511.out _; (with_reducible repeat (first | refine blk_drewN ?_ _ | refine blk_drew ?_ | refine blk_alloc ?_ _)); refine blk_far ?_ NB500_511.out _; (with_reducible repeat (first | refine blk_drewN ?_ _ | refine blk_drew ?_ | refine blk_alloc ?_ _)); exact BK500.out⟩, ⟨by (with_reducible repeat (first | refine blk_drewN ?_ _ | refine blk_drew ?_ | refine blk_alloc ?_ _)); refine blk_put (cs := #[.int .i64 t501, .int .i64 t502, .int .i64 t503, .int .i64 t504, .int .i64 t505, .int .i64 t506, .int .i64 t507, .int .i64 t508, .int .i64 t509, .bool false]) ?_ 9 _ rfl; (with_reducible repeat (first | refine blk_drewN ?_ _ | refine blk_drew ?_ | refine blk_alloc ?_ _)); refine blk_put (cs := #[.int .i64 t501, .int .i64 t502, .int .i64 t503, .int .i64 t504, .int .i64 t505, .int .i64 t506, .int .i64 t507, .int .i64 t508, .int .i64 0, .bool false]) ?_ 8 _ rfl; (with_reducible repeat (first | refine blk_drewN ?_ _ | refine blk_drew ?_ | refine blk_alloc ?_ _)); refine blk_put (cs := #[.int .i64 t501, .int .i64 t502, .int .i64 t503, .int .i64 t504, .int .i64 t505, .int .i64 t506, .int .i64 t507, .int .i64 0, .int .i64 0, .bool false]) ?_ 7 _ rfl; (with_reducible repeat (first | refine blk_drewN ?_ _ | refine blk_drew ?_ | refine blk_alloc ?_ _)); refine blk_put (cs := #[.int .i64 t501, .int .i64 t502, .int .i64 t503, .int .i64 t504, .int .i64 t505, .int .i64 t506, .int .i64 0, .int .i64 0, .int .i64 0, .bool false]) ?_ 6 _ rfl; (with_reducible repeat (first | refine blk_drewN ?_ _ | refine blk_drew ?_ | refine blk_alloc ?_ _)); refine blk_put (cs := #[.int .i64 t501, .int .i64 t502, .int .i64 t503, .int .i64 t504, .int .i64 t505, .int .i64 0, .int .i64 0, .int .i64 0, .int .i64 0, .bool false]) ?_ 5 _ rfl; (with_reducible repeat (first | refine blk_drewN ?_ _ | refine blk_drew ?_ | refine blk_alloc ?_ _)); refine blk_put (cs := #[.int .i64 t501, .int .i64 t502, .int .i64 t503, .int .i64 t504, .int .i64 0, .int .i64 0, .int .i64 0, .int .i64 0, .int .i64 0, .bool false]) ?_ 4 _ rfl; (with_reducible repeat (first | refine blk_drewN ?_ _ | refine blk_drew ?_ | refine blk_alloc ?_ _)); refine blk_put (cs := #[.int .i64 t501, .int .i64 t502, .int .i64 t503, .int .i64 0, .int .i64 0, .int .i64 0, .int .i64 0, .int .i64 0, .int .i64 0, .bool false]) ?_ 3 _ rfl; (with_reducible repeat (first | refine blk_drewN ?_ _ | refine blk_drew ?_ | refine blk_alloc ?_ _)); refine blk_put (cs := #[.int .i64 t501, .int .i64 t502, .int .i64 0, .int .i64 0, .int .i64 0, .int .i64 0, .int .i64 0, .int .i64 0, .int .i64 0, .bool false]) ?_ 2 _ rfl; (with_reducible repeat (first | refine blk_drewN ?_ _ | refine blk_drew ?_ | refine blk_alloc ?_ _)); refine blk_put (cs := #[.int .i64 t501, .int .i64 0, .int .i64 0, .int .i64 0, .int .i64 0, .int .i64 0, .int .i64 0, .int .i64 0, .int .i64 0, .bool false]) ?_ 1 _ rfl; (with_reducible repeat (first | refine blk_drewN ?_ _ | refine blk_drew ?_ | refine blk_alloc ?_ _)); refine blk_put (cs := #[.int .i64 0, .int .i64 0, .int .i64 0, .int .i64 0, .int .i64 0, .int .i64 0, .int .i64 0, .int .i64 0, .int .i64 0, .bool false]) ?_ 0 _ rfl; (with_reducible repeat (first | refine blk_drewN ?_ _ | refine blk_drew ?_ | refine blk_alloc ?_ _)); exact BK511.out⟩, ⟨by repeat (first | (with_reducible first | exact HB.out | apply below_alloc | apply pw_below_drewN | apply below_drew1 | refine below_set ?_ GE456.out | refine below_set ?_ GE470.out | refine below_set ?_ GE472.out | refine below_set ?_ GE486.out | refine below_set ?_ GE500.out | refine below_set ?_ GE511.out) | exact HB.out)⟩⟩
           ·
            rw [if_neg c73] at H
            have c73b0 : ((t497.length : Int) == ((rd_T39 l0 t460).f3)) = false := beq_eq_false_iff_ne.mpr c73
            have c73b1 : ((t497.length : Int) != ((rd_T39 l0 t460).f3)) = true := bne_iff_ne.mpr c73
            have H' := Aside0.mk H
            clear H
            obtain ⟨Ao105, co105, eo105⟩ := Kd.S_slice HO485.out
            subst eo105
            have hnb106 := NB472_456.out
            have hnc106 := NB456_472.out
            have hnb107 := NB472_470.out
            have hnc107 := NB470_472.out
            have hnb108 := NB472_486.out
            have hnc108 := NB486_472.out
            have hnb109 := NB472_500.out
            have hnc109 := NB500_472.out
            have hnb110 := NB472_511.out
            have hnc110 := NB511_472.out
            have hcz111_0 : w65.cell? ⟨gb472, 0, none⟩ = some (.slice A471_0 ((rd_T39 l0 t460).f0).length c471_0) := (blk_cell BK472.out 0).trans rfl
            have hcz111_1 : w65.cell? ⟨gb472, 1, none⟩ = some (.slice A471_1 ((rd_T39 l0 t460).f1).length c471_1) := (blk_cell BK472.out 1).trans rfl
            have hcz111_2 : w65.cell? ⟨gb472, 2, none⟩ = some (.int .i64 ((rd_T39 l0 t460).f2)) := (blk_cell BK472.out 2).trans rfl
            have hcz111_3 : w65.cell? ⟨gb472, 3, none⟩ = some (.int .i64 ((rd_T39 l0 t460).f3)) := (blk_cell BK472.out 3).trans rfl
            have hcz111_4 : w65.cell? ⟨gb472, 4, none⟩ = some (.int .i64 ((rd_T39 l0 t460).f4)) := (blk_cell BK472.out 4).trans rfl
            have hfz111_0 := blk_frozen BK472.out 0
            have hfz111_1 := blk_frozen BK472.out 1
            have hfz111_2 := blk_frozen BK472.out 2
            have hfz111_3 := blk_frozen BK472.out 3
            have hfz111_4 := blk_frozen BK472.out 4
            obtain ⟨Ao112, co112, eo112⟩ := Kd.S_slice HO499.out
            subst eo112
            go_wp2
            go_meet
            case rel => exact ⟨_, (true), (by first | rfl | (simp; done) | (simp [*]; done)), H', ⟨by have := HJ4.out; have := HJ19.out; first | omega | exact Nat.le_refl _⟩, ⟨by (with_reducible repeat (first | apply Kd.S_alloc | apply Kd.S_drewN | apply Kd.S_drew)); exact Kd.S_mono (Kd.S_far (p := ⟨gb511, 9, none⟩) (Kd.S_far (p := ⟨gb511, 8, none⟩) (Kd.S_far (p := ⟨gb511, 7, none⟩) (Kd.S_far (p := ⟨gb511, 6, none⟩) (Kd.S_far (p := ⟨gb511, 5, none⟩) (Kd.S_far (p := ⟨gb511, 4, none⟩) (Kd.S_far (p := ⟨gb511, 3, none⟩) (Kd.S_far (p := ⟨gb511, 2, none⟩) (Kd.S_far (p := ⟨gb511, 1, none⟩) (Kd.S_far (p := ⟨gb511, 0, none⟩) (Kd.S_types HO499.out BK511.out (by decide)) (fun _ hk => hk.2) (.int .i64 t501)) (fun _ hk => hk.2) (.int .i64 t502)) (fun _ hk => hk.2) (.int .i64 t503)) (fun _ hk => hk.2) (.int .i64 t504)) (fun _ hk => hk.2) (.int .i64 t505)) (fun _ hk => hk.2) (.int .i64 t506)) (fun _ hk => hk.2) (.int .i64 t507)) (fun _ hk => hk.2) (.int .i64 t508)) (fun _ hk => hk.2) (.int .i64 t509)) (fun _ hk => hk.2) (.bool t510)) (fun _ hk => trivial)⟩, ⟨by (with_reducible repeat (first | refine blk_drewN ?_ _ | refine blk_drew ?_ | refine blk_alloc ?_ _)); refine blk_far ?_ NB456_511.out _; (with_reducible repeat (first | refine blk_drewN ?_ _ | refine blk_drew ?_ | refine blk_alloc ?_ _)); refine blk_far ?_ NB456_511.out _; (with_reducible repeat (first | refine blk_drewN ?_ _ | refine blk_drew ?_ | refine blk_alloc ?_ _)); refine blk_far ?_ NB456_511.out _; (with_reducible repeat (first | refine blk_drewN ?_ _ | refine blk_drew ?_ | refine blk_alloc ?_ _)); refine blk_far ?_ NB456_511.out _; (with_reducible repeat (first | refine blk_drewN ?_ _ | refine blk_drew ?_ | refine blk_alloc ?_ _)); refine blk_far ?_ NB456_511.out _; (with_reducible repeat (first | refine blk_drewN ?_ _ | refine blk_drew ?_ | refine blk_alloc ?_ _)); refine blk_far ?_ NB456_511.out _; (with_reducible repeat (first | refine blk_drewN ?_ _ | refine blk_drew ?_ | refine blk_alloc ?_ _)); refine blk_far ?_ NB456_511.out _; (with_reducible repeat (first | refine blk_drewN ?_ _ | refine blk_drew ?_ | refine blk_alloc ?_ _)); refine blk_far ?_ NB456_511.out _; (with_reducible repeat (first | refine blk_drewN ?_ _ | refine blk_drew ?_ | refine blk_alloc ?_ _)); refine blk_far ?_ NB456_511.out _; (with_reducible repeat (first | refine blk_drewN ?_ _ | refine blk_drew ?_ | refine blk_alloc ?_ _)); refine blk_far ?_ NB456_511.out _; (with_reducible repeat (first | refine blk_drewN ?_ _ | refine blk_drew ?_ | refine blk_alloc ?_ _)); exact BK456.out⟩, ⟨by (with_reducible repeat (first | refine blk_drewN ?_ _ | refine blk_drew ?_ | refine blk_alloc ?_ _)); refine blk_far ?_ NB470_511.out _; (with_reducible repeat (first | refine blk_drewN ?_ _ | refine blk_drew ?_ | refine blk_alloc ?_ _)); refine blk_far ?_ NB470_511.out _; (with_reducible repeat (first | refine blk_drewN ?_ _ | refine blk_drew ?_ | refine blk_alloc ?_ _)); refine blk_far ?_ NB470_511.out _; (with_reducible repeat (first | refine blk_drewN ?_ _ | refine blk_drew ?_ | refine blk_alloc ?_ _)); refine blk_far ?_ NB470_511.out _; (with_reducible repeat (first | refine blk_drewN ?_ _ | refine blk_drew ?_ | refine blk_alloc ?_ _)); refine blk_far ?_ NB470_511.out _; (with_reducible repeat (first | refine blk_drewN ?_ _ | refine blk_drew ?_ | refine blk_alloc ?_ _)); refine blk_far ?_ NB470_511.out _; (with_reducible repeat (first | refine blk_drewN ?_ _ | refine blk_drew ?_ | refine blk_alloc ?_ _)); refine blk_far ?_ NB470_511.out _; (with_reducible repeat (first | refine blk_drewN ?_ _ | refine blk_drew ?_ | refine blk_alloc ?_ _)); refine blk_far ?_ NB470_511.out _; (with_reducible repeat (first | refine blk_drewN ?_ _ | refine blk_drew ?_ | refine blk_alloc ?_ _)); refine blk_far ?_ NB470_511.out _; (with_reducible repeat (first | refine blk_drewN ?_ _ | refine blk_drew ?_ | refine blk_alloc ?_ _)); refine blk_far ?_ NB470_511.out _; (with_reducible repeat (first | refine blk_drewN ?_ _ | refine blk_drew ?_ | refine blk_alloc ?_ _)); exact BK470.out⟩, ⟨by (with_reducible repeat (first | refine blk_drewN ?_ _ | refine blk_drew ?_ | refine blk_alloc ?_ _)); refine blk_far ?_ NB472_511.out _; (with_reducible repeat (first | refine blk_drewN ?_ _ | refine blk_drew ?_ | refine blk_alloc ?_ _)); refine blk_far ?_ NB472_511.out _; (with_reducible repeat (first | refine blk_drewN ?_ _ | refine blk_drew ?_ | refine blk_alloc ?_ _)); refine blk_far ?_ NB472_511.out _; (with_reducible repeat (first | refine blk_drewN ?_ _ | refine blk_drew ?_ | refine blk_alloc ?_ _)); refine blk_far ?_ NB472_511.out _; (with_reducible repeat (first | refine blk_drewN ?_ _ | refine blk_drew ?_ | refine blk_alloc ?_ _)); refine blk_far ?_ NB472_511.out _; (with_reducible repeat (first | refine blk_drewN ?_ _ | refine blk_drew ?_ | refine blk_alloc ?_ _)); refine blk_far ?_ NB472_511.out _; (with_reducible repeat (first | refine blk_drewN ?_ _ | refine blk_drew ?_ | refine blk_alloc ?_ _)); refine blk_far ?_ NB472_511.out _; (with_reducible repeat (first | refine blk_drewN ?_ _ | refine blk_drew ?_ | refine blk_alloc ?_ _)); refine blk_far ?_ NB472_511.out _; (with_reducible repeat (first | refine blk_drewN ?_ _ | refine blk_drew ?_ | refine blk_alloc ?_ _)); refine blk_far ?_ NB472_511.out _; (with_reducible repeat (first | refine blk_drewN ?_ _ | refine blk_drew ?_ | refine blk_alloc ?_ _)); refine blk_far ?_ NB472_511.out _; (with_reducible repeat (first | refine blk_drewN ?_ _ | refine blk_drew ?_ | refine blk_alloc ?_ _)); exact BK472.out⟩, ⟨by (with_reducible repeat (first | refine blk_drewN ?_ _ | refine blk_drew ?_ | refine blk_alloc ?_ _)); refine blk_far ?_ NB486_511.out _; (with_reducible repeat (first | refine blk_drewN ?_ _ | refine blk_drew ?_ | refine blk_alloc ?_ _)); refine blk_far ?_ NB486_511.out _; (with_reducible repeat (first | refine blk_drewN ?_ _ | refine blk_drew ?_ | refine blk_alloc ?_ _)); refine blk_far ?_ NB486_511.out _; (with_reducible repeat (first | refine blk_drewN ?_ _ | refine blk_drew ?_ | refine blk_alloc ?_ _)); refine blk_far ?_ NB486_511.out _; (with_reducible repeat (first | refine blk_drewN ?_ _ | refine blk_drew ?_ | refine blk_alloc ?_ _)); refine blk_far ?_ NB486_511.out _; (with_reducible repeat (first | refine blk_drewN ?_ _ | refine blk_drew ?_ | refine blk_alloc ?_ _)); refine blk_far ?_ NB486_511.out _; (with_reducible repeat (first | refine blk_drewN ?_ _ | refine blk_drew ?_ | refine blk_alloc ?_ _)); refine blk_far ?_ NB486_511.out _; (with_reducible repeat (first | refine blk_drewN ?_ _ | refine blk_drew ?_ | refine blk_alloc ?_ _)); refine blk_far ?_ NB486_511.out _; (with_reducible repeat (first | refine blk_drewN ?_ _ | refine blk_drew ?_ | refine blk_alloc ?_ _)); refine blk_far ?_ NB486_511.out _; (with_reducible repeat (first | refine blk_drewN ?_ _ | refine blk_drew ?_ | refine blk_alloc ?_ _)); refine blk_far ?_ NB486_511.out _; (with_reducible repeat (first | refine blk_drewN ?_ _ | refine blk_drew ?_ | refine blk_alloc ?_ _)); exact BK486.out⟩, ⟨by (with_reducible repeat (first | refine blk_drewN ?_ _ | refine blk_drew ?_ | refine blk_alloc ?_ _)); refine blk_far ?_ NB500_511.out _; (with_reducible repeat (first | refine blk_drewN ?_ _ | refine blk_drew ?_ | refine blk_alloc ?_ _)); refine blk_far ?_ NB500_511.out _; (with_reducible repeat (first | refine blk_drewN ?_ _ | refine blk_drew ?_ | refine blk_alloc ?_ _)); refine blk_far ?_ NB500_511.out _; (with_reducible repeat (first | refine blk_drewN ?_ _ | refine blk_drew ?_ | refine blk_alloc ?_ _)); refine blk_far ?_ NB500_511.out _; (with_reducible repeat (first | refine blk_drewN ?_ _ | refine blk_drew ?_ | refine blk_alloc ?_ _)); refine blk_far ?_ NB500_511.out _; (with_reducible repeat (first | refine blk_drewN ?_ _ | refine blk_drew ?_ | refine blk_alloc ?_ _)); refine blk_far ?_ NB500_511.out _; (with_reducible repeat (first | refine blk_drewN ?_ _ | refine blk_drew ?_ | refine blk_alloc ?_ _)); refine blk_far ?_ NB500_511.out _; (with_reducible repeat (first | refine blk_drewN ?_ _ | refine blk_drew ?_ | refine blk_alloc ?_ _)); refine blk_far ?_ NB500_511.out _; (with_reducible repeat (first | refine blk_drewN ?_ _ | refine blk_drew ?_ | refine blk_alloc ?_ _)); refine blk_far ?_ NB500_511.out _; (with_reducible repeat (first | refine blk_drewN ?_ _ | refine blk_drew ?_ | refine blk_alloc ?_ _)); refine blk_far ?_ NB500_511.out _; (with_reducible repeat (first | refine blk_drewN ?_ _ | refine blk_drew ?_ | refine blk_alloc ?_ _)); exact BK500.out⟩, ⟨by (with_reducible repeat (first | refine blk_drewN ?_ _ | refine blk_drew ?_ | refine blk_alloc ?_ _)); refine blk_put (cs := #[.int .i64 t501, .int .i64 t502, .int .i64 t503, .int .i64 t504, .int .i64 t505, .int .i64 t506, .int .i64 t507, .int .i64 t508, .int .i64 t509, .bool false]) ?_ 9 _ rfl; (with_reducible repeat (first | refine blk_drewN ?_ _ | refine blk_drew ?_ | refine blk_alloc ?_ _)); refine blk_put (cs := #[.int .i64 t501, .int .i64 t502, .int .i64 t503, .int .i64 t504, .int .i64 t505, .int .i64 t506, .int .i64 t507, .int .i64 t508, .int .i64 0, .bool false]) ?_ 8 _ rfl; (with_reducible repeat (first | refine blk_drewN ?_ _ | refine blk_drew ?_ | refine blk_alloc ?_ _)); refine blk_put (cs := #[.int .i64 t501, .int .i64 t502, .int .i64 t503, .int .i64 t504, .int .i64 t505, .int .i64 t506, .int .i64 t507, .int .i64 0, .int .i64 0, .bool false]) ?_ 7 _ rfl; (with_reducible repeat (first | refine blk_drewN ?_ _ | refine blk_drew ?_ | refine blk_alloc ?_ _)); refine blk_put (cs := #[.int .i64 t501, .int .i64 t502, .int .i64 t503, .int .i64 t504, .int .i64 t505, .int .i64 t506, .int .i64 0, .int .i64 0, .int .i64 0, .bool false]) ?_ 6 _ rfl; (with_reducible repeat (first | refine blk_drewN ?_ _ | refine blk_drew ?_ | refine blk_alloc ?_ _)); refine blk_put (cs := #[.int .i64 t501, .int .i64 t502, .int .i64 t503, .int .i64 t504, .int .i64 t505, .int .i64 0, .int .i64 0, .int .i64 0, .int .i64 0, .bool false]) ?_ 5 _ rfl; (with_reducible repeat (first | refine blk_drewN ?_ _ | refine blk_drew ?_ | refine blk_alloc ?_ _)); refine blk_put (cs := #[.int .i64 t501, .int .i64 t502, .int .i64 t503, .int .i64 t504, .int .i64 0, .int .i64 0, .int .i64 0, .int .i64 0, .int .i64 0, .bool false]) ?_ 4 _ rfl; (with_reducible repeat (first | refine blk_drewN ?_ _ | refine blk_drew ?_ | refine blk_alloc ?_ _)); refine blk_put (cs := #[.int .i64 t501, .int .i64 t502, .int .i64 t503, .int .i64 0, .int .i64 0, .int .i64 0, .int .i64 0, .int .i64 0, .int .i64 0, .bool false]) ?_ 3 _ rfl; (with_reducible repeat (first | refine blk_drewN ?_ _ | refine blk_drew ?_ | refine blk_alloc ?_ _)); refine blk_put (cs := #[.int .i64 t501, .int .i64 t502, .int .i64 0, .int .i64 0, .int .i64 0, .int .i64 0, .int .i64 0, .int .i64 0, .int .i64 0, .bool false]) ?_ 2 _ rfl; (with_reducible repeat (first | refine blk_drewN ?_ _ | refine blk_drew ?_ | refine blk_alloc ?_ _)); refine blk_put (cs := #[.int .i64 t501, .int .i64 0, .int .i64 0, .int .i64 0, .int .i64 0, .int .i64 0, .int .i64 0, .int .i64 0, .int .i64 0, .bool false]) ?_ 1 _ rfl; (with_reducible repeat (first | refine blk_drewN ?_ _ | refine blk_drew ?_ | refine blk_alloc ?_ _)); refine blk_put (cs := #[.int .i64 0, .int .i64 0, .int .i64 0, .int .i64 0, .int .i64 0, .int .i64 0, .int .i64 0, .int .i64 0, .int .i64 0, .bool false]) ?_ 0 _ rfl; (with_reducible repeat (first | refine blk_drewN ?_ _ | refine blk_drew ?_ | refine blk_alloc ?_ _)); exact BK511.out⟩, ⟨by repeat (first | (with_reducible first | exact HB.out | apply below_alloc | apply pw_below_drewN | apply below_drew1 | refine below_set ?_ GE456.out | refine below_set ?_ GE470.out | refine below_set ?_ GE472.out | refine below_set ?_ GE486.out | refine below_set ?_ GE500.out | refine below_set ?_ GE511.out) | exact HB.out)⟩⟩
          ·
           rw [if_neg c72] at H
           have c72b0 : ((t483.length : Int) == (wrap64 (((rd_T39 l0 t460).f2) - 1))) = false := beq_eq_false_iff_ne.mpr c72
           have c72b1 : ((t483.length : Int) != (wrap64 (((rd_T39 l0 t460).f2) - 1))) = true := bne_iff_ne.mpr c72
           (first | rw [c72b0] | (simp only [i64_w, i32_w]; rw [c72b0]) | skip)
           have H' := Aside0.mk H
           clear H
           obtain ⟨Ao113, co113, eo113⟩ := Kd.S_slice HO485.out
           subst eo113
           have hnb114 := NB472_456.out
           have hnc114 := NB456_472.out
           have hnb115 := NB472_470.out
           have hnc115 := NB470_472.out
           have hnb116 := NB472_486.out
           have hnc116 := NB486_472.out
           have hnb117 := NB472_500.out
           have hnc117 := NB500_472.out
           have hnb118 := NB472_511.out
           have hnc118 := NB511_472.out
           have hcz119_0 : w65.cell? ⟨gb472, 0, none⟩ = some (.slice A471_0 ((rd_T39 l0 t460).f0).length c471_0) := (blk_cell BK472.out 0).trans rfl
           have hcz119_1 : w65.cell? ⟨gb472, 1, none⟩ = some (.slice A471_1 ((rd_T39 l0 t460).f1).length c471_1) := (blk_cell BK472.out 1).trans rfl
           have hcz119_2 : w65.cell? ⟨gb472, 2, none⟩ = some (.int .i64 ((rd_T39 l0 t460).f2)) := (blk_cell BK472.out 2).trans rfl
           have hcz119_3 : w65.cell? ⟨gb472, 3, none⟩ = some (.int .i64 ((rd_T39 l0 t460).f3)) := (blk_cell BK472.out 3).trans rfl
           have hcz119_4 : w65.cell? ⟨gb472, 4, none⟩ = some (.int .i64 ((rd_T39 l0 t460).f4)) := (blk_cell BK472.out 4).trans rfl
           have hfz119_0 := blk_frozen BK472.out 0
           have hfz119_1 := blk_frozen BK472.out 1
           have hfz119_2 := blk_frozen BK472.out 2
           have hfz119_3 := blk_frozen BK472.out 3
           have hfz119_4 := blk_frozen BK472.out 4
           go_wp2
           go_meet
           case rel => exact ⟨_, (true), (by first | rfl | (simp; done) | (simp [*]; done)), H', ⟨by have := HJ4.out; have := HJ19.out; first | omega | exact Nat.le_refl _⟩, ⟨by (with_reducible repeat (first | apply Kd.S_alloc | apply Kd.S_drewN | apply Kd.S_drew)); exact Kd.S_mono (Kd.S_far (p := ⟨gb511, 9, none⟩) (Kd.S_far (p := ⟨gb511, 8, none⟩) (Kd.S_far (p := ⟨gb511, 7, none⟩) (Kd.S_far (p := ⟨gb511, 6, none⟩) (Kd.S_far (p := ⟨gb511, 5, none⟩) (Kd.S_far (p := ⟨gb511, 4, none⟩) (Kd.S_far (p := ⟨gb511, 3, none⟩) (Kd.S_far (p := ⟨gb511, 2, none⟩) (Kd.S_far (p := ⟨gb511, 1, none⟩) (Kd.S_far (p := ⟨gb511, 0, none⟩) (Kd.S_types HO499.out BK511.out (by decide)) (fun _ hk => hk.2) (.int .i64 t501)) (fun _ hk => hk.2) (.int .i64 t502)) (fun _ hk => hk.2) (.int .i64 t503)) (fun _ hk => hk.2) (.int .i64 t504)) (fun _ hk => hk.2) (.int .i64 t505)) (fun _ hk => hk.2) (.int .i64 t506)) (fun _ hk => hk.2) (.int .i64 t507)) (fun _ hk => hk.2) (.int .i64 t508)) (fun _ hk => hk.2) (.int .i64 t509)) (fun _ hk => hk.2) (.bool t510)) (fun _ hk => trivial)⟩, ⟨by (with_reducible repeat (first | refine blk_drewN ?_ _ | refine blk_drew ?_ | refine blk_alloc ?_ _)); refine blk_far ?_ NB456_511.out _; (with_reducible repeat (first | refine blk_drewN ?_ _ | refine blk_drew ?_ | refine blk_alloc ?_ _)); refine blk_far ?_ NB456_511.out _; (with_reducible repeat (first | refine blk_drewN ?_ _ | refine blk_drew ?_ | refine blk_alloc ?_ _)); refine blk_far ?_ NB456_511.out _; (with_reducible repeat (first | refine blk_drewN ?_ _ | refine blk_drew ?_ | refine blk_alloc ?_ _)); refine blk_far ?_ NB456_511.out _; (with_reducible repeat (first | refine blk_drewN ?_ _ | refine blk_drew ?_ | refine blk_alloc ?_ _)); refine blk_far ?_ NB456_511.out _; (with_reducible repeat (first | refine blk_drewN ?_ _ | refine blk_drew ?_ | refine blk_alloc ?_ _)); refine blk_far ?_ NB456_511.out _; (with_reducible repeat (first | refine blk_drewN ?_ _ | refine blk_drew ?_ | refine blk_alloc ?_ _)); refine blk_far ?_ NB456_511.out _; (with_reducible repeat (first | refine blk_drewN ?_ _ | refine blk_drew ?_ | refine blk_alloc ?_ _)); refine blk_far ?_ NB456_511.out _; (with_reducible repeat (first | refine blk_drewN ?_ _ | refine blk_drew ?_ | refine blk_alloc ?_ _)); refine blk_far ?_ NB456_511.out _; (with_reducible repeat (first | refine blk_drewN ?_ _ | refine blk_drew ?_ | refine blk_alloc ?_ _)); refine blk_far ?_ NB456_511.out _; (with_reducible repeat (first | refine blk_drewN ?_ _ | refine blk_drew ?_ | refine blk_alloc ?_ _)); exact BK456.out⟩, ⟨by (with_reducible repeat (first | refine blk_drewN ?_ _ | refine blk_drew ?_ | refine blk_alloc ?_ _)); refine blk_far ?_ NB470_511.out _; (with_reducible repeat (first | refine blk_drewN ?_ _ | refine blk_drew ?_ | refine blk_alloc ?_ _)); refine blk_far ?_ NB470_511.out _; (with_reducible repeat (first | refine blk_drewN ?_ _ | refine blk_drew ?_ | refine blk_alloc ?_ _)); refine blk_far ?_ NB470_511.out _; (with_reducible repeat (first | refine blk_drewN ?_ _ | refine blk_drew ?_ | refine blk_alloc ?_ _)); refine blk_far ?_ NB470_511.out _; (with_reducible repeat (first | refine blk_drewN ?_ _ | refine blk_drew ?_ | refine blk_alloc ?_ _)); refine blk_far ?_ NB470_511.out _; (with_reducible repeat (first | refine blk_drewN ?_ _ | refine blk_drew ?_ | refine blk_alloc ?_ _)); refine blk_far ?_ NB470_511.out _; (with_reducible repeat (first | refine blk_drewN ?_ _ | refine blk_drew ?_ | refine blk_alloc ?_ _)); refine blk_far ?_ NB470_511.out _; (with_reducible repeat (first | refine blk_drewN ?_ _ | refine blk_drew ?_ | refine blk_alloc ?_ _)); refine blk_far ?_ NB470_511.out _; (with_reducible repeat (first | refine blk_drewN ?_ _ | refine blk_drew ?_ | refine blk_alloc ?_ _)); refine blk_far ?_ NB470_511.out _; (with_reducible repeat (first | refine blk_drewN ?_ _ | refine blk_drew ?_ | refine blk_alloc ?_ _)); refine blk_far ?_ NB470_511.out _; (with_reducible repeat (first | refine blk_drewN ?_ _ | refine blk_drew ?_ | refine blk_alloc ?_ _)); exact BK470.out⟩, ⟨by (with_reducible repeat (first | refine blk_drewN ?_ _ | refine blk_drew ?_ | refine blk_alloc ?_ _)); refine blk_far ?_ NB472_511.out _; (with_reducible repeat (first | refine blk_drewN ?_ _ | refine blk_drew ?_ | refine blk_alloc ?_ _)); refine blk_far ?_ NB472_511.out _; (with_reducible repeat (first | refine blk_drewN ?_ _ | refine blk_drew ?_ | refine blk_alloc ?_ _)); refine blk_far ?_ NB472_511.out _; (with_reducible repeat (first | refine blk_drewN ?_ _ | refine blk_drew ?_ | refine blk_alloc ?_ _)); refine blk_far ?_ NB472_511.out _; (with_reducible repeat (first | refine blk_drewN ?_ _ | refine blk_drew ?_ | refine blk_alloc ?_ _)); refine blk_far ?_ NB472_511.out _; (with_reducible repeat (first | refine blk_drewN ?_ _ | refine blk_drew ?_ | refine blk_alloc ?_ _)); refine blk_far ?_ NB472_511.out _; (with_reducible repeat (first | refine blk_drewN ?_ _ | refine blk_drew ?_ | refine blk_alloc ?_ _)); refine blk_far ?_ NB472_511.out _; (with_reducible repeat (first | refine blk_drewN ?_ _ | refine blk_drew ?_ | refine blk_alloc ?_ _)); refine blk_far ?_ NB472_511.out _; (with_reducible repeat (first | refine blk_drewN ?_ _ | refine blk_drew ?_ | refine blk_alloc ?_ _)); refine blk_far ?_ NB472_511.out _; (with_reducible repeat (first | refine blk_drewN ?_ _ | refine blk_drew ?_ | refine blk_alloc ?_ _)); refine blk_far ?_ NB472_511.out _; (with_reducible repeat (first | refine blk_drewN ?_ _ | refine blk_drew ?_ | refine blk_alloc ?_ _)); exact BK472.out⟩, ⟨by (with_reducible repeat (first | refine blk_drewN ?_ _ | refine blk_drew ?_ | refine blk_alloc ?_ _)); refine blk_far ?_ NB486_511.out _; (with_reducible repeat (first | refine blk_drewN ?_ _ | refine blk_drew ?_ | refine blk_alloc ?_ _)); refine blk_far ?_ NB486_511.out _; (with_reducible repeat (first | refine blk_drewN ?_ _ | refine blk_drew ?_ | refine blk_alloc ?_ _)); refine blk_far ?_ NB486_511.out _; (with_reducible repeat (first | refine blk_drewN ?_ _ | refine blk_drew ?_ | refine blk_alloc ?_ _)); refine blk_far ?_ NB486_511.out _; (with_reducible repeat (first | refine blk_drewN ?_ _ | refine blk_drew ?_ | refine blk_alloc ?_ _)); refine blk_far ?_ NB486_511.out _; (with_reducible repeat (first | refine blk_drewN ?_ _ | refine blk_drew ?_ | refine blk_alloc ?_ _)); refine blk_far ?_ NB486_511.out _; (with_reducible repeat (first | refine blk_drewN ?_ _ | refine blk_drew ?_ | refine blk_alloc ?_ _)); refine blk_far ?_ NB486_511.out _; (with_reducible repeat (first | refine blk_drewN ?_ _ | refine blk_drew ?_ | refine blk_alloc ?_ _)); refine blk_far ?_ NB486_511.out _; (with_reducible repeat (first | refine blk_drewN ?_ _ | refine blk_drew ?_ | refine blk_alloc ?_ _)); refine blk_far ?_ NB486_511.out _; (with_reducible repeat (first | refine blk_drewN ?_ _ | refine blk_drew ?_ | refine blk_alloc ?_ _)); refine blk_far ?_ NB486_511.out _; (with_reducible repeat (first | refine blk_drewN ?_ _ | refine blk_drew ?_ | refine blk_alloc ?_ _)); exact BK486.out⟩, ⟨by (with_reducible repeat (first | refine blk_drewN ?_ _ | refine blk_drew ?_ | refine blk_alloc ?_ _)); refine blk_far ?_ NB500_511.out _; (with_reducible repeat (first | refine blk_drewN ?_ _ | refine blk_drew ?_ | refine blk_alloc ?_ _)); refine blk_far ?_ NB500_511.out _; (with_reducible repeat (first | refine blk_drewN ?_ _ | refine blk_drew ?_ | refine blk_alloc ?_ _)); refine blk_far ?_ NB500_511.out _; (with_reducible repeat (first | refine blk_drewN ?_ _ | refine blk_drew ?_ | refine blk_alloc ?_ _)); refine blk_far ?_ NB500_511.out _; (with_reducible repeat (first | refine blk_drewN ?_ _ | refine blk_drew ?_ | refine blk_alloc ?_ _)); refine blk_far ?_ NB500_511.out _; (with_reducible repeat (first | refine blk_drewN ?_ _ | refine blk_drew ?_ | refine blk_alloc ?_ _)); refine blk_far ?_ NB500_511.out _; (with_reducible repeat (first | refine blk_drewN ?_ _ | refine blk_drew ?_ | refine blk_alloc ?_ _)); refine blk_far ?_ NB500_511.out _; (with_reducible repeat (first | refine blk_drewN ?_ _ | refine blk_drew ?_ | refine blk_alloc ?_ _)); refine blk_far ?_ NB500_511.out _; (with_reducible repeat (first | refine blk_drewN ?_ _ | refine blk_drew ?_ | refine blk_alloc ?_ _)); refine blk_far ?_ NB500_511.out _; (with_reducible repeat (first | refine blk_drewN ?_ _ | refine blk_drew ?_ | refine blk_alloc ?_ _)); refine blk_far ?_ NB500_511.out _; (with_reducible repeat (first | refine blk_drewN ?_ _ | refine blk_drew ?_ | refine blk_alloc ?_ _)); exact BK500.out⟩, ⟨by (with_reducible repeat (first | refine blk_drewN ?_ _ | refine blk_drew ?_ | refine blk_alloc ?_ _)); refine blk_put (cs := #[.int .i64 t501, .int .i64 t502, .int .i64 t503, .int .i64 t504, .int .i64 t505, .int .i64 t506, .int .i64 t507, .int .i64 t508, .int .i64 t509, .bool false]) ?_ 9 _ rfl; (with_reducible repeat (first | refine blk_drewN ?_ _ | refine blk_drew ?_ | refine blk_alloc ?_ _)); refine blk_put (cs := #[.int .i64 t501, .int .i64 t502, .int .i64 t503, .int .i64 t504, .int .i64 t505, .int .i64 t506, .int .i64 t507, .int .i64 t508, .int .i64 0, .bool false]) ?_ 8 _ rfl; (with_reducible repeat (first | refine blk_drewN ?_ _ | refine blk_drew ?_ | refine blk_alloc ?_ _)); refine blk_put (cs := #[.int .i64 t501, .int .i64 t502, .int .i64 t503, .int .i64 t504, .int .i64 t505, .int .i64 t506, .int .i64 t507, .int .i64 0, .int .i64 0, .bool false]) ?_ 7 _ rfl; (with_reducible repeat (first | refine blk_drewN ?_ _ | refine blk_drew ?_ | refine blk_alloc ?_ _)); refine blk_put (cs := #[.int .i64 t501, .int .i64 t502, .int .i64 t503, .int .i64 t504, .int .i64 t505, .int .i64 t506, .int .i64 0, .int .i64 0, .int .i64 0, .bool false]) ?_ 6 _ rfl; (with_reducible repeat (first | refine blk_drewN ?_ _ | refine blk_drew ?_ | refine blk_alloc ?_ _)); refine blk_put (cs := #[.int .i64 t501, .int .i64 t502, .int .i64 t503, .int .i64 t504, .int .i64 t505, .int .i64 0, .int .i64 0, .int .i64 0, .int .i64 0, .bool false]) ?_ 5 _ rfl; (with_reducible repeat (first | refine blk_drewN ?_ _ | refine blk_drew ?_ | refine blk_alloc ?_ _)); refine blk_put (cs := #[.int .i64 t501, .int .i64 t502, .int .i64 t503, .int .i64 t504, .int .i64 0, .int .i64 0, .int .i64 0, .int .i64 0, .int .i64 0, .bool false]) ?_ 4 _ rfl; (with_reducible repeat (first | refine blk_drewN ?_ _ | refine blk_drew ?_ | refine blk_alloc ?_ _)); refine blk_put (cs := #[.int .i64 t501, .int .i64 t502, .int .i64 t503, .int .i64 0, .int .i64 0, .int .i64 0, .int .i64 0, .int .i64 0, .int .i64 0, .bool false]) ?_ 3 _ rfl; (with_reducible repeat (first | refine blk_drewN ?_ _ | refine blk_drew ?_ | refine blk_alloc ?_ _)); refine blk_put (cs := #[.int .i64 t501, .int .i64 t502, .int .i64 0, .int .i64 0, .int .i64 0, .int .i64 0, .int .i64 0, .int .i64 0, .int .i64 0, .bool false]) ?_ 2 _ rfl; (with_reducible repeat (first | refine blk_drewN ?_ _ | refine blk_drew ?_ | refine blk_alloc ?_ _)); refine blk_put (cs := #[.int .i64 t501, .int .i64 0, .int .i64 0, .int .i64 0, .int .i64 0, .int .i64 0, .int .i64 0, .int .i64 0, .int .i64 0, .bool false]) ?_ 1 _ rfl; (with_reducible repeat (first | refine blk_drewN ?_ _ | refine blk_drew ?_ | refine blk_alloc ?_ _)); refine blk_put (cs := #[.int .i64 0, .int .i64 0, .int .i64 0, .int .i64 0, .int .i64 0, .int .i64 0, .int .i64 0, .int .i64 0, .int .i64 0, .bool false]) ?_ 0 _ rfl; (with_reducible repeat (first | refine blk_drewN ?_ _ | refine blk_drew ?_ | refine blk_alloc ?_ _)); exact BK511.out⟩, ⟨by repeat (first | (with_reducible first | exact HB.out | apply below_alloc | apply pw_below_drewN | apply below_drew1 | refine below_set ?_ GE456.out | refine below_set ?_ GE470.out | refine below_set ?_ GE472.out | refine below_set ?_ GE486.out | refine below_set ?_ GE500.out | refine below_set ?_ GE511.out) | exact HB.out)⟩⟩
         case rest =>
          clear HC42
          try clear c1
          try clear c2
          try clear p2
          try clear c3
          try clear c4
          try clear p4
          try clear q4
          try clear hx4
          try clear c5
          try clear c6
          try clear p6
          try clear c7
          try clear c8
          try clear c9
          try clear c10
          try clear c11
          try clear c12
          try clear c14
          try clear c15
          try clear c17
          try clear c18
          try clear c23
          try clear c24
          try clear c26
          try clear c26b0
          try clear c26b1
          try clear c27
          try clear c29
          try clear c29b0
          try clear c30
          try clear c32
          try clear c34
          try clear c35
          try clear c37
          try clear c37b0
          try clear c38
          try clear c38b0
          try clear c43
          try clear c46
          try clear c47
          try clear p47
          try clear q47
          try clear hx47
          try clear c52
          try clear c53
          try clear c54
          try clear c59
          try clear c60
          try clear c61
          try clear c62
          try clear p64
          try clear c66
          try clear c67
          try clear c68
          try clear c69
          try clear c70
          try clear c72
          try clear c72b0
          try clear c72b1
          try clear c73
          try clear c73b0
          try clear c73b1
          try clear c74
          try clear c74b0
          try clear c74b1
          try clear c76
          try clear c77
          try clear c78
          try clear c79
          try clear c80
          try clear c83
          try clear c84
          try clear c85
          try clear c86
          try clear c88
          try clear c89
          try clear c90
          try clear c93
          try clear c94
          try clear c95
          try clear c96
          try clear c97
          try clear c100
          try clear c101
          try clear c102
          try clear c103
          try clear c106
          try clear c107
          try clear c108
          try clear c109
          try clear c110
          try clear c114
          try clear c115
          try clear c116
          try clear c117
          try clear c118
          try clear hcz104_0
          try clear hcz104_1
          try clear hcz104_2
          try clear hcz104_3
          try clear hcz104_4
          try clear hcz104_5
          try clear hcz104_6
          try clear hcz104_7
          try clear hcz104_8
          try clear hcz104_9
          try clear hcz111_0
          try clear hcz111_1
          try clear hcz111_2
          try clear hcz111_3
          try clear hcz111_4
          try clear hcz119_0
          try clear hcz119_1
          try clear hcz119_2
          try clear hcz119_3
          try clear hcz119_4
          try clear hcz13_0
          try clear hcz13_1
          try clear hcz13_2
          try clear hcz13_3
          try clear hcz13_4
          try clear hcz13_5
          try clear hcz13_6
          try clear hcz13_7
          try clear hcz13_8
          try clear hcz13_9
          try clear hcz15_0
          try clear hcz15_1
          try clear hcz15_2
          try clear hcz15_3
          try clear hcz15_4
          try clear hcz15_5
          try clear hcz15_6
          try clear hcz15_7
          try clear hcz15_8
          try clear hcz15_9
          try clear hcz16_0
          try clear hcz16_1
          try clear hcz16_2
          try clear hcz16_3
          try clear hcz16_4
          try clear hcz16_5
          try clear hcz16_6
          try clear hcz16_7
          try clear hcz16_8
          try clear hcz16_9
          try clear hcz21_0
          try clear hcz21_1
          try clear hcz21_2
          try clear hcz21_3
          try clear hcz21_4
          try clear hcz21_5
          try clear hcz21_6
          try clear hcz21_7
          try clear hcz21_8
          try clear hcz21_9
          try clear hcz25_0
          try clear hcz25_1
          try clear hcz25_2
          try clear hcz25_3
          try clear hcz25_4
          try clear hcz25_5
          try clear hcz25_6
          try clear hcz25_7
          try clear hcz25_8
          try clear hcz25_9
          try clear hcz28_0
          try clear hcz28_1
          try clear hcz28_2
          try clear hcz28_3
          try clear hcz28_4
          try clear hcz28_5
          try clear hcz28_6
          try clear hcz28_7
          try clear hcz28_8
          try clear hcz28_9
          try clear hcz31_0
          try clear hcz31_1
          try clear hcz31_2
          try clear hcz31_3
          try clear hcz31_4
          try clear hcz31_5
          try clear hcz31_6
          try clear hcz31_7
          try clear hcz31_8
          try clear hcz31_9
          try clear hcz33_0
          try clear hcz33_1
          try clear hcz33_2
          try clear hcz33_3
          try clear hcz33_4
          try clear hcz33_5
          try clear hcz33_6
          try clear hcz33_7
          try clear hcz33_8
          try clear hcz33_9
          try clear hcz36_0
          try clear hcz36_1
          try clear hcz36_2
          try clear hcz36_3
          try clear hcz36_4
          try clear hcz36_5
          try clear hcz36_6
          try clear hcz36_7
          try clear hcz36_8
          try clear hcz36_9
          try clear hcz44_0
          try clear hcz44_1
          try clear hcz44_2
          try clear hcz44_3
          try clear hcz44_4
          try clear hcz44_5
          try clear hcz44_6
          try clear hcz44_7
          try clear hcz44_8
          try clear hcz44_9
          try clear hcz48_0
          try clear hcz48_1
          try clear hcz48_2
          try clear hcz48_3
          try clear hcz48_4
          try clear hcz49_0
          try clear hcz49_1
          try clear hcz49_2
          try clear hcz49_3
          try clear hcz49_4
          try clear hcz49_5
          try clear hcz49_6
          try clear hcz49_7
          try clear hcz49_8
          try clear hcz49_9
          try clear hcz55_0
          try clear hcz55_1
          try clear hcz55_2
          try clear hcz55_3
          try clear hcz55_4
          try clear hcz55_5
          try clear hcz55_6
          try clear hcz55_7
          try clear hcz55_8
          try clear hcz55_9
          try clear hcz56_0
          try clear hcz56_1
          try clear hcz56_2
          try clear hcz56_3
          try clear hcz56_4
          try clear hcz63_0
          try clear hcz63_1
          try clear hcz63_2
          try clear hcz63_3
          try clear hcz63_4
          try clear hcz63_5
          try clear hcz63_6
          try clear hcz63_7
          try clear hcz63_8
          try clear hcz63_9
          try clear hcz71_0
          try clear hcz71_1
          try clear hcz71_2
          try clear hcz71_3
          try clear hcz71_4
          try clear hcz71_5
          try clear hcz71_6
          try clear hcz71_7
          try clear hcz71_8
          try clear hcz71_9
          try clear hcz81_0
          try clear hcz81_1
          try clear hcz81_2
          try clear hcz81_3
          try clear hcz81_4
          try clear hcz87_0
          try clear hcz87_1
          try clear hcz87_2
          try clear hcz87_3
          try clear hcz87_4
          try clear hcz87_5
          try clear hcz87_6
          try clear hcz87_7
          try clear hcz87_8
          try clear hcz87_9
          try clear hcz91_0
          try clear hcz91_1
          try clear hcz91_2
          try clear hcz91_3
          try clear hcz91_4
          try clear hcz91_5
          try clear hcz91_6
          try clear hcz91_7
          try clear hcz91_8
          try clear hcz91_9
          try clear hcz98_0
          try clear hcz98_1
          try clear hcz98_2
          try clear hcz98_3
          try clear hcz98_4
          try clear hfz104_0
          try clear hfz104_1
          try clear hfz104_2
          try clear hfz104_3
          try clear hfz104_4
          try clear hfz104_5
          try clear hfz104_6
          try clear hfz104_7
          try clear hfz104_8
          try clear hfz104_9
          try clear hfz111_0
          try clear hfz111_1
          try clear hfz111_2
          try clear hfz111_3
          try clear hfz111_4
          try clear hfz119_0
          try clear hfz119_1
          try clear hfz119_2
          try clear hfz119_3
          try clear hfz119_4
          try clear hfz13_0
          try clear hfz13_1
          try clear hfz13_2
          try clear hfz13_3
          try clear hfz13_4
          try clear hfz13_5
          try clear hfz13_6
          try clear hfz13_7
          try clear hfz13_8
          try clear hfz13_9
          try clear hfz15_0
          try clear hfz15_1
          try clear hfz15_2
          try clear hfz15_3
          try clear hfz15_4
          try clear hfz15_5
          try clear hfz15_6
          try clear hfz15_7
          try clear hfz15_8
          try clear hfz15_9
          try clear hfz16_0
          try clear hfz16_1
          try clear hfz16_2
          try clear hfz16_3
          try clear hfz16_4
          try clear hfz16_5
          try clear hfz16_6
          try clear hfz16_7
          try clear hfz16_8
          try clear hfz16_9
          try clear hfz21_0
          try clear hfz21_1
          try clear hfz21_2
          try clear hfz21_3
          try clear hfz21_4
          try clear hfz21_5
          try clear hfz21_6
          try clear hfz21_7
          try clear hfz21_8
          try clear hfz21_9
          try clear hfz25_0
          try clear hfz25_1
          try clear hfz25_2
          try clear hfz25_3
          try clear hfz25_4
          try clear hfz25_5
          try clear hfz25_6
          try clear hfz25_7
          try clear hfz25_8
          try clear hfz25_9
          try clear hfz28_0
          try clear hfz28_1
          try clear hfz28_2
          try clear hfz28_3
          try clear hfz28_4
          try clear hfz28_5
          try clear hfz28_6
          try clear hfz28_7
          try clear hfz28_8
          try clear hfz28_9
          try clear hfz31_0
          try clear hfz31_1
          try clear hfz31_2
          try clear hfz31_3
          try clear hfz31_4
          try clear hfz31_5
          try clear hfz31_6
          try clear hfz31_7
          try clear hfz31_8
          try clear hfz31_9
          try clear hfz33_0
          try clear hfz33_1
          try clear hfz33_2
          try clear hfz33_3
          try clear hfz33_4
          try clear hfz33_5
          try clear hfz33_6
          try clear hfz33_7
          try clear hfz33_8
          try clear hfz33_9
          try clear hfz36_0
          try clear hfz36_1
          try clear hfz36_2
          try clear hfz36_3
          try clear hfz36_4
          try clear hfz36_5
          try clear hfz36_6
          try clear hfz36_7
          try clear hfz36_8
          try clear hfz36_9
          try clear hfz44_0
          try clear hfz44_1
          try clear hfz44_2
          try clear hfz44_3
          try clear hfz44_4
          try clear hfz44_5
          try clear hfz44_6
          try clear hfz44_7
          try clear hfz44_8
          try clear hfz44_9
          try clear hfz48_0
          try clear hfz48_1
          try clear hfz48_2
          try clear hfz48_3
          try clear hfz48_4
          try clear hfz49_0
          try clear hfz49_1
          try clear hfz49_2
          try clear hfz49_3
          try clear hfz49_4
          try clear hfz49_5
          try clear hfz49_6
          try clear hfz49_7
          try clear hfz49_8
          try clear hfz49_9
          try clear hfz55_0
          try clear hfz55_1
          try clear hfz55_2
          try clear hfz55_3
          try clear hfz55_4
          try clear hfz55_5
          try clear hfz55_6
          try clear hfz55_7
          try clear hfz55_8
          try clear hfz55_9
          try clear hfz56_0
          try clear hfz56_1
          try clear hfz56_2
          try clear hfz56_3
          try clear hfz56_4
          try clear hfz63_0
          try clear hfz63_1
          try clear hfz63_2
          try clear hfz63_3
          try clear hfz63_4
          try clear hfz63_5
          try clear hfz63_6
          try clear hfz63_7
          try clear hfz63_8
          try clear hfz63_9
          try clear hfz71_0
          try clear hfz71_1
          try clear hfz71_2
          try clear hfz71_3
          try clear hfz71_4
          try clear hfz71_5
          try clear hfz71_6
          try clear hfz71_7
          try clear hfz71_8
          try clear hfz71_9
          try clear hfz81_0
          try clear hfz81_1
          try clear hfz81_2
          try clear hfz81_3
          try clear hfz81_4
          try clear hfz87_0
          try clear hfz87_1
          try clear hfz87_2
          try clear hfz87_3
          try clear hfz87_4
          try clear hfz87_5
          try clear hfz87_6
          try clear hfz87_7
          try clear hfz87_8
          try clear hfz87_9
          try clear hfz91_0
          try clear hfz91_1
          try clear hfz91_2
          try clear hfz91_3
          try clear hfz91_4
          try clear hfz91_5
          try clear hfz91_6
          try clear hfz91_7
          try clear hfz91_8
          try clear hfz91_9
          try clear hfz98_0
          try clear hfz98_1
          try clear hfz98_2
          try clear hfz98_3
          try clear hfz98_4
          try clear hx471_0
          try clear hx471_1
          try clear hx471_2
          try clear hx471_3
          try clear hx471_4
          try clear p2
          try clear p471
          try clear q471
          obtain ⟨kq, x105_41, rfl, HA, HJ41, HO_12, BK456, BK470, BK472, BK486, BK500, BK511, HB⟩ := hcut
          cases kq with
          | zero => exact absurd HA.out (by simp [pelicanlaw16_StageBetween.j2])
          | succ kj41 =>
           have H := HA.out
           clear HA
           simp only [pelicanlaw16_StageBetween.j2] at H
           by_cases c120 : x105_41 = true
           ·
            subst c120
            have H1 : (some false) = some r := by rw [if_pos rfl] at H; exact H
            clear H
            have H := H1
            clear H1
            exact absurd (Option.some.inj H) (by rw [HRR.out]; decide)
           ·
            replace c120 := Bool.eq_false_iff.mpr c120
            subst c120
            have H1 : (pelicanlaw16_StageBetween.l0 kj41 t497 0 a1_0 a1_1 a1_2 a1_3 a1_4 a1_5 a1_6 a1_7 a1_8 a1_9 t460 t461 t462 t463 t464 t465 t466 t467 t468 t469 ((rd_T39 l0 t460).f0) ((rd_T39 l0 t460).f1) ((rd_T39 l0 t460).f2) ((rd_T39 l0 t460).f3) ((rd_T39 l0 t460).f4) t501 t502 t503 t504 t505 t506 t507 t508 t509 t510) = some r := by rw [if_neg (show ¬ (false = true) by decide)] at H; exact H
            clear H
            have H := H1
            clear H1
            have H' := Aside0.mk H
            clear H
            go_wp2
            go_loopg [14] kj41 (fun kq v14 w' => ∃ (x14_4 : Int), v14 = .int .i64 x14_4 ∧ Aside0 (pelicanlaw16_StageBetween.l0 kq t497 x14_4 a1_0 a1_1 a1_2 a1_3 a1_4 a1_5 a1_6 a1_7 a1_8 a1_9 t460 t461 t462 t463 t464 t465 t466 t467 t468 t469 ((rd_T39 l0 t460).f0) ((rd_T39 l0 t460).f1) ((rd_T39 l0 t460).f2) ((rd_T39 l0 t460).f3) ((rd_T39 l0 t460).f4) t501 t502 t503 t504 t505 t506 t507 t508 t509 t510 = some r) ∧ Aside0 (kq ≤ kj41) ∧ Aside0 (Kd.S (Kd.slice 3 (Kd.int .i64)) 32 w' w.heap.size (fun _ => True) v498 t497) ∧ Aside0 (w'.heap[gb456]? = some (.cells #[.int .i64 a1_0, .int .i64 a1_1, .int .i64 a1_2, .int .i64 a1_3, .int .i64 a1_4, .int .i64 a1_5, .int .i64 a1_6, .int .i64 a1_7, .int .i64 a1_8, .bool a1_9] 24 (0, 0))) ∧ Aside0 (w'.heap[gb470]? = some (.cells #[.int .i64 t460, .int .i64 t461, .int .i64 t462, .int .i64 t463, .int .i64 t464, .int .i64 t465, .int .i64 t466, .int .i64 t467, .int .i64 t468, .bool t469] 24 (0, 0))) ∧ Aside0 (w'.heap[gb472]? = some (.cells #[(.slice A471_0 ((rd_T39 l0 t460).f0).length c471_0), (.slice A471_1 ((rd_T39 l0 t460).f1).length c471_1), .int .i64 ((rd_T39 l0 t460).f2), .int .i64 ((rd_T39 l0 t460).f3), .int .i64 ((rd_T39 l0 t460).f4)] 39 (0, 0))) ∧ Aside0 (w'.heap[gb486]? = some (.cells #[.int .i64 t473, .int .i64 t474, .int .i64 t475, .int .i64 t476, .int .i64 t477, .int .i64 t478, .int .i64 t479, .int .i64 t480, .int .i64 t481, .bool t482] 24 (0, 0))) ∧ Aside0 (w'.heap[gb500]? = some (.cells #[.int .i64 t487, .int .i64 t488, .int .i64 t489, .int .i64 t490, .int .i64 t491, .int .i64 t492, .int .i64 t493, .int .i64 t494, .int .i64 t495, .bool t496] 24 (0, 0))) ∧ Aside0 (w'.heap[gb511]? = some (.cells #[.int .i64 t501, .int .i64 t502, .int .i64 t503, .int .i64 t504, .int .i64 t505, .int .i64 t506, .int .i64 t507, .int .i64 t508, .int .i64 t509, .bool t510] 24 (0, 0))) ∧ Aside0 (Below w.heap.size w w'))
            case atStart => exact ⟨(0), (by first | rfl | (simp; done) | (simp [*]; done)), H', ⟨Nat.le_refl _⟩, ⟨by (with_reducible repeat (first | apply Kd.S_alloc | apply Kd.S_drewN | apply Kd.S_drew)); exact HO_12.out⟩, ⟨by (with_reducible repeat (first | refine blk_drewN ?_ _ | refine blk_drew ?_ | refine blk_alloc ?_ _)); exact BK456.out⟩, ⟨by (with_reducible repeat (first | refine blk_drewN ?_ _ | refine blk_drew ?_ | refine blk_alloc ?_ _)); exact BK470.out⟩, ⟨by (with_reducible repeat (first | refine blk_drewN ?_ _ | refine blk_drew ?_ | refine blk_alloc ?_ _)); exact BK472.out⟩, ⟨by (with_reducible repeat (first | refine blk_drewN ?_ _ | refine blk_drew ?_ | refine blk_alloc ?_ _)); exact BK486.out⟩, ⟨by (with_reducible repeat (first | refine blk_drewN ?_ _ | refine blk_drew ?_ | refine blk_alloc ?_ _)); exact BK500.out⟩, ⟨by (with_reducible repeat (first | refine blk_drewN ?_ _ | refine blk_drew ?_ | refine blk_alloc ?_ _)); exact BK511.out⟩, ⟨by repeat (first | (with_reducible first | exact HB.out | apply below_alloc | apply pw_below_drewN | apply below_drew1 | refine below_set ?_ GE456.out | refine below_set ?_ GE470.out | refine below_set ?_ GE472.out | refine below_set ?_ GE486.out | refine below_set ?_ GE500.out | refine below_set ?_ GE511.out) | exact HB.out)⟩⟩
            case round =>
             clear H'
             try clear c1
             try clear c2
             try clear p2
             try clear c3
             try clear c4
             try clear p4
             try clear q4
             try clear hx4
             try clear c5
             try clear c6
             try clear p6
             try clear c7
             try clear c8
             try clear c9
             try clear c10
             try clear c11
             try clear c12
             try clear c14
             try clear c15
             try clear c17
             try clear c18
             try clear c23
             try clear c24
             try clear c26
             try clear c26b0
             try clear c26b1
             try clear c27
             try clear c29
             try clear c29b0
             try clear c30
             try clear c32
             try clear c34
             try clear c35
             try clear c37
             try clear c37b0
             try clear c38
             try clear c38b0
             try clear c43
             try clear c46
             try clear c47
             try clear p47
             try clear q47
             try clear hx47
             try clear c52
             try clear c53
             try clear c54
             try clear c59
             try clear c60
             try clear c61
             try clear c62
             try clear p64
             try clear c66
             try clear c67
             try clear c68
             try clear c69
             try clear c70
             try clear c72
             try clear c72b0
             try clear c72b1
             try clear c73
             try clear c73b0
             try clear c73b1
             try clear c74
             try clear c74b0
             try clear c74b1
             try clear c76
             try clear c77
             try clear c78
             try clear c79
             try clear c80
             try clear c83
             try clear c84
             try clear c85
             try clear c86
             try clear c88
             try clear c89
             try clear c90
             try clear c93
             try clear c94
             try clear c95
             try clear c96
             try clear c97
             try clear c100
             try clear c101
             try clear c102
             try clear c103
             try clear c106
             try clear c107
             try clear c108
             try clear c109
             try clear c110
             try clear c114
             try clear c115
             try clear c116
             try clear c117
             try clear c118
             try clear c120
             try clear hcz104_0
             try clear hcz104_1
             try clear hcz104_2
             try clear hcz104_3
             try clear hcz104_4
             try clear hcz104_5
             try clear hcz104_6
             try clear hcz104_7
             try clear hcz104_8
             try clear hcz104_9
             try clear hcz111_0
             try clear hcz111_1
             try clear hcz111_2
             try clear hcz111_3
             try clear hcz111_4
             try clear hcz119_0
             try clear hcz119_1
             try clear hcz119_2
             try clear hcz119_3
             try clear hcz119_4
             try clear hcz13_0
             try clear hcz13_1
             try clear hcz13_2
             try clear hcz13_3
             try clear hcz13_4
             try clear hcz13_5
             try clear hcz13_6
             try clear hcz13_7
             try clear hcz13_8
             try clear hcz13_9
             try clear hcz15_0
             try clear hcz15_1
             try clear hcz15_2
             try clear hcz15_3
             try clear hcz15_4
             try clear hcz15_5
             try clear hcz15_6
             try clear hcz15_7
             try clear hcz15_8
             try clear hcz15_9
             try clear hcz16_0
             try clear hcz16_1
             try clear hcz16_2
             try clear hcz16_3
             try clear hcz16_4
             try clear hcz16_5
             try clear hcz16_6
             try clear hcz16_7
             try clear hcz16_8
             try clear hcz16_9
             try clear hcz21_0
             try clear hcz21_1
             try clear hcz21_2
             try clear hcz21_3
             try clear hcz21_4
             try clear hcz21_5
             try clear hcz21_6
             try clear hcz21_7
             try clear hcz21_8
             try clear hcz21_9
             try clear hcz25_0
             try clear hcz25_1
             try clear hcz25_2
             try clear hcz25_3
             try clear hcz25_4
             try clear hcz25_5
             try clear hcz25_6
             try clear hcz25_7
             try clear hcz25_8
             try clear hcz25_9
             try clear hcz28_0
             try clear hcz28_1
             try clear hcz28_2
             try clear hcz28_3
             try clear hcz28_4
             try clear hcz28_5
             try clear hcz28_6
             try clear hcz28_7
             try clear hcz28_8
             try clear hcz28_9
             try clear hcz31_0
             try clear hcz31_1
             try clear hcz31_2
             try clear hcz31_3
             try clear hcz31_4
             try clear hcz31_5
             try clear hcz31_6
             try clear hcz31_7
             try clear hcz31_8
             try clear hcz31_9
             try clear hcz33_0
             try clear hcz33_1
             try clear hcz33_2
             try clear hcz33_3
             try clear hcz33_4
             try clear hcz33_5
             try clear hcz33_6
             try clear hcz33_7
             try clear hcz33_8
             try clear hcz33_9
             try clear hcz36_0
             try clear hcz36_1
             try clear hcz36_2
             try clear hcz36_3
             try clear hcz36_4
             try clear hcz36_5
             try clear hcz36_6
             try clear hcz36_7
             try clear hcz36_8
             try clear hcz36_9
             try clear hcz44_0
             try clear hcz44_1
             try clear hcz44_2
             try clear hcz44_3
             try clear hcz44_4
             try clear hcz44_5
             try clear hcz44_6
             try clear hcz44_7
             try clear hcz44_8
             try clear hcz44_9
             try clear hcz48_0
             try clear hcz48_1
             try clear hcz48_2
             try clear hcz48_3
             try clear hcz48_4
             try clear hcz49_0
             try clear hcz49_1
             try clear hcz49_2
             try clear hcz49_3
             try clear hcz49_4
             try clear hcz49_5
             try clear hcz49_6
             try clear hcz49_7
             try clear hcz49_8
             try clear hcz49_9
             try clear hcz55_0
             try clear hcz55_1
             try clear hcz55_2
             try clear hcz55_3
             try clear hcz55_4
             try clear hcz55_5
             try clear hcz55_6
             try clear hcz55_7
             try clear hcz55_8
             try clear hcz55_9
             try clear hcz56_0
             try clear hcz56_1
             try clear hcz56_2
             try clear hcz56_3
             try clear hcz56_4
             try clear hcz63_0
             try clear hcz63_1
             try clear hcz63_2
             try clear hcz63_3
             try clear hcz63_4
             try clear hcz63_5
             try clear hcz63_6
             try clear hcz63_7
             try clear hcz63_8
             try clear hcz63_9
             try clear hcz71_0
             try clear hcz71_1
             try clear hcz71_2
             try clear hcz71_3
             try clear hcz71_4
             try clear hcz71_5
             try clear hcz71_6
             try clear hcz71_7
             try clear hcz71_8
             try clear hcz71_9
             try clear hcz81_0
             try clear hcz81_1
             try clear hcz81_2
             try clear hcz81_3
             try clear hcz81_4
             try clear hcz87_0
             try clear hcz87_1
             try clear hcz87_2
             try clear hcz87_3
             try clear hcz87_4
             try clear hcz87_5
             try clear hcz87_6
             try clear hcz87_7
             try clear hcz87_8
             try clear hcz87_9
             try clear hcz91_0
             try clear hcz91_1
             try clear hcz91_2
             try clear hcz91_3
             try clear hcz91_4
             try clear hcz91_5
             try clear hcz91_6
             try clear hcz91_7
             try clear hcz91_8
             try clear hcz91_9
             try clear hcz98_0
             try clear hcz98_1
             try clear hcz98_2
             try clear hcz98_3
             try clear hcz98_4
             try clear hfz104_0
             try clear hfz104_1
             try clear hfz104_2
             try clear hfz104_3
             try clear hfz104_4
             try clear hfz104_5
             try clear hfz104_6
             try clear hfz104_7
             try clear hfz104_8
             try clear hfz104_9
             try clear hfz111_0
             try clear hfz111_1
             try clear hfz111_2
             try clear hfz111_3
             try clear hfz111_4
             try clear hfz119_0
             try clear hfz119_1
             try clear hfz119_2
             try clear hfz119_3
             try clear hfz119_4
             try clear hfz13_0
             try clear hfz13_1
             try clear hfz13_2
             try clear hfz13_3
             try clear hfz13_4
             try clear hfz13_5
             try clear hfz13_6
             try clear hfz13_7
             try clear hfz13_8
             try clear hfz13_9
             try clear hfz15_0
             try clear hfz15_1
             try clear hfz15_2
             try clear hfz15_3
             try clear hfz15_4
             try clear hfz15_5
             try clear hfz15_6
             try clear hfz15_7
             try clear hfz15_8
             try clear hfz15_9
             try clear hfz16_0
             try clear hfz16_1
             try clear hfz16_2
             try clear hfz16_3
             try clear hfz16_4
             try clear hfz16_5
             try clear hfz16_6
             try clear hfz16_7
             try clear hfz16_8
             try clear hfz16_9
             try clear hfz21_0
             try clear hfz21_1
             try clear hfz21_2
             try clear hfz21_3
             try clear hfz21_4
             try clear hfz21_5
             try clear hfz21_6
             try clear hfz21_7
             try clear hfz21_8
             try clear hfz21_9
             try clear hfz25_0
             try clear hfz25_1
             try clear hfz25_2
             try clear hfz25_3
             try clear hfz25_4
             try clear hfz25_5
             try clear hfz25_6
             try clear hfz25_7
             try clear hfz25_8
             try clear hfz25_9
             try clear hfz28_0
             try clear hfz28_1
             try clear hfz28_2
             try clear hfz28_3
             try clear hfz28_4
             try clear hfz28_5
             try clear hfz28_6
             try clear hfz28_7
             try clear hfz28_8
             try clear hfz28_9
             try clear hfz31_0
             try clear hfz31_1
             try clear hfz31_2
             try clear hfz31_3
             try clear hfz31_4
             try clear hfz31_5
             try clear hfz31_6
             try clear hfz31_7
             try clear hfz31_8
             try clear hfz31_9
             try clear hfz33_0
             try clear hfz33_1
             try clear hfz33_2
             try clear hfz33_3
             try clear hfz33_4
             try clear hfz33_5
             try clear hfz33_6
             try clear hfz33_7
             try clear hfz33_8
             try clear hfz33_9
             try clear hfz36_0
             try clear hfz36_1
             try clear hfz36_2
             try clear hfz36_3
             try clear hfz36_4
             try clear hfz36_5
             try clear hfz36_6
             try clear hfz36_7
             try clear hfz36_8
             try clear hfz36_9
             try clear hfz44_0
             try clear hfz44_1
             try clear hfz44_2
             try clear hfz44_3
             try clear hfz44_4
             try clear hfz44_5
             try clear hfz44_6
             try clear hfz44_7
             try clear hfz44_8
             try clear hfz44_9
             try clear hfz48_0
             try clear hfz48_1
             try clear hfz48_2
             try clear hfz48_3
             try clear hfz48_4
             try clear hfz49_0
             try clear hfz49_1
             try clear hfz49_2
             try clear hfz49_3
             try clear hfz49_4
             try clear hfz49_5
             try clear hfz49_6
             try clear hfz49_7
             try clear hfz49_8
             try clear hfz49_9
             try clear hfz55_0
             try clear hfz55_1
             try clear hfz55_2
             try clear hfz55_3
             try clear hfz55_4
             try clear hfz55_5
             try clear hfz55_6
             try clear hfz55_7
             try clear hfz55_8
             try clear hfz55_9
             try clear hfz56_0
             try clear hfz56_1
             try clear hfz56_2
             try clear hfz56_3
             try clear hfz56_4
             try clear hfz63_0
             try clear hfz63_1
             try clear hfz63_2
             try clear hfz63_3
             try clear hfz63_4
             try clear hfz63_5
             try clear hfz63_6
             try clear hfz63_7
             try clear hfz63_8
             try clear hfz63_9
             try clear hfz71_0
             try clear hfz71_1
             try clear hfz71_2
             try clear hfz71_3
             try clear hfz71_4
             try clear hfz71_5
             try clear hfz71_6
             try clear hfz71_7
             try clear hfz71_8
             try clear hfz71_9
             try clear hfz81_0
             try clear hfz81_1
             try clear hfz81_2
             try clear hfz81_3
             try clear hfz81_4
             try clear hfz87_0
             try clear hfz87_1
             try clear hfz87_2
             try clear hfz87_3
             try clear hfz87_4
             try clear hfz87_5
             try clear hfz87_6
             try clear hfz87_7
             try clear hfz87_8
             try clear hfz87_9
             try clear hfz91_0
             try clear hfz91_1
             try clear hfz91_2
             try clear hfz91_3
             try clear hfz91_4
             try clear hfz91_5
             try clear hfz91_6
             try clear hfz91_7
             try clear hfz91_8
             try clear hfz91_9
             try clear hfz98_0
             try clear hfz98_1
             try clear hfz98_2
             try clear hfz98_3
             try clear hfz98_4
             try clear hx471_0
             try clear hx471_1
             try clear hx471_2
             try clear hx471_3
             try clear hx471_4
             try clear p2
             try clear p4
             try clear p47
             try clear p471
             try clear p6
             try clear p64
             try clear q4
             try clear q47
             try clear q471
             obtain ⟨x14_4, rfl, HA, HK4, HO_12, BK456, BK470, BK472, BK486, BK500, BK511, HB⟩ := hrel
             cases gk with
             | zero => exact absurd HA.out (by simp [pelicanlaw16_StageBetween.l0])
             | succ k4 =>
              have H := HA.out
              clear HA
              simp only [pelicanlaw16_StageBetween.l0] at H
              by_cases c121 : x14_4 < (t497.length : Int)
              ·
               rw [if_pos c121] at H
               have c121b0 : decide (x14_4 < (t497.length : Int)) = true := decide_eq_true c121
               clear c121
               have H' := Aside0.mk H
               clear H
               obtain ⟨Ao122, co122, eo122⟩ := Kd.S_slice HO_12.out
               subst eo122
               go_wp2
               go_loopg [15] k4 (fun kq v15 w' => ∃ (x15_5 : Int), v15 = .int .i64 x15_5 ∧ Aside0 (pelicanlaw16_StageBetween.l1 kq t497 x14_4 x15_5 a1_0 a1_1 a1_2 a1_3 a1_4 a1_5 a1_6 a1_7 a1_8 a1_9 t460 t461 t462 t463 t464 t465 t466 t467 t468 t469 ((rd_T39 l0 t460).f0) ((rd_T39 l0 t460).f1) ((rd_T39 l0 t460).f2) ((rd_T39 l0 t460).f3) ((rd_T39 l0 t460).f4) t501 t502 t503 t504 t505 t506 t507 t508 t509 t510 = some r) ∧ Aside0 (kq ≤ k4) ∧ Aside0 (Kd.S (Kd.slice 3 (Kd.int .i64)) 32 w' w.heap.size (fun _ => True) (.slice Ao122 t497.length co122) t497) ∧ Aside0 (w'.heap[gb456]? = some (.cells #[.int .i64 a1_0, .int .i64 a1_1, .int .i64 a1_2, .int .i64 a1_3, .int .i64 a1_4, .int .i64 a1_5, .int .i64 a1_6, .int .i64 a1_7, .int .i64 a1_8, .bool a1_9] 24 (0, 0))) ∧ Aside0 (w'.heap[gb470]? = some (.cells #[.int .i64 t460, .int .i64 t461, .int .i64 t462, .int .i64 t463, .int .i64 t464, .int .i64 t465, .int .i64 t466, .int .i64 t467, .int .i64 t468, .bool t469] 24 (0, 0))) ∧ Aside0 (w'.heap[gb472]? = some (.cells #[(.slice A471_0 ((rd_T39 l0 t460).f0).length c471_0), (.slice A471_1 ((rd_T39 l0 t460).f1).length c471_1), .int .i64 ((rd_T39 l0 t460).f2), .int .i64 ((rd_T39 l0 t460).f3), .int .i64 ((rd_T39 l0 t460).f4)] 39 (0, 0))) ∧ Aside0 (w'.heap[gb486]? = some (.cells #[.int .i64 t473, .int .i64 t474, .int .i64 t475, .int .i64 t476, .int .i64 t477, .int .i64 t478, .int .i64 t479, .int .i64 t480, .int .i64 t481, .bool t482] 24 (0, 0))) ∧ Aside0 (w'.heap[gb500]? = some (.cells #[.int .i64 t487, .int .i64 t488, .int .i64 t489, .int .i64 t490, .int .i64 t491, .int .i64 t492, .int .i64 t493, .int .i64 t494, .int .i64 t495, .bool t496] 24 (0, 0))) ∧ Aside0 (w'.heap[gb511]? = some (.cells #[.int .i64 t501, .int .i64 t502, .int .i64 t503, .int .i64 t504, .int .i64 t505, .int .i64 t506, .int .i64 t507, .int .i64 t508, .int .i64 t509, .bool t510] 24 (0, 0))) ∧ Aside0 (Below w.heap.size w w'))
               case atStart => exact ⟨(0), (by first | rfl | (simp; done) | (simp [*]; done)), H', ⟨Nat.le_refl _⟩, ⟨by (with_reducible repeat (first | apply Kd.S_alloc | apply Kd.S_drewN | apply Kd.S_drew)); exact HO_12.out⟩, ⟨by (with_reducible repeat (first | refine blk_drewN ?_ _ | refine blk_drew ?_ | refine blk_alloc ?_ _)); exact BK456.out⟩, ⟨by (with_reducible repeat (first | refine blk_drewN ?_ _ | refine blk_drew ?_ | refine blk_alloc ?_ _)); exact BK470.out⟩, ⟨by (with_reducible repeat (first | refine blk_drewN ?_ _ | refine blk_drew ?_ | refine blk_alloc ?_ _)); exact BK472.out⟩, ⟨by (with_reducible repeat (first | refine blk_drewN ?_ _ | refine blk_drew ?_ | refine blk_alloc ?_ _)); exact BK486.out⟩, ⟨by (with_reducible repeat (first | refine blk_drewN ?_ _ | refine blk_drew ?_ | refine blk_alloc ?_ _)); exact BK500.out⟩, ⟨by (with_reducible repeat (first | refine blk_drewN ?_ _ | refine blk_drew ?_ | refine blk_alloc ?_ _)); exact BK511.out⟩, ⟨by repeat (first | (with_reducible first | exact HB.out | apply below_alloc | apply pw_below_drewN | apply below_drew1 | refine below_set ?_ GE456.out | refine below_set ?_ GE470.out | refine below_set ?_ GE472.out | refine below_set ?_ GE486.out | refine below_set ?_ GE500.out | refine below_set ?_ GE511.out) | exact HB.out)⟩⟩
               case round =>
                clear H'
                try clear c1
                try clear c2
                try clear p2
                try clear c3
                try clear c4
                try clear p4
                try clear q4
                try clear hx4
                try clear c5
                try clear c6
                try clear p6
                try clear c7
                try clear c8
                try clear c9
                try clear c10
                try clear c11
                try clear c12
                try clear c14
                try clear c15
                try clear c17
                try clear c18
                try clear c23
                try clear c24
                try clear c26
                try clear c26b0
                try clear c26b1
                try clear c27
                try clear c29
                try clear c29b0
                try clear c30
                try clear c32
                try clear c34
                try clear c35
                try clear c37
                try clear c37b0
                try clear c38
                try clear c38b0
                try clear c43
                try clear c46
                try clear c47
                try clear p47
                try clear q47
                try clear hx47
                try clear c52
                try clear c53
                try clear c54
                try clear c59
                try clear c60
                try clear c61
                try clear c62
                try clear p64
                try clear c66
                try clear c67
                try clear c68
                try clear c69
                try clear c70
                try clear c72
                try clear c72b0
                try clear c72b1
                try clear c73
                try clear c73b0
                try clear c73b1
                try clear c74
                try clear c74b0
                try clear c74b1
                try clear c76
                try clear c77
                try clear c78
                try clear c79
                try clear c80
                try clear c83
                try clear c84
                try clear c85
                try clear c86
                try clear c88
                try clear c89
                try clear c90
                try clear c93
                try clear c94
                try clear c95
                try clear c96
                try clear c97
                try clear c100
                try clear c101
                try clear c102
                try clear c103
                try clear c106
                try clear c107
                try clear c108
                try clear c109
                try clear c110
                try clear c114
                try clear c115
                try clear c116
                try clear c117
                try clear c118
                try clear c120
                try clear c121
                try clear c121b0
                try clear hcz104_0
                try clear hcz104_1
                try clear hcz104_2
                try clear hcz104_3
                try clear hcz104_4
                try clear hcz104_5
                try clear hcz104_6
                try clear hcz104_7
                try clear hcz104_8
                try clear hcz104_9
                try clear hcz111_0
                try clear hcz111_1
                try clear hcz111_2
                try clear hcz111_3
                try clear hcz111_4
                try clear hcz119_0
                try clear hcz119_1
                try clear hcz119_2
                try clear hcz119_3
                try clear hcz119_4
                try clear hcz13_0
                try clear hcz13_1
                try clear hcz13_2
                try clear hcz13_3
                try clear hcz13_4
                try clear hcz13_5
                try clear hcz13_6
                try clear hcz13_7
                try clear hcz13_8
                try clear hcz13_9
                try clear hcz15_0
                try clear hcz15_1
                try clear hcz15_2
                try clear hcz15_3
                try clear hcz15_4
                try clear hcz15_5
                try clear hcz15_6
                try clear hcz15_7
                try clear hcz15_8
                try clear hcz15_9
                try clear hcz16_0
                try clear hcz16_1
                try clear hcz16_2
                try clear hcz16_3
                try clear hcz16_4
                try clear hcz16_5
                try clear hcz16_6
                try clear hcz16_7
                try clear hcz16_8
                try clear hcz16_9
                try clear hcz21_0
                try clear hcz21_1
                try clear hcz21_2
                try clear hcz21_3
                try clear hcz21_4
                try clear hcz21_5
                try clear hcz21_6
                try clear hcz21_7
                try clear hcz21_8
                try clear hcz21_9
                try clear hcz25_0
                try clear hcz25_1
                try clear hcz25_2
                try clear hcz25_3
                try clear hcz25_4
                try clear hcz25_5
                try clear hcz25_6
                try clear hcz25_7
                try clear hcz25_8
                try clear hcz25_9
                try clear hcz28_0
                try clear hcz28_1
                try clear hcz28_2
                try clear hcz28_3
                try clear hcz28_4
                try clear hcz28_5
                try clear hcz28_6
                try clear hcz28_7
                try clear hcz28_8
                try clear hcz28_9
                try clear hcz31_0
                try clear hcz31_1
                try clear hcz31_2
                try clear hcz31_3
                try clear hcz31_4
                try clear hcz31_5
                try clear hcz31_6
                try clear hcz31_7
                try clear hcz31_8
                try clear hcz31_9
                try clear hcz33_0
                try clear hcz33_1
                try clear hcz33_2
                try clear hcz33_3
                try clear hcz33_4
                try clear hcz33_5
                try clear hcz33_6
                try clear hcz33_7
                try clear hcz33_8
                try clear hcz33_9
                try clear hcz36_0
                try clear hcz36_1
                try clear hcz36_2
                try clear hcz36_3
                try clear hcz36_4
                try clear hcz36_5
                try clear hcz36_6
                try clear hcz36_7
                try clear hcz36_8
                try clear hcz36_9
                try clear hcz44_0
                try clear hcz44_1
                try clear hcz44_2
                try clear hcz44_3
                try clear hcz44_4
                try clear hcz44_5
                try clear hcz44_6
                try clear hcz44_7
                try clear hcz44_8
                try clear hcz44_9
                try clear hcz48_0
                try clear hcz48_1
                try clear hcz48_2
                try clear hcz48_3
                try clear hcz48_4
                try clear hcz49_0
                try clear hcz49_1
                try clear hcz49_2
                try clear hcz49_3
                try clear hcz49_4
                try clear hcz49_5
                try clear hcz49_6
                try clear hcz49_7
                try clear hcz49_8
                try clear hcz49_9
                try clear hcz55_0
                try clear hcz55_1
                try clear hcz55_2
                try clear hcz55_3
                try clear hcz55_4
                try clear hcz55_5
                try clear hcz55_6
                try clear hcz55_7
                try clear hcz55_8
                try clear hcz55_9
                try clear hcz56_0
                try clear hcz56_1
                try clear hcz56_2
                try clear hcz56_3
                try clear hcz56_4
                try clear hcz63_0
                try clear hcz63_1
                try clear hcz63_2
                try clear hcz63_3
                try clear hcz63_4
                try clear hcz63_5
                try clear hcz63_6
                try clear hcz63_7
                try clear hcz63_8
                try clear hcz63_9
                try clear hcz71_0
                try clear hcz71_1
                try clear hcz71_2
                try clear hcz71_3
                try clear hcz71_4
                try clear hcz71_5
                try clear hcz71_6
                try clear hcz71_7
                try clear hcz71_8
                try clear hcz71_9
                try clear hcz81_0
                try clear hcz81_1
                try clear hcz81_2
                try clear hcz81_3
                try clear hcz81_4
                try clear hcz87_0
                try clear hcz87_1
                try clear hcz87_2
                try clear hcz87_3
                try clear hcz87_4
                try clear hcz87_5
                try clear hcz87_6
                try clear hcz87_7
                try clear hcz87_8
                try clear hcz87_9
                try clear hcz91_0
                try clear hcz91_1
                try clear hcz91_2
                try clear hcz91_3
                try clear hcz91_4
                try clear hcz91_5
                try clear hcz91_6
                try clear hcz91_7
                try clear hcz91_8
                try clear hcz91_9
                try clear hcz98_0
                try clear hcz98_1
                try clear hcz98_2
                try clear hcz98_3
                try clear hcz98_4
                try clear hfz104_0
                try clear hfz104_1
                try clear hfz104_2
                try clear hfz104_3
                try clear hfz104_4
                try clear hfz104_5
                try clear hfz104_6
                try clear hfz104_7
                try clear hfz104_8
                try clear hfz104_9
                try clear hfz111_0
                try clear hfz111_1
                try clear hfz111_2
                try clear hfz111_3
                try clear hfz111_4
                try clear hfz119_0
                try clear hfz119_1
                try clear hfz119_2
                try clear hfz119_3
                try clear hfz119_4
                try clear hfz13_0
                try clear hfz13_1
                try clear hfz13_2
                try clear hfz13_3
                try clear hfz13_4
                try clear hfz13_5
                try clear hfz13_6
                try clear hfz13_7
                try clear hfz13_8
                try clear hfz13_9
                try clear hfz15_0
                try clear hfz15_1
                try clear hfz15_2
                try clear hfz15_3
                try clear hfz15_4
                try clear hfz15_5
                try clear hfz15_6
                try clear hfz15_7
                try clear hfz15_8
                try clear hfz15_9
                try clear hfz16_0
                try clear hfz16_1
                try clear hfz16_2
                try clear hfz16_3
                try clear hfz16_4
                try clear hfz16_5
                try clear hfz16_6
                try clear hfz16_7
                try clear hfz16_8
                try clear hfz16_9
                try clear hfz21_0
                try clear hfz21_1
                try clear hfz21_2
                try clear hfz21_3
                try clear hfz21_4
                try clear hfz21_5
                try clear hfz21_6
                try clear hfz21_7
                try clear hfz21_8
                try clear hfz21_9
                try clear hfz25_0
                try clear hfz25_1
                try clear hfz25_2
                try clear hfz25_3
                try clear hfz25_4
                try clear hfz25_5
                try clear hfz25_6
                try clear hfz25_7
                try clear hfz25_8
                try clear hfz25_9
                try clear hfz28_0
                try clear hfz28_1
                try clear hfz28_2
                try clear hfz28_3
                try clear hfz28_4
                try clear hfz28_5
                try clear hfz28_6
                try clear hfz28_7
                try clear hfz28_8
                try clear hfz28_9
                try clear hfz31_0
                try clear hfz31_1
                try clear hfz31_2
                try clear hfz31_3
                try clear hfz31_4
                try clear hfz31_5
                try clear hfz31_6
                try clear hfz31_7
                try clear hfz31_8
                try clear hfz31_9
                try clear hfz33_0
                try clear hfz33_1
                try clear hfz33_2
                try clear hfz33_3
                try clear hfz33_4
                try clear hfz33_5
                try clear hfz33_6
                try clear hfz33_7
                try clear hfz33_8
                try clear hfz33_9
                try clear hfz36_0
                try clear hfz36_1
                try clear hfz36_2
                try clear hfz36_3
                try clear hfz36_4
                try clear hfz36_5
                try clear hfz36_6
                try clear hfz36_7
                try clear hfz36_8
                try clear hfz36_9
                try clear hfz44_0
                try clear hfz44_1
                try clear hfz44_2
                try clear hfz44_3
                try clear hfz44_4
                try clear hfz44_5
                try clear hfz44_6
                try clear hfz44_7
                try clear hfz44_8
                try clear hfz44_9
                try clear hfz48_0
                try clear hfz48_1
                try clear hfz48_2
                try clear hfz48_3
                try clear hfz48_4
                try clear hfz49_0
                try clear hfz49_1
                try clear hfz49_2
                try clear hfz49_3
                try clear hfz49_4
                try clear hfz49_5
                try clear hfz49_6
                try clear hfz49_7
                try clear hfz49_8
                try clear hfz49_9
                try clear hfz55_0
                try clear hfz55_1
                try clear hfz55_2
                try clear hfz55_3
                try clear hfz55_4
                try clear hfz55_5
                try clear hfz55_6
                try clear hfz55_7
                try clear hfz55_8
                try clear hfz55_9
                try clear hfz56_0
                try clear hfz56_1
                try clear hfz56_2
                try clear hfz56_3
                try clear hfz56_4
                try clear hfz63_0
                try clear hfz63_1
                try clear hfz63_2
                try clear hfz63_3
                try clear hfz63_4
                try clear hfz63_5
                try clear hfz63_6
                try clear hfz63_7
                try clear hfz63_8
                try clear hfz63_9
                try clear hfz71_0
                try clear hfz71_1
                try clear hfz71_2
                try clear hfz71_3
                try clear hfz71_4
                try clear hfz71_5
                try clear hfz71_6
                try clear hfz71_7
                try clear hfz71_8
                try clear hfz71_9
                try clear hfz81_0
                try clear hfz81_1
                try clear hfz81_2
                try clear hfz81_3
                try clear hfz81_4
                try clear hfz87_0
                try clear hfz87_1
                try clear hfz87_2
                try clear hfz87_3
                try clear hfz87_4
                try clear hfz87_5
                try clear hfz87_6
                try clear hfz87_7
                try clear hfz87_8
                try clear hfz87_9
                try clear hfz91_0
                try clear hfz91_1
                try clear hfz91_2
                try clear hfz91_3
                try clear hfz91_4
                try clear hfz91_5
                try clear hfz91_6
                try clear hfz91_7
                try clear hfz91_8
                try clear hfz91_9
                try clear hfz98_0
                try clear hfz98_1
                try clear hfz98_2
                try clear hfz98_3
                try clear hfz98_4
                try clear hx471_0
                try clear hx471_1
                try clear hx471_2
                try clear hx471_3
                try clear hx471_4
                try clear p2
                try clear p4
                try clear p47
                try clear p471
                try clear p6
                try clear p64
                try clear q4
                try clear q47
                try clear q471
                obtain ⟨x15_5, rfl, HA, HK5, HO_12, BK456, BK470, BK472, BK486, BK500, BK511, HB⟩ := hrel
                cases gk with
                | zero => exact absurd HA.out (by simp [pelicanlaw16_StageBetween.l1])
                | succ k5 =>
                 have H := HA.out
                 clear HA
                 simp only [pelicanlaw16_StageBetween.l1] at H
                 by_cases c123 : 0 ≤ x14_4
                 ·
                  rw [if_pos c123] at H
                  have c123b0 : decide (0 ≤ x14_4) = true := decide_eq_true c123
                  clear c123
                  by_cases c124 : x14_4 < (t497.length : Int)
                  ·
                   rw [if_pos c124] at H
                   have c124b0 : decide (x14_4 < (t497.length : Int)) = true := decide_eq_true c124
                   clear c124
                   by_cases c125 : x15_5 < ((rd_L1 t497 x14_4).length : Int)
                   ·
                    rw [if_pos c125] at H
                    have c125b0 : decide (x15_5 < ((rd_L1 t497 x14_4).length : Int)) = true := decide_eq_true c125
                    clear c125
                    by_cases c126 : 0 ≤ x15_5
                    ·
                     rw [if_pos c126] at H
                     have c126b0 : decide (0 ≤ x15_5) = true := decide_eq_true c126
                     clear c126
                     by_cases c127 : (rd (rd_L1 t497 x14_4) x15_5) = 0
                     ·
                      rw [if_pos c127] at H
                      have c127b0 : ((rd (rd_L1 t497 x14_4) x15_5) == 0) = true := beq_iff_eq.mpr c127
                      have c127b1 : ((rd (rd_L1 t497 x14_4) x15_5) != 0) = false := bne_eq_false_iff_eq.mpr c127
                      clear c127
                      have H' := Aside0.mk H
                      clear H
                      have p512 : 0 ≤ (x14_4 : Int) := of_decide_eq_true (by first | (with_reducible assumption) | assumption)
                      have q512 : x14_4 < (t497.length : Int) := of_decide_eq_true (by first | (with_reducible assumption) | assumption)
                      obtain ⟨ad512, A512_0, c512_0, e512, hx512_0, hl512_0, hi512_0⟩ := at_L1 (Kd.S_reads' HO_12.out).2.2 x14_4 p512 q512
                      cases e512
                      obtain ⟨ce512, hce512, hMe512, hcc512⟩ := Kd.S_get HO_12.out [] x14_4 p512 (by first | exact q512 | exact of_decide_eq_true (by first | (with_reducible assumption) | assumption) | (have e_ := (Kd.S_reads' HO_12.out).1; omega))
                      obtain ⟨ve512_0, rfl, ge512_0⟩ := hMe512
                      have hv512_0 := hcc512 0 _ rfl
                      rw [Nat.add_zero, show ((Kd.slice 3 (Kd.int .i64))).sz = 1 from rfl, Nat.mul_one] at hv512_0
                      replace hv512_0 := Option.some.inj (hv512_0.symm.trans hx512_0)
                      rw [hv512_0] at ge512_0
                      have HL512_0 := Aside0.mk (show Kd.R (Kd.int .i64) 3 _ _ _ _ (rd_L1 t497 x14_4) from ge512_0)
                      clear hv512_0 ge512_0
                      clear hcc512 hce512
                      have HR512_0 := Aside0.mk hi512_0
                      have HC512_0 := Aside0.mk hl512_0
                      clear hi512_0 hl512_0
                      replace p512 := eq_true p512
                      replace q512 := eq_true q512
                      have p513 : 0 ≤ (x14_4 : Int) := of_decide_eq_true (by first | (with_reducible assumption) | assumption)
                      have q513 : x14_4 < (t497.length : Int) := of_decide_eq_true (by first | (with_reducible assumption) | assumption)
                      obtain ⟨ad513, A513_0, c513_0, e513, hx513_0, hl513_0, hi513_0⟩ := at_L1 (Kd.S_reads' HO_12.out).2.2 x14_4 p513 q513
                      obtain rfl : ad512 = ad513 := (by injection e513)
                      obtain ⟨ce513, hce513, hMe513, hcc513⟩ := Kd.S_get HO_12.out [] x14_4 p513 (by first | exact q513 | exact of_decide_eq_true (by first | (with_reducible assumption) | assumption) | (have e_ := (Kd.S_reads' HO_12.out).1; omega))
                      obtain ⟨ve513_0, rfl, ge513_0⟩ := hMe513
                      have hv513_0 := hcc513 0 _ rfl
                      rw [Nat.add_zero, show ((Kd.slice 3 (Kd.int .i64))).sz = 1 from rfl, Nat.mul_one] at hv513_0
                      replace hv513_0 := Option.some.inj (hv513_0.symm.trans hx513_0)
                      rw [hv513_0] at ge513_0
                      have HL513_0 := Aside0.mk (show Kd.R (Kd.int .i64) 3 _ _ _ _ (rd_L1 t497 x14_4) from ge513_0)
                      clear hv513_0 ge513_0
                      clear hcc513 hce513
                      have HR513_0 := Aside0.mk hi513_0
                      have HC513_0 := Aside0.mk hl513_0
                      clear hi513_0 hl513_0
                      replace p513 := eq_true p513
                      replace q513 := eq_true q513
                      have ea_ := Option.some.inj (hx512_0.symm.trans hx513_0)
                      injection ea_ with ea_ en_ ec_
                      subst ea_
                      subst ec_
                      clear en_
                      have p514 : 0 ≤ (x15_5 : Int) := of_decide_eq_true (by first | (with_reducible assumption) | assumption)
                      have q514 : x15_5 < ((rd_L1 t497 x14_4).length : Int) := of_decide_eq_true (by first | (with_reducible assumption) | assumption)
                      obtain ⟨ad514, e514, hx514_0⟩ := Kd.at_int (by repeat (first | (with_reducible exact HR513_0.out) | (with_reducible refine Kd.C_alloc ?_ _) | (with_reducible refine Kd.C_drewN ?_ _) | (with_reducible refine Kd.C_drew ?_) | exact HR513_0.out)) x15_5 p514 q514
                      cases e514
                      replace p514 := eq_true p514
                      replace q514 := eq_true q514
                      go_wp2
                      go_roundg k5
                      case measure => have := HJ4.out; have := HJ19.out; have := HJ41.out; have := HK4.out; have := HK5.out; omega
                      case rel => exact ⟨(wrap64 (x15_5 + 1)), (by first | rfl | (simp; done) | (simp [*]; done)), H', ⟨by have := HJ4.out; have := HJ19.out; have := HJ41.out; have := HK4.out; have := HK5.out; omega⟩, ⟨by (with_reducible repeat (first | apply Kd.S_alloc | apply Kd.S_drewN | apply Kd.S_drew)); exact HO_12.out⟩, ⟨by (with_reducible repeat (first | refine blk_drewN ?_ _ | refine blk_drew ?_ | refine blk_alloc ?_ _)); exact BK456.out⟩, ⟨by (with_reducible repeat (first | refine blk_drewN ?_ _ | refine blk_drew ?_ | refine blk_alloc ?_ _)); exact BK470.out⟩, ⟨by (with_reducible repeat (first | refine blk_drewN ?_ _ | refine blk_drew ?_ | refine blk_alloc ?_ _)); exact BK472.out⟩, ⟨by (with_reducible repeat (first | refine blk_drewN ?_ _ | refine blk_drew ?_ | refine blk_alloc ?_ _)); exact BK486.out⟩, ⟨by (with_reducible repeat (first | refine blk_drewN ?_ _ | refine blk_drew ?_ | refine blk_alloc ?_ _)); exact BK500.out⟩, ⟨by (with_reducible repeat (first | refine blk_drewN ?_ _ | refine blk_drew ?_ | refine blk_alloc ?_ _)); exact BK511.out⟩, ⟨by repeat (first | (with_reducible first | exact HB.out | apply below_alloc | apply pw_below_drewN | apply below_drew1 | refine below_set ?_ GE456.out | refine below_set ?_ GE470.out | refine below_set ?_ GE472.out | refine below_set ?_ GE486.out | refine below_set ?_ GE500.out | refine below_set ?_ GE511.out) | exact HB.out)⟩⟩
                     ·
                      rw [if_neg c127] at H
                      have c127b0 : ((rd (rd_L1 t497 x14_4) x15_5) == 0) = false := beq_eq_false_iff_ne.mpr c127
                      have c127b1 : ((rd (rd_L1 t497 x14_4) x15_5) != 0) = true := bne_iff_ne.mpr c127
                      obtain rfl := Option.some.inj H
                      have p512 : 0 ≤ (x14_4 : Int) := of_decide_eq_true (by first | (with_reducible assumption) | assumption)
                      have q512 : x14_4 < (t497.length : Int) := of_decide_eq_true (by first | (with_reducible assumption) | assumption)
                      obtain ⟨ad512, A512_0, c512_0, e512, hx512_0, hl512_0, hi512_0⟩ := at_L1 (Kd.S_reads' HO_12.out).2.2 x14_4 p512 q512
                      cases e512
                      obtain ⟨ce512, hce512, hMe512, hcc512⟩ := Kd.S_get HO_12.out [] x14_4 p512 (by first | exact q512 | exact of_decide_eq_true (by first | (with_reducible assumption) | assumption) | (have e_ := (Kd.S_reads' HO_12.out).1; omega))
                      obtain ⟨ve512_0, rfl, ge512_0⟩ := hMe512
                      have hv512_0 := hcc512 0 _ rfl
                      rw [Nat.add_zero, show ((Kd.slice 3 (Kd.int .i64))).sz = 1 from rfl, Nat.mul_one] at hv512_0
                      replace hv512_0 := Option.some.inj (hv512_0.symm.trans hx512_0)
                      rw [hv512_0] at ge512_0
                      have HL512_0 := Aside0.mk (show Kd.R (Kd.int .i64) 3 _ _ _ _ (rd_L1 t497 x14_4) from ge512_0)
                      clear hv512_0 ge512_0
                      clear hcc512 hce512
                      have HR512_0 := Aside0.mk hi512_0
                      have HC512_0 := Aside0.mk hl512_0
                      clear hi512_0 hl512_0
                      replace p512 := eq_true p512
                      replace q512 := eq_true q512
                      have p513 : 0 ≤ (x14_4 : Int) := of_decide_eq_true (by first | (with_reducible assumption) | assumption)
                      have q513 : x14_4 < (t497.length : Int) := of_decide_eq_true (by first | (with_reducible assumption) | assumption)
                      obtain ⟨ad513, A513_0, c513_0, e513, hx513_0, hl513_0, hi513_0⟩ := at_L1 (Kd.S_reads' HO_12.out).2.2 x14_4 p513 q513
                      obtain rfl : ad512 = ad513 := (by injection e513)
                      obtain ⟨ce513, hce513, hMe513, hcc513⟩ := Kd.S_get HO_12.out [] x14_4 p513 (by first | exact q513 | exact of_decide_eq_true (by first | (with_reducible assumption) | assumption) | (have e_ := (Kd.S_reads' HO_12.out).1; omega))
                      obtain ⟨ve513_0, rfl, ge513_0⟩ := hMe513
                      have hv513_0 := hcc513 0 _ rfl
                      rw [Nat.add_zero, show ((Kd.slice 3 (Kd.int .i64))).sz = 1 from rfl, Nat.mul_one] at hv513_0
                      replace hv513_0 := Option.some.inj (hv513_0.symm.trans hx513_0)
                      rw [hv513_0] at ge513_0
                      have HL513_0 := Aside0.mk (show Kd.R (Kd.int .i64) 3 _ _ _ _ (rd_L1 t497 x14_4) from ge513_0)
                      clear hv513_0 ge513_0
                      clear hcc513 hce513
                      have HR513_0 := Aside0.mk hi513_0
                      have HC513_0 := Aside0.mk hl513_0
                      clear hi513_0 hl513_0
                      replace p513 := eq_true p513
                      replace q513 := eq_true q513
                      have ea_ := Option.some.inj (hx512_0.symm.trans hx513_0)
                      injection ea_ with ea_ en_ ec_
                      subst ea_
                      subst ec_
                      clear en_
                      have p514 : 0 ≤ (x15_5 : Int) := of_decide_eq_true (by first | (with_reducible assumption) | assumption)
                      have q514 : x15_5 < ((rd_L1 t497 x14_4).length : Int) := of_decide_eq_true (by first | (with_reducible assumption) | assumption)
                      obtain ⟨ad514, e514, hx514_0⟩ := Kd.at_int (by repeat (first | (with_reducible exact HR513_0.out) | (with_reducible refine Kd.C_alloc ?_ _) | (with_reducible refine Kd.C_drewN ?_ _) | (with_reducible refine Kd.C_drew ?_) | exact HR513_0.out)) x15_5 p514 q514
                      cases e514
                      replace p514 := eq_true p514
                      replace q514 := eq_true q514
                      go_wp2
                      go_ret
                      exact ⟨by first | rfl | (simp [errW_none, errW_some] <;> rfl) | (simp [*, errW_none, errW_some] <;> rfl), by repeat (first | (with_reducible first | exact HB.out | apply below_alloc | apply pw_below_drewN | apply below_drew1 | refine below_set ?_ GE456.out | refine below_set ?_ GE470.out | refine below_set ?_ GE472.out | refine below_set ?_ GE486.out | refine below_set ?_ GE500.out | refine below_set ?_ GE511.out) | exact HB.out)⟩
                    ·
                     rw [if_neg c126] at H
                     exact absurd H (by simp)
                   ·
                    rw [if_neg c125] at H
                    have c125b0 : decide (x15_5 < ((rd_L1 t497 x14_4).length : Int)) = false := decide_eq_false c125
                    clear c125
                    have H' := Aside0.mk H
                    clear H
                    have p512 : 0 ≤ (x14_4 : Int) := of_decide_eq_true (by first | (with_reducible assumption) | assumption)
                    have q512 : x14_4 < (t497.length : Int) := of_decide_eq_true (by first | (with_reducible assumption) | assumption)
                    obtain ⟨ad512, A512_0, c512_0, e512, hx512_0, hl512_0, hi512_0⟩ := at_L1 (Kd.S_reads' HO_12.out).2.2 x14_4 p512 q512
                    cases e512
                    obtain ⟨ce512, hce512, hMe512, hcc512⟩ := Kd.S_get HO_12.out [] x14_4 p512 (by first | exact q512 | exact of_decide_eq_true (by first | (with_reducible assumption) | assumption) | (have e_ := (Kd.S_reads' HO_12.out).1; omega))
                    obtain ⟨ve512_0, rfl, ge512_0⟩ := hMe512
                    have hv512_0 := hcc512 0 _ rfl
                    rw [Nat.add_zero, show ((Kd.slice 3 (Kd.int .i64))).sz = 1 from rfl, Nat.mul_one] at hv512_0
                    replace hv512_0 := Option.some.inj (hv512_0.symm.trans hx512_0)
                    rw [hv512_0] at ge512_0
                    have HL512_0 := Aside0.mk (show Kd.R (Kd.int .i64) 3 _ _ _ _ (rd_L1 t497 x14_4) from ge512_0)
                    clear hv512_0 ge512_0
                    clear hcc512 hce512
                    have HR512_0 := Aside0.mk hi512_0
                    have HC512_0 := Aside0.mk hl512_0
                    clear hi512_0 hl512_0
                    replace p512 := eq_true p512
                    replace q512 := eq_true q512
                    go_wp2
                    go_roundg k5
                    case measure => have := HJ4.out; have := HJ19.out; have := HJ41.out; have := HK4.out; have := HK5.out; omega
                    case rel => exact ⟨(wrap64 (x14_4 + 1)), (by first | rfl | (simp; done) | (simp [*]; done)), H', ⟨by have := HJ4.out; have := HJ19.out; have := HJ41.out; have := HK4.out; have := HK5.out; omega⟩, ⟨by (with_reducible repeat (first | apply Kd.S_alloc | apply Kd.S_drewN | apply Kd.S_drew)); exact HO_12.out⟩, ⟨by (with_reducible repeat (first | refine blk_drewN ?_ _ | refine blk_drew ?_ | refine blk_alloc ?_ _)); exact BK456.out⟩, ⟨by (with_reducible repeat (first | refine blk_drewN ?_ _ | refine blk_drew ?_ | refine blk_alloc ?_ _)); exact BK470.out⟩, ⟨by (with_reducible repeat (first | refine blk_drewN ?_ _ | refine blk_drew ?_ | refine blk_alloc ?_ _)); exact BK472.out⟩, ⟨by (with_reducible repeat (first | refine blk_drewN ?_ _ | refine blk_drew ?_ | refine blk_alloc ?_ _)); exact BK486.out⟩, ⟨by (with_reducible repeat (first | refine blk_drewN ?_ _ | refine blk_drew ?_ | refine blk_alloc ?_ _)); exact BK500.out⟩, ⟨by (with_reducible repeat (first | refine blk_drewN ?_ _ | refine blk_drew ?_ | refine blk_alloc ?_ _)); exact BK511.out⟩, ⟨by repeat (first | (with_reducible first | exact HB.out | apply below_alloc | apply pw_below_drewN | apply below_drew1 | refine below_set ?_ GE456.out | refine below_set ?_ GE470.out | refine below_set ?_ GE472.out | refine below_set ?_ GE486.out | refine below_set ?_ GE500.out | refine below_set ?_ GE511.out) | exact HB.out)⟩⟩
                  ·
                   rw [if_neg c124] at H
                   exact absurd H (by simp)
                 ·
                  rw [if_neg c123] at H
                  exact absurd H (by simp)
              ·
               rw [if_neg c121] at H
               have c121b0 : decide (x14_4 < (t497.length : Int)) = false := decide_eq_false c121
               clear c121
               by_cases c128 : a1_9 = true
               ·
                subst c128
                have H1 : (if t504 = 2 then (some (t505 == ((rd_T39 l0 t460).f3))) else (some false)) = some r := by rw [if_pos rfl] at H; exact H
                clear H
                have H := H1
                clear H1
                by_cases c129 : t504 = 2
                ·
                 rw [if_pos c129] at H
                 have c129b0 : (t504 == 2) = true := beq_iff_eq.mpr c129
                 have c129b1 : (t504 != 2) = false := bne_eq_false_iff_eq.mpr c129
                 clear c129
                 obtain rfl := Option.some.inj H
                 obtain ⟨Ao130, co130, eo130⟩ := Kd.S_slice HO_12.out
                 subst eo130
                 have hnb131 := NB456_470.out
                 have hnc131 := NB470_456.out
                 have hnb132 := NB456_472.out
                 have hnc132 := NB472_456.out
                 have hnb133 := NB456_486.out
                 have hnc133 := NB486_456.out
                 have hnb134 := NB456_500.out
                 have hnc134 := NB500_456.out
                 have hnb135 := NB456_511.out
                 have hnc135 := NB511_456.out
                 have hcz136_0 : wr.cell? ⟨gb456, 0, none⟩ = some (.int .i64 a1_0) := (blk_cell BK456.out 0).trans rfl
                 have hcz136_1 : wr.cell? ⟨gb456, 1, none⟩ = some (.int .i64 a1_1) := (blk_cell BK456.out 1).trans rfl
                 have hcz136_2 : wr.cell? ⟨gb456, 2, none⟩ = some (.int .i64 a1_2) := (blk_cell BK456.out 2).trans rfl
                 have hcz136_3 : wr.cell? ⟨gb456, 3, none⟩ = some (.int .i64 a1_3) := (blk_cell BK456.out 3).trans rfl
                 have hcz136_4 : wr.cell? ⟨gb456, 4, none⟩ = some (.int .i64 a1_4) := (blk_cell BK456.out 4).trans rfl
                 have hcz136_5 : wr.cell? ⟨gb456, 5, none⟩ = some (.int .i64 a1_5) := (blk_cell BK456.out 5).trans rfl
                 have hcz136_6 : wr.cell? ⟨gb456, 6, none⟩ = some (.int .i64 a1_6) := (blk_cell BK456.out 6).trans rfl
                 have hcz136_7 : wr.cell? ⟨gb456, 7, none⟩ = some (.int .i64 a1_7) := (blk_cell BK456.out 7).trans rfl
                 have hcz136_8 : wr.cell? ⟨gb456, 8, none⟩ = some (.int .i64 a1_8) := (blk_cell BK456.out 8).trans rfl
                 have hcz136_9 : wr.cell? ⟨gb456, 9, none⟩ = some (.bool true) := (blk_cell BK456.out 9).trans rfl
                 have hfz136_0 := blk_frozen BK456.out 0
                 have hfz136_1 := blk_frozen BK456.out 1
                 have hfz136_2 := blk_frozen BK456.out 2
                 have hfz136_3 := blk_frozen BK456.out 3
                 have hfz136_4 := blk_frozen BK456.out 4
                 have hfz136_5 := blk_frozen BK456.out 5
                 have hfz136_6 := blk_frozen BK456.out 6
                 have hfz136_7 := blk_frozen BK456.out 7
                 have hfz136_8 := blk_frozen BK456.out 8
                 have hfz136_9 := blk_frozen BK456.out 9
                 have hnb137 := NB511_470.out
                 have hnc137 := NB470_511.out
                 have hnb138 := NB511_472.out
                 have hnc138 := NB472_511.out
                 have hnb139 := NB511_486.out
                 have hnc139 := NB486_511.out
                 have hnb140 := NB511_500.out
                 have hnc140 := NB500_511.out
                 have hcz141_0 : wr.cell? ⟨gb511, 0, none⟩ = some (.int .i64 t501) := (blk_cell BK511.out 0).trans rfl
                 have hcz141_1 : wr.cell? ⟨gb511, 1, none⟩ = some (.int .i64 t502) := (blk_cell BK511.out 1).trans rfl
                 have hcz141_2 : wr.cell? ⟨gb511, 2, none⟩ = some (.int .i64 t503) := (blk_cell BK511.out 2).trans rfl
                 have hcz141_3 : wr.cell? ⟨gb511, 3, none⟩ = some (.int .i64 t504) := (blk_cell BK511.out 3).trans rfl
                 have hcz141_4 : wr.cell? ⟨gb511, 4, none⟩ = some (.int .i64 t505) := (blk_cell BK511.out 4).trans rfl
                 have hcz141_5 : wr.cell? ⟨gb511, 5, none⟩ = some (.int .i64 t506) := (blk_cell BK511.out 5).trans rfl
                 have hcz141_6 : wr.cell? ⟨gb511, 6, none⟩ = some (.int .i64 t507) := (blk_cell BK511.out 6).trans rfl
                 have hcz141_7 : wr.cell? ⟨gb511, 7, none⟩ = some (.int .i64 t508) := (blk_cell BK511.out 7).trans rfl
                 have hcz141_8 : wr.cell? ⟨gb511, 8, none⟩ = some (.int .i64 t509) := (blk_cell BK511.out 8).trans rfl
                 have hcz141_9 : wr.cell? ⟨gb511, 9, none⟩ = some (.bool t510) := (blk_cell BK511.out 9).trans rfl
                 have hfz141_0 := blk_frozen BK511.out 0
                 have hfz141_1 := blk_frozen BK511.out 1
                 have hfz141_2 := blk_frozen BK511.out 2
                 have hfz141_3 := blk_frozen BK511.out 3
                 have hfz141_4 := blk_frozen BK511.out 4
                 have hfz141_5 := blk_frozen BK511.out 5
                 have hfz141_6 := blk_frozen BK511.out 6
                 have hfz141_7 := blk_frozen BK511.out 7
                 have hfz141_8 := blk_frozen BK511.out 8
                 have hfz141_9 := blk_frozen BK511.out 9
                 have hnb142 := NB472_470.out
                 have hnc142 := NB470_472.out
                 have hnb143 := NB472_486.out
                 have hnc143 := NB486_472.out
                 have hnb144 := NB472_500.out
                 have hnc144 := NB500_472.out
                 have hcz145_0 : wr.cell? ⟨gb472, 0, none⟩ = some (.slice A471_0 ((rd_T39 l0 t460).f0).length c471_0) := (blk_cell BK472.out 0).trans rfl
                 have hcz145_1 : wr.cell? ⟨gb472, 1, none⟩ = some (.slice A471_1 ((rd_T39 l0 t460).f1).length c471_1) := (blk_cell BK472.out 1).trans rfl
                 have hcz145_2 : wr.cell? ⟨gb472, 2, none⟩ = some (.int .i64 ((rd_T39 l0 t460).f2)) := (blk_cell BK472.out 2).trans rfl
                 have hcz145_3 : wr.cell? ⟨gb472, 3, none⟩ = some (.int .i64 ((rd_T39 l0 t460).f3)) := (blk_cell BK472.out 3).trans rfl
                 have hcz145_4 : wr.cell? ⟨gb472, 4, none⟩ = some (.int .i64 ((rd_T39 l0 t460).f4)) := (blk_cell BK472.out 4).trans rfl
                 have hfz145_0 := blk_frozen BK472.out 0
                 have hfz145_1 := blk_frozen BK472.out 1
                 have hfz145_2 := blk_frozen BK472.out 2
                 have hfz145_3 := blk_frozen BK472.out 3
                 have hfz145_4 := blk_frozen BK472.out 4
                 go_wp2
                 go_ret
                 exact ⟨by first | rfl | (simp [errW_none, errW_some] <;> rfl) | (simp [*, errW_none, errW_some] <;> rfl), by repeat (first | (with_reducible first | exact HB.out | apply below_alloc | apply pw_below_drewN | apply below_drew1 | refine below_set ?_ GE456.out | refine below_set ?_ GE470.out | refine below_set ?_ GE472.out | refine below_set ?_ GE486.out | refine below_set ?_ GE500.out | refine below_set ?_ GE511.out) | exact HB.out)⟩
                ·
                 rw [if_neg c129] at H
                 have c129b0 : (t504 == 2) = false := beq_eq_false_iff_ne.mpr c129
                 have c129b1 : (t504 != 2) = true := bne_iff_ne.mpr c129
                 exact absurd (Option.some.inj H) (by rw [HRR.out]; decide)
               ·
                replace c128 := Bool.eq_false_iff.mpr c128
                subst c128
                have H1 : (if t504 = 0 then (if t505 = 0 then (if a1_8 = (-1) then (if t501 = a1_0 then (if t502 = t462 then (some true) else (some false)) else (some false)) else (if t501 = a1_8 then (some (t502 == 0)) else (some false))) else (some false)) else (some false)) = some r := by rw [if_neg (show ¬ (false = true) by decide)] at H; exact H
                clear H
                have H := H1
                clear H1
                by_cases c158 : t504 = 0
                ·
                 rw [if_pos c158] at H
                 have c158b0 : (t504 == 0) = true := beq_iff_eq.mpr c158
                 have c158b1 : (t504 != 0) = false := bne_eq_false_iff_eq.mpr c158
                 clear c158
                 by_cases c159 : t505 = 0
                 ·
                  rw [if_pos c159] at H
                  have c159b0 : (t505 == 0) = true := beq_iff_eq.mpr c159
                  have c159b1 : (t505 != 0) = false := bne_eq_false_iff_eq.mpr c159
                  clear c159
                  by_cases c160 : a1_8 = (-1)
                  ·
                   rw [if_pos c160] at H
                   have c160b0 : (a1_8 == (-1)) = true := beq_iff_eq.mpr c160
                   have c160b1 : (a1_8 != (-1)) = false := bne_eq_false_iff_eq.mpr c160
                   clear c160
                   by_cases c161 : t501 = a1_0
                   ·
                    rw [if_pos c161] at H
                    have c161b0 : (t501 == a1_0) = true := beq_iff_eq.mpr c161
                    have c161b1 : (t501 != a1_0) = false := bne_eq_false_iff_eq.mpr c161
                    clear c161
                    by_cases c162 : t502 = t462
                    ·
                     rw [if_pos c162] at H
                     have c162b0 : (t502 == t462) = true := beq_iff_eq.mpr c162
                     have c162b1 : (t502 != t462) = false := bne_eq_false_iff_eq.mpr c162
                     clear c162
                     obtain rfl := Option.some.inj H
                     obtain ⟨Ao163, co163, eo163⟩ := Kd.S_slice HO_12.out
                     subst eo163
                     have hnb164 := NB456_470.out
                     have hnc164 := NB470_456.out
                     have hnb165 := NB456_472.out
                     have hnc165 := NB472_456.out
                     have hnb166 := NB456_486.out
                     have hnc166 := NB486_456.out
                     have hnb167 := NB456_500.out
                     have hnc167 := NB500_456.out
                     have hnb168 := NB456_511.out
                     have hnc168 := NB511_456.out
                     have hcz169_0 : wr.cell? ⟨gb456, 0, none⟩ = some (.int .i64 a1_0) := (blk_cell BK456.out 0).trans rfl
                     have hcz169_1 : wr.cell? ⟨gb456, 1, none⟩ = some (.int .i64 a1_1) := (blk_cell BK456.out 1).trans rfl
                     have hcz169_2 : wr.cell? ⟨gb456, 2, none⟩ = some (.int .i64 a1_2) := (blk_cell BK456.out 2).trans rfl
                     have hcz169_3 : wr.cell? ⟨gb456, 3, none⟩ = some (.int .i64 a1_3) := (blk_cell BK456.out 3).trans rfl
                     have hcz169_4 : wr.cell? ⟨gb456, 4, none⟩ = some (.int .i64 a1_4) := (blk_cell BK456.out 4).trans rfl
                     have hcz169_5 : wr.cell? ⟨gb456, 5, none⟩ = some (.int .i64 a1_5) := (blk_cell BK456.out 5).trans rfl
                     have hcz169_6 : wr.cell? ⟨gb456, 6, none⟩ = some (.int .i64 a1_6) := (blk_cell BK456.out 6).trans rfl
                     have hcz169_7 : wr.cell? ⟨gb456, 7, none⟩ = some (.int .i64 a1_7) := (blk_cell BK456.out 7).trans rfl
                     have hcz169_8 : wr.cell? ⟨gb456, 8, none⟩ = some (.int .i64 a1_8) := (blk_cell BK456.out 8).trans rfl
                     have hcz169_9 : wr.cell? ⟨gb456, 9, none⟩ = some (.bool false) := (blk_cell BK456.out 9).trans rfl
                     have hfz169_0 := blk_frozen BK456.out 0
                     have hfz169_1 := blk_frozen BK456.out 1
                     have hfz169_2 := blk_frozen BK456.out 2
                     have hfz169_3 := blk_frozen BK456.out 3
                     have hfz169_4 := blk_frozen BK456.out 4
                     have hfz169_5 := blk_frozen BK456.out 5
                     have hfz169_6 := blk_frozen BK456.out 6
                     have hfz169_7 := blk_frozen BK456.out 7
                     have hfz169_8 := blk_frozen BK456.out 8
                     have hfz169_9 := blk_frozen BK456.out 9
                     have hnb170 := NB511_470.out
                     have hnc170 := NB470_511.out
                     have hnb171 := NB511_472.out
                     have hnc171 := NB472_511.out
                     have hnb172 := NB511_486.out
                     have hnc172 := NB486_511.out
                     have hnb173 := NB511_500.out
                     have hnc173 := NB500_511.out
                     have hcz174_0 : wr.cell? ⟨gb511, 0, none⟩ = some (.int .i64 t501) := (blk_cell BK511.out 0).trans rfl
                     have hcz174_1 : wr.cell? ⟨gb511, 1, none⟩ = some (.int .i64 t502) := (blk_cell BK511.out 1).trans rfl
                     have hcz174_2 : wr.cell? ⟨gb511, 2, none⟩ = some (.int .i64 t503) := (blk_cell BK511.out 2).trans rfl
                     have hcz174_3 : wr.cell? ⟨gb511, 3, none⟩ = some (.int .i64 t504) := (blk_cell BK511.out 3).trans rfl
                     have hcz174_4 : wr.cell? ⟨gb511, 4, none⟩ = some (.int .i64 t505) := (blk_cell BK511.out 4).trans rfl
                     have hcz174_5 : wr.cell? ⟨gb511, 5, none⟩ = some (.int .i64 t506) := (blk_cell BK511.out 5).trans rfl
                     have hcz174_6 : wr.cell? ⟨gb511, 6, none⟩ = some (.int .i64 t507) := (blk_cell BK511.out 6).trans rfl
                     have hcz174_7 : wr.cell? ⟨gb511, 7, none⟩ = some (.int .i64 t508) := (blk_cell BK511.out 7).trans rfl
                     have hcz174_8 : wr.cell? ⟨gb511, 8, none⟩ = some (.int .i64 t509) := (blk_cell BK511.out 8).trans rfl
                     have hcz174_9 : wr.cell? ⟨gb511, 9, none⟩ = some (.bool t510) := (blk_cell BK511.out 9).trans rfl
                     have hfz174_0 := blk_frozen BK511.out 0
                     have hfz174_1 := blk_frozen BK511.out 1
                     have hfz174_2 := blk_frozen BK511.out 2
                     have hfz174_3 := blk_frozen BK511.out 3
                     have hfz174_4 := blk_frozen BK511.out 4
                     have hfz174_5 := blk_frozen BK511.out 5
                     have hfz174_6 := blk_frozen BK511.out 6
                     have hfz174_7 := blk_frozen BK511.out 7
                     have hfz174_8 := blk_frozen BK511.out 8
                     have hfz174_9 := blk_frozen BK511.out 9
                     have hnb175 := NB470_472.out
                     have hnc175 := NB472_470.out
                     have hnb176 := NB470_486.out
                     have hnc176 := NB486_470.out
                     have hnb177 := NB470_500.out
                     have hnc177 := NB500_470.out
                     have hcz178_0 : wr.cell? ⟨gb470, 0, none⟩ = some (.int .i64 t460) := (blk_cell BK470.out 0).trans rfl
                     have hcz178_1 : wr.cell? ⟨gb470, 1, none⟩ = some (.int .i64 t461) := (blk_cell BK470.out 1).trans rfl
                     have hcz178_2 : wr.cell? ⟨gb470, 2, none⟩ = some (.int .i64 t462) := (blk_cell BK470.out 2).trans rfl
                     have hcz178_3 : wr.cell? ⟨gb470, 3, none⟩ = some (.int .i64 t463) := (blk_cell BK470.out 3).trans rfl
                     have hcz178_4 : wr.cell? ⟨gb470, 4, none⟩ = some (.int .i64 t464) := (blk_cell BK470.out 4).trans rfl
                     have hcz178_5 : wr.cell? ⟨gb470, 5, none⟩ = some (.int .i64 t465) := (blk_cell BK470.out 5).trans rfl
                     have hcz178_6 : wr.cell? ⟨gb470, 6, none⟩ = some (.int .i64 t466) := (blk_cell BK470.out 6).trans rfl
                     have hcz178_7 : wr.cell? ⟨gb470, 7, none⟩ = some (.int .i64 t467) := (blk_cell BK470.out 7).trans rfl
                     have hcz178_8 : wr.cell? ⟨gb470, 8, none⟩ = some (.int .i64 t468) := (blk_cell BK470.out 8).trans rfl
                     have hcz178_9 : wr.cell? ⟨gb470, 9, none⟩ = some (.bool t469) := (blk_cell BK470.out 9).trans rfl
                     have hfz178_0 := blk_frozen BK470.out 0
                     have hfz178_1 := blk_frozen BK470.out 1
                     have hfz178_2 := blk_frozen BK470.out 2
                     have hfz178_3 := blk_frozen BK470.out 3
                     have hfz178_4 := blk_frozen BK470.out 4
                     have hfz178_5 := blk_frozen BK470.out 5
                     have hfz178_6 := blk_frozen BK470.out 6
                     have hfz178_7 := blk_frozen BK470.out 7
                     have hfz178_8 := blk_frozen BK470.out 8
                     have hfz178_9 := blk_frozen BK470.out 9
                     go_wp2
                     go_ret
                     exact ⟨by first | rfl | (simp [errW_none, errW_some] <;> rfl) | (simp [*, errW_none, errW_some] <;> rfl), by repeat (first | (with_reducible first | exact HB.out | apply below_alloc | apply pw_below_drewN | apply below_drew1 | refine below_set ?_ GE456.out | refine below_set ?_ GE470.out | refine below_set ?_ GE472.out | refine below_set ?_ GE486.out | refine below_set ?_ GE500.out | refine below_set ?_ GE511.out) | exact HB.out)⟩
                    ·
                     rw [if_neg c162] at H
                     have c162b0 : (t502 == t462) = false := beq_eq_false_iff_ne.mpr c162
                     have c162b1 : (t502 != t462) = true := bne_iff_ne.mpr c162
                     exact absurd (Option.some.inj H) (by rw [HRR.out]; decide)
                   ·
                    rw [if_neg c161] at H
                    have c161b0 : (t501 == a1_0) = false := beq_eq_false_iff_ne.mpr c161
                    have c161b1 : (t501 != a1_0) = true := bne_iff_ne.mpr c161
                    exact absurd (Option.some.inj H) (by rw [HRR.out]; decide)
                  ·
                   rw [if_neg c160] at H
                   have c160b0 : (a1_8 == (-1)) = false := beq_eq_false_iff_ne.mpr c160
                   have c160b1 : (a1_8 != (-1)) = true := bne_iff_ne.mpr c160
                   by_cases c207 : t501 = a1_8
                   ·
                    rw [if_pos c207] at H
                    have c207b0 : (t501 == a1_8) = true := beq_iff_eq.mpr c207
                    have c207b1 : (t501 != a1_8) = false := bne_eq_false_iff_eq.mpr c207
                    clear c207
                    obtain rfl := Option.some.inj H
                    obtain ⟨Ao208, co208, eo208⟩ := Kd.S_slice HO_12.out
                    subst eo208
                    have hnb209 := NB456_470.out
                    have hnc209 := NB470_456.out
                    have hnb210 := NB456_472.out
                    have hnc210 := NB472_456.out
                    have hnb211 := NB456_486.out
                    have hnc211 := NB486_456.out
                    have hnb212 := NB456_500.out
                    have hnc212 := NB500_456.out
                    have hnb213 := NB456_511.out
                    have hnc213 := NB511_456.out
                    have hcz214_0 : wr.cell? ⟨gb456, 0, none⟩ = some (.int .i64 a1_0) := (blk_cell BK456.out 0).trans rfl
                    have hcz214_1 : wr.cell? ⟨gb456, 1, none⟩ = some (.int .i64 a1_1) := (blk_cell BK456.out 1).trans rfl
                    have hcz214_2 : wr.cell? ⟨gb456, 2, none⟩ = some (.int .i64 a1_2) := (blk_cell BK456.out 2).trans rfl
                    have hcz214_3 : wr.cell? ⟨gb456, 3, none⟩ = some (.int .i64 a1_3) := (blk_cell BK456.out 3).trans rfl
                    have hcz214_4 : wr.cell? ⟨gb456, 4, none⟩ = some (.int .i64 a1_4) := (blk_cell BK456.out 4).trans rfl
                    have hcz214_5 : wr.cell? ⟨gb456, 5, none⟩ = some (.int .i64 a1_5) := (blk_cell BK456.out 5).trans rfl
                    have hcz214_6 : wr.cell? ⟨gb456, 6, none⟩ = some (.int .i64 a1_6) := (blk_cell BK456.out 6).trans rfl
                    have hcz214_7 : wr.cell? ⟨gb456, 7, none⟩ = some (.int .i64 a1_7) := (blk_cell BK456.out 7).trans rfl
                    have hcz214_8 : wr.cell? ⟨gb456, 8, none⟩ = some (.int .i64 a1_8) := (blk_cell BK456.out 8).trans rfl
                    have hcz214_9 : wr.cell? ⟨gb456, 9, none⟩ = some (.bool false) := (blk_cell BK456.out 9).trans rfl
                    have hfz214_0 := blk_frozen BK456.out 0
                    have hfz214_1 := blk_frozen BK456.out 1
                    have hfz214_2 := blk_frozen BK456.out 2
                    have hfz214_3 := blk_frozen BK456.out 3
                    have hfz214_4 := blk_frozen BK456.out 4
                    have hfz214_5 := blk_frozen BK456.out 5
                    have hfz214_6 := blk_frozen BK456.out 6
                    have hfz214_7 := blk_frozen BK456.out 7
                    have hfz214_8 := blk_frozen BK456.out 8
                    have hfz214_9 := blk_frozen BK456.out 9
                    have hnb215 := NB511_470.out
                    have hnc215 := NB470_511.out
                    have hnb216 := NB511_472.out
                    have hnc216 := NB472_511.out
                    have hnb217 := NB511_486.out
                    have hnc217 := NB486_511.out
                    have hnb218 := NB511_500.out
                    have hnc218 := NB500_511.out
                    have hcz219_0 : wr.cell? ⟨gb511, 0, none⟩ = some (.int .i64 t501) := (blk_cell BK511.out 0).trans rfl
                    have hcz219_1 : wr.cell? ⟨gb511, 1, none⟩ = some (.int .i64 t502) := (blk_cell BK511.out 1).trans rfl
                    have hcz219_2 : wr.cell? ⟨gb511, 2, none⟩ = some (.int .i64 t503) := (blk_cell BK511.out 2).trans rfl
                    have hcz219_3 : wr.cell? ⟨gb511, 3, none⟩ = some (.int .i64 t504) := (blk_cell BK511.out 3).trans rfl
                    have hcz219_4 : wr.cell? ⟨gb511, 4, none⟩ = some (.int .i64 t505) := (blk_cell BK511.out 4).trans rfl
                    have hcz219_5 : wr.cell? ⟨gb511, 5, none⟩ = some (.int .i64 t506) := (blk_cell BK511.out 5).trans rfl
                    have hcz219_6 : wr.cell? ⟨gb511, 6, none⟩ = some (.int .i64 t507) := (blk_cell BK511.out 6).trans rfl
                    have hcz219_7 : wr.cell? ⟨gb511, 7, none⟩ = some (.int .i64 t508) := (blk_cell BK511.out 7).trans rfl
                    have hcz219_8 : wr.cell? ⟨gb511, 8, none⟩ = some (.int .i64 t509) := (blk_cell BK511.out 8).trans rfl
                    have hcz219_9 : wr.cell? ⟨gb511, 9, none⟩ = some (.bool t510) := (blk_cell BK511.out 9).trans rfl
                    have hfz219_0 := blk_frozen BK511.out 0
                    have hfz219_1 := blk_frozen BK511.out 1
                    have hfz219_2 := blk_frozen BK511.out 2
                    have hfz219_3 := blk_frozen BK511.out 3
                    have hfz219_4 := blk_frozen BK511.out 4
                    have hfz219_5 := blk_frozen BK511.out 5
                    have hfz219_6 := blk_frozen BK511.out 6
                    have hfz219_7 := blk_frozen BK511.out 7
                    have hfz219_8 := blk_frozen BK511.out 8
                    have hfz219_9 := blk_frozen BK511.out 9
                    go_wp2
                    go_ret
                    exact ⟨by first | rfl | (simp [errW_none, errW_some] <;> rfl) | (simp [*, errW_none, errW_some] <;> rfl), by repeat (first | (with_reducible first | exact HB.out | apply below_alloc | apply pw_below_drewN | apply below_drew1 | refine below_set ?_ GE456.out | refine below_set ?_ GE470.out | refine below_set ?_ GE472.out | refine below_set ?_ GE486.out | refine below_set ?_ GE500.out | refine below_set ?_ GE511.out) | exact HB.out)⟩
                   ·
                    rw [if_neg c207] at H
                    have c207b0 : (t501 == a1_8) = false := beq_eq_false_iff_ne.mpr c207
                    have c207b1 : (t501 != a1_8) = true := bne_iff_ne.mpr c207
                    exact absurd (Option.some.inj H) (by rw [HRR.out]; decide)
                 ·
                  rw [if_neg c159] at H
                  have c159b0 : (t505 == 0) = false := beq_eq_false_iff_ne.mpr c159
                  have c159b1 : (t505 != 0) = true := bne_iff_ne.mpr c159
                  exact absurd (Option.some.inj H) (by rw [HRR.out]; decide)
                ·
                 rw [if_neg c158] at H
                 have c158b0 : (t504 == 0) = false := beq_eq_false_iff_ne.mpr c158
                 have c158b1 : (t504 != 0) = true := bne_iff_ne.mpr c158
                 exact absurd (Option.some.inj H) (by rw [HRR.out]; decide)
        ·
         rw [if_neg c38] at H
         exact absurd H (by simp)
       ·
        rw [if_neg c37] at H
        exact absurd H (by simp)
end Go.Proofs.YtechgjbhgeddjaaDoor.F
