/- Woven by wip/weave/weave.py of this repo (own tool) out of the translation: the contracts of some functions. Lean checks it. -/
import Derived.Test.YtechgjbhgeddjaaDoorD
import Derived.Test.YtechgjbhgeddjaaDoorDLampTells
import Derived.Test.YtechgjbhgeddjaaDoorDR15
import Derived.Test.YtechgjbhgeddjaaDoorF0
import Derived.Test.YtechgjbhgeddjaaDoorF13
import Derived.Test.YtechgjbhgeddjaaDoorF17
import Derived.Test.YtechgjbhgeddjaaDoorF19
import Derived.Test.YtechgjbhgeddjaaDoorF22
import Derived.Test.YtechgjbhgeddjaaDoorF31
import Derived.Test.YtechgjbhgeddjaaDoorF42
import Derived.Test.YtechgjbhgeddjaaDoorF45
import Derived.Test.YtechgjbhgeddjaaDoorF46
import Derived.Test.YtechgjbhgeddjaaDoorF47
import Derived.Test.YtechgjbhgeddjaaDoorF48
import Derived.Test.YtechgjbhgeddjaaDoorF49
import Derived.Test.YtechgjbhgeddjaaDoorF50
namespace Go.Proofs.YtechgjbhgeddjaaDoor.F
open Go.RowKit Go.Proofs.YtechgjbhgeddjaaDoorW.PrintWords Go.Proofs.YtechgjbhgeddjaaDoorW.PrintLast Go.Proofs.YtechgjbhgeddjaaDoorW.PrintMore
attribute [local go_sem] max2_int min2_int max_two min_two max_three min_three max_four min_four   -- for this text's walks alone
set_option linter.unusedVariables false
set_option linter.unusedSimpArgs false

/-! ### pelicanlaw15_LampTells: function 9 -/
def pelicanlaw15_LampTells.T8 : Bool × List (List Nat × List Nat) := (true, [([], []), ([], []), ([], []), ([0, 1, 2], [0, 1, 2]), ([], []), ([], []), ([], []), ([4, 5, 6, 3], [4, 5, 6]), ([3, 7, 7], [3, 7]), ([8, 8, 0, 1, 2, 3, 4, 5, 6, 7, 8], [8])])
def pelicanlaw15_LampTells.B8 : List Nat := [0, 0, 0, 7, 0, 0, 0, 127, 255, 511]
theorem pelicanlaw15_LampTells.tab8 : rtab .any (opsOf Tryd.f9 8) = pelicanlaw15_LampTells.T8 := by kernel_rfl
theorem pelicanlaw15_LampTells.bits8 : waitsOk pelicanlaw15_LampTells.T8.2 pelicanlaw15_LampTells.B8 = true := by kernel_rfl
set_option maxHeartbeats 8000000 in
set_option maxRecDepth 100000 in
theorem pelicanlaw15_LampTells.calls (k : Nat) (A0_0 : Option Addr) (c0_0 : Nat) (l0_0 : List Int) (A0_1 : Option Addr) (c0_1 : Nat) (l0_1 : List (S41)) (a0_2 : Int) (a0_3 : Int) (a0_4 : Int) (a1 : Int) (a2 : Int) (A3 : Option Addr) (c3 : Nat) (l3 : List Int) (a4 : ByteArray) (r : Bool) (HRR0 : r = true) (w : World) (hr0_0 : Kd.C (Kd.int .i64) w A0_0 l0_0.length l0_0) (hc0_0 : l0_0.length ≤ c0_0) (hr0_1 : Kd.C k41 w A0_1 l0_1.length l0_1) (hc0_1 : l0_1.length ≤ c0_1) (hr3 : Kd.C (Kd.int .i64) w A3 l3.length l3) (hc3 : l3.length ≤ c3) (hG : GlobOk w) (h : pelicanlaw15_LampTells.f k l0_0 l0_1 a0_2 a0_3 a0_4 a1 a2 l3 a4 = some r) :
    Calls Tryd.prog 9 #[.agg #[.slice A0_0 l0_0.length c0_0, .slice A0_1 l0_1.length c0_1, .int .i64 a0_2, .int .i64 a0_3, .int .i64 a0_4], .int .i64 a1, .int .i64 a2, .slice A3 l3.length c3, .string a4] w fun e w' => e = .returned (.bool r) ∧ Below w.heap.size w w' := by
  have hu39 := Tryd.underlying39
  have HR0_0 := Aside0.mk hr0_0
  have HC0_0 := Aside0.mk hc0_0
  clear hr0_0 hc0_0
  have HR0_1 := Aside0.mk hr0_1
  have HC0_1 := Aside0.mk hc0_1
  clear hr0_1 hc0_1
  have HR3 := Aside0.mk hr3
  have HC3 := Aside0.mk hc3
  clear hr3 hc3
  have HG := Aside0.mk hG
  clear hG
  have HB := Aside0.mk (Below.refl w.heap.size w)
  have H : ((pelicanlaw15_awake.f k).bind fun t693 => ((pelicanlaw14_Few.f l0_0 l0_1 a0_2 a0_3 a0_4).bind fun t694 => (if t693 = true then (if t694 = true then (if (l3.length : Int) > 20 then (pelicanlaw15_LampTells.j0 k a1 a2 l3 a4 t693 true l0_0 l0_1 a0_2 a0_3 a0_4) else (pelicanlaw15_LampTells.j0 k a1 a2 l3 a4 t693 (decide ((a4.size : Int) > 40)) l0_0 l0_1 a0_2 a0_3 a0_4)) else (pelicanlaw15_LampTells.j0 k a1 a2 l3 a4 t693 true l0_0 l0_1 a0_2 a0_3 a0_4)) else (pelicanlaw15_LampTells.j0 k a1 a2 l3 a4 t693 true l0_0 l0_1 a0_2 a0_3 a0_4)))) = some r := h
  clear h
  have HRR := Aside0.mk HRR0
  clear HRR0
  replace H := Option.bind_eq_some_iff.mp H
  obtain ⟨t693, A60, H⟩ := H
  replace H : ((pelicanlaw14_Few.f l0_0 l0_1 a0_2 a0_3 a0_4).bind fun t694 => (if t693 = true then (if t694 = true then (if (l3.length : Int) > 20 then (pelicanlaw15_LampTells.j0 k a1 a2 l3 a4 t693 true l0_0 l0_1 a0_2 a0_3 a0_4) else (pelicanlaw15_LampTells.j0 k a1 a2 l3 a4 t693 (decide ((a4.size : Int) > 40)) l0_0 l0_1 a0_2 a0_3 a0_4)) else (pelicanlaw15_LampTells.j0 k a1 a2 l3 a4 t693 true l0_0 l0_1 a0_2 a0_3 a0_4)) else (pelicanlaw15_LampTells.j0 k a1 a2 l3 a4 t693 true l0_0 l0_1 a0_2 a0_3 a0_4))) = some r := H
  have A6 := Aside0.mk A60
  clear A60
  replace H := Option.bind_eq_some_iff.mp H
  obtain ⟨t694, A70, H⟩ := H
  replace H : (if t693 = true then (if t694 = true then (if (l3.length : Int) > 20 then (pelicanlaw15_LampTells.j0 k a1 a2 l3 a4 t693 true l0_0 l0_1 a0_2 a0_3 a0_4) else (pelicanlaw15_LampTells.j0 k a1 a2 l3 a4 t693 (decide ((a4.size : Int) > 40)) l0_0 l0_1 a0_2 a0_3 a0_4)) else (pelicanlaw15_LampTells.j0 k a1 a2 l3 a4 t693 true l0_0 l0_1 a0_2 a0_3 a0_4)) else (pelicanlaw15_LampTells.j0 k a1 a2 l3 a4 t693 true l0_0 l0_1 a0_2 a0_3 a0_4)) = some r := H
  have A7 := Aside0.mk A70
  clear A70
  have HC8 := Aside0.mk H
  clear H
  go_enter Tryd.func9, Tryd.ntmps9
  go_upto_region 3 with (first | ((with_reducible refine gate_dst (N := 5) rfl ?_); (try (refine gate_guard (by rfl) ?_; dsimp only)); refine box_event ?hg (N := 5) ?hd (cs := #[.slice A0_0 l0_0.length c0_0, .slice A0_1 l0_1.length c0_1, .int .i64 a0_2, .int .i64 a0_3, .int .i64 a0_4]) (t := 39) ?hr ?_; (case hd => rfl); (case hg => rfl); (case hr => first | (go_simp; done) | (go_simp; rfl)); intro gb692 hg w9 hbox hb; have n0_ := Aside0.mk (below_step (by repeat (first | (with_reducible first | exact HB.out | apply below_alloc | apply pw_below_drewN | apply below_drew1) | exact HB.out)) hb); have n1_ := Aside0.mk (hbox); have n2_ := Aside0.mk ((by rw [hg]; exact (below_size (by repeat (first | (with_reducible first | exact HB.out | apply below_alloc | apply pw_below_drewN | apply below_drew1) | exact HB.out))) : w.heap.size ≤ gb692)); have n3_ := Aside0.mk ((by rw [hg]; exact (below_size (by repeat (first | (with_reducible first | exact HB.out | apply below_alloc | apply pw_below_drewN | apply below_drew1) | exact HB.out))) : w.heap.size ≤ gb692)); clear HB; have HB := n0_; have BK692 := n1_; have GW692 := n2_; have GE692 := n3_; clear n0_ n1_ n2_ n3_; clear hb hbox hg) | ((with_reducible refine gate_callee (f := 30) rfl ?_); refine goesL_ (some 21) rfl rfl Tryd.func30 (by kernel_rfl) rfl #[] rfl (by (try simp only [List.map_toArray, List.map_cons, List.map_nil]); first | done | rfl | (simp only [List.length_drop, List.length_take]; rfl)) ?_; (with_reducible refine (pelicanlaw15_awake.calls k  t693 _ ?side1 A6.out).mono ?_); (case side1 => first | (with_reducible exact HG.out) | (refine GlobOk.below HG.out ?_; repeat (first | (with_reducible first | exact HB.out | apply below_alloc | apply pw_below_drewN | apply below_drew1 | refine below_set ?_ GE692.out) | exact HB.out))); rintro e w10 ⟨rfl, hb⟩; refine ⟨_, rfl, ?_⟩; have n0_ := Aside0.mk (blk_below (g := gb692) (o := .cells #[.slice A0_0 l0_0.length c0_0, .slice A0_1 l0_1.length c0_1, .int .i64 a0_2, .int .i64 a0_3, .int .i64 a0_4] 39 (0, 0)) (by (with_reducible repeat (first | refine blk_drewN ?_ _ | refine blk_drew ?_ | refine blk_alloc ?_ _)); exact BK692.out) hb); have n1_ := Aside0.mk (below_step (by repeat (first | (with_reducible first | exact HB.out | apply below_alloc | apply pw_below_drewN | apply below_drew1 | refine below_set ?_ GE692.out) | exact HB.out)) hb); clear BK692; clear HB; have BK692 := n0_; have HB := n1_; clear n0_ n1_; (try clear hb); (try clear hb2); (try clear hk); (try clear hi); have hcz11_0 : w10.cell? ⟨gb692, 0, none⟩ = some (.slice A0_0 l0_0.length c0_0) := (blk_cell BK692.out 0).trans rfl; have hcz11_1 : w10.cell? ⟨gb692, 1, none⟩ = some (.slice A0_1 l0_1.length c0_1) := (blk_cell BK692.out 1).trans rfl; have hcz11_2 : w10.cell? ⟨gb692, 2, none⟩ = some (.int .i64 a0_2) := (blk_cell BK692.out 2).trans rfl; have hcz11_3 : w10.cell? ⟨gb692, 3, none⟩ = some (.int .i64 a0_3) := (blk_cell BK692.out 3).trans rfl; have hcz11_4 : w10.cell? ⟨gb692, 4, none⟩ = some (.int .i64 a0_4) := (blk_cell BK692.out 4).trans rfl; have hfz11_0 := blk_frozen BK692.out 0; have hfz11_1 := blk_frozen BK692.out 1; have hfz11_2 := blk_frozen BK692.out 2; have hfz11_3 := blk_frozen BK692.out 3; have hfz11_4 := blk_frozen BK692.out 4) | ((with_reducible refine gate_callee (f := 31) rfl ?_); refine goesL_ (some 23) rfl rfl Tryd.func31 (by kernel_rfl) rfl #[.agg #[.slice A0_0 l0_0.length c0_0, .slice A0_1 l0_1.length c0_1, .int .i64 a0_2, .int .i64 a0_3, .int .i64 a0_4]] rfl (by (try simp only [List.map_toArray, List.map_cons, List.map_nil]); first | done | rfl | (simp only [List.length_drop, List.length_take]; rfl)) ?_; (with_reducible refine (pelicanlaw14_Few.calls _ _ l0_0 _ _ l0_1 a0_2 a0_3 a0_4 t694 _ ?side1 ?side2 ?side3 ?side4 A7.out).mono ?_); (case side1 => repeat (first | exact (Kd.C_below HR0_0.out HB.out) | (with_reducible refine Kd.C_alloc ?_ _) | (with_reducible refine Kd.C_drewN ?_ _) | (with_reducible refine Kd.C_drew ?_))); (case side2 => exact HC0_0.out); (case side3 => repeat (first | exact (Kd.C_below HR0_1.out HB.out) | (with_reducible refine Kd.C_alloc ?_ _) | (with_reducible refine Kd.C_drewN ?_ _) | (with_reducible refine Kd.C_drew ?_))); (case side4 => exact HC0_1.out); rintro e w12 ⟨rfl, hb⟩; refine ⟨_, rfl, ?_⟩; have n0_ := Aside0.mk (blk_below (g := gb692) (o := .cells #[.slice A0_0 l0_0.length c0_0, .slice A0_1 l0_1.length c0_1, .int .i64 a0_2, .int .i64 a0_3, .int .i64 a0_4] 39 (0, 0)) (by (with_reducible repeat (first | refine blk_drewN ?_ _ | refine blk_drew ?_ | refine blk_alloc ?_ _)); exact BK692.out) hb); have n1_ := Aside0.mk (below_step (by repeat (first | (with_reducible first | exact HB.out | apply below_alloc | apply pw_below_drewN | apply below_drew1 | refine below_set ?_ GE692.out) | exact HB.out)) hb); clear BK692; clear HB; have BK692 := n0_; have HB := n1_; clear n0_ n1_; (try clear hb); (try clear hb2); (try clear hk); (try clear hi)))
  (try simp only [Act.put, List.setIfInBounds_toArray, List.set_cons_zero, List.set_cons_succ])
  go_cut [39] (fun v39 wc => ∃ (kq : Nat) (x39_7 : Bool), v39 = .bool x39_7 ∧ Aside0 (pelicanlaw15_LampTells.j0 kq a1 a2 l3 a4 t693 x39_7 l0_0 l0_1 a0_2 a0_3 a0_4 = some r) ∧ Aside0 (kq ≤ k) ∧ Aside0 (wc.heap[gb692]? = some (.cells #[(.slice A0_0 l0_0.length c0_0), (.slice A0_1 l0_1.length c0_1), .int .i64 a0_2, .int .i64 a0_3, .int .i64 a0_4] 39 (0, 0))) ∧ Aside0 (Below w.heap.size w wc))
  case first =>
    have H := HC8.out
    clear HC8
    by_cases c13 : t693 = true
    · subst c13
      have H1 : (if t694 = true then (if (l3.length : Int) > 20 then (pelicanlaw15_LampTells.j0 k a1 a2 l3 a4 true true l0_0 l0_1 a0_2 a0_3 a0_4) else (pelicanlaw15_LampTells.j0 k a1 a2 l3 a4 true (decide ((a4.size : Int) > 40)) l0_0 l0_1 a0_2 a0_3 a0_4)) else (pelicanlaw15_LampTells.j0 k a1 a2 l3 a4 true true l0_0 l0_1 a0_2 a0_3 a0_4)) = some r := by rw [if_pos rfl] at H; exact H
      clear H
      have H := H1
      clear H1
      by_cases c14 : t694 = true
      · subst c14
        have H1 : (if (l3.length : Int) > 20 then (pelicanlaw15_LampTells.j0 k a1 a2 l3 a4 true true l0_0 l0_1 a0_2 a0_3 a0_4) else (pelicanlaw15_LampTells.j0 k a1 a2 l3 a4 true (decide ((a4.size : Int) > 40)) l0_0 l0_1 a0_2 a0_3 a0_4)) = some r := by rw [if_pos rfl] at H; exact H
        clear H
        have H := H1
        clear H1
        by_cases c15 : (l3.length : Int) > 20
        · rw [if_pos c15] at H
          have c15b0 : decide (20 < (l3.length : Int)) = true := decide_eq_true c15
          have c15b1 : decide (20 < l3.length) = true := decide_eq_true (by omega)
          clear c15
          (first | rw [c15b0] | (simp only [i64_w, i32_w]; rw [c15b0]) | skip)
          have H' := Aside0.mk H
          clear H
          go_wp2
          go_meet
          case rel => exact ⟨_, (true), (by first | rfl | (simp; done) | (simp [*]; done)), H', ⟨by first | omega | exact Nat.le_refl _⟩, ⟨by (with_reducible repeat (first | refine blk_drewN ?_ _ | refine blk_drew ?_ | refine blk_alloc ?_ _)); exact BK692.out⟩, ⟨by repeat (first | (with_reducible first | exact HB.out | apply below_alloc | apply pw_below_drewN | apply below_drew1 | refine below_set ?_ GE692.out) | exact HB.out)⟩⟩
        · rw [if_neg c15] at H
          have c15b0 : decide (20 < (l3.length : Int)) = false := decide_eq_false c15
          have c15b1 : decide (20 < l3.length) = false := decide_eq_false (by omega)
          clear c15
          (first | rw [c15b0] | (simp only [i64_w, i32_w]; rw [c15b0]) | skip)
          have H' := Aside0.mk H
          clear H
          go_wp2
          go_meet
          case rel => exact ⟨_, (decide ((a4.size : Int) > 40)), (by first | rfl | (simp; done) | (simp [*]; done)), H', ⟨by first | omega | exact Nat.le_refl _⟩, ⟨by (with_reducible repeat (first | refine blk_drewN ?_ _ | refine blk_drew ?_ | refine blk_alloc ?_ _)); exact BK692.out⟩, ⟨by repeat (first | (with_reducible first | exact HB.out | apply below_alloc | apply pw_below_drewN | apply below_drew1 | refine below_set ?_ GE692.out) | exact HB.out)⟩⟩
      · replace c14 := Bool.eq_false_iff.mpr c14
        subst c14
        have H1 : (pelicanlaw15_LampTells.j0 k a1 a2 l3 a4 true true l0_0 l0_1 a0_2 a0_3 a0_4) = some r := by rw [if_neg (show ¬ (false = true) by decide)] at H; exact H
        clear H
        have H := H1
        clear H1
        have H' := Aside0.mk H
        clear H
        go_wp2
        go_meet
        case rel => exact ⟨_, (true), (by first | rfl | (simp; done) | (simp [*]; done)), H', ⟨by first | omega | exact Nat.le_refl _⟩, ⟨by (with_reducible repeat (first | refine blk_drewN ?_ _ | refine blk_drew ?_ | refine blk_alloc ?_ _)); exact BK692.out⟩, ⟨by repeat (first | (with_reducible first | exact HB.out | apply below_alloc | apply pw_below_drewN | apply below_drew1 | refine below_set ?_ GE692.out) | exact HB.out)⟩⟩
    · replace c13 := Bool.eq_false_iff.mpr c13
      subst c13
      have H1 : (pelicanlaw15_LampTells.j0 k a1 a2 l3 a4 false true l0_0 l0_1 a0_2 a0_3 a0_4) = some r := by rw [if_neg (show ¬ (false = true) by decide)] at H; exact H
      clear H
      have H := H1
      clear H1
      have H' := Aside0.mk H
      clear H
      go_wp2
      go_meet
      case rel => exact ⟨_, (true), (by first | rfl | (simp; done) | (simp [*]; done)), H', ⟨by first | omega | exact Nat.le_refl _⟩, ⟨by (with_reducible repeat (first | refine blk_drewN ?_ _ | refine blk_drew ?_ | refine blk_alloc ?_ _)); exact BK692.out⟩, ⟨by repeat (first | (with_reducible first | exact HB.out | apply below_alloc | apply pw_below_drewN | apply below_drew1 | refine below_set ?_ GE692.out) | exact HB.out)⟩⟩
  case rest =>
    clear HC8
    try clear c1
    try clear p2
    try clear c3
    try clear c9
    try clear c13
    try clear c14
    try clear c15
    try clear c15b0
    try clear c15b1
    try clear hcz11_0
    try clear hcz11_1
    try clear hcz11_2
    try clear hcz11_3
    try clear hcz11_4
    try clear hfz11_0
    try clear hfz11_1
    try clear hfz11_2
    try clear hfz11_3
    try clear hfz11_4
    obtain ⟨kq, x39_7, rfl, HA, HJ7, BK692, HB⟩ := hcut
    cases kq with
    | zero => exact absurd HA.out (by simp [pelicanlaw15_LampTells.j0])
    | succ kj7 =>
      have H := HA.out
      clear HA
      simp only [pelicanlaw15_LampTells.j0] at H
      by_cases c16 : x39_7 = true
      · subst c16
        have H1 : (some t693) = some r := by rw [if_pos rfl] at H; exact H
        clear H
        have H := H1
        clear H1
        obtain rfl := Option.some.inj H
        go_wp2
        go_ret
        exact ⟨by first | rfl | (simp [errW_none, errW_some] <;> rfl) | (simp [*, errW_none, errW_some] <;> rfl), by repeat (first | (with_reducible first | exact HB.out | apply below_alloc | apply pw_below_drewN | apply below_drew1 | refine below_set ?_ GE692.out) | exact HB.out)⟩
      · replace c16 := Bool.eq_false_iff.mpr c16
        subst c16
        have H1 : ((lamp_Read.f a4).bind fun bt695 => ((pelicanref15_Read.f kj7 a4).bind fun bt699 => ((pelicanref05_Ints.f kj7 bt695.1 bt699.1).bind fun t703 => ((lamp_Show.f l0_0 l0_1 a0_2 a0_3 a0_4 a1 a2).bind fun t704 => ((pelicanref15_Show.f kj7 l0_0 l0_1 a0_2 a0_3 a0_4 a1 a2).bind fun t707 => ((pelicanref05_Ints.f kj7 t704 t707).bind fun t710 => ((pelicanref15_May.f kj7 l3).bind fun t711 => ((pelicanref15_Clash.f kj7 l0_0 l0_1 a0_2 a0_3 a0_4 l3).bind fun t712 => (if t703 = true then (if (bt695.2 == bt699.2) = true then (if t710 = true then ((lamp_May.f l3).bind fun t713 => (if (t713 == t711) = true then ((lamp_Text.f l3).bind fun t714 => ((pelicanref15_Text.f kj7 l3).bind fun t715 => (if t714.toList = t715.toList then ((lamp_Clash.f kj7 l0_0 l0_1 a0_2 a0_3 a0_4 l3).bind fun t716 => (some (t716 == t712))) else (some false)))) else (some false))) else (some false)) else (some false)) else (some false)))))))))) = some r := by rw [if_neg (show ¬ (false = true) by decide)] at H; exact H
        clear H
        have H := H1
        clear H1
        replace H := Option.bind_eq_some_iff.mp H
        obtain ⟨⟨t695, t696⟩, A170, H⟩ := H
        replace H : ((pelicanref15_Read.f kj7 a4).bind fun bt699 => ((pelicanref05_Ints.f kj7 t695 bt699.1).bind fun t703 => ((lamp_Show.f l0_0 l0_1 a0_2 a0_3 a0_4 a1 a2).bind fun t704 => ((pelicanref15_Show.f kj7 l0_0 l0_1 a0_2 a0_3 a0_4 a1 a2).bind fun t707 => ((pelicanref05_Ints.f kj7 t704 t707).bind fun t710 => ((pelicanref15_May.f kj7 l3).bind fun t711 => ((pelicanref15_Clash.f kj7 l0_0 l0_1 a0_2 a0_3 a0_4 l3).bind fun t712 => (if t703 = true then (if (t696 == bt699.2) = true then (if t710 = true then ((lamp_May.f l3).bind fun t713 => (if (t713 == t711) = true then ((lamp_Text.f l3).bind fun t714 => ((pelicanref15_Text.f kj7 l3).bind fun t715 => (if t714.toList = t715.toList then ((lamp_Clash.f kj7 l0_0 l0_1 a0_2 a0_3 a0_4 l3).bind fun t716 => (some (t716 == t712))) else (some false)))) else (some false))) else (some false)) else (some false)) else (some false))))))))) = some r := H
        have A17 := Aside0.mk A170
        clear A170
        replace H := Option.bind_eq_some_iff.mp H
        obtain ⟨⟨t699, t700⟩, A180, H⟩ := H
        replace H : ((pelicanref05_Ints.f kj7 t695 t699).bind fun t703 => ((lamp_Show.f l0_0 l0_1 a0_2 a0_3 a0_4 a1 a2).bind fun t704 => ((pelicanref15_Show.f kj7 l0_0 l0_1 a0_2 a0_3 a0_4 a1 a2).bind fun t707 => ((pelicanref05_Ints.f kj7 t704 t707).bind fun t710 => ((pelicanref15_May.f kj7 l3).bind fun t711 => ((pelicanref15_Clash.f kj7 l0_0 l0_1 a0_2 a0_3 a0_4 l3).bind fun t712 => (if t703 = true then (if (t696 == t700) = true then (if t710 = true then ((lamp_May.f l3).bind fun t713 => (if (t713 == t711) = true then ((lamp_Text.f l3).bind fun t714 => ((pelicanref15_Text.f kj7 l3).bind fun t715 => (if t714.toList = t715.toList then ((lamp_Clash.f kj7 l0_0 l0_1 a0_2 a0_3 a0_4 l3).bind fun t716 => (some (t716 == t712))) else (some false)))) else (some false))) else (some false)) else (some false)) else (some false)))))))) = some r := H
        have A18 := Aside0.mk A180
        clear A180
        replace H := Option.bind_eq_some_iff.mp H
        obtain ⟨t703, A190, H⟩ := H
        replace H : ((lamp_Show.f l0_0 l0_1 a0_2 a0_3 a0_4 a1 a2).bind fun t704 => ((pelicanref15_Show.f kj7 l0_0 l0_1 a0_2 a0_3 a0_4 a1 a2).bind fun t707 => ((pelicanref05_Ints.f kj7 t704 t707).bind fun t710 => ((pelicanref15_May.f kj7 l3).bind fun t711 => ((pelicanref15_Clash.f kj7 l0_0 l0_1 a0_2 a0_3 a0_4 l3).bind fun t712 => (if t703 = true then (if (t696 == t700) = true then (if t710 = true then ((lamp_May.f l3).bind fun t713 => (if (t713 == t711) = true then ((lamp_Text.f l3).bind fun t714 => ((pelicanref15_Text.f kj7 l3).bind fun t715 => (if t714.toList = t715.toList then ((lamp_Clash.f kj7 l0_0 l0_1 a0_2 a0_3 a0_4 l3).bind fun t716 => (some (t716 == t712))) else (some false)))) else (some false))) else (some false)) else (some false)) else (some false))))))) = some r := H
        have A19 := Aside0.mk A190
        clear A190
        replace H := Option.bind_eq_some_iff.mp H
        obtain ⟨t704, A200, H⟩ := H
        replace H : ((pelicanref15_Show.f kj7 l0_0 l0_1 a0_2 a0_3 a0_4 a1 a2).bind fun t707 => ((pelicanref05_Ints.f kj7 t704 t707).bind fun t710 => ((pelicanref15_May.f kj7 l3).bind fun t711 => ((pelicanref15_Clash.f kj7 l0_0 l0_1 a0_2 a0_3 a0_4 l3).bind fun t712 => (if t703 = true then (if (t696 == t700) = true then (if t710 = true then ((lamp_May.f l3).bind fun t713 => (if (t713 == t711) = true then ((lamp_Text.f l3).bind fun t714 => ((pelicanref15_Text.f kj7 l3).bind fun t715 => (if t714.toList = t715.toList then ((lamp_Clash.f kj7 l0_0 l0_1 a0_2 a0_3 a0_4 l3).bind fun t716 => (some (t716 == t712))) else (some false)))) else (some false))) else (some false)) else (some false)) else (some false)))))) = some r := H
        have A20 := Aside0.mk A200
        clear A200
        replace H := Option.bind_eq_some_iff.mp H
        obtain ⟨t707, A210, H⟩ := H
        replace H : ((pelicanref05_Ints.f kj7 t704 t707).bind fun t710 => ((pelicanref15_May.f kj7 l3).bind fun t711 => ((pelicanref15_Clash.f kj7 l0_0 l0_1 a0_2 a0_3 a0_4 l3).bind fun t712 => (if t703 = true then (if (t696 == t700) = true then (if t710 = true then ((lamp_May.f l3).bind fun t713 => (if (t713 == t711) = true then ((lamp_Text.f l3).bind fun t714 => ((pelicanref15_Text.f kj7 l3).bind fun t715 => (if t714.toList = t715.toList then ((lamp_Clash.f kj7 l0_0 l0_1 a0_2 a0_3 a0_4 l3).bind fun t716 => (some (t716 == t712))) else (some false)))) else (some false))) else (some false)) else (some false)) else (some false))))) = some r := H
        have A21 := Aside0.mk A210
        clear A210
        replace H := Option.bind_eq_some_iff.mp H
        obtain ⟨t710, A220, H⟩ := H
        replace H : ((pelicanref15_May.f kj7 l3).bind fun t711 => ((pelicanref15_Clash.f kj7 l0_0 l0_1 a0_2 a0_3 a0_4 l3).bind fun t712 => (if t703 = true then (if (t696 == t700) = true then (if t710 = true then ((lamp_May.f l3).bind fun t713 => (if (t713 == t711) = true then ((lamp_Text.f l3).bind fun t714 => ((pelicanref15_Text.f kj7 l3).bind fun t715 => (if t714.toList = t715.toList then ((lamp_Clash.f kj7 l0_0 l0_1 a0_2 a0_3 a0_4 l3).bind fun t716 => (some (t716 == t712))) else (some false)))) else (some false))) else (some false)) else (some false)) else (some false)))) = some r := H
        have A22 := Aside0.mk A220
        clear A220
        replace H := Option.bind_eq_some_iff.mp H
        obtain ⟨t711, A230, H⟩ := H
        replace H : ((pelicanref15_Clash.f kj7 l0_0 l0_1 a0_2 a0_3 a0_4 l3).bind fun t712 => (if t703 = true then (if (t696 == t700) = true then (if t710 = true then ((lamp_May.f l3).bind fun t713 => (if (t713 == t711) = true then ((lamp_Text.f l3).bind fun t714 => ((pelicanref15_Text.f kj7 l3).bind fun t715 => (if t714.toList = t715.toList then ((lamp_Clash.f kj7 l0_0 l0_1 a0_2 a0_3 a0_4 l3).bind fun t716 => (some (t716 == t712))) else (some false)))) else (some false))) else (some false)) else (some false)) else (some false))) = some r := H
        have A23 := Aside0.mk A230
        clear A230
        replace H := Option.bind_eq_some_iff.mp H
        obtain ⟨t712, A240, H⟩ := H
        replace H : (if t703 = true then (if (t696 == t700) = true then (if t710 = true then ((lamp_May.f l3).bind fun t713 => (if (t713 == t711) = true then ((lamp_Text.f l3).bind fun t714 => ((pelicanref15_Text.f kj7 l3).bind fun t715 => (if t714.toList = t715.toList then ((lamp_Clash.f kj7 l0_0 l0_1 a0_2 a0_3 a0_4 l3).bind fun t716 => (some (t716 == t712))) else (some false)))) else (some false))) else (some false)) else (some false)) else (some false)) = some r := H
        have A24 := Aside0.mk A240
        clear A240
        by_cases c25 : t703 = true
        · subst c25
          have H1 : (if (t696 == t700) = true then (if t710 = true then ((lamp_May.f l3).bind fun t713 => (if (t713 == t711) = true then ((lamp_Text.f l3).bind fun t714 => ((pelicanref15_Text.f kj7 l3).bind fun t715 => (if t714.toList = t715.toList then ((lamp_Clash.f kj7 l0_0 l0_1 a0_2 a0_3 a0_4 l3).bind fun t716 => (some (t716 == t712))) else (some false)))) else (some false))) else (some false)) else (some false)) = some r := by rw [if_pos rfl] at H; exact H
          clear H
          have H := H1
          clear H1
          by_cases c26 : (t696 == t700) = true
          · rw [if_pos c26] at H
            have c26b0 : (t696 == t700) = true := c26
            (try (have c26b1 : decide (t696 = t700) = true := by simpa using c26))
            (try (have c26b2 : (t696 == t700) = true := by simpa using c26))
            clear c26
            by_cases c27 : t710 = true
            · subst c27
              have H1 : ((lamp_May.f l3).bind fun t713 => (if (t713 == t711) = true then ((lamp_Text.f l3).bind fun t714 => ((pelicanref15_Text.f kj7 l3).bind fun t715 => (if t714.toList = t715.toList then ((lamp_Clash.f kj7 l0_0 l0_1 a0_2 a0_3 a0_4 l3).bind fun t716 => (some (t716 == t712))) else (some false)))) else (some false))) = some r := by rw [if_pos rfl] at H; exact H
              clear H
              have H := H1
              clear H1
              replace H := Option.bind_eq_some_iff.mp H
              obtain ⟨t713, A280, H⟩ := H
              replace H : (if (t713 == t711) = true then ((lamp_Text.f l3).bind fun t714 => ((pelicanref15_Text.f kj7 l3).bind fun t715 => (if t714.toList = t715.toList then ((lamp_Clash.f kj7 l0_0 l0_1 a0_2 a0_3 a0_4 l3).bind fun t716 => (some (t716 == t712))) else (some false)))) else (some false)) = some r := H
              have A28 := Aside0.mk A280
              clear A280
              by_cases c29 : (t713 == t711) = true
              · rw [if_pos c29] at H
                have c29b0 : (t713 == t711) = true := c29
                (try (have c29b1 : decide (t713 = t711) = true := by simpa using c29))
                (try (have c29b2 : (t713 == t711) = true := by simpa using c29))
                clear c29
                replace H := Option.bind_eq_some_iff.mp H
                obtain ⟨t714, A300, H⟩ := H
                replace H : ((pelicanref15_Text.f kj7 l3).bind fun t715 => (if t714.toList = t715.toList then ((lamp_Clash.f kj7 l0_0 l0_1 a0_2 a0_3 a0_4 l3).bind fun t716 => (some (t716 == t712))) else (some false))) = some r := H
                have A30 := Aside0.mk A300
                clear A300
                replace H := Option.bind_eq_some_iff.mp H
                obtain ⟨t715, A310, H⟩ := H
                replace H : (if t714.toList = t715.toList then ((lamp_Clash.f kj7 l0_0 l0_1 a0_2 a0_3 a0_4 l3).bind fun t716 => (some (t716 == t712))) else (some false)) = some r := H
                have A31 := Aside0.mk A310
                clear A310
                by_cases c32 : t714.toList = t715.toList
                · rw [if_pos c32] at H
                  have c32b0 : (t714.toList == t715.toList) = true := beq_iff_eq.mpr c32
                  have c32b1 : (t714.toList != t715.toList) = false := bne_eq_false_iff_eq.mpr c32
                  clear c32
                  replace H := Option.bind_eq_some_iff.mp H
                  obtain ⟨t716, A330, H⟩ := H
                  replace H : (some (t716 == t712)) = some r := H
                  have A33 := Aside0.mk A330
                  clear A330
                  obtain rfl := Option.some.inj H
                  try go_wp2_with (first | ((with_reducible refine gate_callee (f := 32) rfl ?_); refine goesL_ (some 43) rfl rfl Tryd.func32 (by kernel_rfl) rfl #[.string a4] rfl (by (try simp only [List.map_toArray, List.map_cons, List.map_nil]); first | done | rfl | (simp only [List.length_drop, List.length_take]; rfl)) ?_; (with_reducible refine (lamp_Read.calls a4 t695 t696 _ A17.out).mono ?_); rintro e w34 ⟨v697, rfl, ho0, hb⟩; refine ⟨_, rfl, ?_⟩; have n0_ := Aside0.mk (Kd.R_lower ho0 (below_size (by repeat (first | (with_reducible first | exact HB.out | apply below_alloc | apply pw_below_drewN | apply below_drew1 | refine below_set ?_ GE692.out) | exact HB.out)))); have n1_ := Aside0.mk (blk_below (g := gb692) (o := .cells #[.slice A0_0 l0_0.length c0_0, .slice A0_1 l0_1.length c0_1, .int .i64 a0_2, .int .i64 a0_3, .int .i64 a0_4] 39 (0, 0)) (by (with_reducible repeat (first | refine blk_drewN ?_ _ | refine blk_drew ?_ | refine blk_alloc ?_ _)); exact BK692.out) hb); have n2_ := Aside0.mk (below_step (by repeat (first | (with_reducible first | exact HB.out | apply below_alloc | apply pw_below_drewN | apply below_drew1 | refine below_set ?_ GE692.out) | exact HB.out)) hb); clear BK692; clear HB; have HO698 := n0_; have BK692 := n1_; have HB := n2_; clear n0_ n1_ n2_; (try clear hb); (try clear hb2); (try clear hk); (try clear hi); (try clear ho0)) | ((with_reducible refine gate_callee (f := 33) rfl ?_); refine goesL_ (some 48) rfl rfl Tryd.func33 (by kernel_rfl) rfl #[.string a4] rfl (by (try simp only [List.map_toArray, List.map_cons, List.map_nil]); first | done | rfl | (simp only [List.length_drop, List.length_take]; rfl)) ?_; (with_reducible refine (pelicanref15_Read.calls kj7 a4 t699 t700 _ A18.out).mono ?_); rintro e w35 ⟨v701, rfl, ho0, hb⟩; refine ⟨_, rfl, ?_⟩; have n0_ := Aside0.mk (Kd.R_elder' (by (with_reducible repeat (first | apply Kd.R_alloc | apply Kd.R_drewN | apply Kd.R_drew)); exact HO698.out) (Kd.R_base ho0) hb); have n1_ := Aside0.mk (Kd.R_lower (Kd.R_new' ho0 (Kd.R_lt (by (with_reducible repeat (first | apply Kd.R_alloc | apply Kd.R_drewN | apply Kd.R_drew)); exact HO698.out))) (below_size (by repeat (first | (with_reducible first | exact HB.out | apply below_alloc | apply pw_below_drewN | apply below_drew1 | refine below_set ?_ GE692.out) | exact HB.out)))); have n2_ := Aside0.mk (blk_below (g := gb692) (o := .cells #[.slice A0_0 l0_0.length c0_0, .slice A0_1 l0_1.length c0_1, .int .i64 a0_2, .int .i64 a0_3, .int .i64 a0_4] 39 (0, 0)) (by (with_reducible repeat (first | refine blk_drewN ?_ _ | refine blk_drew ?_ | refine blk_alloc ?_ _)); exact BK692.out) hb); have n3_ := Aside0.mk (below_step (by repeat (first | (with_reducible first | exact HB.out | apply below_alloc | apply pw_below_drewN | apply below_drew1 | refine below_set ?_ GE692.out) | exact HB.out)) hb); clear HO698; clear BK692; clear HB; have HO698 := n0_; have HO702 := n1_; have BK692 := n2_; have HB := n3_; clear n0_ n1_ n2_ n3_; (try clear hb); (try clear hb2); (try clear hk); (try clear hi); (try clear ho0); obtain ⟨Ao36, co36, eo36⟩ := Kd.R_slice HO698.out; subst eo36; obtain ⟨Ao37, co37, eo37⟩ := Kd.R_slice HO702.out; subst eo37) | ((with_reducible refine gate_callee (f := 34) rfl ?_); refine goesL_ (some 53) rfl rfl Tryd.func34 (by kernel_rfl) rfl #[.slice Ao36 t695.length co36, .slice Ao37 t699.length co37] rfl (by (try simp only [List.map_toArray, List.map_cons, List.map_nil]); first | done | rfl | (simp only [List.length_drop, List.length_take]; rfl)) ?_; (with_reducible refine (pelicanref05_Ints.calls kj7 _ _ t695 _ _ t699 true _ ?side1 ?side2 ?side3 ?side4 A19.out).mono ?_); (case side1 => repeat (first | exact (Kd.R_reads' HO698.out).2.2 | (with_reducible refine Kd.C_alloc ?_ _) | (with_reducible refine Kd.C_drewN ?_ _) | (with_reducible refine Kd.C_drew ?_))); (case side2 => exact (Kd.R_reads' HO698.out).2.1); (case side3 => repeat (first | exact (Kd.R_reads' HO702.out).2.2 | (with_reducible refine Kd.C_alloc ?_ _) | (with_reducible refine Kd.C_drewN ?_ _) | (with_reducible refine Kd.C_drew ?_))); (case side4 => exact (Kd.R_reads' HO702.out).2.1); rintro e w' ⟨rfl, ⟨nd, rfl⟩⟩; refine ⟨_, rfl, ?_⟩))
                  (try (rw [drewN_self w35]; generalize hq_ : World.drewN w35 _ = w35; have n0_ : Aside0 (Kd.R (Kd.int .i64) 3 w35 w.heap.size (fun k_ => some k_ ≠ (.slice Ao37 t699.length co37 : Value).ownBlock) (.slice Ao36 t695.length co36) t695) := ⟨by rw [← hq_]; exact (by (with_reducible repeat (first | apply Kd.R_alloc | apply Kd.R_drewN | apply Kd.R_drew)); exact Kd.R_mono HO698.out (fun _ hk => hk.2))⟩; have n1_ : Aside0 (Kd.R (Kd.int .i64) 3 w35 w.heap.size (fun k_ => some k_ ≠ (.slice Ao36 t695.length co36 : Value).ownBlock) (.slice Ao37 t699.length co37) t699) := ⟨by rw [← hq_]; exact (by (with_reducible repeat (first | apply Kd.R_alloc | apply Kd.R_drewN | apply Kd.R_drew)); exact Kd.R_mono HO702.out (fun _ hk => hk.2))⟩; have n2_ : Aside0 (w35.heap[gb692]? = some (.cells #[.slice A0_0 l0_0.length c0_0, .slice A0_1 l0_1.length c0_1, .int .i64 a0_2, .int .i64 a0_3, .int .i64 a0_4] 39 (0, 0))) := ⟨by rw [← hq_]; exact (by (with_reducible repeat (first | refine blk_drewN ?_ _ | refine blk_drew ?_ | refine blk_alloc ?_ _)); exact BK692.out)⟩; have n3_ : Aside0 (Below w.heap.size w w35) := ⟨by rw [← hq_]; exact (by repeat (first | (with_reducible first | exact HB.out | apply below_alloc | apply pw_below_drewN | apply below_drew1 | refine below_set ?_ GE692.out) | exact HB.out))⟩; clear HO698 HO702 BK692 HB hq_; have HO698 := n0_; have HO702 := n1_; have BK692 := n2_; have HB := n3_; clear n0_ n1_ n2_ n3_))
                  have n0_ := Aside0.mk (Kd.R_drew HO698.out)
                  have n1_ := Aside0.mk (Kd.R_drew HO702.out)
                  have n2_ := Aside0.mk (blk_drew BK692.out)
                  have n3_ := Aside0.mk (below_drew1 HB.out)
                  clear HO698
                  clear HO702
                  clear BK692
                  clear HB
                  have HO698 := n0_
                  have HO702 := n1_
                  have BK692 := n2_
                  have HB := n3_
                  clear n0_ n1_ n2_ n3_
                  refine start_ (n := 10) (S := fun w' => w'.cell? ⟨gb692, 0, none⟩ = some (.slice A0_0 l0_0.length c0_0) ∧ w'.cell? ⟨gb692, 1, none⟩ = some (.slice A0_1 l0_1.length c0_1) ∧ w'.cell? ⟨gb692, 2, none⟩ = some (.int .i64 a0_2) ∧ w'.cell? ⟨gb692, 3, none⟩ = some (.int .i64 a0_3) ∧ w'.cell? ⟨gb692, 4, none⟩ = some (.int .i64 a0_4)) (ds := []) #[false, false, false, false, false, false, false, false, false, false] (by kernel_rfl) rfl rfl ⟨(blk_cell BK692.out 0).trans rfl, (blk_cell BK692.out 1).trans rfl, (blk_cell BK692.out 2).trans rfl, (blk_cell BK692.out 3).trans rfl, (blk_cell BK692.out 4).trans rfl⟩ (fun hHeld => ?_); refine with_tabW pelicanlaw15_LampTells.tab8 pelicanlaw15_LampTells.bits8 (fun HT_ HW_ => ?_)
                  generalize w35.drew = w38 at HO698 HO702 BK692 HB hHeld ⊢
                  refine pure_ (i := 1) (N := some 55) (v := ?_) (a' := ?_) #[false, true, false, false, false, false, false, false, false, false] rfl rfl (any_of HT_.out (by kernel_rfl)) (fun _ _ _ h => h) (Or.inl ⟨by rfl, ?_⟩) ?_ ?_
                  rotate_left
                  · intro w'
                    go_simp
                    with_reducible rfl
                  rotate_left
                  · simp only [Act.put, List.setIfInBounds_toArray, List.set_cons_zero, List.set_cons_succ, i64_w, i32_w]
                    rfl
                  refine pure_ (i := 2) (N := some 56) (v := ?_) (a' := ?_) #[false, true, true, false, false, false, false, false, false, false] rfl rfl (any_of HT_.out (by kernel_rfl)) (fun _ _ _ h => h) (Or.inl ⟨by rfl, ?_⟩) ?_ ?_
                  rotate_left
                  · intro w'
                    go_simp
                    with_reducible rfl
                  rotate_left
                  · simp only [Act.put, List.setIfInBounds_toArray, List.set_cons_zero, List.set_cons_succ, i64_w, i32_w]
                    rfl
                  refine pure_ (i := 5) (N := some 59) (v := ?_) (a' := ?_) #[false, true, true, false, false, true, false, false, false, false] rfl rfl (any_of HT_.out (by kernel_rfl)) (fun _ _ _ h => h) (Or.inl ⟨by rfl, ?_⟩) ?_ ?_
                  rotate_left
                  · intro w'
                    go_simp
                    with_reducible rfl
                  rotate_left
                  · simp only [Act.put, List.setIfInBounds_toArray, List.set_cons_zero, List.set_cons_succ, i64_w, i32_w]
                    rfl
                  refine pure_ (i := 6) (N := some 60) (v := ?_) (a' := ?_) #[false, true, true, false, false, true, true, false, false, false] rfl rfl (any_of HT_.out (by kernel_rfl)) (fun _ _ _ h => h) (Or.inl ⟨by rfl, ?_⟩) ?_ ?_
                  rotate_left
                  · intro w'
                    go_simp
                    with_reducible rfl
                  rotate_left
                  · simp only [Act.put, List.setIfInBounds_toArray, List.set_cons_zero, List.set_cons_succ, i64_w, i32_w]
                    rfl
                  refine take_ (i := 0) (N := some 54) (v := ?_) (a' := ?_) #[true, true, true, false, false, true, true, false, false, false] rfl rfl (take_ofW HT_.out HW_.out (by kernel_rfl)) (fun _ _ _ h => h) (Or.inl ⟨by rfl, ?_⟩) hHeld ?_ ?_
                  rotate_left
                  · rintro w' ⟨s0, s1, s2, s3, s4⟩
                    go_simp
                    with_reducible rfl
                  rotate_left
                  · simp only [Act.put, List.setIfInBounds_toArray, List.set_cons_zero, List.set_cons_succ, i64_w, i32_w]
                    rfl
                  refine take_ (i := 4) (N := some 58) (v := ?_) (a' := ?_) #[true, true, true, false, true, true, true, false, false, false] rfl rfl (take_ofW HT_.out HW_.out (by kernel_rfl)) (fun _ _ _ h => h) (Or.inl ⟨by rfl, ?_⟩) hHeld ?_ ?_
                  rotate_left
                  · rintro w' ⟨s0, s1, s2, s3, s4⟩
                    go_simp
                    with_reducible rfl
                  rotate_left
                  · simp only [Act.put, List.setIfInBounds_toArray, List.set_cons_zero, List.set_cons_succ, i64_w, i32_w]
                    rfl
                  refine one_ (i := 3) (N := some 57) #[true, true, true, true, true, true, true, false, false, false] rfl rfl (one_of HT_.out (by kernel_rfl)) (by decide) (fun K hK => ?_)
                  refine goes_ Tryd.func35 (by kernel_rfl) rfl #[.agg #[.slice A0_0 l0_0.length c0_0, .slice A0_1 l0_1.length c0_1, .int .i64 a0_2, .int .i64 a0_3, .int .i64 a0_4], .int .i64 a1, .int .i64 a2] (by rfl) rfl rfl (by (try simp only [List.map_toArray, List.map_cons, List.map_nil]); first | done | rfl | (simp only [List.length_drop, List.length_take]; rfl)) ?_
                  with_reducible refine (lamp_Show.calls _ _ l0_0 _ _ l0_1 a0_2 a0_3 a0_4 a1 a2 t704 _ ?side1 ?side2 ?side3 ?side4 ?side5 A20.out).mono ?_
                  (case side1 => repeat (first | exact (Kd.C_below HR0_0.out HB.out) | (with_reducible refine Kd.C_alloc ?_ _) | (with_reducible refine Kd.C_drewN ?_ _) | (with_reducible refine Kd.C_drew ?_)))
                  (case side2 => exact HC0_0.out)
                  (case side3 => repeat (first | exact (Kd.C_below HR0_1.out HB.out) | (with_reducible refine Kd.C_alloc ?_ _) | (with_reducible refine Kd.C_drewN ?_ _) | (with_reducible refine Kd.C_drew ?_)))
                  (case side4 => exact HC0_1.out)
                  (case side5 => first | (with_reducible exact HG.out) | (refine GlobOk.below HG.out ?_; repeat (first | (with_reducible first | exact HB.out | apply below_alloc | apply pw_below_drewN | apply below_drew1 | refine below_set ?_ GE692.out) | exact HB.out)))
                  rintro e w39 ⟨v705, rfl, ho0, hb⟩
                  refine ⟨_, rfl, ?_⟩
                  have n0_ := Aside0.mk (Kd.R_elder' (by (with_reducible repeat (first | apply Kd.R_alloc | apply Kd.R_drewN | apply Kd.R_drew)); exact HO698.out) (Kd.R_base ho0) hb)
                  have n1_ := Aside0.mk (Kd.R_elder' (by (with_reducible repeat (first | apply Kd.R_alloc | apply Kd.R_drewN | apply Kd.R_drew)); exact HO702.out) (Kd.R_base ho0) hb)
                  have n2_ := Aside0.mk (Kd.R_lower (Kd.R_new' (Kd.R_new' ho0 (Kd.R_lt (by (with_reducible repeat (first | apply Kd.R_alloc | apply Kd.R_drewN | apply Kd.R_drew)); exact HO698.out))) (Kd.R_lt (by (with_reducible repeat (first | apply Kd.R_alloc | apply Kd.R_drewN | apply Kd.R_drew)); exact HO702.out))) (below_size (by repeat (first | (with_reducible first | exact HB.out | apply below_alloc | apply pw_below_drewN | apply below_drew1 | refine below_set ?_ GE692.out) | exact HB.out))))
                  have n3_ := Aside0.mk (blk_below (g := gb692) (o := .cells #[.slice A0_0 l0_0.length c0_0, .slice A0_1 l0_1.length c0_1, .int .i64 a0_2, .int .i64 a0_3, .int .i64 a0_4] 39 (0, 0)) (by (with_reducible repeat (first | refine blk_drewN ?_ _ | refine blk_drew ?_ | refine blk_alloc ?_ _)); exact BK692.out) hb)
                  have n4_ := Aside0.mk (below_step (by repeat (first | (with_reducible first | exact HB.out | apply below_alloc | apply pw_below_drewN | apply below_drew1 | refine below_set ?_ GE692.out) | exact HB.out)) hb)
                  clear HO698
                  clear HO702
                  clear BK692
                  clear HB
                  have HO698 := n0_
                  have HO702 := n1_
                  have HO706 := n2_
                  have BK692 := n3_
                  have HB := n4_
                  clear n0_ n1_ n2_ n3_ n4_
                  (try clear hb)
                  (try clear hb2)
                  (try clear hk)
                  (try clear hi)
                  (try clear ho0)
                  refine hK.out _ _ ⟨(blk_cell BK692.out 0).trans rfl, (blk_cell BK692.out 1).trans rfl, (blk_cell BK692.out 2).trans rfl, (blk_cell BK692.out 3).trans rfl, (blk_cell BK692.out 4).trans rfl⟩ (fun hHeld => ?_)
                  clear hK K
                  refine norm_ (a' := ?_) ?_ ?_
                  rotate_left
                  · show Act.put _ (some 57) _ = _
                    simp only [Act.put, List.setIfInBounds_toArray, List.set_cons_zero, List.set_cons_succ, i64_w, i32_w]
                    rfl
                  refine one_ (i := 7) (N := some 61) #[true, true, true, true, true, true, true, true, false, false] rfl rfl (one_of HT_.out (by kernel_rfl)) (by decide) (fun K hK => ?_)
                  refine goes_ Tryd.func36 (by kernel_rfl) rfl #[.agg #[.slice A0_0 l0_0.length c0_0, .slice A0_1 l0_1.length c0_1, .int .i64 a0_2, .int .i64 a0_3, .int .i64 a0_4], .int .i64 a1, .int .i64 a2] (by rfl) rfl rfl (by (try simp only [List.map_toArray, List.map_cons, List.map_nil]); first | done | rfl | (simp only [List.length_drop, List.length_take]; rfl)) ?_
                  with_reducible refine (pelicanref15_Show.calls kj7 _ _ l0_0 _ _ l0_1 a0_2 a0_3 a0_4 a1 a2 t707 _ ?side1 ?side2 ?side3 ?side4 A21.out).mono ?_
                  (case side1 => repeat (first | exact (Kd.C_below HR0_0.out HB.out) | (with_reducible refine Kd.C_alloc ?_ _) | (with_reducible refine Kd.C_drewN ?_ _) | (with_reducible refine Kd.C_drew ?_)))
                  (case side2 => exact HC0_0.out)
                  (case side3 => repeat (first | exact (Kd.C_below HR0_1.out HB.out) | (with_reducible refine Kd.C_alloc ?_ _) | (with_reducible refine Kd.C_drewN ?_ _) | (with_reducible refine Kd.C_drew ?_)))
                  (case side4 => exact HC0_1.out)
                  rintro e w40 ⟨v708, rfl, ho0, hb⟩
                  refine ⟨_, rfl, ?_⟩
                  have n0_ := Aside0.mk (Kd.R_elder' (by (with_reducible repeat (first | apply Kd.R_alloc | apply Kd.R_drewN | apply Kd.R_drew)); exact HO698.out) (Kd.R_base ho0) hb)
                  have n1_ := Aside0.mk (Kd.R_elder' (by (with_reducible repeat (first | apply Kd.R_alloc | apply Kd.R_drewN | apply Kd.R_drew)); exact HO702.out) (Kd.R_base ho0) hb)
                  have n2_ := Aside0.mk (Kd.R_elder' (by (with_reducible repeat (first | apply Kd.R_alloc | apply Kd.R_drewN | apply Kd.R_drew)); exact HO706.out) (Kd.R_base ho0) hb)
                  have n3_ := Aside0.mk (Kd.R_lower (Kd.R_new' (Kd.R_new' (Kd.R_new' ho0 (Kd.R_lt (by (with_reducible repeat (first | apply Kd.R_alloc | apply Kd.R_drewN | apply Kd.R_drew)); exact HO698.out))) (Kd.R_lt (by (with_reducible repeat (first | apply Kd.R_alloc | apply Kd.R_drewN | apply Kd.R_drew)); exact HO702.out))) (Kd.R_lt (by (with_reducible repeat (first | apply Kd.R_alloc | apply Kd.R_drewN | apply Kd.R_drew)); exact HO706.out))) (below_size (by repeat (first | (with_reducible first | exact HB.out | apply below_alloc | apply pw_below_drewN | apply below_drew1 | refine below_set ?_ GE692.out) | exact HB.out))))
                  have n4_ := Aside0.mk (blk_below (g := gb692) (o := .cells #[.slice A0_0 l0_0.length c0_0, .slice A0_1 l0_1.length c0_1, .int .i64 a0_2, .int .i64 a0_3, .int .i64 a0_4] 39 (0, 0)) (by (with_reducible repeat (first | refine blk_drewN ?_ _ | refine blk_drew ?_ | refine blk_alloc ?_ _)); exact BK692.out) hb)
                  have n5_ := Aside0.mk (below_step (by repeat (first | (with_reducible first | exact HB.out | apply below_alloc | apply pw_below_drewN | apply below_drew1 | refine below_set ?_ GE692.out) | exact HB.out)) hb)
                  clear HO698
                  clear HO702
                  clear HO706
                  clear BK692
                  clear HB
                  have HO698 := n0_
                  have HO702 := n1_
                  have HO706 := n2_
                  have HO709 := n3_
                  have BK692 := n4_
                  have HB := n5_
                  clear n0_ n1_ n2_ n3_ n4_ n5_
                  (try clear hb)
                  (try clear hb2)
                  (try clear hk)
                  (try clear hi)
                  (try clear ho0)
                  obtain ⟨Ao41, co41, eo41⟩ := Kd.R_slice HO706.out
                  (first | subst eo41 | (injection eo41 with f1_ f2_ f3_; have f4_ := f1_.symm; have f5_ := f3_.symm; clear f1_ f2_ f3_; subst f4_; subst f5_))
                  obtain ⟨Ao42, co42, eo42⟩ := Kd.R_slice HO709.out
                  (first | subst eo42 | (injection eo42 with f1_ f2_ f3_; have f4_ := f1_.symm; have f5_ := f3_.symm; clear f1_ f2_ f3_; subst f4_; subst f5_))
                  refine hK.out _ _ ⟨(blk_cell BK692.out 0).trans rfl, (blk_cell BK692.out 1).trans rfl, (blk_cell BK692.out 2).trans rfl, (blk_cell BK692.out 3).trans rfl, (blk_cell BK692.out 4).trans rfl⟩ (fun hHeld => ?_)
                  clear hK K
                  refine norm_ (a' := ?_) ?_ ?_
                  rotate_left
                  · show Act.put _ (some 61) _ = _
                    simp only [Act.put, List.setIfInBounds_toArray, List.set_cons_zero, List.set_cons_succ, i64_w, i32_w]
                    rfl
                  refine one_ (i := 8) (N := some 62) #[true, true, true, true, true, true, true, true, true, false] rfl rfl (one_of HT_.out (by kernel_rfl)) (by decide) (fun K hK => ?_)
                  refine goes_ Tryd.func34 (by kernel_rfl) rfl #[.slice Ao41 t704.length co41, .slice Ao42 t707.length co42] (by rfl) rfl rfl (by (try simp only [List.map_toArray, List.map_cons, List.map_nil]); first | done | rfl | (simp only [List.length_drop, List.length_take]; rfl)) ?_
                  with_reducible refine (pelicanref05_Ints.calls kj7 _ _ t704 _ _ t707 true _ ?side1 ?side2 ?side3 ?side4 A22.out).mono ?_
                  (case side1 => repeat (first | exact (Kd.R_reads' HO706.out).2.2 | (with_reducible refine Kd.C_alloc ?_ _) | (with_reducible refine Kd.C_drewN ?_ _) | (with_reducible refine Kd.C_drew ?_)))
                  (case side2 => exact (Kd.R_reads' HO706.out).2.1)
                  (case side3 => repeat (first | exact (Kd.R_reads' HO709.out).2.2 | (with_reducible refine Kd.C_alloc ?_ _) | (with_reducible refine Kd.C_drewN ?_ _) | (with_reducible refine Kd.C_drew ?_)))
                  (case side4 => exact (Kd.R_reads' HO709.out).2.1)
                  rintro e w' ⟨rfl, ⟨nd, rfl⟩⟩
                  refine ⟨_, rfl, ?_⟩
                  refine hK.out _ _ ⟨(blk_cell BK692.out 0).trans rfl, (blk_cell BK692.out 1).trans rfl, (blk_cell BK692.out 2).trans rfl, (blk_cell BK692.out 3).trans rfl, (blk_cell BK692.out 4).trans rfl⟩ (fun hHeld => ?_)
                  clear hK K
                  refine norm_ (a' := ?_) ?_ ?_
                  rotate_left
                  · show Act.put _ (some 62) _ = _
                    simp only [Act.put, List.setIfInBounds_toArray, List.set_cons_zero, List.set_cons_succ, i64_w, i32_w]
                    rfl
                  refine pure_ (i := 9) (N := some 18) (v := ?_) (a' := ?_) #[true, true, true, true, true, true, true, true, true, true] rfl rfl (any_of HT_.out (by kernel_rfl)) (fun _ _ _ h => h) (Or.inl ⟨by rfl, ?_⟩) ?_ ?_
                  rotate_left
                  · intro w'
                    go_simp
                    with_reducible rfl
                  rotate_left
                  · simp only [Act.put, List.setIfInBounds_toArray, List.set_cons_zero, List.set_cons_succ, i64_w, i32_w]
                    rfl
                  refine done_ (done_of HT_.out (by kernel_rfl)) ?_
                  try go_wp2_with (first | ((with_reducible refine gate_callee (f := 37) rfl ?_); refine goesL_ (some 64) rfl rfl Tryd.func37 (by kernel_rfl) rfl #[.slice A3 l3.length c3] rfl (by (try simp only [List.map_toArray, List.map_cons, List.map_nil]); first | done | rfl | (simp only [List.length_drop, List.length_take]; rfl)) ?_; (with_reducible refine (pelicanref15_May.calls kj7 _ _ l3 t711 _ ?side1 ?side2 A23.out).mono ?_); (case side1 => repeat (first | exact (Kd.C_below HR3.out (by repeat (first | (with_reducible first | exact HB.out | apply below_alloc | apply pw_below_drewN | apply below_drew1 | refine below_set ?_ GE692.out) | exact HB.out))) | (with_reducible refine Kd.C_alloc ?_ _) | (with_reducible refine Kd.C_drewN ?_ _) | (with_reducible refine Kd.C_drew ?_))); (case side2 => exact HC3.out); rintro e w' ⟨rfl, ⟨nd, rfl⟩⟩; refine ⟨_, rfl, ?_⟩; have hcz43_0 : w40.cell? ⟨gb692, 0, none⟩ = some (.slice A0_0 l0_0.length c0_0) := (blk_cell BK692.out 0).trans rfl; have hcz43_1 : w40.cell? ⟨gb692, 1, none⟩ = some (.slice A0_1 l0_1.length c0_1) := (blk_cell BK692.out 1).trans rfl; have hcz43_2 : w40.cell? ⟨gb692, 2, none⟩ = some (.int .i64 a0_2) := (blk_cell BK692.out 2).trans rfl; have hcz43_3 : w40.cell? ⟨gb692, 3, none⟩ = some (.int .i64 a0_3) := (blk_cell BK692.out 3).trans rfl; have hcz43_4 : w40.cell? ⟨gb692, 4, none⟩ = some (.int .i64 a0_4) := (blk_cell BK692.out 4).trans rfl; have hfz43_0 := blk_frozen BK692.out 0; have hfz43_1 := blk_frozen BK692.out 1; have hfz43_2 := blk_frozen BK692.out 2; have hfz43_3 := blk_frozen BK692.out 3; have hfz43_4 := blk_frozen BK692.out 4) | ((with_reducible refine gate_callee (f := 38) rfl ?_); refine goesL_ (some 67) rfl rfl Tryd.func38 (by kernel_rfl) rfl #[.agg #[.slice A0_0 l0_0.length c0_0, .slice A0_1 l0_1.length c0_1, .int .i64 a0_2, .int .i64 a0_3, .int .i64 a0_4], .slice A3 l3.length c3] rfl (by (try simp only [List.map_toArray, List.map_cons, List.map_nil]); first | done | rfl | (simp only [List.length_drop, List.length_take]; rfl)) ?_; (with_reducible refine (pelicanref15_Clash.calls kj7 _ _ l0_0 _ _ l0_1 a0_2 a0_3 a0_4 _ _ l3 t712 _ ?side1 ?side2 ?side3 ?side4 ?side5 ?side6 A24.out).mono ?_); (case side1 => repeat (first | exact (Kd.C_below HR0_0.out (by repeat (first | (with_reducible first | exact HB.out | apply below_alloc | apply pw_below_drewN | apply below_drew1 | refine below_set ?_ GE692.out) | exact HB.out))) | (with_reducible refine Kd.C_alloc ?_ _) | (with_reducible refine Kd.C_drewN ?_ _) | (with_reducible refine Kd.C_drew ?_))); (case side2 => exact HC0_0.out); (case side3 => repeat (first | exact (Kd.C_below HR0_1.out (by repeat (first | (with_reducible first | exact HB.out | apply below_alloc | apply pw_below_drewN | apply below_drew1 | refine below_set ?_ GE692.out) | exact HB.out))) | (with_reducible refine Kd.C_alloc ?_ _) | (with_reducible refine Kd.C_drewN ?_ _) | (with_reducible refine Kd.C_drew ?_))); (case side4 => exact HC0_1.out); (case side5 => repeat (first | exact (Kd.C_below HR3.out (by repeat (first | (with_reducible first | exact HB.out | apply below_alloc | apply pw_below_drewN | apply below_drew1 | refine below_set ?_ GE692.out) | exact HB.out))) | (with_reducible refine Kd.C_alloc ?_ _) | (with_reducible refine Kd.C_drewN ?_ _) | (with_reducible refine Kd.C_drew ?_))); (case side6 => exact HC3.out); rintro e w44 ⟨rfl, hb⟩; refine ⟨_, rfl, ?_⟩; have n0_ := Aside0.mk (Kd.R_below (by (with_reducible repeat (first | apply Kd.R_alloc | apply Kd.R_drewN | apply Kd.R_drew)); exact HO698.out) hb); have n1_ := Aside0.mk (Kd.R_below (by (with_reducible repeat (first | apply Kd.R_alloc | apply Kd.R_drewN | apply Kd.R_drew)); exact HO702.out) hb); have n2_ := Aside0.mk (Kd.R_below (by (with_reducible repeat (first | apply Kd.R_alloc | apply Kd.R_drewN | apply Kd.R_drew)); exact HO706.out) hb); have n3_ := Aside0.mk (Kd.R_below (by (with_reducible repeat (first | apply Kd.R_alloc | apply Kd.R_drewN | apply Kd.R_drew)); exact HO709.out) hb); have n4_ := Aside0.mk (blk_below (g := gb692) (o := .cells #[.slice A0_0 l0_0.length c0_0, .slice A0_1 l0_1.length c0_1, .int .i64 a0_2, .int .i64 a0_3, .int .i64 a0_4] 39 (0, 0)) (by (with_reducible repeat (first | refine blk_drewN ?_ _ | refine blk_drew ?_ | refine blk_alloc ?_ _)); exact BK692.out) hb); have n5_ := Aside0.mk (below_step (by repeat (first | (with_reducible first | exact HB.out | apply below_alloc | apply pw_below_drewN | apply below_drew1 | refine below_set ?_ GE692.out) | exact HB.out)) hb); clear HO698; clear HO702; clear HO706; clear HO709; clear BK692; clear HB; have HO698 := n0_; have HO702 := n1_; have HO706 := n2_; have HO709 := n3_; have BK692 := n4_; have HB := n5_; clear n0_ n1_ n2_ n3_ n4_ n5_; (try clear hb); (try clear hb2); (try clear hk); (try clear hi)) | (go_at_call 28; (with_reducible refine (lamp_May.calls _ _ l3 t713 _ ?side1 ?side2 A28.out).mono ?_); (case side1 => repeat (first | exact (Kd.C_below HR3.out HB.out) | (with_reducible refine Kd.C_alloc ?_ _) | (with_reducible refine Kd.C_drewN ?_ _) | (with_reducible refine Kd.C_drew ?_))); (case side2 => exact HC3.out); rintro e w45 ⟨rfl, hb⟩; have n0_ := Aside0.mk (Kd.R_below (by (with_reducible repeat (first | apply Kd.R_alloc | apply Kd.R_drewN | apply Kd.R_drew)); exact HO698.out) hb); have n1_ := Aside0.mk (Kd.R_below (by (with_reducible repeat (first | apply Kd.R_alloc | apply Kd.R_drewN | apply Kd.R_drew)); exact HO702.out) hb); have n2_ := Aside0.mk (Kd.R_below (by (with_reducible repeat (first | apply Kd.R_alloc | apply Kd.R_drewN | apply Kd.R_drew)); exact HO706.out) hb); have n3_ := Aside0.mk (Kd.R_below (by (with_reducible repeat (first | apply Kd.R_alloc | apply Kd.R_drewN | apply Kd.R_drew)); exact HO709.out) hb); have n4_ := Aside0.mk (blk_below (g := gb692) (o := .cells #[.slice A0_0 l0_0.length c0_0, .slice A0_1 l0_1.length c0_1, .int .i64 a0_2, .int .i64 a0_3, .int .i64 a0_4] 39 (0, 0)) (by (with_reducible repeat (first | refine blk_drewN ?_ _ | refine blk_drew ?_ | refine blk_alloc ?_ _)); exact BK692.out) hb); have n5_ := Aside0.mk (below_step (by repeat (first | (with_reducible first | exact HB.out | apply below_alloc | apply pw_below_drewN | apply below_drew1 | refine below_set ?_ GE692.out) | exact HB.out)) hb); clear HO698; clear HO702; clear HO706; clear HO709; clear BK692; clear HB; have HO698 := n0_; have HO702 := n1_; have HO706 := n2_; have HO709 := n3_; have BK692 := n4_; have HB := n5_; clear n0_ n1_ n2_ n3_ n4_ n5_; (try clear hb); (try clear hb2); (try clear hk); (try clear hi)) | (go_at_call 39; (with_reducible refine (lamp_Text.calls _ _ l3 t714 _ ?side1 ?side2 A30.out).mono ?_); (case side1 => repeat (first | exact (Kd.C_below HR3.out HB.out) | (with_reducible refine Kd.C_alloc ?_ _) | (with_reducible refine Kd.C_drewN ?_ _) | (with_reducible refine Kd.C_drew ?_))); (case side2 => exact HC3.out); rintro e w46 ⟨rfl, hb⟩; have n0_ := Aside0.mk (Kd.R_below (by (with_reducible repeat (first | apply Kd.R_alloc | apply Kd.R_drewN | apply Kd.R_drew)); exact HO698.out) hb); have n1_ := Aside0.mk (Kd.R_below (by (with_reducible repeat (first | apply Kd.R_alloc | apply Kd.R_drewN | apply Kd.R_drew)); exact HO702.out) hb); have n2_ := Aside0.mk (Kd.R_below (by (with_reducible repeat (first | apply Kd.R_alloc | apply Kd.R_drewN | apply Kd.R_drew)); exact HO706.out) hb); have n3_ := Aside0.mk (Kd.R_below (by (with_reducible repeat (first | apply Kd.R_alloc | apply Kd.R_drewN | apply Kd.R_drew)); exact HO709.out) hb); have n4_ := Aside0.mk (blk_below (g := gb692) (o := .cells #[.slice A0_0 l0_0.length c0_0, .slice A0_1 l0_1.length c0_1, .int .i64 a0_2, .int .i64 a0_3, .int .i64 a0_4] 39 (0, 0)) (by (with_reducible repeat (first | refine blk_drewN ?_ _ | refine blk_drew ?_ | refine blk_alloc ?_ _)); exact BK692.out) hb); have n5_ := Aside0.mk (below_step (by repeat (first | (with_reducible first | exact HB.out | apply below_alloc | apply pw_below_drewN | apply below_drew1 | refine below_set ?_ GE692.out) | exact HB.out)) hb); clear HO698; clear HO702; clear HO706; clear HO709; clear BK692; clear HB; have HO698 := n0_; have HO702 := n1_; have HO706 := n2_; have HO709 := n3_; have BK692 := n4_; have HB := n5_; clear n0_ n1_ n2_ n3_ n4_ n5_; (try clear hb); (try clear hb2); (try clear hk); (try clear hi)) | (go_at_call 40; (with_reducible refine (pelicanref15_Text.calls kj7 _ _ l3 t715 _ ?side1 ?side2 A31.out).mono ?_); (case side1 => repeat (first | exact (Kd.C_below HR3.out HB.out) | (with_reducible refine Kd.C_alloc ?_ _) | (with_reducible refine Kd.C_drewN ?_ _) | (with_reducible refine Kd.C_drew ?_))); (case side2 => exact HC3.out); rintro e w' ⟨rfl, ⟨nd, rfl⟩⟩; have hcz47_0 : w46.cell? ⟨gb692, 0, none⟩ = some (.slice A0_0 l0_0.length c0_0) := (blk_cell BK692.out 0).trans rfl; have hcz47_1 : w46.cell? ⟨gb692, 1, none⟩ = some (.slice A0_1 l0_1.length c0_1) := (blk_cell BK692.out 1).trans rfl; have hcz47_2 : w46.cell? ⟨gb692, 2, none⟩ = some (.int .i64 a0_2) := (blk_cell BK692.out 2).trans rfl; have hcz47_3 : w46.cell? ⟨gb692, 3, none⟩ = some (.int .i64 a0_3) := (blk_cell BK692.out 3).trans rfl; have hcz47_4 : w46.cell? ⟨gb692, 4, none⟩ = some (.int .i64 a0_4) := (blk_cell BK692.out 4).trans rfl; have hfz47_0 := blk_frozen BK692.out 0; have hfz47_1 := blk_frozen BK692.out 1; have hfz47_2 := blk_frozen BK692.out 2; have hfz47_3 := blk_frozen BK692.out 3; have hfz47_4 := blk_frozen BK692.out 4) | (go_at_call 29; (with_reducible refine (lamp_Clash.calls kj7 _ _ l0_0 _ _ l0_1 a0_2 a0_3 a0_4 _ _ l3 t716 _ ?side1 ?side2 ?side3 ?side4 ?side5 ?side6 ?side7 A33.out).mono ?_); (case side1 => repeat (first | exact (Kd.C_below HR0_0.out (by repeat (first | (with_reducible first | exact HB.out | apply below_alloc | apply pw_below_drewN | apply below_drew1 | refine below_set ?_ GE692.out) | exact HB.out))) | (with_reducible refine Kd.C_alloc ?_ _) | (with_reducible refine Kd.C_drewN ?_ _) | (with_reducible refine Kd.C_drew ?_))); (case side2 => exact HC0_0.out); (case side3 => repeat (first | exact (Kd.C_below HR0_1.out (by repeat (first | (with_reducible first | exact HB.out | apply below_alloc | apply pw_below_drewN | apply below_drew1 | refine below_set ?_ GE692.out) | exact HB.out))) | (with_reducible refine Kd.C_alloc ?_ _) | (with_reducible refine Kd.C_drewN ?_ _) | (with_reducible refine Kd.C_drew ?_))); (case side4 => exact HC0_1.out); (case side5 => repeat (first | exact (Kd.C_below HR3.out (by repeat (first | (with_reducible first | exact HB.out | apply below_alloc | apply pw_below_drewN | apply below_drew1 | refine below_set ?_ GE692.out) | exact HB.out))) | (with_reducible refine Kd.C_alloc ?_ _) | (with_reducible refine Kd.C_drewN ?_ _) | (with_reducible refine Kd.C_drew ?_))); (case side6 => exact HC3.out); (case side7 => first | (with_reducible exact HG.out) | (refine GlobOk.below HG.out ?_; repeat (first | (with_reducible first | exact HB.out | apply below_alloc | apply pw_below_drewN | apply below_drew1 | refine below_set ?_ GE692.out) | exact HB.out))); rintro e w48 ⟨rfl, hb⟩; have n0_ := Aside0.mk (Kd.R_below (by (with_reducible repeat (first | apply Kd.R_alloc | apply Kd.R_drewN | apply Kd.R_drew)); exact HO698.out) hb); have n1_ := Aside0.mk (Kd.R_below (by (with_reducible repeat (first | apply Kd.R_alloc | apply Kd.R_drewN | apply Kd.R_drew)); exact HO702.out) hb); have n2_ := Aside0.mk (Kd.R_below (by (with_reducible repeat (first | apply Kd.R_alloc | apply Kd.R_drewN | apply Kd.R_drew)); exact HO706.out) hb); have n3_ := Aside0.mk (Kd.R_below (by (with_reducible repeat (first | apply Kd.R_alloc | apply Kd.R_drewN | apply Kd.R_drew)); exact HO709.out) hb); have n4_ := Aside0.mk (blk_below (g := gb692) (o := .cells #[.slice A0_0 l0_0.length c0_0, .slice A0_1 l0_1.length c0_1, .int .i64 a0_2, .int .i64 a0_3, .int .i64 a0_4] 39 (0, 0)) (by (with_reducible repeat (first | refine blk_drewN ?_ _ | refine blk_drew ?_ | refine blk_alloc ?_ _)); exact BK692.out) hb); have n5_ := Aside0.mk (below_step (by repeat (first | (with_reducible first | exact HB.out | apply below_alloc | apply pw_below_drewN | apply below_drew1 | refine below_set ?_ GE692.out) | exact HB.out)) hb); clear HO698; clear HO702; clear HO706; clear HO709; clear BK692; clear HB; have HO698 := n0_; have HO702 := n1_; have HO706 := n2_; have HO709 := n3_; have BK692 := n4_; have HB := n5_; clear n0_ n1_ n2_ n3_ n4_ n5_; (try clear hb); (try clear hb2); (try clear hk); (try clear hi)))
                  go_ret
                  exact ⟨by first | rfl | (simp [errW_none, errW_some] <;> rfl) | (simp [*, errW_none, errW_some] <;> rfl), by repeat (first | (with_reducible first | exact HB.out | apply below_alloc | apply pw_below_drewN | apply below_drew1 | refine below_set ?_ GE692.out) | exact HB.out)⟩
                · rw [if_neg c32] at H
                  have c32b0 : (t714.toList == t715.toList) = false := beq_eq_false_iff_ne.mpr c32
                  have c32b1 : (t714.toList != t715.toList) = true := bne_iff_ne.mpr c32
                  exact absurd (Option.some.inj H) (by rw [HRR.out]; decide)
              · rw [if_neg c29] at H
                have c29b0 : (t713 == t711) = false := by simpa using c29
                (try (have c29b1 : decide (t713 = t711) = false := by simpa using c29))
                (try (have c29b2 : (t713 == t711) = false := by simpa using c29))
                (try (have c29b3 : ¬ (t713 = t711) := by simpa using c29))
                clear c29
                exact absurd (Option.some.inj H) (by rw [HRR.out]; decide)
            · replace c27 := Bool.eq_false_iff.mpr c27
              subst c27
              have H1 : (some false) = some r := by rw [if_neg (show ¬ (false = true) by decide)] at H; exact H
              clear H
              have H := H1
              clear H1
              exact absurd (Option.some.inj H) (by rw [HRR.out]; decide)
          · rw [if_neg c26] at H
            have c26b0 : (t696 == t700) = false := by simpa using c26
            (try (have c26b1 : decide (t696 = t700) = false := by simpa using c26))
            (try (have c26b2 : (t696 == t700) = false := by simpa using c26))
            (try (have c26b3 : ¬ (t696 = t700) := by simpa using c26))
            clear c26
            exact absurd (Option.some.inj H) (by rw [HRR.out]; decide)
        · replace c25 := Bool.eq_false_iff.mpr c25
          subst c25
          have H1 : (some false) = some r := by rw [if_neg (show ¬ (false = true) by decide)] at H; exact H
          clear H
          have H := H1
          clear H1
          exact absurd (Option.some.inj H) (by rw [HRR.out]; decide)

end Go.Proofs.YtechgjbhgeddjaaDoor.F
